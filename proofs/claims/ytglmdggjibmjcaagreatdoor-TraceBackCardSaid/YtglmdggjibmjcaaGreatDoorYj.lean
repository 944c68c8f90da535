/-
  A SCRIPT's COMMANDS, the whole: the script's Parse in abstract memory.
-/
import Derived.Test.YtglmdggjibmjcaaGreatDoorYi
noncomputable section
set_option linter.all false
set_option maxRecDepth 100000
open Nat (ble beq)
namespace Go.Ev.Pa
open Go F Go.Proofs
section
def br:List Value:=[.int .i64 (.ofNat 0),.int .u8 (.ofNat 0),.string (ByteArray.mk #[]),.slice none 0 0,.int .i64 (.ofNat 0),.int .i64 (.ofNat 0),.int .i64 (.ofNat 0),.int .u8 (.ofNat 0),.slice none 0 0]
def qy:cellsOfV (.agg (@List.toArray Value [.int .i64 (.ofNat 0),.int .u8 (.ofNat 0),.string (ByteArray.mk #[]),.slice none 0 0,.int .i64 (.ofNat 0),.int .i64 (.ofNat 0),.int .i64 (.ofNat 0),.int .u8 (.ofNat 0),.slice none 0 0]))=br:=rfl
structure CE (E:Env) (ty:TypeId):Prop extends US E where
 u24:E.und 25=some (.int .i64)
 u30:E.und 37=some (.slice 9)
 z9:E.size 9=some 1
 load:∀(h:H) (b:Nat) (op ro:Bool) (fz:Nat) (cells:T Value),hget h b=.row ty 9 op ro fz cells->bD E h ty ⟨b,0,none⟩=some (.agg ⟨ae cells 9 0⟩)
 build:∀(a:Int) (c:Nat),cI E ty [(0,.int .i64 a),(1,.int .u8 (.ofNat c))]=some (.agg ⟨[.int .i64 a,.int .u8 (.ofNat c),.string (ByteArray.mk #[]),.slice none 0 0,.int .i64 (.ofNat 0),.int .i64 (.ofNat 0),.int .i64 (.ofNat 0),.int .u8 (.ofNat 0),.slice none 0 0]⟩)
def min_i64 (E:Env) (h:H) (a b:Nat):bF E h .min [.int .i64 (.ofNat a),.int .i64 (.ofNat b)] [3,3]=some (.int .i64 (.ofNat (min a b))):=by
 show some (Value.int .i64 (if (Int.ofNat b)<(Int.ofNat a) then (Int.ofNat b) else (Int.ofNat a)))=_
 congr 2
 by_cases q:b<a
 ·rw[if_pos (by exact Int.ofNat_lt.2 q),Nat.min_eq_right (by omega)]
 ·rw[if_neg (by intro hh;exact q (Int.ofNat_lt.1 hh)),Nat.min_eq_left (by omega)]
def nk {h:H} {x:bV} {on tx:Value} (s1:SO h on x.on) (s2:SO h tx x.texts):(cmdL x on tx).all cell1F=true:=by have h1:=s1.cell1;have h2:=s2.cell1;unfold cmdL;simp only[JZ,List.all_nil,h1,h2];rfl
def Dy {x:bV} {s:Sg} {w:Bs} {e:Nat} (h:eE x s w=.error e):e≠0:=by unfold eE at h;split at h <;> (try split at h) <;> (try split at h) <;> first | (cases h;done) | (cases h;first | omega | assumption | simp)
def Ec {x y:bV} {s:Sg} {w:Bs} (h:eE x s w=.ok y):y.on.length<=x.on.length+1/\y.texts.length<=x.texts.length+1:=by unfold eE at h;split at h <;> (try split at h) <;> (try split at h) <;> first | (cases h;done) | (cases h;simp)
def uO (rc:RC) (Q:H->Prop):Prop:=∀(B b:Nat) (h:H) (x:bV) (w:Bs) (c:UInt8) (k:Value->H->R) (X:R),CR 39 B h b x->Q h->h.next<=800000000->w.length<=100000->x.on.length<=8500->x.texts.length<=8500 ->
 rc 50 [.pointer (some ⟨b,0,none⟩),cF c,ak w] h k=X->fC B h b k X (eE x (zZ c) w)
variable {E : Env} (u : CE E 39) {rc : RC} {hS : H}
include u
theorem T7 {h:H} {eb:Nat} {cellsE:T Value} (he:hget h eb=.row 39 9 false false 0 cellsE) (m:Nat) (k:Value->H->R):
  (onRow (hget h eb) λa6 a7 a8 a9 b0 b1=>ifB (notB a9) (ifB (beq (lenF br) 9) (ifB (ble b0 0) (ifB (ble 9 a7) (ifB (ble a7 1000000000) (ifB (allF (λb2=>cell1F b2) br) (letH (hset h eb (.row a6 a7 a8 false b0 (putF b1 0 br)))
   λb2=>bindO (bD E b2 39 (Addr.mk eb 0 none)) λb3=>ifB (nT [b3,.int .i64 (.ofNat m)]) (k (.tuple ⟨[b3,.int .i64 (.ofNat m)]⟩) b2))))))))=k (.tuple ⟨[.agg ⟨br⟩,.int .i64 (.ofNat m)]⟩) (hset h eb (.row 39 9 false false 0 (putF cellsE 0 br))) \/ 1000000000<eb:=by
 by_cases hb:1000000000<eb
 ·exact .inr hb
 refine .inl ?_;rw[xt he rfl rfl];rw[u.load _ eb false false 0 _ (bj _ _ _ (by omega)),aK,iA _ rfl];rfl
theorem alj (hT:uO rc (bu hS)) {hd:H} {D B0 eb cb:Nat} (hD:D=hd.next) (hB:hS.next<=B0) (hB2:B0<=D) {v:Value} {l:List Bs} (o:WL hd v l) (hs:small l) (hln:l.length<=8000) {cellsE:T Value} (he0:B0<=eb) (he1:eb<D) (he:hget hd eb=.row 39 9 false false 0 cellsE)
  {cellsC:T Value} {opC roC:Bool} {fzC:Nat} {r:Bs} (hc1:cb<D) (hcq:hget hd cb=.row 93 2 opC roC fzC cellsC) (hcr:getF cellsC 1=ak r) (hr:l ≠ []->1<=r.length/\r.length<=4) {f:Form} (hsg:∀i,i<l.length->zZ (r.getD (min i (r.length-1)) 0)=f.rest.getD i .t)
  (cH:H) (hcH:cH.1=cb) (dH:H) (hdH:dH.1=D) (eH:H) (heH:eH.1=eb) (k:Value->H->R) (K:aa [5]->H->R) (X:R):∀(d i N:Nat) (x:bV) (z:Value) (h:H),i+d=l.length->d<N->CR 39 D h D x->bu hS h->(∀id,id<D->hget h id=hget hd id)->h.next+4*d<=790000000 ->
  x.on.length<=i->x.texts.length<=i ->
  loopF (ks:=[5,40]) (xQ E (.int .i64 (.ofNat l.length)) v cH rc dH eH k K) N (z,(.int .i64 (.ofNat i),())) h=X ->
  match dz f x i (l.drop i) with
  |.ok y=>∃h',dj D h h' (4*d)/\X=K (z,()) h'/\CR 39 D h' D y
  |.error er=>er≠0/\∃h',dj B0 h h' (4*d)/\X=k (.tuple ⟨[.agg ⟨br⟩,.int .i64 (.ofNat er)]⟩) h':=by
 have u3:=u.u3;intro d
 induction d with
 | zero=>
  intro i N x z h hi hN cr hq hfr hn h1 h2 e;obtain⟨N,rfl⟩:∃M,N=M+1:=⟨N-1,by omega⟩;obtain rfl:i=l.length:=by omega
  rw[aT] at e;unfold xQ at e;dsimp only at e;rw[fj u3 (Jd _),ah] at e;rw[List.drop_length];exact⟨h,dj.refl _ _ _,e.symm,cr⟩
 | succ d ih=>
  intro i N x z h hi hN cr hq hfr hn h1 h2 e;obtain⟨N,rfl⟩:∃M,N=M+1:=⟨N-1,by omega⟩;have hlt:i<l.length:=by omega
  rw[aT] at e;generalize hLp:loopF (ks:=[5,40]) (xQ E (.int .i64 (.ofNat l.length)) v cH rc dH eH k K) N=LP at e;cases o with
  | nil=>exact absurd hlt (Jy _)
  | row hb hq9 hm hcap hc=>
   rename_i bk of m cap fz op ro cells;have hlne:l ≠ []:=λee=>by rw[ee] at hlt;exact absurd hlt (Jy _)
   obtain⟨r1,r2⟩:=hr hlne;have hq9':hget h bk=.row 9 m op ro fz cells:=(hfr _ (by omega)).trans hq9;have hqr:∀KK,onRow (hget h bk) KK=KK 9 m op ro fz cells:=λKK=>by rw[hq9'];rfl
   have hcq':hget h cb=.row 93 2 opC roC fzC cellsC:=(hfr _ hc1).trans hcq;have hqc:∀KK,onRow (hget h cb) KK=KK 93 2 opC roC fzC cellsC:=λKK=>by rw[hcq'];rfl
   have hci:=hc i hlt;have hgi:(r[min i (r.length-1)]?)=some (r.getD (min i (r.length-1)) 0):=by rw[Jc,Jn (by omega)];rfl
   have hlen:∀KK,bindO (aX E h 9 (ak r)) KK=KK (.int .i64 (.ofNat r.length)):=λKK=>by unfold ak;rw[js u.toUS];rfl
   have hix:∀KK,bindO (dA E 9 (ak r) (.int .i64 (.ofNat (min i (r.length-1))))) KK=KK (cF (r.getD (min i (r.length-1)) 0)):=λKK=>by unfold ak;rw[tg u.toUS (kd:=.i64) hgi];rfl
   unfold xQ at e;dsimp only at e;rw[gt u3 hlt,ah,aA] at e;dsimp only at e;rw[ah,bC,bp,aj (show i+1<=l.length by omega),bw,au] at e;dsimp only at e
   rw[hqr,aj (show of+i.mul 1+1<=m by show of+i*1+1<=m;omega),hcH,hqc,aP (c:=ble 2 2) rfl,hqc,aP (c:=ble 2 2) rfl,hcr,hlen,gK u3 r1 (by omega),min_i64,aK,hix,hdH,
    show of+i.mul 1=of+i by show of+i*1=_;omega,hci] at e
   have hwl:(l[i]'hlt).length<=100000:=hs _ (J6 hlt);have hend:=hT D D h x (l[i]'hlt) (r.getD (min i (r.length-1)) 0) _ _ cr hq (by omega) hwl (by omega) (by omega) e;rw[hsg i hlt] at hend;rw[JR hlt];unfold dz;cases htk:eE x (f.rest.getD i .t) (l[i]'hlt) with
   | ok y=>
    rw[htk] at hend;obtain⟨hy1,hy2⟩:=Ec htk;obtain⟨h1',f1,e1,cr1⟩:=hend;replace e1:=e1.symm;dsimp only at e1;rw[neq_i64' u.u24,show (!beq 0 0)=false from rfl,ah,ax] at e1;dsimp only at e1;rw[dr u3 (by omega),<-hLp] at e1;have hub:=f1.ub;have key:=ih (i+1) N y z h1' (by omega) (by omega) cr1 (hq.frB f1 (by omega)) (λid hid=>(f1.old id hid).trans (hfr id hid)) (by omega) (by omega) (by omega) e1;show match dz f y (i+1) (l.drop (i+1)) with | .ok y=>_ | .error er=>_
    cases hts:dz f y (i+1) (l.drop (i+1)) with
    | ok y'=> rw[hts] at key;obtain⟨h2',f2,e2,cr2⟩:=key;exact⟨h2',f1.trans f2 (by omega),e2,cr2⟩
    | error er=> rw[hts] at key;obtain⟨hne,h2',f2,e2⟩:=key;refine⟨hne,h2',dj.trans (m:=4) ⟨f1.le,f1.ub,λid hid=>f1.old id (by omega)⟩ f2 (by omega),e2⟩
   | error er=>
    rw[htk] at hend;obtain⟨h1',f1,e1⟩:=hend;replace e1:=e1.symm;dsimp only at e1;have hne:=Dy htk;have he':hget h1' eb=.row 39 9 false false 0 cellsE:=(f1.old _ he1).trans ((hfr _ he1).trans he);rw[neq_i64' u.u24,show (!beq er 0)=true by rw[dB hne];rfl,ah,aA] at e1;simp only[qy] at e1;rw[heH] at e1;have hub:=f1.ub;have hlt':=cr.lt;rcases T7 u he' er k with hh | hh
    ·refine⟨hne,_,?_,(hh.symm.trans e1).symm⟩;exact dj.trans (m:=4) (n:=0) ⟨f1.le,f1.ub,λid hid=>f1.old id (by omega)⟩ (dj.set he0 (by omega) _) (by omega)
    ·omega
end
section
def WL.cells {h:H} {v:Value} {l:List Bs} (o:WL h v l) (k:List Value->R):onCells v k=k [v]:=by cases o <;> rfl
def WL.cell1 {h:H} {v:Value} {l:List Bs} (o:WL h v l):cell1F v=true:=by cases o <;> rfl
def WL.same {h:H} {v:Value} {l:List Bs} (o:WL h v l):am v v=true:=by
 cases o with
 | nil=>rfl
 | row=>simp[am,iT,gu]
def uN {E:Env} (u30:E.und 37=some (.slice 9)) (z9:E.size 9=some 1) {h:H} {v:Value} {w:Bs} {l:List Bs} (o:WL h v (w :: l)) (hc:cj v \/ 1<=l.length):
  ∃v',dm E 37 v (some (.int .i64 (.ofNat 1))) none none=some v'/\WL h v' l:=by
 cases o with
 | row hb hq hm hcap hcl=>
  rename_i b of m c fz op ro cells;have h1:ble (l.length+1) (c / 2)=true:=aM (by simpa using hcap);have h2:ble 1 (l.length+1)=true:=aM (by omega);have hcap':l.length+1<=c / 2:=by simpa using hcap
  have hnu:(beq (c / 2) 1&&(!beq (c%2) 0) && !beq 1 0)=false:=by
   rcases hc with hc | hc
   ·rw[show c%2=0 from hc];simp
   ·rw[dB (show ¬ c / 2=1 by omega)];rfl
  have hm':of+(l.length+1)<=m:=by simpa using hm
  unfold dm;simp only[u30,z9,bound,Jz,h1,h2,Jo,Option.isNone_none,Option.isSome_none,Bool.or_false,Bool.and_true,gO,hnu,JP];refine⟨_,rfl,?_⟩;rw[show l.length+1-1=l.length by omega];by_cases q:c / 2=1
  ·have hl:l=[]:=List.length_eq_zero_iff.1 (by omega);subst hl;rw[gm q,Jo];exact .row hb hq (by simp;omega) (by simp) λi hi=>absurd hi (Jy _)
  ·rw[dB q,JP,dB (show ¬ 1*1=0 by decide),JP];refine .row hb hq (by omega) (by omega) λi hi=>?_;have:=hcl (i+1) (by simpa using hi);rw[show of+1*1+i=of+(i+1) by omega];exact this
def set2 {h:H} {b:Nat} {cells:T Value} {a c:Bs} (hq:hget h b=.row 93 2 false false 0 cells) (K:H->R):
  (onRow (hget h b) λq r s t u v=>ifB (notB t) (ifB (beq (lenF [ak a,ak c]) 2) (ifB (ble u 0) (ifB (ble 2 r) (ifB (ble r 1000000000) (ifB (allF (λw=>cell1F w) [ak a,ak c]) (letH (hset h b (.row q r s false u (putF v 0 [ak a,ak c]))) K)))))))=K (hset h b (.row 93 2 false false 0 (putF cells 0 [ak a,ak c]))):=by
 rw[hq,cz,aP (c:=notB false) rfl,aP (c:=beq (lenF [ak a,ak c]) 2) rfl,aj (JY _),aj (Jd _),aj (by omega),aP (c:=allF (λw=>cell1F w) [ak a,ak c]) rfl,aD]
def Gm (rc:RC):Prop:=∀(h:H) (k:Value->H->R),h.next<=900000000->rc 47 [] h k=k (.slice (some ⟨h.next,0,none⟩) 41 82) (ag h dM)
def Uk (rc:RC):Prop:=∀(h:H) (pb tb:Nat) (w0:Bs) (l:List Bs) (k:Value->H->R) (X:R),LV h pb (w0 :: l)->hget h tb=dM->tb<h.next->h.next<=800000000 ->
 rc 46 [.slice (some ⟨tb,0,none⟩) 41 82,.func (.func 48) ⟨[]⟩ ⟨[.pointer (some ⟨pb,0,none⟩)]⟩] h k=X->∃h',Fr h h' 41/\X=if fe w0 aV<41 then k (.int .i64 (.ofNat (fe w0 aV))) h' else k (.int .i64 (.negSucc 0)) h'
def T9 (rc:RC):Prop:=∀(h:H) (a r:Bs) (n:Nat) (k:Value->H->R) (X:R),h.next<=900000000->r.length<=1000->rc 49 [.agg ⟨[ak a,ak r]⟩,.int .i64 (.ofNat n)] h k=X->∃h',X=k (.bool (lM r n)) h'/\Fr h h' 1
def yN (h:H) (n:Nat) (k:Value->H->R) (X:R):Except Nat bV->Prop
 |.ok y=>∃h' on tx,Fr h h' n/\X=k (.tuple ⟨[.agg ⟨cmdL y on tx⟩,.int .i64 (.ofNat 0)]⟩) h'/\SO h' on y.on/\SO h' tx y.texts/\(∀c,dv on=some c->h.next<=c)/\(∀c,dv tx=some c->h.next<=c)
 |.error er=>er≠0/\∃h',Fr h h' n/\X=k (.tuple ⟨[.agg ⟨br⟩,.int .i64 (.ofNat er)]⟩) h'
def aph {i:Nat} (hi:i<41):ae (T.ofList unk (fY aV)) 2 (i*2)=[ak (aV.getD i ([],[])).1,ak (aV.getD i ([],[])).2]:=by obtain⟨t1,t2⟩:=AD hi;show [getF (T.ofList unk (fY aV)) (i*2),getF (T.ofList unk (fY aV)) (i*2+1)]=_;rw[show i*2=2*i by omega,t1,t2]
def sR:(List.range 41).all (λi=>ble (aV.getD i ([],[])).2.length 4)=true:=by decide
variable {E : Env} (u : CE E 39) {rc : RC} {hS : H}
include u
theorem RO (hTab:Gm rc) (hT:uO rc (bu hS)) {h0:H} {a:H} (hq:bu hS h0) (h0a:bu h0 a) {pb eb:Nat} {cellsE:T Value} (hpb:h0.next<=pb) (hpb2:pb<a.next) (heb:h0.next<=eb) (heb2:eb<a.next) (hn:a.next+4*8000+100<=780000000)
  {w0:Bs} {l:List Bs} {v:Value} {cp:T Value} (hp:hget a pb=.row 37 1 false false 0 cp) (hcp:getF cp 0=v) (o:WL a v (w0 :: l)) (cl:cj v \/ 1<=l.length) (hs:small l) (hln:l.length<=8000)
  (he:hget a eb=.row 39 9 false false 0 cellsE) {op:Nat} (hop:op<41) (hfit:lM (aV.getD op ([],[])).2 l.length=true) (line:Nat) (hH:H) (hhH:hH.1=pb) (bH:H) (hbH:bH.1=eb) (k:Value->H->R) (z:aa [5]) (X:R)
  (e:BY rc a (.int .i64 (.ofNat op)) E (.int .i64 (.ofNat line)) hH bH k z=X):
  yN h0 (a.next-h0.next+8+4*l.length) k X (dz (co.getD op f0) ⟨line,op,[],[],0,0,0,0,[]⟩ 0 l):=by
 have u3:=u.u3;have h0n:=h0a.le;unfold BY at e;rw[hTab a _ (by omega),bC,bp,aj (show op+1<=41 by omega),bw,au] at e;have f7:Fr a (ag a dM) 1:=Fr.push _ (by omega);have e7:hget (ag a dM) a.next=dM:=az _ _ (by omega);have n7:(ag a dM).next=a.next+1:=rfl;generalize ag a dM=h7 at e f7 e7 n7;have hub7:=f7.ub;have hle7:=f7.le;dsimp only at e;rw[show (onRow (hget h7 a.next):_)=onRow dM by rw[e7]] at e;unfold dM at e;rw[cz,aj (show 0+op.mul 2+2<=82 by show 0+op*2+2<=82;omega),aj (show h7.1<=1000000000 by show h7.next<=_;omega),aD,show 0+op.mul 2=op*2 from JN _,aph hop] at e;generalize hwr:(aV.getD op ([],[])).1=fw at e;generalize hrr:(aV.getD op ([],[])).2=r at e hfit;have f8:Fr h7 (ag h7 (.row 93 2 false false 0 (T.ofList unk [.string (ByteArray.mk #[]),.string (ByteArray.mk #[])]))) 1:=Fr.push _ (by omega);have e8:hget (ag h7 (.row 93 2 false false 0 (T.ofList unk [.string (ByteArray.mk #[]),.string (ByteArray.mk #[])]))) h7.next=.row 93 2 false false 0 (T.ofList unk [.string (ByteArray.mk #[]),.string (ByteArray.mk #[])]):=az _ _ (by omega);have n8:(ag h7 (.row 93 2 false false 0 (T.ofList unk [.string (ByteArray.mk #[]),.string (ByteArray.mk #[])]))).next=h7.next+1:=rfl;generalize ag h7 (.row 93 2 false false 0 (T.ofList unk [.string (ByteArray.mk #[]),.string (ByteArray.mk #[])]))=h8 at e f8 e8 n8;have hub8:=f8.ub;have hle8:=f8.le;rw[set2 e8] at e;have e9:hget (hset h8 h7.next (.row 93 2 false false 0 (putF (T.ofList unk [.string (ByteArray.mk #[]),.string (ByteArray.mk #[])]) 0 [ak fw,ak r]))) h7.next=.row 93 2 false false 0 (putF (T.ofList unk [.string (ByteArray.mk #[]),.string (ByteArray.mk #[])]) 0 [ak fw,ak r]):=bj _ _ _ (by omega);have o9:∀id,id<h7.next->hget (hset h8 h7.next (.row 93 2 false false 0 (putF (T.ofList unk [.string (ByteArray.mk #[]),.string (ByteArray.mk #[])]) 0 [ak fw,ak r]))) id=hget h8 id:=λid hid=>eS _ _ (by omega) hid;have n9:(hset h8 h7.next (.row 93 2 false false 0 (putF (T.ofList unk [.string (ByteArray.mk #[]),.string (ByteArray.mk #[])]) 0 [ak fw,ak r]))).next=h8.next:=rfl;have c9:getF (putF (T.ofList unk [.string (ByteArray.mk #[]),.string (ByteArray.mk #[])]) 0 [ak fw,ak r]) 1=ak r:=by rw[bI,fF,bJ _ _ _ (by simp),if_pos (by simp)];rfl
 generalize hset h8 h7.next (.row 93 2 false false 0 (putF (T.ofList unk [.string (ByteArray.mk #[]),.string (ByteArray.mk #[])]) 0 [ak fw,ak r]))=h9 at e e9 o9 n9;generalize putF (T.ofList unk [.string (ByteArray.mk #[]),.string (ByteArray.mk #[])]) 0 [ak fw,ak r]=cellsC at e e9 c9;rw[aW,bC,aM (show op<=255 by omega)] at e;dsimp only at e;rw[u.build,aK,aj (show h9.1<=1000000000 by show h9.next<=_;omega),aD] at e;have f10:Fr h9 (ag h9 (.row 39 9 false false 0 (T.ofList unk br))) 1:=Fr.push _ (by omega);have e10:hget (ag h9 (.row 39 9 false false 0 (T.ofList unk br))) h9.next=.row 39 9 false false 0 (T.ofList unk br):=az _ _ (by omega);have hz:([.int .i64 (.ofNat 0),.int .u8 (.ofNat 0),.string (ByteArray.mk #[]),.slice none 0 0,.int .i64 (.ofNat 0),.int .i64 (.ofNat 0),.int .i64 (.ofNat 0),.int .u8 (.ofNat 0),.slice none 0 0]:List Value)=br:=rfl;rw[hz] at e;rw[bP] at e;have n10:(ag h9 (.row 39 9 false false 0 (T.ofList unk br))).next=h9.next+1:=rfl;generalize ag h9 (.row 39 9 false false 0 (T.ofList unk br))=h10 at e f10 e10 n10;have hub10:=f10.ub;have hle10:=f10.le;rw[xt (L:=[.int .i64 (.ofNat line),.int .u8 (.ofNat op),.string (ByteArray.mk #[]),.slice none 0 0,.int .i64 (.ofNat 0),.int .i64 (.ofNat 0),.int .i64 (.ofNat 0),.int .u8 (.ofNat 0),.slice none 0 0]) e10 rfl rfl] at e;have e11:hget (hset h10 h9.next (.row 39 9 false false 0 (putF (T.ofList unk br) 0 [.int .i64 (.ofNat line),.int .u8 (.ofNat op),.string (ByteArray.mk #[]),.slice none 0 0,.int .i64 (.ofNat 0),.int .i64 (.ofNat 0),.int .i64 (.ofNat 0),.int .u8 (.ofNat 0),.slice none 0 0]))) h9.next=.row 39 9 false false 0 (putF (T.ofList unk br) 0 [.int .i64 (.ofNat line),.int .u8 (.ofNat op),.string (ByteArray.mk #[]),.slice none 0 0,.int .i64 (.ofNat 0),.int .i64 (.ofNat 0),.int .i64 (.ofNat 0),.int .u8 (.ofNat 0),.slice none 0 0]):=bj _ _ _ (by omega);have o11:∀id,id<h9.next->hget (hset h10 h9.next (.row 39 9 false false 0 (putF (T.ofList unk br) 0 [.int .i64 (.ofNat line),.int .u8 (.ofNat op),.string (ByteArray.mk #[]),.slice none 0 0,.int .i64 (.ofNat 0),.int .i64 (.ofNat 0),.int .i64 (.ofNat 0),.int .u8 (.ofNat 0),.slice none 0 0]))) id=hget h9 id:=λid hid=>(eS _ _ (by omega) hid).trans (f10.old id hid);have n11:(hset h10 h9.next (.row 39 9 false false 0 (putF (T.ofList unk br) 0 [.int .i64 (.ofNat line),.int .u8 (.ofNat op),.string (ByteArray.mk #[]),.slice none 0 0,.int .i64 (.ofNat 0),.int .i64 (.ofNat 0),.int .i64 (.ofNat 0),.int .u8 (.ofNat 0),.slice none 0 0]))).next=h10.next:=rfl;have c11:∀i,i<9->getF (putF (T.ofList unk br) 0 [.int .i64 (.ofNat line),.int .u8 (.ofNat op),.string (ByteArray.mk #[]),.slice none 0 0,.int .i64 (.ofNat 0),.int .i64 (.ofNat 0),.int .i64 (.ofNat 0),.int .u8 (.ofNat 0),.slice none 0 0]) i=(cmdL ⟨line,op,[],[],0,0,0,0,[]⟩ (.slice none 0 0) (.slice none 0 0)).getD i unk:=λi hi=>by rw[bI,fF,bJ _ _ _ (by simp),if_pos ⟨JY _,by simpa using hi⟩,Nat.sub_zero];rfl
 generalize hset h10 h9.next (.row 39 9 false false 0 (putF (T.ofList unk br) 0 [.int .i64 (.ofNat line),.int .u8 (.ofNat op),.string (ByteArray.mk #[]),.slice none 0 0,.int .i64 (.ofNat 0),.int .i64 (.ofNat 0),.int .i64 (.ofNat 0),.int .u8 (.ofNat 0),.slice none 0 0]))=h11 at e e11 o11 n11;generalize putF (T.ofList unk br) 0 [.int .i64 (.ofNat line),.int .u8 (.ofNat op),.string (ByteArray.mk #[]),.slice none 0 0,.int .i64 (.ofNat 0),.int .i64 (.ofNat 0),.int .i64 (.ofNat 0),.int .u8 (.ofNat 0),.slice none 0 0]=cellsD at e11 c11;have cr:CR 39 h9.next h11 h9.next ⟨line,op,[],[],0,0,0,0,[]⟩:=⟨Jd _,by omega,cellsD,.slice none 0 0,.slice none 0 0,e11,c11,.nil,.nil,λc hc=>(nomatch hc),λc hc=>(nomatch hc)⟩;have old9:∀id,id<a.next->hget h9 id=hget a id:=λid hid=>(o9 id (by omega)).trans ((f8.old id (by omega)).trans (f7.old id hid));have fa9:bu a h9:=⟨by omega,old9⟩;have hp11:hget h11 pb=.row 37 1 false false 0 cp:=(o11 pb (by omega)).trans ((old9 pb hpb2).trans hp);rw[hhH,show (onRow (hget h11 pb):_)=onRow (.row 37 1 false false 0 cp) by rw[hp11],cz,aP (c:=ble 1 1) rfl,hcp] at e;obtain⟨v',hv',o'⟩:=uN u.u30 u.z9 (o.from fa9) cl;rw[hv',aK,aW] at e;rw[fv (E:=E) (h':=h11) o' u.u30,ah] at e;have hsh:(List.range 41).all (λi=>kM (aV.getD i ([],[])).2 (co.getD i f0))=true:=Ff;have hok:kM r (co.getD op f0)=true:=by have:=Jv.1 hsh op (by simpa using hop);rw[hrr] at this;exact this
 have hfs:jp (co.getD op f0) l.length=true:=by rw[<-Cj hok];exact hfit
 have hr4:r.length<=4:=by have:=Jv.1 sR op (by simpa using hop);rw[hrr] at this;exact I7 this
 have hr1:l ≠ []->1<=r.length/\r.length<=4:=λhne=>⟨by
  cases r with
  | nil=> unfold lM at hfit;rw[if_neg (by decide),if_neg (by decide)] at hfit;have:=I8 hfit;exact absurd (List.length_eq_zero_iff.1 this) hne
  | cons _ _=>simp,hr4⟩
 have hS0:hS.next<=h0.next:=hq.le;have hq11:bu hS h11:=hq.trans (h0a.trans (fa9.trans ⟨by omega,o11⟩));have key:=alj u hT (hd:=h9) (D:=h9.next) (B0:=h0.next) (eb:=eb) (cb:=h7.next) rfl hS0 (by omega) o' hs hln heb (by omega) ((old9 eb heb2).trans he) (by omega) e9 c9 hr1 (f:=co.getD op f0) (λi hi=>aoH hok hfs hi) h7 rfl h9 rfl bH hbH k _ X l.length 0 cM ⟨line,op,[],[],0,0,0,0,[]⟩ z.1 h11 (by omega) (by unfold cM;omega) cr hq11 o11 (by omega) (JY _) (JY _) e;rw[List.drop_zero] at key;cases hts:dz (co.getD op f0) ⟨line,op,[],[],0,0,0,0,[]⟩ 0 l with
 | error er=> rw[hts] at key;obtain⟨hne,h',f',e'⟩:=key;refine⟨hne,h',⟨by have:=f'.le;omega,by have:=f'.ub;omega,λid hid=>(f'.old id hid).trans ((o11 id (by omega)).trans ((old9 id (by omega)).trans (h0a.old id hid)))⟩,e'⟩
 | ok y=>
  rw[hts] at key;obtain⟨h',f',e',cr'⟩:=key;obtain⟨lo',lt',cells',on,tx,q',cc',s1,s2,s3,s4⟩:=cr';have hlast:ae cells' 9 0=cmdL y on tx:=aal rfl cc';have he':hget h' eb=.row 39 9 false false 0 cellsE:=(f'.old eb (by omega)).trans ((o11 eb (by omega)).trans ((old9 eb heb2).trans he));have hle':=f'.le;have hub':=f'.ub;replace e':=e'.symm;rw[show (onRow (hget h' h9.1):_)=onRow (.row 39 9 false false 0 cells') by rw[show h9.1=h9.next from rfl,q'],cz,aP (c:=ble 9 9) rfl,hlast,hbH,xt he' rfl (nk s1 s2),u.load _ eb false false 0 _ (bj _ _ _ (by omega)),aK,iA _ rfl] at e';have hk:∀w l,SO h' w l->SO (hset h' eb (.row 39 9 false false 0 (putF cellsE 0 (cmdL y on tx)))) w l:=λw l o=>o.keep (Jd _) λc hc hl=>by rw[bS _ _ _ _ (by omega),if_neg];intro ee;subst ee;obtain⟨n,op,cs,e2⟩:=o.row9 hc;rw[he'] at e2;cases e2
  refine⟨_,on,tx,⟨?_,?_,λid hid=>?_⟩,e'.symm,hk _ _ s1,hk _ _ s2,λc hc=>?_,λc hc=>?_⟩
  ·show h0.next<=h'.next;omega
  ·show h'.next<=_;omega
  ·rw[eS _ _ (by omega) (by omega)];exact (f'.old id (by omega)).trans ((o11 id (by omega)).trans ((old9 id (by omega)).trans (h0a.old id hid)))
  ·have:=(s3 c hc).1;omega
  ·have:=s4 c hc;omega
end
section
def yR:am undef undef=true:=rfl
variable {E : Env} (u : CE E 39) {rc : RC} {hS : H}
def wW (line:Nat) (w:Bs) (l:List Bs):eY line (w :: l)=if fe w aV<41 then (if lM (aV.getD (fe w aV) ([],[])).2 l.length then dz (co.getD (fe w aV) f0) ⟨line,fe w aV,[],[],0,0,0,0,[]⟩ 0 l else .error 14) else .error 14:=by
 show (match j6 w co 0 with
  | none=>Except.error 14
  | some (i,f)=>if jp f l.length then dz f ⟨line,i,[],[],0,0,0,0,[]⟩ 0 l else .error 14)=_
 rw[vO w aV co 0 C2];by_cases q:fe w aV<41
 ·rw[if_pos (show fe w aV<aV.length from q),if_pos q];dsimp only;have hok:kM (aV.getD (fe w aV) ([],[])).2 (co.getD (fe w aV) f0)=true:=Jv.1 Ff _ (by simpa using q);rw[Cj hok,JN]
 ·rw[if_neg (show ¬ fe w aV<aV.length from q),if_neg q]
include u
theorem BG {h:H} {eb:Nat} {cellsE:T Value} (he:hget h eb=.row 39 9 false false 0 cellsE) (heb:eb<=1000000000) (bH:H) (hbH:bH.1=eb) (k:Value->H->R):Ci h bH E k=k (.tuple ⟨[.agg ⟨br⟩,.int .i64 (.ofNat 14)]⟩) (hset h eb (.row 39 9 false false 0 (putF cellsE 0 br))):=by
 unfold Ci;simp only[qy];rw[hbH];rcases T7 u he 14 k with hh | hh
 ·exact hh
 ·omega
theorem atl (hTab:Gm rc) (hI:Uk rc) (hF:T9 rc) (hT:uO rc (bu hS)) {h:H} (hq:bu hS h) (hn:h.next<=770000000) {w0:Bs} {l:List Bs} {v:Value} (o:WL h v (w0 :: l)) (cl:cj v \/ 1<=l.length) (hs:small l) (hln:l.length<=8000)
  (line:Nat) (k:Value->H->R) (X:R) (e:p24 E rc (.int .i64 (.ofNat line)) v h k=X):yN h (60+4*l.length) k X (eY line (w0 :: l)):=by
 have u3:=u.u3;unfold p24 at e;rw[o.cells,aP (show allF (λb=>cell1F b) [v]=true by rw[nB];simp[o.cell1]),aj (show h.1<=1000000000 by show h.next<=_;omega),aD] at e;rw[show lenF [v]=1 from rfl] at e;have f1:Fr h (ag h (.row 37 1 false false 0 (T.ofList unk [v]))) 1:=Fr.push _ (by omega);have e1:hget (ag h (.row 37 1 false false 0 (T.ofList unk [v]))) h.next=.row 37 1 false false 0 (T.ofList unk [v]):=az _ _ (by omega);have n1:(ag h (.row 37 1 false false 0 (T.ofList unk [v]))).next=h.next+1:=rfl;generalize ag h (.row 37 1 false false 0 (T.ofList unk [v]))=h1 at e f1 e1 n1;have hz:([.int .i64 (.ofNat 0),.int .u8 (.ofNat 0),.string (ByteArray.mk #[]),.slice none 0 0,.int .i64 (.ofNat 0),.int .i64 (.ofNat 0),.int .i64 (.ofNat 0),.int .u8 (.ofNat 0),.slice none 0 0]:List Value)=br:=rfl;rw[aj (show h1.1<=1000000000 by show h1.next<=_;omega),aD,hz] at e;have f2:Fr h1 (ag h1 (.row 39 9 false false 0 (T.ofList unk br))) 1:=Fr.push _ (by omega);have e2:hget (ag h1 (.row 39 9 false false 0 (T.ofList unk br))) h1.next=.row 39 9 false false 0 (T.ofList unk br):=az _ _ (by omega);have n2:(ag h1 (.row 39 9 false false 0 (T.ofList unk br))).next=h1.next+1:=rfl;generalize ag h1 (.row 39 9 false false 0 (T.ofList unk br))=h2 at e f2 e2 n2;rw[hTab h2 _ (by omega)] at e;have f3:Fr h2 (ag h2 dM) 1:=Fr.push _ (by omega);have e3:hget (ag h2 dM) h2.next=dM:=az _ _ (by omega);have n3:(ag h2 dM).next=h2.next+1:=rfl;generalize ag h2 dM=h3 at e f3 e3 n3;rw[aP (c:=hY (allF (λf=>fW f) []) (allF (λf=>fW f) [.pointer (some (Addr.mk h.1 0 none))])) rfl] at e;have fh3:bu h h3:=⟨by omega,λid hid=>(f3.old id (by omega)).trans ((f2.old id (by omega)).trans (f1.old id hid))⟩;have hpb3:hget h3 h.next=.row 37 1 false false 0 (T.ofList unk [v]):=(f3.old _ (by omega)).trans ((f2.old _ (by omega)).trans e1);have heb3:hget h3 h1.next=.row 39 9 false false 0 (T.ofList unk br):=(f3.old _ (by omega)).trans e2;have lv:LV h3 h.next (w0 :: l):=⟨by omega,_,v,hpb3,rfl,o.from fh3⟩;obtain⟨h4,f4,e4⟩:=hI h3 h.next h2.next w0 l _ _ lv e3 (by omega) (by omega) e;have hub4:=f4.ub;have hle4:=f4.le;have fh4:bu h h4:=fh3.trans f4.from;have hpb4:hget h4 h.next=.row 37 1 false false 0 (T.ofList unk [v]):=(f4.old _ (by omega)).trans hpb3;have heb4:hget h4 h1.next=.row 39 9 false false 0 (T.ofList unk br):=(f4.old _ (by omega)).trans heb3;rw[wW];by_cases q:fe w0 aV<41
 ·rw[if_pos q] at e4 ⊢;replace e4:=e4.symm;rw[aj (show h4.1<=1000000000 by show h4.next<=_;omega),aD,Ey,fj u3 (JY _)] at e4;have hqr4:∀KK,onRow (hget h4 h.1) KK=KK 37 1 false false 0 (T.ofList unk [v]):=λKK=>by rw[show h.1=h.next from rfl,hpb4];rfl
  have hlen4:∀(K:Value->R) (hx:H),onSl v (bindO (aX E hx 37 v) K) (λ_ n _=>K (.int .i64 (.ofNat n)))=K (.int .i64 (.ofNat (l.length+1))):=λK hx=>fv (E:=E) (h':=hx) o u.u30 K;have hsub:∀K:Value->R,binR (binC E .sub 3 false true) (.int .i64 (.ofNat (l.length+1))) (.int .i64 (.ofNat 1)) K=K (.int .i64 (.ofNat l.length)):=λK=>by rw[gK u3 (by omega) (by omega),Nat.add_sub_cancel]
  have hg0:getF (T.ofList unk [v]) 0=v:=rfl;have f5:Fr h4 (ag h4 dM) 1:=Fr.push _ (by omega);have e5:hget (ag h4 dM) h4.next=dM:=az _ _ (by omega);have n5:(ag h4 dM).next=h4.next+1:=rfl;have hT39:∀K:Value->H->R,rc 47 [] h4 K=K (.slice (some ⟨h4.next,0,none⟩) 41 82) (ag h4 dM):=λK=>hTab h4 K (by omega);generalize ag h4 dM=h5 at f5 e5 n5 hT39;have hub5:=f5.ub;have fh5:bu h h5:=fh4.trans f5.from;have hpb5:hget h5 h.next=.row 37 1 false false 0 (T.ofList unk [v]):=(f5.old _ (by omega)).trans hpb4;have hqr5:∀KK,onRow (hget h5 h.1) KK=KK 37 1 false false 0 (T.ofList unk [v]):=λKK=>by rw[show h.1=h.next from rfl,hpb5];rfl
  have hqt5:∀KK,onRow (hget h5 h4.next) KK=KK 93 82 false false 0 (T.ofList unk (fY aV)):=λKK=>by rw[e5];rfl
  simp only[↓aW,↓aE,↓cP,AW,Cf,↓hqr4,show ble 1 1=true from rfl,↓di,hg0,↓hlen4,↓hsub,↓hT39,iC,o.same,↓hqr5,↓bC,↓bp,↓bw,↓au,↓hqt5] at e4;rw[aj (show fe w0 aV+1<=41 by omega),aj (show 0+(fe w0 aV).mul 2+2<=82 by show 0+fe w0 aV*2+2<=82;omega),show 0+(fe w0 aV).mul 2=fe w0 aV*2 from JN _,aph q] at e4;have hsh:=Jv.1 sR (fe w0 aV) (by simpa using q);have hsh:=I7 hsh;obtain⟨h6,e6,f6⟩:=hF h5 _ _ _ _ _ (by omega) (by omega) e4;have hub6:=f6.ub;have hle6:=f6.le;replace e6:=e6.symm;have fh6:bu h h6:=fh5.trans f6.from;have hpb6:hget h6 h.next=.row 37 1 false false 0 (T.ofList unk [v]):=(f6.old _ (by omega)).trans hpb5;have heb6:hget h6 h1.next=.row 39 9 false false 0 (T.ofList unk br):=(f6.old _ (by omega)).trans ((f5.old _ (by omega)).trans heb4);by_cases qf:lM (aV.getD (fe w0 aV) ([],[])).2 l.length=true
  ·rw[qf] at e6;simp only[↓aA,↓ax,↓ah] at e6;rw[if_pos qf];have key:=RO u hTab hT hq fh6 (pb:=h.next) (eb:=h1.next) (Jd _) (by omega) (by omega) (by omega) (by omega) hpb6 rfl (o.from fh6) cl hs hln heb6 q qf line h rfl h1 rfl k _ X e6;generalize dz (co.getD (fe w0 aV) f0) ⟨line,fe w0 aV,[],[],0,0,0,0,[]⟩ 0 l=res at key;cases res with
   | ok y=> obtain⟨h',on,tx,f,r⟩:=key;exact⟨h',on,tx,f.mono (by omega),r⟩
   | error er=> obtain⟨hne,h',f,r⟩:=key;exact⟨hne,h',f.mono (by omega),r⟩
  ·have qf':lM (aV.getD (fe w0 aV) ([],[])).2 l.length=false:=by simpa using qf
   rw[qf'] at e6;simp only[↓aA,↓ax,↓ah] at e6;rw[if_neg qf];rw[BG u heb6 (by omega) h1 rfl] at e6;exact⟨by decide,_,⟨by show h.next<=h6.next;omega,by show h6.next<=_;omega,λid hid=>by rw[eS _ _ (by omega) (by omega)];exact fh6.old id hid⟩,e6.symm⟩
 ·rw[if_neg q] at e4 ⊢;replace e4:=e4.symm;rw[aj (show h4.1<=1000000000 by show h4.next<=_;omega),aD,Ey,BJ u3] at e4;simp only[↓aW,↓aE,↓ah,↓cu,AW,Cf,yR,↓di,↓aA] at e4;rw[BG u heb4 (by omega) h1 rfl] at e4;exact⟨by decide,_,⟨by show h.next<=h4.next;omega,by show h4.next<=_;omega,λid hid=>by rw[eS _ _ (by omega) (by omega)];exact fh4.old id hid⟩,e4.symm⟩
end
inductive LR (h:H):List Value->List bV->Prop
 | nil:LR h [] []
 | snoc {L:List Value} {l:List bV} {c:bV} {on tx:Value} (r:LR h L l) (s1:SO h on c.on) (s2:SO h tx c.texts):LR h (L++cmdL c on tx) (l ++ [c])
def CL (ty:TypeId) (h:H) (v:Value) (l:List bV):Prop:=∃L,OL ty 9 h v l.length L/\LR h L l
def CL.nil {ty:TypeId} {h:H}:CL ty h (.slice none 0 0) []:=⟨[],.nil,.nil⟩
def LR.keep {h h':H} {L:List Value} {l:List bV} (r:LR h L l) (hn:h.next<=h'.next) (hk:∀b n op cs,b<h.next->hget h b=.row 9 n op false 0 cs->hget h' b=hget h b):LR h' L l:=by
 induction r with
 | nil=>exact .nil
 | snoc r s1 s2 ih=>
  have key:∀v x,SO h v x->SO h' v x:=λv x o=>o.keep hn λb hb hl=>by obtain⟨n,op,cs,e⟩:=o.row9 hb;exact hk b n op cs hl e
  exact .snoc ih (key _ _ s1) (key _ _ s2)
def _root_.Go.Ev.OL.form {e s n:Nat} {h:H} {v:Value} {L:List Value} (o:OL e s h v n L):(v=.slice none 0 0/\n=0) \/ ∃b c cells op,v=.slice (some ⟨b,0,none⟩) n c/\b<h.next/\hget h b=.row e (n*s) op false 0 cells:=by
 cases o with
 | nil=>exact .inl ⟨rfl,rfl⟩
 | row hb hq hL hc hp=>exact .inr ⟨_,_,_,_,rfl,hb,hq⟩
def CL.fr {ty:TypeId} {h h':H} {n:Nat} {v:Value} {l:List bV} (c:CL ty h v l) (f:Fr h h' n):CL ty h' v l:=by obtain⟨L,o,r⟩:=c;exact⟨L,o.keep f.le λb _ hl=>f.old b hl,r.keep f.le λb _ _ _ hl _=>f.old b hl⟩
def aq9 {x:bV} {on tx:Value} {h:H} (s1:SO h on x.on) (s2:SO h tx x.texts):dx (λb9=>some (Nat.mul b9 9,9)) (List.flatten (List.replicate 1 br)) [(0,.agg ⟨cmdL x on tx⟩)]=some (cmdL x on tx):=by
 have h1:=nk s1 s2;have h2:(cmdL x on tx).all cell1=true:=by
  rw[Jv] at h1 ⊢;intro v hv;have:=h1 v hv
  revert this
  cases v <;> intro this <;> first | rfl | exact this
 have h3:(beq (cellsOfV (.agg ⟨cmdL x on tx⟩)).length 9&&ble (Nat.mul 0 9+(cellsOfV (.agg ⟨cmdL x on tx⟩)).length) (List.flatten (List.replicate 1 br)).length&&(cmdL x on tx).all cell1)=true:=by rw[h2];rfl
 show (bif (beq (cellsOfV (.agg ⟨cmdL x on tx⟩)).length 9&&ble (Nat.mul 0 9+(cellsOfV (.agg ⟨cmdL x on tx⟩)).length) (List.flatten (List.replicate 1 br)).length&&(cmdL x on tx).all cell1) then _ else none)=_;rw[h3];rfl
def aci:dx (λb9=>some (Nat.mul b9 9,9)) (List.flatten (List.replicate 1 br)) [(0,.agg ⟨br⟩)]=some br:=rfl
def vR {E:Env} {tl ty:TypeId} {i:TypeInfo} (T2:ug E tl ty 9 i br) (hty:ty≠9) {h:H} {v:Value} {l:List bV} (c:CL ty h v l) (hn:h.next+2<=1000000000) (hl:l.length<=9000) {xs:List Value} (hx:xs.length=9) (hall:xs.all cell1=true):
  ∃v' h',ba E (ag h (.row ty 9 false false 0 (T.ofList unk xs))) .append [v,.slice (some ⟨h.next,0,none⟩) 1 2] [tl,tl]=some (v',h')/\h'.next=h.next+2/\dv v'=some (h.next+1)/\(∀id,id<h.next->dv v≠some id->hget h' id=hget h id) /\
   ∀x on tx,xs=cmdL x on tx->SO h on x.on->SO h tx x.texts->CL ty h' v' (l ++ [x]):=by
 obtain⟨L,o,r⟩:=c;obtain⟨v',h',e,o',n,b,f⟩:=ud T2 o hx hall hn hl;refine⟨v',h',e,n,b,f,λx on tx hxs s1 s2=>?_⟩;subst hxs;have hk:∀b n op cs,b<h.next->hget h b=.row 9 n op false 0 cs->hget h' b=hget h b:=λb n op cs hl e9=>f b hl λee=>by
  rcases o.form with ⟨rfl,_⟩ | ⟨b',c',cells,op',rfl,_,e1⟩
  ·exact nomatch ee
  ·cases ee;rw[e1] at e9;cases e9;exact hty rfl
 have key:∀v x,SO h v x->SO h' v x:=λv x o=>o.keep (by omega) λb hb hl=>by obtain⟨n,op,cs,e⟩:=o.row9 hb;exact hk b n op cs hl e
 refine⟨_,?_,.snoc (r.keep (by omega) hk) (key _ _ s1) (key _ _ s2)⟩;rw[Jt];exact o'
def Ch (rc:RC) (Q:H->Prop):Prop:=∀(s:Bs) (h:H),s.length<=100000->Q h->h.next<=700000000->∀(k:Value->H->R),rc 21 [ak s,.string ⟨⟨[10]⟩⟩] h k =
 k (.slice (some ⟨h.next,0,none⟩) (aU s).length (2*(aU s).length)) (ag h (.row 9 (aU s).length false false 0 (T.ofList unk ((aU s).map ak))))
def uG (rc:RC):Prop:=∀(s:Bs) (h:H) (k:Value->H->R) (X:R),s.length<=100000->h.next<=800000000->rc 22 [ak s] h k=X->∃h' v,X=k v h'/\WL h' v (cd s)/\cj v/\Fr h h' 1
def tA (rc:RC) (Q:H->Prop):Prop:=∀(v:Value) (l:List Bs) (h:H) (k:Value->H->R) (X:R),WL h v l->small l->Q h->h.next<=800000000->rc 23 [v] h k=X ->
 ∃h',X=k (.tuple ⟨[.int .i64 (.ofNat (cQ l).1),.int .i64 (.ofNat (cQ l).2.1),.int .i64 (.ofNat (cQ l).2.2)]⟩) h'/\Fr h h' 2
def Ib (rc:RC) (Q:H->Prop):Prop:=∀(line:Nat) (v:Value) (w0:Bs) (l:List Bs) (h:H) (k:Value->H->R) (X:R),Q h->h.next<=770000000->WL h v (w0 :: l)->cj v->small l->l.length<=8000->rc 24 [.int .i64 (.ofNat line),v] h k=X ->
 yN h (60+4*l.length) k X (eY line (w0 :: l))
def x0 (ty:TypeId) (B:Nat) (h:H) (n:Nat) (k:Value->H->R) (X:R) (r:PR):Prop:=∃h' v,dj B h h' n/\X=k (.tuple ⟨[.int .i64 (.ofNat r.1),.int .i64 (.ofNat r.2.1),v,.int .i64 (.ofNat r.2.2.2.1),.int .i64 (.ofNat r.2.2.2.2)]⟩) h'/\CL ty h' v r.2.2.1/\∀c,dv v=some c->B<=c
def cost:List Bs->Nat
 | []=>0
 | s :: l=>80+4*(bO s).length+cost l
def I1 (st:Option (Nat × Nat)):Value × Value × Value:=match st with | none=>(.int .i64 (.ofNat 0),.int .i64 (.ofNat 0),.bool false) | some ck=>(.int .i64 (.ofNat ck.1),.int .i64 (.ofNat ck.2),.bool true)
def sV (s:Bs):cd s=[] \/ cd s=bO s:=by
 unfold cd;cases h:bO s with
 | nil=>exact .inl rfl
 | cons w l=>
  by_cases q:w[0]?=some 35
  ·exact .inl (if_pos q)
  ·exact .inr (if_neg q)
def yh {s:Bs} (hs:s.length<=100000):small (cd s):=by
 intro x hx;rcases sV s with h | h
 ·rw[h] at hx;exact nomatch hx
 ·rw[h] at hx;have:=jY s [] x hx;simp at this;omega
section
def CL.set {ty:TypeId} {h:H} {v:Value} {l:List bV} (c:CL ty h v l) {b tr n:Nat} {op ro:Bool} {fz:Nat} {cs:T Value} (hb:b<=1000000000) (hq:hget h b=.row tr n op ro fz cs) (htr:tr≠9) (hv:dv v≠some b) (o:AO):CL ty (hset h b o) v l:=by
 obtain⟨L,ol,r⟩:=c;refine⟨L,ol.keep (Jd _) λb' hb' _=>?_,r.keep (Jd _) λb' n' op' cs' hl e9=>?_⟩
 ·rw[bS _ _ _ _ hb,if_neg];intro e;subst e;exact hv hb'
 ·rw[bS _ _ _ _ hb,if_neg];intro e;subst e;rw[hq] at e9;cases e9;exact htr rfl
def CL.blk {ty:TypeId} {h:H} {v:Value} {l:List bV} (c:CL ty h v l) (b:Nat) (hb:dv v=some b):b<h.next:=by obtain⟨L,o,_⟩:=c;exact o.blk b hb
def ZN {E:Env} {tl ty:TypeId} (hu:E.und tl=some (.slice ty)) {h h':H} {v:Value} {l:List bV} (c:CL ty h v l) (K:Value->R):onSl v (bindO (aX E h' tl v) K) (λ_ n _=>K (.int .i64 (.ofNat n)))=K (.int .i64 (.ofNat l.length)):=by
 obtain⟨L,o,_⟩:=c;rcases o.form with ⟨rfl,e⟩ | ⟨b,c,cells,op,rfl,_⟩
 ·rw[ji,e];have:aX E h' tl (.slice none 0 0)=some (.int .i64 (.ofNat 0)):=by unfold aX;rw[hu];rfl
  rw[this];rfl
 ·rw[bp]
variable {E : Env} (u : CE E 39) {rc : RC} {hS : H} {i23 : TypeInfo} (T2 : ug E 22 39 9 i23 br) (u23 : E.und 22 = some (.slice 39))
def okLines (ls:List Bs):Prop:=∀s∈ls,s.length<=70000/\(bO s).length<=8000
abbrev pF (hb:H) (h:H) (n:Nat) (k:Value->H->R) (K:aa [7,8,9,10,2,3,4,5,6]->H->R) (X:R) (r:PR) (ns:aa [2,3,4,5,6]):Prop:=
 (∃h' v' st' out',r=Aj [] 0 st' out'/\X=K ((I1 st').1,((I1 st').2.1,((I1 st').2.2,(v',ns)))) h'/\CL 39 h' v' out'/\(∀c,dv v'=some c->hb.next<=c)/\dj hb.next h h' n) \/
 (∃h' line er,r=(0,0,[],line,er)/\X=k (.tuple ⟨[.int .i64 (.ofNat 0),.int .i64 (.ofNat 0),.slice none 0 0,.int .i64 (.ofNat line),.int .i64 (.ofNat er)]⟩) h'/\dj hb.next h h' n)
def pF.step {hb h h1:H} {m n p:Nat} {k:Value->H->R} {K:aa [7,8,9,10,2,3,4,5,6]->H->R} {X:R} {r:PR} {ns:aa [2,3,4,5,6]} (f:dj hb.next h h1 m) (e:pF hb h1 n k K X r ns) (hp:m+n<=p):pF hb h p k K X r ns:=by
 rcases e with ⟨h',v',st',out',a,b,c,d,g⟩ | ⟨h',line,er,a,b,g⟩
 ·exact .inl ⟨h',v',st',out',a,b,c,d,f.trans g hp⟩
 ·exact .inr ⟨h',line,er,a,b,f.trans g hp⟩
include u T2 u23
theorem HE (hW:uG rc) (hF:tA rc (bu hS)) (hC:Ib rc (bu hS)) {hb:H} (hB:hS.next<=hb.next) {ev:Value} {ls:List Bs} (o:WL hb ev ls) (hls:okLines ls) (hl6:ls.length<=1000000) (k:Value->H->R) (K:aa [7,8,9,10,2,3,4,5,6]->H->R) (ns:aa [2,3,4,5,6]) (X:R):
  ∀(d i N:Nat) (h:H) (st:Option (Nat × Nat)) (out:List bV) (v:Value),i+d=ls.length->d<N->bu hS h->hb.next<=h.next->(∀id,id<hb.next->hget h id=hget hb id)->CL 39 h v out->(∀c,dv v=some c->hb.next<=c)->out.length<=1000->i<=1000000 ->
  h.next+cost (ls.drop i)<=700000000 ->
  loopF (ks:=[7,8,9,10,2,3,4,5,6,22]) (yi E (.int .i64 (.ofNat ls.length)) ev rc k K) N ((I1 st).1,((I1 st).2.1,((I1 st).2.2,(v,(ns.1,(ns.2.1,(ns.2.2.1,(ns.2.2.2.1,(ns.2.2.2.2.1,(.int .i64 (.ofNat i),())))))))))) h=X ->
  pF hb h (cost (ls.drop i)) k K X (Aj (ls.drop i) i st out) ns:=by
 have u3:=u.u3;intro d
 induction d with
 | zero=>
  intro i N h st out v hi hN hq hle hfr hcl hblk hout hi6 hn e;obtain⟨N,rfl⟩:∃M,N=M+1:=⟨N-1,by omega⟩;obtain rfl:i=ls.length:=by omega
  rw[aT] at e;unfold yi at e;dsimp only at e;rw[fj u3 (Jd _),ah] at e;rw[List.drop_length];refine .inl ⟨h,v,st,out,?_,e.symm,hcl,hblk,dj.refl _ _ _⟩;cases st <;> rfl
 | succ d ih=>
  intro i N h st out v hi hN hq hle hfr hcl hblk hout hi6 hn e;obtain⟨N,rfl⟩:∃M,N=M+1:=⟨N-1,by omega⟩;have hlt:i<ls.length:=by omega
  rw[aT] at e;generalize hLp:loopF (ks:=[7,8,9,10,2,3,4,5,6,22]) (yi E (.int .i64 (.ofNat ls.length)) ev rc k K) N=LP at e;rw[JR hlt] at hn ⊢;rw[jC];have hcost:cost (ls[i] :: ls.drop (i+1))=80+4*(bO ls[i]).length+cost (ls.drop (i+1)):=rfl;rw[hcost] at hn ⊢;cases o with
  | nil=>exact absurd hlt (Jy _)
  | row hbk hq9 hm hcap hc=>
   rename_i bk of m cap fz op ro cells;have hq9':hget h bk=.row 9 m op ro fz cells:=(hfr _ hbk).trans hq9;have hqr:∀KK,onRow (hget h bk) KK=KK 9 m op ro fz cells:=λKK=>by rw[hq9'];rfl
   have hci:=hc i hlt;obtain⟨hl1,hl2⟩:=hls _ (J6 hlt);generalize ls[i]'hlt=s at hci hl1 hl2 hn ⊢;unfold yi at e;dsimp only at e;rw[gt u3 hlt,ah,aA] at e;dsimp only at e;rw[ah,bC,bp,aj (show i+1<=ls.length by omega),bw,au] at e;dsimp only at e;rw[hqr,aj (show of+i.mul 1+1<=m by show of+i*1+1<=m;omega),show of+i.mul 1=of+i by show of+i*1=_;omega,hci] at e;obtain⟨h1,r,e1,o1,cl1,f1⟩:=hW s h _ _ (by omega) (by omega) e;replace e1:=e1.symm;have hub1:=f1.ub;have hle1:=f1.le;have hq1:bu hS h1:=hq.trans f1.from;have fb1:dj hb.next h h1 1:=f1.b hle;have hcl1:CL 39 h1 v out:=hcl.fr f1;rw[aW] at e1;rw[fv (E:=E) (h':=h1) o1 u.u30] at e1;have hadd:∀KK:Value->R,binR (binC E .add 3 false true) (.int .i64 (.ofNat i)) (.int .i64 (.ofNat 1)) KK=KK (.int .i64 (.ofNat (i+1))):=λKK=>dr u3 (by omega);by_cases hw:cd s=[]
   ·rw[if_pos hw];rw[xq u3 (show (cd s).length=0 by rw[hw];rfl)] at e1;simp only[↓ah,↓aA,↓hadd] at e1;rw[<-hLp] at e1;have key:=ih (i+1) N h1 st out v (by omega) (by omega) hq1 (by omega) (λid hid=>(fb1.old id hid).trans (hfr id hid)) hcl1 hblk hout (by omega) (by omega) e1;exact key.step fb1 (by omega)
   ·rw[if_neg hw];rw[se u3 (show ¬ (cd s).length=0 from λh=>hw (List.length_eq_zero_iff.1 h))] at e1;have hsm:small (cd s):=yh (by omega);have hwl:(cd s).length<=(bO s).length:=by
     rcases sV s with hh | hh
     ·exact absurd hh hw
     ·rw[hh];exact Jd _
    cases st with
    | none=>
     simp only[↓ah,↓ax,I1] at e1;obtain⟨h2,e2,f2⟩:=hF r _ h1 _ _ o1 hsm hq1 (by omega) e1;replace e2:=e2.symm;have hub2:=f2.ub;have hle2:=f2.le;have fb2:dj hb.next h h2 3:=fb1.trans (f2.b (by omega)) (by omega);simp only[↓bg,↓bB,↓Ea,↓du,↓ah] at e2;rw[neq_i64' u.u24] at e2;dsimp only;by_cases q0:(cQ (cd s)).2.2=0
     ·rw[if_pos q0];rw[show (!beq (cQ (cd s)).2.2 0)=false by rw[q0];rfl] at e2;simp only[↓ax,↓hadd] at e2;rw[<-hLp] at e2;have key:=ih (i+1) N h2 (some ((cQ (cd s)).1,(cQ (cd s)).2.1)) out v (by omega) (by omega) (hq1.trans f2.from) (by omega) (λid hid=>(fb2.old id hid).trans (hfr id hid)) (hcl1.fr f2) hblk hout (by omega) (by omega) e2;exact key.step fb2 (by omega)
     ·rw[if_neg q0];rw[show (!beq (cQ (cd s)).2.2 0)=true by rw[dB q0];rfl] at e2;simp only[↓aA,↓hadd] at e2;rw[aP (c:=nT _) rfl] at e2;exact .inr ⟨h2,i+1,_,rfl,e2.symm,fb2.mono (by omega)⟩
    | some ck=>
     simp only[↓ah,↓ax,↓aA,I1,↓aW] at e1;rw[ZN u23 (h':=h1) hcl1] at e1;dsimp only;by_cases q1:1000<=out.length
     ·rw[if_pos q1];rw[IK u3 q1] at e1;simp only[↓aA] at e1;rw[neq_i64' u.u24,show (!beq 15 0)=true from rfl] at e1;simp only[↓aA,↓hadd] at e1;rw[aP (c:=nT _) rfl] at e1;exact .inr ⟨h1,i+1,15,rfl,e1.symm,fb1.mono (by omega)⟩
     ·rw[if_neg q1];rw[aqB u3 (by omega)] at e1;simp only[↓ax] at e1;have hz:([.int .i64 (.ofNat 0),.int .u8 (.ofNat 0),.string (ByteArray.mk #[]),.slice none 0 0,.int .i64 (.ofNat 0),.int .i64 (.ofNat 0),.int .i64 (.ofNat 0),.int .u8 (.ofNat 0),.slice none 0 0]:List Value)=br:=rfl;rw[aj (show h1.1<=1000000000 by show h1.next<=_;omega),aD,hadd] at e1;simp only[qy] at e1;rw[hz] at e1;have f2:Fr h1 (ag h1 (.row 39 9 false false 0 (T.ofList unk br))) 1:=Fr.push _ (by omega);have e2:hget (ag h1 (.row 39 9 false false 0 (T.ofList unk br))) h1.next=.row 39 9 false false 0 (T.ofList unk br):=az _ _ (by omega);have n2:(ag h1 (.row 39 9 false false 0 (T.ofList unk br))).next=h1.next+1:=rfl;generalize ag h1 (.row 39 9 false false 0 (T.ofList unk br))=h2 at e1 f2 e2 n2;obtain⟨w0,l,hwl0⟩:∃w0 l,cd s=w0 :: l:=by
       cases hh:cd s with
       | nil=>exact absurd hh hw
       | cons w0 l=>exact⟨w0,l,rfl⟩
      rw[hwl0] at o1 hsm hwl ⊢;have hend:=hC (i+1) r w0 l h2 _ _ (hq1.trans f2.from) (by omega) (o1.fr f2) cl1 (λx hx=>hsm x (JG _ hx)) (by rw[Jz] at hwl;omega) e1;have fb2:dj hb.next h h2 2:=fb1.trans (f2.b (by omega)) (by omega);have hcl2:CL 39 h2 v out:=hcl1.fr f2;have hvb:dv v≠some h1.next:=λee=>by have:=hcl1.blk _ ee;omega
      rw[Jz] at hwl;cases hcmd:eY (i+1) (w0 :: l) with
      | ok y=>
       rw[hcmd] at hend;obtain⟨h3,on,tx,f3,e3,s1,s2,b1,b2⟩:=hend;replace e3:=e3.symm;have hub3:=f3.ub;have hle3:=f3.le;have e33:hget h3 h1.next=.row 39 9 false false 0 (T.ofList unk br):=(f3.old _ (by omega)).trans e2;simp only[↓bg,↓bB,↓du,↓bP] at e3;rw[xt e33 rfl (nk s1 s2)] at e3;have hsl:∀x w,SO h3 w x->SO (hset h3 h1.next (.row 39 9 false false 0 (putF (T.ofList unk br) 0 (cmdL y on tx)))) w x:=λx w o=>o.keep (Jd _) λc hc hl=>by rw[bS _ _ _ _ (by omega),if_neg];intro ee;subst ee;obtain⟨n,op,cs,e2⟩:=o.row9 hc;rw[e33] at e2;cases e2
       have hcl4:CL 39 (hset h3 h1.next (.row 39 9 false false 0 (putF (T.ofList unk br) 0 (cmdL y on tx)))) v out:=(hcl2.fr f3).set (by omega) e33 (by decide) hvb _;have e44:hget (hset h3 h1.next (.row 39 9 false false 0 (putF (T.ofList unk br) 0 (cmdL y on tx)))) h1.next=.row 39 9 false false 0 (putF (T.ofList unk br) 0 (cmdL y on tx)):=bj _ _ _ (by omega);have s14:=hsl _ _ s1;have s24:=hsl _ _ s2;have n4:(hset h3 h1.next (.row 39 9 false false 0 (putF (T.ofList unk br) 0 (cmdL y on tx)))).next=h3.next:=rfl;have fb4:dj hb.next h3 (hset h3 h1.next (.row 39 9 false false 0 (putF (T.ofList unk br) 0 (cmdL y on tx)))) 0:=dj.set (by omega) (by omega) _;have hfb3:dj hb.next h h3 (2+(60+4*l.length)):=fb2.trans (f3.b (by omega)) (Jd _);have hcp:ae (putF (T.ofList unk br) 0 (cmdL y on tx)) 9 0=cmdL y on tx:=iA _ rfl;generalize hset h3 h1.next (.row 39 9 false false 0 (putF (T.ofList unk br) 0 (cmdL y on tx)))=h4 at e3 hcl4 e44 s14 s24 n4 fb4;have hqr4:∀KK,onRow (hget h4 h1.1) KK=KK 39 9 false false 0 (putF (T.ofList unk br) 0 (cmdL y on tx)):=λKK=>by rw[show h1.1=h1.next from rfl,e44];rfl
       rw[hqr4,aP (c:=ble 9 9) rfl,hcp] at e3;have hfill:=aq9 s14 s24;rw[hfill] at e3;simp only[↓jj] at e3;rw[aj (show h4.1<=1000000000 by show h4.next<=_;omega),aD] at e3;have hall1:(cmdL y on tx).all cell1=true:=by
        have h1:=nk s14 s24;rw[Jv] at h1 ⊢;intro v hv;have:=h1 v hv
        revert this
        cases v <;> intro this <;> first | rfl | exact this
       obtain⟨v',h5,e5,n5,b5,f5,c5⟩:=vR T2 (by decide) hcl4 (by omega) (by omega) (xs:=cmdL y on tx) rfl hall1;rw[cg (show ba E (ag h4 (.row 39 9 false false 0 (T.ofList unk (cmdL y on tx)))) .append [v,.slice (some (Addr.mk h4.1 0 none)) 1 2] [22,22]=some (v',h5) from e5)] at e3;rw[neq_i64' u.u24,show (!beq 0 0)=false from rfl] at e3;simp only[↓ax,↓hadd] at e3;rw[<-hLp] at e3;have fb5:dj hb.next h4 h5 2:=⟨by omega,by omega,λid hid=>f5 id (by omega) λee=>by have:=hblk _ ee;omega⟩;have hfb5:dj hb.next h h5 (2+(60+4*l.length)+2):=(hfb3.trans fb4 (Jd _)).trans fb5 (by omega);have key:=ih (i+1) N h5 (some ck) (out ++ [y]) v' (by omega) (by omega) (hq.frB hfb5 (by omega)) (by omega) (λid hid=>(hfb5.old id hid).trans (hfr id hid)) (c5 y on tx rfl s14 s24) (λc hc=>by rw[b5] at hc;cases hc;omega) (by simp;omega) (by omega) (by omega) e3;exact key.step hfb5 (by omega)
      | error er=>
       rw[hcmd] at hend;obtain⟨hne,h3,f3,e3⟩:=hend;replace e3:=e3.symm;have hub3:=f3.ub;have hle3:=f3.le;have e33:hget h3 h1.next=.row 39 9 false false 0 (T.ofList unk br):=(f3.old _ (by omega)).trans e2;simp only[↓bg,↓bB,↓du,↓bP] at e3;rw[xt e33 rfl rfl] at e3;have hcl4:CL 39 (hset h3 h1.next (.row 39 9 false false 0 (putF (T.ofList unk br) 0 br))) v out:=(hcl2.fr f3).set (by omega) e33 (by decide) hvb _;have e44:hget (hset h3 h1.next (.row 39 9 false false 0 (putF (T.ofList unk br) 0 br))) h1.next=.row 39 9 false false 0 (putF (T.ofList unk br) 0 br):=bj _ _ _ (by omega);have n4:(hset h3 h1.next (.row 39 9 false false 0 (putF (T.ofList unk br) 0 br))).next=h3.next:=rfl;have fb4:dj hb.next h3 (hset h3 h1.next (.row 39 9 false false 0 (putF (T.ofList unk br) 0 br))) 0:=dj.set (by omega) (by omega) _;have hfb3:dj hb.next h h3 (2+(60+4*l.length)):=fb2.trans (f3.b (by omega)) (Jd _);have hcp:ae (putF (T.ofList unk br) 0 br) 9 0=br:=iA _ rfl;generalize hset h3 h1.next (.row 39 9 false false 0 (putF (T.ofList unk br) 0 br))=h4 at e3 hcl4 e44 n4 fb4;have hqr4:∀KK,onRow (hget h4 h1.1) KK=KK 39 9 false false 0 (putF (T.ofList unk br) 0 br):=λKK=>by rw[show h1.1=h1.next from rfl,e44];rfl
       rw[hqr4,aP (c:=ble 9 9) rfl,hcp,aci] at e3;simp only[↓jj] at e3;rw[aj (show h4.1<=1000000000 by show h4.next<=_;omega),aD] at e3;obtain⟨v',h5,e5,n5,b5,f5,c5⟩:=vR T2 (by decide) hcl4 (by omega) (by omega) (xs:=br) rfl rfl;rw[cg (show ba E (ag h4 (.row 39 9 false false 0 (T.ofList unk br))) .append [v,.slice (some (Addr.mk h4.1 0 none)) 1 2] [22,22]=some (v',h5) from e5)] at e3;rw[neq_i64' u.u24,show (!beq er 0)=true by rw[dB hne];rfl] at e3;simp only[↓aA,↓hadd] at e3;rw[aP (c:=nT _) rfl] at e3;have fb5:dj hb.next h4 h5 2:=⟨by omega,by omega,λid hid=>f5 id (by omega) λee=>by have:=hblk _ ee;omega⟩;have hfb5:dj hb.next h h5 (2+(60+4*l.length)+2):=(hfb3.trans fb4 (Jd _)).trans fb5 (by omega);exact .inr ⟨h5,i+1,er,rfl,e3.symm,hfb5.mono (by omega)⟩
end
section
def A4:∀ls:List Bs,cost ls<=80*ls.length+4*(ls.map λs=>s.length).sum
 | []=>Jd _
 | s :: l=>by
  have:=A4 l;have hw:∀(s acc:Bs),(cD acc s).length<=s.length+(if acc=[] then 0 else 1):=by
   intro s
   induction s with
   | nil=>intro acc;unfold cD;split <;> simp
   | cons b s ih=>
    intro acc;unfold cD;by_cases hb:b=32
    ·rw[if_pos hb];have h0:=ih [];rw[if_pos rfl] at h0;by_cases ha:acc=[]
     ·rw[if_pos ha,if_pos ha];simp;omega
     ·rw[if_neg ha,if_neg ha];simp;omega
    ·rw[if_neg hb];have h0:=ih (acc ++ [b]);rw[if_neg (by simp)] at h0;simp only[Jz];omega
  have h1:=hw s [];rw[if_pos rfl] at h1;have h1:(bO s).length<=s.length:=h1;unfold cost;simp only[Jz,J5,List.sum_cons];omega
def kV:∀s:Bs,((aU s).map λs=>s.length).sum+(aU s).length=s.length+1
 | []=>rfl
 | b :: s=>by
  have ih:=kV s;have hne:=lA s;unfold aU;by_cases hb:b=10
  ·rw[if_pos hb];simp;omega
  ·rw[if_neg hb];cases h:aU s with
   | nil=>exact absurd h hne
   | cons l r=>rw[h] at ih;simp[Co] at ih ⊢;omega
def Ah (s:Bs):cost (aU s)<=80*(s.length+1):=by have h1:=A4 (aU s);have h2:=kV s;omega
def DO (s:Bs):(aU s).length<=s.length+1:=by have:=kV s;omega
def line_le (s:Bs):∀x∈aU s,x.length<=s.length:=by
 intro x hx;have h2:=kV s;have:∀(ls:List Bs),x∈ls->x.length+ls.length<=(ls.map λs=>s.length).sum+ls.length:=by
  intro ls
  induction ls with
  | nil=>intro h;exact nomatch h
  | cons a l ih=>
   intro h;rcases Jr.1 h with rfl | h
   ·simp
   ·have:=ih h;simp at this ⊢;omega
 have:=this _ hx;have hne:1<=(aU s).length:=by
  cases h:aU s with
  | nil=>exact absurd h (lA s)
  | cons _ _=>simp
 omega
variable {E : Env} (u : CE E 39) {rc : RC} {hS : H} {i23 : TypeInfo} (T2 : ug E 22 39 9 i23 br) (u23 : E.und 22 = some (.slice 39))
include u T2 u23
theorem aev (hSp:Ch rc (bu hS)) (hW:uG rc) (hF:tA rc (bu hS)) (hC:Ib rc (bu hS)) {s:Bs} (hs:s.length<=70000) (hls:okLines (aU s)) {h:H} (hq:bu hS h) (hn:h.next<=600000000) (k:Value->H->R) (X:R) (e:p11 E rc (ak s) h k=X):
  x0 39 h.next h (80*(s.length+2)) k X (gJ s):=by
 have u3:=u.u3;have hcost:=Ah s;have hlen:∀KK,bindO (aX E h 9 (ak s)) KK=KK (.int .i64 (.ofNat s.length)):=λKK=>by unfold ak;rw[js u.toUS];rfl
 unfold p11 at e;rw[hlen] at e;unfold gJ;by_cases q:65536<s.length
 ·rw[if_pos q];rw[qU u3 q] at e;simp only[↓ah,↓aA] at e;exact⟨h,.slice none 0 0,dj.refl _ _ _,e.symm,CL.nil,λc hc=>nomatch hc⟩
 ·rw[if_neg q];rw[oO u3 (by omega)] at e;simp only[↓ah,↓ax,↓aW] at e;rw[hSp s h (by omega) hq (by omega)] at e;have o:=FZ (h:=h) (aU s) (by omega);have f:Fr h (ag h (.row 9 (aU s).length false false 0 (T.ofList unk ((aU s).map ak)))) 1:=Fr.push _ (by omega);have n1:(ag h (.row 9 (aU s).length false false 0 (T.ofList unk ((aU s).map ak)))).next=h.next+1:=rfl;generalize ag h (.row 9 (aU s).length false false 0 (T.ofList unk ((aU s).map ak)))=h1 at e o f n1;generalize hv:Value.slice (some ⟨h.next,0,none⟩) (aU s).length (2*(aU s).length)=v at e o;rw[fv (E:=E) (h':=h1) o u.u30] at e;have hll:=DO s;have hq1:bu hS h1:=hq.trans f.from;have key:=HE u T2 u23 hW hF hC (hb:=h1) hq1.le o hls (by omega) k _ (.int .i64 (.ofNat 0),(.int .i64 (.ofNat 0),(.slice none 0 0,(.int .i64 (.ofNat 0),(.int .i64 (.ofNat 0),()))))) X (aU s).length 0 cM h1 none [] (.slice none 0 0) (by omega) (by unfold cM;omega) hq1 (Jd _) (λ_ _=>rfl) CL.nil (λc hc=>nomatch hc) (JY _) (JY _) (by rw[List.drop_zero];omega) e;rw[List.drop_zero] at key;rcases key with ⟨h',v',st',out',hr,hx,hc,hb,hf⟩ | ⟨h',line,er,hr,hx,hf⟩
  ·rw[hr];have fr:dj h.next h h' (80*(s.length+2)):=(f.b (Jd _)).trans (⟨hf.le,hf.ub,λid hid=>hf.old id (by omega)⟩:dj h.next h1 h' (cost (aU s))) (by omega);cases st' with
   | none=> simp only[I1,↓ax] at hx;exact⟨h',.slice none 0 0,fr,hx,CL.nil,λc hc=>nomatch hc⟩
   | some ck=>
    simp only[I1,↓aA] at hx;unfold H4 at hx
    rw[aP (c:=nT _) (by
     obtain⟨L,ol,_⟩:=hc
     rcases ol.form with ⟨rfl,_⟩ | ⟨b,c,cells,op,rfl,_⟩ <;> rfl)] at hx
    exact⟨h',v',fr,hx,hc,λc hc=>by have:=hb c hc;omega⟩
  ·rw[hr];have fr:dj h.next h h' (80*(s.length+2)):=(f.b (Jd _)).trans (⟨hf.le,hf.ub,λid hid=>hf.old id (by omega)⟩:dj h.next h1 h' (cost (aU s))) (by omega);exact⟨h',.slice none 0 0,fr,hx,CL.nil,λc hc=>nomatch hc⟩
end
end Go.Ev.Pa
