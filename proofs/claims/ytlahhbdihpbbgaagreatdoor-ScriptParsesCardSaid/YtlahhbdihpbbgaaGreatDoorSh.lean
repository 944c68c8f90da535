/-
  THE LAW's CALL on any text, from the row's first memory: it answers true; the world is kept.
-/
import Derived.Test.YtlahhbdihpbbgaaGreatDoorSg
import Derived.OpenShut
import Derived.ChangeArms
import Derived.Test.YtlahhbdihpbbgaaGreatDoorRows
noncomputable section
set_option linter.unusedVariables false
set_option linter.unusedSimpArgs false
set_option maxRecDepth 100000
set_option exponentiation.threshold 3000
open Nat (ble beq)
namespace Go.Ev
open Go F Go.Proofs
section
theorem u4:EP.und 4=some .bool:=by kernel_rfl
variable {hS : H} (hs : HS hS)
include hs
theorem r6 (m:Nat) {h:H} (hq:cD hS h) (k:Value->H->R):az EP KK (m+1) 6 [] h k=k (.bool true) h:=tc0 fc6 m _ h k (by
 unfold aV
 rw[mj hq glob 0 (by have:=hs.n;show 0+8<=_;omega) hs.g];rfl)
end
section
theorem LR.len {h:H} {L:List Value} {l:List iq} (r:LR h L l):L.length=l.length*9:=by
 induction r with
 | nil=>rfl
 | snoc r s1 s2 ih=>rw[List.length_append,List.length_append,ih,show (dJ _ _ _).length=9 from rfl];simp;omega
theorem LR.at {h:H} {L:List Value} {l:List iq} (r:LR h L l):∀(i:Nat) (hi:i<l.length),∃on tx,(∀j,j<9->L.getD (i*9+j) unk=(dJ l[i] on tx).getD j unk)/\SO h on (l[i]).on/\SO h tx (l[i]).texts:=by
 induction r with
 | nil=>intro i hi;exact absurd hi (Nat.not_lt_zero _)
 | snoc r s1 s2 ih=>
  rename_i L l c on tx;intro i hi;have hl:=r.len;rw[List.length_append,List.length_singleton] at hi;by_cases q:i<l.length
  ·obtain⟨on',tx',h1,h2,h3⟩:=ih i q;refine⟨on',tx',λj hj=>?_,?_,?_⟩
   ·rw[List.getElem_append_left q,<-h1 j hj,List.getD_eq_getElem?_getD,List.getD_eq_getElem?_getD,List.getElem?_append_left (by omega)]
   ·rw[List.getElem_append_left q];exact h2
   ·rw[List.getElem_append_left q];exact h3
  ·obtain rfl:i=l.length:=by omega
   refine⟨on,tx,λj hj=>?_,?_,?_⟩
   ·rw[List.getElem_append_right (Nat.le_refl _),List.getD_eq_getElem?_getD,List.getElem?_append_right (by omega),show l.length*9+j-L.length=j by omega,<-List.getD_eq_getElem?_getD];simp
   ·rw[List.getElem_append_right (Nat.le_refl _)];simpa using s1
   ·rw[List.getElem_append_right (Nat.le_refl _)];simpa using s2
theorem CL.at {ty:TypeId} {h:H} {v:Value} {l:List iq} (c:CL ty h v l) {i:Nat} (hi:i<l.length):∃b cp cells op on tx,v=.slice (some ⟨b,0,none⟩) l.length cp/\b<h.next/\hget h b=.row ty (l.length*9) op false 0 cells/\ac cells 9 (i*9)=dJ l[i] on tx/\SO h on (l[i]).on/\SO h tx (l[i]).texts:=by
 obtain⟨L,o,r⟩:=c;obtain⟨on,tx,h1,h2,h3⟩:=r.at i hi;have hL:=r.len;generalize hn:l.length=n at o;cases o with
 | nil=>rw[hn] at hi;exact absurd hi (Nat.not_lt_zero _)
 | row hb hq hLn hc hp=> rename_i b fz op cells;refine⟨b,_,cells,op,on,tx,rfl,hb,hq,?_,h2,h3⟩;rw[dS,show (9:Nat)=(dJ l[i] on tx).length from rfl];refine fN _ _ _ λj hj=>?_;have hj:j<9:=hj;rw[show i*(dJ l[i] on tx).length=i*9 from rfl,<-cL,hc _ (by rw[hL];omega)];exact h1 j hj
theorem asU {h:H} {x:iq} {on tx:Value} (s1:SO h on x.on) (s2:SO h tx x.texts):aj (.agg ⟨dJ x on tx⟩) (.agg ⟨dJ x on tx⟩)=true:=by
 have h1:fV on on=true:=by
  rcases s1.form with ⟨rfl,_⟩ | ⟨b,c,cells,op,rfl,_⟩
  ·rfl
  ·simp[fV]
 have h2:fV tx tx=true:=by
  rcases s2.form with ⟨rfl,_⟩ | ⟨b,c,cells,op,rfl,_⟩
  ·rfl
  ·simp[fV]
 have h3:∀l:Bs,fV (aF l) (aF l)=true:=λl=>by show g9 l l=true;rw[dy];simp
 have h4:∀(k:IntKind) (n:Int),fV (.int k n) (.int k n)=true:=λk n=>by simp[fV]
 show mN (dJ x on tx) (dJ x on tx)=true;unfold dJ;simp only[mN,h1,h2,h3,h4,Bool.and_self]
theorem as6 (a:Addr) (n c:Nat):aj (.slice (some a) n c) (.slice (some a) n c)=true:=by simp[aj,iC,fV]
variable {hS : H} (hs : HS hS)
omit hs in
theorem r24 (m:Nat):Alike (az EP KK (m+1)):=λh v v' l k o o' hn hl=>(avn m v v' h k).trans (auz us tn.u30 o o' hn hl k)
omit hs in
theorem r9 (m:Nat) {h:H} (hn:h.next<=800000000) {x:iq} {on tx on' tx':Value} (s1:SO h on x.on) (s2:SO h tx x.texts) (s1':SO h on' x.on) (s2':SO h tx' x.texts) (ho:arj x) (k:Value->H->R):
  ∃h',Fr h h' 2/\az EP KK (m+2) 9 [.agg ⟨dJ x on tx⟩,.agg ⟨dJ x on' tx'⟩] h k=k (.bool true) h':=by
 obtain⟨h',f,e⟩:=awc us (rc:=az EP KK (m+1)) (r24 m) hn s1.wl s2.wl s1'.wl s2'.wl s1.cell1 s2.cell1 s1'.cell1 s2'.cell1 (by have:=ho.1;omega) (by have:=ho.2;omega) k;exact⟨h',f,(tc9 (m+1) _ _ h k).trans e⟩
omit hs in
theorem r10 (m:Nat) {h:H} (hn:h.next<=800000000) {x:iq} {on tx:Value} (s1:SO h on x.on) (s2:SO h tx x.texts) (k:Value->H->R):∃h',Fr h h' 2/\az EP KK (m+1) 10 [.agg ⟨dJ x on tx⟩] h k=k (.agg ⟨dJ x on tx⟩) h':=by obtain⟨h',f,e⟩:=aux (rc:=az EP KK m) hn s1.wl s2.wl k;exact⟨h',f,(avq m _ h k).trans e⟩
theorem SO.fr {h h':H} {n:Nat} {v:Value} {l:List Bs} (o:SO h v l) (f:Fr h h' n):SO h' v l:=o.keep f.le λb _ hl=>f.old b hl
end
section
theorem as1 {E:Env} {ty:TypeId} (hE:E.und ty=some (.int .i64)) {cx cy:Bool} {n:Nat} {k:Value->R}:binR (binC E .neq ty cx cy) (.int .i64 (.ofNat n)) (.int .i64 (.ofNat n)) k=k (.bool false):=(vj hE).trans (by rw[Nat.beq_refl];rfl)
variable {hS : H} (hs : HS hS)
include hs
end
theorem q43 (m:Nat):atm (az EP KK (m+1)):=λw h k hw=>(avG m _ h k).trans (ato us hw k)
theorem q20 (m:Nat):aso (az EP KK (m+1)):=λs h k X hs hn e=>by obtain⟨h',v,e1,o,n1,n2,o1,_⟩:=auP us t30 hs hn k X ((avi m _ h k).symm.trans e);exact⟨h',v,e1,o,n2,n1,o1⟩
theorem q21 (m:Nat):aru (az EP KK (m+1)):=λs h k X hs hn e=>by obtain⟨h',v,e1,o,n1,n2,o1,_⟩:=auA us t30 hs hn k X ((avR m _ h k).symm.trans e);exact⟨h',v,e1,o,n2,n1,o1⟩
theorem q22 (m:Nat):arn (az EP KK (m+2)):=λv w0 l h k o hs=>(avO (m+1) _ h k).trans (aui (q43 m) o hs k)
theorem arD {n er:Nat} {s:Bs} (e:fX n [s]=.error er):er≠0:=by
 unfold fX at e;dsimp only at e;split at e
 ·cases e;decide
 ·split at e
  ·unfold fv at e;exact nomatch e
  ·cases e;decide
theorem q23 (m:Nat):asK (az EP KK (m+1)):=λline v w0 l h k X hn o hs hl e=>by
 rw[show az EP KK (m+1) 23 [.int .i64 (.ofNat line),v] h k=cT (X23 [.int .i64 (.ofNat line),v] h) k by
  show (bN EP KK 23).run _ _ _ _=_
  rw[avu]] at e
 by_cases hcl:gT v \/ 1<=l.length
 ·have hno:ako [.int .i64 (.ofNat line),v] h=none:=by
   cases hh:ako [.int .i64 (.ofNat line),v] h with
   | none=>rfl
   | some r=>
    obtain⟨n,b,s⟩:=r;obtain⟨ha,ro,fz,c,hq,hc⟩:=arh hh;have hv:v=.slice (some ⟨b,0,none⟩) 1 3:=by rw[List.cons.injEq,List.cons.injEq] at ha;exact ha.2.1
    subst hv;rcases o.form with ⟨e1,_⟩ | ⟨b',c',cells,op,e1,_⟩
    ·exact nomatch e1
    ·rw[List.length_cons] at e1;have:1=l.length+1:=(Value.slice.inj e1).2.1;rcases hcl with hcl | hcl
     ·exact absurd (show 3%2=0 from hcl) (by decide)
     ·omega
  have hx:X23 [.int .i64 (.ofNat line),v] h=az EnvO KK 43 23 [.int .i64 (.ofNat line),v] h λv h'=>some (v,h'):=by unfold X23;rw[hno]
  have key:=auq 40 o.wl hcl (λx hx=>hs x (List.mem_cons_of_mem _ hx)) hl (by omega) line _ _ hx.symm;cases hcm:fX line (w0 :: l) with
  | ok y=> rw[hcm] at key;obtain⟨h',on,tx,f,e1,s1,s2⟩:=key;rw[e1] at e;exact⟨h',on,tx,f,e.symm,s1,s2⟩
  | error er=> rw[hcm] at key;obtain⟨hne,h',f,e1⟩:=key;rw[e1] at e;exact⟨hne,h',f,e.symm⟩
 ·have hl0:l=[]:=List.length_eq_zero_iff.1 (by omega);subst hl0;have hone:ako [.int .i64 (.ofNat line),v] h=some (line,(dn v).getD 0,w0):=by
   unfold SO at o;have:∀n L,OL 9 1 h v n L->n=1->L=[aF w0]->ako [.int .i64 (.ofNat line),v] h=some (line,(dn v).getD 0,w0):=λn L o hn hL=>by
    cases o with
    | nil=>omega
    | row hb hq hLn hc hp=>
     rename_i b fz op cells;subst hn hL;cases op with
     | false=>exact absurd (Or.inl (show (2*1+0)%2=0 by decide)) hcl
     | true=> rw[bI] at hq;have hc0:=hc 0 (by simp);rw[cL] at hc0;unfold ako;simp only[Bool.toNat_true,hq,hc0];rfl
   exact this _ _ o rfl rfl
  have hx:X23 [.int .i64 (.ofNat line),v] h=some (akr line w0,h):=by unfold X23;rw[hone]
  rw[hx] at e;unfold akr at e;cases hcm:fX line [w0] with
  | ok y=> rw[hcm] at e;obtain⟨y1,y2⟩:=alf hcm;exact⟨h,_,_,Fr.refl _ _,e.symm,by rw[y1];exact .nil,by rw[y2];exact .nil⟩
  | error er=> rw[hcm] at e;exact⟨arD hcm,h,Fr.refl _ _,e.symm⟩
theorem q8 (m:Nat) {s:Bs} (hs:s.length<=8000) {h:H} (hn:h.next<=300000000) (k:Value->H->R) (X:R) (e:az EP KK (m+3) 8 [aF s] h k=X):rz 34 h.next h 200000000 k X (eB s):=
 avJ (q20 (m+1)) (q21 (m+1)) (q22 m) (q23 (m+1)) hs hn k X ((tc8 (m+2) _ h k).symm.trans e)
theorem aur (m:Nat) {l:List iq} (hl:l.length<=1000) (hok:∀c∈l,arj c) {v w:Value} (k:Value->H->R) (b:aa [2]->H->R) (X:R):∀(d i N:Nat) (x:Value) (h:H),i+d=l.length->d<N->CL 32 h v l->CL 34 h w l->h.next+6*d<=700000000 ->
  loopF (ks:=[2,63]) (asP EP (.int .i64 (.ofNat l.length)) v w (az EP KK (m+2)) k b) N (x,(.int .i64 (.ofNat i),())) h=X->∃h',X=b (x,()) h':=by
 have u3:=us.u3;intro d
 induction d with
 | zero=> intro i N x h hi hN c1 c2 hn e;obtain⟨N,rfl⟩:∃M,N=M+1:=⟨N-1,by omega⟩;rw[ce] at e;unfold asP at e;dsimp only at e;rw[iu u3 (show l.length<=i by omega),ai] at e;exact⟨h,e.symm⟩
 | succ d ih=>
  intro i N x h hi hN c1 c2 hn e;obtain⟨N,rfl⟩:∃M,N=M+1:=⟨N-1,by omega⟩;have hlt:i<l.length:=by omega
  rw[ce] at e;generalize hL:loopF (ks:=[2,63]) (asP EP (.int .i64 (.ofNat l.length)) v w (az EP KK (m+2)) k b) N=L at e;have c1o:=c1;have c2o:=c2;obtain⟨b1,cp1,na,op1,on1,tx1,rfl,hb1,hq1,hc1,s1,s2⟩:=c1.at hlt;obtain⟨b2,cp2,cells2,op2,on2,tx2,rfl,hb2,hq2,hc2,s1',s2'⟩:=c2.at hlt;have hcok:=hok _ (List.getElem_mem hlt);generalize l[i]'hlt=c at hc1 hc2 s1 s2 s1' s2' hcok;have hi9:0+i.mul 9+9<=l.length*9:=by show 0+i*9+9<=_;omega
  have hz:0+i.mul 9=i*9:=Nat.zero_add _;have hqr1:∀KK,onRow (hget h b1) KK=KK 32 (l.length*9) op1 false 0 na:=λKK=>by rw[hq1];rfl
  unfold asP at e;dsimp only at e;rw[km u3 hlt,ai,aK] at e;dsimp only at e;rw[ai,cn,bZ,au (show i+1<=l.length by omega),co,aG] at e;dsimp only at e;have hz9:([.int .i64 (.ofNat 0),.int .u8 (.ofNat 0),.string (ByteArray.mk #[]),.slice none 0 0,.int .i64 (.ofNat 0),.int .i64 (.ofNat 0),.int .i64 (.ofNat 0),.int .u8 (.ofNat 0),.slice none 0 0]:List Value)=aO:=rfl;rw[hqr1,au hi9,au (show h.1<=1000000000 by show h.next<=_;omega),aJ,hz9,hz,hc1] at e;have f0:Fr h (ag h (.row 32 9 false false 0 (T.ofList unk aO))) 1:=Fr.push _ (by omega);have e0:hget (ag h (.row 32 9 false false 0 (T.ofList unk aO))) h.next=.row 32 9 false false 0 (T.ofList unk aO):=aD _ _ (by omega);have n0:(ag h (.row 32 9 false false 0 (T.ofList unk aO))).next=h.next+1:=rfl;generalize ag h (.row 32 9 false false 0 (T.ofList unk aO))=h0 at e f0 e0 n0;rw[show h.1=h.next from rfl,AV e0 rfl (j4 s1 s2)] at e;have hcp:ac (putF (T.ofList unk aO) 0 (dJ c on1 tx1)) 9 0=dJ c on1 tx1:=jj _ rfl;have e1:hget (hset h0 h.next (.row 32 9 false false 0 (putF (T.ofList unk aO) 0 (dJ c on1 tx1)))) h.next=.row 32 9 false false 0 (putF (T.ofList unk aO) 0 (dJ c on1 tx1)):=cm _ _ _ (by omega);have f1:Fr h (hset h0 h.next (.row 32 9 false false 0 (putF (T.ofList unk aO) 0 (dJ c on1 tx1)))) 1:=⟨by show h.next<=h0.next;omega,by show h0.next<=_;omega,λid hid=>(dA _ _ (by omega) hid).trans (f0.old id hid)⟩;generalize hset h0 h.next (.row 32 9 false false 0 (putF (T.ofList unk aO) 0 (dJ c on1 tx1)))=h1 at e e1 f1;have hub1:=f1.ub;rw[au (show h1.1<=1000000000 by show h1.next<=_;omega),aJ,hmk] at e;have hqr2:∀KK,onRow (hget h1 b2) KK=KK 34 (l.length*9) op2 false 0 cells2:=λKK=>by rw[f1.old _ hb2,hq2];rfl
  rw[show (onRow (hget h1 h.next):_)=onRow (.row 32 9 false false 0 (putF (T.ofList unk aO) 0 (dJ c on1 tx1))) by rw[e1],dQ,dF (c:=ble 9 9) rfl,cn,bZ,au (show i+1<=l.length by omega),co,aG] at e;dsimp only at e;rw[hqr2,au hi9,hz,hc2,hcp] at e;obtain⟨h2,f2,e2⟩:=r10 (m+1) (h:=h1) (by omega) (s1.fr f1) (s2.fr f1) _;rw[e2] at e;have hub2:=f2.ub;have f12:=f1.trans f2 (Nat.le_refl _);have hqr2':∀KK,onRow (hget h2 b2) KK=KK 34 (l.length*9) op2 false 0 cells2:=λKK=>by rw[f12.old _ hb2,hq2];rfl
  rw[as6,eP,zD,eP,cn,bZ,au (show i+1<=l.length by omega),co,hz,A7,eP,aG] at e;dsimp only at e;rw[hqr2',au (show i*9+9<=l.length*9 by omega),hc2,asU s1' s2',eP] at e;obtain⟨h3,f3,e3⟩:=r9 m (h:=h2) (by omega) (s1.fr f12) (s2.fr f12) (s1'.fr f12) (s2'.fr f12) hcok _;rw[e3] at e;have hub3:=f3.ub;have f13:=f12.trans f3 (Nat.le_refl _);rw[aK,ai] at e;dsimp only at e;rw[dl u3 (by omega),<-hL] at e;exact ih (i+1) N x h3 (by omega) (by omega) (c1o.fr f13) (c2o.fr f13) (by omega) e
section
variable {hS : H} (hs : HS hS)
include hs
theorem avH (m:Nat) {s:Bs} {h:H} (hq:cD hS h) (hn:h.next<=100000000) (k:Value->H->R):∃h',az EP KK (m+6) 3 [aF s] h k=k (.bool true) h':=by
 have u3:=us.u3;have u24:=tn.u24;have u23:EP.und 23=some (.slice 32):=by kernel_rfl
 rw[tc3];generalize hX:pl3 EP (az EP KK (m+5)) (aF s) h k=X;unfold pl3 at hX;rw[r6 hs (m+4) hq,aK,ai] at hX;unfold atT at hX;dsimp only at hX;have hlen:∀KK',bindO (bv EP h 9 (aF s)) KK'=KK' (.int .i64 (.ofNat s.length)):=λKK'=>by unfold aF;rw[nS us];rfl
 rw[hlen] at hX;by_cases q:8000<s.length
 ·rw[mB u3 q,ai,aK] at hX;exact⟨h,hX.symm⟩
 rw[lG u3 (by omega),ai,aM] at hX;have hw1:∀x∈aR s,(bd x).length<=8000:=λx hx=>by have:=akp x;have:=ark s x hx;omega
 have ok1:j6 (aR s):=λx hx=>⟨by have:=ark s x hx;omega,hw1 x hx⟩;obtain⟨h1,v1,f1,e1,c1,_⟩:=oA hs m (by omega) ok1 hq (by omega) _ _ hX;replace e1:=e1.symm;have hub1:=f1.ub;simp only[↓bJ,↓bK,↓ly,↓cd] at e1;obtain⟨h2,v2,f2,e2,c2,_⟩:=q8 (m+2) (by omega) (by omega) _ _ e1;have hub2:=f2.ub;obtain⟨hk1,hk2⟩:=as4 hw1;generalize eB s=r at e1 e2 c1 c2 hk1 hk2;clear e1 hX;replace e2:=e2.symm;have c1':CL 32 h2 v1 r.2.2.1:=c1.fr f2.fr;have hlen1:∀(K:Value->R) (hx:H),onSl v1 (bindO (bv EP hx 23 v1) K) (λ_ n _=>K (.int .i64 (.ofNat n)))=K (.int .i64 (.ofNat r.2.2.1.length)):=λK hx=>tJ u23 (h':=hx) c1' K;have hlen2:∀(K:Value->R) (hx:H),onSl v2 (bindO (bv EP hx 27 v2) K) (λ_ n _=>K (.int .i64 (.ofNat n)))=K (.int .i64 (.ofNat r.2.2.1.length)):=λK hx=>tJ u27 (h':=hx) c2 K;simp only[↓bJ,↓bK,↓ly,↓cd,↓as1 u3,↓bz,↓ai,↓cJ,↓dO,↓aM,as3,↓hlen1,↓hlen2,atA] at e2;exact (aur (m+3) hk1 hk2 k _ X r.2.2.1.length 0 ft _ h2 (Nat.zero_add _) (by unfold ft;omega) c1' c2 (by omega) e2).imp λh' e=>e
end
end Go.Ev
namespace Go.Ev
open Go F Go.Proofs Go.Proofs.YtlahhbdihpbbgaaGreatDoor
theorem nG {H:Type} {enc:TypeId × Value->H} {P:Program} {w:World} {base:Nat} {sp:Nat->Bool} {held:Bool} {fuel:Nat} {t e:TypeId} {n:Nat} {k:IntKind} {cs:List Value} {zs:List Int} {p:List MemPlace}
  (ht:P.underlying t=some (.array n e)) (he:P.underlying e=some (.int k)) (hc:P.cellsOf e=1) (h:DataW.trod enc P w base sp held fuel t cs=some (.agg (zs.map λz=>.lit (.int k z)),p)) (i:Nat) (z:Int) (hz:zs[i]?=some z):cs[i]?=some (.int k z):=by
 obtain⟨xs,m,rfl,hx,hl,hn,hel⟩:=DataW.trod_array ht h;simp only[Prod.mk.injEq,DataW.agg.injEq] at hx;have hlen:zs.length=xs.length:=by have:=congrArg List.length hx.1;simpa using this
 have hi:i<zs.length:=(List.getElem?_eq_some_iff.1 hz).1;have h1:=hel i (by omega);obtain⟨b,hb⟩:∃b,xs[i]?=some b:=⟨xs[i]'(by omega),List.getElem?_eq_getElem (by omega)⟩;rw[hb,hc] at h1;obtain⟨z',hcz,hbz,_⟩:=DataW.trod_int he h1;have h2:cs[i]?=some (.int k z'):=by have:=congrArg (·[0]?) hcz;simpa [List.getElem?_take,List.getElem?_drop] using this
 have h3:=congrArg (·[i]?) hx.1;simp only[List.getElem?_map,hb,hz,Option.map_some,hbz,Option.some.injEq,DataW.lit.injEq,Lit.int.injEq,true_and] at h3;rw[h2,h3]
theorem oT:∀(l:List Nat) (i:Nat),(u8L l)[i]?=l[i]?.map λa=>Value.int .u8 (.ofNat a)
 | [],_=>rfl
 | a :: l,0=>rfl
 | a :: l,i+1=>oT l i
theorem ql:∀(l:List Nat) (i:Nat),(Hr l)[i]?=l[i]?.map λa=>Value.int .u64 (.ofNat a)
 | [],_=>rfl
 | a :: l,0=>rfl
 | a :: l,i+1=>ql l i
theorem row_of {W:World} {name:String} {g:Nat} {t e:TypeId} {k:IntKind} {l:List Nat} {L:List Value} {d:DataW Unit} (hsh:W.ShapedOpen Tryz.prog) (hg:Tryz.prog.globalNamed name=some g) (hlt:g<Tryz.prog.globals.size) (zero:Array Value)
  (h0:(((begin Tryz.prog (λ_ _=>0) default).world.heap[g]?).bind Obj.row?)=some (zero,t)) (hsz:zero.size=l.length) (hty:(Tryz.prog.globals[g]?).map (·.type)=some t) (ht:Tryz.prog.underlying t=some (.array l.length e)) (he:Tryz.prog.underlying e=some (.int k)) (hc:Tryz.prog.cellsOf e=1)
  (hd:d=.agg ((l.map Int.ofNat).map λz=>.lit (.int k z))) (hL:∀i:Nat,L[i]?=l[i]?.map λa=>Value.int k (.ofNat a))
  (hr:∃g t cs fuel p,Tryz.prog.globalNamed name=some g/\(Tryz.prog.globals[g]?).map (·.type)=some t/\W.var? Tryz.prog name=some cs/\DataW.trod (λ_=>()) Tryz.prog W 0 (λ_=>true) false fuel t cs.toList=some (d,p)) (ρ:Ren):
  dV Tryz.prog ρ W (g,0) (.row t l.length false true 0 (T.ofList undef L))/\g<W.heap.size:=by
 obtain⟨g',t',cs',fuel,p,e1,e2,e3,e4⟩:=hr;obtain rfl:=Option.some.inj (hg.symm.trans e1);obtain rfl:=Option.some.inj (hty.symm.trans e2);obtain⟨cs,hh,hs,_⟩:=hsh.1 g zero t hlt h0;have hcs:cs'=cs:=by unfold World.var? at e3;rw[hg] at e3;simp only[Option.bind_some,hh,Option.some.injEq] at e3;exact e3.symm
 subst hcs;refine⟨⟨cs',(0,0),hh,by omega,λ_=>⟨by omega,rfl⟩,λq=>(nomatch q),λi hi=>?_,.inl rfl⟩,(Array.getElem?_eq_some_iff.1 hh).1⟩;have hz:(l.map Int.ofNat)[i]?=some (Int.ofNat l[i]):=by simp[hi]
 have h1:=nG ht he hc (hd ▸ e4) i _ hz;refine⟨.int k (.ofNat l[i]),by rw[<-Array.getElem?_toList];exact h1,?_⟩;rw[T.get_ofList,List.getD_eq_getElem?_getD,hL i];simp only[List.getElem?_eq_getElem hi,Option.map_some,Option.getD_some];exact .inr rfl
theorem row_one {W:World} {g:Nat} {t:TypeId} (hsh:W.ShapedOpen Tryz.prog) (hlt:g<Tryz.prog.globals.size) (zero:Array Value) (h0:(((begin Tryz.prog (λ_ _=>0) default).world.heap[g]?).bind Obj.row?)=some (zero,t)) (hsz:zero.size=1) {v v':Value} {ρ:Ren}
  (hc:W.cell? ⟨g,0,none⟩=some v') (hv:fk ρ v v'):dV Tryz.prog ρ W (g,0) (.row t 1 false true 0 (.c v))/\g<W.heap.size:=by
 obtain⟨cs,hh,hs,_⟩:=hsh.1 g zero t hlt h0;refine⟨⟨cs,(0,0),hh,by omega,λ_=>⟨by omega,rfl⟩,λq=>(nomatch q),λi hi=>?_,.inl rfl⟩,(Array.getElem?_eq_some_iff.1 hh).1⟩;obtain rfl:i=0:=by omega
 refine⟨v',?_,hv⟩;unfold World.cell? at hc;simp only[hh,Option.isSome_none,Bool.false_eq_true,if_false] at hc;exact hc
theorem ua {H:Type} {enc:TypeId × Value->H} {P:Program} {w:World} {base:Nat} {sp:Nat->Bool} {fuel:Nat} {t:TypeId} {ms:_} {cs:List Value} {name:String} {d:DataW H} {p:List MemPlace}
  (ht:P.underlying t=some (.interface ms)) (h:DataW.trod enc P w base sp false fuel t cs=some (.iface name d,p)):∃u v n p',cs=[.iface u v]/\DataW.trod enc P w base sp false n u v.cells.toList=some (d,p'):=by
 cases fuel with
 | zero=>simp[DataW.trod] at h
 | succ n=>
  unfold DataW.trod at h;rw[ht] at h;split at h <;> simp_all
  split at h <;> simp_all
  exact⟨_,_,⟨rfl,rfl⟩,n,p,h.1⟩
theorem yF {H:Type} {enc:TypeId × Value->H} {P:Program} {w:World} {base:Nat} {sp:Nat->Bool} {held:Bool} {fuel:Nat} {t:TypeId} {cs:List Value} {d:DataW H} {p:List MemPlace}
  (h:DataW.trod enc P w base sp held fuel t cs=some (.ptr d,p)):∃e a,P.underlying t=some (.pointer e)/\cs=[.pointer (some a)]:=by
 cases fuel with
 | zero=>simp[DataW.trod] at h
 | succ n=>
  unfold DataW.trod at h;split at h <;> simp_all
  all_goals first
   | (simp[Option.bind_eq_some_iff] at h;done)
   | (split at h <;> simp_all;done)
   | (split at h <;> (try simp_all) <;> simp[Option.bind_eq_some_iff] at h;done)
theorem z0:(((begin Tryz.prog (λ_ _=>0) default).world.heap[0]?).bind Obj.row?)=some (⟨[.int .i64 0]⟩,3):=by kernel_rfl
theorem z4:(((begin Tryz.prog (λ_ _=>0) default).world.heap[4]?).bind Obj.row?)=some (⟨[.nilIface]⟩,62):=by kernel_rfl
theorem z32:(((begin Tryz.prog (λ_ _=>0) default).world.heap[5]?).bind Obj.row?)=some (⟨List.replicate 32 (.int .u8 0)⟩,394):=by kernel_rfl
theorem z64:(((begin Tryz.prog (λ_ _=>0) default).world.heap[6]?).bind Obj.row?)=some (⟨List.replicate 64 (.int .u8 0)⟩,395):=by kernel_rfl
theorem z20:(((begin Tryz.prog (λ_ _=>0) default).world.heap[7]?).bind Obj.row?)=some (⟨List.replicate 20 (.int .u64 0)⟩,423):=by kernel_rfl
def O3 (m:Int) (u:TypeId) (off:Nat):List AO:=[.row 3 1 false true 0 (.c (.int .i64 m)),.dead,.dead,.dead,.row 62 1 false true 0 (.c (.iface u (.pointer (some ⟨16,off,none⟩)))),
 .row 394 32 false true 0 (T.ofList undef (u8L l32)),.row 395 64 false true 0 (T.ofList undef (u8L l64)),.row 423 20 false true 0 (T.ofList undef (Hr l20))]
def kT (m:Int) (u:TypeId) (off:Nat):H:={ next:=17,objs:=T.ofList .dead (O3 m u off) }
def jE (B:Nat):Ren:=λid=>if id<16 then some (id,0) else if id=16 then some (B,0) else none
theorem cz (m:Int) (u:TypeId) (off i:Nat):(kT m u off).objs.get i=((O3 m u off)[i]?).getD .dead:=T.get_ofList _ _ _
theorem FN (m:Int) (u:TypeId) (off:Nat):HS (kT m u off) where
 n:=by show 16<=17;decide
 m:=⟨m,by unfold cell0;rw[cz];rfl⟩
 e:=⟨u,_,by unfold cell0;rw[cz];rfl⟩
 g:=by kernel_rfl
theorem gP {m:Int} {u:TypeId} {off id:Nat} (h:live ((kT m u off).objs.get id)=true):id<8/\∃e n fz c,(kT m u off).objs.get id=.row e n false true fz c:=by
 rw[cz] at h ⊢
 match id with
 | 0=>exact⟨by decide,_,_,_,_,rfl⟩
 | 1=>exact nomatch h
 | 2=>exact nomatch h
 | 3=>exact nomatch h
 | 4=>exact⟨by decide,_,_,_,_,rfl⟩
 | 5=>exact⟨by decide,_,_,_,_,rfl⟩
 | 6=>exact⟨by decide,_,_,_,_,rfl⟩
 | 7=>exact⟨by decide,_,_,_,_,rfl⟩
 | n+8=>exact nomatch h
theorem arz {m:Int} {u:TypeId} {off B:Nat} (b:Nat):¬ Wr (jE B) (kT m u off) b:=by
 rintro⟨id,p,_,_,h⟩;have hl:live ((kT m u off).objs.get id)=true:=by
  revert h
  cases (kT m u off).objs.get id <;> intro h <;> first | rfl | exact h
 obtain⟨_,e,n,fz,c,e2⟩:=gP hl;rw[e2] at h;exact nomatch h
def iD : List (String × DataW Unit):= [("unicode/utf8.first", Rows.laid_unicode_utf8_first), ("unicode/utf8.acceptRanges", Rows.laid_unicode_utf8_acceptRanges), ("strconv.ErrSyntax", Rows.laid_strconv_ErrSyntax), ("strconv.ErrRange", Rows.laid_strconv_ErrRange), ("internal/strconv.uint64pow10", Rows.laid_internal_strconv_uint64pow10), ("math/bits.deBruijn32tab", Rows.laid_math_bits_deBruijn32tab), ("math/bits.deBruijn64tab", Rows.laid_math_bits_deBruijn64tab)]
theorem pP {W:World} (hsh:W.ShapedOpen Tryz.prog):∃m,W.cell? ⟨0,0,none⟩=some (.int .i64 m):=by
 obtain⟨cs,hh,hs,hr⟩:=hsh.1 0 _ 3 (of_decide_eq_true (by kernel_rfl)) z0;have hs:cs.size=1:=hs;obtain⟨ts,hts,_,hall⟩:=hr (by kernel_rfl);have h3:Tryz.prog.cellTypes Tryz.prog.depth 3=some [3]:=by kernel_rfl
 rw[h3] at hts;cases hts;have h1:0<cs.size:=by omega
 obtain⟨u,hu',hok⟩:=hall 0 cs[0] (by simp[h1]);have:u=3:=by simpa using hu'.symm
 subst this;have hcell:W.cell? ⟨0,0,none⟩=some cs[0]:=by simp[World.cell?,hh,h1]
 rw[hcell];unfold Cell.ok at hok;have hu3:Tryz.prog.underlying 3=some (.int .i64):=by kernel_rfl
 rw[hu3] at hok;cases hv:cs[0] <;> rw[hv] at hok <;> first | (obtain⟨rfl,_⟩:=hok;exact⟨_,rfl⟩) | simp at hok
theorem xF {W:World} (hsh:W.ShapedOpen Tryz.prog) (hl:laidMet Tryz.prog iD W):∃m u off B,dU Tryz.prog (jE B) (kT m u off) W:=by
 obtain⟨ps,⟨_,_,_,_,_,_,_,_,_,_,⟨_,_,_,_,_,_,_,_,_,_,⟨_,_,_,_,_,_,_,_,_,_,⟨gx4,t4,cs4,fx4,px4,qx4,hg4,ht4,hv4,hd4,⟨gx3,t3,cs3,fx3,px3,qx3,hg3,ht3,hv3,hd3,⟨gx1,t1,cs1,fx1,px1,qx1,hg1,ht1,hv1,hd1,⟨gx2,t2,cs2,fx2,px2,qx2,hg2,ht2,hv2,hd2,_,_⟩,_⟩,_⟩,hps4⟩,hps3⟩,hps2⟩,hps1⟩,_,hwide⟩:=hl;have hgE : Tryz.prog.globalNamed "strconv.ErrRange" = some 4:= by kernel_rfl
 obtain rfl:4=gx4:=Option.some.inj (hgE.symm.trans hg4);have htE:(Tryz.prog.globals[4]?).map (·.type)=some 62:=by kernel_rfl
 obtain rfl:62=t4:=Option.some.inj (htE.symm.trans ht4);have hu62:Tryz.prog.underlying 62=some (.interface (match Tryz.prog.underlying 62 with | some (.interface m)=>m | _=>default)):=by kernel_rfl
 obtain⟨u,v,n,p',hcs,hin⟩:=ua hu62 hd4;obtain⟨e,a,hue,hva⟩:=yF hin;have hcell:W.cell? ⟨4,0,none⟩=some (.iface u v):=by
  unfold World.var? at hv4;rw[hgE] at hv4;simp only[Option.bind_some] at hv4;unfold World.cell?;split at hv4
  ·rename_i c t fr hh;cases hv4;simp only[hh,Option.isSome_none,Bool.false_eq_true,if_false];rw[<-Array.getElem?_toList,hcs];rfl
  ·exact nomatch hv4
 have hmem:MemPlace.cell 4 0∈ps:=by
  rw[hps1,hps2,hps3,hps4];refine List.mem_append_right _ (List.mem_append_right _ (List.mem_append_right _ (List.mem_append_left _ (List.mem_append_left _ ?_))));have:cs4.size=1:=by rw[<-Array.length_toList,hcs];rfl
  rw[this];simp[MemPlace.row]
 have hok:=(hwide 4 0 hmem).2 u v hcell;have hv:∃a:Addr,v=.pointer (some a)/\a.spot=none:=by
  unfold Value.okWide at hok;rw[hue] at hok;simp only at hok;cases v with
  | pointer p=>
   cases p with
   | none=>simp[Value.cells] at hva
   | some a'=> refine⟨a',rfl,?_⟩;unfold Cell.okWide at hok;rw[hue] at hok;simp only[Cell.ok,hue] at hok;exact hok.2.1
  | _=>simp[Cell.okWide,Cell.ok,hue] at hok
 obtain⟨a',rfl,hspot⟩:=hv;obtain⟨m,hm⟩:=pP hsh;refine⟨m,u,a'.off,a'.block,?_⟩;have r1:= row_of (l:= l32) (L:= u8L l32) (k:= .u8) (e:= 5) hsh (name:= "math/bits.deBruijn32tab") (g:= 5) (by kernel_rfl) (of_decide_eq_true (by kernel_rfl)) _ z32 (by kernel_rfl) (by kernel_rfl) (by kernel_rfl) (by kernel_rfl) (by kernel_rfl) (d:= Rows.laid_math_bits_deBruijn32tab) (by kernel_rfl) (oT _) ⟨_, _, _, _, _, hg1, ht1, hv1, hd1⟩ (jE a'.block)
 have r2:= row_of (l:= l64) (L:= u8L l64) (k:= .u8) (e:= 5) hsh (name:= "math/bits.deBruijn64tab") (g:= 6) (by kernel_rfl) (of_decide_eq_true (by kernel_rfl)) _ z64 (by kernel_rfl) (by kernel_rfl) (by kernel_rfl) (by kernel_rfl) (by kernel_rfl) (d:= Rows.laid_math_bits_deBruijn64tab) (by kernel_rfl) (oT _) ⟨_, _, _, _, _, hg2, ht2, hv2, hd2⟩ (jE a'.block)
 have r3:= row_of (l:= l20) (L:= Hr l20) (k:= .u64) (e:= 92) hsh (name:= "internal/strconv.uint64pow10") (g:= 7) (by kernel_rfl) (of_decide_eq_true (by kernel_rfl)) _ z20 (by kernel_rfl) (by kernel_rfl) (by kernel_rfl) (by kernel_rfl) (by kernel_rfl) (d:= Rows.laid_internal_strconv_uint64pow10) (by kernel_rfl) (ql _) ⟨_, _, _, _, _, hg3, ht3, hv3, hd3⟩ (jE a'.block)
 have r0:=row_one (ρ:=jE a'.block) hsh (of_decide_eq_true (by kernel_rfl)) _ z0 rfl (v:=.int .i64 m) hm (.inr rfl)
 have rE:=row_one (ρ:=jE a'.block) hsh (of_decide_eq_true (by kernel_rfl)) _ z4 rfl (v:=.iface u (.pointer (some ⟨16,a'.off,none⟩))) hcell (.inr (by
  obtain⟨ab,ao,asp⟩:=a';have hspot:asp=none:=hspot;subst hspot
  simp[bY,bW,jE]))
 have hren:∀id p,jE a'.block id=some p->(id<16/\p=(id,0)) \/ (id=16/\p=(a'.block,0)):=by
  intro id p e;unfold jE at e;split at e
  ·cases e;exact .inl ⟨by assumption,rfl⟩
  ·split at e
   ·cases e;exact .inr ⟨by assumption,rfl⟩
   ·exact nomatch e
 constructor
 ·intro id p e;show id<17;rcases hren id p e with ⟨h,_⟩ | ⟨h,_⟩ <;> omega
 ·intro i j p q e1 e2 l1 l2 e;have h1:=(gP l1).1;have h2:=(gP l2).1;rcases hren i p e1 with ⟨_,rfl⟩ | ⟨h,_⟩
  ·rcases hren j q e2 with ⟨_,rfl⟩ | ⟨h,_⟩
   ·exact e
   ·omega
  ·omega
 ·intro id p e;rcases hren id p e with ⟨hl,rfl⟩ | ⟨rfl,rfl⟩
  ·match id with
   | 0=>rw[cz];exact r0.1
   | 1=>rw[cz];trivial
   | 2=>rw[cz];trivial
   | 3=>rw[cz];trivial
   | 4=>rw[cz];exact rE.1
   | 5=>rw[cz];exact r1.1
   | 6=>rw[cz];exact r2.1
   | 7=>rw[cz];exact r3.1
   | n+8=>rw[cz];trivial
  ·rw[cz];trivial
 ·intro id e;have h:=(gP e).1;have:(16:Nat)+1<2 ^ deep:=by decide
  omega
 ·intro id e;have:17<=id:=e;obtain⟨n,rfl⟩:∃n,id=n+8:=⟨id-8,by omega⟩;rw[cz];rfl
 ·intro g hg;simp[jE,hg]
 ·intro id p e hl;have h:=(gP hl).1;rcases hren id p e with ⟨_,rfl⟩ | ⟨h2,_⟩
  ·match id with
   | 0=>exact r0.2
   | 1=>rw[cz] at hl;exact nomatch hl
   | 2=>rw[cz] at hl;exact nomatch hl
   | 3=>rw[cz] at hl;exact nomatch hl
   | 4=>exact rE.2
   | 5=>exact r1.2
   | 6=>exact r2.2
   | 7=>exact r3.2
   | n+8=>omega
  ·omega
end Go.Ev
namespace Go.Ev
open Go F Go.Proofs
theorem zw (ht:aA xR) {W:World} {m:Int} {u:TypeId} {off B:Nat} (hr:dU Tryz.prog (jE B) (kT m u off) W) {f n:Nat} {a:Value} {h':H} (ha:∀ρ:Ren,VR ρ a a) (hrun:az EP KK n f [a] (kT m u off) (λv h=>some (v,h))=some (.bool true,h'))
  {fn : Func} (hf : Tryz.prog.funcs[f]? = some fn) (hbody : fn.body.isNone = false) (hname : (fn.name== "runtime.NumGoroutine") = false):
  Calls Tryz.prog f #[a] W λe W'=>e=.returned (.bool true)/\W.heap.size<=W'.heap.size/\(∀b,b<W.heap.size->W'.heap[b]?=W.heap[b]?)/\W'.os=W.os/\W'.output=W.output:=by
 obtain⟨N,v,h2,hcall,he⟩:=cP hrun;cases he;have hx:=vJ (fU tP (PK ht)) (oe (fU tP (PK ht)).toTypesOK) N f _ (kT m u off) _ _ hcall (jE B) W [a] hr ⟨ha _,trivial⟩;rcases hx with ⟨v',ρ',w',h1,_,_⟩ | ⟨fn',_,_,_,h2⟩
 ·exfalso;unfold callFunc at h1;rw[Sem.run_bind,run_program] at h1;simp only[Result.andThen_ok,hf,hname,hbody,Bool.false_eq_true,if_false] at h1;exact nomatch h1
 ·refine h2.mono ?_;rintro e W' ⟨ρ',v',rfl,hv,s⟩;rw[hv.bool];exact⟨rfl,s.size,λb hb=>s.same b hb (arz b),s.os,s.output⟩
theorem arq (ht:aA xR) {W:World} {m:Int} {u:TypeId} {off B:Nat} (hr:dU Tryz.prog (jE B) (kT m u off) W) (s:List UInt8)
  {fn : Func} (hf : Tryz.prog.funcs[3]? = some fn) (hbody : fn.body.isNone = false) (hname : (fn.name== "runtime.NumGoroutine") = false):
  Calls Tryz.prog 3 #[.string ⟨⟨s⟩⟩] W λe W'=>e=.returned (.bool true)/\W.heap.size<=W'.heap.size/\(∀b,b<W.heap.size->W'.heap[b]?=W.heap[b]?)/\W'.os=W.os/\W'.output=W.output:=by
 obtain⟨h',e⟩:=avH (FN m u off) 0 (s:=s) (cD.refl _) (by show 17<=_;decide) (λv h=>some (v,h));exact zw ht hr (λρ=>.of1 rfl) e hf hbody hname
end Go.Ev
