/-
  A SCRIPT's COMMANDS, the whole: the script's Parse in abstract memory.
-/
import Derived.Test.YtlahhbdihpbbgaaGreatDoorSc
noncomputable section
set_option linter.unusedVariables false
set_option linter.unusedSimpArgs false
set_option maxRecDepth 100000
open Nat (ble beq)
namespace Go.Ev
open Go F Go.Proofs
inductive LR (h:H):List Value->List iq->Prop
 | nil:LR h [] []
 | snoc {L:List Value} {l:List iq} {c:iq} {on tx:Value} (r:LR h L l) (s1:SO h on c.on) (s2:SO h tx c.texts):LR h (L++dJ c on tx) (l ++ [c])
def CL (ty:TypeId) (h:H) (v:Value) (l:List iq):Prop:=∃L,OL ty 9 h v l.length L/\LR h L l
theorem CL.nil {ty:TypeId} {h:H}:CL ty h (.slice none 0 0) []:=⟨[],.nil,.nil⟩
theorem LR.keep {h h':H} {L:List Value} {l:List iq} (r:LR h L l) (hn:h.next<=h'.next) (hk:∀b n op cs,b<h.next->hget h b=.row 9 n op false 0 cs->hget h' b=hget h b):LR h' L l:=by
 induction r with
 | nil=>exact .nil
 | snoc r s1 s2 ih=>
  have key:∀v x,SO h v x->SO h' v x:=λv x o=>o.keep hn λb hb hl=>by obtain⟨n,op,cs,e⟩:=o.row9 hb;exact hk b n op cs hl e
  exact .snoc ih (key _ _ s1) (key _ _ s2)
theorem OL.form {e s n:Nat} {h:H} {v:Value} {L:List Value} (o:OL e s h v n L):(v=.slice none 0 0/\n=0) \/ ∃b c cells op,v=.slice (some ⟨b,0,none⟩) n c/\b<h.next/\hget h b=.row e (n*s) op false 0 cells:=by
 cases o with
 | nil=>exact .inl ⟨rfl,rfl⟩
 | row hb hq hL hc hp=>exact .inr ⟨_,_,_,_,rfl,hb,hq⟩
theorem CL.fr {ty:TypeId} {h h':H} {n:Nat} {v:Value} {l:List iq} (c:CL ty h v l) (f:Fr h h' n):CL ty h' v l:=by obtain⟨L,o,r⟩:=c;exact⟨L,o.keep f.le λb _ hl=>f.old b hl,r.keep f.le λb _ _ _ hl _=>f.old b hl⟩
theorem ans {x:iq} {on tx:Value} {h:H} (s1:SO h on x.on) (s2:SO h tx x.texts):cG (λb9=>some (Nat.mul b9 9,9)) (List.flatten (List.replicate 1 aO)) [(0,.agg ⟨dJ x on tx⟩)]=some (dJ x on tx):=by
 have h1:=j4 s1 s2;have h2:(dJ x on tx).all cell1=true:=by
  rw[List.all_eq_true] at h1 ⊢;intro v hv;have:=h1 v hv
  revert this
  cases v <;> intro this <;> first | rfl | exact this
 have h3:(beq (cellsOfV (.agg ⟨dJ x on tx⟩)).length 9&&ble (Nat.mul 0 9+(cellsOfV (.agg ⟨dJ x on tx⟩)).length) (List.flatten (List.replicate 1 aO)).length&&(dJ x on tx).all cell1)=true:=by rw[h2];rfl
 show (bif (beq (cellsOfV (.agg ⟨dJ x on tx⟩)).length 9&&ble (Nat.mul 0 9+(cellsOfV (.agg ⟨dJ x on tx⟩)).length) (List.flatten (List.replicate 1 aO)).length&&(dJ x on tx).all cell1) then _ else none)=_;rw[h3];rfl
theorem Sp:cG (λb9=>some (Nat.mul b9 9,9)) (List.flatten (List.replicate 1 aO)) [(0,.agg ⟨aO⟩)]=some aO:=rfl
theorem qh {E:Env} {tl ty:TypeId} {i:TypeInfo} (T2:Ad E tl ty 9 i aO) (hty:ty≠9) {h:H} {v:Value} {l:List iq} (c:CL ty h v l) (hn:h.next+2<=1000000000) (hl:l.length<=9000) {xs:List Value} (hx:xs.length=9) (hall:xs.all cell1=true):
  ∃v' h',bu E (ag h (.row ty 9 false false 0 (T.ofList unk xs))) .append [v,.slice (some ⟨h.next,0,none⟩) 1 2] [tl,tl]=some (v',h')/\h'.next=h.next+2/\dn v'=some (h.next+1)/\(∀id,id<h.next->dn v≠some id->hget h' id=hget h id) /\
   ∀x on tx,xs=dJ x on tx->SO h on x.on->SO h tx x.texts->CL ty h' v' (l ++ [x]):=by
 obtain⟨L,o,r⟩:=c;obtain⟨v',h',e,o',n,b,f⟩:=wH T2 o hx hall hn hl;refine⟨v',h',e,n,b,f,λx on tx hxs s1 s2=>?_⟩;subst hxs;have hk:∀b n op cs,b<h.next->hget h b=.row 9 n op false 0 cs->hget h' b=hget h b:=λb n op cs hl e9=>f b hl λee=>by
  rcases o.form with ⟨rfl,_⟩ | ⟨b',c',cells,op',rfl,_,e1⟩
  ·exact nomatch ee
  ·cases ee;rw[e1] at e9;cases e9;exact hty rfl
 have key:∀v x,SO h v x->SO h' v x:=λv x o=>o.keep (by omega) λb hb hl=>by obtain⟨n,op,cs,e⟩:=o.row9 hb;exact hk b n op cs hl e
 refine⟨_,?_,.snoc (r.keep (by omega) hk) (key _ _ s1) (key _ _ s2)⟩;rw[List.length_append];exact o'
def wA (rc:RC) (Q:H->Prop):Prop:=∀(s:Bs) (h:H),s.length<=100000->Q h->h.next<=700000000->∀(k:Value->H->R),rc 16 [aF s,.string ⟨⟨[10]⟩⟩] h k =
 k (.slice (some ⟨h.next,0,none⟩) (aR s).length (2*(aR s).length)) (ag h (.row 9 (aR s).length false false 0 (T.ofList unk ((aR s).map aF))))
def pQ (rc:RC):Prop:=∀(s:Bs) (h:H) (k:Value->H->R) (X:R),s.length<=100000->h.next<=800000000->rc 17 [aF s] h k=X->∃h' v,X=k v h'/\WL h' v (bX s)/\gT v/\Fr h h' 1
def oM (rc:RC) (Q:H->Prop):Prop:=∀(v:Value) (l:List Bs) (h:H) (k:Value->H->R) (X:R),WL h v l->small l->Q h->h.next<=800000000->rc 18 [v] h k=X ->
 ∃h',X=k (.tuple ⟨[.int .i64 (.ofNat (cW l).1),.int .i64 (.ofNat (cW l).2.1),.int .i64 (.ofNat (cW l).2.2)]⟩) h'/\Fr h h' 2
def BE (rc:RC) (Q:H->Prop):Prop:=∀(line:Nat) (v:Value) (w0:Bs) (l:List Bs) (h:H) (k:Value->H->R) (X:R),Q h->h.next<=770000000->WL h v (w0 :: l)->gT v->small l->l.length<=8000->rc 19 [.int .i64 (.ofNat line),v] h k=X ->
 sK h (60+4*l.length) k X (fX line (w0 :: l))
def rz (ty:TypeId) (B:Nat) (h:H) (n:Nat) (k:Value->H->R) (X:R) (r:PR):Prop:=∃h' v,eU B h h' n/\X=k (.tuple ⟨[.int .i64 (.ofNat r.1),.int .i64 (.ofNat r.2.1),v,.int .i64 (.ofNat r.2.2.2.1),.int .i64 (.ofNat r.2.2.2.2)]⟩) h'/\CL ty h' v r.2.2.1/\∀c,dn v=some c->B<=c
def cost:List Bs->Nat
 | []=>0
 | s :: l=>80+4*(bd s).length+cost l
def Cf (st:Option (Nat × Nat)):Value × Value × Value:=match st with | none=>(.int .i64 (.ofNat 0),.int .i64 (.ofNat 0),.bool false) | some ck=>(.int .i64 (.ofNat ck.1),.int .i64 (.ofNat ck.2),.bool true)
theorem nM (s:Bs):bX s=[] \/ bX s=bd s:=by
 unfold bX;cases h:bd s with
 | nil=>exact .inl rfl
 | cons w l=>
  by_cases q:w[0]?=some 35
  ·exact .inl (if_pos q)
  ·exact .inr (if_neg q)
theorem ss {s:Bs} (hs:s.length<=100000):small (bX s):=by
 intro x hx;rcases nM s with h | h
 ·rw[h] at hx;exact nomatch hx
 ·rw[h] at hx;have:=ig s [] x hx;simp at this;omega
section
theorem CL.set {ty:TypeId} {h:H} {v:Value} {l:List iq} (c:CL ty h v l) {b tr n:Nat} {op ro:Bool} {fz:Nat} {cs:T Value} (hb:b<=1000000000) (hq:hget h b=.row tr n op ro fz cs) (htr:tr≠9) (hv:dn v≠some b) (o:AO):CL ty (hset h b o) v l:=by
 obtain⟨L,ol,r⟩:=c;refine⟨L,ol.keep (Nat.le_refl _) λb' hb' _=>?_,r.keep (Nat.le_refl _) λb' n' op' cs' hl e9=>?_⟩
 ·rw[cu _ _ _ _ hb,if_neg];intro e;subst e;exact hv hb'
 ·rw[cu _ _ _ _ hb,if_neg];intro e;subst e;rw[hq] at e9;cases e9;exact htr rfl
theorem CL.blk {ty:TypeId} {h:H} {v:Value} {l:List iq} (c:CL ty h v l) (b:Nat) (hb:dn v=some b):b<h.next:=by obtain⟨L,o,_⟩:=c;exact o.blk b hb
theorem tJ {E:Env} {tl ty:TypeId} (hu:E.und tl=some (.slice ty)) {h h':H} {v:Value} {l:List iq} (c:CL ty h v l) (K:Value->R):onSl v (bindO (bv E h' tl v) K) (λ_ n _=>K (.int .i64 (.ofNat n)))=K (.int .i64 (.ofNat l.length)):=by
 obtain⟨L,o,_⟩:=c;rcases o.form with ⟨rfl,e⟩ | ⟨b,c,cells,op,rfl,_⟩
 ·rw[qH,e];have:bv E h' tl (.slice none 0 0)=some (.int .i64 (.ofNat 0)):=by unfold bv;rw[hu];rfl
  rw[this];rfl
 ·rw[bZ]
variable {E : Env} (u : CE E 32) {rc : RC} {hS : H} {i23 : TypeInfo} (T2 : Ad E 23 32 9 i23 aO) (u23 : E.und 23 = some (.slice 32))
def j6 (ls:List Bs):Prop:=∀s∈ls,s.length<=70000/\(bd s).length<=8000
abbrev mc (hb:H) (h:H) (n:Nat) (k:Value->H->R) (K:aa [7,8,9,10,2,3,4,5,6]->H->R) (X:R) (r:PR) (ns:aa [2,3,4,5,6]):Prop:=
 (∃h' v' st' out',r=wQ [] 0 st' out'/\X=K ((Cf st').1,((Cf st').2.1,((Cf st').2.2,(v',ns)))) h'/\CL 32 h' v' out'/\(∀c,dn v'=some c->hb.next<=c)/\eU hb.next h h' n) \/
 (∃h' line er,r=(0,0,[],line,er)/\X=k (.tuple ⟨[.int .i64 (.ofNat 0),.int .i64 (.ofNat 0),.slice none 0 0,.int .i64 (.ofNat line),.int .i64 (.ofNat er)]⟩) h'/\eU hb.next h h' n)
theorem mc.step {hb h h1:H} {m n p:Nat} {k:Value->H->R} {K:aa [7,8,9,10,2,3,4,5,6]->H->R} {X:R} {r:PR} {ns:aa [2,3,4,5,6]} (f:eU hb.next h h1 m) (e:mc hb h1 n k K X r ns) (hp:m+n<=p):mc hb h p k K X r ns:=by
 rcases e with ⟨h',v',st',out',a,b,c,d,g⟩ | ⟨h',line,er,a,b,g⟩
 ·exact .inl ⟨h',v',st',out',a,b,c,d,f.trans g hp⟩
 ·exact .inr ⟨h',line,er,a,b,f.trans g hp⟩
include u T2 u23
theorem aoW (hW:pQ rc) (hF:oM rc (cD hS)) (hC:BE rc (cD hS)) {hb:H} (hB:hS.next<=hb.next) {ev:Value} {ls:List Bs} (o:WL hb ev ls) (hls:j6 ls) (hl6:ls.length<=1000000) (k:Value->H->R) (K:aa [7,8,9,10,2,3,4,5,6]->H->R) (ns:aa [2,3,4,5,6]) (X:R):
  ∀(d i N:Nat) (h:H) (st:Option (Nat × Nat)) (out:List iq) (v:Value),i+d=ls.length->d<N->cD hS h->hb.next<=h.next->(∀id,id<hb.next->hget h id=hget hb id)->CL 32 h v out->(∀c,dn v=some c->hb.next<=c)->out.length<=1000->i<=1000000 ->
  h.next+cost (ls.drop i)<=700000000 ->
  loopF (ks:=[7,8,9,10,2,3,4,5,6,22]) (Bu E (.int .i64 (.ofNat ls.length)) ev rc k K) N ((Cf st).1,((Cf st).2.1,((Cf st).2.2,(v,(ns.1,(ns.2.1,(ns.2.2.1,(ns.2.2.2.1,(ns.2.2.2.2.1,(.int .i64 (.ofNat i),())))))))))) h=X ->
  mc hb h (cost (ls.drop i)) k K X (wQ (ls.drop i) i st out) ns:=by
 have u3:=u.u3;intro d
 induction d with
 | zero=>
  intro i N h st out v hi hN hq hle hfr hcl hblk hout hi6 hn e;obtain⟨N,rfl⟩:∃M,N=M+1:=⟨N-1,by omega⟩;obtain rfl:i=ls.length:=by omega
  rw[ce] at e;unfold Bu at e;dsimp only at e;rw[iu u3 (Nat.le_refl _),ai] at e;rw[List.drop_length];refine .inl ⟨h,v,st,out,?_,e.symm,hcl,hblk,eU.refl _ _ _⟩;cases st <;> rfl
 | succ d ih=>
  intro i N h st out v hi hN hq hle hfr hcl hblk hout hi6 hn e;obtain⟨N,rfl⟩:∃M,N=M+1:=⟨N-1,by omega⟩;have hlt:i<ls.length:=by omega
  rw[ce] at e;generalize hLp:loopF (ks:=[7,8,9,10,2,3,4,5,6,22]) (Bu E (.int .i64 (.ofNat ls.length)) ev rc k K) N=LP at e;rw[List.drop_eq_getElem_cons hlt] at hn ⊢;rw[fo];have hcost:cost (ls[i] :: ls.drop (i+1))=80+4*(bd ls[i]).length+cost (ls.drop (i+1)):=rfl;rw[hcost] at hn ⊢;cases o with
  | nil=>exact absurd hlt (Nat.not_lt_zero _)
  | row hbk hq9 hm hcap hc=>
   rename_i bk of m cap fz op ro cells;have hq9':hget h bk=.row 9 m op ro fz cells:=(hfr _ hbk).trans hq9;have hqr:∀KK,onRow (hget h bk) KK=KK 9 m op ro fz cells:=λKK=>by rw[hq9'];rfl
   have hci:=hc i hlt;obtain⟨hl1,hl2⟩:=hls _ (List.getElem_mem hlt);generalize ls[i]'hlt=s at hci hl1 hl2 hn ⊢;unfold Bu at e;dsimp only at e;rw[km u3 hlt,ai,aK] at e;dsimp only at e;rw[ai,cn,bZ,au (show i+1<=ls.length by omega),co,aG] at e;dsimp only at e;rw[hqr,au (show of+i.mul 1+1<=m by show of+i*1+1<=m;omega),show of+i.mul 1=of+i by show of+i*1=_;omega,hci] at e;obtain⟨h1,r,e1,o1,cl1,f1⟩:=hW s h _ _ (by omega) (by omega) e;replace e1:=e1.symm;have hub1:=f1.ub;have hle1:=f1.le;have hq1:cD hS h1:=hq.trans f1.from;have fb1:eU hb.next h h1 1:=f1.b hle;have hcl1:CL 32 h1 v out:=hcl.fr f1;rw[cJ] at e1;rw[kS (E:=E) (h':=h1) o1 u.u30] at e1;have hadd:∀KK:Value->R,binR (binC E .add 3 false true) (.int .i64 (.ofNat i)) (.int .i64 (.ofNat 1)) KK=KK (.int .i64 (.ofNat (i+1))):=λKK=>dl u3 (by omega);by_cases hw:bX s=[]
   ·rw[if_pos hw];rw[sq u3 (show (bX s).length=0 by rw[hw];rfl)] at e1;simp only[↓ai,↓aK,↓hadd] at e1;rw[<-hLp] at e1;have key:=ih (i+1) N h1 st out v (by omega) (by omega) hq1 (by omega) (λid hid=>(fb1.old id hid).trans (hfr id hid)) hcl1 hblk hout (by omega) (by omega) e1;exact key.step fb1 (by omega)
   ·rw[if_neg hw];rw[oh u3 (show ¬ (bX s).length=0 from λh=>hw (List.length_eq_zero_iff.1 h))] at e1;have hsm:small (bX s):=ss (by omega);have hwl:(bX s).length<=(bd s).length:=by
     rcases nM s with hh | hh
     ·exact absurd hh hw
     ·rw[hh];exact Nat.le_refl _
    cases st with
    | none=>
     simp only[↓ai,↓aM,Cf] at e1;obtain⟨h2,e2,f2⟩:=hF r _ h1 _ _ o1 hsm hq1 (by omega) e1;replace e2:=e2.symm;have hub2:=f2.ub;have hle2:=f2.le;have fb2:eU hb.next h h2 3:=fb1.trans (f2.b (by omega)) (by omega);simp only[↓bJ,↓bK,↓ly,↓cd,↓ai] at e2;rw[dK u.u24] at e2;dsimp only;by_cases q0:(cW (bX s)).2.2=0
     ·rw[if_pos q0];rw[show (!beq (cW (bX s)).2.2 0)=false by rw[q0];rfl] at e2;simp only[↓aM,↓hadd] at e2;rw[<-hLp] at e2;have key:=ih (i+1) N h2 (some ((cW (bX s)).1,(cW (bX s)).2.1)) out v (by omega) (by omega) (hq1.trans f2.from) (by omega) (λid hid=>(fb2.old id hid).trans (hfr id hid)) (hcl1.fr f2) hblk hout (by omega) (by omega) e2;exact key.step fb2 (by omega)
     ·rw[if_neg q0];rw[show (!beq (cW (bX s)).2.2 0)=true by rw[fT q0];rfl] at e2;simp only[↓aK,↓hadd] at e2;rw[dF (c:=nT _) rfl] at e2;exact .inr ⟨h2,i+1,_,rfl,e2.symm,fb2.mono (by omega)⟩
    | some ck=>
     simp only[↓ai,↓aM,↓aK,Cf,↓cJ] at e1;rw[tJ u23 (h':=h1) hcl1] at e1;dsimp only;by_cases q1:1000<=out.length
     ·rw[if_pos q1];rw[zU u3 q1] at e1;simp only[↓aK] at e1;rw[dK u.u24,show (!beq 15 0)=true from rfl] at e1;simp only[↓aK,↓hadd] at e1;rw[dF (c:=nT _) rfl] at e1;exact .inr ⟨h1,i+1,15,rfl,e1.symm,fb1.mono (by omega)⟩
     ·rw[if_neg q1];rw[aoZ u3 (by omega)] at e1;simp only[↓aM] at e1;have hz:([.int .i64 (.ofNat 0),.int .u8 (.ofNat 0),.string (ByteArray.mk #[]),.slice none 0 0,.int .i64 (.ofNat 0),.int .i64 (.ofNat 0),.int .i64 (.ofNat 0),.int .u8 (.ofNat 0),.slice none 0 0]:List Value)=aO:=rfl;rw[au (show h1.1<=1000000000 by show h1.next<=_;omega),aJ,hadd] at e1;simp only[mZ] at e1;rw[hz] at e1;have f2:Fr h1 (ag h1 (.row 32 9 false false 0 (T.ofList unk aO))) 1:=Fr.push _ (by omega);have e2:hget (ag h1 (.row 32 9 false false 0 (T.ofList unk aO))) h1.next=.row 32 9 false false 0 (T.ofList unk aO):=aD _ _ (by omega);have n2:(ag h1 (.row 32 9 false false 0 (T.ofList unk aO))).next=h1.next+1:=rfl;generalize ag h1 (.row 32 9 false false 0 (T.ofList unk aO))=h2 at e1 f2 e2 n2;obtain⟨w0,l,hwl0⟩:∃w0 l,bX s=w0 :: l:=by
       cases hh:bX s with
       | nil=>exact absurd hh hw
       | cons w0 l=>exact⟨w0,l,rfl⟩
      rw[hwl0] at o1 hsm hwl ⊢;have hend:=hC (i+1) r w0 l h2 _ _ (hq1.trans f2.from) (by omega) (o1.fr f2) cl1 (λx hx=>hsm x (List.mem_cons_of_mem _ hx)) (by rw[List.length_cons] at hwl;omega) e1;have fb2:eU hb.next h h2 2:=fb1.trans (f2.b (by omega)) (by omega);have hcl2:CL 32 h2 v out:=hcl1.fr f2;have hvb:dn v≠some h1.next:=λee=>by have:=hcl1.blk _ ee;omega
      rw[List.length_cons] at hwl;cases hcmd:fX (i+1) (w0 :: l) with
      | ok y=>
       rw[hcmd] at hend;obtain⟨h3,on,tx,f3,e3,s1,s2,b1,b2⟩:=hend;replace e3:=e3.symm;have hub3:=f3.ub;have hle3:=f3.le;have e33:hget h3 h1.next=.row 32 9 false false 0 (T.ofList unk aO):=(f3.old _ (by omega)).trans e2;simp only[↓bJ,↓bK,↓cd,↓bC] at e3;rw[AV e33 rfl (j4 s1 s2)] at e3;have hsl:∀x w,SO h3 w x->SO (hset h3 h1.next (.row 32 9 false false 0 (putF (T.ofList unk aO) 0 (dJ y on tx)))) w x:=λx w o=>o.keep (Nat.le_refl _) λc hc hl=>by rw[cu _ _ _ _ (by omega),if_neg];intro ee;subst ee;obtain⟨n,op,cs,e2⟩:=o.row9 hc;rw[e33] at e2;cases e2
       have hcl4:CL 32 (hset h3 h1.next (.row 32 9 false false 0 (putF (T.ofList unk aO) 0 (dJ y on tx)))) v out:=(hcl2.fr f3).set (by omega) e33 (by decide) hvb _;have e44:hget (hset h3 h1.next (.row 32 9 false false 0 (putF (T.ofList unk aO) 0 (dJ y on tx)))) h1.next=.row 32 9 false false 0 (putF (T.ofList unk aO) 0 (dJ y on tx)):=cm _ _ _ (by omega);have s14:=hsl _ _ s1;have s24:=hsl _ _ s2;have n4:(hset h3 h1.next (.row 32 9 false false 0 (putF (T.ofList unk aO) 0 (dJ y on tx)))).next=h3.next:=rfl;have fb4:eU hb.next h3 (hset h3 h1.next (.row 32 9 false false 0 (putF (T.ofList unk aO) 0 (dJ y on tx)))) 0:=eU.set (by omega) (by omega) _;have hfb3:eU hb.next h h3 (2+(60+4*l.length)):=fb2.trans (f3.b (by omega)) (Nat.le_refl _);have hcp:ac (putF (T.ofList unk aO) 0 (dJ y on tx)) 9 0=dJ y on tx:=jj _ rfl;generalize hset h3 h1.next (.row 32 9 false false 0 (putF (T.ofList unk aO) 0 (dJ y on tx)))=h4 at e3 hcl4 e44 s14 s24 n4 fb4;have hqr4:∀KK,onRow (hget h4 h1.1) KK=KK 32 9 false false 0 (putF (T.ofList unk aO) 0 (dJ y on tx)):=λKK=>by rw[show h1.1=h1.next from rfl,e44];rfl
       rw[hqr4,dF (c:=ble 9 9) rfl,hcp] at e3;have hfill:=ans s14 s24;rw[hfill] at e3;simp only[↓ke] at e3;rw[au (show h4.1<=1000000000 by show h4.next<=_;omega),aJ] at e3;have hall1:(dJ y on tx).all cell1=true:=by
        have h1:=j4 s14 s24;rw[List.all_eq_true] at h1 ⊢;intro v hv;have:=h1 v hv
        revert this
        cases v <;> intro this <;> first | rfl | exact this
       obtain⟨v',h5,e5,n5,b5,f5,c5⟩:=qh T2 (by decide) hcl4 (by omega) (by omega) (xs:=dJ y on tx) rfl hall1;rw[kv (show bu E (ag h4 (.row 32 9 false false 0 (T.ofList unk (dJ y on tx)))) .append [v,.slice (some (Addr.mk h4.1 0 none)) 1 2] [23,23]=some (v',h5) from e5)] at e3;rw[dK u.u24,show (!beq 0 0)=false from rfl] at e3;simp only[↓aM,↓hadd] at e3;rw[<-hLp] at e3;have fb5:eU hb.next h4 h5 2:=⟨by omega,by omega,λid hid=>f5 id (by omega) λee=>by have:=hblk _ ee;omega⟩;have hfb5:eU hb.next h h5 (2+(60+4*l.length)+2):=(hfb3.trans fb4 (Nat.le_refl _)).trans fb5 (by omega);have key:=ih (i+1) N h5 (some ck) (out ++ [y]) v' (by omega) (by omega) (hq.frB hfb5 (by omega)) (by omega) (λid hid=>(hfb5.old id hid).trans (hfr id hid)) (c5 y on tx rfl s14 s24) (λc hc=>by rw[b5] at hc;cases hc;omega) (by simp;omega) (by omega) (by omega) e3;exact key.step hfb5 (by omega)
      | error er=>
       rw[hcmd] at hend;obtain⟨hne,h3,f3,e3⟩:=hend;replace e3:=e3.symm;have hub3:=f3.ub;have hle3:=f3.le;have e33:hget h3 h1.next=.row 32 9 false false 0 (T.ofList unk aO):=(f3.old _ (by omega)).trans e2;simp only[↓bJ,↓bK,↓cd,↓bC] at e3;rw[AV e33 rfl rfl] at e3;have hcl4:CL 32 (hset h3 h1.next (.row 32 9 false false 0 (putF (T.ofList unk aO) 0 aO))) v out:=(hcl2.fr f3).set (by omega) e33 (by decide) hvb _;have e44:hget (hset h3 h1.next (.row 32 9 false false 0 (putF (T.ofList unk aO) 0 aO))) h1.next=.row 32 9 false false 0 (putF (T.ofList unk aO) 0 aO):=cm _ _ _ (by omega);have n4:(hset h3 h1.next (.row 32 9 false false 0 (putF (T.ofList unk aO) 0 aO))).next=h3.next:=rfl;have fb4:eU hb.next h3 (hset h3 h1.next (.row 32 9 false false 0 (putF (T.ofList unk aO) 0 aO))) 0:=eU.set (by omega) (by omega) _;have hfb3:eU hb.next h h3 (2+(60+4*l.length)):=fb2.trans (f3.b (by omega)) (Nat.le_refl _);have hcp:ac (putF (T.ofList unk aO) 0 aO) 9 0=aO:=jj _ rfl;generalize hset h3 h1.next (.row 32 9 false false 0 (putF (T.ofList unk aO) 0 aO))=h4 at e3 hcl4 e44 n4 fb4;have hqr4:∀KK,onRow (hget h4 h1.1) KK=KK 32 9 false false 0 (putF (T.ofList unk aO) 0 aO):=λKK=>by rw[show h1.1=h1.next from rfl,e44];rfl
       rw[hqr4,dF (c:=ble 9 9) rfl,hcp,Sp] at e3;simp only[↓ke] at e3;rw[au (show h4.1<=1000000000 by show h4.next<=_;omega),aJ] at e3;obtain⟨v',h5,e5,n5,b5,f5,c5⟩:=qh T2 (by decide) hcl4 (by omega) (by omega) (xs:=aO) rfl rfl;rw[kv (show bu E (ag h4 (.row 32 9 false false 0 (T.ofList unk aO))) .append [v,.slice (some (Addr.mk h4.1 0 none)) 1 2] [23,23]=some (v',h5) from e5)] at e3;rw[dK u.u24,show (!beq er 0)=true by rw[fT hne];rfl] at e3;simp only[↓aK,↓hadd] at e3;rw[dF (c:=nT _) rfl] at e3;have fb5:eU hb.next h4 h5 2:=⟨by omega,by omega,λid hid=>f5 id (by omega) λee=>by have:=hblk _ ee;omega⟩;have hfb5:eU hb.next h h5 (2+(60+4*l.length)+2):=(hfb3.trans fb4 (Nat.le_refl _)).trans fb5 (by omega);exact .inr ⟨h5,i+1,er,rfl,e3.symm,hfb5.mono (by omega)⟩
end
section
theorem wt:∀ls:List Bs,cost ls<=80*ls.length+4*(ls.map λs=>s.length).sum
 | []=>Nat.le_refl _
 | s :: l=>by
  have:=wt l;have hw:∀(s acc:Bs),(cK acc s).length<=s.length+(if acc=[] then 0 else 1):=by
   intro s
   induction s with
   | nil=>intro acc;unfold cK;split <;> simp
   | cons b s ih=>
    intro acc;unfold cK;by_cases hb:b=32
    ·rw[if_pos hb];have h0:=ih [];rw[if_pos rfl] at h0;by_cases ha:acc=[]
     ·rw[if_pos ha,if_pos ha];simp;omega
     ·rw[if_neg ha,if_neg ha];simp;omega
    ·rw[if_neg hb];have h0:=ih (acc ++ [b]);rw[if_neg (by simp)] at h0;simp only[List.length_cons];omega
  have h1:=hw s [];rw[if_pos rfl] at h1;have h1:(bd s).length<=s.length:=h1;unfold cost;simp only[List.length_cons,List.map_cons,List.sum_cons];omega
theorem kW:∀s:Bs,((aR s).map λs=>s.length).sum+(aR s).length=s.length+1
 | []=>rfl
 | b :: s=>by
  have ih:=kW s;have hne:=xG s;unfold aR;by_cases hb:b=10
  ·rw[if_pos hb];simp;omega
  ·rw[if_neg hb];cases h:aR s with
   | nil=>exact absurd h hne
   | cons l r=>rw[h] at ih;simp[yX] at ih ⊢;omega
theorem uK (s:Bs):cost (aR s)<=80*(s.length+1):=by have h1:=wt (aR s);have h2:=kW s;omega
theorem xz (s:Bs):(aR s).length<=s.length+1:=by have:=kW s;omega
theorem ark (s:Bs):∀x∈aR s,x.length<=s.length:=by
 intro x hx;have h2:=kW s;have:∀(ls:List Bs),x∈ls->x.length+ls.length<=(ls.map λs=>s.length).sum+ls.length:=by
  intro ls
  induction ls with
  | nil=>intro h;exact nomatch h
  | cons a l ih=>
   intro h;rcases List.mem_cons.1 h with rfl | h
   ·simp
   ·have:=ih h;simp at this ⊢;omega
 have:=this _ hx;have hne:1<=(aR s).length:=by
  cases h:aR s with
  | nil=>exact absurd h (xG s)
  | cons _ _=>simp
 omega
variable {E : Env} (u : CE E 32) {rc : RC} {hS : H} {i23 : TypeInfo} (T2 : Ad E 23 32 9 i23 aO) (u23 : E.und 23 = some (.slice 32))
include u T2 u23
theorem asb (hSp:wA rc (cD hS)) (hW:pQ rc) (hF:oM rc (cD hS)) (hC:BE rc (cD hS)) {s:Bs} (hs:s.length<=70000) (hls:j6 (aR s)) {h:H} (hq:cD hS h) (hn:h.next<=600000000) (k:Value->H->R) (X:R) (e:p7 E rc (aF s) h k=X):
  rz 32 h.next h (80*(s.length+2)) k X (eB s):=by
 have u3:=u.u3;have hcost:=uK s;have hlen:∀KK,bindO (bv E h 9 (aF s)) KK=KK (.int .i64 (.ofNat s.length)):=λKK=>by unfold aF;rw[nS u.toUS];rfl
 unfold p7 at e;rw[hlen] at e;unfold eB;by_cases q:65536<s.length
 ·rw[if_pos q];rw[mB u3 q] at e;simp only[↓ai,↓aK] at e;exact⟨h,.slice none 0 0,eU.refl _ _ _,e.symm,CL.nil,λc hc=>nomatch hc⟩
 ·rw[if_neg q];rw[lG u3 (by omega)] at e;simp only[↓ai,↓aM,↓cJ] at e;rw[hSp s h (by omega) hq (by omega)] at e;have o:=zI (h:=h) (aR s) (by omega);have f:Fr h (ag h (.row 9 (aR s).length false false 0 (T.ofList unk ((aR s).map aF)))) 1:=Fr.push _ (by omega);have n1:(ag h (.row 9 (aR s).length false false 0 (T.ofList unk ((aR s).map aF)))).next=h.next+1:=rfl;generalize ag h (.row 9 (aR s).length false false 0 (T.ofList unk ((aR s).map aF)))=h1 at e o f n1;generalize hv:Value.slice (some ⟨h.next,0,none⟩) (aR s).length (2*(aR s).length)=v at e o;rw[kS (E:=E) (h':=h1) o u.u30] at e;have hll:=xz s;have hq1:cD hS h1:=hq.trans f.from;have key:=aoW u T2 u23 hW hF hC (hb:=h1) hq1.le o hls (by omega) k _ (.int .i64 (.ofNat 0),(.int .i64 (.ofNat 0),(.slice none 0 0,(.int .i64 (.ofNat 0),(.int .i64 (.ofNat 0),()))))) X (aR s).length 0 ft h1 none [] (.slice none 0 0) (by omega) (by unfold ft;omega) hq1 (Nat.le_refl _) (λ_ _=>rfl) CL.nil (λc hc=>nomatch hc) (Nat.zero_le _) (Nat.zero_le _) (by rw[List.drop_zero];omega) e;rw[List.drop_zero] at key;rcases key with ⟨h',v',st',out',hr,hx,hc,hb,hf⟩ | ⟨h',line,er,hr,hx,hf⟩
  ·rw[hr];have fr:eU h.next h h' (80*(s.length+2)):=(f.b (Nat.le_refl _)).trans (⟨hf.le,hf.ub,λid hid=>hf.old id (by omega)⟩:eU h.next h1 h' (cost (aR s))) (by omega);cases st' with
   | none=> simp only[Cf,↓aM] at hx;exact⟨h',.slice none 0 0,fr,hx,CL.nil,λc hc=>nomatch hc⟩
   | some ck=>
    simp only[Cf,↓aK] at hx;unfold XS at hx
    rw[dF (c:=nT _) (by
     obtain⟨L,ol,_⟩:=hc
     rcases ol.form with ⟨rfl,_⟩ | ⟨b,c,cells,op,rfl,_⟩ <;> rfl)] at hx
    exact⟨h',v',fr,hx,hc,λc hc=>by have:=hb c hc;omega⟩
  ·rw[hr];have fr:eU h.next h h' (80*(s.length+2)):=(f.b (Nat.le_refl _)).trans (⟨hf.le,hf.ub,λid hid=>hf.old id (by omega)⟩:eU h.next h1 h' (cost (aR s))) (by omega);exact⟨h',.slice none 0 0,fr,hx,CL.nil,λc hc=>nomatch hc⟩
end
end Go.Ev
