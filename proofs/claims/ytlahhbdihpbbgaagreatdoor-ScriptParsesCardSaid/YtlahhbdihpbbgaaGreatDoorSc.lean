/-
  A COMMAND OF A LINE's WORDS, the whole.
-/
import Derived.Test.YtlahhbdihpbbgaaGreatDoorSb
noncomputable section
set_option linter.unusedVariables false
set_option linter.unusedSimpArgs false
set_option maxRecDepth 100000
open Nat (ble beq)
namespace Go.Ev
open Go F Go.Proofs
section
structure eU (B:Nat) (h h':H) (n:Nat):Prop where
 le:h.next<=h'.next
 ub:h'.next<=h.next+n
 old:∀id,id<B->hget h' id=hget h id
theorem eU.refl (B:Nat) (h:H) (n:Nat):eU B h h n:=⟨Nat.le_refl _,by omega,λ_ _=>rfl⟩
theorem eU.trans {B:Nat} {a b c:H} {m n k:Nat} (h1:eU B a b m) (h2:eU B b c n) (hk:m+n<=k):eU B a c k:=by have:=h1.le;have:=h1.ub;have:=h2.le;have:=h2.ub;exact⟨by omega,by omega,λid hid=>(h2.old id hid).trans (h1.old id hid)⟩
theorem eU.mono {B:Nat} {a b:H} {m n:Nat} (h1:eU B a b m) (hk:m<=n):eU B a b n:=⟨h1.le,by have:=h1.ub;omega,h1.old⟩
theorem Fr.b {B:Nat} {a b:H} {n:Nat} (f:Fr a b n) (h:B<=a.next):eU B a b n:=⟨f.le,f.ub,λid hid=>f.old id (by omega)⟩
theorem eU.fr {a b:H} {n:Nat} (f:eU a.next a b n):Fr a b n:=⟨f.le,f.ub,f.old⟩
theorem eU.from {a b:H} {n:Nat} (f:eU a.next a b n):cD a b:=⟨f.le,f.old⟩
theorem eU.set {B b:Nat} {h:H} (hb:B<=b) (hs:b<=1000000000) (o:AO):eU B h (hset h b o) 0:=⟨Nat.le_refl _,Nat.le_refl _,λid hid=>dA _ _ hs (by omega)⟩
def dJ (x:iq) (on tx:Value):List Value:=[.int .i64 (.ofNat x.line),.int .u8 (.ofNat x.op),aF x.label,on,.int .i64 x.n,.int .i64 x.m,.int .i64 x.k,.int .u8 (.ofNat x.kind),tx]
structure CR (ty B:Nat) (h:H) (b:Nat) (x:iq):Prop where
 lo:B<=b
 lt:b<h.next
 ex:∃cells on tx,hget h b=.row ty 9 false false 0 cells/\(∀i,i<9->getF cells i=(dJ x on tx).getD i unk)/\SO h on x.on/\SO h tx x.texts/\(∀c,dn on=some c->B<=c/\dn tx≠some c)/\(∀c,dn tx=some c->B<=c)
theorem xp (cells:T Value) {j:Nat} (hj:j<=100) (v:Value) (i:Nat):getF (putF cells j [v]) i=if i=j then v else getF cells i:=by
 rw[cL,j7,cO _ _ _ (by simp;omega),cL];by_cases q:i=j
 ·subst q;rw[if_pos (by simp),if_pos rfl];simp
 ·rw[if_neg (by simp;omega),if_neg q]
theorem dF {c:Bool} (h:c=true) (k:R):ifB c k=k:=by rw[h];rfl
theorem lD {h:H} {ty b j:Nat} {cells:T Value} {v:Value} (hq:hget h b=.row ty 9 false false 0 cells) (hj:j+1<=9) (hv:cell1F v=true) (K:H->R):
  (onRow (hget h b) λs t u v1 w x=>ifB (notB v1) (ifB (beq (lenF [v]) 1) (ifB (ble w (Nat.add 0 j)) (ifB (ble (Nat.add (Nat.add 0 j) 1) t) (ifB (ble t 1000000000) (ifB (allF (λy=>cell1F y) [v]) (letH (hset h b (.row s t u false w (putF x (Nat.add 0 j) [v]))) K)))))))=K (hset h b (.row ty 9 false false 0 (putF cells j [v]))):=by
 rw[hq,dQ,dF (c:=notB false) rfl,dF (c:=beq (lenF [v]) 1) rfl,au (Nat.zero_le _),au (show Nat.add (Nat.add 0 j) 1<=9 by show 0+j+1<=9;omega),au (by omega),dF (show allF (λy=>cell1F y) [v]=true by
  show Bool.rec (motive:=λ_=>Bool) false true (cell1F v)=true
  rw[hv]),aJ]
 rw[show Nat.add 0 j=j from Nat.zero_add j]
theorem SO.form {h:H} {v:Value} {l:List Bs} (o:SO h v l):(v=.slice none 0 0/\l=[]) \/ ∃b c cells op,v=.slice (some ⟨b,0,none⟩) l.length c/\b<h.next/\hget h b=.row 9 l.length op false 0 cells:=by
 unfold SO at o;generalize hn:l.length=n at o;generalize hl:l.map aF=L at o;cases o with
 | nil=>exact .inl ⟨rfl,List.length_eq_zero_iff.1 hn⟩
 | row hb hq hL hc hp=> subst hn;rename_i b fz op cells;exact .inr ⟨b,_,cells,op,rfl,hb,by rw[hq,Nat.mul_one]⟩
theorem SO.cell1 {h:H} {v:Value} {l:List Bs} (o:SO h v l):cell1F v=true:=by rcases o.form with ⟨rfl,_⟩ | ⟨b,c,cells,op,rfl,_⟩ <;> rfl
theorem SO.cells {h:H} {v:Value} {l:List Bs} (o:SO h v l) (k:List Value->R):onCells v k=k [v]:=by rcases o.form with ⟨rfl,_⟩ | ⟨b,c,cells,op,rfl,_⟩ <;> rfl
theorem SO.same {h:H} {v:Value} {l:List Bs} (o:SO h v l):aj v v=true:=by
 rcases o.form with ⟨rfl,_⟩ | ⟨b,c,cells,op,rfl,_⟩
 ·rfl
 ·simp[aj,iC,fV]
theorem SO.keep {h h':H} {v:Value} {l:List Bs} (o:SO h v l) (hn:h.next<=h'.next) (hk:∀b,dn v=some b->b<h.next->hget h' b=hget h b):SO h' v l:=OL.keep o hn hk
theorem SO.blk {h:H} {v:Value} {l:List Bs} (o:SO h v l) (b:Nat) (hb:dn v=some b):b<h.next:=OL.blk o b hb
theorem SO.row9 {h:H} {v:Value} {l:List Bs} (o:SO h v l) {b:Nat} (hb:dn v=some b):∃n op cells,hget h b=.row 9 n op false 0 cells:=by
 rcases o.form with ⟨rfl,_⟩ | ⟨b',c,cells,op,rfl,_,e⟩
 ·exact nomatch hb
 ·cases hb;exact⟨_,_,_,e⟩
theorem A7 (a:Addr):aj (.pointer (some a)) (.pointer (some a))=true:=by simp[aj,iC,fV]
variable {E : Env} (u : US E) {rc : RC}
structure iE (rc:RC) (Q:H->Prop):Prop where
 num:A9 rc Q
 kinds:∀(h:H) (k:Value->H->R),h.next<=900000000->rc 65 [] h k=k (.slice (some ⟨h.next,0,none⟩) 5 10) (ag h (.row 9 5 false false 0 (T.ofList unk (ch.map aF))))
 index:∀(h:H) (tb:Nat) (w:Bs) (k:Value->H->R),hget h tb=.row 9 5 false false 0 (T.ofList unk (ch.map aF))->rc 64 [.slice (some ⟨tb,0,none⟩) 5 10,aF w] h k=k (if jq w ch<5 then .int .i64 (.ofNat (jq w ch)) else .int .i64 (.negSucc 0)) h
 plain:∀(w:Bs) (h:H) (k:Value->H->R),rc 66 [aF w] h k=k (aF (rS w)) h
theorem wz (hE:E.und 3=some (.int .i64)) {cx cy:Bool} {k:Value->R}:binR (binC E .lss 3 cx cy) (.int .i64 (.negSucc 0)) (.int .i64 (.ofNat 0)) k=k (.bool true):=by have hb:iz E .lss 3 cx cy (.int .i64 (.negSucc 0)) (.int .i64 (.ofNat 0))=some (.bool true):=rfl;unfold binR binC;rw[hE];show bindO (iz E .lss 3 cx cy (.int .i64 (.negSucc 0)) (.int .i64 (.ofNat 0))) k=_;rw[hb];rfl
theorem CR.put {ty B b:Nat} {h:H} {x y:iq} {cells:T Value} {on tx on' tx' v:Value} {j:Nat} (lo:B<=b) (lt:b<h.next) (hs:h.next<=1000000000) (hj:j<=8) (hc:∀i,i<9->getF cells i=(dJ x on tx).getD i unk) (h1:SO h on' y.on) (h2:SO h tx' y.texts)
  (h3:∀c,dn on'=some c->B<=c/\dn tx'≠some c) (h4:∀c,dn tx'=some c->B<=c) (hne:∀n op cs,hget h b ≠ .row 9 n op false 0 cs) (hy:∀i,i<9->(if i=j then v else (dJ x on tx).getD i unk)=(dJ y on' tx').getD i unk):CR ty B (hset h b (.row ty 9 false false 0 (putF cells j [v]))) b y:=by
 have hk:∀w l,SO h w l->SO (hset h b (.row ty 9 false false 0 (putF cells j [v]))) w l:=λw l o=>o.keep (Nat.le_refl _) λc hc hl=>by rw[cu _ _ _ _ (by omega),if_neg];intro e;subst e;obtain⟨n,op,cs,e⟩:=o.row9 hc;exact hne n op cs e
 refine⟨lo,lt,_,on',tx',cm _ _ _ (by omega),λi hi=>?_,hk _ _ h1,hk _ _ h2,h3,h4⟩;rw[xp _ (by omega),hc i hi];exact hy i hi
theorem gO (k:IntKind) (n:Int) (K:List Value->R):onCells (.int k n) K=K [.int k n]:=rfl
theorem yr (s:Bs) (K:List Value->R):onCells (aF s) K=K [aF s]:=rfl
section
variable {Q : H -> Prop} {B b : Nat} {h : H} {x : iq} {k : Value -> H -> R} {X : R} {w : Bs}
def dR (B:Nat) (h:H) (b:Nat) (k:Value->H->R) (X:R):Except Nat iq->Prop
 |.ok y=>∃h',eU B h h' 4/\X=k (.int .i64 (.ofNat 0)) h'/\CR 32 B h' b y
 |.error e=>∃h',eU B h h' 4/\X=k (.int .i64 (.ofNat e)) h'
include u
theorem Sc (cr:CR 32 B h b x) (hn:h.next<=800000000) (hw:w.length<=100000) (e:p42 E rc (.pointer (some ⟨b,0,none⟩)) (.int .u8 (.ofNat 76)) (aF w) h k=X):dR B h b k X (dX x .L w):=by
 have u3:=u.u3;have u5:=u.u5;obtain⟨lo,lt,cells,on,tx,hq,hc,s1,s2,s3,s4⟩:=cr;have hlen:∀K,bindO (bv E h 9 (aF w)) K=K (.int .i64 (.ofNat w.length)):=λK=>by unfold aF;rw[nS u];rfl
 unfold p42 at e;simp only[↓ai,↓gv u5,show beq 76 76=true from rfl,↓aK,↓hlen] at e;unfold dX;by_cases q:16<w.length
 ·simp only[↓mB u3 q,↓aK] at e;rw[if_pos q];exact⟨h,eU.refl _ _ _,e.symm⟩
 ·have q':w.length<=16:=by omega
  simp only[↓lG u3 q',↓aM,↓ba,↓aG,↓yr,↓lD hq (show 2+1<=9 by omega) (show cell1F (aF w)=true from rfl)] at e;rw[if_neg q];refine⟨_,(eU.set lo (by omega) _).mono (by omega),e.symm,?_⟩;exact CR.put lo lt (by omega) (by omega) hc s1 s2 s3 s4 (λn op cs e=>by rw[hq] at e;cases e) λi hi=>by
   match i,hi with
   | 0,_=>rfl
   | 1,_=>rfl
   | 2,_=>rfl
   | 3,_=>rfl
   | 4,_=>rfl
   | 5,_=>rfl
   | 6,_=>rfl
   | 7,_=>rfl
   | 8,_=>rfl
end
end
section
theorem xO (h:H) (o:AO):hset (H.mk (Nat.add h.1 1) h.2) h.1 o=ag h o:=rfl
variable {E : Env} (u : US E) {i30 : TypeInfo} (T1 : Ad E 30 9 1 i30 [.string ⟨⟨[]⟩⟩]) {rc : RC} {Q : H -> Prop} {B b : Nat} {h : H} {x : iq} {k : Value -> H -> R} {X : R} {w : Bs}
theorem Ps (s:Bs):cG (λm=>some (Nat.mul m 1,1)) (List.flatten (List.replicate 1 (cellsOfV (.string (ByteArray.mk #[]))))) [(0,aF s)]=some [aF s]:=rfl
theorem ke (l:List Value) (n:R) (f:List Value->R):@Option.rec (List Value) (λ_=>R) n f (some l)=f l:=rfl
theorem kv {o:Option (Value × H)} {v:Value} {h:H} (e:o=some (v,h)) (K:Value->H->R):cT o K=K v h:=by rw[e];rfl
include u T1
theorem aa1 (cr:CR 32 B h b x) (hn:h.next<=800000000) (hl:x.on.length<=8500) (e:p42 E rc (.pointer (some ⟨b,0,none⟩)) (.int .u8 (.ofNat 104)) (aF w) h k=X):dR B h b k X (dX x .h w):=by
 have u3:=u.u3;have u5:=u.u5;obtain⟨lo,lt,cells,on,tx,hq,hc,s1,s2,s3,s4⟩:=cr;have hqr:∀K,onRow (hget h b) K=K 32 9 false false 0 cells:=λK=>by rw[hq];rfl
 unfold p42 at e;simp only[↓ai,↓gv u5,show beq 104 76=false from rfl,show beq 104 104=true from rfl,↓aM,↓aK,↓ba,↓aG,↓hqr,↓Ps,↓ke] at e;rw[dF (show ble (Nat.succ (Nat.add 0 3)) 9=true from rfl),au (show h.1<=1000000000 by show h.next<=_;omega),aJ] at e;rw[show getF cells (Nat.add 0 3)=on from hc 3 (by omega)] at e;obtain⟨v',h',e1,o1,n1,b1,f1⟩:=rp T1 s1 (by omega) (by omega) w;rw[kv (show bu E (ag h (.row 9 1 false false 0 (T.ofList unk [aF w]))) .append [on,.slice (some (Addr.mk h.1 0 none)) 1 2] [30,30]=some (v',h') from e1)] at e;have hbon:dn on≠some b:=λee=>by obtain⟨n,op,cs,e2⟩:=s1.row9 ee;rw[hq] at e2;cases e2
 have hq':hget h' b=.row 32 9 false false 0 cells:=(f1 b lt hbon).trans hq;simp only[↓o1.cells] at e;have hst:=lD hq' (show 3+1<=9 by omega) o1.cell1 (λy=>k (.int .i64 (.ofNat 0)) y);have hst':=hst.symm.trans e;have htx:SO h' tx x.texts:=s2.keep (by omega) λc hc hl=>f1 c hl λee=>(s3 c ee).2 hc;unfold dX dR;refine⟨_,?_,hst'.symm,?_⟩
 ·exact eU.trans (m:=4) (n:=0) ⟨by omega,by omega,λid hid=>f1 id (by omega) λee=>by have:=(s3 id ee).1;omega⟩ (eU.set lo (by omega) _) (by omega)
 ·refine CR.put (on:=on) (tx:=tx) (on':=v') (tx':=tx) lo (by omega) (by omega) (by omega) hc o1 htx (λc hc=>?_) s4 (λn op cs ee=>by rw[hq'] at ee;cases ee) λi hi=>?_
  ·rw[b1] at hc;cases hc;exact⟨by omega,λee=>by have:=s2.blk _ ee;omega⟩
  ·match i,hi with
   | 0,_=>rfl
   | 1,_=>rfl
   | 2,_=>rfl
   | 3,_=>rfl
   | 4,_=>rfl
   | 5,_=>rfl
   | 6,_=>rfl
   | 7,_=>rfl
   | 8,_=>rfl
theorem ahJ (hR:iE rc Q) (cr:CR 32 B h b x) (hn:h.next<=800000000) (hl:x.texts.length<=8500) {c:Nat} (hcs:beq c 76=false/\beq c 104=false/\beq c 111=false/\beq c 110=false/\beq c 109=false/\beq c 107=false/\beq c 99=false) (e:p42 E rc (.pointer (some ⟨b,0,none⟩)) (.int .u8 (.ofNat c)) (aF w) h k=X):dR B h b k X (dX x .t w):=by
 have u3:=u.u3;have u5:=u.u5;obtain⟨c1,c2,c3,c4,c5,c6,c7⟩:=hcs;obtain⟨lo,lt,cells,on,tx,hq,hc,s1,s2,s3,s4⟩:=cr;have hq1:hget (H.mk (Nat.add h.1 1) h.2) b=.row 32 9 false false 0 cells:=hq;have hqr:∀K,onRow (hget (H.mk (Nat.add h.1 1) h.2) b) K=K 32 9 false false 0 cells:=λK=>by rw[hq1];rfl
 unfold p42 at e;simp only[↓ai,↓gv u5,c1,c2,c3,c4,c5,c6,c7,↓aM,↓aK] at e;rw[au (show h.1<=1000000000 by show h.next<=_;omega),aJ] at e;simp only[↓ba,↓aG,↓hqr] at e;rw[dF (show ble (Nat.succ (Nat.add 0 8)) 9=true from rfl),hR.plain] at e;simp only[A7,↓eP,↓hqr] at e;rw[dF (show ble (Nat.succ (Nat.add 0 8)) 9=true from rfl)] at e;have h8:getF cells (Nat.add 0 8)=tx:=hc 8 (by omega);rw[h8,s2.same,eP] at e;simp only[↓Ps,↓ke] at e;rw[aJ,xO] at e;obtain⟨v',h',e1,o1,n1,b1,f1⟩:=rp T1 s2 (by omega) (by omega) (rS w);rw[kv (show bu E (ag h (.row 9 1 false false 0 (T.ofList unk [aF (rS w)]))) .append [tx,.slice (some (Addr.mk h.1 0 none)) 1 2] [30,30]=some (v',h') from e1)] at e;have hbtx:dn tx≠some b:=λee=>by obtain⟨n,op,cs,e2⟩:=s2.row9 ee;rw[hq] at e2;cases e2
 have hq':hget h' b=.row 32 9 false false 0 cells:=(f1 b lt hbtx).trans hq;simp only[↓o1.cells] at e;have hst:=lD hq' (show 8+1<=9 by omega) o1.cell1 (λy=>k (.int .i64 (.ofNat 0)) y);have hst':=hst.symm.trans e;have hon:SO h' on x.on:=s1.keep (by omega) λc hc hl=>f1 c hl λee=>(s3 c hc).2 ee;unfold dX dR;refine⟨_,?_,hst'.symm,?_⟩
 ·exact eU.trans (m:=4) (n:=0) ⟨by omega,by omega,λid hid=>f1 id (by omega) λee=>by have:=s4 id ee;omega⟩ (eU.set lo (by omega) _) (by omega)
 ·refine CR.put (on:=on) (tx:=tx) (on':=on) (tx':=v') lo (by omega) (by omega) (by omega) hc hon o1 (λc hc=>?_) (λc hc=>?_) (λn op cs ee=>by rw[hq'] at ee;cases ee) λi hi=>?_
  ·exact⟨(s3 c hc).1,λee=>by rw[b1] at ee;cases ee;have:=s1.blk _ hc;omega⟩
  ·rw[b1] at hc;cases hc;omega
  ·match i,hi with
   | 0,_=>rfl
   | 1,_=>rfl
   | 2,_=>rfl
   | 3,_=>rfl
   | 4,_=>rfl
   | 5,_=>rfl
   | 6,_=>rfl
   | 7,_=>rfl
   | 8,_=>rfl
end
section
variable {E : Env} (u : US E) {i30 : TypeInfo} (T1 : Ad E 30 9 1 i30 [.string ⟨⟨[]⟩⟩]) {rc : RC} {Q : H -> Prop} {B b : Nat} {h : H} {x : iq} {k : Value -> H -> R} {X : R} {w : Bs}
theorem l9 {j:Nat} {y:iq} {h1:H} (cr:CR 32 B h b x) (f:Fr h h1 1) (hj:j<=8) (hn:h.next<=800000000) (hon:y.on=x.on) (htx:y.texts=x.texts)
  (hy:∀on tx i,i<9->(if i=j then (Value.int .i64 (.ofNat (cC w).1)) else (dJ x on tx).getD i unk)=(dJ y on tx).getD i unk) {K:H->R}
  (e:(onRow (hget h1 b) λs t u v1 w1 x=>ifB (notB v1) (ifB (beq (lenF [.int .i64 (.ofNat (cC w).1)]) 1) (ifB (ble w1 (Nat.add 0 j)) (ifB (ble (Nat.add (Nat.add 0 j) 1) t) (ifB (ble t 1000000000) (ifB (allF (λy=>cell1F y) [.int .i64 (.ofNat (cC w).1)]) (letH (hset h1 b (.row s t u false w1 (putF x (Nat.add 0 j) [.int .i64 (.ofNat (cC w).1)]))) K)))))))=X)
  (hK:K=λy=>k (.int .i64 (.ofNat (cC w).2)) y):dR B h b k X (if (cC w).2=0 then .ok y else .error (cC w).2):=by
 obtain⟨lo,lt,cells,on,tx,hq,hc,s1,s2,s3,s4⟩:=cr;have hq1:hget h1 b=.row 32 9 false false 0 cells:=(f.old b lt).trans hq;have hub:=f.ub;have hle:=f.le;rw[lD hq1 (show j+1<=9 by omega) rfl,hK] at e;have hb1:=eU.set (h:=h1) (B:=B) lo (by omega) (.row 32 9 false false 0 (putF cells j [.int .i64 (.ofNat (cC w).1)]));have hf:=((f.b (B:=B) (by omega)).trans hb1 (Nat.le_refl _)).mono (show 1+0<=4 by omega);by_cases q:(cC w).2=0
 ·rw[if_pos q];refine⟨_,hf,?_,?_⟩
  ·rw[<-e,q]
  ·have o1:SO h1 on x.on:=s1.keep hle λc hc hl=>f.old c hl;have o2:SO h1 tx x.texts:=s2.keep hle λc hc hl=>f.old c hl;exact CR.put lo (by omega) (by omega) hj hc (by rw[hon];exact o1) (by rw[htx];exact o2) s3 s4 (λn op cs ee=>by rw[hq1] at ee;cases ee) (hy on tx)
 ·rw[if_neg q];exact⟨_,hf,e.symm⟩
include u in
theorem RQ (hR:iE rc Q) (cr:CR 32 B h b x) (hq:Q h) (hn:h.next<=800000000) (hw:w.length<=100000) (e:p42 E rc (.pointer (some ⟨b,0,none⟩)) (.int .u8 (.ofNat 110)) (aF w) h k=X):dR B h b k X (dX x .n w):=by
 have u5:=u.u5;unfold p42 at e;simp only[↓ai,↓gv u5,show beq 110 76=false from rfl,show beq 110 104=false from rfl,show beq 110 111=false from rfl,show beq 110 110=true from rfl,↓aM,↓aK] at e;obtain⟨h1,e1,f1⟩:=hR.num w h hw hq (by omega) _ _ e;replace e1:=e1.symm;simp only[↓bJ,↓bK,↓cd,↓ba,↓aG,↓gO] at e1
 refine l9 (w:=w) (j:=4) (y:={ x with n:=((cC w).1:Nat) }) cr f1 (by omega) hn rfl rfl (λon tx i hi=>by
   match i,hi with
   | 0,_=>rfl
   | 1,_=>rfl
   | 2,_=>rfl
   | 3,_=>rfl
   | 4,_=>rfl
   | 5,_=>rfl
   | 6,_=>rfl
   | 7,_=>rfl
   | 8,_=>rfl) e1 rfl
include u in
theorem adH (hR:iE rc Q) (cr:CR 32 B h b x) (hq:Q h) (hn:h.next<=800000000) (hw:w.length<=100000) (e:p42 E rc (.pointer (some ⟨b,0,none⟩)) (.int .u8 (.ofNat 109)) (aF w) h k=X):dR B h b k X (dX x .m w):=by
 have u5:=u.u5;unfold p42 at e;simp only[↓ai,↓gv u5,show beq 109 76=false from rfl,show beq 109 104=false from rfl,show beq 109 111=false from rfl,show beq 109 110=false from rfl,show beq 109 109=true from rfl,↓aM,↓aK] at e;obtain⟨h1,e1,f1⟩:=hR.num w h hw hq (by omega) _ _ e;replace e1:=e1.symm;simp only[↓bJ,↓bK,↓cd,↓ba,↓aG,↓gO] at e1
 refine l9 (w:=w) (j:=5) (y:={ x with m:=((cC w).1:Nat) }) cr f1 (by omega) hn rfl rfl (λon tx i hi=>by
   match i,hi with
   | 0,_=>rfl
   | 1,_=>rfl
   | 2,_=>rfl
   | 3,_=>rfl
   | 4,_=>rfl
   | 5,_=>rfl
   | 6,_=>rfl
   | 7,_=>rfl
   | 8,_=>rfl) e1 rfl
include u in
theorem afp (hR:iE rc Q) (cr:CR 32 B h b x) (hq:Q h) (hn:h.next<=800000000) (hw:w.length<=100000) (e:p42 E rc (.pointer (some ⟨b,0,none⟩)) (.int .u8 (.ofNat 107)) (aF w) h k=X):dR B h b k X (dX x .k w):=by
 have u5:=u.u5;unfold p42 at e;simp only[↓ai,↓gv u5,show beq 107 76=false from rfl,show beq 107 104=false from rfl,show beq 107 111=false from rfl,show beq 107 110=false from rfl,show beq 107 109=false from rfl,show beq 107 107=true from rfl,↓aM,↓aK] at e;obtain⟨h1,e1,f1⟩:=hR.num w h hw hq (by omega) _ _ e;replace e1:=e1.symm;simp only[↓bJ,↓bK,↓cd,↓ba,↓aG,↓gO] at e1
 refine l9 (w:=w) (j:=6) (y:={ x with k:=((cC w).1:Nat) }) cr f1 (by omega) hn rfl rfl (λon tx i hi=>by
   match i,hi with
   | 0,_=>rfl
   | 1,_=>rfl
   | 2,_=>rfl
   | 3,_=>rfl
   | 4,_=>rfl
   | 5,_=>rfl
   | 6,_=>rfl
   | 7,_=>rfl
   | 8,_=>rfl) e1 rfl
include u in
theorem WH (hR:iE rc Q) (cr:CR 32 B h b x) (hq:Q h) (hn:h.next<=800000000) (hw:w.length<=100000) (e:p42 E rc (.pointer (some ⟨b,0,none⟩)) (.int .u8 (.ofNat 111)) (aF w) h k=X):dR B h b k X (dX x .o w):=by
 have u5:=u.u5;unfold p42 at e;simp only[↓ai,↓gv u5,show beq 111 76=false from rfl,show beq 111 104=false from rfl,show beq 111 111=true from rfl,↓aM,↓aK] at e;unfold aF at e;rw[Aj u] at e;unfold dX;by_cases qn : w = str "none"
 ·rw[show (w==[110,111,110,101])=true by rw[qn];rfl] at e;rw[if_pos qn];obtain⟨lo,lt,cells,on,tx,hq0,hc,s1,s2,s3,s4⟩:=cr;simp only[↓aK,↓ba,↓aG,↓lD hq0 (show 4+1<=9 by omega) (show cell1F (.int .i64 (.negSucc 0))=true from rfl)] at e;refine⟨_,(eU.set lo (by omega) _).mono (by omega),e.symm,?_⟩;exact CR.put lo lt (by omega) (by omega) hc s1 s2 s3 s4 (λn op cs e=>by rw[hq0] at e;cases e) λi hi=>by
   match i,hi with
   | 0,_=>rfl
   | 1,_=>rfl
   | 2,_=>rfl
   | 3,_=>rfl
   | 4,_=>rfl
   | 5,_=>rfl
   | 6,_=>rfl
   | 7,_=>rfl
   | 8,_=>rfl
 ·rw[show (w==[110,111,110,101])=false from beq_eq_false_iff_ne.2 (show ¬ w=[110,111,110,101] from qn)] at e;rw[if_neg qn];simp only[↓aM] at e;obtain⟨h1,e1,f1⟩:=hR.num w h hw hq (by omega) _ _ e;replace e1:=e1.symm;simp only[↓bJ,↓bK,↓cd,↓ba,↓aG,↓gO] at e1
  refine l9 (w:=w) (j:=4) (y:={ x with n:=((cC w).1:Nat) }) cr f1 (by omega) hn rfl rfl (λon tx i hi=>by
   match i,hi with
   | 0,_=>rfl
   | 1,_=>rfl
   | 2,_=>rfl
   | 3,_=>rfl
   | 4,_=>rfl
   | 5,_=>rfl
   | 6,_=>rfl
   | 7,_=>rfl
   | 8,_=>rfl) e1 rfl
include u in
theorem acA (hR:iE rc Q) (cr:CR 32 B h b x) (hn:h.next<=800000000) (e:p42 E rc (.pointer (some ⟨b,0,none⟩)) (.int .u8 (.ofNat 99)) (aF w) h k=X):dR B h b k X (dX x .c w):=by
 have u3:=u.u3;have u5:=u.u5;unfold p42 at e;simp only[↓ai,↓gv u5,show beq 99 76=false from rfl,show beq 99 104=false from rfl,show beq 99 111=false from rfl,show beq 99 110=false from rfl,show beq 99 109=false from rfl,show beq 99 107=false from rfl,show beq 99 99=true from rfl,↓aM,↓aK] at e;rw[hR.kinds h _ (by omega),hR.index _ h.next w _ (aD _ _ (by omega))] at e;have f1:Fr h (ag h (.row 9 5 false false 0 (T.ofList unk (ch.map aF)))) 1:=Fr.push _ (by omega);generalize ag h (.row 9 5 false false 0 (T.ofList unk (ch.map aF)))=h1 at e f1;obtain⟨lo,lt,cells,on,tx,hq,hc,s1,s2,s3,s4⟩:=cr;have hub:=f1.ub;have hle:=f1.le;have hq1:hget h1 b=.row 32 9 false false 0 cells:=(f1.old b lt).trans hq;unfold dX;by_cases q:jq w ch<5
 ·rw[if_pos q] at e;rw[if_pos q];rw[iu u3 (Nat.zero_le _)] at e;simp only[↓cJ,↓aM,↓cn,be (show jq w ch<=255 by omega),↓ba,↓aG,↓gO,↓lD hq1 (show 7+1<=9 by omega) (show cell1F (.int .u8 (.ofNat (jq w ch)))=true from rfl)] at e;refine⟨_,((f1.b (B:=B) (by omega)).trans (eU.set lo (by omega) _) (Nat.le_refl _)).mono (show 1+0<=4 by omega),e.symm,?_⟩;exact CR.put lo (by omega) (by omega) (by omega) hc (s1.keep hle λc hc hl=>f1.old c hl) (s2.keep hle λc hc hl=>f1.old c hl) s3 s4 (λn op cs e=>by rw[hq1] at e;cases e) λi hi=>by
   match i,hi with
   | 0,_=>rfl
   | 1,_=>rfl
   | 2,_=>rfl
   | 3,_=>rfl
   | 4,_=>rfl
   | 5,_=>rfl
   | 6,_=>rfl
   | 7,_=>rfl
   | 8,_=>rfl
 ·rw[if_neg q] at e;rw[if_neg q];rw[wz u3] at e;simp only[↓aK] at e;exact⟨h1,(f1.b (B:=B) (by omega)).mono (by omega),e.symm⟩
include u T1 in
theorem ak3 (hR:iE rc Q) (cr:CR 32 B h b x) (hq:Q h) (hn:h.next<=800000000) (hw:w.length<=100000) (hl1:x.on.length<=8500) (hl2:x.texts.length<=8500) (c:UInt8)
  (e:p42 E rc (.pointer (some ⟨b,0,none⟩)) (gd c) (aF w) h k=X):dR B h b k X (dX x (tM c) w):=by
 unfold gd at e;unfold tM;by_cases c1:c=76
 ·subst c1;exact Sc u cr hn hw e
 by_cases c2:c=104
 ·subst c2;exact aa1 u T1 cr hn hl1 e
 by_cases c3:c=111
 ·subst c3;exact WH u hR cr hq hn hw e
 by_cases c4:c=110
 ·subst c4;exact RQ u hR cr hq hn hw e
 by_cases c5:c=109
 ·subst c5;exact adH u hR cr hq hn hw e
 by_cases c6:c=107
 ·subst c6;exact afp u hR cr hq hn hw e
 by_cases c7:c=99
 ·subst c7;exact acA u hR cr hn e
 have hne:∀{d:UInt8},c≠d->beq c.toNat d.toNat=false:=λ{d} h=>fT λe=>h (UInt8.toNat_inj.1 e);rw[if_neg c1,if_neg c2,if_neg c3,if_neg c4,if_neg c5,if_neg c6,if_neg c7];exact ahJ u T1 hR cr hn hl2 ⟨hne c1,hne c2,hne c3,hne c4,hne c5,hne c6,hne c7⟩ e
end
section
def aO:List Value:=[.int .i64 (.ofNat 0),.int .u8 (.ofNat 0),.string (ByteArray.mk #[]),.slice none 0 0,.int .i64 (.ofNat 0),.int .i64 (.ofNat 0),.int .i64 (.ofNat 0),.int .u8 (.ofNat 0),.slice none 0 0]
theorem mZ:cellsOfV (.agg (@List.toArray Value [.int .i64 (.ofNat 0),.int .u8 (.ofNat 0),.string (ByteArray.mk #[]),.slice none 0 0,.int .i64 (.ofNat 0),.int .i64 (.ofNat 0),.int .i64 (.ofNat 0),.int .u8 (.ofNat 0),.slice none 0 0]))=aO:=rfl
structure CE (E:Env) (ty:TypeId):Prop extends US E where
 u24:E.und 24=some (.int .i64)
 u30:E.und 30=some (.slice 9)
 z9:E.size 9=some 1
 load:∀(h:H) (b:Nat) (op ro:Bool) (fz:Nat) (cells:T Value),hget h b=.row ty 9 op ro fz cells->aU E h ty ⟨b,0,none⟩=some (.agg ⟨ac cells 9 0⟩)
 build:∀(a:Int) (c:Nat),cg E ty [(0,.int .i64 a),(1,.int .u8 (.ofNat c))]=some (.agg ⟨[.int .i64 a,.int .u8 (.ofNat c),.string (ByteArray.mk #[]),.slice none 0 0,.int .i64 (.ofNat 0),.int .i64 (.ofNat 0),.int .i64 (.ofNat 0),.int .u8 (.ofNat 0),.slice none 0 0]⟩)
theorem min_i64 (E:Env) (h:H) (a b:Nat):bn E h .min [.int .i64 (.ofNat a),.int .i64 (.ofNat b)] [3,3]=some (.int .i64 (.ofNat (min a b))):=by
 show some (Value.int .i64 (if (Int.ofNat b)<(Int.ofNat a) then (Int.ofNat b) else (Int.ofNat a)))=_
 congr 2
 by_cases q:b<a
 ·rw[if_pos (by exact Int.ofNat_lt.2 q),Nat.min_eq_right (by omega)]
 ·rw[if_neg (by intro hh;exact q (Int.ofNat_lt.1 hh)),Nat.min_eq_left (by omega)]
theorem qO (l:List Value):allF (λy=>cell1F y) l=l.all cell1F:=by
 induction l with
 | nil=>rfl
 | cons v l ih=> show Bool.rec (motive:=λ_=>Bool) false (allF (λy=>cell1F y) l) (cell1F v)=_;rw[List.all_cons,ih];cases cell1F v <;> rfl
theorem AV {h:H} {ty b:Nat} {cells:T Value} {L:List Value} (hq:hget h b=.row ty 9 false false 0 cells) (hL:L.length=9) (h1:L.all cell1F=true) (K:H->R):
  (onRow (hget h b) λc d e f g h'=>ifB (notB f) (ifB (beq (lenF L) 9) (ifB (ble g 0) (ifB (ble 9 d) (ifB (ble d 1000000000) (ifB (allF (λy=>cell1F y) L) (letH (hset h b (.row c d e false g (putF h' 0 L))) K)))))))=K (hset h b (.row ty 9 false false 0 (putF cells 0 L))):=by
 rw[hq,dQ,dF (c:=notB false) rfl,dF (c:=beq (lenF L) 9) (by rw[bU,hL];rfl),au (Nat.zero_le _),au (Nat.le_refl _),au (by omega),dF (by rw[qO,h1]),aJ]
theorem jj (cells:T Value) {L:List Value} (hl:L.length=9):ac (putF cells 0 L) 9 0=L:=by rw[dS,<-hl];refine fN L _ 0 λi hi=>?_;rw[j7,cO _ _ _ (by omega),if_pos (by omega)];simp
theorem Zn {cells:T Value} {L:List Value} (hl:L.length=9) (hc:∀i,i<9->getF cells i=L.getD i unk):ac cells 9 0=L:=by rw[dS,<-hl];refine fN L _ 0 λi hi=>?_;rw[Nat.zero_add,<-cL,hc i (by omega)]
theorem j4 {h:H} {x:iq} {on tx:Value} (s1:SO h on x.on) (s2:SO h tx x.texts):(dJ x on tx).all cell1F=true:=by have h1:=s1.cell1;have h2:=s2.cell1;unfold dJ;simp only[List.all_cons,List.all_nil,h1,h2];rfl
theorem yf {x:iq} {s:Sg} {w:Bs} {e:Nat} (h:dX x s w=.error e):e≠0:=by unfold dX at h;split at h <;> (try split at h) <;> (try split at h) <;> first | (cases h;done) | (cases h;first | omega | assumption | simp)
theorem yk {x y:iq} {s:Sg} {w:Bs} (h:dX x s w=.ok y):y.on.length<=x.on.length+1/\y.texts.length<=x.texts.length+1:=by unfold dX at h;split at h <;> (try split at h) <;> (try split at h) <;> first | (cases h;done) | (cases h;simp)
theorem cD.frB {hS h h':H} {B n:Nat} (f:cD hS h) (g:eU B h h' n) (hb:hS.next<=B):cD hS h':=⟨Nat.le_trans f.le g.le,λid hid=>(g.old id (by omega)).trans (f.old id hid)⟩
def o0 (rc:RC) (Q:H->Prop):Prop:=∀(B b:Nat) (h:H) (x:iq) (w:Bs) (c:UInt8) (k:Value->H->R) (X:R),CR 32 B h b x->Q h->h.next<=800000000->w.length<=100000->x.on.length<=8500->x.texts.length<=8500 ->
 rc 42 [.pointer (some ⟨b,0,none⟩),gd c,aF w] h k=X->dR B h b k X (dX x (tM c) w)
variable {E : Env} (u : CE E 32) {rc : RC} {hS : H}
include u
theorem Pw {h:H} {eb:Nat} {cellsE:T Value} (he:hget h eb=.row 32 9 false false 0 cellsE) (m:Nat) (k:Value->H->R):
  (onRow (hget h eb) λa6 a7 a8 a9 b0 b1=>ifB (notB a9) (ifB (beq (lenF aO) 9) (ifB (ble b0 0) (ifB (ble 9 a7) (ifB (ble a7 1000000000) (ifB (allF (λb2=>cell1F b2) aO) (letH (hset h eb (.row a6 a7 a8 false b0 (putF b1 0 aO)))
   λb2=>bindO (aU E b2 32 (Addr.mk eb 0 none)) λb3=>ifB (nT [b3,.int .i64 (.ofNat m)]) (k (.tuple ⟨[b3,.int .i64 (.ofNat m)]⟩) b2))))))))=k (.tuple ⟨[.agg ⟨aO⟩,.int .i64 (.ofNat m)]⟩) (hset h eb (.row 32 9 false false 0 (putF cellsE 0 aO))) \/ 1000000000<eb:=by
 by_cases hb:1000000000<eb
 ·exact .inr hb
 refine .inl ?_;rw[AV he rfl rfl];rw[u.load _ eb false false 0 _ (cm _ _ _ (by omega)),bw,jj _ rfl];rfl
theorem V2 (hT:o0 rc (cD hS)) {hd:H} {D B0 eb cb:Nat} (hD:D=hd.next) (hB:hS.next<=B0) (hB2:B0<=D) {v:Value} {l:List Bs} (o:WL hd v l) (hs:small l) (hln:l.length<=8000) {cellsE:T Value} (he0:B0<=eb) (he1:eb<D) (he:hget hd eb=.row 32 9 false false 0 cellsE)
  {cellsC:T Value} {opC roC:Bool} {fzC:Nat} {r:Bs} (hc1:cb<D) (hcq:hget hd cb=.row 77 2 opC roC fzC cellsC) (hcr:getF cellsC 1=aF r) (hr:l ≠ []->1<=r.length/\r.length<=4) {f:Form} (hsg:∀i,i<l.length->tM (r.getD (min i (r.length-1)) 0)=f.rest.getD i .t)
  (cH:H) (hcH:cH.1=cb) (dH:H) (hdH:dH.1=D) (eH:H) (heH:eH.1=eb) (k:Value->H->R) (K:aa [5]->H->R) (X:R):∀(d i N:Nat) (x:iq) (z:Value) (h:H),i+d=l.length->d<N->CR 32 D h D x->cD hS h->(∀id,id<D->hget h id=hget hd id)->h.next+4*d<=790000000 ->
  x.on.length<=i->x.texts.length<=i ->
  loopF (ks:=[5,40]) (sn E (.int .i64 (.ofNat l.length)) v cH rc dH eH k K) N (z,(.int .i64 (.ofNat i),())) h=X ->
  match fv f x i (l.drop i) with
  |.ok y=>∃h',eU D h h' (4*d)/\X=K (z,()) h'/\CR 32 D h' D y
  |.error er=>er≠0/\∃h',eU B0 h h' (4*d)/\X=k (.tuple ⟨[.agg ⟨aO⟩,.int .i64 (.ofNat er)]⟩) h':=by
 have u3:=u.u3;intro d
 induction d with
 | zero=>
  intro i N x z h hi hN cr hq hfr hn h1 h2 e;obtain⟨N,rfl⟩:∃M,N=M+1:=⟨N-1,by omega⟩;obtain rfl:i=l.length:=by omega
  rw[ce] at e;unfold sn at e;dsimp only at e;rw[iu u3 (Nat.le_refl _),ai] at e;rw[List.drop_length];exact⟨h,eU.refl _ _ _,e.symm,cr⟩
 | succ d ih=>
  intro i N x z h hi hN cr hq hfr hn h1 h2 e;obtain⟨N,rfl⟩:∃M,N=M+1:=⟨N-1,by omega⟩;have hlt:i<l.length:=by omega
  rw[ce] at e;generalize hLp:loopF (ks:=[5,40]) (sn E (.int .i64 (.ofNat l.length)) v cH rc dH eH k K) N=LP at e;cases o with
  | nil=>exact absurd hlt (Nat.not_lt_zero _)
  | row hb hq9 hm hcap hc=>
   rename_i bk of m cap fz op ro cells;have hlne:l ≠ []:=λee=>by rw[ee] at hlt;exact absurd hlt (Nat.not_lt_zero _)
   obtain⟨r1,r2⟩:=hr hlne;have hq9':hget h bk=.row 9 m op ro fz cells:=(hfr _ (by omega)).trans hq9;have hqr:∀KK,onRow (hget h bk) KK=KK 9 m op ro fz cells:=λKK=>by rw[hq9'];rfl
   have hcq':hget h cb=.row 77 2 opC roC fzC cellsC:=(hfr _ hc1).trans hcq;have hqc:∀KK,onRow (hget h cb) KK=KK 77 2 opC roC fzC cellsC:=λKK=>by rw[hcq'];rfl
   have hci:=hc i hlt;have hgi:(r[min i (r.length-1)]?)=some (r.getD (min i (r.length-1)) 0):=by rw[List.getD_eq_getElem?_getD,List.getElem?_eq_getElem (by omega)];rfl
   have hlen:∀KK,bindO (bv E h 9 (aF r)) KK=KK (.int .i64 (.ofNat r.length)):=λKK=>by unfold aF;rw[nS u.toUS];rfl
   have hix:∀KK,bindO (dD E 9 (aF r) (.int .i64 (.ofNat (min i (r.length-1))))) KK=KK (gd (r.getD (min i (r.length-1)) 0)):=λKK=>by unfold aF;rw[we u.toUS (kd:=.i64) hgi];rfl
   unfold sn at e;dsimp only at e;rw[km u3 hlt,ai,aK] at e;dsimp only at e;rw[ai,cn,bZ,au (show i+1<=l.length by omega),co,aG] at e;dsimp only at e
   rw[hqr,au (show of+i.mul 1+1<=m by show of+i*1+1<=m;omega),hcH,hqc,dF (c:=ble 2 2) rfl,hqc,dF (c:=ble 2 2) rfl,hcr,hlen,fI u3 r1 (by omega),min_i64,bw,hix,hdH,
    show of+i.mul 1=of+i by show of+i*1=_;omega,hci] at e
   have hwl:(l[i]'hlt).length<=100000:=hs _ (List.getElem_mem hlt);have hend:=hT D D h x (l[i]'hlt) (r.getD (min i (r.length-1)) 0) _ _ cr hq (by omega) hwl (by omega) (by omega) e;rw[hsg i hlt] at hend;rw[List.drop_eq_getElem_cons hlt];unfold fv;cases htk:dX x (f.rest.getD i .t) (l[i]'hlt) with
   | ok y=>
    rw[htk] at hend;obtain⟨hy1,hy2⟩:=yk htk;obtain⟨h1',f1,e1,cr1⟩:=hend;replace e1:=e1.symm;dsimp only at e1;rw[dK u.u24,show (!beq 0 0)=false from rfl,ai,aM] at e1;dsimp only at e1;rw[dl u3 (by omega),<-hLp] at e1;have hub:=f1.ub;have key:=ih (i+1) N y z h1' (by omega) (by omega) cr1 (hq.frB f1 (by omega)) (λid hid=>(f1.old id hid).trans (hfr id hid)) (by omega) (by omega) (by omega) e1;show match fv f y (i+1) (l.drop (i+1)) with | .ok y=>_ | .error er=>_
    cases hts:fv f y (i+1) (l.drop (i+1)) with
    | ok y'=> rw[hts] at key;obtain⟨h2',f2,e2,cr2⟩:=key;exact⟨h2',f1.trans f2 (by omega),e2,cr2⟩
    | error er=> rw[hts] at key;obtain⟨hne,h2',f2,e2⟩:=key;refine⟨hne,h2',eU.trans (m:=4) ⟨f1.le,f1.ub,λid hid=>f1.old id (by omega)⟩ f2 (by omega),e2⟩
   | error er=>
    rw[htk] at hend;obtain⟨h1',f1,e1⟩:=hend;replace e1:=e1.symm;dsimp only at e1;have hne:=yf htk;have he':hget h1' eb=.row 32 9 false false 0 cellsE:=(f1.old _ he1).trans ((hfr _ he1).trans he);rw[dK u.u24,show (!beq er 0)=true by rw[fT hne];rfl,ai,aK] at e1;simp only[mZ] at e1;rw[heH] at e1;have hub:=f1.ub;have hlt':=cr.lt;rcases Pw u he' er k with hh | hh
    ·refine⟨hne,_,?_,(hh.symm.trans e1).symm⟩;exact eU.trans (m:=4) (n:=0) ⟨f1.le,f1.ub,λid hid=>f1.old id (by omega)⟩ (eU.set he0 (by omega) _) (by omega)
    ·omega
end
section
theorem WL.cells {h:H} {v:Value} {l:List Bs} (o:WL h v l) (k:List Value->R):onCells v k=k [v]:=by cases o <;> rfl
theorem WL.cell1 {h:H} {v:Value} {l:List Bs} (o:WL h v l):cell1F v=true:=by cases o <;> rfl
theorem WL.same {h:H} {v:Value} {l:List Bs} (o:WL h v l):aj v v=true:=by
 cases o with
 | nil=>rfl
 | row=>simp[aj,iC,fV]
theorem zD (k:IntKind) (n:Int):aj (.int k n) (.int k n)=true:=by simp[aj,iC,fV]
theorem aeE {E:Env} (u30:E.und 30=some (.slice 9)) (z9:E.size 9=some 1) {h:H} {v:Value} {w:Bs} {l:List Bs} (o:WL h v (w :: l)) (hc:gT v \/ 1<=l.length):
  ∃v',dd E 30 v (some (.int .i64 (.ofNat 1))) none none=some v'/\WL h v' l:=by
 cases o with
 | row hb hq hm hcap hcl=>
  rename_i b of m c fz op ro cells;have h1:ble (l.length+1) (c / 2)=true:=be (by simpa using hcap);have h2:ble 1 (l.length+1)=true:=be (by omega);have hcap':l.length+1<=c / 2:=by simpa using hcap
  have hnu:(beq (c / 2) 1&&(!beq (c%2) 0) && !beq 1 0)=false:=by
   rcases hc with hc | hc
   ·rw[show c%2=0 from hc];simp
   ·rw[fT (show ¬ c / 2=1 by omega)];rfl
  have hm':of+(l.length+1)<=m:=by simpa using hm
  unfold dd;simp only[u30,z9,bound,List.length_cons,h1,h2,cond_true,Option.isNone_none,Option.isSome_none,Bool.or_false,Bool.and_true,fM,hnu,cond_false];refine⟨_,rfl,?_⟩;rw[show l.length+1-1=l.length by omega];by_cases q:c / 2=1
  ·have hl:l=[]:=List.length_eq_zero_iff.1 (by omega);subst hl;rw[lI q,cond_true];exact .row hb hq (by simp;omega) (by simp) λi hi=>absurd hi (Nat.not_lt_zero _)
  ·rw[fT q,cond_false,fT (show ¬ 1*1=0 by decide),cond_false];refine .row hb hq (by omega) (by omega) λi hi=>?_;have:=hcl (i+1) (by simpa using hi);rw[show of+1*1+i=of+(i+1) by omega];exact this
theorem set2 {h:H} {b:Nat} {cells:T Value} {a c:Bs} (hq:hget h b=.row 77 2 false false 0 cells) (K:H->R):
  (onRow (hget h b) λq r s t u v=>ifB (notB t) (ifB (beq (lenF [aF a,aF c]) 2) (ifB (ble u 0) (ifB (ble 2 r) (ifB (ble r 1000000000) (ifB (allF (λw=>cell1F w) [aF a,aF c]) (letH (hset h b (.row q r s false u (putF v 0 [aF a,aF c]))) K)))))))=K (hset h b (.row 77 2 false false 0 (putF cells 0 [aF a,aF c]))):=by
 rw[hq,dQ,dF (c:=notB false) rfl,dF (c:=beq (lenF [aF a,aF c]) 2) rfl,au (Nat.zero_le _),au (Nat.le_refl _),au (by omega),dF (c:=allF (λw=>cell1F w) [aF a,aF c]) rfl,aJ]
def zV (rc:RC):Prop:=∀(h:H) (k:Value->H->R),h.next<=900000000->rc 39 [] h k=k (.slice (some ⟨h.next,0,none⟩) 41 82) (ag h cF)
def Pp (rc:RC):Prop:=∀(h:H) (pb tb:Nat) (w0:Bs) (l:List Bs) (k:Value->H->R) (X:R),LV h pb (w0 :: l)->hget h tb=cF->tb<h.next->h.next<=800000000 ->
 rc 38 [.slice (some ⟨tb,0,none⟩) 41 82,.func (.func 40) ⟨[]⟩ ⟨[.pointer (some ⟨pb,0,none⟩)]⟩] h k=X->∃h',Fr h h' 41/\X=if dE w0 aI<41 then k (.int .i64 (.ofNat (dE w0 aI))) h' else k (.int .i64 (.negSucc 0)) h'
def PQ (rc:RC):Prop:=∀(h:H) (a r:Bs) (n:Nat) (k:Value->H->R) (X:R),h.next<=900000000->r.length<=1000->rc 41 [.agg ⟨[aF a,aF r]⟩,.int .i64 (.ofNat n)] h k=X->∃h',X=k (.bool (jw r n)) h'/\Fr h h' 1
def sK (h:H) (n:Nat) (k:Value->H->R) (X:R):Except Nat iq->Prop
 |.ok y=>∃h' on tx,Fr h h' n/\X=k (.tuple ⟨[.agg ⟨dJ y on tx⟩,.int .i64 (.ofNat 0)]⟩) h'/\SO h' on y.on/\SO h' tx y.texts/\(∀c,dn on=some c->h.next<=c)/\(∀c,dn tx=some c->h.next<=c)
 |.error er=>er≠0/\∃h',Fr h h' n/\X=k (.tuple ⟨[.agg ⟨aO⟩,.int .i64 (.ofNat er)]⟩) h'
theorem aqa {i:Nat} (hi:i<41):ac (T.ofList unk (gi aI)) 2 (i*2)=[aF (aI.getD i ([],[])).1,aF (aI.getD i ([],[])).2]:=by obtain⟨t1,t2⟩:=xe hi;show [getF (T.ofList unk (gi aI)) (i*2),getF (T.ofList unk (gi aI)) (i*2+1)]=_;rw[show i*2=2*i by omega,t1,t2]
theorem om:(List.range 41).all (λi=>ble (aI.getD i ([],[])).2.length 4)=true:=by decide
variable {E : Env} (u : CE E 32) {rc : RC} {hS : H}
include u
theorem Kb (hTab:zV rc) (hT:o0 rc (cD hS)) {h0:H} {a:H} (hq:cD hS h0) (h0a:cD h0 a) {pb eb:Nat} {cellsE:T Value} (hpb:h0.next<=pb) (hpb2:pb<a.next) (heb:h0.next<=eb) (heb2:eb<a.next) (hn:a.next+4*8000+100<=780000000)
  {w0:Bs} {l:List Bs} {v:Value} {cp:T Value} (hp:hget a pb=.row 30 1 false false 0 cp) (hcp:getF cp 0=v) (o:WL a v (w0 :: l)) (cl:gT v \/ 1<=l.length) (hs:small l) (hln:l.length<=8000)
  (he:hget a eb=.row 32 9 false false 0 cellsE) {op:Nat} (hop:op<41) (hfit:jw (aI.getD op ([],[])).2 l.length=true) (line:Nat) (hH:H) (hhH:hH.1=pb) (bH:H) (hbH:bH.1=eb) (k:Value->H->R) (z:aa [5]) (X:R)
  (e:wU rc a (.int .i64 (.ofNat op)) E (.int .i64 (.ofNat line)) hH bH k z=X):
  sK h0 (a.next-h0.next+8+4*l.length) k X (fv (dL.getD op f0) ⟨line,op,[],[],0,0,0,0,[]⟩ 0 l):=by
 have u3:=u.u3;have h0n:=h0a.le;unfold wU at e;rw[hTab a _ (by omega),cn,bZ,au (show op+1<=41 by omega),co,aG] at e;have f7:Fr a (ag a cF) 1:=Fr.push _ (by omega);have e7:hget (ag a cF) a.next=cF:=aD _ _ (by omega);have n7:(ag a cF).next=a.next+1:=rfl;generalize ag a cF=h7 at e f7 e7 n7;have hub7:=f7.ub;have hle7:=f7.le;dsimp only at e;rw[show (onRow (hget h7 a.next):_)=onRow cF by rw[e7]] at e;unfold cF at e;rw[dQ,au (show 0+op.mul 2+2<=82 by show 0+op*2+2<=82;omega),au (show h7.1<=1000000000 by show h7.next<=_;omega),aJ,show 0+op.mul 2=op*2 from Nat.zero_add _,aqa hop] at e;generalize hwr:(aI.getD op ([],[])).1=fw at e;generalize hrr:(aI.getD op ([],[])).2=r at e hfit;have f8:Fr h7 (ag h7 (.row 77 2 false false 0 (T.ofList unk [.string (ByteArray.mk #[]),.string (ByteArray.mk #[])]))) 1:=Fr.push _ (by omega);have e8:hget (ag h7 (.row 77 2 false false 0 (T.ofList unk [.string (ByteArray.mk #[]),.string (ByteArray.mk #[])]))) h7.next=.row 77 2 false false 0 (T.ofList unk [.string (ByteArray.mk #[]),.string (ByteArray.mk #[])]):=aD _ _ (by omega);have n8:(ag h7 (.row 77 2 false false 0 (T.ofList unk [.string (ByteArray.mk #[]),.string (ByteArray.mk #[])]))).next=h7.next+1:=rfl;generalize ag h7 (.row 77 2 false false 0 (T.ofList unk [.string (ByteArray.mk #[]),.string (ByteArray.mk #[])]))=h8 at e f8 e8 n8;have hub8:=f8.ub;have hle8:=f8.le;rw[set2 e8] at e;have e9:hget (hset h8 h7.next (.row 77 2 false false 0 (putF (T.ofList unk [.string (ByteArray.mk #[]),.string (ByteArray.mk #[])]) 0 [aF fw,aF r]))) h7.next=.row 77 2 false false 0 (putF (T.ofList unk [.string (ByteArray.mk #[]),.string (ByteArray.mk #[])]) 0 [aF fw,aF r]):=cm _ _ _ (by omega);have o9:∀id,id<h7.next->hget (hset h8 h7.next (.row 77 2 false false 0 (putF (T.ofList unk [.string (ByteArray.mk #[]),.string (ByteArray.mk #[])]) 0 [aF fw,aF r]))) id=hget h8 id:=λid hid=>dA _ _ (by omega) hid;have n9:(hset h8 h7.next (.row 77 2 false false 0 (putF (T.ofList unk [.string (ByteArray.mk #[]),.string (ByteArray.mk #[])]) 0 [aF fw,aF r]))).next=h8.next:=rfl;have c9:getF (putF (T.ofList unk [.string (ByteArray.mk #[]),.string (ByteArray.mk #[])]) 0 [aF fw,aF r]) 1=aF r:=by rw[cL,j7,cO _ _ _ (by simp),if_pos (by simp)];rfl
 generalize hset h8 h7.next (.row 77 2 false false 0 (putF (T.ofList unk [.string (ByteArray.mk #[]),.string (ByteArray.mk #[])]) 0 [aF fw,aF r]))=h9 at e e9 o9 n9;generalize putF (T.ofList unk [.string (ByteArray.mk #[]),.string (ByteArray.mk #[])]) 0 [aF fw,aF r]=cellsC at e e9 c9;rw[cJ,cn,be (show op<=255 by omega)] at e;dsimp only at e;rw[u.build,bw,au (show h9.1<=1000000000 by show h9.next<=_;omega),aJ] at e;have f10:Fr h9 (ag h9 (.row 32 9 false false 0 (T.ofList unk aO))) 1:=Fr.push _ (by omega);have e10:hget (ag h9 (.row 32 9 false false 0 (T.ofList unk aO))) h9.next=.row 32 9 false false 0 (T.ofList unk aO):=aD _ _ (by omega);have hz:([.int .i64 (.ofNat 0),.int .u8 (.ofNat 0),.string (ByteArray.mk #[]),.slice none 0 0,.int .i64 (.ofNat 0),.int .i64 (.ofNat 0),.int .i64 (.ofNat 0),.int .u8 (.ofNat 0),.slice none 0 0]:List Value)=aO:=rfl;rw[hz] at e;rw[bC] at e;have n10:(ag h9 (.row 32 9 false false 0 (T.ofList unk aO))).next=h9.next+1:=rfl;generalize ag h9 (.row 32 9 false false 0 (T.ofList unk aO))=h10 at e f10 e10 n10;have hub10:=f10.ub;have hle10:=f10.le;rw[AV (L:=[.int .i64 (.ofNat line),.int .u8 (.ofNat op),.string (ByteArray.mk #[]),.slice none 0 0,.int .i64 (.ofNat 0),.int .i64 (.ofNat 0),.int .i64 (.ofNat 0),.int .u8 (.ofNat 0),.slice none 0 0]) e10 rfl rfl] at e;have e11:hget (hset h10 h9.next (.row 32 9 false false 0 (putF (T.ofList unk aO) 0 [.int .i64 (.ofNat line),.int .u8 (.ofNat op),.string (ByteArray.mk #[]),.slice none 0 0,.int .i64 (.ofNat 0),.int .i64 (.ofNat 0),.int .i64 (.ofNat 0),.int .u8 (.ofNat 0),.slice none 0 0]))) h9.next=.row 32 9 false false 0 (putF (T.ofList unk aO) 0 [.int .i64 (.ofNat line),.int .u8 (.ofNat op),.string (ByteArray.mk #[]),.slice none 0 0,.int .i64 (.ofNat 0),.int .i64 (.ofNat 0),.int .i64 (.ofNat 0),.int .u8 (.ofNat 0),.slice none 0 0]):=cm _ _ _ (by omega);have o11:∀id,id<h9.next->hget (hset h10 h9.next (.row 32 9 false false 0 (putF (T.ofList unk aO) 0 [.int .i64 (.ofNat line),.int .u8 (.ofNat op),.string (ByteArray.mk #[]),.slice none 0 0,.int .i64 (.ofNat 0),.int .i64 (.ofNat 0),.int .i64 (.ofNat 0),.int .u8 (.ofNat 0),.slice none 0 0]))) id=hget h9 id:=λid hid=>(dA _ _ (by omega) hid).trans (f10.old id hid);have n11:(hset h10 h9.next (.row 32 9 false false 0 (putF (T.ofList unk aO) 0 [.int .i64 (.ofNat line),.int .u8 (.ofNat op),.string (ByteArray.mk #[]),.slice none 0 0,.int .i64 (.ofNat 0),.int .i64 (.ofNat 0),.int .i64 (.ofNat 0),.int .u8 (.ofNat 0),.slice none 0 0]))).next=h10.next:=rfl;have c11:∀i,i<9->getF (putF (T.ofList unk aO) 0 [.int .i64 (.ofNat line),.int .u8 (.ofNat op),.string (ByteArray.mk #[]),.slice none 0 0,.int .i64 (.ofNat 0),.int .i64 (.ofNat 0),.int .i64 (.ofNat 0),.int .u8 (.ofNat 0),.slice none 0 0]) i=(dJ ⟨line,op,[],[],0,0,0,0,[]⟩ (.slice none 0 0) (.slice none 0 0)).getD i unk:=λi hi=>by rw[cL,j7,cO _ _ _ (by simp),if_pos ⟨Nat.zero_le _,by simpa using hi⟩,Nat.sub_zero];rfl
 generalize hset h10 h9.next (.row 32 9 false false 0 (putF (T.ofList unk aO) 0 [.int .i64 (.ofNat line),.int .u8 (.ofNat op),.string (ByteArray.mk #[]),.slice none 0 0,.int .i64 (.ofNat 0),.int .i64 (.ofNat 0),.int .i64 (.ofNat 0),.int .u8 (.ofNat 0),.slice none 0 0]))=h11 at e e11 o11 n11;generalize putF (T.ofList unk aO) 0 [.int .i64 (.ofNat line),.int .u8 (.ofNat op),.string (ByteArray.mk #[]),.slice none 0 0,.int .i64 (.ofNat 0),.int .i64 (.ofNat 0),.int .i64 (.ofNat 0),.int .u8 (.ofNat 0),.slice none 0 0]=cellsD at e11 c11;have cr:CR 32 h9.next h11 h9.next ⟨line,op,[],[],0,0,0,0,[]⟩:=⟨Nat.le_refl _,by omega,cellsD,.slice none 0 0,.slice none 0 0,e11,c11,.nil,.nil,λc hc=>(nomatch hc),λc hc=>(nomatch hc)⟩;have old9:∀id,id<a.next->hget h9 id=hget a id:=λid hid=>(o9 id (by omega)).trans ((f8.old id (by omega)).trans (f7.old id hid));have fa9:cD a h9:=⟨by omega,old9⟩;have hp11:hget h11 pb=.row 30 1 false false 0 cp:=(o11 pb (by omega)).trans ((old9 pb hpb2).trans hp);rw[hhH,show (onRow (hget h11 pb):_)=onRow (.row 30 1 false false 0 cp) by rw[hp11],dQ,dF (c:=ble 1 1) rfl,hcp] at e;obtain⟨v',hv',o'⟩:=aeE u.u30 u.z9 (o.from fa9) cl;rw[hv',bw,cJ] at e;rw[kS (E:=E) (h':=h11) o' u.u30,ai] at e;have hsh:(List.range 41).all (λi=>iV (aI.getD i ([],[])).2 (dL.getD i f0))=true:=BR;have hok:iV r (dL.getD op f0)=true:=by have:=List.all_eq_true.1 hsh op (by simpa using hop);rw[hrr] at this;exact this
 have hfs:lK (dL.getD op f0) l.length=true:=by rw[<-wj hok];exact hfit
 have hr4:r.length<=4:=by have:=List.all_eq_true.1 om op (by simpa using hop);rw[hrr] at this;exact Nat.le_of_ble_eq_true this
 have hr1:l ≠ []->1<=r.length/\r.length<=4:=λhne=>⟨by
  cases r with
  | nil=> unfold jw at hfit;rw[if_neg (by decide),if_neg (by decide)] at hfit;have:=Nat.eq_of_beq_eq_true hfit;exact absurd (List.length_eq_zero_iff.1 this) hne
  | cons _ _=>simp,hr4⟩
 have hS0:hS.next<=h0.next:=hq.le;have hq11:cD hS h11:=hq.trans (h0a.trans (fa9.trans ⟨by omega,o11⟩));have key:=V2 u hT (hd:=h9) (D:=h9.next) (B0:=h0.next) (eb:=eb) (cb:=h7.next) rfl hS0 (by omega) o' hs hln heb (by omega) ((old9 eb heb2).trans he) (by omega) e9 c9 hr1 (f:=dL.getD op f0) (λi hi=>apW hok hfs hi) h7 rfl h9 rfl bH hbH k _ X l.length 0 ft ⟨line,op,[],[],0,0,0,0,[]⟩ z.1 h11 (by omega) (by unfold ft;omega) cr hq11 o11 (by omega) (Nat.zero_le _) (Nat.zero_le _) e;rw[List.drop_zero] at key;cases hts:fv (dL.getD op f0) ⟨line,op,[],[],0,0,0,0,[]⟩ 0 l with
 | error er=> rw[hts] at key;obtain⟨hne,h',f',e'⟩:=key;refine⟨hne,h',⟨by have:=f'.le;omega,by have:=f'.ub;omega,λid hid=>(f'.old id hid).trans ((o11 id (by omega)).trans ((old9 id (by omega)).trans (h0a.old id hid)))⟩,e'⟩
 | ok y=>
  rw[hts] at key;obtain⟨h',f',e',cr'⟩:=key;obtain⟨lo',lt',cells',on,tx,q',cc',s1,s2,s3,s4⟩:=cr';have hlast:ac cells' 9 0=dJ y on tx:=Zn rfl cc';have he':hget h' eb=.row 32 9 false false 0 cellsE:=(f'.old eb (by omega)).trans ((o11 eb (by omega)).trans ((old9 eb heb2).trans he));have hle':=f'.le;have hub':=f'.ub;replace e':=e'.symm;rw[show (onRow (hget h' h9.1):_)=onRow (.row 32 9 false false 0 cells') by rw[show h9.1=h9.next from rfl,q'],dQ,dF (c:=ble 9 9) rfl,hlast,hbH,AV he' rfl (j4 s1 s2),u.load _ eb false false 0 _ (cm _ _ _ (by omega)),bw,jj _ rfl] at e';have hk:∀w l,SO h' w l->SO (hset h' eb (.row 32 9 false false 0 (putF cellsE 0 (dJ y on tx)))) w l:=λw l o=>o.keep (Nat.le_refl _) λc hc hl=>by rw[cu _ _ _ _ (by omega),if_neg];intro ee;subst ee;obtain⟨n,op,cs,e2⟩:=o.row9 hc;rw[he'] at e2;cases e2
  refine⟨_,on,tx,⟨?_,?_,λid hid=>?_⟩,e'.symm,hk _ _ s1,hk _ _ s2,λc hc=>?_,λc hc=>?_⟩
  ·show h0.next<=h'.next;omega
  ·show h'.next<=_;omega
  ·rw[dA _ _ (by omega) (by omega)];exact (f'.old id (by omega)).trans ((o11 id (by omega)).trans ((old9 id (by omega)).trans (h0a.old id hid)))
  ·have:=(s3 c hc).1;omega
  ·have:=s4 c hc;omega
end
section
theorem tH:aj undef undef=true:=rfl
variable {E : Env} (u : CE E 32) {rc : RC} {hS : H}
theorem rM (line:Nat) (w:Bs) (l:List Bs):fX line (w :: l)=if dE w aI<41 then (if jw (aI.getD (dE w aI) ([],[])).2 l.length then fv (dL.getD (dE w aI) f0) ⟨line,dE w aI,[],[],0,0,0,0,[]⟩ 0 l else .error 14) else .error 14:=by
 show (match lH w dL 0 with
  | none=>Except.error 14
  | some (i,f)=>if lK f l.length then fv f ⟨line,i,[],[],0,0,0,0,[]⟩ 0 l else .error 14)=_
 rw[sD w aI dL 0 yp];by_cases q:dE w aI<41
 ·rw[if_pos (show dE w aI<aI.length from q),if_pos q];dsimp only;have hok:iV (aI.getD (dE w aI) ([],[])).2 (dL.getD (dE w aI) f0)=true:=List.all_eq_true.1 BR _ (by simpa using q);rw[wj hok,Nat.zero_add]
 ·rw[if_neg (show ¬ dE w aI<aI.length from q),if_neg q]
include u
theorem wm {h:H} {eb:Nat} {cellsE:T Value} (he:hget h eb=.row 32 9 false false 0 cellsE) (heb:eb<=1000000000) (bH:H) (hbH:bH.1=eb) (k:Value->H->R):wJ h bH E k=k (.tuple ⟨[.agg ⟨aO⟩,.int .i64 (.ofNat 14)]⟩) (hset h eb (.row 32 9 false false 0 (putF cellsE 0 aO))):=by
 unfold wJ;simp only[mZ];rw[hbH];rcases Pw u he 14 k with hh | hh
 ·exact hh
 ·omega
theorem apw (hTab:zV rc) (hI:Pp rc) (hF:PQ rc) (hT:o0 rc (cD hS)) {h:H} (hq:cD hS h) (hn:h.next<=770000000) {w0:Bs} {l:List Bs} {v:Value} (o:WL h v (w0 :: l)) (cl:gT v \/ 1<=l.length) (hs:small l) (hln:l.length<=8000)
  (line:Nat) (k:Value->H->R) (X:R) (e:p19 E rc (.int .i64 (.ofNat line)) v h k=X):sK h (60+4*l.length) k X (fX line (w0 :: l)):=by
 have u3:=u.u3;unfold p19 at e;rw[o.cells,dF (show allF (λb=>cell1F b) [v]=true by rw[qO];simp[o.cell1]),au (show h.1<=1000000000 by show h.next<=_;omega),aJ] at e;rw[show lenF [v]=1 from rfl] at e;have f1:Fr h (ag h (.row 30 1 false false 0 (T.ofList unk [v]))) 1:=Fr.push _ (by omega);have e1:hget (ag h (.row 30 1 false false 0 (T.ofList unk [v]))) h.next=.row 30 1 false false 0 (T.ofList unk [v]):=aD _ _ (by omega);have n1:(ag h (.row 30 1 false false 0 (T.ofList unk [v]))).next=h.next+1:=rfl;generalize ag h (.row 30 1 false false 0 (T.ofList unk [v]))=h1 at e f1 e1 n1;have hz:([.int .i64 (.ofNat 0),.int .u8 (.ofNat 0),.string (ByteArray.mk #[]),.slice none 0 0,.int .i64 (.ofNat 0),.int .i64 (.ofNat 0),.int .i64 (.ofNat 0),.int .u8 (.ofNat 0),.slice none 0 0]:List Value)=aO:=rfl;rw[au (show h1.1<=1000000000 by show h1.next<=_;omega),aJ,hz] at e;have f2:Fr h1 (ag h1 (.row 32 9 false false 0 (T.ofList unk aO))) 1:=Fr.push _ (by omega);have e2:hget (ag h1 (.row 32 9 false false 0 (T.ofList unk aO))) h1.next=.row 32 9 false false 0 (T.ofList unk aO):=aD _ _ (by omega);have n2:(ag h1 (.row 32 9 false false 0 (T.ofList unk aO))).next=h1.next+1:=rfl;generalize ag h1 (.row 32 9 false false 0 (T.ofList unk aO))=h2 at e f2 e2 n2;rw[hTab h2 _ (by omega)] at e;have f3:Fr h2 (ag h2 cF) 1:=Fr.push _ (by omega);have e3:hget (ag h2 cF) h2.next=cF:=aD _ _ (by omega);have n3:(ag h2 cF).next=h2.next+1:=rfl;generalize ag h2 cF=h3 at e f3 e3 n3;rw[dF (c:=fx (allF (λf=>eG f) []) (allF (λf=>eG f) [.pointer (some (Addr.mk h.1 0 none))])) rfl] at e;have fh3:cD h h3:=⟨by omega,λid hid=>(f3.old id (by omega)).trans ((f2.old id (by omega)).trans (f1.old id hid))⟩;have hpb3:hget h3 h.next=.row 30 1 false false 0 (T.ofList unk [v]):=(f3.old _ (by omega)).trans ((f2.old _ (by omega)).trans e1);have heb3:hget h3 h1.next=.row 32 9 false false 0 (T.ofList unk aO):=(f3.old _ (by omega)).trans e2;have lv:LV h3 h.next (w0 :: l):=⟨by omega,_,v,hpb3,rfl,o.from fh3⟩;obtain⟨h4,f4,e4⟩:=hI h3 h.next h2.next w0 l _ _ lv e3 (by omega) (by omega) e;have hub4:=f4.ub;have hle4:=f4.le;have fh4:cD h h4:=fh3.trans f4.from;have hpb4:hget h4 h.next=.row 30 1 false false 0 (T.ofList unk [v]):=(f4.old _ (by omega)).trans hpb3;have heb4:hget h4 h1.next=.row 32 9 false false 0 (T.ofList unk aO):=(f4.old _ (by omega)).trans heb3;rw[rM];by_cases q:dE w0 aI<41
 ·rw[if_pos q] at e4 ⊢;replace e4:=e4.symm;rw[au (show h4.1<=1000000000 by show h4.next<=_;omega),aJ,hmk,iu u3 (Nat.zero_le _)] at e4;have hqr4:∀KK,onRow (hget h4 h.1) KK=KK 30 1 false false 0 (T.ofList unk [v]):=λKK=>by rw[show h.1=h.next from rfl,hpb4];rfl
  have hlen4:∀(K:Value->R) (hx:H),onSl v (bindO (bv E hx 30 v) K) (λ_ n _=>K (.int .i64 (.ofNat n)))=K (.int .i64 (.ofNat (l.length+1))):=λK hx=>kS (E:=E) (h':=hx) o u.u30 K;have hsub:∀K:Value->R,binR (binC E .sub 3 false true) (.int .i64 (.ofNat (l.length+1))) (.int .i64 (.ofNat 1)) K=K (.int .i64 (.ofNat l.length)):=λK=>by rw[fI u3 (by omega) (by omega),Nat.add_sub_cancel]
  have hg0:getF (T.ofList unk [v]) 0=v:=rfl;have f5:Fr h4 (ag h4 cF) 1:=Fr.push _ (by omega);have e5:hget (ag h4 cF) h4.next=cF:=aD _ _ (by omega);have n5:(ag h4 cF).next=h4.next+1:=rfl;have hT39:∀K:Value->H->R,rc 39 [] h4 K=K (.slice (some ⟨h4.next,0,none⟩) 41 82) (ag h4 cF):=λK=>hTab h4 K (by omega);generalize ag h4 cF=h5 at f5 e5 n5 hT39;have hub5:=f5.ub;have fh5:cD h h5:=fh4.trans f5.from;have hpb5:hget h5 h.next=.row 30 1 false false 0 (T.ofList unk [v]):=(f5.old _ (by omega)).trans hpb4;have hqr5:∀KK,onRow (hget h5 h.1) KK=KK 30 1 false false 0 (T.ofList unk [v]):=λKK=>by rw[show h.1=h.next from rfl,hpb5];rfl
  have hqt5:∀KK,onRow (hget h5 h4.next) KK=KK 77 82 false false 0 (T.ofList unk (gi aI)):=λKK=>by rw[e5];rfl
  simp only[↓cJ,↓bz,↓dO,vE,wN,↓hqr4,show ble 1 1=true from rfl,↓eP,hg0,↓hlen4,↓hsub,↓hT39,zD,o.same,↓hqr5,↓cn,↓bZ,↓co,↓aG,↓hqt5] at e4;rw[au (show dE w0 aI+1<=41 by omega),au (show 0+(dE w0 aI).mul 2+2<=82 by show 0+dE w0 aI*2+2<=82;omega),show 0+(dE w0 aI).mul 2=dE w0 aI*2 from Nat.zero_add _,aqa q] at e4;have hsh:=List.all_eq_true.1 om (dE w0 aI) (by simpa using q);have hsh:=Nat.le_of_ble_eq_true hsh;obtain⟨h6,e6,f6⟩:=hF h5 _ _ _ _ _ (by omega) (by omega) e4;have hub6:=f6.ub;have hle6:=f6.le;replace e6:=e6.symm;have fh6:cD h h6:=fh5.trans f6.from;have hpb6:hget h6 h.next=.row 30 1 false false 0 (T.ofList unk [v]):=(f6.old _ (by omega)).trans hpb5;have heb6:hget h6 h1.next=.row 32 9 false false 0 (T.ofList unk aO):=(f6.old _ (by omega)).trans ((f5.old _ (by omega)).trans heb4);by_cases qf:jw (aI.getD (dE w0 aI) ([],[])).2 l.length=true
  ·rw[qf] at e6;simp only[↓aK,↓aM,↓ai] at e6;rw[if_pos qf];have key:=Kb u hTab hT hq fh6 (pb:=h.next) (eb:=h1.next) (Nat.le_refl _) (by omega) (by omega) (by omega) (by omega) hpb6 rfl (o.from fh6) cl hs hln heb6 q qf line h rfl h1 rfl k _ X e6;generalize fv (dL.getD (dE w0 aI) f0) ⟨line,dE w0 aI,[],[],0,0,0,0,[]⟩ 0 l=res at key;cases res with
   | ok y=> obtain⟨h',on,tx,f,r⟩:=key;exact⟨h',on,tx,f.mono (by omega),r⟩
   | error er=> obtain⟨hne,h',f,r⟩:=key;exact⟨hne,h',f.mono (by omega),r⟩
  ·have qf':jw (aI.getD (dE w0 aI) ([],[])).2 l.length=false:=by simpa using qf
   rw[qf'] at e6;simp only[↓aK,↓aM,↓ai] at e6;rw[if_neg qf];rw[wm u heb6 (by omega) h1 rfl] at e6;exact⟨by decide,_,⟨by show h.next<=h6.next;omega,by show h6.next<=_;omega,λid hid=>by rw[dA _ _ (by omega) (by omega)];exact fh6.old id hid⟩,e6.symm⟩
 ·rw[if_neg q] at e4 ⊢;replace e4:=e4.symm;rw[au (show h4.1<=1000000000 by show h4.next<=_;omega),aJ,hmk,wz u3] at e4;simp only[↓cJ,↓bz,↓ai,↓eC,vE,wN,tH,↓eP,↓aK] at e4;rw[wm u heb4 (by omega) h1 rfl] at e4;exact⟨by decide,_,⟨by show h.next<=h4.next;omega,by show h4.next<=_;omega,λid hid=>by rw[dA _ _ (by omega) (by omega)];exact fh4.old id hid⟩,e4.symm⟩
end
end Go.Ev
