/-
  A COMMAND's LINE: its words joined, in abstract memory.
-/
import Derived.Test.YtglmdggjibmjcaaGreatDoorSb
noncomputable section
set_option linter.unusedVariables false
set_option linter.unusedSimpArgs false
set_option maxRecDepth 100000
open Nat (ble beq)
namespace Go.Ev
open Go F Go.Proofs
section
structure arX (rc:RC) (hS:H):Prop where
 cnt:∀(s:Bs) (b:UInt8) (h:H) (k:Value->H->R),s.length<=1000->bJ hS h->rc 56 [aj s,.string ⟨⟨[b]⟩⟩] h k=k (.int .i64 (.ofNat (s.count b))) h
 suf:∀(s p:Bs) (h:H) (k:Value->H->R),s.length<=1000->bJ hS h->rc 57 [aj s,.string ⟨⟨p⟩⟩] h k=k (.bool (Lib.hasSuffix s p)) h
 con:∀(s:Bs) (b:UInt8) (h:H) (k:Value->H->R),s.length<=1000->bJ hS h->rc 58 [aj s,.string ⟨⟨[b]⟩⟩] h k=k (.bool (s.contains b)) h
def fK (r:Bs) (n:Nat):Nat:=if Lib.hasSuffix r [43] then max 1 n else if Lib.hasSuffix r [42] then n else r.count 116
def dv (c:dj) (r:Bs):Bool:=
 if c.on.length≠r.count 104 then true
 else if c.texts.length≠fK r c.texts.length then true
 else if c.n≠0/\r.contains 110=false then true
 else if c.m≠0/\r.contains 109=false then true
 else if c.k≠0/\r.contains 107=false then true
 else if c.kind≠0/\r.contains 99=false then true
 else if c.label ≠ []/\r.contains 76=false then true
 else false
theorem iz (s:ByteArray):ai (.string s) (.string s)=true:=by obtain⟨⟨s⟩⟩:=s;simp[ai,iA,fQ,dG]
theorem max_i64 (E:Env) (h:H) (a b:Nat):bg E h .max [.int .i64 (.ofNat a),.int .i64 (.ofNat b)] [3,3]=some (.int .i64 (.ofNat (max a b))):=by
 have:bg E h .max [.int .i64 (.ofNat a),.int .i64 (.ofNat b)] [3,3]=some (.int .i64 (if (a:Int)<b then b else a)):=by
  first | rfl | (simp[bg,mQ];done)
 rw[this]
 congr 2
 by_cases q:a<b
 ·rw[if_pos (by omega),Nat.max_eq_right (by omega)];rfl
 ·rw[if_neg (by omega),Nat.max_eq_left (by omega)];rfl
section
variable {rc : RC} {k : Value -> H -> R} {a h : H}
theorem sp4:zb k rc a h=k (.bool true) h:=by unfold zb;simp only[↓aK,↓cZ,iQ,yv,iO]
theorem Q8:yd k rc a h=k (.bool true) h:=by unfold yd;simp only[↓aK,↓cZ,iQ,zx,iO,sp4]
theorem sp9:zZ k rc a h=k (.bool true) h:=by unfold zZ;simp only[↓aK,↓cZ,iQ,zr,iO,Q8]
end
theorem qf {ks:List Tmp} {k:aa ks->H->R} {b:(aa ks->H->R)->R} {X:R} (e:joinR k b=X):∃K,K=k/\b K=X:=⟨k,rfl,e⟩
theorem gz (l:List Value) (k:List Value->R):onCells (.agg ⟨l⟩) k=k l:=rfl
theorem field {E:Env} {rc:RC} {ty:TypeId} {C vz:Value} {bz bc:Bool} {bt:UInt8} {ch rh off:Nat} {h2:H} {cs rs:T Value} {r:Bs} (qc:∀K,onRow (hget h2 ch) K=K 39 9 false false 0 cs) (hv:getF cs off=vz) (ho:ble (Nat.succ off) 9=true)
  (qr:∀K,onRow (hget h2 rh) K=K 67 2 false false 0 rs) (hr:getF rs 1=aj r) (hcmp:∀K,binR (binC E .neq ty false true) vz C K=K (.bool bz)) (hcon:∀K,rc 58 [aj r,.string ⟨⟨[bt]⟩⟩] h2 K=K (.bool bc) h2) (K:Value->H->R):
  (ab (λx y=>ab (λz a2=>ab (λa3 a4=>ab (λa5 a6=>ab (λa7 a8=>ab (λa9 b0=>ab (λb1 b2=>ab (λb3 b4=>ab (λb5 b6=>K b5 b6)
   λb5=>aF (.bool false) (onB a5 (b5 (.bool false) b4) (b5 b3 b4)) (b5 undef b4) (b5 undef b4))
   λb3=>aF a5 (b3 undef b2) (onB b1 (b3 (.bool true) b2) (b3 (.bool false) b2)) (b3 undef b2))
   λb1=>aF a5 (b1 undef b0) (rc 58 [a9,.string ⟨⟨[bt]⟩⟩] b0 b1) (b1 undef b0))
   λa9=>aF a5 (a9 undef a8) (onPtr a7 λe=>onRow (hget a8 e.1) λ_ f _ _ _ g=>ifB (ble (Nat.succ e.2) f) (a9 (getF g e.2) a8)) (a9 undef a8))
   λa7=>aF a5 (a7 undef a6) (a7 (.pointer (some (Addr.mk rh 1 none))) a6) (a7 undef a6))
   λa5=>aF (.bool false) (a5 a3 a4) (a5 undef a4) (a5 undef a4))
   λa3=>aF (.bool false) (binR (binC E .neq ty false true) z C λe=>a3 e a2) (a3 undef a2) (a3 undef a2))
   λz=>aF (.bool false) (onPtr x λe=>onRow (hget y e.1) λ_ f _ _ _ g=>ifB (ble (Nat.succ e.2) f) (z (getF g e.2) y)) (z undef y) (z undef y))
   λx=>aF (.bool false) (x (.pointer (some (Addr.mk ch off none))) h2) (x undef h2) (x undef h2))=K (.bool (bz && !bc)) h2:=by
 simp only[↓aK,↓cS,↓au,↓qc,ho,↓bI,hv,↓hcmp];cases bz with
 | false=>simp only[↓cS,↓ar,Bool.false_and]
 | true=> simp only[↓bT,↓az,↓au,↓qr,show ble (Nat.succ 1) 2=true from rfl,↓bI,hr,↓hcon,Bool.true_and];cases bc <;> simp only[↓az,↓ar] <;> rfl
variable {E : Env} (u : UT E) {rc : RC}
include u
theorem aoT {hS:H} (S:arX rc hS) {c:dj} {ln:Int} {von vtx:Value} {h:H} (o1:WL h von c.on) (o2:WL h vtx c.texts) {w r:Bs} (hr:r.length<=1000) (hn:h.next<=900000000) (hSh:bJ hS h) (k:Value->H->R) (X:R)
  (e:p30 E rc (.agg ⟨aL ln c von vtx⟩) (.agg ⟨[aj w,aj r]⟩) h k=X):∃h',X=k (.bool (dv c r)) h'/\Fr h h' 2:=by
 have u3:=u.u3;have u5:=u.u5;unfold p30 at e;have ha:allF (λb=>cell1F b) (aL ln c von vtx)=true:=by unfold aL aj;simp only[gF,o1.cell1,o2.cell1];rfl
 rw[gz,aO ha,am (show h.1<=1000000000 by show h.next<=_;omega),aE] at e;rw[show lenF (aL ln c von vtx)=9 from rfl] at e;have f1:Fr h (ae h (.row 39 9 false false 0 (T.ofList unk (aL ln c von vtx)))) 1:=Fr.push _ (by omega);have g1:hget (ae h (.row 39 9 false false 0 (T.ofList unk (aL ln c von vtx)))) h.1=.row 39 9 false false 0 (T.ofList unk (aL ln c von vtx)):=aB _ _ (by omega);have hn1:(ae h (.row 39 9 false false 0 (T.ofList unk (aL ln c von vtx)))).next=h.next+1:=rfl;generalize ae h (.row 39 9 false false 0 (T.ofList unk (aL ln c von vtx)))=h1 at e f1 g1 hn1;rw[gz,aO (show allF (λd=>cell1F d) [aj w,aj r]=true from rfl),am (show h1.1<=1000000000 by show h1.next<=_;omega),aE] at e;rw[show lenF [aj w,aj r]=2 from rfl] at e;have f2:Fr h1 (ae h1 (.row 67 2 false false 0 (T.ofList unk [aj w,aj r]))) 1:=Fr.push _ (by omega);have g2:hget (ae h1 (.row 67 2 false false 0 (T.ofList unk [aj w,aj r]))) h1.1=.row 67 2 false false 0 (T.ofList unk [aj w,aj r]):=aB _ _ (by show h1.next<=_;omega);have hn2:(ae h1 (.row 67 2 false false 0 (T.ofList unk [aj w,aj r]))).next=h1.next+1:=rfl;generalize ae h1 (.row 67 2 false false 0 (T.ofList unk [aj w,aj r]))=h2 at e f2 g2 hn2;rw[am (show h2.1<=1000000000 by show h2.next<=_;omega),aE,FU] at e;have f:Fr h h2 2:=f1.trans f2 (by omega);have hS2:bJ hS h2:=hSh.trans f.from;have qc:∀K,onRow (hget h2 h.1) K=K 39 9 false false 0 (T.ofList unk (aL ln c von vtx)):=λK=>by rw[f2.old _ (show h.next<h1.next by omega),g1];rfl
 have qr:∀K,onRow (hget h2 h1.1) K=K 67 2 false false 0 (T.ofList unk [aj w,aj r]):=λK=>by rw[g2];rfl
 have gv:∀i,getF (T.ofList unk (aL ln c von vtx)) i=(aL ln c von vtx).getD i unk:=λi=>by rw[aH]
 have g3:getF (T.ofList unk (aL ln c von vtx)) 3=von:=gv 3;have g4:getF (T.ofList unk (aL ln c von vtx)) 4=.int .i64 c.n:=gv 4;have g5:getF (T.ofList unk (aL ln c von vtx)) 5=.int .i64 c.m:=gv 5;have g6:getF (T.ofList unk (aL ln c von vtx)) 6=.int .i64 c.k:=gv 6;have g7:getF (T.ofList unk (aL ln c von vtx)) 7=.int .u8 (.ofNat c.kind):=gv 7;have g8:getF (T.ofList unk (aL ln c von vtx)) 8=vtx:=gv 8;have gl:getF (T.ofList unk (aL ln c von vtx)) 2=aj c.label:=gv 2;have gr:getF (T.ofList unk [aj w,aj r]) 1=aj r:=by rw[aH];rfl
 have b1:ble 2 2=true:=rfl;have b2:ble 4 9=true:=rfl;have b3:ble 9 9=true:=rfl;have b5:ble (Nat.succ 4) 9=true:=rfl;have b6:ble (Nat.succ 5) 9=true:=rfl;have b7:ble (Nat.succ 6) 9=true:=rfl;have b8:ble (Nat.succ 7) 9=true:=rfl;have b9:ble (Nat.succ 2) 9=true:=rfl;have b10:ble (Nat.succ 1) 2=true:=rfl;have l1:=λK=>io (E:=E) (h':=h2) (o1.fr f) u.u37 K;have l2:=λK=>io (E:=E) (h':=h2) (o2.fr f) u.u37 K;have tru:dv c r=true->k (.bool true) h2=X->∃h',X=k (.bool (dv c r)) h'/\Fr h h' 2:=λh1 h2'=>⟨h2,by rw[h1];exact h2'.symm,f⟩;simp only[↓qr,↓qc,b1,↓bI,gr,S.cnt _ _ _ _ hr hS2,dQ,show ai (aj r) (aj r)=true from iz _] at e;obtain⟨K,hK,e⟩:=qf e;have fin:∀x,K (x,(.int .i64 (.ofNat (fK r c.texts.length)),())) h2=X->c.on.length=r.count 104->∃h',X=k (.bool (dv c r)) h'/\Fr h h' 2:=by
  intro x e hon;subst hK;simp only[↓qc] at e;rw[b3,bI,bd,g8,l2,lS u3] at e;simp only[iQ,yv,iO,rp,zx,zr,yW,xu] at e;by_cases q2:c.texts.length≠fK r c.texts.length
  ·rw[dH q2,Bool.not_false] at e;simp only[↓aK,↓bT,↓cZ,↓az,sp9] at e;exact tru (by unfold dv;rw[if_neg (λh=>h hon),if_pos q2]) e
  have q2:c.texts.length=fK r c.texts.length:=Decidable.not_not.1 q2;rw[fU q2,Bool.not_true] at e;rw[field (cs:=T.ofList unk (aL ln c von vtx)) (rs:=T.ofList unk [aj w,aj r]) qc g4 rfl qr gr (bz:=!(c.n==(0:Nat))) (λK=>rk u3) (λK=>S.con r 110 h2 K hr hS2)] at e;by_cases qn:c.n≠0/\r.contains 110=false
  ·rw[show (!(c.n==(0:Nat)) && !r.contains 110)=true by rw[qn.2];simp[qn.1]] at e;simp only[↓aK,↓bT,↓cZ,↓az,↓ar,sp9,Q8,sp4] at e;exact tru (by unfold dv;rw[if_neg (λh=>h hon),if_neg (λh=>h q2),if_pos qn]) e
  rw[show (!(c.n==(0:Nat)) && !r.contains 110)=false by
   by_cases a1:c.n≠0
   ·have:r.contains 110=true:=by
     cases hh:r.contains 110 with
     | true=>rfl
     | false=>exact absurd ⟨a1,hh⟩ qn
    rw[this];simp
   ·simp at a1;simp[a1],ar] at e
  rw[field (cs:=T.ofList unk (aL ln c von vtx)) (rs:=T.ofList unk [aj w,aj r]) qc g5 rfl qr gr (bz:=!(c.m==(0:Nat))) (λK=>rk u3) (λK=>S.con r 109 h2 K hr hS2)] at e;by_cases qm:c.m≠0/\r.contains 109=false
  ·rw[show (!(c.m==(0:Nat)) && !r.contains 109)=true by rw[qm.2];simp[qm.1]] at e;simp only[↓aK,↓bT,↓cZ,↓az,↓ar,sp9,Q8,sp4] at e;exact tru (by unfold dv;rw[if_neg (λh=>h hon),if_neg (λh=>h q2),if_neg qn,if_pos qm]) e
  rw[show (!(c.m==(0:Nat)) && !r.contains 109)=false by
   by_cases a1:c.m≠0
   ·have:r.contains 109=true:=by
     cases hh:r.contains 109 with
     | true=>rfl
     | false=>exact absurd ⟨a1,hh⟩ qm
    rw[this];simp
   ·simp at a1;simp[a1],ar] at e
  rw[field (cs:=T.ofList unk (aL ln c von vtx)) (rs:=T.ofList unk [aj w,aj r]) qc g6 rfl qr gr (bz:=!(c.k==(0:Nat))) (λK=>rk u3) (λK=>S.con r 107 h2 K hr hS2)] at e;by_cases qk:c.k≠0/\r.contains 107=false
  ·rw[show (!(c.k==(0:Nat)) && !r.contains 107)=true by rw[qk.2];simp[qk.1]] at e;simp only[↓aK,↓bT,↓cZ,↓az,↓ar,sp9,Q8,sp4] at e;exact tru (by unfold dv;rw[if_neg (λh=>h hon),if_neg (λh=>h q2),if_neg qn,if_neg qm,if_pos qk]) e
  rw[show (!(c.k==(0:Nat)) && !r.contains 107)=false by
   by_cases a1:c.k≠0
   ·have:r.contains 107=true:=by
     cases hh:r.contains 107 with
     | true=>rfl
     | false=>exact absurd ⟨a1,hh⟩ qk
    rw[this];simp
   ·simp at a1;simp[a1],ar] at e
  rw[field (cs:=T.ofList unk (aL ln c von vtx)) (rs:=T.ofList unk [aj w,aj r]) qc g7 rfl qr gr (bz:=!beq c.kind 0) (λK=>xM u5) (λK=>S.con r 99 h2 K hr hS2)] at e;by_cases qd:c.kind≠0/\r.contains 99=false
  ·rw[show (!beq c.kind 0 && !r.contains 99)=true by rw[qd.2,dH qd.1];rfl] at e;simp only[↓aK,↓bT,↓cZ,↓az,↓ar,sp9,Q8,sp4] at e;exact tru (by unfold dv;rw[if_neg (λh=>h hon),if_neg (λh=>h q2),if_neg qn,if_neg qm,if_neg qk,if_pos qd]) e
  rw[show (!beq c.kind 0 && !r.contains 99)=false by
   by_cases a1:c.kind≠0
   ·have:r.contains 99=true:=by
     cases hh:r.contains 99 with
     | true=>rfl
     | false=>exact absurd ⟨a1,hh⟩ qd
    rw[this];simp
   ·rw[fU (show c.kind=0 by omega)];rfl,ar] at e
  rw[field (cs:=T.ofList unk (aL ln c von vtx)) (rs:=T.ofList unk [aj w,aj r]) qc gl rfl qr gr (bz:=!(c.label==([]:Bs))) (λK=>DO u.toUS) (λK=>S.con r 76 h2 K hr hS2)] at e;by_cases ql:c.label ≠ []/\r.contains 76=false
  ·rw[show (!(c.label==([]:Bs)) && !r.contains 76)=true by rw[ql.2];simp[ql.1]] at e;simp only[↓aK,↓bT,↓cZ,↓az,↓ar,sp9,Q8,sp4] at e;exact tru (by unfold dv;rw[if_neg (λh=>h hon),if_neg (λh=>h q2),if_neg qn,if_neg qm,if_neg qk,if_neg qd,if_pos ql]) e
  rw[show (!(c.label==([]:Bs)) && !r.contains 76)=false by
   by_cases a1:c.label ≠ []
   ·have:r.contains 76=true:=by
     cases hh:r.contains 76 with
     | true=>rfl
     | false=>exact absurd ⟨a1,hh⟩ ql
    rw[this];simp
   ·simp at a1;simp[a1],ar] at e
  exact⟨h2,by unfold dv;rw[if_neg (λh=>h hon),if_neg (λh=>h q2),if_neg qn,if_neg qm,if_neg qk,if_neg qd,if_neg ql];exact e.symm,f⟩
 clear hK;rw[b2,bI,bd,g3,l1,lS u3] at e;by_cases q1:c.on.length=r.count 104
 ·rw[fU q1,Bool.not_true] at e;simp only[↓ag,↓ar,S.suf _ _ _ _ hr hS2] at e;cases s1:Lib.hasSuffix r [43] with
  | true=> rw[s1] at e;simp only[↓az,↓qc] at e;rw[b3,bI,bd,g8,l2,max_i64,aA] at e;exact fin _ (by unfold fK;rw[if_pos s1];exact e) q1
  | false=>
   rw[s1] at e;simp only[↓ar,↓qr,b1,↓bI,gr,S.suf _ _ _ _ hr hS2] at e;cases s2:Lib.hasSuffix r [42] with
   | true=> rw[s2] at e;simp only[↓az,↓qc] at e;rw[b3,bI,bd,g8,l2] at e;exact fin _ (by unfold fK;rw[if_neg (by rw[s1];simp),if_pos s2];exact e) q1
   | false=> rw[s2,ar] at e;exact fin _ (by unfold fK;rw[if_neg (by rw[s1];simp),if_neg (by rw[s2];simp)];exact e) q1
 ·rw[dH q1,Bool.not_false] at e;simp only[↓ag,↓az] at e;exact tru (by unfold dv;rw[if_pos q1]) e
end
section
def bR:List (Bs × Bs):=[([112,111,111,108],[76,104]),([98,108,111,99,107],[76,104,110]),([115,116,114,100,117,112],[76,104,116]),([114,101,97,100],[104,110,109]),([119,114,105,116,101],[104,110,116]),([114,101,115,105,122,101],[104,110]),([97,112,112,101,110,100],[104,43]),([115,105,122,101],[104]),([97,108,108,111,99],[104,110,109]),([111,98,106,101,99,116,115],[104]),([108,111,97,100],[104,107,110,109]),([115,116,111,114,101],[104,107,110,116]),([102,114,101,101],[104,107]),([98,101,103,105,110],[104,109]),([103,114,111,119],[104,43]),([98,108,97,110,107],[104,110]),([115,104,114,105,110,107],[104,110]),([102,105,110,105,115,104],[104]),([97,98,111,114,116],[104]),([108,105,109,105,116],[104,110]),([115,101,116],[104,116,110]),([103,101,116],[104,116]),([100,114,111,112],[104,116]),([99,108,101,97,110],[104,99,110]),([112,114,101],[104,99,110]),([107,105,108,108],[104,110]),([114,117,110],[104,110]),([100,101,115,116,114,111,121],[104]),([99,108,101,97,114],[104]),([115,116,101,97,108],[104,104]),([114,101,112,97,114,101,110,116],[104,104,104]),([114,101,102,101,114],[104,104]),([117,110,108,105,110,107],[104,104]),([116,114,105,109],[]),([107,101,101,112],[110]),([114,101,102,117,115,101],[110]),([114,101,112,111,114,116],[104]),([108,111,103],[]),([102,105,110,100],[42]),([100,111,111,109],[104,104]),([100,111,111,109,101,100],[104,104])]
def nL:AO:=.row 67 82 false false 0 (T.ofList unk (gY bR))
def p28 (E:Env) (rc:RC) (h:H) (k:Value->H->R):R:=ifB (ble h.1 1000000000) (letH (ae h nL) λa=>k (.slice (some (Addr.mk h.1 0 none)) 41 82) a)
theorem XT (t:ak) (rc:RC) (h:H) (k:Value->H->R):(aD (EX t) KK 28).run rc [] h k=p28 (EX t) rc h k:=by kernel_rfl
theorem ao5 {E:Env} {rc:RC} (h:H) (k:Value->H->R) (hn:h.next<=900000000):p28 E rc h k=k (.slice (some ⟨h.next,0,none⟩) 41 82) (ae h nL):=by unfold p28;rw[am (show h.1<=1000000000 by show h.next<=_;omega),aE]
theorem AM {i:Nat} (hi:i<41):getF (T.ofList unk (gY bR)) (2*i)=aj (bR.getD i ([],[])).1/\getF (T.ofList unk (gY bR)) (2*i+1)=aj (bR.getD i ([],[])).2:=by have h:=ng bR i hi;rw[aH,aH,List.getD_eq_getElem?_getD (l:=bR),List.getElem?_eq_getElem (show i<bR.length from hi)];exact h
theorem Ah {i:Nat} (hi:i<41):ac (T.ofList unk (gY bR)) 2 (i*2)=[aj (bR.getD i ([],[])).1,aj (bR.getD i ([],[])).2]:=by obtain⟨h1,h2⟩:=AM hi;show [getF _ (i*2),getF _ (i*2+1)]=_;rw[Nat.mul_comm i 2,h1,h2]
theorem oM:bR.all (λp=>ble p.1.length 20&&ble p.2.length 4&&p.2.all λb=>Nat.blt b.toNat 128)=true:=by decide
def fI (c:dj):Bs->List Bs × List Bs × List Bs->List Bs × List Bs × List Bs
 | [],st=>st
 | r :: rs,st=>fI c rs (br c r st.1 st.2.1 st.2.2)
theorem lE {h:H} {ib pos:Nat} {s:Bs} (hq:hget h ib=.iter s pos) (hp:s.length<=pos):hG h (.pointer (some ⟨ib,0,none⟩))=some (.tuple ⟨[.bool false]⟩,h):=by rw[bi] at hq;unfold hG;simp only[hq,Nat.beq_refl,cond_true,List.drop_eq_nil_of_le hp]
theorem mT {h:H} {ib pos:Nat} {s:Bs} (hq:hget h ib=.iter s pos) (hp:pos<s.length) (hb:s[pos].toNat<128):
  hG h (.pointer (some ⟨ib,0,none⟩))=some (.tuple ⟨[.bool true,.int .i64 (.ofNat pos),.int .i32 (.ofNat s[pos].toNat)]⟩,hset h ib (.iter s (pos+1))):=by
 rw[bi] at hq;have hb':Nat.blt s[pos].toNat 128=true:=aJ hb;unfold hG;simp only[hq,Nat.beq_refl,cond_true,List.drop_eq_getElem_cons hp,hb',eD]
def Cc (rc:RC) (hS:H):Prop:=∀(hb h:H) (pb:Nat) (k:Value->H->R) (X:R) (c:dj) (ln:Int) (ws on tx:List Bs) (von vtx von0 vtx0:Value),bJ hS hb->bJ hb h->PN hb.next h pb ws von vtx->WL hb von on->WL hb vtx tx->cL von->cL vtx ->
  cell1F von0=true->cell1F vtx0=true->h.next<=700000000->ws.length+tx.length<=8000->(dF c.n/\dF c.m/\dF c.k)->c.op<=255->∀r:UInt8,(r=104->on ≠ [])->(r=116->tx ≠ [])->(r=99->c.kind<5) ->
  rc 31 [.pointer (some ⟨pb,0,none⟩),.agg ⟨aL ln c von0 vtx0⟩,.int .i32 (.ofNat r.toNat)] h k=X ->
  ∃h' von' vtx',X=k (.tuple ⟨[]⟩) h'/\PN hb.next h' pb (br c r ws on tx).1 von' vtx'/\WL hb von' (br c r ws on tx).2.1/\WL hb vtx' (br c r ws on tx).2.2/\cL von'/\cL vtx'/\dI hb.next h h' (10+2*tx.length)/\KI h h'
structure FS (c:dj) (rs:Bs) (ws on tx:List Bs):Prop where
 hs:rs.count 104<=on.length
 ts:rs.count 116<=tx.length
 ks:99∈rs->c.kind<5
 len:ws.length+rs.length*(tx.length+1)+tx.length<=8000
theorem FS.step {c:dj} {r:UInt8} {rs:Bs} {ws on tx:List Bs} (o:FS c (r :: rs) ws on tx):FS c rs (br c r ws on tx).1 (br c r ws on tx).2.1 (br c r ws on tx).2.2/\(br c r ws on tx).2.2.length<=tx.length:=by
 obtain⟨o1,o2,o3,o4⟩:=o;rw[List.count_cons] at o1 o2;have o3':99∈rs->c.kind<5:=λh=>o3 (List.mem_cons_of_mem _ h);have hl:(r :: rs).length*(tx.length+1)=rs.length*(tx.length+1)+(tx.length+1):=by rw[List.length_cons,Nat.succ_mul]
 rw[hl] at o4;by_cases q2:r=104
 ·subst q2;rw[if_pos (by rfl)] at o1;rw[if_neg (by decide)] at o2;unfold br;rw[if_neg (by decide),if_pos rfl];refine⟨⟨by simp;omega,by simpa using o2,o3',by simp;omega⟩,by simp⟩
 rw[if_neg (by simpa using q2)] at o1;by_cases q7:r=116
 ·subst q7;rw[if_pos (by rfl)] at o2;unfold br;rw[if_neg (by decide),if_neg (by decide),if_neg (by decide),if_neg (by decide),if_neg (by decide),if_neg (by decide),if_pos rfl];refine⟨⟨by simpa using o1,by simp;omega,o3',?_⟩,by simp⟩;simp only[List.length_append,List.length_tail,List.length_singleton];have:rs.length*(tx.length-1+1)<=rs.length*(tx.length+1):=Nat.mul_le_mul_left _ (by omega);omega
 rw[if_neg (by simpa using q7)] at o2;have one:∀w:Bs,FS c rs (ws ++ [w]) on tx/\tx.length<=tx.length:=λw=>⟨⟨by simpa using o1,by simpa using o2,o3',by simp;omega⟩,Nat.le_refl _⟩;unfold br;rw[if_neg q2,if_neg q7];split
 ·exact one _
 ·split
  ·exact one _
  ·split
   ·exact one _
   ·split
    ·exact one _
    ·split
     ·exact one _
     ·exact⟨⟨by simpa using o1,by simpa using o2,o3',by simp;omega⟩,Nat.le_refl _⟩
theorem FS.now {c:dj} {r:UInt8} {rs:Bs} {ws on tx:List Bs} (o:FS c (r :: rs) ws on tx):(r=104->on ≠ [])/\(r=116->tx ≠ [])/\(r=99->c.kind<5)/\ws.length+tx.length<=8000:=by
 obtain⟨o1,o2,o3,o4⟩:=o;refine⟨λh e=>?_,λh e=>?_,λh=>o3 (by rw[h];exact List.mem_cons_self ..),by omega⟩
 ·subst h e;rw[List.count_cons_self] at o1;simp at o1
 ·subst h e;rw[List.count_cons_self] at o2;simp at o2
variable {E : Env} (u : UT E) {rc : RC} {hS : H}
theorem abd (W:Cc rc hS) {hb:H} (hSb:bJ hS hb) {c:dj} {ln:Int} {von0 vtx0:Value} (z1:cell1F von0=true) (z2:cell1F vtx0=true) (hz:dF c.n/\dF c.m/\dF c.k) (h19:c.op<=255) {rest:Bs} (hlt:rest.all (λb=>Nat.blt b.toNat 128)=true)
  {pb ib:Nat} {a:Nat->Value} {bH cH hh:H} (ha:a bH.1=.pointer (some ⟨ib,0,none⟩)) (hc:cH.1=pb) (hrow:hget hb hh.1=.row 39 9 false false 0 (T.ofList unk (aL ln c von0 vtx0))) (hh1:hh.1<hb.next) (hpi:pb≠ib) (hib:hb.next<=ib) (d:aa []->H->R):
  ∀(n pos N:Nat) (ws on tx:List Bs) (von vtx:Value) (h:H) (X:R),pos+n=rest.length->n<N->bJ hb h->PN hb.next h pb ws von vtx->WL hb von on->WL hb vtx tx->cL von->cL vtx->hget h ib=.iter rest pos->ib<h.next->FS c (rest.drop pos) ws on tx->h.next+n*(10+2*tx.length)<=690000000 ->
   @loopF [] (qR a bH hh rc cH d) N () h=X->∃h' von' vtx' von2,X=d () h'/\PN hb.next h' pb (fI c (rest.drop pos) (ws,on,tx)).1 von' vtx'/\dI hb.next h h' (n*(10+2*tx.length))/\von2=von':=by
 intro n
 induction n with
 | zero=> intro pos N ws on tx von vtx h X hp hN f p o1 o2 c1 c2 hi hil ok hn e;obtain⟨N',rfl⟩:∃N',N=N'+1:=⟨N-1,by omega⟩;rw[aR] at e;generalize @loopF [] (qR a bH hh rc cH d) N'=L at e;unfold qR at e;rw[ha,cB (lE hi (by omega)),bA,bG,ag,ar] at e;rw[List.drop_eq_nil_of_le (by omega)];exact⟨h,von,vtx,von,e.symm,p,dI.refl _ _ _,rfl⟩
 | succ n ih=>
  intro pos N ws on tx von vtx h X hp hN f p o1 o2 c1 c2 hi hil ok hn e;obtain⟨N',rfl⟩:∃N',N=N'+1:=⟨N-1,by omega⟩;rw[aR] at e;generalize hL:@loopF [] (qR a bH hh rc cH d) N'=L at e;have hpos:pos<rest.length:=by omega
  have hb128:rest[pos].toNat<128:=Nat.le_of_ble_eq_true (List.all_eq_true.1 hlt _ (List.getElem_mem hpos));rw[List.drop_eq_getElem_cons hpos] at ok ⊢;obtain⟨k1,k2,k3,k4⟩:=ok.now;obtain⟨ok',htl⟩:=ok.step;have hmul:(n+1)*(10+2*tx.length)=n*(10+2*tx.length)+(10+2*tx.length):=Nat.succ_mul _ _;rw[hmul] at hn ⊢;unfold qR at e;rw[ha,cB (mT hi hpos hb128),bA,bG,ag,az] at e;dsimp only at e;rw[ag,bA,show ∀(x y z:Value) (K:Value->R),nthF 2 [x,y,z] K=K z from λ_ _ _ _=>rfl] at e;have f1:dI hb.next h (hset h ib (.iter rest (pos+1))) 0:=dI.set hib (by omega) _;have hi1:hget (hset h ib (.iter rest (pos+1))) ib=.iter rest (pos+1):=bp _ _ _ (by omega);have p1:PN hb.next (hset h ib (.iter rest (pos+1))) pb ws von vtx:=by
   obtain⟨lo,lt,cells,vw,h1,h2,h3,h4,h5,h6⟩:=p;refine⟨lo,lt,cells,vw,?_,h2,h3,h4,h5.keep (Nat.le_refl _) λb hb hl=>?_,h6⟩
   ·rw[bU _ _ _ _ (by omega),if_neg hpi,h1]
   ·have:b≠ib:=λee=>by subst ee;obtain⟨n,op,cs,e9⟩:=h5.row9 hb;rw[hi] at e9;cases e9
    rw[bU _ _ _ _ (by omega),if_neg this]
  have hnx:(hset h ib (.iter rest (pos+1))).next=h.next:=rfl;generalize hset h ib (.iter rest (pos+1))=h1 at e f1 hi1 p1 hnx;have hf1:bJ hb h1:=f.frB f1 (Nat.le_refl _);rw[hf1.old _ hh1,hrow,bV,aO (show ble 9 9=true from rfl),show ac (T.ofList unk (aL ln c von0 vtx0)) 9 0=aL ln c von0 vtx0 from rfl,hc] at e;obtain⟨h2,von',vtx',e2,p2,w1,w2,d1,d2,f2,ki⟩:=W hb h1 pb _ _ c ln ws on tx von vtx von0 vtx0 hSb hf1 p1 o1 o2 c1 c2 z1 z2 (by omega) k4 hz h19 rest[pos] k1 k2 k3 e;have hu:=f2.ub;have hl2:=f2.le;have hm2:n*(10+2*(br c rest[pos] ws on tx).2.2.length)<=n*(10+2*tx.length):=Nat.mul_le_mul_left _ (by omega);obtain⟨h3,von3,vtx3,vv,e3,p3,f3,hv⟩:=ih (pos+1) N' _ _ _ von' vtx' h2 X (by omega) (by omega) (hf1.frB f2 (Nat.le_refl _)) p2 w1 w2 d1 d2 (ki ib _ _ (by omega) hi1) (by omega) ok' (by omega) (by rw[hL];exact e2.symm);exact⟨h3,von3,vtx3,vv,e3,p3,((f1.trans f2 (Nat.le_refl _)).trans f3 (Nat.le_refl _)).mono (by omega),hv⟩
end
section
theorem zf:∀(k u:Nat),u<10 ^ (k+1)->(Lib.decDigits u).length<=k+1
 | 0,u,h=>by rw[Lib.decDigits_one (by simpa using h)];simp
 | k+1,u,h=>by
  rw[Lib.decDigits];split
  ·simp
  ·have:u / 10<10 ^ (k+1):=by rw[Nat.div_lt_iff_lt_mul (by decide)];rw[Nat.pow_succ] at h;exact h
   have:=zf k (u / 10) this;simp only[List.length_append,List.length_singleton];omega
theorem fT (n:Int):(cr n).length<=10:=by
 unfold cr;split
 ·rename_i h;exact zf 9 n.toNat (by omega)
 ·simp
theorem kh (s:Bs):(de s).length<=s.length+1:=by
 unfold de;split
 ·simp
 ·split <;> simp
def small (l:List Bs):Prop:=∀s∈l,s.length<=90000
def ft (l:List Bs):Prop:=∀s∈l,s.length<=100000
theorem dn {a b:List Bs} (h1:ft a) (h2:ft b):ft (a++b):=λs hs=>by
 rcases List.mem_append.1 hs with h | h
 ·exact h1 s h
 ·exact h2 s h
theorem eJ {w:Bs} (h:w.length<=100000):ft [w]:=λs hs=>by rw[List.mem_singleton.1 hs];exact h
theorem uV:∀i,(dk.getD i []).length<=100:=by
 intro i
 match i with
 | 0=>decide
 | 1=>decide
 | 2=>decide
 | 3=>decide
 | 4=>decide
 | i+5=>simp[dk]
theorem vy {c:dj} (hl:c.label.length<=90000) (r:UInt8) {ws on tx:List Bs} (h1:ft ws) (h2:small on) (h3:small tx):ft (br c r ws on tx).1/\small (br c r ws on tx).2.1/\small (br c r ws on tx).2.2:=by
 have hd:∀l:List Bs,small l->(l.headD []).length<=90000:=λl h=>by
  cases l with
  | nil=>simp
  | cons a l=>exact h a (List.mem_cons_self ..)
 have tl:∀l:List Bs,small l->small l.tail:=λl h s hs=>h s (List.mem_of_mem_tail hs);unfold br;split
 ·exact⟨dn h1 (eJ (by omega)),h2,h3⟩
 split
 ·exact⟨dn h1 (eJ (by have:=hd on h2;omega)),tl _ h2,h3⟩
 split
 ·refine⟨dn h1 (eJ ?_),h2,h3⟩;split
  ·decide
  ·have:=fT c.n;omega
 split
 ·exact⟨dn h1 (eJ (by have:=fT c.m;omega)),h2,h3⟩
 split
 ·exact⟨dn h1 (eJ (by have:=fT c.k;omega)),h2,h3⟩
 split
 ·exact⟨dn h1 (eJ (by have:=uV c.kind;omega)),h2,h3⟩
 split
 ·exact⟨dn h1 (eJ (by have:=hd tx h3;have:=kh (tx.headD []);omega)),h2,tl _ h3⟩
 ·refine⟨dn h1 λs hs=>?_,h2,h3⟩;obtain⟨x,hx,rfl⟩:=List.mem_map.1 hs;have:=h3 x hx;have:=kh x;omega
theorem oL {c:dj} (hl:c.label.length<=90000):∀(rs:Bs) (ws on tx:List Bs),ft ws->small on->small tx->ft (fI c rs (ws,on,tx)).1
 | [],_,_,_,h,_,_=>h
 | r :: rs,ws,on,tx,h1,h2,h3=>by obtain⟨a,b,d⟩:=vy hl r h1 h2 h3;exact oL hl rs _ _ _ a b d
theorem s6 {c:dj}:∀(rs:Bs) (ws on tx:List Bs),FS c rs ws on tx->(fI c rs (ws,on,tx)).1.length<=8000
 | [],ws,on,tx,h=>by have:=h.len;show ws.length<=8000;omega
 | r :: rs,ws,on,tx,h=>by obtain⟨a,_⟩:=h.step;exact s6 rs _ _ _ a
theorem Cx (c:dj) (r:UInt8) {ws on tx:List Bs} (h:ws ≠ []):(br c r ws on tx).1 ≠ []:=by
 unfold br
 repeat' split
 all_goals simp[h]
theorem yO {c:dj}:∀(rs:Bs) (ws on tx:List Bs),ws ≠ []->(fI c rs (ws,on,tx)).1 ≠ []
 | [],_,_,_,h=>h
 | r :: rs,ws,on,tx,h=>yO rs _ _ _ (Cx c r h)
theorem qF:∀ws:List Bs,ft ws->(dh ws).length<=100001*ws.length
 | [],_=>by simp[dh]
 | [w],h=>by have:=h w (List.mem_cons_self ..);simp only[dh,List.length_singleton];omega
 | w :: x :: l,h=>by have h1:=h w (List.mem_cons_self ..);have h2:=qF (x :: l) λs hs=>h s (List.mem_cons_of_mem _ hs);simp only[dh,List.length_append,List.length_cons] at h2 ⊢;omega
structure UP (E:Env):Prop extends UT E where
 b70:∀(a1 a2 a3:Option Addr) (n1 c1 n2 c2 n3 c3:Nat),co E 70 [(0,.slice a1 n1 c1),(1,.slice a2 n2 c2),(2,.slice a3 n3 c3)]=some (.agg ⟨[.slice a1 n1 c1,.slice a2 n2 c2,.slice a3 n3 c3]⟩)
theorem WL.isSl {h:H} {v:Value} {l:List Bs} (o:WL h v l):∃a n c,v=.slice a n c:=by cases o <;> exact⟨_,_,_,rfl⟩
structure Jq (rc:RC) (hS:H):Prop where
 r31:Cc rc hS
 join:∀(v:Value) (ws:List Bs) (h:H) (k:Value->H->R),SO h v ws->ws ≠ []->ft ws->ws.length<=8000->rc 32 [v,.string ⟨⟨[32]⟩⟩] h k=k (aj (dh ws)) h
 all:∀(v:Value) (ws:List Bs) (h:H) (k:Value->H->R),WL h v ws->ft ws->ws.length<=8000->bJ hS h->rc 33 [v,.func (.func 34) #[] #[]] h k=k (.bool (!ws.all aM)) h
 rows:∀(h:H) (k:Value->H->R),h.next<=900000000->rc 28 [] h k=k (.slice (some ⟨h.next,0,none⟩) 41 82) (ae h nL)
 kinds:∀(h:H) (k:Value->H->R),h.next<=900000000->rc 29 [] h k=k (.slice (some ⟨h.next,0,none⟩) 5 10) (ae h (.row 9 5 false false 0 (T.ofList unk (dk.map aj))))
 spare:∀(c:dj) (ln:Int) (von vtx:Value) (h:H) (w r:Bs) (k:Value->H->R) (X:R),WL h von c.on->WL h vtx c.texts->r.length<=1000->h.next<=900000000->bJ hS h->rc 30 [.agg ⟨aL ln c von vtx⟩,.agg ⟨[aj w,aj r]⟩] h k=X ->
  ∃h',X=k (.bool (dv c r)) h'/\Fr h h' 2
theorem jT {E : Env} (u : US E) (s : Bs): cM E (@T.n Value (@T.c Value undef) (aj s) (@T.c Value undef)) (Oper.mk none (Op.range 9 (.tmp 0)) 0 " " #[] none) = some (.iter s 0, fun id=> ptr id 0):= by have e:ev (@T.n Value (@T.c Value undef) (aj s) (@T.c Value undef)) (.tmp 0)=.string ⟨⟨s⟩⟩:=rfl;simp only[cM,u.u9,e]
theorem oz {o:Option (AO × (Nat->Value))} {a:AO} {f:Nat->Value} (e:o=some (a,f)) (K:AO->(Nat->Value)->R):kB o K=K a f:=by rw[e];rfl
variable {E : Env} (u : UP E) {rc : RC} {hS : H}
include u
theorem KM (W:Jq rc hS) {a:H} (hSa:bJ hS a) {c:dj} {ln:Int} {von vtx:Value} (o1:WL a von c.on) (o2:WL a vtx c.texts) (c1:cL von) (c2:cL vtx) (hz:dF c.n/\dF c.m/\dF c.k) (h19:c.op<=255) (hl:c.label.length<=90000) (s1:small c.on) (s2:small c.texts)
  {w rest:Bs} (hw:w.length<=1000) (hlt:rest.all (λb=>Nat.blt b.toNat 128)=true) {rb ch:H} {rcs:T Value} (hrow:hget a rb.1=.row 67 2 false false 0 rcs) (r0:getF rcs 0=aj w) (r1:getF rcs 1=aj rest) (hrb:rb.1<a.next) (hcr:hget a ch.1=.row 39 9 false false 0 (T.ofList unk (aL ln c von vtx))) (hch:ch.1<a.next)
  (ok:FS c rest [w] c.on c.texts) (hn:a.next+rest.length*(10+2*c.texts.length)+10<=680000000) (k:Value->H->R) (X:R) (e:x7 a rb ch E rc k=X):
  ∃h',X=k (.tuple ⟨[aj (dh (fI c rest ([w],c.on,c.texts)).1 ++ [10]),.bool ((fI c rest ([w],c.on,c.texts)).1.all aM)]⟩) h'/\Fr a h' (rest.length*(10+2*c.texts.length)+5):=by
 have z1:=o1.cell1;have z2:=o2.cell1;unfold x7 at e;rw[hrow,bV,aO (show ble 1 2=true from rfl),r0] at e;simp only[↓S4,↓uu] at e;rw[am (show a.1<=1000000000 by show a.next<=_;omega),aE] at e;have f1:Fr a (ae a (.row 9 1 false false 0 (T.ofList unk [aj w]))) 1:=Fr.push _ (by omega);have g1:hget (ae a (.row 9 1 false false 0 (T.ofList unk [aj w]))) a.1=.row 9 1 false false 0 (T.ofList unk [aj w]):=aB _ _ (by show a.next<=_;omega);have n1:(ae a (.row 9 1 false false 0 (T.ofList unk [aj w]))).next=a.next+1:=rfl;generalize ae a (.row 9 1 false false 0 (T.ofList unk [aj w]))=h1 at e f1 g1 n1;have hc1:∀K,onRow (hget h1 ch.1) K=K 39 9 false false 0 (T.ofList unk (aL ln c von vtx)):=λK=>by rw[f1.old _ hch,hcr];rfl
 simp only[↓hc1] at e;rw[aO (show ble 4 9=true from rfl),aO (show ble 9 9=true from rfl),show getF (T.ofList unk (aL ln c von vtx)) 3=von from rfl,show getF (T.ofList unk (aL ln c von vtx)) 8=vtx from rfl] at e;obtain⟨x1,x2,x3,e1⟩:=o1.isSl;obtain⟨y1,y2,y3,e2⟩:=o2.isSl;have hb:co E 70 [(0,.slice (some (Addr.mk a.1 0 none)) 1 2),(1,von),(2,vtx)]=some (.agg ⟨[.slice (some (Addr.mk a.1 0 none)) 1 2,von,vtx]⟩):=by rw[e1,e2];exact u.b70 _ _ _ _ _ _ _ _ _
 rw[hb,aA,am (show h1.1<=1000000000 by show h1.next<=_;omega),aE] at e;have f2:Fr h1 (ae h1 (.row 70 3 false false 0 (T.ofList unk [.slice none 0 0,.slice none 0 0,.slice none 0 0]))) 1:=Fr.push _ (by omega);have g2:hget (ae h1 (.row 70 3 false false 0 (T.ofList unk [.slice none 0 0,.slice none 0 0,.slice none 0 0]))) h1.1=.row 70 3 false false 0 (T.ofList unk [.slice none 0 0,.slice none 0 0,.slice none 0 0]):=aB _ _ (by show h1.next<=_;omega);have n2:(ae h1 (.row 70 3 false false 0 (T.ofList unk [.slice none 0 0,.slice none 0 0,.slice none 0 0]))).next=h1.next+1:=rfl;generalize ae h1 (.row 70 3 false false 0 (T.ofList unk [.slice none 0 0,.slice none 0 0,.slice none 0 0]))=h2 at e f2 g2 n2;have hal:allF (λv=>cell1F v) [.slice (some (Addr.mk a.1 0 none)) 1 2,von,vtx]=true:=by simp only[gF,z1,z2];rfl
 rw[bW,g2,bV,aO (show notB false=true from rfl),aO (show beq (lenF [.slice (some (Addr.mk a.1 0 none)) 1 2,von,vtx]) 3=true from rfl),aO (show ble 0 0=true from rfl),aO (show ble 3 3=true from rfl),aO (show ble 3 1000000000=true from rfl),aO hal,aE] at e;have f3:dI h1.next h2 (hset h2 h1.1 (.row 70 3 false false 0 (putF (T.ofList unk [.slice none 0 0,.slice none 0 0,.slice none 0 0]) 0 [.slice (some (Addr.mk a.1 0 none)) 1 2,von,vtx]))) 0:=dI.set (Nat.le_refl _) (by show h1.next<=_;omega) _;have g3:hget (hset h2 h1.1 (.row 70 3 false false 0 (putF (T.ofList unk [.slice none 0 0,.slice none 0 0,.slice none 0 0]) 0 [.slice (some (Addr.mk a.1 0 none)) 1 2,von,vtx]))) h1.1=.row 70 3 false false 0 (putF (T.ofList unk [.slice none 0 0,.slice none 0 0,.slice none 0 0]) 0 [.slice (some (Addr.mk a.1 0 none)) 1 2,von,vtx]):=bp _ _ _ (by show h1.next<=_;omega);have n3:(hset h2 h1.1 (.row 70 3 false false 0 (putF (T.ofList unk [.slice none 0 0,.slice none 0 0,.slice none 0 0]) 0 [.slice (some (Addr.mk a.1 0 none)) 1 2,von,vtx]))).next=h2.next:=rfl;generalize hset h2 h1.1 (.row 70 3 false false 0 (putF (T.ofList unk [.slice none 0 0,.slice none 0 0,.slice none 0 0]) 0 [.slice (some (Addr.mk a.1 0 none)) 1 2,von,vtx]))=h3 at e f3 g3 n3;have fb3:dI h1.next h1 h3 1:=(f2.b (Nat.le_refl _)).trans f3 (Nat.le_refl _);have fa3:dI a.next a h3 2:=⟨by have:=fb3.le;omega,by have:=fb3.ub;omega,λid hid=>(fb3.old id (by omega)).trans (f1.old id hid)⟩;rw[fa3.old _ hrb,hrow,bV,aO (show ble 2 2=true from rfl),r1,oz (jT u.toUS rest)] at e;rw[am (show h3.1<=1000000000 by show h3.next<=_;omega),aE] at e;have f4:Fr h3 (ae h3 (.iter rest 0)) 1:=Fr.push _ (by omega);have g4:hget (ae h3 (.iter rest 0)) h3.1=.iter rest 0:=aB _ _ (by show h3.next<=_;omega);have n4:(ae h3 (.iter rest 0)).next=h3.next+1:=rfl;generalize ae h3 (.iter rest 0)=h4 at e f4 g4 n4;have fa4:dI a.next a h4 3:=fa3.trans (f4.b (by omega)) (by omega);have pen:PN a.next h4 h1.1 [w] von vtx:=by
  refine⟨by show a.next<=h1.next;omega,by show h1.next<h4.next;omega,_,.slice (some (Addr.mk a.1 0 none)) 1 2,(f4.old _ (by show h1.next<h3.next;omega)).trans g3,?_,?_,?_,?_,λp hp=>by cases hp;exact Nat.le_refl _⟩
  ·rw[bF,fv,bw _ _ _ (by simp)];rfl
  ·rw[bF,fv,bw _ _ _ (by simp)];rfl
  ·rw[bF,fv,bw _ _ _ (by simp)];rfl
  ·have q4:hget h4 a.1=.row 9 1 false false 0 (T.ofList unk [aj w]):=(f4.old _ (by show a.next<h3.next;omega)).trans ((fb3.old _ (by show a.next<h1.next;omega)).trans g1);exact .row (b:=a.1) (n:=1) (op:=false) (fz:=0) (cells:=T.ofList unk [aj w]) (show a.next<h4.next by omega) q4 rfl (λi hi=>by rw[aH];rfl) (by omega)
 rw[ag] at e;have hd:∀X:R,X=X:=λ_=>rfl
 obtain⟨h5,von',vtx',_,e5,p5,f5,_⟩:=abd (W.r31) hSa z1 z2 hz h19 hlt (a:=λid=>ptr id 0) (bH:=h3) (cH:=h1) (hh:=ch) rfl rfl hcr hch (show h1.next≠h3.next by omega) (show a.next<=h3.next by omega) _ rest.length 0 cK [w] c.on c.texts von vtx h4 X (by omega) (by
  have:=ok.len;have h2:rest.length<=rest.length*(c.texts.length+1):=Nat.le_mul_of_pos_right _ (by omega)
  unfold cK;omega) fa4.from pen o1 o2 c1 c2 g4 (show h3.next<h4.next by omega) ok (by omega) e
 rw[List.drop_zero] at p5;have hws:=s6 rest [w] c.on c.texts ok;have hsm:=oL hl rest [w] c.on c.texts (eJ (by omega)) s1 s2;have hne:=yO (c:=c) rest [w] c.on c.texts (by simp);generalize hrs:(fI c rest ([w],c.on,c.texts)).1=ws at p5 hws hsm hne ⊢;obtain⟨lo,lt,cells,vw,hq,h0,_,_,o,hv⟩:=p5;have hu5:=f5.ub;have hl5:=f5.le;have hq5:∀K,onRow (hget h5 h1.1) K=K 70 3 false false 0 cells:=λK=>by rw[hq];rfl
 replace e5:=e5.symm;rw[am (show h5.1<=1000000000 by show h5.next<=_;omega),aE,FU] at e5;simp only[↓hq5] at e5;have hj:=qF ws hsm;have hj2:100001*ws.length<=100001*8000:=Nat.mul_le_mul_left _ hws;rw[aO (show ble 1 3=true from rfl),aO (show ble 1 3=true from rfl),h0,W.join _ _ _ _ o hne hsm hws,aO (dQ _)] at e5;simp only[↓hq5] at e5;rw[aO (show ble 1 3=true from rfl),h0,aO o.same] at e5;have hadd:∀K:Value->R,binR (binC E .add 9 false true) (aj (dh ws)) (.string ⟨⟨[10]⟩⟩) K=K (aj (dh ws ++ [10])):=λK=>ku u.toUS (by simp;omega);rw[hadd,W.all _ _ _ _ o.wl hsm hws (hSa.trans (fa4.trans f5 (Nat.le_refl _)).from),hadd,aO (show ai (aj (dh ws ++ [10])) (aj (dh ws ++ [10]))=true from iz _)] at e5;refine⟨h5,?_,⟨by have:=fa4.le;omega,by have:=fa4.ub;omega,λid hid=>(f5.old id hid).trans (fa4.old id hid)⟩⟩;cases hall:ws.all aM with
 | true=>rw[hall] at e5;exact e5.symm
 | false=>rw[hall] at e5;exact e5.symm
omit u in
theorem LI {c:dj} {i:Nat} (hi:i<41) (hk:c.kind<5) (ht:c.texts.length<=1000) (hs:dv c (bR.getD i ([],[])).2=false):FS c (bR.getD i ([],[])).2 [(bR.getD i ([],[])).1] c.on c.texts:=by
 have hr:=List.all_eq_true.1 oM (bR.getD i ([],[])) (by
  rw[List.getD_eq_getElem?_getD,List.getElem?_eq_getElem (show i<bR.length from hi)]
  exact List.getElem_mem _)
 have hq:(List.range 41).all (λi=>!(Lib.hasSuffix (bR.getD i ([],[])).2 [43]||Lib.hasSuffix (bR.getD i ([],[])).2 [42])||beq ((bR.getD i ([],[])).2.count 116) 0)=true:=by decide
 have hq:=List.all_eq_true.1 hq i (by simpa using hi);generalize bR.getD i ([],[])=p at hs hr hq ⊢;rw[Bool.and_eq_true,Bool.and_eq_true] at hr;have hl:=Nat.le_of_ble_eq_true hr.1.2;unfold dv at hs;split at hs
 ·exact nomatch hs
 rename_i h1;split at hs
 ·exact nomatch hs
 rename_i h2;have h1:=Decidable.not_not.1 h1;have h2:=Decidable.not_not.1 h2;refine⟨by omega,?_,λ_=>hk,?_⟩
 ·unfold fK at h2;split at h2
  ·rename_i q;rw[q] at hq;have:=Nat.eq_of_beq_eq_true (by simpa using hq);omega
  ·split at h2
   ·rename_i q;rw[q] at hq;have:=Nat.eq_of_beq_eq_true (by simpa using hq);omega
   ·omega
 ·have:p.2.length*(c.texts.length+1)<=4*(c.texts.length+1):=Nat.mul_le_mul_right _ hl;simp only[List.length_singleton];omega
def dE (c:dj):Bs × Bool:=
 if 41<=c.op \/ 5<=c.kind then ([],false)
 else if dv c (bR.getD c.op ([],[])).2=true \/ 16<c.label.length then ([],false)
 else (dh (fI c (bR.getD c.op ([],[])).2 ([(bR.getD c.op ([],[])).1],c.on,c.texts)).1 ++ [10],(fI c (bR.getD c.op ([],[])).2 ([(bR.getD c.op ([],[])).1],c.on,c.texts)).1.all aM)
structure vR (c:dj):Prop where
 z:dF c.n/\dF c.m/\dF c.k
 op:c.op<=255
 kd:c.kind<=255
 lb:c.label.length<=90000
 on:small c.on
 tx:small c.texts
 nt:c.texts.length<=1000
theorem OD (W:Jq rc hS) {a:H} (hSa:bJ hS a) {c:dj} (C:vR c) {ln:Int} {von vtx:Value} (o1:WL a von c.on) (o2:WL a vtx c.texts) (c1:cL von) (c2:cL vtx) (hop:c.op<41) (hkd:c.kind<5)
  {ch:H} (hcr:hget a ch.1=.row 39 9 false false 0 (T.ofList unk (aL ln c von vtx))) (hch:ch.1<a.next) (hn:a.next<=600000000) (k:Value->H->R) (b:aa [2,3]) (X:R) (e:z6 a ch rc E k b=X):
  ∃h',X=k (.tuple ⟨[aj (dE c).1,.bool (dE c).2]⟩) h'/\Fr a h' (9000+20):=by
 have u3:=u.u3;have hnt:=C.nt;unfold z6 at e;have hcm:hget (H.mk (Nat.add a.1 1) a.2) ch.1=hget a ch.1:=rfl;have gc1:getF (T.ofList unk (aL ln c von vtx)) 1=.int .u8 (.ofNat c.op):=rfl;rw[am (show a.1<=1000000000 by show a.next<=_;omega),aE,hcm,hcr,bV,aO (show ble 2 9=true from rfl),ka,aE,gc1] at e;have f1:Fr a (ae a (.row 67 2 false false 0 (T.ofList unk [.string (ByteArray.mk #[]),.string (ByteArray.mk #[])]))) 1:=Fr.push _ (by omega);have g1:hget (ae a (.row 67 2 false false 0 (T.ofList unk [.string (ByteArray.mk #[]),.string (ByteArray.mk #[])]))) a.1=.row 67 2 false false 0 (T.ofList unk [.string (ByteArray.mk #[]),.string (ByteArray.mk #[])]):=aB _ _ (by show a.next<=_;omega);have n1:(ae a (.row 67 2 false false 0 (T.ofList unk [.string (ByteArray.mk #[]),.string (ByteArray.mk #[])]))).next=a.next+1:=rfl;generalize ae a (.row 67 2 false false 0 (T.ofList unk [.string (ByteArray.mk #[]),.string (ByteArray.mk #[])]))=h1 at e f1 g1 n1;rw[W.rows _ _ (by omega),aO (dQ _)] at e;have f2:Fr h1 (ae h1 nL) 1:=Fr.push _ (by omega);have g2:hget (ae h1 nL) h1.next=nL:=aB _ _ (by omega);have n2:(ae h1 nL).next=h1.next+1:=rfl;generalize ae h1 nL=h2 at e f2 g2 n2;have hc2:hget h2 ch.1=.row 39 9 false false 0 (T.ofList unk (aL ln c von vtx)):=(f2.old _ (by omega)).trans ((f1.old _ hch).trans hcr);rw[hc2,bV,aO (show ble 2 9=true from rfl),gc1,aO (fB _ _),bK,bP,am (show Nat.succ c.op<=41 from hop),bM,au] at e;simp only[Nat.zero_add,g2] at e;rw[show nL=.row 67 82 false false 0 (T.ofList unk (gY bR)) from rfl,bV,am (show Nat.add (Nat.mul c.op 2) 2<=82 by show c.op*2+2<=82;omega)] at e;rw[show ac (T.ofList unk (gY bR)) 2 (Nat.mul c.op 2)=_ from Ah hop] at e;have hok:=λhs=>LI (c:=c) hop hkd hnt hs
 have hr:=List.all_eq_true.1 oM (bR.getD c.op ([],[])) (by
  rw[List.getD_eq_getElem?_getD,List.getElem?_eq_getElem (show c.op<bR.length from hop)]
  exact List.getElem_mem _)
 rw[Bool.and_eq_true,Bool.and_eq_true] at hr;have hr1:=Nat.le_of_ble_eq_true hr.1.1;have hr2:=Nat.le_of_ble_eq_true hr.1.2;have hlt:dE c=if dv c (bR.getD c.op ([],[])).2=true \/ 16<c.label.length then ([],false)
  else (dh (fI c (bR.getD c.op ([],[])).2 ([(bR.getD c.op ([],[])).1],c.on,c.texts)).1 ++ [10],(fI c (bR.getD c.op ([],[])).2 ([(bR.getD c.op ([],[])).1],c.on,c.texts)).1.all aM):=by
  unfold dE;rw[if_neg (by omega)]
 rw[hlt];generalize bR.getD c.op ([],[])=p at e hok hr hr1 hr2 ⊢;have ha2:hget h2 a.1=.row 67 2 false false 0 (T.ofList unk [.string (ByteArray.mk #[]),.string (ByteArray.mk #[])]):=(f2.old _ (by show a.next<h1.next;omega)).trans g1;rw[ha2,bV,aO (show notB false=true from rfl),aO (show beq (lenF [aj p.1,aj p.2]) 2=true from rfl),aO (show ble 0 0=true from rfl),aO (show ble 2 2=true from rfl),aO (show ble 2 1000000000=true from rfl),aO (show allF (λz=>cell1F z) [aj p.1,aj p.2]=true from rfl),aE] at e;have f3:dI a.next h2 (hset h2 a.1 (.row 67 2 false false 0 (putF (T.ofList unk [.string (ByteArray.mk #[]),.string (ByteArray.mk #[])]) 0 [aj p.1,aj p.2]))) 0:=dI.set (Nat.le_refl _) (by show a.next<=_;omega) _;have g3:hget (hset h2 a.1 (.row 67 2 false false 0 (putF (T.ofList unk [.string (ByteArray.mk #[]),.string (ByteArray.mk #[])]) 0 [aj p.1,aj p.2]))) a.1=.row 67 2 false false 0 (putF (T.ofList unk [.string (ByteArray.mk #[]),.string (ByteArray.mk #[])]) 0 [aj p.1,aj p.2]):=bp _ _ _ (by show a.next<=_;omega);have n3:(hset h2 a.1 (.row 67 2 false false 0 (putF (T.ofList unk [.string (ByteArray.mk #[]),.string (ByteArray.mk #[])]) 0 [aj p.1,aj p.2]))).next=h2.next:=rfl;have r0:getF (putF (T.ofList unk [.string (ByteArray.mk #[]),.string (ByteArray.mk #[])]) 0 [aj p.1,aj p.2]) 0=aj p.1:=by rw[bF,fv,bw _ _ _ (by simp)];rfl
 have r1:getF (putF (T.ofList unk [.string (ByteArray.mk #[]),.string (ByteArray.mk #[])]) 0 [aj p.1,aj p.2]) 1=aj p.2:=by rw[bF,fv,bw _ _ _ (by simp)];rfl
 generalize hset h2 a.1 (.row 67 2 false false 0 (putF (T.ofList unk [.string (ByteArray.mk #[]),.string (ByteArray.mk #[])]) 0 [aj p.1,aj p.2]))=h3 at e f3 g3 n3;generalize putF (T.ofList unk [.string (ByteArray.mk #[]),.string (ByteArray.mk #[])]) 0 [aj p.1,aj p.2]=rcs at g3 r0 r1;have fa3:Fr a h3 2:=⟨by have:=f1.le;have:=f2.le;omega,by omega,λid hid=>(f3.old id hid).trans ((f2.old id (by omega)).trans (f1.old id hid))⟩;have hc3:=(fa3.old _ hch).trans hcr;rw[hc3,bV,aO (show ble 9 9=true from rfl),g3,bV,aO (show ble 2 2=true from rfl),show ac (T.ofList unk (aL ln c von vtx)) 9 0=aL ln c von vtx from rfl,show ac rcs 2 0=[getF rcs 0,getF rcs 1] from rfl,r0,r1] at e;obtain⟨h4,e4,f4⟩:=W.spare c ln von vtx h3 p.1 p.2 _ X (o1.fr fa3) (o2.fr fa3) (by omega) (by omega) (hSa.trans fa3.from) e;have fa4:Fr a h4 4:=fa3.trans f4 (by omega);have hu4:=fa4.ub;have hl4:=fa4.le;cases hs:dv c p.2 with
 | true=> rw[hs] at e4;simp only[↓aK,↓bT,↓cZ,↓az,↓ag] at e4;rw[if_pos (.inl rfl)];exact⟨h4,e4,fa4.mono (by omega)⟩
 | false=>
  rw[hs] at e4;have hc4:∀K,onRow (hget h4 ch.1) K=K 39 9 false false 0 (T.ofList unk (aL ln c von vtx)):=λK=>by rw[fa4.old _ hch,hcr];rfl
  simp only[↓aK,↓cS,↓ar,↓au,↓hc4] at e4;rw[aO (show ble (Nat.succ 2) 9=true from rfl),show getF (T.ofList unk (aL ln c von vtx)) 2=aj c.label from rfl,show aZ E h4 9 (aj c.label)=_ from fD u.toUS,aA,dC u3] at e4;by_cases q:16<c.label.length
  ·rw[aJ (show 16+1<=c.label.length by omega)] at e4;simp only[↓ag,↓az] at e4;rw[if_pos (.inr q)];exact⟨h4,e4,fa4.mono (by omega)⟩
  ·rw[cz (show c.label.length<16+1 by omega)] at e4;simp only[↓ag,↓ar] at e4;rw[if_neg (by simp;omega)];have ok:=hok hs;have hmul:p.2.length*(10+2*c.texts.length)<=4*(10+2*c.texts.length):=Nat.mul_le_mul_right _ hr2;obtain⟨h5,e5,f5⟩:=KM u W (hSa.trans fa4.from) (o1.fr fa4) (o2.fr fa4) c1 c2 C.z C.op C.lb C.on C.tx (w:=p.1) (rest:=p.2) (by omega) hr.2 (rb:=a) (ch:=ch) (rcs:=rcs) ((f4.old _ (by show a.next<h3.next;omega)).trans g3) r0 r1 (by show a.next<h4.next;have:=f4.le;omega) ((fa4.old _ hch).trans hcr) (by omega) ok (by omega) k X e4.symm;exact⟨h5,e5,fa4.trans f5 (by omega)⟩
end
end Go.Ev
