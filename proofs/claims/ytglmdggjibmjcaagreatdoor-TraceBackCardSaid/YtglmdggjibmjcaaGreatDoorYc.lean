/-
  A COMMAND's LINE: its words joined, in abstract memory.
-/
import Derived.Test.YtglmdggjibmjcaaGreatDoorYb
noncomputable section
set_option linter.all false
set_option maxRecDepth 100000
open Nat (ble beq)
namespace Go.Ev
open Go F Go.Proofs
section
structure arA (rc:RC) (hS:H):Prop where
 cnt:∀(s:Bs) (b:UInt8) (h:H) (k:Value->H->R),s.length<=1000->bu hS h->rc 56 [ak s,.string ⟨⟨[b]⟩⟩] h k=k (.int .i64 (.ofNat (s.count b))) h
 suf:∀(s p:Bs) (h:H) (k:Value->H->R),s.length<=1000->bu hS h->rc 57 [ak s,.string ⟨⟨p⟩⟩] h k=k (.bool (Lib.hasSuffix s p)) h
 con:∀(s:Bs) (b:UInt8) (h:H) (k:Value->H->R),s.length<=1000->bu hS h->rc 58 [ak s,.string ⟨⟨[b]⟩⟩] h k=k (.bool (s.contains b)) h
def gH (r:Bs) (n:Nat):Nat:=if Lib.hasSuffix r [43] then max 1 n else if Lib.hasSuffix r [42] then n else r.count 116
def dV (c:bV) (r:Bs):Bool:=
 if c.on.length≠r.count 104 then true
 else if c.texts.length≠gH r c.texts.length then true
 else if c.n≠0/\r.contains 110=false then true
 else if c.m≠0/\r.contains 109=false then true
 else if c.k≠0/\r.contains 107=false then true
 else if c.kind≠0/\r.contains 99=false then true
 else if c.label ≠ []/\r.contains 76=false then true
 else false
def wx (s:ByteArray):am (.string s) (.string s)=true:=by obtain⟨⟨s⟩⟩:=s;simp[am,iT,gu,eB]
def max_i64 (E:Env) (h:H) (a b:Nat):bF E h .max [.int .i64 (.ofNat a),.int .i64 (.ofNat b)] [3,3]=some (.int .i64 (.ofNat (max a b))):=by
 have:bF E h .max [.int .i64 (.ofNat a),.int .i64 (.ofNat b)] [3,3]=some (.int .i64 (if (a:Int)<b then b else a)):=by
  first | rfl | (simp[bF,nL];done)
 rw[this]
 congr 2
 by_cases q:a<b
 ·rw[if_pos (by omega),Nat.max_eq_right (by omega)];rfl
 ·rw[if_neg (by omega),Nat.max_eq_left (by omega)];rfl
section
variable {rc : RC} {k : Value -> H -> R} {a h : H}
def sp4:AT k rc a h=k (.bool true) h:=by unfold AT;simp only[↓aE,↓fx,jo,Cn,jz]
def QS:Bu k rc a h=k (.bool true) h:=by unfold Bu;simp only[↓aE,↓fx,jo,B7,jz,sp4]
def sp9:A7 k rc a h=k (.bool true) h:=by unfold A7;simp only[↓aE,↓fx,jo,CH,jz,QS]
end
def sg {ks:List Tmp} {k:aa ks->H->R} {b:(aa ks->H->R)->R} {X:R} (e:joinR k b=X):∃K,K=k/\b K=X:=⟨k,rfl,e⟩
def mZ (l:List Value) (k:List Value->R):onCells (.agg ⟨l⟩) k=k l:=rfl
def field {E:Env} {rc:RC} {ty:TypeId} {C vz:Value} {bz bc:Bool} {bt:UInt8} {ch rh off:Nat} {h2:H} {cs rs:T Value} {r:Bs} (qc:∀K,onRow (hget h2 ch) K=K 39 9 false false 0 cs) (hv:getF cs off=vz) (ho:ble (Nat.succ off) 9=true)
  (qr:∀K,onRow (hget h2 rh) K=K 67 2 false false 0 rs) (hr:getF rs 1=ak r) (hcmp:∀K,binR (binC E .neq ty false true) vz C K=K (.bool bz)) (hcon:∀K,rc 58 [ak r,.string ⟨⟨[bt]⟩⟩] h2 K=K (.bool bc) h2) (K:Value->H->R):
  (ac (λx y=>ac (λz a2=>ac (λa3 a4=>ac (λa5 a6=>ac (λa7 a8=>ac (λa9 b0=>ac (λb1 b2=>ac (λb3 b4=>ac (λb5 b6=>K b5 b6)
   λb5=>aF (.bool false) (onB a5 (b5 (.bool false) b4) (b5 b3 b4)) (b5 undef b4) (b5 undef b4))
   λb3=>aF a5 (b3 undef b2) (onB b1 (b3 (.bool true) b2) (b3 (.bool false) b2)) (b3 undef b2))
   λb1=>aF a5 (b1 undef b0) (rc 58 [a9,.string ⟨⟨[bt]⟩⟩] b0 b1) (b1 undef b0))
   λa9=>aF a5 (a9 undef a8) (onPtr a7 λe=>onRow (hget a8 e.1) λ_ f _ _ _ g=>ifB (ble (Nat.succ e.2) f) (a9 (getF g e.2) a8)) (a9 undef a8))
   λa7=>aF a5 (a7 undef a6) (a7 (.pointer (some (Addr.mk rh 1 none))) a6) (a7 undef a6))
   λa5=>aF (.bool false) (a5 a3 a4) (a5 undef a4) (a5 undef a4))
   λa3=>aF (.bool false) (binR (binC E .neq ty false true) z C λe=>a3 e a2) (a3 undef a2) (a3 undef a2))
   λz=>aF (.bool false) (onPtr x λe=>onRow (hget y e.1) λ_ f _ _ _ g=>ifB (ble (Nat.succ e.2) f) (z (getF g e.2) y)) (z undef y) (z undef y))
   λx=>aF (.bool false) (x (.pointer (some (Addr.mk ch off none))) h2) (x undef h2) (x undef h2))=K (.bool (bz && !bc)) h2:=by
 simp only[↓aE,↓cP,↓au,↓qc,ho,↓di,hv,↓hcmp];cases bz with
 | false=>simp only[↓cP,↓ax,Bool.false_and]
 | true=> simp only[↓cu,↓aA,↓au,↓qr,show ble (Nat.succ 1) 2=true from rfl,↓di,hr,↓hcon,Ky];cases bc <;> simp only[↓aA,↓ax] <;> rfl
variable {E : Env} (u : UT E) {rc : RC}
include u
theorem aqA {hS:H} (S:arA rc hS) {c:bV} {ln:Int} {von vtx:Value} {h:H} (o1:WL h von c.on) (o2:WL h vtx c.texts) {w r:Bs} (hr:r.length<=1000) (hn:h.next<=900000000) (hSh:bu hS h) (k:Value->H->R) (X:R)
  (e:p30 E rc (.agg ⟨aO ln c von vtx⟩) (.agg ⟨[ak w,ak r]⟩) h k=X):∃h',X=k (.bool (dV c r)) h'/\Fr h h' 2:=by
 have u3:=u.u3;have u5:=u.u5;unfold p30 at e;have ha:allF (λb=>cell1F b) (aO ln c von vtx)=true:=by unfold aO ak;simp only[jg,o1.cell1,o2.cell1];rfl
 rw[mZ,aP ha,aj (show h.1<=1000000000 by show h.next<=_;omega),aD] at e;rw[show lenF (aO ln c von vtx)=9 from rfl] at e;have f1:Fr h (ag h (.row 39 9 false false 0 (T.ofList unk (aO ln c von vtx)))) 1:=Fr.push _ (by omega);have g1:hget (ag h (.row 39 9 false false 0 (T.ofList unk (aO ln c von vtx)))) h.1=.row 39 9 false false 0 (T.ofList unk (aO ln c von vtx)):=az _ _ (by omega);have hn1:(ag h (.row 39 9 false false 0 (T.ofList unk (aO ln c von vtx)))).next=h.next+1:=rfl;generalize ag h (.row 39 9 false false 0 (T.ofList unk (aO ln c von vtx)))=h1 at e f1 g1 hn1;rw[mZ,aP (show allF (λd=>cell1F d) [ak w,ak r]=true from rfl),aj (show h1.1<=1000000000 by show h1.next<=_;omega),aD] at e;rw[show lenF [ak w,ak r]=2 from rfl] at e;have f2:Fr h1 (ag h1 (.row 67 2 false false 0 (T.ofList unk [ak w,ak r]))) 1:=Fr.push _ (by omega);have g2:hget (ag h1 (.row 67 2 false false 0 (T.ofList unk [ak w,ak r]))) h1.1=.row 67 2 false false 0 (T.ofList unk [ak w,ak r]):=az _ _ (by show h1.next<=_;omega);have hn2:(ag h1 (.row 67 2 false false 0 (T.ofList unk [ak w,ak r]))).next=h1.next+1:=rfl;generalize ag h1 (.row 67 2 false false 0 (T.ofList unk [ak w,ak r]))=h2 at e f2 g2 hn2;rw[aj (show h2.1<=1000000000 by show h2.next<=_;omega),aD,Ey] at e;have f:Fr h h2 2:=f1.trans f2 (by omega);have hS2:bu hS h2:=hSh.trans f.from;have qc:∀K,onRow (hget h2 h.1) K=K 39 9 false false 0 (T.ofList unk (aO ln c von vtx)):=λK=>by rw[f2.old _ (show h.next<h1.next by omega),g1];rfl
 have qr:∀K,onRow (hget h2 h1.1) K=K 67 2 false false 0 (T.ofList unk [ak w,ak r]):=λK=>by rw[g2];rfl
 have gv:∀i,getF (T.ofList unk (aO ln c von vtx)) i=(aO ln c von vtx).getD i unk:=λi=>by rw[aI]
 have g3:getF (T.ofList unk (aO ln c von vtx)) 3=von:=gv 3;have g4:getF (T.ofList unk (aO ln c von vtx)) 4=.int .i64 c.n:=gv 4;have g5:getF (T.ofList unk (aO ln c von vtx)) 5=.int .i64 c.m:=gv 5;have g6:getF (T.ofList unk (aO ln c von vtx)) 6=.int .i64 c.k:=gv 6;have g7:getF (T.ofList unk (aO ln c von vtx)) 7=.int .u8 (.ofNat c.kind):=gv 7;have g8:getF (T.ofList unk (aO ln c von vtx)) 8=vtx:=gv 8;have gl:getF (T.ofList unk (aO ln c von vtx)) 2=ak c.label:=gv 2;have gr:getF (T.ofList unk [ak w,ak r]) 1=ak r:=by rw[aI];rfl
 have b1:ble 2 2=true:=rfl;have b2:ble 4 9=true:=rfl;have b3:ble 9 9=true:=rfl;have b5:ble (Nat.succ 4) 9=true:=rfl;have b6:ble (Nat.succ 5) 9=true:=rfl;have b7:ble (Nat.succ 6) 9=true:=rfl;have b8:ble (Nat.succ 7) 9=true:=rfl;have b9:ble (Nat.succ 2) 9=true:=rfl;have b10:ble (Nat.succ 1) 2=true:=rfl;have l1:=λK=>fv (E:=E) (h':=h2) (o1.fr f) u.u37 K;have l2:=λK=>fv (E:=E) (h':=h2) (o2.fr f) u.u37 K;have tru:dV c r=true->k (.bool true) h2=X->∃h',X=k (.bool (dV c r)) h'/\Fr h h' 2:=λh1 h2'=>⟨h2,by rw[h1];exact h2'.symm,f⟩;simp only[↓qr,↓qc,b1,↓di,gr,S.cnt _ _ _ _ hr hS2,gg,show am (ak r) (ak r)=true from wx _] at e;obtain⟨K,hK,e⟩:=sg e;have fin:∀x,K (x,(.int .i64 (.ofNat (gH r c.texts.length)),())) h2=X->c.on.length=r.count 104->∃h',X=k (.bool (dV c r)) h'/\Fr h h' 2:=by
  intro x e hon;subst hK;simp only[↓qc] at e;rw[b3,di,aW,g8,l2,nG u3] at e;simp only[jo,Cn,jz,sX,B7,CH,BF,zN] at e;by_cases q2:c.texts.length≠gH r c.texts.length
  ·rw[dB q2,Bool.not_false] at e;simp only[↓aE,↓cu,↓fx,↓aA,sp9] at e;exact tru (by unfold dV;rw[if_neg (λh=>h hon),if_pos q2]) e
  have q2:c.texts.length=gH r c.texts.length:=Decidable.not_not.1 q2;rw[gm q2,Bool.not_true] at e;rw[field (cs:=T.ofList unk (aO ln c von vtx)) (rs:=T.ofList unk [ak w,ak r]) qc g4 rfl qr gr (bz:=!(c.n==(0:Nat))) (λK=>IA u3) (λK=>S.con r 110 h2 K hr hS2)] at e;by_cases qn:c.n≠0/\r.contains 110=false
  ·rw[show (!(c.n==(0:Nat)) && !r.contains 110)=true by rw[qn.2];simp[qn.1]] at e;simp only[↓aE,↓cu,↓fx,↓aA,↓ax,sp9,QS,sp4] at e;exact tru (by unfold dV;rw[if_neg (λh=>h hon),if_neg (λh=>h q2),if_pos qn]) e
  rw[show (!(c.n==(0:Nat)) && !r.contains 110)=false by
   by_cases a1:c.n≠0
   ·have:r.contains 110=true:=by
     cases hh:r.contains 110 with
     | true=>rfl
     | false=>exact absurd ⟨a1,hh⟩ qn
    rw[this];simp
   ·simp at a1;simp[a1],ax] at e
  rw[field (cs:=T.ofList unk (aO ln c von vtx)) (rs:=T.ofList unk [ak w,ak r]) qc g5 rfl qr gr (bz:=!(c.m==(0:Nat))) (λK=>IA u3) (λK=>S.con r 109 h2 K hr hS2)] at e;by_cases qm:c.m≠0/\r.contains 109=false
  ·rw[show (!(c.m==(0:Nat)) && !r.contains 109)=true by rw[qm.2];simp[qm.1]] at e;simp only[↓aE,↓cu,↓fx,↓aA,↓ax,sp9,QS,sp4] at e;exact tru (by unfold dV;rw[if_neg (λh=>h hon),if_neg (λh=>h q2),if_neg qn,if_pos qm]) e
  rw[show (!(c.m==(0:Nat)) && !r.contains 109)=false by
   by_cases a1:c.m≠0
   ·have:r.contains 109=true:=by
     cases hh:r.contains 109 with
     | true=>rfl
     | false=>exact absurd ⟨a1,hh⟩ qm
    rw[this];simp
   ·simp at a1;simp[a1],ax] at e
  rw[field (cs:=T.ofList unk (aO ln c von vtx)) (rs:=T.ofList unk [ak w,ak r]) qc g6 rfl qr gr (bz:=!(c.k==(0:Nat))) (λK=>IA u3) (λK=>S.con r 107 h2 K hr hS2)] at e;by_cases qk:c.k≠0/\r.contains 107=false
  ·rw[show (!(c.k==(0:Nat)) && !r.contains 107)=true by rw[qk.2];simp[qk.1]] at e;simp only[↓aE,↓cu,↓fx,↓aA,↓ax,sp9,QS,sp4] at e;exact tru (by unfold dV;rw[if_neg (λh=>h hon),if_neg (λh=>h q2),if_neg qn,if_neg qm,if_pos qk]) e
  rw[show (!(c.k==(0:Nat)) && !r.contains 107)=false by
   by_cases a1:c.k≠0
   ·have:r.contains 107=true:=by
     cases hh:r.contains 107 with
     | true=>rfl
     | false=>exact absurd ⟨a1,hh⟩ qk
    rw[this];simp
   ·simp at a1;simp[a1],ax] at e
  rw[field (cs:=T.ofList unk (aO ln c von vtx)) (rs:=T.ofList unk [ak w,ak r]) qc g7 rfl qr gr (bz:=!beq c.kind 0) (λK=>Fg u5) (λK=>S.con r 99 h2 K hr hS2)] at e;by_cases qd:c.kind≠0/\r.contains 99=false
  ·rw[show (!beq c.kind 0 && !r.contains 99)=true by rw[qd.2,dB qd.1];rfl] at e;simp only[↓aE,↓cu,↓fx,↓aA,↓ax,sp9,QS,sp4] at e;exact tru (by unfold dV;rw[if_neg (λh=>h hon),if_neg (λh=>h q2),if_neg qn,if_neg qm,if_neg qk,if_pos qd]) e
  rw[show (!beq c.kind 0 && !r.contains 99)=false by
   by_cases a1:c.kind≠0
   ·have:r.contains 99=true:=by
     cases hh:r.contains 99 with
     | true=>rfl
     | false=>exact absurd ⟨a1,hh⟩ qd
    rw[this];simp
   ·rw[gm (show c.kind=0 by omega)];rfl,ax] at e
  rw[field (cs:=T.ofList unk (aO ln c von vtx)) (rs:=T.ofList unk [ak w,ak r]) qc gl rfl qr gr (bz:=!(c.label==([]:Bs))) (λK=>Tl u.toUS) (λK=>S.con r 76 h2 K hr hS2)] at e;by_cases ql:c.label ≠ []/\r.contains 76=false
  ·rw[show (!(c.label==([]:Bs)) && !r.contains 76)=true by rw[ql.2];simp[ql.1]] at e;simp only[↓aE,↓cu,↓fx,↓aA,↓ax,sp9,QS,sp4] at e;exact tru (by unfold dV;rw[if_neg (λh=>h hon),if_neg (λh=>h q2),if_neg qn,if_neg qm,if_neg qk,if_neg qd,if_pos ql]) e
  rw[show (!(c.label==([]:Bs)) && !r.contains 76)=false by
   by_cases a1:c.label ≠ []
   ·have:r.contains 76=true:=by
     cases hh:r.contains 76 with
     | true=>rfl
     | false=>exact absurd ⟨a1,hh⟩ ql
    rw[this];simp
   ·simp at a1;simp[a1],ax] at e
  exact⟨h2,by unfold dV;rw[if_neg (λh=>h hon),if_neg (λh=>h q2),if_neg qn,if_neg qm,if_neg qk,if_neg qd,if_neg ql];exact e.symm,f⟩
 clear hK;rw[b2,di,aW,g3,l1,nG u3] at e;by_cases q1:c.on.length=r.count 104
 ·rw[gm q1,Bool.not_true] at e;simp only[↓ah,↓ax,S.suf _ _ _ _ hr hS2] at e;cases s1:Lib.hasSuffix r [43] with
  | true=> rw[s1] at e;simp only[↓aA,↓qc] at e;rw[b3,di,aW,g8,l2,max_i64,aK] at e;exact fin _ (by unfold gH;rw[if_pos s1];exact e) q1
  | false=>
   rw[s1] at e;simp only[↓ax,↓qr,b1,↓di,gr,S.suf _ _ _ _ hr hS2] at e;cases s2:Lib.hasSuffix r [42] with
   | true=> rw[s2] at e;simp only[↓aA,↓qc] at e;rw[b3,di,aW,g8,l2] at e;exact fin _ (by unfold gH;rw[if_neg (by rw[s1];simp),if_pos s2];exact e) q1
   | false=> rw[s2,ax] at e;exact fin _ (by unfold gH;rw[if_neg (by rw[s1];simp),if_neg (by rw[s2];simp)];exact e) q1
 ·rw[dB q1,Bool.not_false] at e;simp only[↓ah,↓aA] at e;exact tru (by unfold dV;rw[if_pos q1]) e
end
section
def ct:List (Bs × Bs):=[([112,111,111,108],[76,104]),([98,108,111,99,107],[76,104,110]),([115,116,114,100,117,112],[76,104,116]),([114,101,97,100],[104,110,109]),([119,114,105,116,101],[104,110,116]),([114,101,115,105,122,101],[104,110]),([97,112,112,101,110,100],[104,43]),([115,105,122,101],[104]),([97,108,108,111,99],[104,110,109]),([111,98,106,101,99,116,115],[104]),([108,111,97,100],[104,107,110,109]),([115,116,111,114,101],[104,107,110,116]),([102,114,101,101],[104,107]),([98,101,103,105,110],[104,109]),([103,114,111,119],[104,43]),([98,108,97,110,107],[104,110]),([115,104,114,105,110,107],[104,110]),([102,105,110,105,115,104],[104]),([97,98,111,114,116],[104]),([108,105,109,105,116],[104,110]),([115,101,116],[104,116,110]),([103,101,116],[104,116]),([100,114,111,112],[104,116]),([99,108,101,97,110],[104,99,110]),([112,114,101],[104,99,110]),([107,105,108,108],[104,110]),([114,117,110],[104,110]),([100,101,115,116,114,111,121],[104]),([99,108,101,97,114],[104]),([115,116,101,97,108],[104,104]),([114,101,112,97,114,101,110,116],[104,104,104]),([114,101,102,101,114],[104,104]),([117,110,108,105,110,107],[104,104]),([116,114,105,109],[]),([107,101,101,112],[110]),([114,101,102,117,115,101],[110]),([114,101,112,111,114,116],[104]),([108,111,103],[]),([102,105,110,100],[42]),([100,111,111,109],[104,104]),([100,111,111,109,101,100],[104,104])]
def pg:AO:=.row 67 82 false false 0 (T.ofList unk (fY ct))
def p28 (E:Env) (rc:RC) (h:H) (k:Value->H->R):R:=ifB (ble h.1 1000000000) (letH (ag h pg) λa=>k (.slice (some (Addr.mk h.1 0 none)) 41 82) a)
def adF (t:aN) (rc:RC) (h:H) (k:Value->H->R):(cf (EX t) KK 28).run rc [] h k=p28 (EX t) rc h k:=by kernel_rfl
def arU {E:Env} {rc:RC} (h:H) (k:Value->H->R) (hn:h.next<=900000000):p28 E rc h k=k (.slice (some ⟨h.next,0,none⟩) 41 82) (ag h pg):=by unfold p28;rw[aj (show h.1<=1000000000 by show h.next<=_;omega),aD]
def Dr {i:Nat} (hi:i<41):getF (T.ofList unk (fY ct)) (2*i)=ak (ct.getD i ([],[])).1/\getF (T.ofList unk (fY ct)) (2*i+1)=ak (ct.getD i ([],[])).2:=by have h:=nP ct i hi;rw[aI,aI,Jc (l:=ct),Jn (show i<ct.length from hi)];exact h
def Ei {i:Nat} (hi:i<41):ae (T.ofList unk (fY ct)) 2 (i*2)=[ak (ct.getD i ([],[])).1,ak (ct.getD i ([],[])).2]:=by obtain⟨h1,h2⟩:=Dr hi;show [getF _ (i*2),getF _ (i*2+1)]=_;rw[Nat.mul_comm i 2,h1,h2]
def rm:ct.all (λp=>ble p.1.length 20&&ble p.2.length 4&&p.2.all λb=>Nat.blt b.toNat 128)=true:=by decide
def gb (c:bV):Bs->List Bs × List Bs × List Bs->List Bs × List Bs × List Bs
 | [],st=>st
 | r :: rs,st=>gb c rs (bK c r st.1 st.2.1 st.2.2)
def nr {h:H} {ib pos:Nat} {s:Bs} (hq:hget h ib=.iter s pos) (hp:s.length<=pos):iR h (.pointer (some ⟨ib,0,none⟩))=some (.tuple ⟨[.bool false]⟩,h):=by rw[bv] at hq;unfold iR;simp only[hq,JQ,Jo,List.drop_eq_nil_of_le hp]
def nW {h:H} {ib pos:Nat} {s:Bs} (hq:hget h ib=.iter s pos) (hp:pos<s.length) (hb:s[pos].toNat<128):
  iR h (.pointer (some ⟨ib,0,none⟩))=some (.tuple ⟨[.bool true,.int .i64 (.ofNat pos),.int .i32 (.ofNat s[pos].toNat)]⟩,hset h ib (.iter s (pos+1))):=by
 rw[bv] at hq;have hb':Nat.blt s[pos].toNat 128=true:=aM hb;unfold iR;simp only[hq,JQ,Jo,JR hp,hb',fi]
def Fa (rc:RC) (hS:H):Prop:=∀(hb h:H) (pb:Nat) (k:Value->H->R) (X:R) (c:bV) (ln:Int) (ws on tx:List Bs) (von vtx von0 vtx0:Value),bu hS hb->bu hb h->PN hb.next h pb ws von vtx->WL hb von on->WL hb vtx tx->cj von->cj vtx ->
  cell1F von0=true->cell1F vtx0=true->h.next<=700000000->ws.length+tx.length<=8100->(eX c.n/\eX c.m/\eX c.k)->c.op<=255->∀r:UInt8,(r=104->on ≠ [])->(r=116->tx ≠ [])->(r=99->c.kind<5) ->
  rc 31 [.pointer (some ⟨pb,0,none⟩),.agg ⟨aO ln c von0 vtx0⟩,.int .i32 (.ofNat r.toNat)] h k=X ->
  ∃h' von' vtx',X=k (.tuple ⟨[]⟩) h'/\PN hb.next h' pb (bK c r ws on tx).1 von' vtx'/\WL hb von' (bK c r ws on tx).2.1/\WL hb vtx' (bK c r ws on tx).2.2/\cj von'/\cj vtx'/\dj hb.next h h' (10+2*tx.length)/\KI h h'
def I6 (r:UInt8):Bool:=!(r==76||r==104||r==110||r==109||r==107||r==99||r==116)
structure I5 (c:bV) (rs:Bs) (ws on tx:List Bs):Prop where
 hs:rs.count 104<=on.length
 ts:rs.count 116<=tx.length
 ks:99∈rs->c.kind<5
 len:ws.length+rs.length+rs.countP I6*tx.length<=4050/\tx.length<=4000
def I5.step {c:bV} {r:UInt8} {rs:Bs} {ws on tx:List Bs} (o:I5 c (r :: rs) ws on tx):I5 c rs (bK c r ws on tx).1 (bK c r ws on tx).2.1 (bK c r ws on tx).2.2/\(bK c r ws on tx).2.2.length<=tx.length:=by
 obtain⟨o1,o2,o3,o4,o5⟩:=o;rw[List.count_cons] at o1 o2;have o3':99∈rs->c.kind<5:=λh=>o3 (JG _ h);have o4':ws.length+1+rs.length+(rs.countP I6*tx.length+if I6 r then tx.length else 0)<=4050:=by
  rw[List.countP_cons,Jz] at o4;cases hp:I6 r with
  | true=>rw[hp,if_pos rfl,Nat.succ_mul] at o4;rw[if_pos rfl];omega
  | false=>rw[hp,if_neg (by simp)] at o4;simp only[Kp] at o4;rw[if_neg (by simp)];omega
 clear o4;by_cases q2:r=104
 ·subst q2;rw[if_pos (by rfl)] at o1;rw[if_neg (by decide)] at o2;unfold bK;rw[if_neg (by decide),if_pos rfl];rw[if_neg (by decide)] at o4';refine⟨⟨by simp;omega,by simpa using o2,o3',by simp;omega,o5⟩,by simp⟩
 rw[if_neg (by simpa using q2)] at o1;by_cases q7:r=116
 ·subst q7;rw[if_pos (by rfl)] at o2;unfold bK;rw[if_neg (by decide),if_neg (by decide),if_neg (by decide),if_neg (by decide),if_neg (by decide),if_neg (by decide),if_pos rfl];refine⟨⟨by simpa using o1,by simp;omega,o3',?_⟩,by simp⟩;simp only[Jt,List.length_tail,J7];rw[if_neg (by decide)] at o4';have:rs.countP I6*(tx.length-1)<=rs.countP I6*tx.length:=KN _ (by omega);omega
 rw[if_neg (by simpa using q7)] at o2;have one:∀w:Bs,I5 c rs (ws ++ [w]) on tx/\tx.length<=tx.length:=λw=>⟨⟨by simpa using o1,by simpa using o2,o3',by simp;omega,o5⟩,Jd _⟩;unfold bK;rw[if_neg q2,if_neg q7];split
 ·exact one _
 ·split
  ·exact one _
  ·split
   ·exact one _
   ·split
    ·exact one _
    ·split
     ·exact one _
     ·rename_i n1 n2 n3 n4 n5;have hp:I6 r=true:=by unfold I6;simp only[Bool.not_eq_true',Bool.or_eq_false_iff,JM];exact⟨⟨⟨⟨⟨⟨n1,q2⟩,n2⟩,n3⟩,n4⟩,n5⟩,q7⟩
      rw[hp,if_pos rfl] at o4';exact⟨⟨by simpa using o1,by simpa using o2,o3',by simp;omega,o5⟩,Jd _⟩
def I5.now {c:bV} {r:UInt8} {rs:Bs} {ws on tx:List Bs} (o:I5 c (r :: rs) ws on tx):(r=104->on ≠ [])/\(r=116->tx ≠ [])/\(r=99->c.kind<5)/\ws.length+tx.length<=8100:=by
 obtain⟨o1,o2,o3,o4,o5⟩:=o;refine⟨λh e=>?_,λh e=>?_,λh=>o3 (by rw[h];exact Jq ..),by omega⟩
 ·subst h e;rw[List.count_cons_self] at o1;simp at o1
 ·subst h e;rw[List.count_cons_self] at o2;simp at o2
variable {E : Env} (u : UT E) {rc : RC} {hS : H}
def ZB (W:Fa rc hS) {hb:H} (hSb:bu hS hb) {c:bV} {ln:Int} {von0 vtx0:Value} (z1:cell1F von0=true) (z2:cell1F vtx0=true) (hz:eX c.n/\eX c.m/\eX c.k) (h19:c.op<=255) {rest:Bs} (hlt:rest.all (λb=>Nat.blt b.toNat 128)=true)
  {pb ib:Nat} {a:Nat->Value} {bH cH hh:H} (ha:a bH.1=.pointer (some ⟨ib,0,none⟩)) (hc:cH.1=pb) (hrow:hget hb hh.1=.row 39 9 false false 0 (T.ofList unk (aO ln c von0 vtx0))) (hh1:hh.1<hb.next) (hpi:pb≠ib) (hib:hb.next<=ib) (d:aa []->H->R):
  ∀(n pos N:Nat) (ws on tx:List Bs) (von vtx:Value) (h:H) (X:R),pos+n=rest.length->n<N->bu hb h->PN hb.next h pb ws von vtx->WL hb von on->WL hb vtx tx->cj von->cj vtx->hget h ib=.iter rest pos->ib<h.next->I5 c (rest.drop pos) ws on tx->h.next+n*(10+2*tx.length)<=690000000 ->
   @loopF [] (sM a bH hh rc cH d) N () h=X->∃h' von' vtx' von2,X=d () h'/\PN hb.next h' pb (gb c (rest.drop pos) (ws,on,tx)).1 von' vtx'/\dj hb.next h h' (n*(10+2*tx.length))/\von2=von':=by
 intro n
 induction n with
 | zero=> intro pos N ws on tx von vtx h X hp hN f p o1 o2 c1 c2 hi hil ok hn e;obtain⟨N',rfl⟩:∃N',N=N'+1:=⟨N-1,by omega⟩;rw[aT] at e;generalize @loopF [] (sM a bH hh rc cH d) N'=L at e;unfold sM at e;rw[ha,cg (nr hi (by omega)),bg,bB,ah,ax] at e;rw[List.drop_eq_nil_of_le (by omega)];exact⟨h,von,vtx,von,e.symm,p,dj.refl _ _ _,rfl⟩
 | succ n ih=>
  intro pos N ws on tx von vtx h X hp hN f p o1 o2 c1 c2 hi hil ok hn e;obtain⟨N',rfl⟩:∃N',N=N'+1:=⟨N-1,by omega⟩;rw[aT] at e;generalize hL:@loopF [] (sM a bH hh rc cH d) N'=L at e;have hpos:pos<rest.length:=by omega
  have hb128:rest[pos].toNat<128:=I7 (Jv.1 hlt _ (J6 hpos));rw[JR hpos] at ok ⊢;obtain⟨k1,k2,k3,k4⟩:=ok.now;obtain⟨ok',htl⟩:=ok.step;have hmul:(n+1)*(10+2*tx.length)=n*(10+2*tx.length)+(10+2*tx.length):=Nat.succ_mul _ _;rw[hmul] at hn ⊢;unfold sM at e;rw[ha,cg (nW hi hpos hb128),bg,bB,ah,aA] at e;dsimp only at e;rw[ah,bg,show ∀(x y z:Value) (K:Value->R),nthF 2 [x,y,z] K=K z from λ_ _ _ _=>rfl] at e;have f1:dj hb.next h (hset h ib (.iter rest (pos+1))) 0:=dj.set hib (by omega) _;have hi1:hget (hset h ib (.iter rest (pos+1))) ib=.iter rest (pos+1):=bj _ _ _ (by omega);have p1:PN hb.next (hset h ib (.iter rest (pos+1))) pb ws von vtx:=by
   obtain⟨lo,lt,cells,vw,h1,h2,h3,h4,h5,h6⟩:=p;refine⟨lo,lt,cells,vw,?_,h2,h3,h4,h5.keep (Jd _) λb hb hl=>?_,h6⟩
   ·rw[bS _ _ _ _ (by omega),if_neg hpi,h1]
   ·have:b≠ib:=λee=>by subst ee;obtain⟨n,op,cs,e9⟩:=h5.row9 hb;rw[hi] at e9;cases e9
    rw[bS _ _ _ _ (by omega),if_neg this]
  have hnx:(hset h ib (.iter rest (pos+1))).next=h.next:=rfl;generalize hset h ib (.iter rest (pos+1))=h1 at e f1 hi1 p1 hnx;have hf1:bu hb h1:=f.frB f1 (Jd _);rw[hf1.old _ hh1,hrow,cz,aP (show ble 9 9=true from rfl),show ae (T.ofList unk (aO ln c von0 vtx0)) 9 0=aO ln c von0 vtx0 from rfl,hc] at e;obtain⟨h2,von',vtx',e2,p2,w1,w2,d1,d2,f2,ki⟩:=W hb h1 pb _ _ c ln ws on tx von vtx von0 vtx0 hSb hf1 p1 o1 o2 c1 c2 z1 z2 (by omega) k4 hz h19 rest[pos] k1 k2 k3 e;have hu:=f2.ub;have hl2:=f2.le;have hm2:n*(10+2*(bK c rest[pos] ws on tx).2.2.length)<=n*(10+2*tx.length):=KN _ (by omega);obtain⟨h3,von3,vtx3,vv,e3,p3,f3,hv⟩:=ih (pos+1) N' _ _ _ von' vtx' h2 X (by omega) (by omega) (hf1.frB f2 (Jd _)) p2 w1 w2 d1 d2 (ki ib _ _ (by omega) hi1) (by omega) ok' (by omega) (by rw[hL];exact e2.symm);exact⟨h3,von3,vtx3,vv,e3,p3,((f1.trans f2 (Jd _)).trans f3 (Jd _)).mono (by omega),hv⟩
end
section
def tk:∀(k u:Nat),u<10 ^ (k+1)->(Lib.decDigits u).length<=k+1
 | 0,u,h=>by rw[Lib.decDigits_one (by simpa using h)];simp
 | k+1,u,h=>by
  rw[Lib.decDigits];split
  ·simp
  ·have:u / 10<10 ^ (k+1):=by rw[Nat.div_lt_iff_lt_mul (by decide)];rw[Nat.pow_succ] at h;exact h
   have:=tk k (u / 10) this;simp only[Jt,J7];omega
def gU (n:Int):(cR n).length<=10:=by
 unfold cR;split
 ·rename_i h;exact tk 9 n.toNat (by omega)
 ·simp
def lh (s:Bs):(dF s).length<=s.length+1:=by
 unfold dF;split
 ·simp
 ·split <;> simp
def small (l:List Bs):Prop:=∀s∈l,s.length<=90000
def gh (l:List Bs):Prop:=∀s∈l,s.length<=100000
def dQ {a b:List Bs} (h1:gh a) (h2:gh b):gh (a++b):=λs hs=>by
 rcases Kv.1 hs with h | h
 ·exact h1 s h
 ·exact h2 s h
def fq {w:Bs} (h:w.length<=100000):gh [w]:=λs hs=>by rw[List.mem_singleton.1 hs];exact h
def xf:∀i,(aZ.getD i []).length<=100:=by
 intro i
 match i with
 | 0=>decide
 | 1=>decide
 | 2=>decide
 | 3=>decide
 | 4=>decide
 | i+5=>simp[aZ]
def wk {c:bV} (hl:c.label.length<=90000) (r:UInt8) {ws on tx:List Bs} (h1:gh ws) (h2:small on) (h3:small tx):gh (bK c r ws on tx).1/\small (bK c r ws on tx).2.1/\small (bK c r ws on tx).2.2:=by
 have hd:∀l:List Bs,small l->(l.headD []).length<=90000:=λl h=>by
  cases l with
  | nil=>simp
  | cons a l=>exact h a (Jq ..)
 have tl:∀l:List Bs,small l->small l.tail:=λl h s hs=>h s (List.mem_of_mem_tail hs);unfold bK;split
 ·exact⟨dQ h1 (fq (by omega)),h2,h3⟩
 split
 ·exact⟨dQ h1 (fq (by have:=hd on h2;omega)),tl _ h2,h3⟩
 split
 ·refine⟨dQ h1 (fq ?_),h2,h3⟩;split
  ·decide
  ·have:=gU c.n;omega
 split
 ·exact⟨dQ h1 (fq (by have:=gU c.m;omega)),h2,h3⟩
 split
 ·exact⟨dQ h1 (fq (by have:=gU c.k;omega)),h2,h3⟩
 split
 ·exact⟨dQ h1 (fq (by have:=xf c.kind;omega)),h2,h3⟩
 split
 ·exact⟨dQ h1 (fq (by have:=hd tx h3;have:=lh (tx.headD []);omega)),h2,tl _ h3⟩
 ·refine⟨dQ h1 λs hs=>?_,h2,h3⟩;obtain⟨x,hx,rfl⟩:=List.mem_map.1 hs;have:=h3 x hx;have:=lh x;omega
def rC {c:bV} (hl:c.label.length<=90000):∀(rs:Bs) (ws on tx:List Bs),gh ws->small on->small tx->gh (gb c rs (ws,on,tx)).1
 | [],_,_,_,h,_,_=>h
 | r :: rs,ws,on,tx,h1,h2,h3=>by obtain⟨a,b,d⟩:=wk hl r h1 h2 h3;exact rC hl rs _ _ _ a b d
def vJ {c:bV}:∀(rs:Bs) (ws on tx:List Bs),I5 c rs ws on tx->(gb c rs (ws,on,tx)).1.length<=8000
 | [],ws,on,tx,h=>by have:=h.len.1;show ws.length<=8000;omega
 | r :: rs,ws,on,tx,h=>by obtain⟨a,_⟩:=h.step;exact vJ rs _ _ _ a
def HP (c:bV) (r:UInt8) {ws on tx:List Bs} (h:ws ≠ []):(bK c r ws on tx).1 ≠ []:=by
 unfold bK
 repeat' split
 all_goals simp[h]
def BP {c:bV}:∀(rs:Bs) (ws on tx:List Bs),ws ≠ []->(gb c rs (ws,on,tx)).1 ≠ []
 | [],_,_,_,h=>h
 | r :: rs,ws,on,tx,h=>BP rs _ _ _ (HP c r h)
def sH:∀ws:List Bs,gh ws->(bQ ws).length<=100001*ws.length
 | [],_=>by simp[bQ]
 | [w],h=>by have:=h w (Jq ..);simp only[bQ,J7];omega
 | w :: x :: l,h=>by have h1:=h w (Jq ..);have h2:=sH (x :: l) λs hs=>h s (JG _ hs);simp only[bQ,Jt,Jz] at h2 ⊢;omega
structure UP (E:Env):Prop extends UT E where
 b70:∀(a1 a2 a3:Option Addr) (n1 c1 n2 c2 n3 c3:Nat),cI E 70 [(0,.slice a1 n1 c1),(1,.slice a2 n2 c2),(2,.slice a3 n3 c3)]=some (.agg ⟨[.slice a1 n1 c1,.slice a2 n2 c2,.slice a3 n3 c3]⟩)
def WL.isSl {h:H} {v:Value} {l:List Bs} (o:WL h v l):∃a n c,v=.slice a n c:=by cases o <;> exact⟨_,_,_,rfl⟩
structure Mf (rc:RC) (hS:H):Prop where
 r31:Fa rc hS
 join:∀(v:Value) (ws:List Bs) (h:H) (k:Value->H->R),SO h v ws->ws ≠ []->gh ws->ws.length<=8000->rc 32 [v,.string ⟨⟨[32]⟩⟩] h k=k (ak (bQ ws)) h
 all:∀(v:Value) (ws:List Bs) (h:H) (k:Value->H->R),WL h v ws->gh ws->ws.length<=8000->bu hS h->rc 33 [v,.func (.func 34) #[] #[]] h k=k (.bool (!ws.all aG)) h
 rows:∀(h:H) (k:Value->H->R),h.next<=900000000->rc 28 [] h k=k (.slice (some ⟨h.next,0,none⟩) 41 82) (ag h pg)
 kinds:∀(h:H) (k:Value->H->R),h.next<=900000000->rc 29 [] h k=k (.slice (some ⟨h.next,0,none⟩) 5 10) (ag h (.row 9 5 false false 0 (T.ofList unk (aZ.map ak))))
 spare:∀(c:bV) (ln:Int) (von vtx:Value) (h:H) (w r:Bs) (k:Value->H->R) (X:R),WL h von c.on->WL h vtx c.texts->r.length<=1000->h.next<=900000000->bu hS h->rc 30 [.agg ⟨aO ln c von vtx⟩,.agg ⟨[ak w,ak r]⟩] h k=X ->
  ∃h',X=k (.bool (dV c r)) h'/\Fr h h' 2
def kz {E : Env} (u : US E) (s : Bs): dk E (@T.n Value (@T.c Value undef) (ak s) (@T.c Value undef)) (Oper.mk none (Op.range 9 (.tmp 0)) 0 " " #[] none) = some (.iter s 0, fun id=> ptr id 0):= by have e:ev (@T.n Value (@T.c Value undef) (ak s) (@T.c Value undef)) (.tmp 0)=.string ⟨⟨s⟩⟩:=rfl;simp only[dk,u.u9,e]
def pZ {o:Option (AO × (Nat->Value))} {a:AO} {f:Nat->Value} (e:o=some (a,f)) (K:AO->(Nat->Value)->R):lK o K=K a f:=by rw[e];rfl
variable {E : Env} (u : UP E) {rc : RC} {hS : H}
include u
theorem J9 (W:Mf rc hS) {a:H} (hSa:bu hS a) {c:bV} {ln:Int} {von vtx:Value} (o1:WL a von c.on) (o2:WL a vtx c.texts) (c1:cj von) (c2:cj vtx) (hz:eX c.n/\eX c.m/\eX c.k) (h19:c.op<=255) (hl:c.label.length<=90000) (s1:small c.on) (s2:small c.texts)
  {w rest:Bs} (hw:w.length<=1000) (hlt:rest.all (λb=>Nat.blt b.toNat 128)=true) {rb ch:H} {rcs:T Value} (hrow:hget a rb.1=.row 67 2 false false 0 rcs) (r0:getF rcs 0=ak w) (r1:getF rcs 1=ak rest) (hrb:rb.1<a.next) (hcr:hget a ch.1=.row 39 9 false false 0 (T.ofList unk (aO ln c von vtx))) (hch:ch.1<a.next)
  (ok:I5 c rest [w] c.on c.texts) (hn:a.next+rest.length*(10+2*c.texts.length)+10<=680000000) (k:Value->H->R) (X:R) (e:Bj a rb ch E rc k=X):
  ∃h',X=k (.tuple ⟨[ak (bQ (gb c rest ([w],c.on,c.texts)).1 ++ [10]),.bool ((gb c rest ([w],c.on,c.texts)).1.all aG)]⟩) h'/\Fr a h' (rest.length*(10+2*c.texts.length)+5):=by
 have z1:=o1.cell1;have z2:=o2.cell1;unfold Bj at e;rw[hrow,cz,aP (show ble 1 2=true from rfl),r0] at e;simp only[↓AP,↓jj] at e;rw[aj (show a.1<=1000000000 by show a.next<=_;omega),aD] at e;have f1:Fr a (ag a (.row 9 1 false false 0 (T.ofList unk [ak w]))) 1:=Fr.push _ (by omega);have g1:hget (ag a (.row 9 1 false false 0 (T.ofList unk [ak w]))) a.1=.row 9 1 false false 0 (T.ofList unk [ak w]):=az _ _ (by show a.next<=_;omega);have n1:(ag a (.row 9 1 false false 0 (T.ofList unk [ak w]))).next=a.next+1:=rfl;generalize ag a (.row 9 1 false false 0 (T.ofList unk [ak w]))=h1 at e f1 g1 n1;have hc1:∀K,onRow (hget h1 ch.1) K=K 39 9 false false 0 (T.ofList unk (aO ln c von vtx)):=λK=>by rw[f1.old _ hch,hcr];rfl
 simp only[↓hc1] at e;rw[aP (show ble 4 9=true from rfl),aP (show ble 9 9=true from rfl),show getF (T.ofList unk (aO ln c von vtx)) 3=von from rfl,show getF (T.ofList unk (aO ln c von vtx)) 8=vtx from rfl] at e;obtain⟨x1,x2,x3,e1⟩:=o1.isSl;obtain⟨y1,y2,y3,e2⟩:=o2.isSl;have hb:cI E 70 [(0,.slice (some (Addr.mk a.1 0 none)) 1 2),(1,von),(2,vtx)]=some (.agg ⟨[.slice (some (Addr.mk a.1 0 none)) 1 2,von,vtx]⟩):=by rw[e1,e2];exact u.b70 _ _ _ _ _ _ _ _ _
 rw[hb,aK,aj (show h1.1<=1000000000 by show h1.next<=_;omega),aD] at e;have f2:Fr h1 (ag h1 (.row 70 3 false false 0 (T.ofList unk [.slice none 0 0,.slice none 0 0,.slice none 0 0]))) 1:=Fr.push _ (by omega);have g2:hget (ag h1 (.row 70 3 false false 0 (T.ofList unk [.slice none 0 0,.slice none 0 0,.slice none 0 0]))) h1.1=.row 70 3 false false 0 (T.ofList unk [.slice none 0 0,.slice none 0 0,.slice none 0 0]):=az _ _ (by show h1.next<=_;omega);have n2:(ag h1 (.row 70 3 false false 0 (T.ofList unk [.slice none 0 0,.slice none 0 0,.slice none 0 0]))).next=h1.next+1:=rfl;generalize ag h1 (.row 70 3 false false 0 (T.ofList unk [.slice none 0 0,.slice none 0 0,.slice none 0 0]))=h2 at e f2 g2 n2;have hal:allF (λv=>cell1F v) [.slice (some (Addr.mk a.1 0 none)) 1 2,von,vtx]=true:=by simp only[jg,z1,z2];rfl
 rw[bP,g2,cz,aP (show notB false=true from rfl),aP (show beq (lenF [.slice (some (Addr.mk a.1 0 none)) 1 2,von,vtx]) 3=true from rfl),aP (show ble 0 0=true from rfl),aP (show ble 3 3=true from rfl),aP (show ble 3 1000000000=true from rfl),aP hal,aD] at e;have f3:dj h1.next h2 (hset h2 h1.1 (.row 70 3 false false 0 (putF (T.ofList unk [.slice none 0 0,.slice none 0 0,.slice none 0 0]) 0 [.slice (some (Addr.mk a.1 0 none)) 1 2,von,vtx]))) 0:=dj.set (Jd _) (by show h1.next<=_;omega) _;have g3:hget (hset h2 h1.1 (.row 70 3 false false 0 (putF (T.ofList unk [.slice none 0 0,.slice none 0 0,.slice none 0 0]) 0 [.slice (some (Addr.mk a.1 0 none)) 1 2,von,vtx]))) h1.1=.row 70 3 false false 0 (putF (T.ofList unk [.slice none 0 0,.slice none 0 0,.slice none 0 0]) 0 [.slice (some (Addr.mk a.1 0 none)) 1 2,von,vtx]):=bj _ _ _ (by show h1.next<=_;omega);have n3:(hset h2 h1.1 (.row 70 3 false false 0 (putF (T.ofList unk [.slice none 0 0,.slice none 0 0,.slice none 0 0]) 0 [.slice (some (Addr.mk a.1 0 none)) 1 2,von,vtx]))).next=h2.next:=rfl;generalize hset h2 h1.1 (.row 70 3 false false 0 (putF (T.ofList unk [.slice none 0 0,.slice none 0 0,.slice none 0 0]) 0 [.slice (some (Addr.mk a.1 0 none)) 1 2,von,vtx]))=h3 at e f3 g3 n3;have fb3:dj h1.next h1 h3 1:=(f2.b (Jd _)).trans f3 (Jd _);have fa3:dj a.next a h3 2:=⟨by have:=fb3.le;omega,by have:=fb3.ub;omega,λid hid=>(fb3.old id (by omega)).trans (f1.old id hid)⟩;rw[fa3.old _ hrb,hrow,cz,aP (show ble 2 2=true from rfl),r1,pZ (kz u.toUS rest)] at e;rw[aj (show h3.1<=1000000000 by show h3.next<=_;omega),aD] at e;have f4:Fr h3 (ag h3 (.iter rest 0)) 1:=Fr.push _ (by omega);have g4:hget (ag h3 (.iter rest 0)) h3.1=.iter rest 0:=az _ _ (by show h3.next<=_;omega);have n4:(ag h3 (.iter rest 0)).next=h3.next+1:=rfl;generalize ag h3 (.iter rest 0)=h4 at e f4 g4 n4;have fa4:dj a.next a h4 3:=fa3.trans (f4.b (by omega)) (by omega);have pen:PN a.next h4 h1.1 [w] von vtx:=by
  refine⟨by show a.next<=h1.next;omega,by show h1.next<h4.next;omega,_,.slice (some (Addr.mk a.1 0 none)) 1 2,(f4.old _ (by show h1.next<h3.next;omega)).trans g3,?_,?_,?_,?_,λp hp=>by cases hp;exact Jd _⟩
  ·rw[bI,fF,bJ _ _ _ (by simp)];rfl
  ·rw[bI,fF,bJ _ _ _ (by simp)];rfl
  ·rw[bI,fF,bJ _ _ _ (by simp)];rfl
  ·have q4:hget h4 a.1=.row 9 1 false false 0 (T.ofList unk [ak w]):=(f4.old _ (by show a.next<h3.next;omega)).trans ((fb3.old _ (by show a.next<h1.next;omega)).trans g1);exact .row (b:=a.1) (n:=1) (op:=false) (fz:=0) (cells:=T.ofList unk [ak w]) (show a.next<h4.next by omega) q4 rfl (λi hi=>by rw[aI];rfl) (by omega)
 rw[ah] at e;have hd:∀X:R,X=X:=λ_=>rfl
 obtain⟨h5,von',vtx',_,e5,p5,f5,_⟩:=ZB (W.r31) hSa z1 z2 hz h19 hlt (a:=λid=>ptr id 0) (bH:=h3) (cH:=h1) (hh:=ch) rfl rfl hcr hch (show h1.next≠h3.next by omega) (show a.next<=h3.next by omega) _ rest.length 0 cM [w] c.on c.texts von vtx h4 X (by omega) (by
  have:=ok.len;have h2:rest.length<=rest.length*(c.texts.length+1):=Nat.le_mul_of_pos_right _ (by omega)
  unfold cM;omega) fa4.from pen o1 o2 c1 c2 g4 (show h3.next<h4.next by omega) ok (by omega) e
 rw[List.drop_zero] at p5;have hws:=vJ rest [w] c.on c.texts ok;have hsm:=rC hl rest [w] c.on c.texts (fq (by omega)) s1 s2;have hne:=BP (c:=c) rest [w] c.on c.texts (by simp);generalize hrs:(gb c rest ([w],c.on,c.texts)).1=ws at p5 hws hsm hne ⊢;obtain⟨lo,lt,cells,vw,hq,h0,_,_,o,hv⟩:=p5;have hu5:=f5.ub;have hl5:=f5.le;have hq5:∀K,onRow (hget h5 h1.1) K=K 70 3 false false 0 cells:=λK=>by rw[hq];rfl
 replace e5:=e5.symm;rw[aj (show h5.1<=1000000000 by show h5.next<=_;omega),aD,Ey] at e5;simp only[↓hq5] at e5;have hj:=sH ws hsm;have hj2:100001*ws.length<=100001*8000:=KN _ hws;rw[aP (show ble 1 3=true from rfl),aP (show ble 1 3=true from rfl),h0,W.join _ _ _ _ o hne hsm hws,aP (gg _)] at e5;simp only[↓hq5] at e5;rw[aP (show ble 1 3=true from rfl),h0,aP o.same] at e5;have hadd:∀K:Value->R,binR (binC E .add 9 false true) (ak (bQ ws)) (.string ⟨⟨[10]⟩⟩) K=K (ak (bQ ws ++ [10])):=λK=>aqm u.toUS (by simp;omega);rw[hadd,W.all _ _ _ _ o.wl hsm hws (hSa.trans (fa4.trans f5 (Jd _)).from),hadd,aP (show am (ak (bQ ws ++ [10])) (ak (bQ ws ++ [10]))=true from wx _)] at e5;refine⟨h5,?_,⟨by have:=fa4.le;omega,by have:=fa4.ub;omega,λid hid=>(f5.old id hid).trans (fa4.old id hid)⟩⟩;cases hall:ws.all aG with
 | true=>rw[hall] at e5;exact e5.symm
 | false=>rw[hall] at e5;exact e5.symm
omit u in
theorem Km {c:bV} {i:Nat} (hi:i<41) (hk:c.kind<5) (ht:c.texts.length<=4000) (hs:dV c (ct.getD i ([],[])).2=false):I5 c (ct.getD i ([],[])).2 [(ct.getD i ([],[])).1] c.on c.texts:=by
 have hr:=Jv.1 rm (ct.getD i ([],[])) (by
  rw[Jc,Jn (show i<ct.length from hi)]
  exact J6 _)
 have hq:(List.range 41).all (λi=>!(Lib.hasSuffix (ct.getD i ([],[])).2 [43]||Lib.hasSuffix (ct.getD i ([],[])).2 [42])||beq ((ct.getD i ([],[])).2.count 116) 0)=true:=by decide
 have hq:=Jv.1 hq i (by simpa using hi);have hpl:(List.range 41).all (λi=>ble ((ct.getD i ([],[])).2.countP I6) 1)=true:=by decide
 have hpl:=I7 (Jv.1 hpl i (by simpa using hi));generalize ct.getD i ([],[])=p at hs hr hq hpl ⊢;rw[Ja,Ja] at hr;have hl:=I7 hr.1.2;unfold dV at hs;split at hs
 ·exact nomatch hs
 rename_i h1;split at hs
 ·exact nomatch hs
 rename_i h2;have h1:=Decidable.not_not.1 h1;have h2:=Decidable.not_not.1 h2;refine⟨by omega,?_,λ_=>hk,?_⟩
 ·unfold gH at h2;split at h2
  ·rename_i q;rw[q] at hq;have:=I8 (by simpa using hq);omega
  ·split at h2
   ·rename_i q;rw[q] at hq;have:=I8 (by simpa using hq);omega
   ·omega
 ·have:p.2.countP I6*c.texts.length<=1*c.texts.length:=Kr _ hpl;simp only[J7];omega
def dw (c:bV):Bs × Bool:=
 if 41<=c.op \/ 5<=c.kind then ([],false)
 else if dV c (ct.getD c.op ([],[])).2=true \/ 16<c.label.length then ([],false)
 else (bQ (gb c (ct.getD c.op ([],[])).2 ([(ct.getD c.op ([],[])).1],c.on,c.texts)).1 ++ [10],(gb c (ct.getD c.op ([],[])).2 ([(ct.getD c.op ([],[])).1],c.on,c.texts)).1.all aG)
structure Hx (c:bV):Prop where
 z:eX c.n/\eX c.m/\eX c.k
 op:c.op<=255
 kd:c.kind<=255
 lb:c.label.length<=90000
 on:small c.on
 tx:small c.texts
 nt:c.texts.length<=4000
theorem Qu (W:Mf rc hS) {a:H} (hSa:bu hS a) {c:bV} (C:Hx c) {ln:Int} {von vtx:Value} (o1:WL a von c.on) (o2:WL a vtx c.texts) (c1:cj von) (c2:cj vtx) (hop:c.op<41) (hkd:c.kind<5)
  {ch:H} (hcr:hget a ch.1=.row 39 9 false false 0 (T.ofList unk (aO ln c von vtx))) (hch:ch.1<a.next) (hn:a.next<=600000000) (k:Value->H->R) (b:aa [2,3]) (X:R) (e:CM a ch rc E k b=X):
  ∃h',X=k (.tuple ⟨[ak (dw c).1,.bool (dw c).2]⟩) h'/\Fr a h' (36000+20):=by
 have u3:=u.u3;have hnt:=C.nt;unfold CM at e;have hcm:hget (H.mk (Nat.add a.1 1) a.2) ch.1=hget a ch.1:=rfl;have gc1:getF (T.ofList unk (aO ln c von vtx)) 1=.int .u8 (.ofNat c.op):=rfl;rw[aj (show a.1<=1000000000 by show a.next<=_;omega),aD,hcm,hcr,cz,aP (show ble 2 9=true from rfl),oG,aD,gc1] at e;have f1:Fr a (ag a (.row 67 2 false false 0 (T.ofList unk [.string (ByteArray.mk #[]),.string (ByteArray.mk #[])]))) 1:=Fr.push _ (by omega);have g1:hget (ag a (.row 67 2 false false 0 (T.ofList unk [.string (ByteArray.mk #[]),.string (ByteArray.mk #[])]))) a.1=.row 67 2 false false 0 (T.ofList unk [.string (ByteArray.mk #[]),.string (ByteArray.mk #[])]):=az _ _ (by show a.next<=_;omega);have n1:(ag a (.row 67 2 false false 0 (T.ofList unk [.string (ByteArray.mk #[]),.string (ByteArray.mk #[])]))).next=a.next+1:=rfl;generalize ag a (.row 67 2 false false 0 (T.ofList unk [.string (ByteArray.mk #[]),.string (ByteArray.mk #[])]))=h1 at e f1 g1 n1;rw[W.rows _ _ (by omega),aP (gg _)] at e;have f2:Fr h1 (ag h1 pg) 1:=Fr.push _ (by omega);have g2:hget (ag h1 pg) h1.next=pg:=az _ _ (by omega);have n2:(ag h1 pg).next=h1.next+1:=rfl;generalize ag h1 pg=h2 at e f2 g2 n2;have hc2:hget h2 ch.1=.row 39 9 false false 0 (T.ofList unk (aO ln c von vtx)):=(f2.old _ (by omega)).trans ((f1.old _ hch).trans hcr);rw[hc2,cz,aP (show ble 2 9=true from rfl),gc1,aP (iC _ _),bC,bp,aj (show Nat.succ c.op<=41 from hop),bw,au] at e;simp only[JN,g2] at e;rw[show pg=.row 67 82 false false 0 (T.ofList unk (fY ct)) from rfl,cz,aj (show Nat.add (Nat.mul c.op 2) 2<=82 by show c.op*2+2<=82;omega)] at e;rw[show ae (T.ofList unk (fY ct)) 2 (Nat.mul c.op 2)=_ from Ei hop] at e;have hok:=λhs=>Km (c:=c) hop hkd hnt hs
 have hr:=Jv.1 rm (ct.getD c.op ([],[])) (by
  rw[Jc,Jn (show c.op<ct.length from hop)]
  exact J6 _)
 rw[Ja,Ja] at hr;have hr1:=I7 hr.1.1;have hr2:=I7 hr.1.2;have hlt:dw c=if dV c (ct.getD c.op ([],[])).2=true \/ 16<c.label.length then ([],false)
  else (bQ (gb c (ct.getD c.op ([],[])).2 ([(ct.getD c.op ([],[])).1],c.on,c.texts)).1 ++ [10],(gb c (ct.getD c.op ([],[])).2 ([(ct.getD c.op ([],[])).1],c.on,c.texts)).1.all aG):=by
  unfold dw;rw[if_neg (by omega)]
 rw[hlt];generalize ct.getD c.op ([],[])=p at e hok hr hr1 hr2 ⊢;have ha2:hget h2 a.1=.row 67 2 false false 0 (T.ofList unk [.string (ByteArray.mk #[]),.string (ByteArray.mk #[])]):=(f2.old _ (by show a.next<h1.next;omega)).trans g1;rw[ha2,cz,aP (show notB false=true from rfl),aP (show beq (lenF [ak p.1,ak p.2]) 2=true from rfl),aP (show ble 0 0=true from rfl),aP (show ble 2 2=true from rfl),aP (show ble 2 1000000000=true from rfl),aP (show allF (λz=>cell1F z) [ak p.1,ak p.2]=true from rfl),aD] at e;have f3:dj a.next h2 (hset h2 a.1 (.row 67 2 false false 0 (putF (T.ofList unk [.string (ByteArray.mk #[]),.string (ByteArray.mk #[])]) 0 [ak p.1,ak p.2]))) 0:=dj.set (Jd _) (by show a.next<=_;omega) _;have g3:hget (hset h2 a.1 (.row 67 2 false false 0 (putF (T.ofList unk [.string (ByteArray.mk #[]),.string (ByteArray.mk #[])]) 0 [ak p.1,ak p.2]))) a.1=.row 67 2 false false 0 (putF (T.ofList unk [.string (ByteArray.mk #[]),.string (ByteArray.mk #[])]) 0 [ak p.1,ak p.2]):=bj _ _ _ (by show a.next<=_;omega);have n3:(hset h2 a.1 (.row 67 2 false false 0 (putF (T.ofList unk [.string (ByteArray.mk #[]),.string (ByteArray.mk #[])]) 0 [ak p.1,ak p.2]))).next=h2.next:=rfl;have r0:getF (putF (T.ofList unk [.string (ByteArray.mk #[]),.string (ByteArray.mk #[])]) 0 [ak p.1,ak p.2]) 0=ak p.1:=by rw[bI,fF,bJ _ _ _ (by simp)];rfl
 have r1:getF (putF (T.ofList unk [.string (ByteArray.mk #[]),.string (ByteArray.mk #[])]) 0 [ak p.1,ak p.2]) 1=ak p.2:=by rw[bI,fF,bJ _ _ _ (by simp)];rfl
 generalize hset h2 a.1 (.row 67 2 false false 0 (putF (T.ofList unk [.string (ByteArray.mk #[]),.string (ByteArray.mk #[])]) 0 [ak p.1,ak p.2]))=h3 at e f3 g3 n3;generalize putF (T.ofList unk [.string (ByteArray.mk #[]),.string (ByteArray.mk #[])]) 0 [ak p.1,ak p.2]=rcs at g3 r0 r1;have fa3:Fr a h3 2:=⟨by have:=f1.le;have:=f2.le;omega,by omega,λid hid=>(f3.old id hid).trans ((f2.old id (by omega)).trans (f1.old id hid))⟩;have hc3:=(fa3.old _ hch).trans hcr;rw[hc3,cz,aP (show ble 9 9=true from rfl),g3,cz,aP (show ble 2 2=true from rfl),show ae (T.ofList unk (aO ln c von vtx)) 9 0=aO ln c von vtx from rfl,show ae rcs 2 0=[getF rcs 0,getF rcs 1] from rfl,r0,r1] at e;obtain⟨h4,e4,f4⟩:=W.spare c ln von vtx h3 p.1 p.2 _ X (o1.fr fa3) (o2.fr fa3) (by omega) (by omega) (hSa.trans fa3.from) e;have fa4:Fr a h4 4:=fa3.trans f4 (by omega);have hu4:=fa4.ub;have hl4:=fa4.le;cases hs:dV c p.2 with
 | true=> rw[hs] at e4;simp only[↓aE,↓cu,↓fx,↓aA,↓ah] at e4;rw[if_pos (.inl rfl)];exact⟨h4,e4,fa4.mono (by omega)⟩
 | false=>
  rw[hs] at e4;have hc4:∀K,onRow (hget h4 ch.1) K=K 39 9 false false 0 (T.ofList unk (aO ln c von vtx)):=λK=>by rw[fa4.old _ hch,hcr];rfl
  simp only[↓aE,↓cP,↓ax,↓au,↓hc4] at e4;rw[aP (show ble (Nat.succ 2) 9=true from rfl),show getF (T.ofList unk (aO ln c von vtx)) 2=ak c.label from rfl,show aX E h4 9 (ak c.label)=_ from js u.toUS,aK,fD u3] at e4;by_cases q:16<c.label.length
  ·rw[aM (show 16+1<=c.label.length by omega)] at e4;simp only[↓ah,↓aA] at e4;rw[if_pos (.inr q)];exact⟨h4,e4,fa4.mono (by omega)⟩
  ·rw[dt (show c.label.length<16+1 by omega)] at e4;simp only[↓ah,↓ax] at e4;rw[if_neg (by simp;omega)];have ok:=hok hs;have hmul:p.2.length*(10+2*c.texts.length)<=4*(10+2*c.texts.length):=Kr _ hr2;obtain⟨h5,e5,f5⟩:=J9 u W (hSa.trans fa4.from) (o1.fr fa4) (o2.fr fa4) c1 c2 C.z C.op C.lb C.on C.tx (w:=p.1) (rest:=p.2) (by omega) hr.2 (rb:=a) (ch:=ch) (rcs:=rcs) ((f4.old _ (by show a.next<h3.next;omega)).trans g3) r0 r1 (by show a.next<h4.next;have:=f4.le;omega) ((fa4.old _ hch).trans hcr) (by omega) ok (by omega) k X e4.symm;exact⟨h5,e5,fa4.trans f5 (by omega)⟩
end
end Go.Ev
