/-
  SCRIPT LONG: the law's function answers true.
-/
import Derived.Test.YtlahhbdihpbbgaaGreatDoorLb
import Derived.KernelRfl
import Derived.Test.YtlahhbdihpbbgaaGreatDoorPe
import Derived.Test.YtlahhbdihpbbgaaGreatDoorEc
import Derived.Test.YtlahhbdihpbbgaaGreatDoorKb
import Derived.Test.YtlahhbdihpbbgaaGreatDoorMe
import Derived.Lib.AtoiAllCases
set_option linter.unusedVariables false
set_option linter.unusedSimpArgs false
namespace Go.Ev
open Go F Go.Proofs
set_option maxRecDepth 100000
set_option linter.unusedVariables false
noncomputable def CZ (a:Value)(k:Value→H→R)(b:H)(E:Env)(c:Value):R:=ae (λ d e=>onB a (k (.bool false) e) (k d e)) λ d=>aB a (d undef b) (binR (binC E .eql 3 false true) c (.int .i64 (.ofNat 0)) λ e=>d e b) (d undef b)
noncomputable def Kh (a:Value)(b:Value→H→R)(c:H)(d:Value)(E:Env):R:=aB a (b undef c) (joinL (λ e=>b e c) λ e=>onSl d (bindO (bv E c 23 d) e) λ _ f _=>e (.int .i64 (.ofNat f))) (b undef c)
noncomputable def AK (a:Value)(E:Env)(b:H)(c:Value→R):R:=onNat a (bindO (aQ E b 5 3 a) c) λ d=>@Bool.rec (λ _=>R) (bindO (aQ E b 5 3 a) c) (c (.int .i64 (.ofNat d))) (Nat.ble d 9223372036854775807)
noncomputable def CO (E:Env)(a0 a:Value)(k:Value→H→R)(b c:Value)(d:aa [2])(e:H):R:=binR (binC E .leq 5 false true) a0 (.int .u8 (.ofNat 100)) λ f=>@joinR [2] (λ _ g=>binR (binC E .eql 24 false true) a (.int .i64 (.ofNat 15)) λ h=>ae (λ i j=>ae (λ l m=>onB h (ae (λ _ n=>ae (λ _ o=>ae (λ _ p=>k (.bool false) p) λ p=>p undef o) λ o=>o undef n) λ n=>n undef m) (ae (λ n o=>ae (λ p q=>CZ l k q E p) λ p=>Kh l p o n E) λ n=>aB l (n undef m) (n b m) (n undef m))) λ l=>aB h (l undef j) (binR (binC E .eql 3 false true) i (.int .i64 (.ofNat 1002)) λ m=>l m j) (l undef j)) λ i=>aB h (i undef g) (i c g) (i undef g)) λ g=>onB f (g (d.1,()) e) (binR (binC E .eql 24 false true) a (.int .i64 (.ofNat 0)) λ h=>ae (λ i j=>ae (λ l m=>ae (λ n o=>ae (λ p q=>ae (λ r s=>ae (λ t u=>onB h (ae (λ _ v=>ae (λ _ w=>k (.bool false) w) λ w=>w undef v) λ v=>v undef u) (ae (λ v w=>CZ t k w E v) λ v=>aB t (v undef u) (v c u) (v undef u))) λ t=>aB h (t undef s) (binR (binC E .eql 3 false false) l r λ u=>t u s) (t undef s)) λ r=>aB h (r undef q) (binR (binC E .add 3 true false) (.int .i64 (.ofNat 900)) p λ s=>r s q) (r undef q)) λ p=>aB h (p undef o) (joinL (λ q=>p q o) λ q=>AK n E o q) (p undef o)) λ n=>aB h (n undef m) (n a0 m) (n undef m)) λ l=>Kh h l j i E) λ i=>aB h (i undef e) (i b e) (i undef e))
noncomputable def Mc (E:Env)(a0 a:Value)(k:Value→H→R)(b c:Value)(d:H):R:=@joinR [2] (λ e f=>CO E a0 a k b c e f) λ _=>k (.bool false) d
noncomputable def KZ (a:Value)(b:Value→H→R)(c:H)(E:Env)(d:Value):R:=aB a (b undef c) (binR (binC E .neq 24 false true) d (.int .i64 (.ofNat 16)) λ e=>b e c) (b undef c)
noncomputable def afx (E:Env)(rc:RC)(a:H)(a0:Value)(k:Value→H→R)(b:aa [2]):R:=joinL (λ c=>binR (binC E .add 3 true false) (.int .i64 (.ofNat 65525)) c λ d=>rc 11 [.string ⟨⟨[120]⟩⟩,d] a λ e f=>binR (binC E .add 9 true false) (.string ⟨⟨[97,114,101,110,97,32,49,32,49,10,35]⟩⟩) e λ g=>rc 7 [g] f λ h i=>onTup h λ j=>nthF 0 j λ _=>onTup h λ l=>nthF 1 l λ _=>onTup h λ m=>nthF 2 m λ _=>onTup h λ n=>nthF 3 n λ o=>onTup h λ p=>nthF 4 p λ q=>joinL (λ r=>binR (binC E .add 3 true false) (.int .i64 (.ofNat 900)) r λ s=>rc 11 [.string ⟨⟨[108,111,103,10]⟩⟩,s] i λ t u=>binR (binC E .add 9 true false) (.string ⟨⟨[97,114,101,110,97,32,49,32,49,10]⟩⟩) t λ v=>rc 7 [v] u λ w x=>onTup w λ y=>nthF 0 y λ _=>onTup w λ z=>nthF 1 z λ _=>onTup w λ a1=>nthF 2 a1 λ a2=>onTup w λ a3=>nthF 3 a3 λ a4=>onTup w λ a5=>nthF 4 a5 λ a6=>binR (binC E .neq 3 false true) o (.int .i64 (.ofNat 0)) λ a7=>ae (λ a8 a9=>ae (λ b0 b1=>ae (λ b2 b3=>ae (λ b4 b5=>ae (λ b6 b7=>onB a7 (ae (λ b8 b9=>ae (λ c0 c1=>ae (λ c2 c3=>ae (λ c4 c5=>ae (λ c6 c7=>ae (λ c8 c9=>onB b6 (@joinR [2] (λ d0 d1=>CO E a0 a6 k a2 a4 d0 d1) λ d0=>onB c8 (d0 (b.1,()) c9) (k (.bool false) c9)) (Mc E a0 a6 k a2 a4 c9)) λ c8=>aB b6 (onB c2 (c8 (.bool false) c7) (c8 c6 c7)) (c8 undef c7) (c8 undef c7)) λ c6=>KZ c2 c6 c5 E c4) λ c4=>aB c2 (c4 undef c3) (c4 q c3) (c4 undef c3)) λ c2=>aB b6 (c2 c0 c1) (c2 undef c1) (c2 undef c1)) λ c0=>aB b6 (binR (binC E .neq 24 false true) b8 (.int .i64 (.ofNat 0)) λ c1=>c0 c1 b9) (c0 undef b9) (c0 undef b9)) λ b8=>aB b6 (b8 q b7) (b8 undef b7) (b8 undef b7)) (ae (λ _ b8=>ae (λ _ b9=>ae (λ c0 c1=>ae (λ c2 c3=>ae (λ _ c4=>ae (λ _ c5=>Mc E a0 a6 k a2 a4 c5) λ c5=>c5 undef c4) λ c4=>KZ c0 c4 c3 E c2) λ c2=>aB c0 (c2 undef c1) (c2 q c1) (c2 undef c1)) λ c0=>c0 undef b9) λ b9=>b9 undef b8) λ b8=>b8 undef b7)) λ b6=>aB a7 (binR (binC E .neq 4 false false) b0 b4 λ b7=>b6 b7 b5) (b6 undef b5) (b6 undef b5)) λ b4=>aB a7 (binR (binC E .gtr 5 false true) b2 (.int .u8 (.ofNat 0)) λ b5=>b4 b5 b3) (b4 undef b3) (b4 undef b3)) λ b2=>aB a7 (b2 a0 b1) (b2 undef b1) (b2 undef b1)) λ b0=>aB a7 (binR (binC E .eql 24 false true) a8 (.int .i64 (.ofNat 16)) λ b1=>b0 b1 a9) (b0 undef a9) (b0 undef a9)) λ a8=>aB a7 (a8 q x) (a8 undef x) (a8 undef x)) λ r=>AK a0 E i r) λ c=>AK a0 E a c
noncomputable def pl4 (E:Env)(rc:RC)(a0:Value)(h:H)(k:Value→H→R):R:=rc 6 [] h λ a b=>onB a (@joinR [2] (λ c d=>afx E rc d a0 k c) λ _=>k (.bool false) b) (@joinR [2] (λ c d=>afx E rc d a0 k c) λ c=>c (.bool false,()) b)
theorem amM (t:ak)(rc:RC)(a0:Value)(h:H)(k:Value→H→R):(ax (EX t) KK 4).run rc [a0] h k = pl4 (EX t) rc a0 h k:=by kernel_rfl
end Go.Ev
namespace Go.Ev
open Go F Go.Proofs
set_option maxRecDepth 100000
set_option exponentiation.threshold 3000
set_option linter.unusedVariables false
noncomputable def tP:ak:=(((((xR.ins 40 16 (some pH)).ins 40 35 (some l5)).ins 40 63 (some Dh)).ins 40 11 (some HZ)).ins 40 12 (some AW)).ins 40 62 (some vb)
theorem PK (h:aA xR):aA tP:=ar (ar (ar (ar (ar (ar h (by decide) yl) (by decide) sZ) (by decide) EO) (by decide) I9) (by decide) Ao) (by decide) zM
noncomputable def EP:Env:=EX tP
theorem vO:EP=EX tP:=rfl
theorem us:US EP:=⟨by kernel_rfl,by kernel_rfl,by kernel_rfl⟩
theorem t30:Ad EP 30 9 1 ((EP.info 9).getD default) [.string ⟨⟨[]⟩⟩]:=⟨by kernel_rfl,by kernel_rfl,by kernel_rfl,of_decide_eq_true (by kernel_rfl),by kernel_rfl,rfl,by decide,by decide⟩
theorem t23:Ad EP 23 32 9 ((EP.info 32).getD default) aO:=⟨by kernel_rfl,by kernel_rfl,by kernel_rfl,of_decide_eq_true (by kernel_rfl),by kernel_rfl,rfl,by decide,by decide⟩
theorem DJ {ty:TypeId} {d:TypeDesc} (hu:EP.und ty=some d) (ha:gt d=true) (hz:EP.size ty=some 9):∀ (h:H) (b:Nat) (op ro:Bool) (fz:Nat) (cells:T Value),hget h b=.row ty 9 op ro fz cells→aU EP h ty ⟨b,0,none⟩=some (.agg ⟨ac cells 9 0⟩):=by
 intro h b op ro fz cells e
 rw [bI] at e
 unfold aU
 simp only [hu,hz,e,ha,cond_true,dS]
 rfl
theorem tn:CE EP 32:={ us with
 u24:=by kernel_rfl
 u30:=by kernel_rfl
 z9:=by kernel_rfl
 load:=DJ (d:=(EP.und 32).getD .bool) (by kernel_rfl) (by kernel_rfl) (by kernel_rfl)
 build:=λ a c=>by kernel_rfl }
theorem u62:∃ mi,EP.und 62=some (.interface mi):=⟨_,(by kernel_rfl:EP.und 62=some (.interface (match EP.und 62 with | some (.interface m)=>m | _=>default)))⟩
theorem tc0 {f:FuncId} {x:List Value→H→Option (Value × H)} (e:bN EP KK f=⟨λ _ args h c=>cT (x args h) c⟩) (m:Nat) (args:List Value) (h:H) (k:Value→H→R) {v:Value} {h':H} (hx:x args h=some (v,h')):az EP KK (m + 1) f args h k=k v h':=by
 show (bN EP KK f).run _ _ _ _=_
 rw [e]
 show cT (x args h) k=_
 rw [hx]; rfl
theorem asr:bN EP KK 16=⟨λ _ args h c=>cT (pH args h) c⟩:=by kernel_rfl
theorem ar1:bN EP KK 35=⟨λ _ args h c=>cT (l5 args h) c⟩:=by kernel_rfl
theorem arF:bN EP KK 63=⟨λ _ args h c=>cT (Dh args h) c⟩:=by kernel_rfl
theorem asE:bN EP KK 11=⟨λ _ args h c=>cT (HZ args h) c⟩:=by kernel_rfl
theorem an8:bN EP KK 62=⟨λ _ args h c=>cT (vb args h) c⟩:=by kernel_rfl
theorem fc6:bN EP KK 6=⟨λ _ args h c=>cT (aV glob args h) c⟩:=by kernel_rfl
theorem arw (m:Nat) (a0:Value) (h:H) (k:Value→H→R):az EP KK (m + 1) 37 [a0] h k=p37 EP (az EP KK m) a0 h k:=by
 show (bN EP KK 37).run _ _ _ _=_
 rw [show bN EP KK 37=ax EP KK 37 from bB (by kernel_rfl),vO]
 exact Sf tP _ a0 h k
theorem arM (m:Nat) (a0:Value) (a1:Value) (h:H) (k:Value→H→R):az EP KK (m + 1) 38 [a0,a1] h k=p38 EP (az EP KK m) a0 a1 h k:=by
 show (bN EP KK 38).run _ _ _ _=_
 rw [show bN EP KK 38=ax EP KK 38 from bB (by kernel_rfl),vO]
 exact W3 tP _ a0 a1 h k
theorem ar5 (m:Nat) (h:H) (k:Value→H→R):az EP KK (m + 1) 39 [] h k=p39 EP (az EP KK m)  h k:=by
 show (bN EP KK 39).run _ _ _ _=_
 rw [show bN EP KK 39=ax EP KK 39 from bB (by kernel_rfl),vO]
 exact adD tP _  h k
theorem arK (m:Nat) (a0:Value) (a1:Value) (h:H) (k:Value→H→R):az EP KK (m + 1) 40 [a0,a1] h k=p40 EP (az EP KK m) a0 a1 h k:=by
 show (bN EP KK 40).run _ _ _ _=_
 rw [show bN EP KK 40=ax EP KK 40 from bB (by kernel_rfl),vO]
 exact agU tP _ a0 a1 h k
theorem asH (m:Nat) (a0:Value) (a1:Value) (h:H) (k:Value→H→R):az EP KK (m + 1) 41 [a0,a1] h k=p41 EP (az EP KK m) a0 a1 h k:=by
 show (bN EP KK 41).run _ _ _ _=_
 rw [show bN EP KK 41=ax EP KK 41 from bB (by kernel_rfl),vO]
 exact adk tP _ a0 a1 h k
theorem asa (m:Nat) (a0:Value) (a1:Value) (a2:Value) (h:H) (k:Value→H→R):az EP KK (m + 1) 42 [a0,a1,a2] h k=p42 EP (az EP KK m) a0 a1 a2 h k:=by
 show (bN EP KK 42).run _ _ _ _=_
 rw [show bN EP KK 42=ax EP KK 42 from bB (by kernel_rfl),vO]
 exact abE tP _ a0 a1 a2 h k
theorem asI (m:Nat) (a0:Value) (a1:Value) (h:H) (k:Value→H→R):az EP KK (m + 1) 64 [a0,a1] h k=p64 EP (az EP KK m) a0 a1 h k:=by
 show (bN EP KK 64).run _ _ _ _=_
 rw [show bN EP KK 64=ax EP KK 64 from bB (by kernel_rfl),vO]
 exact adf tP _ a0 a1 h k
theorem arL (m:Nat) (h:H) (k:Value→H→R):az EP KK (m + 1) 65 [] h k=p65 EP (az EP KK m)  h k:=by
 show (bN EP KK 65).run _ _ _ _=_
 rw [show bN EP KK 65=ax EP KK 65 from bB (by kernel_rfl),vO]
 exact ajH tP _  h k
theorem aro (m:Nat) (a0:Value) (h:H) (k:Value→H→R):az EP KK (m + 1) 66 [a0] h k=p66 EP (az EP KK m) a0 h k:=by
 show (bN EP KK 66).run _ _ _ _=_
 rw [show bN EP KK 66=ax EP KK 66 from bB (by kernel_rfl),vO]
 exact Ug tP _ a0 h k
theorem asm (m:Nat) (a0:Value) (h:H) (k:Value→H→R):az EP KK (m + 1) 17 [a0] h k=p17 EP (az EP KK m) a0 h k:=by
 show (bN EP KK 17).run _ _ _ _=_
 rw [show bN EP KK 17=ax EP KK 17 from bB (by kernel_rfl),vO]
 exact Re tP _ a0 h k
theorem asj (m:Nat) (a0:Value) (h:H) (k:Value→H→R):az EP KK (m + 1) 18 [a0] h k=p18 EP (az EP KK m) a0 h k:=by
 show (bN EP KK 18).run _ _ _ _=_
 rw [show bN EP KK 18=ax EP KK 18 from bB (by kernel_rfl),vO]
 exact U9 tP _ a0 h k
theorem asw (m:Nat) (a0:Value) (a1:Value) (h:H) (k:Value→H→R):az EP KK (m + 1) 19 [a0,a1] h k=p19 EP (az EP KK m) a0 a1 h k:=by
 show (bN EP KK 19).run _ _ _ _=_
 rw [show bN EP KK 19=ax EP KK 19 from bB (by kernel_rfl),vO]
 exact Zq tP _ a0 a1 h k
theorem tc7 (m:Nat) (a0:Value) (h:H) (k:Value→H→R):az EP KK (m + 1) 7 [a0] h k=p7 EP (az EP KK m) a0 h k:=by
 show (bN EP KK 7).run _ _ _ _=_
 rw [show bN EP KK 7=ax EP KK 7 from bB (by kernel_rfl),vO]
 exact ap1 tP _ a0 h k
theorem tc4 (m:Nat) (a0:Value) (h:H) (k:Value→H→R):az EP KK (m + 1) 4 [a0] h k=pl4 EP (az EP KK m) a0 h k:=by
 show (bN EP KK 4).run _ _ _ _=_
 rw [show bN EP KK 4=ax EP KK 4 from bB (by kernel_rfl),vO]
 exact amM tP _ a0 h k
end Go.Ev
namespace Go.Ev
open Go F Go.Proofs
set_option maxRecDepth 100000
set_option exponentiation.threshold 3000
set_option linter.unusedVariables false
set_option linter.unusedSimpArgs false
theorem kE (h:H) (i:Nat):h.objs.get i=hget h i:=(bI h i).symm
structure HS (hS:H):Prop where
 n:16≤hS.next
 m:∃ m,cell0 hS 0=some (.int .i64 m)
 e:∃ t a,cell0 hS 4=some (.iface t a)
 g:iW glob 0 hS=true
theorem mL {hS h:H} (f:cD hS h) {g:Nat} (hg:g < hS.next):cell0 h g=cell0 hS g:=by
 unfold cell0
 rw [kE,kE,f.old g hg]
theorem mj {hS h:H} (f:cD hS h):∀ (gl:List AO) (i:Nat),i + gl.length≤hS.next→iW gl i hS=true→iW gl i h=true
 | [],_,_,_=>rfl
 | o :: l,i,hi,hs=>by
  unfold iW at hs ⊢
  rw [Bool.and_eq_true] at hs
  rw [kE,f.old i (by simp at hi; omega),← kE,hs.1,mj f l (i + 1) (by simp at hi; omega) hs.2]
  rfl
theorem vq:∀ (w:Bs) (n:Nat),n≤gb n w
 | [],n=>Nat.le_refl _
 | b :: w,n=>by
  unfold gb
  have:=vq w (10 * n + (b.toNat - 48))
  omega
theorem vD:∀ (w:Bs) (acc:Nat),w.all fE=true→acc < 18446744073709551616→Lib.parseUint10 acc w=if gb acc w < 18446744073709551616 then .ok (gb acc w) else .range
 | [],acc,_,ha=>by unfold Lib.parseUint10 gb; rw [if_pos ha]
 | c :: r,acc,hd,ha=>by
  rw [List.all_cons,Bool.and_eq_true] at hd
  have hc:48≤c.toNat∧c.toNat≤57:=by
   have:=hd.1
   unfold fE at this
   rw [Bool.and_eq_true] at this
   exact ⟨Nat.le_of_ble_eq_true this.1,Nat.le_of_ble_eq_true this.2⟩
  unfold Lib.parseUint10 gb
  rw [if_pos hc]
  have hge:=vq r (10 * acc + (c.toNat - 48))
  by_cases q1:1844674407370955162≤acc
  ·rw [if_pos q1,if_neg (by omega)]
  ·rw [if_neg q1]
   by_cases q2:18446744073709551616≤acc * 10 + (c.toNat - 48)
   ·rw [if_pos q2,if_neg (by omega)]
   ·rw [if_neg q2,vD r _ hd.2 (by omega),show acc * 10 + (c.toNat - 48)=10 * acc + (c.toNat - 48) by omega]
theorem oa {w:Bs} (hne:w ≠ []) (hd:w.all fE=true):Lib.atoiAll w=if gb 0 w≤9223372036854775807 then .ok (gb 0 w:Int) else .range:=by
 cases w with
 | nil=>exact absurd rfl hne
 | cons c r =>
  have hc:48≤c.toNat:=by
   rw [List.all_cons,Bool.and_eq_true] at hd
   have:=hd.1
   unfold fE at this
   rw [Bool.and_eq_true] at this
   exact Nat.le_of_ble_eq_true this.1
  have hp:Lib.parseMag (c :: r)=if gb 0 (c :: r) < 18446744073709551616 then .ok (gb 0 (c :: r)) else .range:=by
   unfold Lib.parseMag
   rw [if_neg (by simp)]
   exact vD _ 0 hd (by decide)
  have h43:¬ (c.toNat=43 ∨ c.toNat=45):=by omega
  have h45:¬ c.toNat=45:=by omega
  unfold Lib.atoiAll
  simp only [if_neg h43,hp]
  by_cases q:gb 0 (c :: r) < 18446744073709551616
  ·rw [if_pos q]
   simp only
   by_cases q2:gb 0 (c :: r)≤9223372036854775807
   ·rw [if_pos q2,if_neg (by omega),if_neg (by omega),if_neg h45]
   ·rw [if_neg q2,if_pos ⟨h45,by omega⟩]
  ·rw [if_neg q,if_neg (by omega)]
variable {hS : H} (hs : HS hS)
include hs
theorem r62 (m:Nat):ux (az EP KK (m + 1)) (cD hS):=by
 intro w h hl hne hd hq hn
 have hb:Nat.ble w.length 1000000=true:=be (by omega)
 by_cases q:gb 0 w≤9223372036854775807
 ·refine .inl ⟨q,λ k=>tc0 an8 m _ h k ?_⟩
  show (bif Nat.ble w.length 1000000 then _ else none)=_
  rw [hb,cond_true,oa hne hd,if_pos q]
  rfl
 ·refine .inr ⟨by omega,Lib.atoiSat w,223,.pointer (some ⟨h.next,0,none⟩),λ k=>?_⟩
  obtain ⟨t,a,hc⟩:=hs.e
  have hc':cell0 h 4=some (.iface t a):=(mL hq (by have:=hs.n; omega)).trans hc
  have hroom:room h=true:=be (by omega)
  refine tc0 an8 m _ h k (h':=ag h .dead) ?_
  show (bif Nat.ble w.length 1000000 then _ else none)=_
  rw [hb,cond_true,oa hne hd,if_neg q,cV]
  simp only [hc',hroom,cond_true]
theorem r37 (m:Nat):A9 (az EP KK (m + 2)) (cD hS):=by
 intro w h hl hq hn k X e
 obtain ⟨mi,hu⟩:=u62
 exact amo us (rc:=az EP KK (m + 1)) (r62 hs m) hu hl hq hn k X ((arw (m + 1) _ h k).symm.trans e)
omit hs in
theorem r65 (m:Nat) (h:H) (k:Value→H→R) (hn:h.next≤900000000):az EP KK (m + 1) 65 [] h k=k (.slice (some ⟨h.next,0,none⟩) 5 10) (ag h (.row 9 5 false false 0 (T.ofList unk (ch.map aF)))):=by
 rw [arL]
 unfold p65
 rw [au (show h.1≤1000000000 by show h.next≤_; omega),aJ]
 rfl
omit hs in
theorem afw {w:Bs} {h:H} {tb:Nat} (hq:hget h tb=.row 9 5 false false 0 (T.ofList unk (ch.map aF))) (k:Value→H→R) (k':aa [4]→H→R) :
  ∀ (d i N:Nat) (x:Value),i + d=5→d < N →
   loopF (ks:=[4,8]) (rW EP (.int .i64 (.ofNat 5)) (.slice (some ⟨tb,0,none⟩) 5 10) (aF w) k k') N (x,(.int .i64 (.ofNat i),())) h=if jq w (ch.drop i) < d then k (.int .i64 (.ofNat (i + jq w (ch.drop i)))) h else k' (x,()) h:=by
 have u3:=us.u3
 intro d
 induction d with
 | zero =>
  intro i N x hi hN
  obtain ⟨N,rfl⟩:∃ M,N=M + 1:=⟨N - 1,by omega⟩
  rw [ce]
  unfold rW
  dsimp only
  rw [iu u3 (show 5≤i by omega),ai,if_neg (Nat.not_lt_zero _)]
  rfl
 | succ d ih =>
  intro i N x hi hN
  obtain ⟨N,rfl⟩:∃ M,N=M + 1:=⟨N - 1,by omega⟩
  have hlt:i < 5:=by omega
  have hlt':i < ch.length:=hlt
  have key:=ih (i + 1) N x (by omega) (by omega)
  have hqr:∀ KK,onRow (hget h tb) KK=KK 9 5 false false 0 (T.ofList unk (ch.map aF)):=λ KK=>by rw [hq]; rfl
  have hcell:getF (T.ofList unk (ch.map aF)) i=aF (ch[i]'hlt'):=by
   rw [aL,List.getD_eq_getElem?_getD,List.getElem?_map,List.getElem?_eq_getElem hlt']; rfl
  rw [ce]
  generalize loopF (ks:=[4,8]) (rW EP (.int .i64 (.ofNat 5)) (.slice (some ⟨tb,0,none⟩) 5 10) (aF w) k k') N=L at key ⊢
  unfold rW
  dsimp only
  rw [km u3 hlt,ai,aK]
  dsimp only
  rw [ai,cn,bZ,au (show i + 1≤5 by omega),co,aG]
  dsimp only
  rw [hqr,au (show 0 + i.mul 1 + 1≤5 by show 0 + i * 1 + 1≤5; omega),show 0 + i.mul 1=i by show 0 + i * 1=i; omega,hcell]
  unfold aF
  rw [Aj us,ai,List.drop_eq_getElem_cons hlt']
  unfold jq
  by_cases q:ch[i]=w
  ·rw [show (w == ch[i])=true by rw [q]; exact beq_self_eq_true _,if_pos q,if_pos (by omega)]
   rfl
  ·rw [show (w == ch[i])=false from beq_eq_false_iff_ne.2 (Ne.symm q),if_neg q,aM]
   dsimp only
   rw [dl u3 (by omega),key]
   by_cases q2:jq w (ch.drop (i + 1)) < d
   ·rw [if_pos q2,if_pos (by omega),show i + 1 + jq w (ch.drop (i + 1))=i + (jq w (ch.drop (i + 1)) + 1) by omega]
   ·rw [if_neg q2,if_neg (by omega)]
omit hs in
theorem r64 (m:Nat) (h:H) (tb:Nat) (w:Bs) (k:Value→H→R) (hq:hget h tb=.row 9 5 false false 0 (T.ofList unk (ch.map aF))) :
  az EP KK (m + 1) 64 [.slice (some ⟨tb,0,none⟩) 5 10,aF w] h k=k (if jq w ch < 5 then .int .i64 (.ofNat (jq w ch)) else .int .i64 (.negSucc 0)) h:=by
 rw [asI]
 unfold p64
 rw [cJ,bZ]
 dsimp only
 rw [ai,afw hq k _ 5 0 ft _ rfl (by unfold ft; omega),List.drop_zero,Nat.zero_add]
 split <;> rfl
theorem akC (m:Nat):iE (az EP KK (m + 2)) (cD hS) where
 num:=r37 hs m
 kinds:=λ h k hn=>r65 (m + 1) h k hn
 index:=λ h tb w k hq=>r64 (m + 1) h tb w k hq
 plain:=λ w h k=>(aro (m + 1) _ h k).trans (adP us k)
theorem r42 (m:Nat):o0 (az EP KK (m + 3)) (cD hS):=λ B b h x w c k X cr hq hn hw h1 h2 e =>
 ak3 us t30 (rc:=az EP KK (m + 2)) (akC hs m) cr hq hn hw h1 h2 c ((asa (m + 2) _ _ _ h k).symm.trans e)
omit hs in
theorem r39 (m:Nat):zV (az EP KK (m + 1)):=λ h k hn=>by
 rw [ar5,Dp,au (show h.1≤1000000000 by show h.next≤_; omega),aJ]
omit hs in
theorem r38 (m:Nat):Pp (az EP KK (m + 2)):=λ h pb tb w0 l k X lv ht hlt hn e =>
 amc us (rc:=az EP KK (m + 1)) (h:=h) (λ a b g hf hg k X e=>ao1 us (rc:=az EP KK m) (lv.from hf) hg a b k X ((arK m _ _ g k).symm.trans e)) ht hlt hn k X ((arM (m + 1) _ _ h k).symm.trans e)
omit hs in
theorem r63 (m:Nat):OY (az EP KK (m + 1)):=λ s p h hl k=>tc0 arF m _ h k (by
 show (bif Nat.ble s.length 4000000000 then _ else none)=_
 rw [be (by omega)]; rfl)
omit hs in
theorem r41 (m:Nat):PQ (az EP KK (m + 2)):=λ h a r n k X hn hr e=>aow us (rc:=az EP KK (m + 1)) (r63 m) hn hr n k X ((asH (m + 1) _ _ h k).symm.trans e)
theorem r19 (m:Nat):BE (az EP KK (m + 4)) (cD hS):=λ line v w0 l h k X hq hn o cl hsm hl e =>
 apw tn (rc:=az EP KK (m + 3)) (r39 (m + 2)) (r38 (m + 1)) (r41 (m + 1)) (r42 hs m) hq hn o (.inl cl) hsm hl line k X ((asw (m + 3) _ _ h k).symm.trans e)
omit hs in
theorem r35 (m:Nat):qm (az EP KK (m + 1)):=λ s h hl hn k=>tc0 ar1 m _ h k (by
 have hr:room h=true:=be (by omega)
 show (bif Nat.ble s.length 4000000000 && room h then _ else none)=_
 rw [be (by omega),hr,cV]; rfl)
omit hs in
theorem r17 (m:Nat):pQ (az EP KK (m + 2)):=λ s h k X hl hn e=>alh us (rc:=az EP KK (m + 1)) (r35 m) tn.u30 hl hn k X ((asm (m + 1) _ h k).symm.trans e)
theorem r18 (m:Nat):oM (az EP KK (m + 3)) (cD hS):=λ v l h k X o hsm hq hn e =>
 ak6 us (rc:=az EP KK (m + 2)) (λ h h' n q f=>q.trans f.from) (r37 hs m) tn.u24 tn.u30 o hsm hq hn k X ((asj (m + 2) _ h k).symm.trans e)
theorem r16 (m:Nat):wA (az EP KK (m + 1)) (cD hS):=λ s h hl hq hn k=>tc0 asr m _ h k (by
 have hr:room h=true:=be (by omega)
 obtain ⟨mm,hm⟩:=hs.m
 have hc:cell0 h 0=some (.int .i64 mm):=(mL hq (by have:=hs.n; omega)).trans hm
 show (match cell0 h 0 with
  | some (.int .i64 m)=>bif Nat.ble s.length 4000000000 && room h then some (Value.slice (some ⟨h.next,0,none⟩) (aR s).length (2 * (aR s).length),h.push (.row 9 (aR s).length false false 0 (T.ofList unk ((aR s).map aF)))) else none
  | _=>none)=_
 rw [hc,be (by omega),hr,cV]; rfl)
theorem oA (m:Nat) {s:Bs} (hl:s.length≤70000) (hls:j6 (aR s)) {h:H} (hq:cD hS h) (hn:h.next≤600000000) (k:Value→H→R) (X:R) (e:az EP KK (m + 5) 7 [aF s] h k=X) :
  rz 32 h.next h (80 * (s.length + 2)) k X (eB s) :=
 asb tn (rc:=az EP KK (m + 4)) t23 (by kernel_rfl) (r16 hs (m + 3)) (r17 (m + 2)) (r18 hs (m + 1)) (r19 hs m) hl hls hq hn k X ((tc7 (m + 4) _ h k).symm.trans e)
end Go.Ev
namespace Go.Ev
open Go F Go.Proofs
set_option maxRecDepth 100000
set_option exponentiation.threshold 3000
set_option linter.unusedVariables false
set_option linter.unusedSimpArgs false
theorem u4:EP.und 4=some .bool:=by kernel_rfl
theorem qD {cx cy:Bool} {a b:Bool} {k:Value→R}:binR (binC EP .neq 4 cx cy) (.bool a) (.bool b) k=k (.bool (!(a == b))):=by
 have hb:iz EP .neq 4 cx cy (.bool a) (.bool b)=some (.bool (!(a == b))):=by simp only [iz,yv,u4]
 unfold binR binC; rw [u4]
 show bindO (iz EP .neq 4 cx cy (.bool a) (.bool b)) k=_
 rw [hb]; rfl
theorem rH (l:Bs):∀ n,(Lib.repeatL l n).length=n * l.length
 | 0=>by simp [Lib.repeatL]
 | n + 1=>by simp [Lib.repeatL,rH l n,Nat.succ_mul,Nat.add_comm]
theorem OX:∀ n,∀ b ∈ Lib.repeatL [120] n,b=120
 | 0,b,h=>nomatch h
 | n + 1,b,h=>by
  rcases List.mem_append.1 h with h | h
  ·exact List.mem_singleton.1 h
  ·exact OX n b h
theorem qC:∀ n,Lib.repeatL [108,111,103,10] n=ge n
 | 0=>rfl
 | n + 1=>by
  show [108,111,103,10] ++ Lib.repeatL [108,111,103,10] n=_
  rw [qC n]; rfl
theorem JQ {x:Bs} (hx:∀ b ∈ x,b=120) (hl:x.length≤66000):j6 (aR (cU ++ 10 :: 35 :: x)):=by
 rw [eY _ _ (by decide),iO (35 :: x) λ b hb=>by
  rcases List.mem_cons.1 hb with rfl | hb
  ·decide
  ·rw [hx b hb]; decide]
 intro s hs
 rcases List.mem_cons.1 hs with rfl | hs
 ·exact ⟨by decide,by decide⟩
 ·rw [List.mem_singleton.1 hs]
  refine ⟨by simp; omega,?_⟩
  unfold bd
  rw [cK,if_neg (by decide),iL x _ (by simp) λ b hb=>by rw [hx b hb]; decide]
  simp
theorem Mi (n:Nat):j6 (aR (cU ++ 10 :: ge n)):=by
 rw [eY _ _ (by decide),gU]
 intro s hs
 rcases List.mem_cons.1 hs with rfl | hs
 ·exact ⟨by decide,by decide⟩
 ·rcases List.mem_append.1 hs with hs | hs
  ·rw [List.eq_of_mem_replicate hs]; exact ⟨by decide,by decide⟩
  ·rw [List.mem_singleton.1 hs]; exact ⟨by decide,by decide⟩
theorem uA {more:Nat} (hm:more≤255) (h:H) (c:Value→R):AK (.int .u8 (.ofNat more)) EP h c=c (.int .i64 (.ofNat more)):=by
 unfold AK
 rw [cn,be (show more≤9223372036854775807 by omega)]
variable {hS : H} (hs : HS hS)
include hs
omit hs in
theorem r11 (m:Nat) {s:Bs} {n:Nat} (hn:n≤1000000) (hl:s.length≤1000000) (h:H) (k:Value→H→R):az EP KK (m + 1) 11 [.string ⟨⟨s⟩⟩,.int .i64 (.ofNat n)] h k=k (.string ⟨⟨Lib.repeatL s n⟩⟩) h:=tc0 asE m _ h k (by
 show (bif Nat.ble n 1000000 && Nat.ble s.length 1000000 then _ else none)=_
 rw [be hn,be hl]; rfl)
theorem r6 (m:Nat) {h:H} (hq:cD hS h) (k:Value→H→R):az EP KK (m + 1) 6 [] h k=k (.bool true) h:=tc0 fc6 m _ h k (by
 unfold aV
 rw [mj hq glob 0 (by have:=hs.n; show 0 + 8≤_; omega) hs.g]; rfl)
omit hs in
theorem yP (m:Nat) {more:Nat} (hm:more≤255) {h1:H} {v:Value} {r:PR} (hr:r=eB (cU ++ 10 :: ge (900 + more))) (hc:CL 32 h1 v r.2.2.1) (d:aa [2]) (k:Value→H→R) :
  CO EP (.int .u8 (.ofNat more)) (.int .i64 (.ofNat r.2.2.2.2)) k v (.int .i64 (.ofNat r.2.2.2.1)) d h1=k (.bool true) h1:=by
 have u3:=us.u3
 have u5:=us.u5
 have u24:=tn.u24
 have u23:EP.und 23=some (.slice 32):=by kernel_rfl
 unfold CO
 rw [ae8 u5]
 by_cases q:more≤100
 ·obtain ⟨l,e1,e2⟩:=tL (n:=900 + more) (by omega)
  rw [e1] at hr
  subst hr
  have hlen:∀ (K:Value→R) (hx:H),onSl v (bindO (bv EP hx 23 v) K) (λ _ n _=>K (.int .i64 (.ofNat n)))=K (.int .i64 (.ofNat (900 + more))):=λ K hx=>by
   rw [tJ u23 (h':=hx) hc]
   show K (.int .i64 (.ofNat l.length))=_
   rw [e2]
  rw [be q]
  have hadd:∀ K:Value→R,binR (binC EP .add 3 true false) (.int .i64 (.ofNat 900)) (.int .i64 (.ofNat more)) K=K (.int .i64 (.ofNat (900 + more))):=λ K=>dl u3 (by omega)
  simp only [↓ai,↓aK,↓fJ u24,Nat.beq_refl,↓bz,↓eC,Kh,CZ,↓cJ,↓hlen,↓uA hm,↓hadd,↓fJ u3]
 ·have e1:=uL (n:=900 + more) (by omega) (by omega)
  rw [e1] at hr
  subst hr
  have hlen:∀ (K:Value→R) (hx:H),onSl v (bindO (bv EP hx 23 v) K) (λ _ n _=>K (.int .i64 (.ofNat n)))=K (.int .i64 (.ofNat 0)):=λ K hx=>tJ u23 (h':=hx) hc K
  rw [gG (show 100 < more by omega)]
  simp only [↓ai,↓aM,↓aK,↓fJ u24,Nat.beq_refl,↓bz,↓eC,Kh,CZ,↓cJ,↓hlen,↓fJ u3]
theorem arZ (m:Nat) {more:Nat} (hm:more≤255) {h:H} (hq:cD hS h) (hn:h.next≤100000000) (k:Value→H→R):∃ h',az EP KK (m + 6) 4 [.int .u8 (.ofNat more)] h k=k (.bool true) h':=by
 have u3:=us.u3
 have u5:=us.u5
 have u24:=tn.u24
 rw [tc4]
 generalize hX:pl4 EP (az EP KK (m + 5)) (.int .u8 (.ofNat more)) h k=X
 unfold pl4 at hX
 rw [r6 hs (m + 4) hq,aK,ai] at hX
 unfold afx at hX
 dsimp only at hX
 rw [cJ,uA hm,dl u3 (by omega),r11 (m + 4) (by omega) (by decide)] at hX
 have hx1:=OX (65525 + more)
 have hx2:(Lib.repeatL [120] (65525 + more)).length=65525 + more:=by rw [rH]; simp
 generalize Lib.repeatL [120] (65525 + more)=x at hX hx1 hx2
 rw [am8 us (by simp; omega)] at hX
 have ht1:([97,114,101,110,97,32,49,32,49,10,35]:Bs) ++ x=cU ++ 10 :: 35 :: x:=rfl
 rw [ht1] at hX
 obtain ⟨h1,v1,f1,e1,c1,_⟩:=oA hs m (by simp [cU]; omega) (JQ hx1 (by omega)) hq (by omega) _ _ hX
 have hp1:eB (cU ++ 10 :: 35 :: x)=if more=0 then (1,1,[],0,0) else (0,0,[],0,16):=by
  by_cases q:more=0
  ·rw [if_pos q]; exact sX hx1 (by omega)
  ·rw [if_neg q]; exact sN (by simp [cU]; omega)
 have hub1:=f1.ub
 have hlen1:(cU ++ 10 :: 35 :: x).length=65536 + more:=by simp [cU]; omega
 rw [hlen1] at hub1
 have hq1:cD hS h1:=hq.trans f1.from
 replace e1:=e1.symm
 obtain ⟨er,her,hline⟩:∃ er,er=(if more=0 then 0 else 16)∧(eB (cU ++ 10 :: 35 :: x)).2.2.2.1=0∧(eB (cU ++ 10 :: 35 :: x)).2.2.2.2=er:=by
  rw [hp1]
  by_cases q:more=0
  ·rw [if_pos q,if_pos q]; exact ⟨_,rfl,rfl,rfl⟩
  ·rw [if_neg q,if_neg q]; exact ⟨_,rfl,rfl,rfl⟩
 rw [hline.1,hline.2] at e1
 simp only [↓bJ,↓bK,↓ly,↓cd,↓cJ,↓uA hm] at e1
 rw [dl u3 (by omega),r11 (m + 4) (by omega) (by decide),qC,am8 us (by rw [iN]; simp; omega)] at e1
 have ht2:([97,114,101,110,97,32,49,32,49,10]:Bs) ++ ge (900 + more)=cU ++ 10 :: ge (900 + more):=rfl
 rw [ht2] at e1
 have hl2:(cU ++ 10 :: ge (900 + more)).length≤10000:=by rw [List.length_append,List.length_cons,iN]; simp [cU]; omega
 obtain ⟨h2,v2,f2,e2,c2,_⟩:=oA hs m (by omega) (Mi _) hq1 (by omega) _ _ e1
 replace e2:=e2.symm
 have hend:=λ d=>yP m hm rfl c2 d k
 generalize eB (cU ++ 10 :: ge (900 + more))=r at e2 hend
 clear hX e1 c1
 simp only [↓bJ,↓bK,↓ly,↓cd,↓dK u3,Nat.beq_refl,Bool.not_true] at e2
 by_cases q:more=0
 ·subst q
  obtain rfl:er=0:=her.trans (if_pos rfl)
  simp only [↓bz,↓ai,↓dO,↓eC,↓aM,↓aK,↓fJ u24,show Nat.beq 0 16=false from rfl,↓uk u5,show Nat.ble (0 + 1) 0=false from rfl,↓qD,beq_self_eq_true,↓dK u24,Nat.beq_refl,Bool.not_true,Bool.not_false,KZ,Mc,↓hend] at e2
  exact ⟨h2,e2.symm⟩
 ·obtain rfl:er=16:=her.trans (if_neg q)
  have hgt:Nat.ble (0 + 1) more=true:=be (by omega)
  simp only [↓bz,↓ai,↓dO,↓eC,↓aM,↓aK,↓fJ u24,show Nat.beq 16 0=false from rfl,↓uk u5,hgt,↓qD,beq_self_eq_true,↓dK u24,Nat.beq_refl,Bool.not_true,Bool.not_false,KZ,Mc,↓hend] at e2
  exact ⟨h2,e2.symm⟩
end Go.Ev
