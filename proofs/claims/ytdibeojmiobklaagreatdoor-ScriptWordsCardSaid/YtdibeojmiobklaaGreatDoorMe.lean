/-
  Hot functions of a program as plain Lean, in one piece each; printed by a program.
-/
import Derived.Test.YtdibeojmiobklaaGreatDoorKa
import Derived.KernelRfl
import Derived.Test.YtdibeojmiobklaaGreatDoorMa
import Derived.Test.YtdibeojmiobklaaGreatDoorMb
import Derived.Test.YtdibeojmiobklaaGreatDoorMc
import Derived.Test.YtdibeojmiobklaaGreatDoorMd
import Derived.Test.YtdibeojmiobklaaGreatDoorEe
set_option linter.unusedVariables false
set_option linter.unusedSimpArgs false
namespace Go.Ev
open Go F Go.Proofs
set_option maxRecDepth 100000
set_option linter.unusedVariables false
noncomputable def q333 (E:Env)(rc:RC)(a0 a1:Value)(h:H)(k:Value→H→R):R:=onCells a0 λ a=>ifB (allF (λ b=>cell1F b) a) (ifB (Nat.ble h.1 1000000000) (letH (hpush h (.row 264 (lenF a) false false 0 (T.ofList unk a))) λ b=>binR (binC E .geq 3 (isC (.tmp 5)) (isC (.const (.int .i64 0)))) a1 (.int .i64 (.ofNat 0)) λ c=>joinV (λ d e=>joinV (λ f g=>joinV (λ i j=>joinV (λ l m=>joinV (λ n o=>onB c (k (.bool false) o) (k n o)) λ n=>onG c (n undef m) (binR (binC E .lss 3 (isC (.tmp 8)) (isC (.tmp 11))) d l λ o=>n o m) (n undef m)) λ l=>onG c (l undef j) (onSl i (bindO (lenV E j 50 i) λ m=>l m j) λ _ m _=>l (.int .i64 (.ofNat m)) j) (l undef j)) λ i=>onG c (i undef g) (onPtr f λ j=>onRow (hget g j.1) λ _ l _ _ _ m=>ifB (Nat.ble (Nat.succ j.2) l) (i (getF m j.2) g)) (i undef g)) λ f=>onG c (f undef e) (f (.pointer (some (Addr.mk h.1 0 none))) e) (f undef e)) λ d=>onG c (d undef b) (d a1 b) (d undef b)))
theorem q333_eq (t:ExtT)(rc:RC)(a0 a1:Value)(h:H)(k:Value→H→R):(funB (EX t) KK 355).run rc [a0,a1] h k = q333 (EX t) rc a0 a1 h k:=by kernel_rfl
noncomputable def q332 (E:Env)(rc:RC)(a0 a1:Value)(h:H)(k:Value→H→R):R:=onCells a0 λ a=>ifB (allF (λ b=>cell1F b) a) (ifB (Nat.ble h.1 1000000000) (letH (hpush h (.row 264 (lenF a) false false 0 (T.ofList unk a))) λ b=>onRow (hget b h.1) λ _ c _ _ _ d=>ifB (Nat.ble (Nat.succ 0) c) (bindO (sliceV E 50 (getF d 0) none (some a1) none) λ e=>onSl e (bindO (lenV E b 50 e) λ f=>@joinR [5] (λ g i=>k g.1 i) λ g=>@loopF [5,13] (λ i j l=>binR (binC E .lss 3 (isC (.tmp 13)) (isC (.tmp 12))) j.2.1 f λ m=>@joinR [] (λ _ n=>@joinR [5] (λ o p=>binR (binC E .add 3 (isC (.tmp 13)) (isC (.const (.int .i64 1)))) j.2.1 (.int .i64 (.ofNat 1)) λ q=>i (o.1,(q,())) p) λ o=>onNat j.2.1 none λ p=>onSl e none λ q r _=>ifB (Nat.ble (Nat.succ p) r) (addOffF q (Nat.mul p 1) λ s=>onPtr s λ t=>onRow (hget n t.1) λ _ u _ _ _ v=>ifB (Nat.ble (Nat.succ t.2) u) (binR (binC E .add 3 (isC (.tmp 17)) (isC (.tmp 18))) j.1 (getF v t.2) λ w=>o (w,()) n))) λ n=>onB m (g (j.1,()) l) (n () l)) 1000000 (.int .i64 (.ofNat 0),(.int .i64 (.ofNat 0),())) b) λ _ f _=>@joinR [5] (λ g i=>k g.1 i) λ g=>@loopF [5,13] (λ i j l=>binR (binC E .lss 3 (isC (.tmp 13)) (isC (.tmp 12))) j.2.1 (.int .i64 (.ofNat f)) λ m=>@joinR [] (λ _ n=>@joinR [5] (λ o p=>binR (binC E .add 3 (isC (.tmp 13)) (isC (.const (.int .i64 1)))) j.2.1 (.int .i64 (.ofNat 1)) λ q=>i (o.1,(q,())) p) λ o=>onNat j.2.1 none λ p=>onSl e none λ q r _=>ifB (Nat.ble (Nat.succ p) r) (addOffF q (Nat.mul p 1) λ s=>onPtr s λ t=>onRow (hget n t.1) λ _ u _ _ _ v=>ifB (Nat.ble (Nat.succ t.2) u) (binR (binC E .add 3 (isC (.tmp 17)) (isC (.tmp 18))) j.1 (getF v t.2) λ w=>o (w,()) n))) λ n=>onB m (g (j.1,()) l) (n () l)) 1000000 (.int .i64 (.ofNat 0),(.int .i64 (.ofNat 0),())) b)))
theorem q332_eq (t:ExtT)(rc:RC)(a0 a1:Value)(h:H)(k:Value→H→R):(funB (EX t) KK 354).run rc [a0,a1] h k = q332 (EX t) rc a0 a1 h k:=by kernel_rfl
noncomputable def q334 (E:Env)(rc:RC)(a0 a1:Value)(h:H)(k:Value→H→R):R:=onCells a0 λ a=>ifB (allF (λ b=>cell1F b) a) (ifB (Nat.ble h.1 1000000000) (letH (hpush h (.row 264 (lenF a) false false 0 (T.ofList unk a))) λ b=>onRow (hget b h.1) λ _ c _ _ _ d=>ifB (Nat.ble (Nat.add 0 1) c) (rc 355 [.agg ⟨cellsF d 1 0⟩,a1] b λ e f=>onB e (@joinR [4] (λ _ g=>onRow (hget g h.1) λ _ i _ _ _ j=>ifB (Nat.ble (Nat.add 0 1) i) (rc 354 [.agg ⟨cellsF j 1 0⟩,a1] g λ l m=>k l m)) λ _=>k (.int .i64 (.ofNat 0)) f) (@joinR [4] (λ _ g=>onRow (hget g h.1) λ _ i _ _ _ j=>ifB (Nat.ble (Nat.add 0 1) i) (rc 354 [.agg ⟨cellsF j 1 0⟩,a1] g λ l m=>k l m)) λ g=>g (.int .i64 (.ofNat 0),()) f))))
theorem q334_eq (t:ExtT)(rc:RC)(a0 a1:Value)(h:H)(k:Value→H→R):(funB (EX t) KK 356).run rc [a0,a1] h k = q334 (EX t) rc a0 a1 h k:=by kernel_rfl
noncomputable def q285 (E:Env)(rc:RC)(a0 a1 a2:Value)(h:H)(k:Value→H→R):R:=onCells a0 λ a=>ifB (allF (λ b=>cell1F b) a) (ifB (Nat.ble h.1 1000000000) (letH (hpush h (.row 264 (lenF a) false false 0 (T.ofList unk a))) λ b=>onCells a1 λ c=>ifB (allF (λ d=>cell1F d) c) (ifB (Nat.ble b.1 1000000000) (letH (hpush b (.row 78 (lenF c) false false 0 (T.ofList unk c))) λ d=>onRow (hget d h.1) λ _ e _ _ _ f=>ifB (Nat.ble (Nat.add 0 1) e) (rc 355 [.agg ⟨cellsF f 1 0⟩,a2] d λ g i=>onB g (@joinR [6,7] (λ _ j=>ifB (Nat.ble j.1 1000000000) (letH (H.mk (Nat.add j.1 0) j.2) λ l=>onRow (hget l b.1) λ _ m _ _ _ n=>ifB (Nat.ble (Nat.add 0 3) m) (onRow (hget l h.1) λ _ o _ _ _ p=>ifB (Nat.ble (Nat.add 0 1) o) (onRow (hget l h.1) λ _ q _ _ _ r=>ifB (Nat.ble (Nat.succ 0) q) (onNat a2 none λ s=>onSl (getF r 0) none λ t u _=>ifB (Nat.ble (Nat.succ s) u) (addOffF t (Nat.mul s 1) λ v=>onPtr v λ w=>onRow (hget l w.1) λ _ x _ _ _ y=>ifB (Nat.ble (Nat.succ w.2) x) (rc 356 [.agg ⟨cellsF p 1 0⟩,a2] l λ z a3=>onRow (hget a3 b.1) λ _ a4 _ _ _ a5=>ifB (Nat.ble (Nat.add 0 3) a4) (ifB (sameW (.agg ⟨cellsF a5 3 0⟩) (.agg ⟨cellsF n 3 0⟩)) (ifB (sameW (.pointer (some (Addr.mk h.1 0 none))) (.pointer (some (Addr.mk h.1 0 none)))) (onRow (hget a3 h.1) λ _ a6 _ _ _ a7=>ifB (Nat.ble (Nat.succ 0) a6) (ifB (sameW (getF a7 0) (getF r 0)) (ifB (sameW a2 a2) (onNat a2 none λ a8=>onSl (getF r 0) none λ a9 b0 _=>ifB (Nat.ble (Nat.succ a8) b0) (addOffF a9 (Nat.mul a8 1) λ b1=>ifB (sameW b1 v) (onPtr v λ b2=>onRow (hget a3 b2.1) λ _ b3 _ _ _ b4=>ifB (Nat.ble (Nat.succ b2.2) b3) (ifB (sameW (getF b4 b2.2) (getF y w.2)) (rc 52 [.agg ⟨cellsF n 3 0⟩,z,getF y w.2] a3 λ b5 b6=>onTup b5 λ b7=>nthF 0 b7 λ b8=>onTup b5 λ b9=>nthF 1 b9 λ c0=>ifB (List.all [b8,c0] λ c1=>Bool.not (isTuple c1)) (k (.tuple ⟨[b8,c0]⟩) b6)))))))))))))))))) λ _=>k (.tuple ⟨[.int .u64 (.ofNat 0),.int .i64 (.ofNat 2)]⟩) i) (@joinR [6,7] (λ _ j=>ifB (Nat.ble j.1 1000000000) (letH (H.mk (Nat.add j.1 0) j.2) λ l=>onRow (hget l b.1) λ _ m _ _ _ n=>ifB (Nat.ble (Nat.add 0 3) m) (onRow (hget l h.1) λ _ o _ _ _ p=>ifB (Nat.ble (Nat.add 0 1) o) (onRow (hget l h.1) λ _ q _ _ _ r=>ifB (Nat.ble (Nat.succ 0) q) (onNat a2 none λ s=>onSl (getF r 0) none λ t u _=>ifB (Nat.ble (Nat.succ s) u) (addOffF t (Nat.mul s 1) λ v=>onPtr v λ w=>onRow (hget l w.1) λ _ x _ _ _ y=>ifB (Nat.ble (Nat.succ w.2) x) (rc 356 [.agg ⟨cellsF p 1 0⟩,a2] l λ z a3=>onRow (hget a3 b.1) λ _ a4 _ _ _ a5=>ifB (Nat.ble (Nat.add 0 3) a4) (ifB (sameW (.agg ⟨cellsF a5 3 0⟩) (.agg ⟨cellsF n 3 0⟩)) (ifB (sameW (.pointer (some (Addr.mk h.1 0 none))) (.pointer (some (Addr.mk h.1 0 none)))) (onRow (hget a3 h.1) λ _ a6 _ _ _ a7=>ifB (Nat.ble (Nat.succ 0) a6) (ifB (sameW (getF a7 0) (getF r 0)) (ifB (sameW a2 a2) (onNat a2 none λ a8=>onSl (getF r 0) none λ a9 b0 _=>ifB (Nat.ble (Nat.succ a8) b0) (addOffF a9 (Nat.mul a8 1) λ b1=>ifB (sameW b1 v) (onPtr v λ b2=>onRow (hget a3 b2.1) λ _ b3 _ _ _ b4=>ifB (Nat.ble (Nat.succ b2.2) b3) (ifB (sameW (getF b4 b2.2) (getF y w.2)) (rc 52 [.agg ⟨cellsF n 3 0⟩,z,getF y w.2] a3 λ b5 b6=>onTup b5 λ b7=>nthF 0 b7 λ b8=>onTup b5 λ b9=>nthF 1 b9 λ c0=>ifB (List.all [b8,c0] λ c1=>Bool.not (isTuple c1)) (k (.tuple ⟨[b8,c0]⟩) b6)))))))))))))))))) λ j=>j (.int .u64 (.ofNat 0),(.int .i64 (.ofNat 0),())) i))))))
theorem q285_eq (t:ExtT)(rc:RC)(a0 a1 a2:Value)(h:H)(k:Value→H→R):(funB (EX t) KK 289).run rc [a0,a1,a2] h k = q285 (EX t) rc a0 a1 a2 h k:=by kernel_rfl
noncomputable def q192 (E:Env)(rc:RC)(a0 a1:Value)(h:H)(k:Value→H→R):R:=onCells a0 λ a=>ifB (allF (λ b=>cell1F b) a) (ifB (Nat.ble h.1 1000000000) (letH (hpush h (.row 91 (lenF a) false false 0 (T.ofList unk a))) λ b=>onRow (hget b h.1) λ _ c _ _ _ d=>ifB (Nat.ble (Nat.add 0 3) c) (binR (binC E .mul 3 (isC (.tmp 13)) (isC (.const (.int .i64 16)))) a1 (.int .i64 (.ofNat 16)) λ e=>rc 52 [.agg ⟨cellsF d 3 0⟩,e,.int .i64 (.ofNat 8)] b λ f g=>onTup f λ i=>nthF 0 i λ j=>onTup f λ l=>nthF 1 l λ _=>onRow (hget g h.1) λ _ m _ _ _ n=>ifB (Nat.ble (Nat.add 0 3) m) (binR (binC E .mul 3 (isC (.tmp 21)) (isC (.const (.int .i64 16)))) a1 (.int .i64 (.ofNat 16)) λ o=>binR (binC E .add 3 (isC (.tmp 22)) (isC (.const (.int .i64 8)))) o (.int .i64 (.ofNat 8)) λ p=>rc 52 [.agg ⟨cellsF n 3 0⟩,p,.int .i64 (.ofNat 8)] g λ q r=>onTup q λ s=>nthF 0 s λ t=>onTup q λ u=>nthF 1 u λ _=>onNat j (bindO (convV E r 25 3 j) λ v=>ifB (List.all [v,t] λ w=>Bool.not (isTuple w)) (k (.tuple ⟨[v,t]⟩) r)) λ v=>@Bool.rec (λ _=>R) (bindO (convV E r 25 3 j) λ w=>ifB (List.all [w,t] λ x=>Bool.not (isTuple x)) (k (.tuple ⟨[w,t]⟩) r)) (ifB (List.all [.int .i64 (.ofNat v),t] λ w=>Bool.not (isTuple w)) (k (.tuple ⟨[.int .i64 (.ofNat v),t]⟩) r)) (Nat.ble v 9223372036854775807)))))
theorem q192_eq (t:ExtT)(rc:RC)(a0 a1:Value)(h:H)(k:Value→H→R):(funB (EX t) KK 185).run rc [a0,a1] h k = q192 (EX t) rc a0 a1 h k:=by kernel_rfl
noncomputable def q209 (E:Env)(rc:RC)(a0:Value)(h:H)(k:Value→H→R):R:=onCells a0 λ a=>ifB (allF (λ b=>cell1F b) a) (ifB (Nat.ble h.1 1000000000) (letH (hpush h (.row 78 (lenF a) false false 0 (T.ofList unk a))) λ b=>onRow (hget b h.1) λ _ c _ _ _ d=>ifB (Nat.ble (Nat.succ (Nat.add 0 2)) c) (k (getF d (Nat.add 0 2)) b)))
theorem q209_eq (t:ExtT)(rc:RC)(a0:Value)(h:H)(k:Value→H→R):(funB (EX t) KK 180).run rc [a0] h k = q209 (EX t) rc a0 h k:=by kernel_rfl
noncomputable def q284 (E:Env)(rc:RC)(a0:Value)(h:H)(k:Value→H→R):R:=onCells a0 λ a=>ifB (allF (λ b=>cell1F b) a) (ifB (Nat.ble h.1 1000000000) (letH (hpush h (.row 264 (lenF a) false false 0 (T.ofList unk a))) λ b=>onRow (hget b h.1) λ _ c _ _ _ d=>ifB (Nat.ble (Nat.add 0 1) c) (onRow (hget b h.1) λ _ e _ _ _ f=>ifB (Nat.ble (Nat.succ 0) e) (onSl (getF f 0) (bindO (lenV E b 50 (getF f 0)) λ g=>rc 354 [.agg ⟨cellsF d 1 0⟩,g] b λ i j=>k i j) λ _ g _=>rc 354 [.agg ⟨cellsF d 1 0⟩,.int .i64 (.ofNat g)] b λ i j=>k i j))))
theorem q284_eq (t:ExtT)(rc:RC)(a0:Value)(h:H)(k:Value→H→R):(funB (EX t) KK 288).run rc [a0] h k = q284 (EX t) rc a0 h k:=by kernel_rfl
noncomputable def q96 (E:Env)(rc:RC)(a0:Value)(h:H)(k:Value→H→R):R:=binR (binC E .lss 3 (isC (.tmp 3)) (isC (.const (.int .i64 0)))) a0 (.int .i64 (.ofNat 0)) λ a=>joinV (λ b c=>joinV (λ d e=>onB a (@joinR [2] (λ _ f=>binR (binC E .shl 3 (isC (.const (.int .i64 4096))) (isC (.tmp 9))) (.int .i64 (.ofNat 4096)) a0 λ g=>k g f) λ f=>onB d (f (.int .i64 (.ofNat 0),()) e) (k (.int .i64 (.ofNat 0)) e)) (@joinR [2] (λ _ f=>binR (binC E .shl 3 (isC (.const (.int .i64 4096))) (isC (.tmp 9))) (.int .i64 (.ofNat 4096)) a0 λ g=>k g f) λ _=>k (.int .i64 (.ofNat 0)) e)) λ d=>onG a (binR (binC E .gtr 3 (isC (.tmp 6)) (isC (.const (.int .i64 10)))) b (.int .i64 (.ofNat 10)) λ e=>d e c) (d undef c) (d undef c)) λ b=>onG a (b a0 h) (b undef h) (b undef h)
theorem q96_eq (t:ExtT)(rc:RC)(a0:Value)(h:H)(k:Value→H→R):(funB (EX t) KK 202).run rc [a0] h k = q96 (EX t) rc a0 h k:=by kernel_rfl
end Go.Ev
namespace Go.Ev
open Go F Go.Proofs
set_option maxRecDepth 100000
set_option linter.unusedVariables false
noncomputable def un0 (l:List Value) (k:R):R:=List.rec (motive:=λ _=>R) k (λ _ _ _=>none) l
noncomputable def un1 (l:List Value) (k:Value→R):R:=List.rec (motive:=λ _=>R) none (λ a l _=>un0 l (k a)) l
noncomputable def un2 (l:List Value) (k:Value→Value→R):R:=List.rec (motive:=λ _=>R) none (λ a l _=>un1 l (k a)) l
noncomputable def un3 (l:List Value) (k:Value→Value→Value→R):R:=List.rec (motive:=λ _=>R) none (λ a l _=>un2 l (k a)) l
noncomputable def un4 (l:List Value) (k:Value→Value→Value→Value→R):R:=List.rec (motive:=λ _=>R) none (λ a l _=>un3 l (k a)) l
noncomputable def un5 (l:List Value) (k:Value→Value→Value→Value→Value→R):R:=List.rec (motive:=λ _=>R) none (λ a l _=>un4 l (k a)) l
theorem un0_some {l:List Value} {k:R} {r} (h:un0 l k=some r):l=[]∧k=some r:=by
  cases l with
  | nil=>exact ⟨rfl,h⟩
  | cons a l=>exact nomatch h
theorem un1_some {l:List Value} {k:Value→R} {r} (h:un1 l k=some r):∃ a,l=[a]∧k a=some r:=by
  cases l with
  | nil=>exact nomatch h
  | cons a l =>
    obtain ⟨rfl,h⟩:=un0_some (l:=l) (k:=k a) h
    exact ⟨a,rfl,h⟩
theorem un2_some {l:List Value} {k:Value→Value→R} {r} (h:un2 l k=some r):∃ a b,l=[a,b]∧k a b=some r:=by
  cases l with
  | nil=>exact nomatch h
  | cons a l =>
    obtain ⟨b,rfl,h⟩:=un1_some (l:=l) (k:=k a) h
    exact ⟨a,b,rfl,h⟩
theorem un3_some {l:List Value} {k:Value→Value→Value→R} {r} (h:un3 l k=some r):∃ a b c,l=[a,b,c]∧k a b c=some r:=by
  cases l with
  | nil=>exact nomatch h
  | cons a l =>
    obtain ⟨b,c,rfl,h⟩:=un2_some (l:=l) (k:=k a) h
    exact ⟨a,b,c,rfl,h⟩
theorem un4_some {l:List Value} {k:Value→Value→Value→Value→R} {r} (h:un4 l k=some r):∃ a b c d,l=[a,b,c,d]∧k a b c d=some r:=by
  cases l with
  | nil=>exact nomatch h
  | cons a l =>
    obtain ⟨b,c,d,rfl,h⟩:=un3_some (l:=l) (k:=k a) h
    exact ⟨a,b,c,d,rfl,h⟩
theorem un5_some {l:List Value} {k:Value→Value→Value→Value→Value→R} {r} (h:un5 l k=some r):∃ a b c d e,l=[a,b,c,d,e]∧k a b c d e=some r:=by
  cases l with
  | nil=>exact nomatch h
  | cons a l =>
    obtain ⟨b,c,d,e,rfl,h⟩:=un4_some (l:=l) (k:=k a) h
    exact ⟨a,b,c,d,e,rfl,h⟩
def HotOK (f:FuncId) (s:Env→FC):Prop:=∀ (t:ExtT) rc args h k r,(s (EX t)).run rc args h k=some r→(funB (EX t) KK f).run rc args h k=some r
theorem hot0 {f:FuncId} {g:Env→RC→H→(Value→H→R)→R} (e:∀ t rc h k,(funB (EX t) KK f).run rc [] h k=g (EX t) rc h k):HotOK f (λ E=>⟨λ rc args h k=>un0 args (g E rc h k)⟩):=by
  intro t rc args h k r hk
  obtain ⟨rfl,hk⟩:=un0_some hk
  rw [e]; exact hk
theorem hot1 {f:FuncId} {g:Env→RC→Value→H→(Value→H→R)→R} (e:∀ t rc a h k,(funB (EX t) KK f).run rc [a] h k=g (EX t) rc a h k):HotOK f (λ E=>⟨λ rc args h k=>un1 args λ a=>g E rc a h k⟩):=by
  intro t rc args h k r hk
  obtain ⟨a,rfl,hk⟩:=un1_some hk
  rw [e]; exact hk
theorem hot2 {f:FuncId} {g:Env→RC→Value→Value→H→(Value→H→R)→R} (e:∀ t rc a b h k,(funB (EX t) KK f).run rc [a,b] h k=g (EX t) rc a b h k):HotOK f (λ E=>⟨λ rc args h k=>un2 args λ a b=>g E rc a b h k⟩):=by
  intro t rc args h k r hk
  obtain ⟨a,b,rfl,hk⟩:=un2_some hk
  rw [e]; exact hk
theorem hot3 {f:FuncId} {g:Env→RC→Value→Value→Value→H→(Value→H→R)→R} (e:∀ t rc a b c h k,(funB (EX t) KK f).run rc [a,b,c] h k=g (EX t) rc a b c h k):HotOK f (λ E=>⟨λ rc args h k=>un3 args λ a b c=>g E rc a b c h k⟩):=by
  intro t rc args h k r hk
  obtain ⟨a,b,c,rfl,hk⟩:=un3_some hk
  rw [e]; exact hk
theorem hot4 {f:FuncId} {g:Env→RC→Value→Value→Value→Value→H→(Value→H→R)→R} (e:∀ t rc a b c d h k,(funB (EX t) KK f).run rc [a,b,c,d] h k=g (EX t) rc a b c d h k):HotOK f (λ E=>⟨λ rc args h k=>un4 args λ a b c d=>g E rc a b c d h k⟩):=by
  intro t rc args h k r hk
  obtain ⟨a,b,c,d,rfl,hk⟩:=un4_some hk
  rw [e]; exact hk
theorem hot5 {f:FuncId} {g:Env→RC→Value→Value→Value→Value→Value→H→(Value→H→R)→R} (e:∀ t rc a b c d x h k,(funB (EX t) KK f).run rc [a,b,c,d,x] h k=g (EX t) rc a b c d x h k):HotOK f (λ E=>⟨λ rc args h k=>un5 args λ a b c d x=>g E rc a b c d x h k⟩):=by
  intro t rc args h k r hk
  obtain ⟨a,b,c,d,x,rfl,hk⟩:=un5_some hk
  rw [e]; exact hk
noncomputable def s20:Env→FC:=λ E=>⟨λ rc args h k=>un1 args λ a=>g20 E rc a h k⟩
theorem s20_ok:HotOK 20 s20:=hot1 (f:=20) (g:=g20) g20_eq
noncomputable def s46:Env→FC:=λ E=>⟨λ rc args h k=>un2 args λ a b=>g46 E rc a b h k⟩
theorem s46_ok:HotOK 46 s46:=hot2 (f:=46) (g:=g46) g46_eq
noncomputable def s48:Env→FC:=λ E=>⟨λ rc args h k=>un1 args λ a=>g48 E rc a h k⟩
theorem s48_ok:HotOK 48 s48:=hot1 (f:=48) (g:=g48) g48_eq
noncomputable def s112:Env→FC:=λ E=>⟨λ rc args h k=>un2 args λ a b=>g112 E rc a b h k⟩
theorem s112_ok:HotOK 112 s112:=hot2 (f:=112) (g:=g112) g112_eq
noncomputable def s191:Env→FC:=λ E=>⟨λ rc args h k=>un1 args λ a=>g191 E rc a h k⟩
theorem s191_ok:HotOK 191 s191:=hot1 (f:=191) (g:=g191) g191_eq
noncomputable def s119:Env→FC:=λ E=>⟨λ rc args h k=>un5 args λ a b c d x=>g119 E rc a b c d x h k⟩
theorem s119_ok:HotOK 119 s119:=hot5 (f:=119) (g:=g119) g119_eq
noncomputable def s38:Env→FC:=λ E=>⟨λ rc args h k=>un2 args λ a b=>g38 E rc a b h k⟩
theorem s38_ok:HotOK 38 s38:=hot2 (f:=38) (g:=g38) g38_eq
noncomputable def s39:Env→FC:=λ E=>⟨λ rc args h k=>un4 args λ a b c d=>g39 E rc a b c d h k⟩
theorem s39_ok:HotOK 39 s39:=hot4 (f:=39) (g:=g39) g39_eq
noncomputable def s42:Env→FC:=λ E=>⟨λ rc args h k=>un4 args λ a b c d=>g42 E rc a b c d h k⟩
theorem s42_ok:HotOK 42 s42:=hot4 (f:=42) (g:=g42) g42_eq
noncomputable def s43:Env→FC:=λ E=>⟨λ rc args h k=>un3 args λ a b c=>g43 E rc a b c h k⟩
theorem s43_ok:HotOK 43 s43:=hot3 (f:=43) (g:=g43) g43_eq
noncomputable def s105:Env→FC:=λ E=>⟨λ rc args h k=>un2 args λ a b=>g105 E rc a b h k⟩
theorem s105_ok:HotOK 105 s105:=hot2 (f:=105) (g:=g105) g105_eq
noncomputable def s50:Env→FC:=λ E=>⟨λ rc args h k=>un2 args λ a b=>g50 E rc a b h k⟩
theorem s50_ok:HotOK 50 s50:=hot2 (f:=50) (g:=g50) g50_eq
noncomputable def s106:Env→FC:=λ E=>⟨λ rc args h k=>un2 args λ a b=>g106 E rc a b h k⟩
theorem s106_ok:HotOK 106 s106:=hot2 (f:=106) (g:=g106) g106_eq
noncomputable def s108:Env→FC:=λ E=>⟨λ rc args h k=>un1 args λ a=>g108 E rc a h k⟩
theorem s108_ok:HotOK 108 s108:=hot1 (f:=108) (g:=g108) g108_eq
noncomputable def s202:Env→FC:=λ E=>⟨λ rc args h k=>un1 args λ a=>g202 E rc a h k⟩
theorem s202_ok:HotOK 202 s202:=hot1 (f:=202) (g:=g202) g202_eq
noncomputable def s179:Env→FC:=λ E=>⟨λ rc args h k=>un3 args λ a b c=>g179 E rc a b c h k⟩
theorem s179_ok:HotOK 179 s179:=hot3 (f:=179) (g:=g179) g179_eq
noncomputable def s168:Env→FC:=λ E=>⟨λ rc args h k=>un1 args λ a=>g168 E rc a h k⟩
theorem s168_ok:HotOK 168 s168:=hot1 (f:=168) (g:=g168) g168_eq
noncomputable def s114:Env→FC:=λ E=>⟨λ rc args h k=>un2 args λ a b=>g114 E rc a b h k⟩
theorem s114_ok:HotOK 114 s114:=hot2 (f:=114) (g:=g114) g114_eq
noncomputable def s75:Env→FC:=λ E=>⟨λ rc args h k=>un1 args λ a=>g75 E rc a h k⟩
theorem s75_ok:HotOK 75 s75:=hot1 (f:=75) (g:=g75) g75_eq
noncomputable def s430:Env→FC:=λ E=>⟨λ rc args h k=>un2 args λ a b=>g430 E rc a b h k⟩
theorem s430_ok:HotOK 430 s430:=hot2 (f:=430) (g:=g430) g430_eq
noncomputable def s280:Env→FC:=λ E=>⟨λ rc args h k=>un1 args λ a=>g280 E rc a h k⟩
theorem s280_ok:HotOK 280 s280:=hot1 (f:=280) (g:=g280) g280_eq
noncomputable def s110:Env→FC:=λ E=>⟨λ rc args h k=>un2 args λ a b=>g110 E rc a b h k⟩
theorem s110_ok:HotOK 110 s110:=hot2 (f:=110) (g:=g110) g110_eq
noncomputable def s291:Env→FC:=λ E=>⟨λ rc args h k=>un2 args λ a b=>g291 E rc a b h k⟩
theorem s291_ok:HotOK 291 s291:=hot2 (f:=291) (g:=g291) g291_eq
noncomputable def s99:Env→FC:=λ E=>⟨λ rc args h k=>un3 args λ a b c=>g99 E rc a b c h k⟩
theorem s99_ok:HotOK 99 s99:=hot3 (f:=99) (g:=g99) g99_eq
noncomputable def s210:Env→FC:=λ E=>⟨λ rc args h k=>un2 args λ a b=>g210 E rc a b h k⟩
theorem s210_ok:HotOK 210 s210:=hot2 (f:=210) (g:=g210) g210_eq
noncomputable def s183:Env→FC:=λ E=>⟨λ rc args h k=>un3 args λ a b c=>g183 E rc a b c h k⟩
theorem s183_ok:HotOK 183 s183:=hot3 (f:=183) (g:=g183) g183_eq
noncomputable def s32:Env→FC:=λ E=>⟨λ rc args h k=>un1 args λ a=>g32 E rc a h k⟩
theorem s32_ok:HotOK 32 s32:=hot1 (f:=32) (g:=g32) g32_eq
noncomputable def s76:Env→FC:=λ E=>⟨λ rc args h k=>un3 args λ a b c=>g76 E rc a b c h k⟩
theorem s76_ok:HotOK 76 s76:=hot3 (f:=76) (g:=g76) g76_eq
noncomputable def s78:Env→FC:=λ E=>⟨λ rc args h k=>un2 args λ a b=>g78 E rc a b h k⟩
theorem s78_ok:HotOK 78 s78:=hot2 (f:=78) (g:=g78) g78_eq
noncomputable def s79:Env→FC:=λ E=>⟨λ rc args h k=>un2 args λ a b=>g79 E rc a b h k⟩
theorem s79_ok:HotOK 79 s79:=hot2 (f:=79) (g:=g79) g79_eq
noncomputable def s80:Env→FC:=λ E=>⟨λ rc args h k=>un3 args λ a b c=>g80 E rc a b c h k⟩
theorem s80_ok:HotOK 80 s80:=hot3 (f:=80) (g:=g80) g80_eq
noncomputable def s81:Env→FC:=λ E=>⟨λ rc args h k=>un2 args λ a b=>g81 E rc a b h k⟩
theorem s81_ok:HotOK 81 s81:=hot2 (f:=81) (g:=g81) g81_eq
noncomputable def s82:Env→FC:=λ E=>⟨λ rc args h k=>un4 args λ a b c d=>g82 E rc a b c d h k⟩
theorem s82_ok:HotOK 82 s82:=hot4 (f:=82) (g:=g82) g82_eq
noncomputable def s83:Env→FC:=λ E=>⟨λ rc args h k=>un3 args λ a b c=>g83 E rc a b c h k⟩
theorem s83_ok:HotOK 83 s83:=hot3 (f:=83) (g:=g83) g83_eq
noncomputable def s85:Env→FC:=λ E=>⟨λ rc args h k=>un4 args λ a b c d=>g85 E rc a b c d h k⟩
theorem s85_ok:HotOK 85 s85:=hot4 (f:=85) (g:=g85) g85_eq
noncomputable def s87:Env→FC:=λ E=>⟨λ rc args h k=>un3 args λ a b c=>g87 E rc a b c h k⟩
theorem s87_ok:HotOK 87 s87:=hot3 (f:=87) (g:=g87) g87_eq
noncomputable def s88:Env→FC:=λ E=>⟨λ rc args h k=>un3 args λ a b c=>g88 E rc a b c h k⟩
theorem s88_ok:HotOK 88 s88:=hot3 (f:=88) (g:=g88) g88_eq
noncomputable def s93:Env→FC:=λ E=>⟨λ rc args h k=>un4 args λ a b c d=>g93 E rc a b c d h k⟩
theorem s93_ok:HotOK 93 s93:=hot4 (f:=93) (g:=g93) g93_eq
noncomputable def s96:Env→FC:=λ E=>⟨λ rc args h k=>un4 args λ a b c d=>g96 E rc a b c d h k⟩
theorem s96_ok:HotOK 96 s96:=hot4 (f:=96) (g:=g96) g96_eq
noncomputable def s97:Env→FC:=λ E=>⟨λ rc args h k=>un1 args λ a=>g97 E rc a h k⟩
theorem s97_ok:HotOK 97 s97:=hot1 (f:=97) (g:=g97) g97_eq
noncomputable def s199:Env→FC:=λ E=>⟨λ rc args h k=>un2 args λ a b=>g199 E rc a b h k⟩
theorem s199_ok:HotOK 199 s199:=hot2 (f:=199) (g:=g199) g199_eq
noncomputable def s111:Env→FC:=λ E=>⟨λ rc args h k=>un2 args λ a b=>g111 E rc a b h k⟩
theorem s111_ok:HotOK 111 s111:=hot2 (f:=111) (g:=g111) g111_eq
noncomputable def s109:Env→FC:=λ E=>⟨λ rc args h k=>un3 args λ a b c=>g109 E rc a b c h k⟩
theorem s109_ok:HotOK 109 s109:=hot3 (f:=109) (g:=g109) g109_eq
noncomputable def s49:Env→FC:=λ E=>⟨λ rc args h k=>un2 args λ a b=>g49 E rc a b h k⟩
theorem s49_ok:HotOK 49 s49:=hot2 (f:=49) (g:=g49) g49_eq
noncomputable def s184:Env→FC:=λ E=>⟨λ rc args h k=>un1 args λ a=>g184 E rc a h k⟩
theorem s184_ok:HotOK 184 s184:=hot1 (f:=184) (g:=g184) g184_eq
noncomputable def s185:Env→FC:=λ E=>⟨λ rc args h k=>un2 args λ a b=>g185 E rc a b h k⟩
theorem s185_ok:HotOK 185 s185:=hot2 (f:=185) (g:=g185) g185_eq
noncomputable def s257:Env→FC:=λ E=>⟨λ rc args h k=>un2 args λ a b=>g257 E rc a b h k⟩
theorem s257_ok:HotOK 257 s257:=hot2 (f:=257) (g:=g257) g257_eq
noncomputable def s261:Env→FC:=λ E=>⟨λ rc args h k=>un3 args λ a b c=>g261 E rc a b c h k⟩
theorem s261_ok:HotOK 261 s261:=hot3 (f:=261) (g:=g261) g261_eq
noncomputable def s262:Env→FC:=λ E=>⟨λ rc args h k=>un2 args λ a b=>g262 E rc a b h k⟩
theorem s262_ok:HotOK 262 s262:=hot2 (f:=262) (g:=g262) g262_eq
noncomputable def s263:Env→FC:=λ E=>⟨λ rc args h k=>un1 args λ a=>g263 E rc a h k⟩
theorem s263_ok:HotOK 263 s263:=hot1 (f:=263) (g:=g263) g263_eq
noncomputable def s206:Env→FC:=λ E=>⟨λ rc args h k=>un3 args λ a b c=>g206 E rc a b c h k⟩
theorem s206_ok:HotOK 206 s206:=hot3 (f:=206) (g:=g206) g206_eq
noncomputable def s211:Env→FC:=λ E=>⟨λ rc args h k=>un1 args λ a=>g211 E rc a h k⟩
theorem s211_ok:HotOK 211 s211:=hot1 (f:=211) (g:=g211) g211_eq
noncomputable def s342:Env→FC:=λ E=>⟨λ rc args h k=>un2 args λ a b=>g342 E rc a b h k⟩
theorem s342_ok:HotOK 342 s342:=hot2 (f:=342) (g:=g342) g342_eq
noncomputable def s200:Env→FC:=λ E=>⟨λ rc args h k=>un0 args (g200 E rc h k)⟩
theorem s200_ok:HotOK 200 s200:=hot0 (f:=200) (g:=g200) g200_eq
noncomputable def s201:Env→FC:=λ E=>⟨λ rc args h k=>un2 args λ a b=>g201 E rc a b h k⟩
theorem s201_ok:HotOK 201 s201:=hot2 (f:=201) (g:=g201) g201_eq
noncomputable def s180:Env→FC:=λ E=>⟨λ rc args h k=>un1 args λ a=>g180 E rc a h k⟩
theorem s180_ok:HotOK 180 s180:=hot1 (f:=180) (g:=g180) g180_eq
noncomputable def s259:Env→FC:=λ E=>⟨λ rc args h k=>un2 args λ a b=>g259 E rc a b h k⟩
theorem s259_ok:HotOK 259 s259:=hot2 (f:=259) (g:=g259) g259_eq
noncomputable def s260:Env→FC:=λ E=>⟨λ rc args h k=>un2 args λ a b=>g260 E rc a b h k⟩
theorem s260_ok:HotOK 260 s260:=hot2 (f:=260) (g:=g260) g260_eq
noncomputable def s343:Env→FC:=λ E=>⟨λ rc args h k=>un3 args λ a b c=>g343 E rc a b c h k⟩
theorem s343_ok:HotOK 343 s343:=hot3 (f:=343) (g:=g343) g343_eq
noncomputable def s294:Env→FC:=λ E=>⟨λ rc args h k=>un0 args (g294 E rc h k)⟩
theorem s294_ok:HotOK 294 s294:=hot0 (f:=294) (g:=g294) g294_eq
noncomputable def s264:Env→FC:=λ E=>⟨λ rc args h k=>un2 args λ a b=>g264 E rc a b h k⟩
theorem s264_ok:HotOK 264 s264:=hot2 (f:=264) (g:=g264) g264_eq
noncomputable def s302:Env→FC:=λ E=>⟨λ rc args h k=>un3 args λ a b c=>g302 E rc a b c h k⟩
theorem s302_ok:HotOK 302 s302:=hot3 (f:=302) (g:=g302) g302_eq
noncomputable def s66:Env→FC:=λ E=>⟨λ rc args h k=>un1 args λ a=>g66 E rc a h k⟩
theorem s66_ok:HotOK 66 s66:=hot1 (f:=66) (g:=g66) g66_eq
noncomputable def s163:Env→FC:=λ E=>⟨λ rc args h k=>un3 args λ a b c=>g163 E rc a b c h k⟩
theorem s163_ok:HotOK 163 s163:=hot3 (f:=163) (g:=g163) g163_eq
noncomputable def s164:Env→FC:=λ E=>⟨λ rc args h k=>un3 args λ a b c=>g164 E rc a b c h k⟩
theorem s164_ok:HotOK 164 s164:=hot3 (f:=164) (g:=g164) g164_eq
noncomputable def s167:Env→FC:=λ E=>⟨λ rc args h k=>un2 args λ a b=>g167 E rc a b h k⟩
theorem s167_ok:HotOK 167 s167:=hot2 (f:=167) (g:=g167) g167_eq
noncomputable def s171:Env→FC:=λ E=>⟨λ rc args h k=>un3 args λ a b c=>g171 E rc a b c h k⟩
theorem s171_ok:HotOK 171 s171:=hot3 (f:=171) (g:=g171) g171_eq
noncomputable def s172:Env→FC:=λ E=>⟨λ rc args h k=>un2 args λ a b=>g172 E rc a b h k⟩
theorem s172_ok:HotOK 172 s172:=hot2 (f:=172) (g:=g172) g172_eq
noncomputable def s173:Env→FC:=λ E=>⟨λ rc args h k=>un3 args λ a b c=>g173 E rc a b c h k⟩
theorem s173_ok:HotOK 173 s173:=hot3 (f:=173) (g:=g173) g173_eq
noncomputable def s174:Env→FC:=λ E=>⟨λ rc args h k=>un3 args λ a b c=>g174 E rc a b c h k⟩
theorem s174_ok:HotOK 174 s174:=hot3 (f:=174) (g:=g174) g174_eq
noncomputable def s175:Env→FC:=λ E=>⟨λ rc args h k=>un4 args λ a b c d=>g175 E rc a b c d h k⟩
theorem s175_ok:HotOK 175 s175:=hot4 (f:=175) (g:=g175) g175_eq
noncomputable def s176:Env→FC:=λ E=>⟨λ rc args h k=>un1 args λ a=>g176 E rc a h k⟩
theorem s176_ok:HotOK 176 s176:=hot1 (f:=176) (g:=g176) g176_eq
noncomputable def s177:Env→FC:=λ E=>⟨λ rc args h k=>un3 args λ a b c=>g177 E rc a b c h k⟩
theorem s177_ok:HotOK 177 s177:=hot3 (f:=177) (g:=g177) g177_eq
noncomputable def s182:Env→FC:=λ E=>⟨λ rc args h k=>un1 args λ a=>g182 E rc a h k⟩
theorem s182_ok:HotOK 182 s182:=hot1 (f:=182) (g:=g182) g182_eq
noncomputable def s192:Env→FC:=λ E=>⟨λ rc args h k=>un2 args λ a b=>g192 E rc a b h k⟩
theorem s192_ok:HotOK 192 s192:=hot2 (f:=192) (g:=g192) g192_eq
noncomputable def s203:Env→FC:=λ E=>⟨λ rc args h k=>un4 args λ a b c d=>g203 E rc a b c d h k⟩
theorem s203_ok:HotOK 203 s203:=hot4 (f:=203) (g:=g203) g203_eq
noncomputable def s204:Env→FC:=λ E=>⟨λ rc args h k=>un1 args λ a=>g204 E rc a h k⟩
theorem s204_ok:HotOK 204 s204:=hot1 (f:=204) (g:=g204) g204_eq
noncomputable def s295:Env→FC:=λ E=>⟨λ rc args h k=>un1 args λ a=>g295 E rc a h k⟩
theorem s295_ok:HotOK 295 s295:=hot1 (f:=295) (g:=g295) g295_eq
noncomputable def s296:Env→FC:=λ E=>⟨λ rc args h k=>un0 args (g296 E rc h k)⟩
theorem s296_ok:HotOK 296 s296:=hot0 (f:=296) (g:=g296) g296_eq
noncomputable def s352:Env→FC:=λ E=>⟨λ rc args h k=>un1 args λ a=>g352 E rc a h k⟩
theorem s352_ok:HotOK 352 s352:=hot1 (f:=352) (g:=g352) g352_eq
noncomputable def s286:Env→FC:=λ E=>⟨λ rc args h k=>un1 args λ a=>g286 E rc a h k⟩
theorem s286_ok:HotOK 286 s286:=hot1 (f:=286) (g:=g286) g286_eq
noncomputable def s287:Env→FC:=λ E=>⟨λ rc args h k=>un3 args λ a b c=>g287 E rc a b c h k⟩
theorem s287_ok:HotOK 287 s287:=hot3 (f:=287) (g:=g287) g287_eq
noncomputable def s288:Env→FC:=λ E=>⟨λ rc args h k=>un1 args λ a=>g288 E rc a h k⟩
theorem s288_ok:HotOK 288 s288:=hot1 (f:=288) (g:=g288) g288_eq
noncomputable def s289:Env→FC:=λ E=>⟨λ rc args h k=>un3 args λ a b c=>g289 E rc a b c h k⟩
theorem s289_ok:HotOK 289 s289:=hot3 (f:=289) (g:=g289) g289_eq
noncomputable def s268:Env→FC:=λ E=>⟨λ rc args h k=>un2 args λ a b=>g268 E rc a b h k⟩
theorem s268_ok:HotOK 268 s268:=hot2 (f:=268) (g:=g268) g268_eq
noncomputable def s359:Env→FC:=λ E=>⟨λ rc args h k=>un4 args λ a b c d=>g359 E rc a b c d h k⟩
theorem s359_ok:HotOK 359 s359:=hot4 (f:=359) (g:=g359) g359_eq
noncomputable def s427:Env→FC:=λ E=>⟨λ rc args h k=>un3 args λ a b c=>g427 E rc a b c h k⟩
theorem s427_ok:HotOK 427 s427:=hot3 (f:=427) (g:=g427) g427_eq
noncomputable def s428:Env→FC:=λ E=>⟨λ rc args h k=>un4 args λ a b c d=>g428 E rc a b c d h k⟩
theorem s428_ok:HotOK 428 s428:=hot4 (f:=428) (g:=g428) g428_eq
noncomputable def s252:Env→FC:=λ E=>⟨λ rc args h k=>un4 args λ a b c d=>g252 E rc a b c d h k⟩
theorem s252_ok:HotOK 252 s252:=hot4 (f:=252) (g:=g252) g252_eq
noncomputable def s253:Env→FC:=λ E=>⟨λ rc args h k=>un2 args λ a b=>g253 E rc a b h k⟩
theorem s253_ok:HotOK 253 s253:=hot2 (f:=253) (g:=g253) g253_eq
noncomputable def s258:Env→FC:=λ E=>⟨λ rc args h k=>un1 args λ a=>g258 E rc a h k⟩
theorem s258_ok:HotOK 258 s258:=hot1 (f:=258) (g:=g258) g258_eq
noncomputable def s290:Env→FC:=λ E=>⟨λ rc args h k=>un3 args λ a b c=>g290 E rc a b c h k⟩
theorem s290_ok:HotOK 290 s290:=hot3 (f:=290) (g:=g290) g290_eq
noncomputable def s353:Env→FC:=λ E=>⟨λ rc args h k=>un1 args λ a=>g353 E rc a h k⟩
theorem s353_ok:HotOK 353 s353:=hot1 (f:=353) (g:=g353) g353_eq
noncomputable def s354:Env→FC:=λ E=>⟨λ rc args h k=>un2 args λ a b=>g354 E rc a b h k⟩
theorem s354_ok:HotOK 354 s354:=hot2 (f:=354) (g:=g354) g354_eq
noncomputable def s355:Env→FC:=λ E=>⟨λ rc args h k=>un2 args λ a b=>g355 E rc a b h k⟩
theorem s355_ok:HotOK 355 s355:=hot2 (f:=355) (g:=g355) g355_eq
noncomputable def s356:Env→FC:=λ E=>⟨λ rc args h k=>un2 args λ a b=>g356 E rc a b h k⟩
theorem s356_ok:HotOK 356 s356:=hot2 (f:=356) (g:=g356) g356_eq
noncomputable def s341:Env→FC:=λ E=>⟨λ rc args h k=>un1 args λ a=>g341 E rc a h k⟩
theorem s341_ok:HotOK 341 s341:=hot1 (f:=341) (g:=g341) g341_eq
noncomputable def s298:Env→FC:=λ E=>⟨λ rc args h k=>un1 args λ a=>g298 E rc a h k⟩
theorem s298_ok:HotOK 298 s298:=hot1 (f:=298) (g:=g298) g298_eq
noncomputable def s299:Env→FC:=λ E=>⟨λ rc args h k=>un2 args λ a b=>g299 E rc a b h k⟩
theorem s299_ok:HotOK 299 s299:=hot2 (f:=299) (g:=g299) g299_eq
noncomputable def s357:Env→FC:=λ E=>⟨λ rc args h k=>un0 args (g357 E rc h k)⟩
theorem s357_ok:HotOK 357 s357:=hot0 (f:=357) (g:=g357) g357_eq
noncomputable def s358:Env→FC:=λ E=>⟨λ rc args h k=>un2 args λ a b=>g358 E rc a b h k⟩
theorem s358_ok:HotOK 358 s358:=hot2 (f:=358) (g:=g358) g358_eq
noncomputable def s21:Env→FC:=λ E=>⟨λ rc args h k=>un1 args λ a=>g21 E rc a h k⟩
theorem s21_ok:HotOK 21 s21:=hot1 (f:=21) (g:=g21) g21_eq
noncomputable def s23:Env→FC:=λ E=>⟨λ rc args h k=>un1 args λ a=>g23 E rc a h k⟩
theorem s23_ok:HotOK 23 s23:=hot1 (f:=23) (g:=g23) g23_eq
noncomputable def s47:Env→FC:=λ E=>⟨λ rc args h k=>un2 args λ a b=>g47 E rc a b h k⟩
theorem s47_ok:HotOK 47 s47:=hot2 (f:=47) (g:=g47) g47_eq
noncomputable def s44:Env→FC:=λ E=>⟨λ rc args h k=>un1 args λ a=>g44 E rc a h k⟩
theorem s44_ok:HotOK 44 s44:=hot1 (f:=44) (g:=g44) g44_eq
noncomputable def s236:Env→FC:=λ E=>⟨λ rc args h k=>un1 args λ a=>g236 E rc a h k⟩
theorem s236_ok:HotOK 236 s236:=hot1 (f:=236) (g:=g236) g236_eq
noncomputable def s237:Env→FC:=λ E=>⟨λ rc args h k=>un3 args λ a b c=>g237 E rc a b c h k⟩
theorem s237_ok:HotOK 237 s237:=hot3 (f:=237) (g:=g237) g237_eq
noncomputable def s103:Env→FC:=λ E=>⟨λ rc args h k=>un3 args λ a b c=>g103 E rc a b c h k⟩
theorem s103_ok:HotOK 103 s103:=hot3 (f:=103) (g:=g103) g103_eq
noncomputable def s37:Env→FC:=λ E=>⟨λ rc args h k=>un1 args λ a=>g37 E rc a h k⟩
theorem s37_ok:HotOK 37 s37:=hot1 (f:=37) (g:=g37) g37_eq
noncomputable def s40:Env→FC:=λ E=>⟨λ rc args h k=>un3 args λ a b c=>g40 E rc a b c h k⟩
theorem s40_ok:HotOK 40 s40:=hot3 (f:=40) (g:=g40) g40_eq
noncomputable def s41:Env→FC:=λ E=>⟨λ rc args h k=>un2 args λ a b=>g41 E rc a b h k⟩
theorem s41_ok:HotOK 41 s41:=hot2 (f:=41) (g:=g41) g41_eq
noncomputable def s107:Env→FC:=λ E=>⟨λ rc args h k=>un3 args λ a b c=>g107 E rc a b c h k⟩
theorem s107_ok:HotOK 107 s107:=hot3 (f:=107) (g:=g107) g107_eq
noncomputable def s194:Env→FC:=λ E=>⟨λ rc args h k=>un2 args λ a b=>g194 E rc a b h k⟩
theorem s194_ok:HotOK 194 s194:=hot2 (f:=194) (g:=g194) g194_eq
noncomputable def s285:Env→FC:=λ E=>⟨λ rc args h k=>un2 args λ a b=>g285 E rc a b h k⟩
theorem s285_ok:HotOK 285 s285:=hot2 (f:=285) (g:=g285) g285_eq
noncomputable def s461:Env→FC:=λ E=>⟨λ rc args h k=>un1 args λ a=>g461 E rc a h k⟩
theorem s461_ok:HotOK 461 s461:=hot1 (f:=461) (g:=g461) g461_eq
noncomputable def s207:Env→FC:=λ E=>⟨λ rc args h k=>un1 args λ a=>g207 E rc a h k⟩
theorem s207_ok:HotOK 207 s207:=hot1 (f:=207) (g:=g207) g207_eq
noncomputable def s214:Env→FC:=λ E=>⟨λ rc args h k=>un2 args λ a b=>g214 E rc a b h k⟩
theorem s214_ok:HotOK 214 s214:=hot2 (f:=214) (g:=g214) g214_eq
noncomputable def s195:Env→FC:=λ E=>⟨λ rc args h k=>un3 args λ a b c=>g195 E rc a b c h k⟩
theorem s195_ok:HotOK 195 s195:=hot3 (f:=195) (g:=g195) g195_eq
noncomputable def s215:Env→FC:=λ E=>⟨λ rc args h k=>un3 args λ a b c=>g215 E rc a b c h k⟩
theorem s215_ok:HotOK 215 s215:=hot3 (f:=215) (g:=g215) g215_eq
noncomputable def s318:Env→FC:=λ E=>⟨λ rc args h k=>un4 args λ a b c d=>g318 E rc a b c d h k⟩
theorem s318_ok:HotOK 318 s318:=hot4 (f:=318) (g:=g318) g318_eq
noncomputable def s275:Env→FC:=λ E=>⟨λ rc args h k=>un1 args λ a=>g275 E rc a h k⟩
theorem s275_ok:HotOK 275 s275:=hot1 (f:=275) (g:=g275) g275_eq
noncomputable def s276:Env→FC:=λ E=>⟨λ rc args h k=>un3 args λ a b c=>g276 E rc a b c h k⟩
theorem s276_ok:HotOK 276 s276:=hot3 (f:=276) (g:=g276) g276_eq
noncomputable def s277:Env→FC:=λ E=>⟨λ rc args h k=>un2 args λ a b=>g277 E rc a b h k⟩
theorem s277_ok:HotOK 277 s277:=hot2 (f:=277) (g:=g277) g277_eq
noncomputable def s278:Env→FC:=λ E=>⟨λ rc args h k=>un3 args λ a b c=>g278 E rc a b c h k⟩
theorem s278_ok:HotOK 278 s278:=hot3 (f:=278) (g:=g278) g278_eq
noncomputable def s196:Env→FC:=λ E=>⟨λ rc args h k=>un3 args λ a b c=>g196 E rc a b c h k⟩
theorem s196_ok:HotOK 196 s196:=hot3 (f:=196) (g:=g196) g196_eq
noncomputable def s218:Env→FC:=λ E=>⟨λ rc args h k=>un3 args λ a b c=>g218 E rc a b c h k⟩
theorem s218_ok:HotOK 218 s218:=hot3 (f:=218) (g:=g218) g218_eq
noncomputable def s74:Env→FC:=λ E=>⟨λ rc args h k=>un1 args λ a=>g74 E rc a h k⟩
theorem s74_ok:HotOK 74 s74:=hot1 (f:=74) (g:=g74) g74_eq
noncomputable def s89:Env→FC:=λ E=>⟨λ rc args h k=>un1 args λ a=>g89 E rc a h k⟩
theorem s89_ok:HotOK 89 s89:=hot1 (f:=89) (g:=g89) g89_eq
noncomputable def s90:Env→FC:=λ E=>⟨λ rc args h k=>un1 args λ a=>g90 E rc a h k⟩
theorem s90_ok:HotOK 90 s90:=hot1 (f:=90) (g:=g90) g90_eq
noncomputable def s98:Env→FC:=λ E=>⟨λ rc args h k=>un4 args λ a b c d=>g98 E rc a b c d h k⟩
theorem s98_ok:HotOK 98 s98:=hot4 (f:=98) (g:=g98) g98_eq
noncomputable def s101:Env→FC:=λ E=>⟨λ rc args h k=>un2 args λ a b=>g101 E rc a b h k⟩
theorem s101_ok:HotOK 101 s101:=hot2 (f:=101) (g:=g101) g101_eq
noncomputable def s104:Env→FC:=λ E=>⟨λ rc args h k=>un2 args λ a b=>g104 E rc a b h k⟩
theorem s104_ok:HotOK 104 s104:=hot2 (f:=104) (g:=g104) g104_eq
noncomputable def s374:Env→FC:=λ E=>⟨λ rc args h k=>un1 args λ a=>g374 E rc a h k⟩
theorem s374_ok:HotOK 374 s374:=hot1 (f:=374) (g:=g374) g374_eq
noncomputable def s209:Env→FC:=λ E=>⟨λ rc args h k=>un1 args λ a=>g209 E rc a h k⟩
theorem s209_ok:HotOK 209 s209:=hot1 (f:=209) (g:=g209) g209_eq
noncomputable def s265:Env→FC:=λ E=>⟨λ rc args h k=>un2 args λ a b=>g265 E rc a b h k⟩
theorem s265_ok:HotOK 265 s265:=hot2 (f:=265) (g:=g265) g265_eq
noncomputable def s300:Env→FC:=λ E=>⟨λ rc args h k=>un3 args λ a b c=>g300 E rc a b c h k⟩
theorem s300_ok:HotOK 300 s300:=hot3 (f:=300) (g:=g300) g300_eq
noncomputable def s373:Env→FC:=λ E=>⟨λ rc args h k=>un1 args λ a=>g373 E rc a h k⟩
theorem s373_ok:HotOK 373 s373:=hot1 (f:=373) (g:=g373) g373_eq
noncomputable def s375:Env→FC:=λ E=>⟨λ rc args h k=>un3 args λ a b c=>g375 E rc a b c h k⟩
theorem s375_ok:HotOK 375 s375:=hot3 (f:=375) (g:=g375) g375_eq
noncomputable def s345:Env→FC:=λ E=>⟨λ rc args h k=>un1 args λ a=>g345 E rc a h k⟩
theorem s345_ok:HotOK 345 s345:=hot1 (f:=345) (g:=g345) g345_eq
noncomputable def s162:Env→FC:=λ E=>⟨λ rc args h k=>un1 args λ a=>g162 E rc a h k⟩
theorem s162_ok:HotOK 162 s162:=hot1 (f:=162) (g:=g162) g162_eq
noncomputable def s166:Env→FC:=λ E=>⟨λ rc args h k=>un1 args λ a=>g166 E rc a h k⟩
theorem s166_ok:HotOK 166 s166:=hot1 (f:=166) (g:=g166) g166_eq
noncomputable def s186:Env→FC:=λ E=>⟨λ rc args h k=>un3 args λ a b c=>g186 E rc a b c h k⟩
theorem s186_ok:HotOK 186 s186:=hot3 (f:=186) (g:=g186) g186_eq
noncomputable def s187:Env→FC:=λ E=>⟨λ rc args h k=>un2 args λ a b=>g187 E rc a b h k⟩
theorem s187_ok:HotOK 187 s187:=hot2 (f:=187) (g:=g187) g187_eq
noncomputable def s188:Env→FC:=λ E=>⟨λ rc args h k=>un4 args λ a b c d=>g188 E rc a b c d h k⟩
theorem s188_ok:HotOK 188 s188:=hot4 (f:=188) (g:=g188) g188_eq
noncomputable def s197:Env→FC:=λ E=>⟨λ rc args h k=>un2 args λ a b=>g197 E rc a b h k⟩
theorem s197_ok:HotOK 197 s197:=hot2 (f:=197) (g:=g197) g197_eq
noncomputable def s198:Env→FC:=λ E=>⟨λ rc args h k=>un3 args λ a b c=>g198 E rc a b c h k⟩
theorem s198_ok:HotOK 198 s198:=hot3 (f:=198) (g:=g198) g198_eq
noncomputable def s274:Env→FC:=λ E=>⟨λ rc args h k=>un1 args λ a=>g274 E rc a h k⟩
theorem s274_ok:HotOK 274 s274:=hot1 (f:=274) (g:=g274) g274_eq
noncomputable def s340:Env→FC:=λ E=>⟨λ rc args h k=>un1 args λ a=>g340 E rc a h k⟩
theorem s340_ok:HotOK 340 s340:=hot1 (f:=340) (g:=g340) g340_eq
noncomputable def s272:Env→FC:=λ E=>⟨λ rc args h k=>un1 args λ a=>g272 E rc a h k⟩
theorem s272_ok:HotOK 272 s272:=hot1 (f:=272) (g:=g272) g272_eq
noncomputable def s273:Env→FC:=λ E=>⟨λ rc args h k=>un3 args λ a b c=>g273 E rc a b c h k⟩
theorem s273_ok:HotOK 273 s273:=hot3 (f:=273) (g:=g273) g273_eq
noncomputable def s251:Env→FC:=λ E=>⟨λ rc args h k=>un2 args λ a b=>g251 E rc a b h k⟩
theorem s251_ok:HotOK 251 s251:=hot2 (f:=251) (g:=g251) g251_eq
noncomputable def s267:Env→FC:=λ E=>⟨λ rc args h k=>un2 args λ a b=>g267 E rc a b h k⟩
theorem s267_ok:HotOK 267 s267:=hot2 (f:=267) (g:=g267) g267_eq
noncomputable def s269:Env→FC:=λ E=>⟨λ rc args h k=>un2 args λ a b=>g269 E rc a b h k⟩
theorem s269_ok:HotOK 269 s269:=hot2 (f:=269) (g:=g269) g269_eq
noncomputable def s271:Env→FC:=λ E=>⟨λ rc args h k=>un2 args λ a b=>g271 E rc a b h k⟩
theorem s271_ok:HotOK 271 s271:=hot2 (f:=271) (g:=g271) g271_eq
noncomputable def s526:Env→FC:=λ E=>⟨λ rc args h k=>un3 args λ a b c=>g526 E rc a b c h k⟩
theorem s526_ok:HotOK 526 s526:=hot3 (f:=526) (g:=g526) g526_eq
noncomputable def s344:Env→FC:=λ E=>⟨λ rc args h k=>un2 args λ a b=>g344 E rc a b h k⟩
theorem s344_ok:HotOK 344 s344:=hot2 (f:=344) (g:=g344) g344_eq
noncomputable def s502:Env→FC:=λ E=>⟨λ rc args h k=>un2 args λ a b=>g502 E rc a b h k⟩
theorem s502_ok:HotOK 502 s502:=hot2 (f:=502) (g:=g502) g502_eq
noncomputable def s547:Env→FC:=λ E=>⟨λ rc args h k=>un2 args λ a b=>g547 E rc a b h k⟩
theorem s547_ok:HotOK 547 s547:=hot2 (f:=547) (g:=g547) g547_eq
noncomputable def s561:Env→FC:=λ E=>⟨λ rc args h k=>un2 args λ a b=>g561 E rc a b h k⟩
theorem s561_ok:HotOK 561 s561:=hot2 (f:=561) (g:=g561) g561_eq
noncomputable def s503:Env→FC:=λ E=>⟨λ rc args h k=>un2 args λ a b=>g503 E rc a b h k⟩
theorem s503_ok:HotOK 503 s503:=hot2 (f:=503) (g:=g503) g503_eq
noncomputable def s504:Env→FC:=λ E=>⟨λ rc args h k=>un2 args λ a b=>g504 E rc a b h k⟩
theorem s504_ok:HotOK 504 s504:=hot2 (f:=504) (g:=g504) g504_eq
noncomputable def s527:Env→FC:=λ E=>⟨λ rc args h k=>un2 args λ a b=>g527 E rc a b h k⟩
theorem s527_ok:HotOK 527 s527:=hot2 (f:=527) (g:=g527) g527_eq
noncomputable def hotL:List (Nat × (Env→FC)):=[
(20,s20),
(46,s46),
(48,s48),
(112,s112),
(191,s191),
(119,s119),
(38,s38),
(39,s39),
(42,s42),
(43,s43),
(105,s105),
(50,s50),
(106,s106),
(108,s108),
(202,s202),
(179,s179),
(168,s168),
(114,s114),
(75,s75),
(430,s430),
(280,s280),
(110,s110),
(291,s291),
(99,s99),
(210,s210),
(183,s183),
(32,s32),
(76,s76),
(78,s78),
(79,s79),
(80,s80),
(81,s81),
(82,s82),
(83,s83),
(85,s85),
(87,s87),
(88,s88),
(93,s93),
(96,s96),
(97,s97),
(199,s199),
(111,s111),
(109,s109),
(49,s49),
(184,s184),
(185,s185),
(257,s257),
(261,s261),
(262,s262),
(263,s263),
(206,s206),
(211,s211),
(342,s342),
(200,s200),
(201,s201),
(180,s180),
(259,s259),
(260,s260),
(343,s343),
(294,s294),
(264,s264),
(302,s302),
(66,s66),
(163,s163),
(164,s164),
(167,s167),
(171,s171),
(172,s172),
(173,s173),
(174,s174),
(175,s175),
(176,s176),
(177,s177),
(182,s182),
(192,s192),
(203,s203),
(204,s204),
(295,s295),
(296,s296),
(352,s352),
(286,s286),
(287,s287),
(288,s288),
(289,s289),
(268,s268),
(359,s359),
(427,s427),
(428,s428),
(252,s252),
(253,s253),
(258,s258),
(290,s290),
(353,s353),
(354,s354),
(355,s355),
(356,s356),
(341,s341),
(298,s298),
(299,s299),
(357,s357),
(358,s358),
(21,s21),
(23,s23),
(47,s47),
(44,s44),
(236,s236),
(237,s237),
(103,s103),
(37,s37),
(40,s40),
(41,s41),
(107,s107),
(194,s194),
(285,s285),
(461,s461),
(207,s207),
(214,s214),
(195,s195),
(215,s215),
(318,s318),
(275,s275),
(276,s276),
(277,s277),
(278,s278),
(196,s196),
(218,s218),
(74,s74),
(89,s89),
(90,s90),
(98,s98),
(101,s101),
(104,s104),
(374,s374),
(209,s209),
(265,s265),
(300,s300),
(373,s373),
(375,s375),
(345,s345),
(162,s162),
(166,s166),
(186,s186),
(187,s187),
(188,s188),
(197,s197),
(198,s198),
(274,s274),
(340,s340),
(272,s272),
(273,s273),
(251,s251),
(267,s267),
(269,s269),
(271,s271),
(526,s526),
(344,s344),
(502,s502),
(547,s547),
(561,s561),
(503,s503),
(504,s504),
(527,s527)]
def AllHot:List (Nat × (Env→FC))→Prop
  | []=>True
  | p :: l=>HotOK p.1 p.2∧AllHot l
theorem hotL_ok:AllHot hotL :=
  ⟨s20_ok,s46_ok,s48_ok,s112_ok,s191_ok,s119_ok,s38_ok,s39_ok,s42_ok,s43_ok,s105_ok,s50_ok,s106_ok,s108_ok,s202_ok,s179_ok,s168_ok,s114_ok,s75_ok,s430_ok,s280_ok,s110_ok,s291_ok,s99_ok,s210_ok,s183_ok,s32_ok,s76_ok,s78_ok,s79_ok,s80_ok,s81_ok,s82_ok,s83_ok,s85_ok,s87_ok,s88_ok,s93_ok,s96_ok,s97_ok,s199_ok,s111_ok,s109_ok,s49_ok,s184_ok,s185_ok,s257_ok,s261_ok,s262_ok,s263_ok,s206_ok,s211_ok,s342_ok,s200_ok,s201_ok,s180_ok,s259_ok,s260_ok,s343_ok,s294_ok,s264_ok,s302_ok,s66_ok,s163_ok,s164_ok,s167_ok,s171_ok,s172_ok,s173_ok,s174_ok,s175_ok,s176_ok,s177_ok,s182_ok,s192_ok,s203_ok,s204_ok,s295_ok,s296_ok,s352_ok,s286_ok,s287_ok,s288_ok,s289_ok,s268_ok,s359_ok,s427_ok,s428_ok,s252_ok,s253_ok,s258_ok,s290_ok,s353_ok,s354_ok,s355_ok,s356_ok,s341_ok,s298_ok,s299_ok,s357_ok,s358_ok,s21_ok,s23_ok,s47_ok,s44_ok,s236_ok,s237_ok,s103_ok,s37_ok,s40_ok,s41_ok,s107_ok,s194_ok,s285_ok,s461_ok,s207_ok,s214_ok,s195_ok,s215_ok,s318_ok,s275_ok,s276_ok,s277_ok,s278_ok,s196_ok,s218_ok,s74_ok,s89_ok,s90_ok,s98_ok,s101_ok,s104_ok,s374_ok,s209_ok,s265_ok,s300_ok,s373_ok,s375_ok,s345_ok,s162_ok,s166_ok,s186_ok,s187_ok,s188_ok,s197_ok,s198_ok,s274_ok,s340_ok,s272_ok,s273_ok,s251_ok,s267_ok,s269_ok,s271_ok,s526_ok,s344_ok,s502_ok,s547_ok,s561_ok,s503_ok,s504_ok,s527_ok,trivial⟩
noncomputable def lookH (i:Nat) (l:List (Nat × (Env→FC))):Option (Env→FC):=List.rec (motive:=λ _=>Option (Env→FC)) none (λ p _ ih=>Bool.rec (motive:=λ _=>Option (Env→FC)) ih (some p.2) (Nat.beq p.1 i)) l
theorem lookH_ok {i:Nat} {s:Env→FC}:∀ {l:List (Nat × (Env→FC))},AllHot l→lookH i l=some s→HotOK i s
  | [],_,h=>nomatch h
  | p :: l,⟨h1,h2⟩,h=>by
    have h:Bool.rec (motive:=λ _=>Option (Env→FC)) (lookH i l) (some p.2) (Nat.beq p.1 i)=some s:=h
    cases hb:Nat.beq p.1 i with
    | false=>rw [hb] at h; exact lookH_ok h2 h
    | true =>
      rw [hb] at h
      rw [← Nat.eq_of_beq_eq_true hb]
      cases h
      exact h1
noncomputable def hot:T (Option (Env→FC)):=mkT none 10 (λ i=>lookH i hotL)
theorem hot_ok {i:Nat} {s:Env→FC} (h:hot.get i=some s):HotOK i s:=by
  rcases get_mkT none 10 (λ i=>lookH i hotL) i with e | e
  · exact lookH_ok hotL_ok (e.symm.trans h)
  · exact nomatch (e.symm.trans h)
noncomputable def funS (t:ExtT) (f:FuncId):FC :=
  match t.get f with
  | some _=>funC (EX t) KK f
  | none=>match hot.get f with
    | some s=>s (EX t)
    | none=>funC (EX t) KK f
noncomputable def callS (t:ExtT) (n:Nat):RC :=
  Nat.rec (motive:=λ _=>RC) (λ _ _ _ _=>none) (λ _ ih f args h k=>(funS t f).run ih args h k) n
theorem funC_funB {t:ExtT} {f:FuncId} (h:t.get f=none):funC (EX t) KK f=funB (EX t) KK f:=by
  unfold funC funB
  cases (EX t).funs.get f with
  | none=>rfl
  | some fn =>
    have:(EX t).ext f=none:=h
    simp only [this]
    cases fn.body <;> rfl
theorem funS_ok {t:ExtT} {rc:RC} (hrc:RcOk (EX t) rc) (f:FuncId) (args:List Value) (h:H) (k:Value→H→R) (r) (hk:(funS t f).run rc args h k=some r) :
    ∃ v h',(Ev λ N=>callV (EX t) (exec (EX t) N) f args h=some (v,h'))∧k v h'=some r:=by
  refine funC_ok (K:=KK) hrc f args h k r ?_
  unfold funS at hk
  split at hk
  · exact hk
  · rename_i h0
    split at hk
    · rename_i s hs
      rw [funC_funB h0]
      exact hot_ok hs t rc args h k r hk
    · exact hk
theorem callS_ok (t:ExtT) (n:Nat):RcOk (EX t) (callS t n):=by
  induction n with
  | zero=>intro f args h k r hk; exact nomatch hk
  | succ n ih=>intro f args h k r hk; exact funS_ok ih f args h k r hk
end Go.Ev
