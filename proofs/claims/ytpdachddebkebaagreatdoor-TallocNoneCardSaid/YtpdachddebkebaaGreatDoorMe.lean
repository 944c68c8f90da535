/-
  Hot functions of a program as plain Lean, in one piece each; printed by a program.
-/
import Derived.Test.YtpdachddebkebaaGreatDoorKa
import Derived.KernelRfl
import Derived.Test.YtpdachddebkebaaGreatDoorMa
import Derived.Test.YtpdachddebkebaaGreatDoorMb
import Derived.Test.YtpdachddebkebaaGreatDoorMc
import Derived.Test.YtpdachddebkebaaGreatDoorMd
import Derived.Test.YtpdachddebkebaaGreatDoorEe
set_option linter.unusedVariables false
set_option linter.unusedSimpArgs false
namespace Go.Ev
open Go F Go.Proofs
set_option maxRecDepth 100000
set_option linter.unusedVariables false
noncomputable def q333 (E : Env) (rc : RC) (a0 a1 : Value) (h : H) (k : Value → H → R) : R := onCells a0 fun a => ifB (allF (fun b => cell1F b) a) (ifB (Nat.ble h.1 1000000000) (letH (hpush h (.row 261 (lenF a) false false 0 (T.ofList unk a))) fun b => binR (binC E .geq 3 (isC (.tmp 5)) (isC (.const (.int .i64 0)))) a1 (.int .i64 (.ofNat 0)) fun c => joinV (fun d e => joinV (fun f g => joinV (fun i j => joinV (fun l m => joinV (fun n o => onB c (k (.bool false) o) (k n o)) fun n => onG c (n undef m) (binR (binC E .lss 3 (isC (.tmp 8)) (isC (.tmp 11))) d l fun o => n o m) (n undef m)) fun l => onG c (l undef j) (onSl i (bindO (lenV E j 75 i) fun m => l m j) fun _ m _ => l (.int .i64 (.ofNat m)) j) (l undef j)) fun i => onG c (i undef g) (onPtr f fun j => onRow (hget g j.1) fun _ l _ _ _ m => ifB (Nat.ble (Nat.succ j.2) l) (i (getF m j.2) g)) (i undef g)) fun f => onG c (f undef e) (f (.pointer (some (Addr.mk h.1 0 none))) e) (f undef e)) fun d => onG c (d undef b) (d a1 b) (d undef b)))
theorem q333_eq (t : ExtT) (rc : RC) (a0 a1 : Value) (h : H) (k : Value → H → R) : (funB (EX t) KK 333).run rc [a0, a1] h k = q333 (EX t) rc a0 a1 h k := by kernel_rfl
noncomputable def q332 (E : Env) (rc : RC) (a0 a1 : Value) (h : H) (k : Value → H → R) : R := onCells a0 fun a => ifB (allF (fun b => cell1F b) a) (ifB (Nat.ble h.1 1000000000) (letH (hpush h (.row 261 (lenF a) false false 0 (T.ofList unk a))) fun b => onRow (hget b h.1) fun _ c _ _ _ d => ifB (Nat.ble (Nat.succ 0) c) (bindO (sliceV E 75 (getF d 0) none (some a1) none) fun e => onSl e (bindO (lenV E b 75 e) fun f => @joinR [5] (fun g i => k g.1 i) fun g => @loopF [5, 13] (fun i j l => binR (binC E .lss 3 (isC (.tmp 13)) (isC (.tmp 12))) j.2.1 f fun m => @joinR [] (fun _ n => @joinR [5] (fun o p => binR (binC E .add 3 (isC (.tmp 13)) (isC (.const (.int .i64 1)))) j.2.1 (.int .i64 (.ofNat 1)) fun q => i (o.1, (q, ())) p) fun o => onNat j.2.1 none fun p => onSl e none fun q r _ => ifB (Nat.ble (Nat.succ p) r) (addOffF q (Nat.mul p 1) fun s => onPtr s fun t => onRow (hget n t.1) fun _ u _ _ _ v => ifB (Nat.ble (Nat.succ t.2) u) (binR (binC E .add 3 (isC (.tmp 17)) (isC (.tmp 18))) j.1 (getF v t.2) fun w => o (w, ()) n))) fun n => onB m (g (j.1, ()) l) (n () l)) 1000000 (.int .i64 (.ofNat 0), (.int .i64 (.ofNat 0), ())) b) fun _ f _ => @joinR [5] (fun g i => k g.1 i) fun g => @loopF [5, 13] (fun i j l => binR (binC E .lss 3 (isC (.tmp 13)) (isC (.tmp 12))) j.2.1 (.int .i64 (.ofNat f)) fun m => @joinR [] (fun _ n => @joinR [5] (fun o p => binR (binC E .add 3 (isC (.tmp 13)) (isC (.const (.int .i64 1)))) j.2.1 (.int .i64 (.ofNat 1)) fun q => i (o.1, (q, ())) p) fun o => onNat j.2.1 none fun p => onSl e none fun q r _ => ifB (Nat.ble (Nat.succ p) r) (addOffF q (Nat.mul p 1) fun s => onPtr s fun t => onRow (hget n t.1) fun _ u _ _ _ v => ifB (Nat.ble (Nat.succ t.2) u) (binR (binC E .add 3 (isC (.tmp 17)) (isC (.tmp 18))) j.1 (getF v t.2) fun w => o (w, ()) n))) fun n => onB m (g (j.1, ()) l) (n () l)) 1000000 (.int .i64 (.ofNat 0), (.int .i64 (.ofNat 0), ())) b)))
theorem q332_eq (t : ExtT) (rc : RC) (a0 a1 : Value) (h : H) (k : Value → H → R) : (funB (EX t) KK 332).run rc [a0, a1] h k = q332 (EX t) rc a0 a1 h k := by kernel_rfl
noncomputable def q334 (E : Env) (rc : RC) (a0 a1 : Value) (h : H) (k : Value → H → R) : R := onCells a0 fun a => ifB (allF (fun b => cell1F b) a) (ifB (Nat.ble h.1 1000000000) (letH (hpush h (.row 261 (lenF a) false false 0 (T.ofList unk a))) fun b => onRow (hget b h.1) fun _ c _ _ _ d => ifB (Nat.ble (Nat.add 0 1) c) (rc 333 [.agg ⟨cellsF d 1 0⟩, a1] b fun e f => onB e (@joinR [4] (fun _ g => onRow (hget g h.1) fun _ i _ _ _ j => ifB (Nat.ble (Nat.add 0 1) i) (rc 332 [.agg ⟨cellsF j 1 0⟩, a1] g fun l m => k l m)) fun _ => k (.int .i64 (.ofNat 0)) f) (@joinR [4] (fun _ g => onRow (hget g h.1) fun _ i _ _ _ j => ifB (Nat.ble (Nat.add 0 1) i) (rc 332 [.agg ⟨cellsF j 1 0⟩, a1] g fun l m => k l m)) fun g => g (.int .i64 (.ofNat 0), ()) f))))
theorem q334_eq (t : ExtT) (rc : RC) (a0 a1 : Value) (h : H) (k : Value → H → R) : (funB (EX t) KK 334).run rc [a0, a1] h k = q334 (EX t) rc a0 a1 h k := by kernel_rfl
noncomputable def q285 (E : Env) (rc : RC) (a0 a1 a2 : Value) (h : H) (k : Value → H → R) : R := onCells a0 fun a => ifB (allF (fun b => cell1F b) a) (ifB (Nat.ble h.1 1000000000) (letH (hpush h (.row 261 (lenF a) false false 0 (T.ofList unk a))) fun b => onCells a1 fun c => ifB (allF (fun d => cell1F d) c) (ifB (Nat.ble b.1 1000000000) (letH (hpush b (.row 63 (lenF c) false false 0 (T.ofList unk c))) fun d => onRow (hget d h.1) fun _ e _ _ _ f => ifB (Nat.ble (Nat.add 0 1) e) (rc 333 [.agg ⟨cellsF f 1 0⟩, a2] d fun g i => onB g (@joinR [6, 7] (fun _ j => ifB (Nat.ble j.1 1000000000) (letH (H.mk (Nat.add j.1 0) j.2) fun l => onRow (hget l b.1) fun _ m _ _ _ n => ifB (Nat.ble (Nat.add 0 3) m) (onRow (hget l h.1) fun _ o _ _ _ p => ifB (Nat.ble (Nat.add 0 1) o) (onRow (hget l h.1) fun _ q _ _ _ r => ifB (Nat.ble (Nat.succ 0) q) (onNat a2 none fun s => onSl (getF r 0) none fun t u _ => ifB (Nat.ble (Nat.succ s) u) (addOffF t (Nat.mul s 1) fun v => onPtr v fun w => onRow (hget l w.1) fun _ x _ _ _ y => ifB (Nat.ble (Nat.succ w.2) x) (rc 334 [.agg ⟨cellsF p 1 0⟩, a2] l fun z a3 => onRow (hget a3 b.1) fun _ a4 _ _ _ a5 => ifB (Nat.ble (Nat.add 0 3) a4) (ifB (sameW (.agg ⟨cellsF a5 3 0⟩) (.agg ⟨cellsF n 3 0⟩)) (ifB (sameW (.pointer (some (Addr.mk h.1 0 none))) (.pointer (some (Addr.mk h.1 0 none)))) (onRow (hget a3 h.1) fun _ a6 _ _ _ a7 => ifB (Nat.ble (Nat.succ 0) a6) (ifB (sameW (getF a7 0) (getF r 0)) (ifB (sameW a2 a2) (onNat a2 none fun a8 => onSl (getF r 0) none fun a9 b0 _ => ifB (Nat.ble (Nat.succ a8) b0) (addOffF a9 (Nat.mul a8 1) fun b1 => ifB (sameW b1 v) (onPtr v fun b2 => onRow (hget a3 b2.1) fun _ b3 _ _ _ b4 => ifB (Nat.ble (Nat.succ b2.2) b3) (ifB (sameW (getF b4 b2.2) (getF y w.2)) (rc 89 [.agg ⟨cellsF n 3 0⟩, z, getF y w.2] a3 fun b5 b6 => onTup b5 fun b7 => nthF 0 b7 fun b8 => onTup b5 fun b9 => nthF 1 b9 fun c0 => ifB (List.all [b8, c0] fun c1 => Bool.not (isTuple c1)) (k (.tuple ⟨[b8, c0]⟩) b6)))))))))))))))))) fun _ => k (.tuple ⟨[.int .u64 (.ofNat 0), .int .i64 (.ofNat 2)]⟩) i) (@joinR [6, 7] (fun _ j => ifB (Nat.ble j.1 1000000000) (letH (H.mk (Nat.add j.1 0) j.2) fun l => onRow (hget l b.1) fun _ m _ _ _ n => ifB (Nat.ble (Nat.add 0 3) m) (onRow (hget l h.1) fun _ o _ _ _ p => ifB (Nat.ble (Nat.add 0 1) o) (onRow (hget l h.1) fun _ q _ _ _ r => ifB (Nat.ble (Nat.succ 0) q) (onNat a2 none fun s => onSl (getF r 0) none fun t u _ => ifB (Nat.ble (Nat.succ s) u) (addOffF t (Nat.mul s 1) fun v => onPtr v fun w => onRow (hget l w.1) fun _ x _ _ _ y => ifB (Nat.ble (Nat.succ w.2) x) (rc 334 [.agg ⟨cellsF p 1 0⟩, a2] l fun z a3 => onRow (hget a3 b.1) fun _ a4 _ _ _ a5 => ifB (Nat.ble (Nat.add 0 3) a4) (ifB (sameW (.agg ⟨cellsF a5 3 0⟩) (.agg ⟨cellsF n 3 0⟩)) (ifB (sameW (.pointer (some (Addr.mk h.1 0 none))) (.pointer (some (Addr.mk h.1 0 none)))) (onRow (hget a3 h.1) fun _ a6 _ _ _ a7 => ifB (Nat.ble (Nat.succ 0) a6) (ifB (sameW (getF a7 0) (getF r 0)) (ifB (sameW a2 a2) (onNat a2 none fun a8 => onSl (getF r 0) none fun a9 b0 _ => ifB (Nat.ble (Nat.succ a8) b0) (addOffF a9 (Nat.mul a8 1) fun b1 => ifB (sameW b1 v) (onPtr v fun b2 => onRow (hget a3 b2.1) fun _ b3 _ _ _ b4 => ifB (Nat.ble (Nat.succ b2.2) b3) (ifB (sameW (getF b4 b2.2) (getF y w.2)) (rc 89 [.agg ⟨cellsF n 3 0⟩, z, getF y w.2] a3 fun b5 b6 => onTup b5 fun b7 => nthF 0 b7 fun b8 => onTup b5 fun b9 => nthF 1 b9 fun c0 => ifB (List.all [b8, c0] fun c1 => Bool.not (isTuple c1)) (k (.tuple ⟨[b8, c0]⟩) b6)))))))))))))))))) fun j => j (.int .u64 (.ofNat 0), (.int .i64 (.ofNat 0), ())) i))))))
theorem q285_eq (t : ExtT) (rc : RC) (a0 a1 a2 : Value) (h : H) (k : Value → H → R) : (funB (EX t) KK 285).run rc [a0, a1, a2] h k = q285 (EX t) rc a0 a1 a2 h k := by kernel_rfl
noncomputable def q192 (E : Env) (rc : RC) (a0 a1 : Value) (h : H) (k : Value → H → R) : R := onCells a0 fun a => ifB (allF (fun b => cell1F b) a) (ifB (Nat.ble h.1 1000000000) (letH (hpush h (.row 82 (lenF a) false false 0 (T.ofList unk a))) fun b => onRow (hget b h.1) fun _ c _ _ _ d => ifB (Nat.ble (Nat.add 0 3) c) (binR (binC E .mul 3 (isC (.tmp 13)) (isC (.const (.int .i64 16)))) a1 (.int .i64 (.ofNat 16)) fun e => rc 89 [.agg ⟨cellsF d 3 0⟩, e, .int .i64 (.ofNat 8)] b fun f g => onTup f fun i => nthF 0 i fun j => onTup f fun l => nthF 1 l fun _ => onRow (hget g h.1) fun _ m _ _ _ n => ifB (Nat.ble (Nat.add 0 3) m) (binR (binC E .mul 3 (isC (.tmp 21)) (isC (.const (.int .i64 16)))) a1 (.int .i64 (.ofNat 16)) fun o => binR (binC E .add 3 (isC (.tmp 22)) (isC (.const (.int .i64 8)))) o (.int .i64 (.ofNat 8)) fun p => rc 89 [.agg ⟨cellsF n 3 0⟩, p, .int .i64 (.ofNat 8)] g fun q r => onTup q fun s => nthF 0 s fun t => onTup q fun u => nthF 1 u fun _ => onNat j (bindO (convV E r 22 3 j) fun v => ifB (List.all [v, t] fun w => Bool.not (isTuple w)) (k (.tuple ⟨[v, t]⟩) r)) fun v => @Bool.rec (fun _ => R) (bindO (convV E r 22 3 j) fun w => ifB (List.all [w, t] fun x => Bool.not (isTuple x)) (k (.tuple ⟨[w, t]⟩) r)) (ifB (List.all [.int .i64 (.ofNat v), t] fun w => Bool.not (isTuple w)) (k (.tuple ⟨[.int .i64 (.ofNat v), t]⟩) r)) (Nat.ble v 9223372036854775807)))))
theorem q192_eq (t : ExtT) (rc : RC) (a0 a1 : Value) (h : H) (k : Value → H → R) : (funB (EX t) KK 192).run rc [a0, a1] h k = q192 (EX t) rc a0 a1 h k := by kernel_rfl
noncomputable def q209 (E : Env) (rc : RC) (a0 : Value) (h : H) (k : Value → H → R) : R := onCells a0 fun a => ifB (allF (fun b => cell1F b) a) (ifB (Nat.ble h.1 1000000000) (letH (hpush h (.row 63 (lenF a) false false 0 (T.ofList unk a))) fun b => onRow (hget b h.1) fun _ c _ _ _ d => ifB (Nat.ble (Nat.succ (Nat.add 0 2)) c) (k (getF d (Nat.add 0 2)) b)))
theorem q209_eq (t : ExtT) (rc : RC) (a0 : Value) (h : H) (k : Value → H → R) : (funB (EX t) KK 209).run rc [a0] h k = q209 (EX t) rc a0 h k := by kernel_rfl
noncomputable def q284 (E : Env) (rc : RC) (a0 : Value) (h : H) (k : Value → H → R) : R := onCells a0 fun a => ifB (allF (fun b => cell1F b) a) (ifB (Nat.ble h.1 1000000000) (letH (hpush h (.row 261 (lenF a) false false 0 (T.ofList unk a))) fun b => onRow (hget b h.1) fun _ c _ _ _ d => ifB (Nat.ble (Nat.add 0 1) c) (onRow (hget b h.1) fun _ e _ _ _ f => ifB (Nat.ble (Nat.succ 0) e) (onSl (getF f 0) (bindO (lenV E b 75 (getF f 0)) fun g => rc 332 [.agg ⟨cellsF d 1 0⟩, g] b fun i j => k i j) fun _ g _ => rc 332 [.agg ⟨cellsF d 1 0⟩, .int .i64 (.ofNat g)] b fun i j => k i j))))
theorem q284_eq (t : ExtT) (rc : RC) (a0 : Value) (h : H) (k : Value → H → R) : (funB (EX t) KK 284).run rc [a0] h k = q284 (EX t) rc a0 h k := by kernel_rfl
noncomputable def q96 (E : Env) (rc : RC) (a0 : Value) (h : H) (k : Value → H → R) : R := binR (binC E .lss 3 (isC (.tmp 3)) (isC (.const (.int .i64 0)))) a0 (.int .i64 (.ofNat 0)) fun a => joinV (fun b c => joinV (fun d e => onB a (@joinR [2] (fun _ f => binR (binC E .shl 3 (isC (.const (.int .i64 4096))) (isC (.tmp 9))) (.int .i64 (.ofNat 4096)) a0 fun g => k g f) fun f => onB d (f (.int .i64 (.ofNat 0), ()) e) (k (.int .i64 (.ofNat 0)) e)) (@joinR [2] (fun _ f => binR (binC E .shl 3 (isC (.const (.int .i64 4096))) (isC (.tmp 9))) (.int .i64 (.ofNat 4096)) a0 fun g => k g f) fun _ => k (.int .i64 (.ofNat 0)) e)) fun d => onG a (binR (binC E .gtr 3 (isC (.tmp 6)) (isC (.const (.int .i64 10)))) b (.int .i64 (.ofNat 10)) fun e => d e c) (d undef c) (d undef c)) fun b => onG a (b a0 h) (b undef h) (b undef h)
theorem q96_eq (t : ExtT) (rc : RC) (a0 : Value) (h : H) (k : Value → H → R) : (funB (EX t) KK 96).run rc [a0] h k = q96 (EX t) rc a0 h k := by kernel_rfl
end Go.Ev
namespace Go.Ev
open Go F Go.Proofs
set_option maxRecDepth 100000
set_option linter.unusedVariables false
noncomputable def un0 (l : List Value) (k : R) : R := List.rec (motive := fun _ => R) k (fun _ _ _ => none) l
noncomputable def un1 (l : List Value) (k : Value → R) : R := List.rec (motive := fun _ => R) none (fun a l _ => un0 l (k a)) l
noncomputable def un2 (l : List Value) (k : Value → Value → R) : R := List.rec (motive := fun _ => R) none (fun a l _ => un1 l (k a)) l
noncomputable def un3 (l : List Value) (k : Value → Value → Value → R) : R := List.rec (motive := fun _ => R) none (fun a l _ => un2 l (k a)) l
noncomputable def un4 (l : List Value) (k : Value → Value → Value → Value → R) : R := List.rec (motive := fun _ => R) none (fun a l _ => un3 l (k a)) l
noncomputable def un5 (l : List Value) (k : Value → Value → Value → Value → Value → R) : R := List.rec (motive := fun _ => R) none (fun a l _ => un4 l (k a)) l
theorem un0_some {l : List Value} {k : R} {r} (h : un0 l k = some r) : l = [] ∧ k = some r := by
  cases l with
  | nil => exact ⟨rfl, h⟩
  | cons a l => exact nomatch h
theorem un1_some {l : List Value} {k : Value → R} {r} (h : un1 l k = some r) : ∃ a, l = [a] ∧ k a = some r := by
  cases l with
  | nil => exact nomatch h
  | cons a l =>
    obtain ⟨rfl, h⟩ := un0_some (l := l) (k := k a) h
    exact ⟨a, rfl, h⟩
theorem un2_some {l : List Value} {k : Value → Value → R} {r} (h : un2 l k = some r) : ∃ a b, l = [a, b] ∧ k a b = some r := by
  cases l with
  | nil => exact nomatch h
  | cons a l =>
    obtain ⟨b, rfl, h⟩ := un1_some (l := l) (k := k a) h
    exact ⟨a, b, rfl, h⟩
theorem un3_some {l : List Value} {k : Value → Value → Value → R} {r} (h : un3 l k = some r) : ∃ a b c, l = [a, b, c] ∧ k a b c = some r := by
  cases l with
  | nil => exact nomatch h
  | cons a l =>
    obtain ⟨b, c, rfl, h⟩ := un2_some (l := l) (k := k a) h
    exact ⟨a, b, c, rfl, h⟩
theorem un4_some {l : List Value} {k : Value → Value → Value → Value → R} {r} (h : un4 l k = some r) : ∃ a b c d, l = [a, b, c, d] ∧ k a b c d = some r := by
  cases l with
  | nil => exact nomatch h
  | cons a l =>
    obtain ⟨b, c, d, rfl, h⟩ := un3_some (l := l) (k := k a) h
    exact ⟨a, b, c, d, rfl, h⟩
theorem un5_some {l : List Value} {k : Value → Value → Value → Value → Value → R} {r} (h : un5 l k = some r) : ∃ a b c d e, l = [a, b, c, d, e] ∧ k a b c d e = some r := by
  cases l with
  | nil => exact nomatch h
  | cons a l =>
    obtain ⟨b, c, d, e, rfl, h⟩ := un4_some (l := l) (k := k a) h
    exact ⟨a, b, c, d, e, rfl, h⟩
/-- A plain form and the function that it stands for. -/
def HotOK (f : FuncId) (s : Env → FC) : Prop := ∀ (t : ExtT) rc args h k r, (s (EX t)).run rc args h k = some r → (funB (EX t) KK f).run rc args h k = some r
theorem hot0 {f : FuncId} {g : Env → RC → H → (Value → H → R) → R} (e : ∀ t rc h k, (funB (EX t) KK f).run rc [] h k = g (EX t) rc h k) : HotOK f (fun E => ⟨fun rc args h k => un0 args (g E rc h k)⟩) := by
  intro t rc args h k r hk
  obtain ⟨rfl, hk⟩ := un0_some hk
  rw [e]; exact hk
theorem hot1 {f : FuncId} {g : Env → RC → Value → H → (Value → H → R) → R} (e : ∀ t rc a h k, (funB (EX t) KK f).run rc [a] h k = g (EX t) rc a h k) : HotOK f (fun E => ⟨fun rc args h k => un1 args fun a => g E rc a h k⟩) := by
  intro t rc args h k r hk
  obtain ⟨a, rfl, hk⟩ := un1_some hk
  rw [e]; exact hk
theorem hot2 {f : FuncId} {g : Env → RC → Value → Value → H → (Value → H → R) → R} (e : ∀ t rc a b h k, (funB (EX t) KK f).run rc [a, b] h k = g (EX t) rc a b h k) : HotOK f (fun E => ⟨fun rc args h k => un2 args fun a b => g E rc a b h k⟩) := by
  intro t rc args h k r hk
  obtain ⟨a, b, rfl, hk⟩ := un2_some hk
  rw [e]; exact hk
theorem hot3 {f : FuncId} {g : Env → RC → Value → Value → Value → H → (Value → H → R) → R} (e : ∀ t rc a b c h k, (funB (EX t) KK f).run rc [a, b, c] h k = g (EX t) rc a b c h k) : HotOK f (fun E => ⟨fun rc args h k => un3 args fun a b c => g E rc a b c h k⟩) := by
  intro t rc args h k r hk
  obtain ⟨a, b, c, rfl, hk⟩ := un3_some hk
  rw [e]; exact hk
theorem hot4 {f : FuncId} {g : Env → RC → Value → Value → Value → Value → H → (Value → H → R) → R} (e : ∀ t rc a b c d h k, (funB (EX t) KK f).run rc [a, b, c, d] h k = g (EX t) rc a b c d h k) : HotOK f (fun E => ⟨fun rc args h k => un4 args fun a b c d => g E rc a b c d h k⟩) := by
  intro t rc args h k r hk
  obtain ⟨a, b, c, d, rfl, hk⟩ := un4_some hk
  rw [e]; exact hk
theorem hot5 {f : FuncId} {g : Env → RC → Value → Value → Value → Value → Value → H → (Value → H → R) → R} (e : ∀ t rc a b c d x h k, (funB (EX t) KK f).run rc [a, b, c, d, x] h k = g (EX t) rc a b c d x h k) : HotOK f (fun E => ⟨fun rc args h k => un5 args fun a b c d x => g E rc a b c d x h k⟩) := by
  intro t rc args h k r hk
  obtain ⟨a, b, c, d, x, rfl, hk⟩ := un5_some hk
  rw [e]; exact hk
noncomputable def s25 : Env → FC := fun E => ⟨fun rc args h k => un1 args fun a => g25 E rc a h k⟩
theorem s25_ok : HotOK 25 s25 := hot1 (f := 25) (g := g25) g25_eq
noncomputable def s28 : Env → FC := fun E => ⟨fun rc args h k => un2 args fun a b => g28 E rc a b h k⟩
theorem s28_ok : HotOK 28 s28 := hot2 (f := 28) (g := g28) g28_eq
noncomputable def s31 : Env → FC := fun E => ⟨fun rc args h k => un1 args fun a => g31 E rc a h k⟩
theorem s31_ok : HotOK 31 s31 := hot1 (f := 31) (g := g31) g31_eq
noncomputable def s43 : Env → FC := fun E => ⟨fun rc args h k => un2 args fun a b => g43 E rc a b h k⟩
theorem s43_ok : HotOK 43 s43 := hot2 (f := 43) (g := g43) g43_eq
noncomputable def s44 : Env → FC := fun E => ⟨fun rc args h k => un1 args fun a => g44 E rc a h k⟩
theorem s44_ok : HotOK 44 s44 := hot1 (f := 44) (g := g44) g44_eq
noncomputable def s54 : Env → FC := fun E => ⟨fun rc args h k => un5 args fun a b c d x => g54 E rc a b c d x h k⟩
theorem s54_ok : HotOK 54 s54 := hot5 (f := 54) (g := g54) g54_eq
noncomputable def s80 : Env → FC := fun E => ⟨fun rc args h k => un2 args fun a b => g80 E rc a b h k⟩
theorem s80_ok : HotOK 80 s80 := hot2 (f := 80) (g := g80) g80_eq
noncomputable def s81 : Env → FC := fun E => ⟨fun rc args h k => un4 args fun a b c d => g81 E rc a b c d h k⟩
theorem s81_ok : HotOK 81 s81 := hot4 (f := 81) (g := g81) g81_eq
noncomputable def s84 : Env → FC := fun E => ⟨fun rc args h k => un4 args fun a b c d => g84 E rc a b c d h k⟩
theorem s84_ok : HotOK 84 s84 := hot4 (f := 84) (g := g84) g84_eq
noncomputable def s85 : Env → FC := fun E => ⟨fun rc args h k => un3 args fun a b c => g85 E rc a b c h k⟩
theorem s85_ok : HotOK 85 s85 := hot3 (f := 85) (g := g85) g85_eq
noncomputable def s87 : Env → FC := fun E => ⟨fun rc args h k => un2 args fun a b => g87 E rc a b h k⟩
theorem s87_ok : HotOK 87 s87 := hot2 (f := 87) (g := g87) g87_eq
noncomputable def s88 : Env → FC := fun E => ⟨fun rc args h k => un2 args fun a b => g88 E rc a b h k⟩
theorem s88_ok : HotOK 88 s88 := hot2 (f := 88) (g := g88) g88_eq
noncomputable def s90 : Env → FC := fun E => ⟨fun rc args h k => un2 args fun a b => g90 E rc a b h k⟩
theorem s90_ok : HotOK 90 s90 := hot2 (f := 90) (g := g90) g90_eq
noncomputable def s92 : Env → FC := fun E => ⟨fun rc args h k => un1 args fun a => g92 E rc a h k⟩
theorem s92_ok : HotOK 92 s92 := hot1 (f := 92) (g := g92) g92_eq
noncomputable def s96 : Env → FC := fun E => ⟨fun rc args h k => un1 args fun a => g96 E rc a h k⟩
theorem s96_ok : HotOK 96 s96 := hot1 (f := 96) (g := g96) g96_eq
noncomputable def s99 : Env → FC := fun E => ⟨fun rc args h k => un3 args fun a b c => g99 E rc a b c h k⟩
theorem s99_ok : HotOK 99 s99 := hot3 (f := 99) (g := g99) g99_eq
noncomputable def s100 : Env → FC := fun E => ⟨fun rc args h k => un1 args fun a => g100 E rc a h k⟩
theorem s100_ok : HotOK 100 s100 := hot1 (f := 100) (g := g100) g100_eq
noncomputable def s105 : Env → FC := fun E => ⟨fun rc args h k => un2 args fun a b => g105 E rc a b h k⟩
theorem s105_ok : HotOK 105 s105 := hot2 (f := 105) (g := g105) g105_eq
noncomputable def s110 : Env → FC := fun E => ⟨fun rc args h k => un1 args fun a => g110 E rc a h k⟩
theorem s110_ok : HotOK 110 s110 := hot1 (f := 110) (g := g110) g110_eq
noncomputable def s112 : Env → FC := fun E => ⟨fun rc args h k => un2 args fun a b => g112 E rc a b h k⟩
theorem s112_ok : HotOK 112 s112 := hot2 (f := 112) (g := g112) g112_eq
noncomputable def s113 : Env → FC := fun E => ⟨fun rc args h k => un1 args fun a => g113 E rc a h k⟩
theorem s113_ok : HotOK 113 s113 := hot1 (f := 113) (g := g113) g113_eq
noncomputable def s114 : Env → FC := fun E => ⟨fun rc args h k => un2 args fun a b => g114 E rc a b h k⟩
theorem s114_ok : HotOK 114 s114 := hot2 (f := 114) (g := g114) g114_eq
noncomputable def s130 : Env → FC := fun E => ⟨fun rc args h k => un2 args fun a b => g130 E rc a b h k⟩
theorem s130_ok : HotOK 130 s130 := hot2 (f := 130) (g := g130) g130_eq
noncomputable def s137 : Env → FC := fun E => ⟨fun rc args h k => un3 args fun a b c => g137 E rc a b c h k⟩
theorem s137_ok : HotOK 137 s137 := hot3 (f := 137) (g := g137) g137_eq
noncomputable def s140 : Env → FC := fun E => ⟨fun rc args h k => un2 args fun a b => g140 E rc a b h k⟩
theorem s140_ok : HotOK 140 s140 := hot2 (f := 140) (g := g140) g140_eq
noncomputable def s147 : Env → FC := fun E => ⟨fun rc args h k => un3 args fun a b c => g147 E rc a b c h k⟩
theorem s147_ok : HotOK 147 s147 := hot3 (f := 147) (g := g147) g147_eq
noncomputable def s154 : Env → FC := fun E => ⟨fun rc args h k => un1 args fun a => g154 E rc a h k⟩
theorem s154_ok : HotOK 154 s154 := hot1 (f := 154) (g := g154) g154_eq
noncomputable def s157 : Env → FC := fun E => ⟨fun rc args h k => un3 args fun a b c => g157 E rc a b c h k⟩
theorem s157_ok : HotOK 157 s157 := hot3 (f := 157) (g := g157) g157_eq
noncomputable def s159 : Env → FC := fun E => ⟨fun rc args h k => un2 args fun a b => g159 E rc a b h k⟩
theorem s159_ok : HotOK 159 s159 := hot2 (f := 159) (g := g159) g159_eq
noncomputable def s160 : Env → FC := fun E => ⟨fun rc args h k => un2 args fun a b => g160 E rc a b h k⟩
theorem s160_ok : HotOK 160 s160 := hot2 (f := 160) (g := g160) g160_eq
noncomputable def s161 : Env → FC := fun E => ⟨fun rc args h k => un3 args fun a b c => g161 E rc a b c h k⟩
theorem s161_ok : HotOK 161 s161 := hot3 (f := 161) (g := g161) g161_eq
noncomputable def s162 : Env → FC := fun E => ⟨fun rc args h k => un2 args fun a b => g162 E rc a b h k⟩
theorem s162_ok : HotOK 162 s162 := hot2 (f := 162) (g := g162) g162_eq
noncomputable def s163 : Env → FC := fun E => ⟨fun rc args h k => un4 args fun a b c d => g163 E rc a b c d h k⟩
theorem s163_ok : HotOK 163 s163 := hot4 (f := 163) (g := g163) g163_eq
noncomputable def s164 : Env → FC := fun E => ⟨fun rc args h k => un3 args fun a b c => g164 E rc a b c h k⟩
theorem s164_ok : HotOK 164 s164 := hot3 (f := 164) (g := g164) g164_eq
noncomputable def s166 : Env → FC := fun E => ⟨fun rc args h k => un4 args fun a b c d => g166 E rc a b c d h k⟩
theorem s166_ok : HotOK 166 s166 := hot4 (f := 166) (g := g166) g166_eq
noncomputable def s168 : Env → FC := fun E => ⟨fun rc args h k => un3 args fun a b c => g168 E rc a b c h k⟩
theorem s168_ok : HotOK 168 s168 := hot3 (f := 168) (g := g168) g168_eq
noncomputable def s169 : Env → FC := fun E => ⟨fun rc args h k => un3 args fun a b c => g169 E rc a b c h k⟩
theorem s169_ok : HotOK 169 s169 := hot3 (f := 169) (g := g169) g169_eq
noncomputable def s173 : Env → FC := fun E => ⟨fun rc args h k => un4 args fun a b c d => g173 E rc a b c d h k⟩
theorem s173_ok : HotOK 173 s173 := hot4 (f := 173) (g := g173) g173_eq
noncomputable def s176 : Env → FC := fun E => ⟨fun rc args h k => un4 args fun a b c d => g176 E rc a b c d h k⟩
theorem s176_ok : HotOK 176 s176 := hot4 (f := 176) (g := g176) g176_eq
noncomputable def s177 : Env → FC := fun E => ⟨fun rc args h k => un1 args fun a => g177 E rc a h k⟩
theorem s177_ok : HotOK 177 s177 := hot1 (f := 177) (g := g177) g177_eq
noncomputable def s186 : Env → FC := fun E => ⟨fun rc args h k => un2 args fun a b => g186 E rc a b h k⟩
theorem s186_ok : HotOK 186 s186 := hot2 (f := 186) (g := g186) g186_eq
noncomputable def s187 : Env → FC := fun E => ⟨fun rc args h k => un2 args fun a b => g187 E rc a b h k⟩
theorem s187_ok : HotOK 187 s187 := hot2 (f := 187) (g := g187) g187_eq
noncomputable def s189 : Env → FC := fun E => ⟨fun rc args h k => un3 args fun a b c => g189 E rc a b c h k⟩
theorem s189_ok : HotOK 189 s189 := hot3 (f := 189) (g := g189) g189_eq
noncomputable def s190 : Env → FC := fun E => ⟨fun rc args h k => un2 args fun a b => g190 E rc a b h k⟩
theorem s190_ok : HotOK 190 s190 := hot2 (f := 190) (g := g190) g190_eq
noncomputable def s191 : Env → FC := fun E => ⟨fun rc args h k => un1 args fun a => g191 E rc a h k⟩
theorem s191_ok : HotOK 191 s191 := hot1 (f := 191) (g := g191) g191_eq
noncomputable def s192 : Env → FC := fun E => ⟨fun rc args h k => un2 args fun a b => g192 E rc a b h k⟩
theorem s192_ok : HotOK 192 s192 := hot2 (f := 192) (g := g192) g192_eq
noncomputable def s193 : Env → FC := fun E => ⟨fun rc args h k => un2 args fun a b => g193 E rc a b h k⟩
theorem s193_ok : HotOK 193 s193 := hot2 (f := 193) (g := g193) g193_eq
noncomputable def s194 : Env → FC := fun E => ⟨fun rc args h k => un3 args fun a b c => g194 E rc a b c h k⟩
theorem s194_ok : HotOK 194 s194 := hot3 (f := 194) (g := g194) g194_eq
noncomputable def s195 : Env → FC := fun E => ⟨fun rc args h k => un2 args fun a b => g195 E rc a b h k⟩
theorem s195_ok : HotOK 195 s195 := hot2 (f := 195) (g := g195) g195_eq
noncomputable def s196 : Env → FC := fun E => ⟨fun rc args h k => un1 args fun a => g196 E rc a h k⟩
theorem s196_ok : HotOK 196 s196 := hot1 (f := 196) (g := g196) g196_eq
noncomputable def s198 : Env → FC := fun E => ⟨fun rc args h k => un3 args fun a b c => g198 E rc a b c h k⟩
theorem s198_ok : HotOK 198 s198 := hot3 (f := 198) (g := g198) g198_eq
noncomputable def s200 : Env → FC := fun E => ⟨fun rc args h k => un1 args fun a => g200 E rc a h k⟩
theorem s200_ok : HotOK 200 s200 := hot1 (f := 200) (g := g200) g200_eq
noncomputable def s202 : Env → FC := fun E => ⟨fun rc args h k => un2 args fun a b => g202 E rc a b h k⟩
theorem s202_ok : HotOK 202 s202 := hot2 (f := 202) (g := g202) g202_eq
noncomputable def s203 : Env → FC := fun E => ⟨fun rc args h k => un0 args (g203 E rc h k)⟩
theorem s203_ok : HotOK 203 s203 := hot0 (f := 203) (g := g203) g203_eq
noncomputable def s204 : Env → FC := fun E => ⟨fun rc args h k => un2 args fun a b => g204 E rc a b h k⟩
theorem s204_ok : HotOK 204 s204 := hot2 (f := 204) (g := g204) g204_eq
noncomputable def s209 : Env → FC := fun E => ⟨fun rc args h k => un1 args fun a => g209 E rc a h k⟩
theorem s209_ok : HotOK 209 s209 := hot1 (f := 209) (g := g209) g209_eq
noncomputable def s218 : Env → FC := fun E => ⟨fun rc args h k => un2 args fun a b => g218 E rc a b h k⟩
theorem s218_ok : HotOK 218 s218 := hot2 (f := 218) (g := g218) g218_eq
noncomputable def s219 : Env → FC := fun E => ⟨fun rc args h k => un2 args fun a b => g219 E rc a b h k⟩
theorem s219_ok : HotOK 219 s219 := hot2 (f := 219) (g := g219) g219_eq
noncomputable def s225 : Env → FC := fun E => ⟨fun rc args h k => un3 args fun a b c => g225 E rc a b c h k⟩
theorem s225_ok : HotOK 225 s225 := hot3 (f := 225) (g := g225) g225_eq
noncomputable def s226 : Env → FC := fun E => ⟨fun rc args h k => un0 args (g226 E rc h k)⟩
theorem s226_ok : HotOK 226 s226 := hot0 (f := 226) (g := g226) g226_eq
noncomputable def s236 : Env → FC := fun E => ⟨fun rc args h k => un2 args fun a b => g236 E rc a b h k⟩
theorem s236_ok : HotOK 236 s236 := hot2 (f := 236) (g := g236) g236_eq
noncomputable def s242 : Env → FC := fun E => ⟨fun rc args h k => un3 args fun a b c => g242 E rc a b c h k⟩
theorem s242_ok : HotOK 242 s242 := hot3 (f := 242) (g := g242) g242_eq
noncomputable def s245 : Env → FC := fun E => ⟨fun rc args h k => un1 args fun a => g245 E rc a h k⟩
theorem s245_ok : HotOK 245 s245 := hot1 (f := 245) (g := g245) g245_eq
noncomputable def s250 : Env → FC := fun E => ⟨fun rc args h k => un3 args fun a b c => g250 E rc a b c h k⟩
theorem s250_ok : HotOK 250 s250 := hot3 (f := 250) (g := g250) g250_eq
noncomputable def s251 : Env → FC := fun E => ⟨fun rc args h k => un3 args fun a b c => g251 E rc a b c h k⟩
theorem s251_ok : HotOK 251 s251 := hot3 (f := 251) (g := g251) g251_eq
noncomputable def s254 : Env → FC := fun E => ⟨fun rc args h k => un2 args fun a b => g254 E rc a b h k⟩
theorem s254_ok : HotOK 254 s254 := hot2 (f := 254) (g := g254) g254_eq
noncomputable def s257 : Env → FC := fun E => ⟨fun rc args h k => un3 args fun a b c => g257 E rc a b c h k⟩
theorem s257_ok : HotOK 257 s257 := hot3 (f := 257) (g := g257) g257_eq
noncomputable def s258 : Env → FC := fun E => ⟨fun rc args h k => un2 args fun a b => g258 E rc a b h k⟩
theorem s258_ok : HotOK 258 s258 := hot2 (f := 258) (g := g258) g258_eq
noncomputable def s259 : Env → FC := fun E => ⟨fun rc args h k => un3 args fun a b c => g259 E rc a b c h k⟩
theorem s259_ok : HotOK 259 s259 := hot3 (f := 259) (g := g259) g259_eq
noncomputable def s260 : Env → FC := fun E => ⟨fun rc args h k => un3 args fun a b c => g260 E rc a b c h k⟩
theorem s260_ok : HotOK 260 s260 := hot3 (f := 260) (g := g260) g260_eq
noncomputable def s261 : Env → FC := fun E => ⟨fun rc args h k => un4 args fun a b c d => g261 E rc a b c d h k⟩
theorem s261_ok : HotOK 261 s261 := hot4 (f := 261) (g := g261) g261_eq
noncomputable def s262 : Env → FC := fun E => ⟨fun rc args h k => un1 args fun a => g262 E rc a h k⟩
theorem s262_ok : HotOK 262 s262 := hot1 (f := 262) (g := g262) g262_eq
noncomputable def s263 : Env → FC := fun E => ⟨fun rc args h k => un3 args fun a b c => g263 E rc a b c h k⟩
theorem s263_ok : HotOK 263 s263 := hot3 (f := 263) (g := g263) g263_eq
noncomputable def s265 : Env → FC := fun E => ⟨fun rc args h k => un1 args fun a => g265 E rc a h k⟩
theorem s265_ok : HotOK 265 s265 := hot1 (f := 265) (g := g265) g265_eq
noncomputable def s269 : Env → FC := fun E => ⟨fun rc args h k => un2 args fun a b => g269 E rc a b h k⟩
theorem s269_ok : HotOK 269 s269 := hot2 (f := 269) (g := g269) g269_eq
noncomputable def s277 : Env → FC := fun E => ⟨fun rc args h k => un4 args fun a b c d => g277 E rc a b c d h k⟩
theorem s277_ok : HotOK 277 s277 := hot4 (f := 277) (g := g277) g277_eq
noncomputable def s278 : Env → FC := fun E => ⟨fun rc args h k => un1 args fun a => g278 E rc a h k⟩
theorem s278_ok : HotOK 278 s278 := hot1 (f := 278) (g := g278) g278_eq
noncomputable def s279 : Env → FC := fun E => ⟨fun rc args h k => un1 args fun a => g279 E rc a h k⟩
theorem s279_ok : HotOK 279 s279 := hot1 (f := 279) (g := g279) g279_eq
noncomputable def s280 : Env → FC := fun E => ⟨fun rc args h k => un0 args (g280 E rc h k)⟩
theorem s280_ok : HotOK 280 s280 := hot0 (f := 280) (g := g280) g280_eq
noncomputable def s281 : Env → FC := fun E => ⟨fun rc args h k => un1 args fun a => g281 E rc a h k⟩
theorem s281_ok : HotOK 281 s281 := hot1 (f := 281) (g := g281) g281_eq
noncomputable def s282 : Env → FC := fun E => ⟨fun rc args h k => un1 args fun a => g282 E rc a h k⟩
theorem s282_ok : HotOK 282 s282 := hot1 (f := 282) (g := g282) g282_eq
noncomputable def s283 : Env → FC := fun E => ⟨fun rc args h k => un3 args fun a b c => g283 E rc a b c h k⟩
theorem s283_ok : HotOK 283 s283 := hot3 (f := 283) (g := g283) g283_eq
noncomputable def s284 : Env → FC := fun E => ⟨fun rc args h k => un1 args fun a => g284 E rc a h k⟩
theorem s284_ok : HotOK 284 s284 := hot1 (f := 284) (g := g284) g284_eq
noncomputable def s285 : Env → FC := fun E => ⟨fun rc args h k => un3 args fun a b c => g285 E rc a b c h k⟩
theorem s285_ok : HotOK 285 s285 := hot3 (f := 285) (g := g285) g285_eq
noncomputable def s287 : Env → FC := fun E => ⟨fun rc args h k => un2 args fun a b => g287 E rc a b h k⟩
theorem s287_ok : HotOK 287 s287 := hot2 (f := 287) (g := g287) g287_eq
noncomputable def s290 : Env → FC := fun E => ⟨fun rc args h k => un4 args fun a b c d => g290 E rc a b c d h k⟩
theorem s290_ok : HotOK 290 s290 := hot4 (f := 290) (g := g290) g290_eq
noncomputable def s294 : Env → FC := fun E => ⟨fun rc args h k => un3 args fun a b c => g294 E rc a b c h k⟩
theorem s294_ok : HotOK 294 s294 := hot3 (f := 294) (g := g294) g294_eq
noncomputable def s295 : Env → FC := fun E => ⟨fun rc args h k => un4 args fun a b c d => g295 E rc a b c d h k⟩
theorem s295_ok : HotOK 295 s295 := hot4 (f := 295) (g := g295) g295_eq
noncomputable def s309 : Env → FC := fun E => ⟨fun rc args h k => un4 args fun a b c d => g309 E rc a b c d h k⟩
theorem s309_ok : HotOK 309 s309 := hot4 (f := 309) (g := g309) g309_eq
noncomputable def s310 : Env → FC := fun E => ⟨fun rc args h k => un2 args fun a b => g310 E rc a b h k⟩
theorem s310_ok : HotOK 310 s310 := hot2 (f := 310) (g := g310) g310_eq
noncomputable def s315 : Env → FC := fun E => ⟨fun rc args h k => un1 args fun a => g315 E rc a h k⟩
theorem s315_ok : HotOK 315 s315 := hot1 (f := 315) (g := g315) g315_eq
noncomputable def s330 : Env → FC := fun E => ⟨fun rc args h k => un3 args fun a b c => g330 E rc a b c h k⟩
theorem s330_ok : HotOK 330 s330 := hot3 (f := 330) (g := g330) g330_eq
noncomputable def s331 : Env → FC := fun E => ⟨fun rc args h k => un1 args fun a => g331 E rc a h k⟩
theorem s331_ok : HotOK 331 s331 := hot1 (f := 331) (g := g331) g331_eq
noncomputable def s332 : Env → FC := fun E => ⟨fun rc args h k => un2 args fun a b => g332 E rc a b h k⟩
theorem s332_ok : HotOK 332 s332 := hot2 (f := 332) (g := g332) g332_eq
noncomputable def s333 : Env → FC := fun E => ⟨fun rc args h k => un2 args fun a b => g333 E rc a b h k⟩
theorem s333_ok : HotOK 333 s333 := hot2 (f := 333) (g := g333) g333_eq
noncomputable def s334 : Env → FC := fun E => ⟨fun rc args h k => un2 args fun a b => g334 E rc a b h k⟩
theorem s334_ok : HotOK 334 s334 := hot2 (f := 334) (g := g334) g334_eq
noncomputable def s350 : Env → FC := fun E => ⟨fun rc args h k => un1 args fun a => g350 E rc a h k⟩
theorem s350_ok : HotOK 350 s350 := hot1 (f := 350) (g := g350) g350_eq
noncomputable def s376 : Env → FC := fun E => ⟨fun rc args h k => un1 args fun a => g376 E rc a h k⟩
theorem s376_ok : HotOK 376 s376 := hot1 (f := 376) (g := g376) g376_eq
noncomputable def s377 : Env → FC := fun E => ⟨fun rc args h k => un2 args fun a b => g377 E rc a b h k⟩
theorem s377_ok : HotOK 377 s377 := hot2 (f := 377) (g := g377) g377_eq
noncomputable def s389 : Env → FC := fun E => ⟨fun rc args h k => un0 args (g389 E rc h k)⟩
theorem s389_ok : HotOK 389 s389 := hot0 (f := 389) (g := g389) g389_eq
noncomputable def s390 : Env → FC := fun E => ⟨fun rc args h k => un2 args fun a b => g390 E rc a b h k⟩
theorem s390_ok : HotOK 390 s390 := hot2 (f := 390) (g := g390) g390_eq
noncomputable def s13 : Env → FC := fun E => ⟨fun rc args h k => un1 args fun a => g13 E rc a h k⟩
theorem s13_ok : HotOK 13 s13 := hot1 (f := 13) (g := g13) g13_eq
noncomputable def s29 : Env → FC := fun E => ⟨fun rc args h k => un1 args fun a => g29 E rc a h k⟩
theorem s29_ok : HotOK 29 s29 := hot1 (f := 29) (g := g29) g29_eq
noncomputable def s30 : Env → FC := fun E => ⟨fun rc args h k => un2 args fun a b => g30 E rc a b h k⟩
theorem s30_ok : HotOK 30 s30 := hot2 (f := 30) (g := g30) g30_eq
noncomputable def s51 : Env → FC := fun E => ⟨fun rc args h k => un1 args fun a => g51 E rc a h k⟩
theorem s51_ok : HotOK 51 s51 := hot1 (f := 51) (g := g51) g51_eq
noncomputable def s58 : Env → FC := fun E => ⟨fun rc args h k => un1 args fun a => g58 E rc a h k⟩
theorem s58_ok : HotOK 58 s58 := hot1 (f := 58) (g := g58) g58_eq
noncomputable def s59 : Env → FC := fun E => ⟨fun rc args h k => un3 args fun a b c => g59 E rc a b c h k⟩
theorem s59_ok : HotOK 59 s59 := hot3 (f := 59) (g := g59) g59_eq
noncomputable def s62 : Env → FC := fun E => ⟨fun rc args h k => un3 args fun a b c => g62 E rc a b c h k⟩
theorem s62_ok : HotOK 62 s62 := hot3 (f := 62) (g := g62) g62_eq
noncomputable def s79 : Env → FC := fun E => ⟨fun rc args h k => un1 args fun a => g79 E rc a h k⟩
theorem s79_ok : HotOK 79 s79 := hot1 (f := 79) (g := g79) g79_eq
noncomputable def s82 : Env → FC := fun E => ⟨fun rc args h k => un3 args fun a b c => g82 E rc a b c h k⟩
theorem s82_ok : HotOK 82 s82 := hot3 (f := 82) (g := g82) g82_eq
noncomputable def s83 : Env → FC := fun E => ⟨fun rc args h k => un2 args fun a b => g83 E rc a b h k⟩
theorem s83_ok : HotOK 83 s83 := hot2 (f := 83) (g := g83) g83_eq
noncomputable def s91 : Env → FC := fun E => ⟨fun rc args h k => un3 args fun a b c => g91 E rc a b c h k⟩
theorem s91_ok : HotOK 91 s91 := hot3 (f := 91) (g := g91) g91_eq
noncomputable def s103 : Env → FC := fun E => ⟨fun rc args h k => un2 args fun a b => g103 E rc a b h k⟩
theorem s103_ok : HotOK 103 s103 := hot2 (f := 103) (g := g103) g103_eq
noncomputable def s106 : Env → FC := fun E => ⟨fun rc args h k => un2 args fun a b => g106 E rc a b h k⟩
theorem s106_ok : HotOK 106 s106 := hot2 (f := 106) (g := g106) g106_eq
noncomputable def s109 : Env → FC := fun E => ⟨fun rc args h k => un1 args fun a => g109 E rc a h k⟩
theorem s109_ok : HotOK 109 s109 := hot1 (f := 109) (g := g109) g109_eq
noncomputable def s115 : Env → FC := fun E => ⟨fun rc args h k => un1 args fun a => g115 E rc a h k⟩
theorem s115_ok : HotOK 115 s115 := hot1 (f := 115) (g := g115) g115_eq
noncomputable def s124 : Env → FC := fun E => ⟨fun rc args h k => un2 args fun a b => g124 E rc a b h k⟩
theorem s124_ok : HotOK 124 s124 := hot2 (f := 124) (g := g124) g124_eq
noncomputable def s125 : Env → FC := fun E => ⟨fun rc args h k => un3 args fun a b c => g125 E rc a b c h k⟩
theorem s125_ok : HotOK 125 s125 := hot3 (f := 125) (g := g125) g125_eq
noncomputable def s126 : Env → FC := fun E => ⟨fun rc args h k => un3 args fun a b c => g126 E rc a b c h k⟩
theorem s126_ok : HotOK 126 s126 := hot3 (f := 126) (g := g126) g126_eq
noncomputable def s131 : Env → FC := fun E => ⟨fun rc args h k => un4 args fun a b c d => g131 E rc a b c d h k⟩
theorem s131_ok : HotOK 131 s131 := hot4 (f := 131) (g := g131) g131_eq
noncomputable def s132 : Env → FC := fun E => ⟨fun rc args h k => un1 args fun a => g132 E rc a h k⟩
theorem s132_ok : HotOK 132 s132 := hot1 (f := 132) (g := g132) g132_eq
noncomputable def s133 : Env → FC := fun E => ⟨fun rc args h k => un3 args fun a b c => g133 E rc a b c h k⟩
theorem s133_ok : HotOK 133 s133 := hot3 (f := 133) (g := g133) g133_eq
noncomputable def s134 : Env → FC := fun E => ⟨fun rc args h k => un2 args fun a b => g134 E rc a b h k⟩
theorem s134_ok : HotOK 134 s134 := hot2 (f := 134) (g := g134) g134_eq
noncomputable def s135 : Env → FC := fun E => ⟨fun rc args h k => un3 args fun a b c => g135 E rc a b c h k⟩
theorem s135_ok : HotOK 135 s135 := hot3 (f := 135) (g := g135) g135_eq
noncomputable def s138 : Env → FC := fun E => ⟨fun rc args h k => un3 args fun a b c => g138 E rc a b c h k⟩
theorem s138_ok : HotOK 138 s138 := hot3 (f := 138) (g := g138) g138_eq
noncomputable def s151 : Env → FC := fun E => ⟨fun rc args h k => un3 args fun a b c => g151 E rc a b c h k⟩
theorem s151_ok : HotOK 151 s151 := hot3 (f := 151) (g := g151) g151_eq
noncomputable def s156 : Env → FC := fun E => ⟨fun rc args h k => un1 args fun a => g156 E rc a h k⟩
theorem s156_ok : HotOK 156 s156 := hot1 (f := 156) (g := g156) g156_eq
noncomputable def s170 : Env → FC := fun E => ⟨fun rc args h k => un1 args fun a => g170 E rc a h k⟩
theorem s170_ok : HotOK 170 s170 := hot1 (f := 170) (g := g170) g170_eq
noncomputable def s171 : Env → FC := fun E => ⟨fun rc args h k => un1 args fun a => g171 E rc a h k⟩
theorem s171_ok : HotOK 171 s171 := hot1 (f := 171) (g := g171) g171_eq
noncomputable def s178 : Env → FC := fun E => ⟨fun rc args h k => un4 args fun a b c d => g178 E rc a b c d h k⟩
theorem s178_ok : HotOK 178 s178 := hot4 (f := 178) (g := g178) g178_eq
noncomputable def s179 : Env → FC := fun E => ⟨fun rc args h k => un2 args fun a b => g179 E rc a b h k⟩
theorem s179_ok : HotOK 179 s179 := hot2 (f := 179) (g := g179) g179_eq
noncomputable def s181 : Env → FC := fun E => ⟨fun rc args h k => un2 args fun a b => g181 E rc a b h k⟩
theorem s181_ok : HotOK 181 s181 := hot2 (f := 181) (g := g181) g181_eq
noncomputable def s197 : Env → FC := fun E => ⟨fun rc args h k => un1 args fun a => g197 E rc a h k⟩
theorem s197_ok : HotOK 197 s197 := hot1 (f := 197) (g := g197) g197_eq
noncomputable def s199 : Env → FC := fun E => ⟨fun rc args h k => un1 args fun a => g199 E rc a h k⟩
theorem s199_ok : HotOK 199 s199 := hot1 (f := 199) (g := g199) g199_eq
noncomputable def s212 : Env → FC := fun E => ⟨fun rc args h k => un2 args fun a b => g212 E rc a b h k⟩
theorem s212_ok : HotOK 212 s212 := hot2 (f := 212) (g := g212) g212_eq
noncomputable def s215 : Env → FC := fun E => ⟨fun rc args h k => un3 args fun a b c => g215 E rc a b c h k⟩
theorem s215_ok : HotOK 215 s215 := hot3 (f := 215) (g := g215) g215_eq
noncomputable def s220 : Env → FC := fun E => ⟨fun rc args h k => un1 args fun a => g220 E rc a h k⟩
theorem s220_ok : HotOK 220 s220 := hot1 (f := 220) (g := g220) g220_eq
noncomputable def s221 : Env → FC := fun E => ⟨fun rc args h k => un3 args fun a b c => g221 E rc a b c h k⟩
theorem s221_ok : HotOK 221 s221 := hot3 (f := 221) (g := g221) g221_eq
noncomputable def s222 : Env → FC := fun E => ⟨fun rc args h k => un1 args fun a => g222 E rc a h k⟩
theorem s222_ok : HotOK 222 s222 := hot1 (f := 222) (g := g222) g222_eq
noncomputable def s249 : Env → FC := fun E => ⟨fun rc args h k => un1 args fun a => g249 E rc a h k⟩
theorem s249_ok : HotOK 249 s249 := hot1 (f := 249) (g := g249) g249_eq
noncomputable def s253 : Env → FC := fun E => ⟨fun rc args h k => un1 args fun a => g253 E rc a h k⟩
theorem s253_ok : HotOK 253 s253 := hot1 (f := 253) (g := g253) g253_eq
noncomputable def s266 : Env → FC := fun E => ⟨fun rc args h k => un3 args fun a b c => g266 E rc a b c h k⟩
theorem s266_ok : HotOK 266 s266 := hot3 (f := 266) (g := g266) g266_eq
noncomputable def s267 : Env → FC := fun E => ⟨fun rc args h k => un2 args fun a b => g267 E rc a b h k⟩
theorem s267_ok : HotOK 267 s267 := hot2 (f := 267) (g := g267) g267_eq
noncomputable def s268 : Env → FC := fun E => ⟨fun rc args h k => un4 args fun a b c d => g268 E rc a b c d h k⟩
theorem s268_ok : HotOK 268 s268 := hot4 (f := 268) (g := g268) g268_eq
noncomputable def s271 : Env → FC := fun E => ⟨fun rc args h k => un2 args fun a b => g271 E rc a b h k⟩
theorem s271_ok : HotOK 271 s271 := hot2 (f := 271) (g := g271) g271_eq
noncomputable def s272 : Env → FC := fun E => ⟨fun rc args h k => un3 args fun a b c => g272 E rc a b c h k⟩
theorem s272_ok : HotOK 272 s272 := hot3 (f := 272) (g := g272) g272_eq
noncomputable def s291 : Env → FC := fun E => ⟨fun rc args h k => un1 args fun a => g291 E rc a h k⟩
theorem s291_ok : HotOK 291 s291 := hot1 (f := 291) (g := g291) g291_eq
noncomputable def s292 : Env → FC := fun E => ⟨fun rc args h k => un1 args fun a => g292 E rc a h k⟩
theorem s292_ok : HotOK 292 s292 := hot1 (f := 292) (g := g292) g292_eq
noncomputable def s296 : Env → FC := fun E => ⟨fun rc args h k => un1 args fun a => g296 E rc a h k⟩
theorem s296_ok : HotOK 296 s296 := hot1 (f := 296) (g := g296) g296_eq
noncomputable def s297 : Env → FC := fun E => ⟨fun rc args h k => un3 args fun a b c => g297 E rc a b c h k⟩
theorem s297_ok : HotOK 297 s297 := hot3 (f := 297) (g := g297) g297_eq
noncomputable def s308 : Env → FC := fun E => ⟨fun rc args h k => un2 args fun a b => g308 E rc a b h k⟩
theorem s308_ok : HotOK 308 s308 := hot2 (f := 308) (g := g308) g308_eq
noncomputable def s319 : Env → FC := fun E => ⟨fun rc args h k => un2 args fun a b => g319 E rc a b h k⟩
theorem s319_ok : HotOK 319 s319 := hot2 (f := 319) (g := g319) g319_eq
noncomputable def s320 : Env → FC := fun E => ⟨fun rc args h k => un2 args fun a b => g320 E rc a b h k⟩
theorem s320_ok : HotOK 320 s320 := hot2 (f := 320) (g := g320) g320_eq
noncomputable def s322 : Env → FC := fun E => ⟨fun rc args h k => un2 args fun a b => g322 E rc a b h k⟩
theorem s322_ok : HotOK 322 s322 := hot2 (f := 322) (g := g322) g322_eq
noncomputable def s342 : Env → FC := fun E => ⟨fun rc args h k => un3 args fun a b c => g342 E rc a b c h k⟩
theorem s342_ok : HotOK 342 s342 := hot3 (f := 342) (g := g342) g342_eq
noncomputable def s354 : Env → FC := fun E => ⟨fun rc args h k => un2 args fun a b => g354 E rc a b h k⟩
theorem s354_ok : HotOK 354 s354 := hot2 (f := 354) (g := g354) g354_eq
noncomputable def s374 : Env → FC := fun E => ⟨fun rc args h k => un2 args fun a b => g374 E rc a b h k⟩
theorem s374_ok : HotOK 374 s374 := hot2 (f := 374) (g := g374) g374_eq
noncomputable def s393 : Env → FC := fun E => ⟨fun rc args h k => un2 args fun a b => g393 E rc a b h k⟩
theorem s393_ok : HotOK 393 s393 := hot2 (f := 393) (g := g393) g393_eq
noncomputable def s400 : Env → FC := fun E => ⟨fun rc args h k => un2 args fun a b => g400 E rc a b h k⟩
theorem s400_ok : HotOK 400 s400 := hot2 (f := 400) (g := g400) g400_eq
noncomputable def s407 : Env → FC := fun E => ⟨fun rc args h k => un2 args fun a b => g407 E rc a b h k⟩
theorem s407_ok : HotOK 407 s407 := hot2 (f := 407) (g := g407) g407_eq
noncomputable def s408 : Env → FC := fun E => ⟨fun rc args h k => un2 args fun a b => g408 E rc a b h k⟩
theorem s408_ok : HotOK 408 s408 := hot2 (f := 408) (g := g408) g408_eq
noncomputable def s411 : Env → FC := fun E => ⟨fun rc args h k => un2 args fun a b => g411 E rc a b h k⟩
theorem s411_ok : HotOK 411 s411 := hot2 (f := 411) (g := g411) g411_eq
noncomputable def hotL : List (Nat × (Env → FC)) := [
(25, s25),
(28, s28),
(31, s31),
(43, s43),
(44, s44),
(54, s54),
(80, s80),
(81, s81),
(84, s84),
(85, s85),
(87, s87),
(88, s88),
(90, s90),
(92, s92),
(96, s96),
(99, s99),
(100, s100),
(105, s105),
(110, s110),
(112, s112),
(113, s113),
(114, s114),
(130, s130),
(137, s137),
(140, s140),
(147, s147),
(154, s154),
(157, s157),
(159, s159),
(160, s160),
(161, s161),
(162, s162),
(163, s163),
(164, s164),
(166, s166),
(168, s168),
(169, s169),
(173, s173),
(176, s176),
(177, s177),
(186, s186),
(187, s187),
(189, s189),
(190, s190),
(191, s191),
(192, s192),
(193, s193),
(194, s194),
(195, s195),
(196, s196),
(198, s198),
(200, s200),
(202, s202),
(203, s203),
(204, s204),
(209, s209),
(218, s218),
(219, s219),
(225, s225),
(226, s226),
(236, s236),
(242, s242),
(245, s245),
(250, s250),
(251, s251),
(254, s254),
(257, s257),
(258, s258),
(259, s259),
(260, s260),
(261, s261),
(262, s262),
(263, s263),
(265, s265),
(269, s269),
(277, s277),
(278, s278),
(279, s279),
(280, s280),
(281, s281),
(282, s282),
(283, s283),
(284, s284),
(285, s285),
(287, s287),
(290, s290),
(294, s294),
(295, s295),
(309, s309),
(310, s310),
(315, s315),
(330, s330),
(331, s331),
(332, s332),
(333, s333),
(334, s334),
(350, s350),
(376, s376),
(377, s377),
(389, s389),
(390, s390),
(13, s13),
(29, s29),
(30, s30),
(51, s51),
(58, s58),
(59, s59),
(62, s62),
(79, s79),
(82, s82),
(83, s83),
(91, s91),
(103, s103),
(106, s106),
(109, s109),
(115, s115),
(124, s124),
(125, s125),
(126, s126),
(131, s131),
(132, s132),
(133, s133),
(134, s134),
(135, s135),
(138, s138),
(151, s151),
(156, s156),
(170, s170),
(171, s171),
(178, s178),
(179, s179),
(181, s181),
(197, s197),
(199, s199),
(212, s212),
(215, s215),
(220, s220),
(221, s221),
(222, s222),
(249, s249),
(253, s253),
(266, s266),
(267, s267),
(268, s268),
(271, s271),
(272, s272),
(291, s291),
(292, s292),
(296, s296),
(297, s297),
(308, s308),
(319, s319),
(320, s320),
(322, s322),
(342, s342),
(354, s354),
(374, s374),
(393, s393),
(400, s400),
(407, s407),
(408, s408),
(411, s411)]
def AllHot : List (Nat × (Env → FC)) → Prop
  | [] => True
  | p :: l => HotOK p.1 p.2 ∧ AllHot l
theorem hotL_ok : AllHot hotL :=
  ⟨s25_ok, s28_ok, s31_ok, s43_ok, s44_ok, s54_ok, s80_ok, s81_ok, s84_ok, s85_ok, s87_ok, s88_ok, s90_ok, s92_ok, s96_ok, s99_ok, s100_ok, s105_ok, s110_ok, s112_ok, s113_ok, s114_ok, s130_ok, s137_ok, s140_ok, s147_ok, s154_ok, s157_ok, s159_ok, s160_ok, s161_ok, s162_ok, s163_ok, s164_ok, s166_ok, s168_ok, s169_ok, s173_ok, s176_ok, s177_ok, s186_ok, s187_ok, s189_ok, s190_ok, s191_ok, s192_ok, s193_ok, s194_ok, s195_ok, s196_ok, s198_ok, s200_ok, s202_ok, s203_ok, s204_ok, s209_ok, s218_ok, s219_ok, s225_ok, s226_ok, s236_ok, s242_ok, s245_ok, s250_ok, s251_ok, s254_ok, s257_ok, s258_ok, s259_ok, s260_ok, s261_ok, s262_ok, s263_ok, s265_ok, s269_ok, s277_ok, s278_ok, s279_ok, s280_ok, s281_ok, s282_ok, s283_ok, s284_ok, s285_ok, s287_ok, s290_ok, s294_ok, s295_ok, s309_ok, s310_ok, s315_ok, s330_ok, s331_ok, s332_ok, s333_ok, s334_ok, s350_ok, s376_ok, s377_ok, s389_ok, s390_ok, s13_ok, s29_ok, s30_ok, s51_ok, s58_ok, s59_ok, s62_ok, s79_ok, s82_ok, s83_ok, s91_ok, s103_ok, s106_ok, s109_ok, s115_ok, s124_ok, s125_ok, s126_ok, s131_ok, s132_ok, s133_ok, s134_ok, s135_ok, s138_ok, s151_ok, s156_ok, s170_ok, s171_ok, s178_ok, s179_ok, s181_ok, s197_ok, s199_ok, s212_ok, s215_ok, s220_ok, s221_ok, s222_ok, s249_ok, s253_ok, s266_ok, s267_ok, s268_ok, s271_ok, s272_ok, s291_ok, s292_ok, s296_ok, s297_ok, s308_ok, s319_ok, s320_ok, s322_ok, s342_ok, s354_ok, s374_ok, s393_ok, s400_ok, s407_ok, s408_ok, s411_ok, trivial⟩
noncomputable def lookH (i : Nat) (l : List (Nat × (Env → FC))) : Option (Env → FC) := List.rec (motive := fun _ => Option (Env → FC)) none (fun p _ ih => Bool.rec (motive := fun _ => Option (Env → FC)) ih (some p.2) (Nat.beq p.1 i)) l
theorem lookH_ok {i : Nat} {s : Env → FC} : ∀ {l : List (Nat × (Env → FC))}, AllHot l → lookH i l = some s → HotOK i s
  | [], _, h => nomatch h
  | p :: l, ⟨h1, h2⟩, h => by
    have h : Bool.rec (motive := fun _ => Option (Env → FC)) (lookH i l) (some p.2) (Nat.beq p.1 i) = some s := h
    cases hb : Nat.beq p.1 i with
    | false => rw [hb] at h; exact lookH_ok h2 h
    | true =>
      rw [hb] at h
      rw [← Nat.eq_of_beq_eq_true hb]
      cases h
      exact h1
noncomputable def hot : T (Option (Env → FC)) := mkT none 10 (fun i => lookH i hotL)
theorem hot_ok {i : Nat} {s : Env → FC} (h : hot.get i = some s) : HotOK i s := by
  rcases get_mkT none 10 (fun i => lookH i hotL) i with e | e
  · exact lookH_ok hotL_ok (e.symm.trans h)
  · exact nomatch (e.symm.trans h)

noncomputable def funS (t : ExtT) (f : FuncId) : FC :=
  match t.get f with
  | some _ => funC (EX t) KK f
  | none => match hot.get f with
    | some s => s (EX t)
    | none => funC (EX t) KK f
/-- A call. -/
noncomputable def callS (t : ExtT) (n : Nat) : RC :=
  Nat.rec (motive := fun _ => RC) (fun _ _ _ _ => none) (fun _ ih f args h k => (funS t f).run ih args h k) n
theorem funC_funB {t : ExtT} {f : FuncId} (h : t.get f = none) : funC (EX t) KK f = funB (EX t) KK f := by
  unfold funC funB
  cases (EX t).funs.get f with
  | none => rfl
  | some fn =>
    have : (EX t).ext f = none := h
    simp only [this]
    cases fn.body <;> rfl
theorem funS_ok {t : ExtT} {rc : RC} (hrc : RcOk (EX t) rc) (f : FuncId) (args : List Value) (h : H) (k : Value → H → R) (r) (hk : (funS t f).run rc args h k = some r) :
    ∃ v h', (Ev fun N => callV (EX t) (exec (EX t) N) f args h = some (v, h')) ∧ k v h' = some r := by
  refine funC_ok (K := KK) hrc f args h k r ?_
  unfold funS at hk
  split at hk
  · exact hk
  · rename_i h0
    split at hk
    · rename_i s hs
      rw [funC_funB h0]
      exact hot_ok hs t rc args h k r hk
    · exact hk
theorem callS_ok (t : ExtT) (n : Nat) : RcOk (EX t) (callS t n) := by
  induction n with
  | zero => intro f args h k r hk; exact nomatch hk
  | succ n ih => intro f args h k r hk; exact funS_ok ih f args h k r hk
end Go.Ev
