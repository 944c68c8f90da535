/-
  The hot functions of a program: what they answer in the usual case.
-/
import Derived.Test.YtdibeojmiobklaaGreatDoorKa
import Derived.Test.YtdibeojmiobklaaGreatDoorEe
import Derived.KernelRfl
set_option linter.unusedVariables false
set_option linter.unusedSimpArgs false
set_option maxRecDepth 100000
set_option linter.unusedVariables false
namespace Go.Ev
open Go F Go.Proofs
noncomputable def sh194 (rc:RC)(a0 a1 a2:Value)(h:H)(k:Value→H→R):R:=onCells a0 λ a=>ifB (allF (λ b=>cell1F b) a) (ifB (Nat.ble h.1 1000000000) (letH (hpush h (.row 99 (lenF a) false false 0 (T.ofList unk a))) λ b=>binR (binC EE .geq 3 (isC (.tmp 7)) (isC (.const (.int .i64 0)))) a1 (.int .i64 (.ofNat 0)) λ c=>joinV (λ d e=>joinV (λ f g=>onB c (joinV (λ _ i=>joinV (λ _ j=>joinV (λ _ l=>joinV (λ _ m=>joinV (λ _ n=>joinV (λ _ o=>joinV (λ _ p=>joinV (λ _ q=>joinV (λ _ r=>joinV (λ _ s=>k (.bool false) s) λ s=>s undef r) λ r=>r undef q) λ q=>q undef p) λ p=>p undef o) λ o=>o undef n) λ n=>n undef m) λ m=>m undef l) λ l=>l undef j) λ j=>j undef i) λ i=>i undef g) (joinV (λ i j=>joinV (λ l m=>joinV (λ n o=>joinV (λ p q=>onB f (joinV (λ _ r=>joinV (λ _ s=>joinV (λ _ t=>joinV (λ _ u=>joinV (λ _ v=>joinV (λ _ w=>k (.bool false) w) λ w=>w undef v) λ v=>v undef u) λ u=>u undef t) λ t=>t undef s) λ s=>s undef r) λ r=>r undef q) (joinV (λ r s=>joinV (λ t u=>joinV (λ v w=>joinV (λ x y=>joinV (λ z a3=>joinV (λ a4 a5=>onB p (k (.bool false) a5) (k a4 a5)) λ a4=>onG p (a4 undef a3) (binR (binC EE .leq 3 (isC (.tmp 20)) (isC (.tmp 24))) r z λ a5=>a4 a5 a3) (a4 undef a3)) λ z=>onG p (z undef y) (binR (binC EE .sub 3 (isC (.tmp 22)) (isC (.tmp 23))) v x λ a3=>z a3 y) (z undef y)) λ x=>onG p (x undef w) (x a2 w) (x undef w)) λ v=>onG p (v undef u) (onPtr t λ w=>onRow (hget u w.1) λ _ x _ _ _ y=>ifB (Nat.ble (Nat.succ w.2) x) (v (getF y w.2) u)) (v undef u)) λ t=>onG p (t undef s) (t (.pointer (some (Addr.mk h.1 0 none))) s) (t undef s)) λ r=>onG p (r undef q) (r a1 q) (r undef q))) λ p=>onG f (p undef o) (binR (binC EE .leq 3 (isC (.tmp 14)) (isC (.tmp 16))) i n λ q=>p q o) (p undef o)) λ n=>onG f (n undef m) (onPtr l λ o=>onRow (hget m o.1) λ _ p _ _ _ q=>ifB (Nat.ble (Nat.succ o.2) p) (n (getF q o.2) m)) (n undef m)) λ l=>onG f (l undef j) (l (.pointer (some (Addr.mk h.1 0 none))) j) (l undef j)) λ i=>onG f (i undef g) (i a2 g) (i undef g))) λ f=>onG c (f undef e) (binR (binC EE .geq 3 (isC (.tmp 10)) (isC (.const (.int .i64 0)))) d (.int .i64 (.ofNat 0)) λ g=>f g e) (f undef e)) λ d=>onG c (d undef b) (d a2 b) (d undef b)))
theorem sh194_eq (rc:RC)(a0 a1 a2:Value)(h:H)(k:Value→H→R):(funC EE KK 261).run rc [a0,a1,a2] h k = sh194 rc a0 a1 a2 h k:=by kernel_rfl
noncomputable def sh195 (rc:RC)(a0 a1:Value)(h:H)(k:Value→H→R):R:=binR (binC EE .rem 3 (isC (.tmp 8)) (isC (.const (.int .i64 64)))) a0 (.int .i64 (.ofNat 64)) λ a=>binR (binC EE .sub 3 (isC (.const (.int .i64 64))) (isC (.tmp 9))) (.int .i64 (.ofNat 64)) a λ b=>bindO (builtinV EE h Builtin.min [a1,b] [3,3]) λ c=>binR (binC EE .shl 25 (isC (.const (.int .u64 1))) (isC (.tmp 12))) (.int .u64 (.ofNat 1)) c λ d=>binR (binC EE .sub 25 (isC (.tmp 13)) (isC (.const (.int .u64 1)))) d (.int .u64 (.ofNat 1)) λ e=>binR (binC EE .rem 3 (isC (.tmp 15)) (isC (.const (.int .i64 64)))) a0 (.int .i64 (.ofNat 64)) λ f=>binR (binC EE .shl 25 (isC (.tmp 14)) (isC (.tmp 16))) e f λ g=>ifB (List.all [g,c] λ i=>Bool.not (isTuple i)) (k (.tuple ⟨[g,c]⟩) h)
theorem sh195_eq (rc:RC)(a0 a1:Value)(h:H)(k:Value→H→R):(funC EE KK 262).run rc [a0,a1] h k = sh195 rc a0 a1 h k:=by kernel_rfl
noncomputable def sh196 (rc:RC)(a0:Value)(h:H)(k:Value→H→R):R:=binR (binC EE .shr 25 (isC (.tmp 3)) (isC (.const (.int .u64 1)))) a0 (.int .u64 (.ofNat 1)) λ a=>binR (binC EE .and 25 (isC (.tmp 4)) (isC (.const (.int .u64 6148914691236517205)))) a (.int .u64 (.ofNat 6148914691236517205)) λ b=>binR (binC EE .and 25 (isC (.tmp 6)) (isC (.const (.int .u64 6148914691236517205)))) a0 (.int .u64 (.ofNat 6148914691236517205)) λ c=>binR (binC EE .add 25 (isC (.tmp 5)) (isC (.tmp 7))) b c λ d=>binR (binC EE .shr 25 (isC (.tmp 9)) (isC (.const (.int .u64 2)))) d (.int .u64 (.ofNat 2)) λ e=>binR (binC EE .and 25 (isC (.tmp 10)) (isC (.const (.int .u64 3689348814741910323)))) e (.int .u64 (.ofNat 3689348814741910323)) λ f=>binR (binC EE .and 25 (isC (.tmp 12)) (isC (.const (.int .u64 3689348814741910323)))) d (.int .u64 (.ofNat 3689348814741910323)) λ g=>binR (binC EE .add 25 (isC (.tmp 11)) (isC (.tmp 13))) f g λ i=>binR (binC EE .shr 25 (isC (.tmp 15)) (isC (.const (.int .u64 4)))) i (.int .u64 (.ofNat 4)) λ j=>binR (binC EE .add 25 (isC (.tmp 16)) (isC (.tmp 17))) j i λ l=>binR (binC EE .and 25 (isC (.tmp 18)) (isC (.const (.int .u64 1085102592571150095)))) l (.int .u64 (.ofNat 1085102592571150095)) λ m=>binR (binC EE .shr 25 (isC (.tmp 21)) (isC (.const (.int .u64 8)))) m (.int .u64 (.ofNat 8)) λ n=>binR (binC EE .add 25 (isC (.tmp 20)) (isC (.tmp 22))) m n λ o=>binR (binC EE .shr 25 (isC (.tmp 25)) (isC (.const (.int .u64 16)))) o (.int .u64 (.ofNat 16)) λ p=>binR (binC EE .add 25 (isC (.tmp 24)) (isC (.tmp 26))) o p λ q=>binR (binC EE .shr 25 (isC (.tmp 29)) (isC (.const (.int .u64 32)))) q (.int .u64 (.ofNat 32)) λ r=>binR (binC EE .add 25 (isC (.tmp 28)) (isC (.tmp 30))) q r λ s=>onNat s (bindO (convV EE h 25 3 s) λ t=>binR (binC EE .and 3 (isC (.tmp 33)) (isC (.const (.int .i64 127)))) t (.int .i64 (.ofNat 127)) λ u=>k u h) λ t=>@Bool.rec (λ _=>R) (bindO (convV EE h 25 3 s) λ u=>binR (binC EE .and 3 (isC (.tmp 33)) (isC (.const (.int .i64 127)))) u (.int .i64 (.ofNat 127)) λ v=>k v h) (binR (binC EE .and 3 (isC (.tmp 33)) (isC (.const (.int .i64 127)))) (.int .i64 (.ofNat t)) (.int .i64 (.ofNat 127)) λ u=>k u h) (Nat.ble t 9223372036854775807)
theorem sh196_eq (rc:RC)(a0:Value)(h:H)(k:Value→H→R):(funC EE KK 263).run rc [a0] h k = sh196 rc a0 h k:=by kernel_rfl
noncomputable def sh99 (rc:RC)(a0 a1 a2:Value)(h:H)(k:Value→H→R):R:=onCells a0 λ a=>ifB (allF (λ b=>cell1F b) a) (ifB (Nat.ble h.1 1000000000) (letH (hpush h (.row 99 (lenF a) false false 0 (T.ofList unk a))) λ b=>onRow (hget b h.1) λ _ c _ _ _ d=>ifB (Nat.ble (Nat.add 0 2) c) (rc 261 [.agg ⟨cellsF d 2 0⟩,a1,a2] b λ e f=>onB e (@joinR [6,7] (λ _ g=>@joinR [8] (λ i j=>ifB (List.all [i.1,.int .i64 (.ofNat 0)] λ l=>Bool.not (isTuple l)) (k (.tuple ⟨[i.1,.int .i64 (.ofNat 0)]⟩) j)) λ i=>@loopF [8,1,2] (λ j l m=>binR (binC EE .gtr 3 (isC (.tmp 16)) (isC (.const (.int .i64 0)))) l.2.2.1 (.int .i64 (.ofNat 0)) λ n=>@joinR [] (λ _ o=>@joinR [8,1,2] (λ p q=>j (p.1,(p.2.1,(p.2.2.1,()))) q) λ p=>rc 262 [l.2.1,l.2.2.1] o λ q r=>onTup q λ s=>nthF 0 s λ t=>onTup q λ u=>nthF 1 u λ v=>onRow (hget r h.1) λ _ w _ _ _ x=>ifB (Nat.ble (Nat.succ (Nat.add 0 1)) w) (binR (binC EE .quo 3 (isC (.tmp 27)) (isC (.const (.int .i64 64)))) l.2.1 (.int .i64 (.ofNat 64)) λ y=>onNat y none λ z=>onSl (getF x (Nat.add 0 1)) none λ a3 a4 _=>ifB (Nat.ble (Nat.succ z) a4) (addOffF a3 (Nat.mul z 1) λ a5=>onPtr a5 λ a6=>onRow (hget r a6.1) λ _ a7 _ _ _ a8=>ifB (Nat.ble (Nat.succ a6.2) a7) (binR (binC EE .and 25 (isC (.tmp 30)) (isC (.tmp 31))) (getF a8 a6.2) t λ a9=>rc 263 [a9] r λ b0 b1=>binR (binC EE .add 3 (isC (.tmp 24)) (isC (.tmp 33))) l.1 b0 λ b2=>binR (binC EE .add 3 (isC (.tmp 35)) (isC (.tmp 36))) l.2.1 v λ b3=>binR (binC EE .sub 3 (isC (.tmp 38)) (isC (.tmp 39))) l.2.2.1 v λ b4=>p (b2,(b3,(b4,()))) b1)))) λ o=>onB n (i (l.1,()) m) (o () m)) 1000000 (.int .i64 (.ofNat 0),(a1,(a2,()))) g) λ _=>k (.tuple ⟨[.int .i64 (.ofNat 0),.int .i64 (.ofNat 3)]⟩) f) (@joinR [6,7] (λ _ g=>@joinR [8] (λ i j=>ifB (List.all [i.1,.int .i64 (.ofNat 0)] λ l=>Bool.not (isTuple l)) (k (.tuple ⟨[i.1,.int .i64 (.ofNat 0)]⟩) j)) λ i=>@loopF [8,1,2] (λ j l m=>binR (binC EE .gtr 3 (isC (.tmp 16)) (isC (.const (.int .i64 0)))) l.2.2.1 (.int .i64 (.ofNat 0)) λ n=>@joinR [] (λ _ o=>@joinR [8,1,2] (λ p q=>j (p.1,(p.2.1,(p.2.2.1,()))) q) λ p=>rc 262 [l.2.1,l.2.2.1] o λ q r=>onTup q λ s=>nthF 0 s λ t=>onTup q λ u=>nthF 1 u λ v=>onRow (hget r h.1) λ _ w _ _ _ x=>ifB (Nat.ble (Nat.succ (Nat.add 0 1)) w) (binR (binC EE .quo 3 (isC (.tmp 27)) (isC (.const (.int .i64 64)))) l.2.1 (.int .i64 (.ofNat 64)) λ y=>onNat y none λ z=>onSl (getF x (Nat.add 0 1)) none λ a3 a4 _=>ifB (Nat.ble (Nat.succ z) a4) (addOffF a3 (Nat.mul z 1) λ a5=>onPtr a5 λ a6=>onRow (hget r a6.1) λ _ a7 _ _ _ a8=>ifB (Nat.ble (Nat.succ a6.2) a7) (binR (binC EE .and 25 (isC (.tmp 30)) (isC (.tmp 31))) (getF a8 a6.2) t λ a9=>rc 263 [a9] r λ b0 b1=>binR (binC EE .add 3 (isC (.tmp 24)) (isC (.tmp 33))) l.1 b0 λ b2=>binR (binC EE .add 3 (isC (.tmp 35)) (isC (.tmp 36))) l.2.1 v λ b3=>binR (binC EE .sub 3 (isC (.tmp 38)) (isC (.tmp 39))) l.2.2.1 v λ b4=>p (b2,(b3,(b4,()))) b1)))) λ o=>onB n (i (l.1,()) m) (o () m)) 1000000 (.int .i64 (.ofNat 0),(a1,(a2,()))) g) λ g=>g (.int .i64 (.ofNat 0),(.int .i64 (.ofNat 0),())) f))))
theorem sh99_eq (rc:RC)(a0 a1 a2:Value)(h:H)(k:Value→H→R):(funC EE KK 179).run rc [a0,a1,a2] h k = sh99 rc a0 a1 a2 h k:=by kernel_rfl
noncomputable def sh165 (rc:RC)(a0 a1 a2:Value)(h:H)(k:Value→H→R):R:=@joinR [6] (λ a b=>binR (binC EE .quo 3 (isC (.tmp 46)) (isC (.const (.int .i64 4096)))) a1 (.int .i64 (.ofNat 4096)) λ c=>binR (binC EE .add 3 (isC (.tmp 48)) (isC (.tmp 49))) a1 a2 λ d=>binR (binC EE .sub 3 (isC (.tmp 50)) (isC (.const (.int .i64 1)))) d (.int .i64 (.ofNat 1)) λ e=>binR (binC EE .quo 3 (isC (.tmp 51)) (isC (.const (.int .i64 4096)))) e (.int .i64 (.ofNat 4096)) λ f=>bindO (nilV a0) λ g=>onPtr g λ i=>onRow (hget b i.1) λ _ j _ _ _ l=>ifB (Nat.ble (Nat.add (Nat.add i.2 1) 2) j) (binR (binC EE .sub 3 (isC (.tmp 59)) (isC (.tmp 60))) f c λ m=>binR (binC EE .add 3 (isC (.tmp 61)) (isC (.const (.int .i64 1)))) m (.int .i64 (.ofNat 1)) λ n=>rc 179 [.agg ⟨cellsF l 2 (Nat.add i.2 1)⟩,c,n] b λ o p=>onTup o λ q=>nthF 0 q λ r=>onTup o λ s=>nthF 1 s λ _=>binR (binC EE .sub 3 (isC (.tmp 67)) (isC (.tmp 68))) f c λ t=>binR (binC EE .leq 3 (isC (.tmp 66)) (isC (.tmp 69))) r t λ u=>@joinR [6] (λ _ v=>k (.int .i64 (.ofNat 0)) v) λ v=>onB u (v (a.1,()) p) (k (.int .i64 (.ofNat 3)) p))) λ a=>binR (binC EE .eql 44 (isC (.tmp 12)) (isC (.const (.pointer none)))) a0 (.pointer none) λ b=>@joinR [6] (λ c d=>a (c.1,()) d) λ c=>onB b (binR (binC EE .lss 3 (isC (.tmp 15)) (isC (.const (.int .i64 0)))) a1 (.int .i64 (.ofNat 0)) λ d=>joinV (λ e f=>joinV (λ g i=>onB d (joinV (λ j l=>joinV (λ m n=>joinV (λ o p=>joinV (λ q r=>joinV (λ s t=>joinV (λ u v=>joinV (λ w x=>joinV (λ y z=>onB g (joinV (λ a3 a4=>joinV (λ a5 a6=>joinV (λ a7 a8=>joinV (λ a9 b0=>joinV (λ b1 b2=>joinV (λ b3 b4=>joinV (λ b5 b6=>joinV (λ b7 b8=>joinV (λ b9 c0=>joinV (λ c1 c2=>onB y (@joinR [6] (λ c3 c4=>c (c3.1,()) c4) λ c3=>onB c1 (binR (binC EE .eql 3 (isC (.tmp 44)) (isC (.const (.int .i64 0)))) a2 (.int .i64 (.ofNat 0)) λ c4=>@joinR [6] (λ c5 c6=>c3 (c5.1,()) c6) λ c5=>onB c4 (c5 (.int .i64 (.ofNat 0),()) c2) (k (.int .i64 (.ofNat 0)) c2)) (k (.int .i64 (.ofNat 3)) c2)) (@joinR [6] (λ c3 c4=>c (c3.1,()) c4) λ _=>k (.int .i64 (.ofNat 3)) c2)) λ c1=>onG y (binR (binC EE .gtr 3 (isC (.tmp 32)) (isC (.tmp 40))) a3 b9 λ c2=>c1 c2 c0) (c1 undef c0) (c1 undef c0)) λ b9=>onG y (binR (binC EE .sub 3 (isC (.tmp 38)) (isC (.tmp 39))) b5 b7 λ c0=>b9 c0 b8) (b9 undef b8) (b9 undef b8)) λ b7=>onG y (b7 a2 b6) (b7 undef b6) (b7 undef b6)) λ b5=>onG y (binR (binC EE .mul 3 (isC (.tmp 37)) (isC (.const (.int .i64 4096)))) b3 (.int .i64 (.ofNat 4096)) λ b6=>b5 b6 b4) (b5 undef b4) (b5 undef b4)) λ b3=>onG y (onSl b1 (bindO (lenV EE b2 101 b1) λ b4=>b3 b4 b2) λ _ b4 _=>b3 (.int .i64 (.ofNat b4)) b2) (b3 undef b2) (b3 undef b2)) λ b1=>onG y (onPtr a9 λ b2=>onRow (hget b0 b2.1) λ _ b3 _ _ _ b4=>ifB (Nat.ble (Nat.succ b2.2) b3) (b1 (getF b4 b2.2) b0)) (b1 undef b0) (b1 undef b0)) λ a9=>onG y (onPtr a7 λ _=>a9 a7 a8) (a9 undef a8) (a9 undef a8)) λ a7=>onG y (bindO (nilV a5) λ a8=>a7 a8 a6) (a7 undef a6) (a7 undef a6)) λ a5=>onG y (a5 a0 a4) (a5 undef a4) (a5 undef a4)) λ a3=>onG y (a3 a1 z) (a3 undef z) (a3 undef z)) (joinV (λ _ a3=>joinV (λ _ a4=>joinV (λ _ a5=>joinV (λ _ a6=>joinV (λ _ a7=>joinV (λ _ a8=>joinV (λ _ a9=>joinV (λ _ b0=>joinV (λ _ b1=>joinV (λ _ b2=>@joinR [6] (λ b3 b4=>c (b3.1,()) b4) λ _=>k (.int .i64 (.ofNat 3)) b2) λ b2=>b2 undef b1) λ b1=>b1 undef b0) λ b0=>b0 undef a9) λ a9=>a9 undef a8) λ a8=>a8 undef a7) λ a7=>a7 undef a6) λ a6=>a6 undef a5) λ a5=>a5 undef a4) λ a4=>a4 undef a3) λ a3=>a3 undef z)) λ y=>onG g (binR (binC EE .gtr 3 (isC (.tmp 22)) (isC (.tmp 28))) j w λ z=>y z x) (y undef x) (y undef x)) λ w=>onG g (binR (binC EE .mul 3 (isC (.tmp 27)) (isC (.const (.int .i64 4096)))) u (.int .i64 (.ofNat 4096)) λ x=>w x v) (w undef v) (w undef v)) λ u=>onG g (onSl s (bindO (lenV EE t 101 s) λ v=>u v t) λ _ v _=>u (.int .i64 (.ofNat v)) t) (u undef t) (u undef t)) λ s=>onG g (onPtr q λ t=>onRow (hget r t.1) λ _ u _ _ _ v=>ifB (Nat.ble (Nat.succ t.2) u) (s (getF v t.2) r)) (s undef r) (s undef r)) λ q=>onG g (onPtr o λ _=>q o p) (q undef p) (q undef p)) λ o=>onG g (bindO (nilV m) λ p=>o p n) (o undef n) (o undef n)) λ m=>onG g (m a0 l) (m undef l) (m undef l)) λ j=>onG g (j a2 i) (j undef i) (j undef i)) (joinV (λ _ j=>joinV (λ _ l=>joinV (λ _ m=>joinV (λ _ n=>joinV (λ _ o=>joinV (λ _ p=>joinV (λ _ q=>joinV (λ _ r=>joinV (λ _ s=>joinV (λ _ t=>joinV (λ _ u=>joinV (λ _ v=>joinV (λ _ w=>joinV (λ _ x=>joinV (λ _ y=>joinV (λ _ z=>joinV (λ _ a3=>joinV (λ _ a4=>@joinR [6] (λ a5 a6=>c (a5.1,()) a6) λ _=>k (.int .i64 (.ofNat 3)) a4) λ a4=>a4 undef a3) λ a3=>a3 undef z) λ z=>z undef y) λ y=>y undef x) λ x=>x undef w) λ w=>w undef v) λ v=>v undef u) λ u=>u undef t) λ t=>t undef s) λ s=>s undef r) λ r=>r undef q) λ q=>q undef p) λ p=>p undef o) λ o=>o undef n) λ n=>n undef m) λ m=>m undef l) λ l=>l undef j) λ j=>j undef i)) λ g=>onG d (binR (binC EE .lss 3 (isC (.tmp 18)) (isC (.const (.int .i64 0)))) e (.int .i64 (.ofNat 0)) λ i=>g i f) (g undef f) (g undef f)) λ e=>onG d (e a2 h) (e undef h) (e undef h)) (k (.int .i64 (.ofNat 1)) h)
theorem sh165_eq (rc:RC)(a0 a1 a2:Value)(h:H)(k:Value→H→R):(funC EE KK 84).run rc [a0,a1,a2] h k = sh165 rc a0 a1 a2 h k:=by kernel_rfl
noncomputable def sh166 (rc:RC)(a0 a1 a2 a3:Value)(h:H)(k:Value→H→R):R:=@joinR [] (λ _ a=>k (.tuple ⟨[]⟩) a) λ a=>@loopF [1,2] (λ b c d=>binR (binC EE .gtr 3 (isC (.tmp 9)) (isC (.const (.int .i64 0)))) c.2.1 (.int .i64 (.ofNat 0)) λ e=>@joinR [] (λ _ f=>@joinR [1,2] (λ g i=>b (g.1,(g.2.1,())) i) λ g=>binR (binC EE .rem 3 (isC (.tmp 12)) (isC (.const (.int .i64 4096)))) c.1 (.int .i64 (.ofNat 4096)) λ i=>binR (binC EE .sub 3 (isC (.const (.int .i64 4096))) (isC (.tmp 13))) (.int .i64 (.ofNat 4096)) i λ j=>bindO (builtinV EE f Builtin.min [c.2.1,j] [3,3]) λ l=>bindO (nilV a0) λ m=>onPtr m λ _=>onPtr m λ n=>onRow (hget f n.1) λ _ o _ _ _ p=>ifB (Nat.ble (Nat.succ n.2) o) (binR (binC EE .quo 3 (isC (.tmp 21)) (isC (.const (.int .i64 4096)))) c.1 (.int .i64 (.ofNat 4096)) λ q=>onNat q none λ r=>onSl (getF p n.2) none λ s t _=>ifB (Nat.ble (Nat.succ r) t) (addOffF s (Nat.mul r 1) λ u=>onPtr u λ v=>onRow (hget f v.1) λ _ w _ _ _ x=>ifB (Nat.ble (Nat.succ v.2) w) (bindO (nilV (getF x v.2)) λ y=>binR (binC EE .rem 3 (isC (.tmp 26)) (isC (.const (.int .i64 4096)))) c.1 (.int .i64 (.ofNat 4096)) λ z=>bindO (sliceV EE 235 y (some z) none none) λ a4=>bindO (sliceV EE 60 a4 none (some l) none) λ a5=>onF a3 λ a6 a7 a8=>rc a6 (catV a7 a8 [a5]) f λ _ a9=>binR (binC EE .add 3 (isC (.tmp 32)) (isC (.tmp 33))) c.1 l λ b0=>binR (binC EE .sub 3 (isC (.tmp 35)) (isC (.tmp 36))) c.2.1 l λ b1=>g (b0,(b1,())) a9)))) λ f=>onB e (a () d) (f () d)) 1000000 (a1,(a2,())) h
theorem sh166_eq (rc:RC)(a0 a1 a2 a3:Value)(h:H)(k:Value→H→R):(funC EE KK 85).run rc [a0,a1,a2,a3] h k = sh166 rc a0 a1 a2 a3 h k:=by kernel_rfl
noncomputable def sh218 (rc:RC)(a0 a1:Value)(h:H)(k:Value→H→R):R:=rc 260 [a1,a0] h λ _ a=>k (.tuple ⟨[]⟩) a
theorem sh218_eq (rc:RC)(a0 a1:Value)(h:H)(k:Value→H→R):(funC EE KK 259).run rc [a0,a1] h k = sh218 rc a0 a1 h k:=by kernel_rfl
noncomputable def sh219 (rc:RC)(a0 a1:Value)(h:H)(k:Value→H→R):R:=rc 66 [a0] h λ _ a=>bindO (nilV a0) λ b=>onPtr b λ c=>onRow (hget a c.1) λ _ d _ _ _ e=>ifB (Nat.ble (Nat.succ (Nat.add c.2 1)) d) (bindP (heavyB EE a Builtin.append [getF e (Nat.add c.2 1),a1] [60,60]) λ f g=>bindO (nilV a0) λ i=>onPtr i λ j=>onCells f λ l=>onRow (hget g j.1) λ m n o p q r=>ifB (notB p) (ifB (Nat.beq (lenF l) 1) (ifB (Nat.ble q (Nat.add j.2 1)) (ifB (Nat.ble (Nat.add (Nat.add j.2 1) 1) n) (ifB (Nat.ble n 1000000000) (ifB (allF (λ s=>cell1F s) l) (letH (hset g j.1 (.row m n o false q (putF r (Nat.add j.2 1) l))) λ s=>onSl a1 (bindO (lenV EE s 60 a1) λ t=>ifB (List.all [t,.nilIface] λ u=>Bool.not (isTuple u)) (k (.tuple ⟨[t,.nilIface]⟩) s)) λ _ t _=>k (.tuple ⟨[.int .i64 (.ofNat t),.nilIface]⟩) s)))))))
theorem sh219_eq (rc:RC)(a0 a1:Value)(h:H)(k:Value→H→R):(funC EE KK 260).run rc [a0,a1] h k = sh219 rc a0 a1 h k:=by kernel_rfl
noncomputable def sh245 (rc:RC)(a0:Value)(h:H)(k:Value→H→R):R:=bindO (nilV a0) λ a=>onPtr a λ _=>onPtr a λ b=>onRow (hget h b.1) λ _ c _ _ _ d=>ifB (Nat.ble (Nat.succ b.2) c) (binR (binC EE .eql 59 (isC (.tmp 5)) (isC (.const (.pointer none)))) (getF d b.2) (.pointer none) λ e=>@joinR [] (λ _ f=>k (.tuple ⟨[]⟩) f) λ f=>onB e (bindO (nilV a0) λ g=>onPtr g λ _=>onPtr g λ i=>onRow (hget h i.1) λ _ j _ _ _ l=>ifB (Nat.ble (Nat.succ i.2) j) (binR (binC EE .neq 59 (isC (.tmp 17)) (isC (.tmp 18))) (getF l i.2) a0 λ m=>@joinR [] (λ _ n=>f () n) λ n=>onB m (n () h) none)) (bindO (convV EE h 59 214 a0) λ g=>rc 148 [g] h λ i j=>bindO (convV EE j 214 59 i) λ l=>bindO (nilV a0) λ m=>onPtr m λ _=>onPtr m λ n=>onCells l λ o=>onRow (hget j n.1) λ p q r s t u=>ifB (notB s) (ifB (Nat.beq (lenF o) 1) (ifB (Nat.ble t n.2) (ifB (Nat.ble (Nat.add n.2 1) q) (ifB (Nat.ble q 1000000000) (ifB (allF (λ v=>cell1F v) o) (letH (hset j n.1 (.row p q r false t (putF u n.2 o))) λ v=>f () v))))))))
theorem sh245_eq (rc:RC)(a0:Value)(h:H)(k:Value→H→R):(funC EE KK 66).run rc [a0] h k = sh245 rc a0 h k:=by kernel_rfl
noncomputable def sh154 (rc:RC)(a0:Value)(h:H)(k:Value→H→R):R:=ifB (Nat.ble h.1 1000000000) (letH (H.mk (Nat.add h.1 0) h.2) λ a=>bindO (nilV a0) λ b=>onPtr b λ c=>onRow (hget a c.1) λ _ d _ _ _ e=>ifB (Nat.ble (Nat.succ (Nat.add c.2 1)) d) (bindO (builtinV EE a Builtin.unsafeSliceData [getF e (Nat.add c.2 1)] [60]) λ f=>bindO (nilV a0) λ g=>onPtr g λ i=>onRow (hget a i.1) λ _ j _ _ _ l=>ifB (Nat.ble (Nat.succ (Nat.add i.2 1)) j) (onSl (getF l (Nat.add i.2 1)) (bindO (lenV EE a 60 (getF l (Nat.add i.2 1))) λ m=>bindP (heavyB EE a Builtin.unsafeString [f,m] [134,3]) λ n o=>k n o) λ _ m _=>bindP (heavyB EE a Builtin.unsafeString [f,.int .i64 (.ofNat m)] [134,3]) λ n o=>k n o)))
theorem sh154_eq (rc:RC)(a0:Value)(h:H)(k:Value→H→R):(funC EE KK 32).run rc [a0] h k = sh154 rc a0 h k:=by kernel_rfl
noncomputable def sh129 (rc:RC)(a0 a1 a2:Value)(h:H)(k:Value→H→R):R:=rc 84 [a0,a1,a2] h λ a b=>binR (binC EE .neq 41 (isC (.tmp 14)) (isC (.const (.int .i64 0)))) a (.int .i64 (.ofNat 0)) λ c=>@joinR [6,7] (λ _ d=>ifB (Nat.ble d.1 1000000000) (letH (hpush d (.row 62 2 false false 0 (T.ofList unk [.pointer none,.slice none 0 0]))) λ e=>ifB (andB (allF (λ f=>isS0F f) []) (allF (λ f=>isS0F f) [.pointer (some (Addr.mk d.1 0 none))])) (rc 85 [a0,a1,a2,.func (.func 259) ⟨[]⟩ ⟨[.pointer (some (Addr.mk d.1 0 none))]⟩] e λ _ f=>rc 32 [.pointer (some (Addr.mk d.1 0 none))] f λ g i=>ifB (List.all [g,.int .i64 (.ofNat 0)] λ j=>Bool.not (isTuple j)) (k (.tuple ⟨[g,.int .i64 (.ofNat 0)]⟩) i)))) λ d=>onB c (d (.string (ByteArray.mk #[]),(.int .i64 (.ofNat 0),())) b) (ifB (List.all [.string (ByteArray.mk #[]),a] λ e=>Bool.not (isTuple e)) (k (.tuple ⟨[.string (ByteArray.mk #[]),a]⟩) b))
theorem sh129_eq (rc:RC)(a0 a1 a2:Value)(h:H)(k:Value→H→R):(funC EE KK 178).run rc [a0,a1,a2] h k = sh129 rc a0 a1 a2 h k:=by kernel_rfl
noncomputable def sh175 (rc:RC)(a0 a1 a2:Value)(h:H)(k:Value→H→R):R:=onCells a0 λ a=>ifB (allF (λ b=>cell1F b) a) (ifB (Nat.ble h.1 1000000000) (letH (hpush h (.row 78 (lenF a) false false 0 (T.ofList unk a))) λ b=>@joinR [6] (λ _ c=>k (.int .i64 (.ofNat 0)) c) λ c=>onRow (hget b h.1) λ _ d _ _ _ e=>ifB (Nat.ble (Nat.succ 0) d) (binR (binC EE .eql 44 (isC (.tmp 9)) (isC (.const (.pointer none)))) (getF e 0) (.pointer none) λ f=>@joinR [6] (λ g i=>c (g.1,()) i) λ g=>onB f (binR (binC EE .lss 3 (isC (.tmp 12)) (isC (.const (.int .i64 0)))) a1 (.int .i64 (.ofNat 0)) λ i=>joinV (λ j l=>joinV (λ m n=>onB i (joinV (λ o p=>joinV (λ q r=>joinV (λ s t=>joinV (λ u v=>onB m (joinV (λ w x=>joinV (λ y z=>joinV (λ a3 a4=>joinV (λ a5 a6=>joinV (λ a7 a8=>joinV (λ a9 b0=>onB u (@joinR [6] (λ b1 b2=>g (b1.1,()) b2) λ b1=>onB a9 (b1 (.int .i64 (.ofNat 0),()) b0) (k (.int .i64 (.ofNat 3)) b0)) (@joinR [6] (λ b1 b2=>g (b1.1,()) b2) λ _=>k (.int .i64 (.ofNat 3)) b0)) λ a9=>onG u (binR (binC EE .gtr 3 (isC (.tmp 25)) (isC (.tmp 29))) w a7 λ b0=>a9 b0 a8) (a9 undef a8) (a9 undef a8)) λ a7=>onG u (binR (binC EE .sub 3 (isC (.tmp 27)) (isC (.tmp 28))) a3 a5 λ a8=>a7 a8 a6) (a7 undef a6) (a7 undef a6)) λ a5=>onG u (a5 a2 a4) (a5 undef a4) (a5 undef a4)) λ a3=>onG u (onPtr y λ a4=>onRow (hget z a4.1) λ _ a5 _ _ _ a6=>ifB (Nat.ble (Nat.succ a4.2) a5) (a3 (getF a6 a4.2) z)) (a3 undef z) (a3 undef z)) λ y=>onG u (y (.pointer (some (Addr.mk h.1 (Nat.add 0 2) none))) x) (y undef x) (y undef x)) λ w=>onG u (w a1 v) (w undef v) (w undef v)) (joinV (λ _ w=>joinV (λ _ x=>joinV (λ _ y=>joinV (λ _ z=>joinV (λ _ a3=>joinV (λ _ a4=>@joinR [6] (λ a5 a6=>g (a5.1,()) a6) λ _=>k (.int .i64 (.ofNat 3)) a4) λ a4=>a4 undef a3) λ a3=>a3 undef z) λ z=>z undef y) λ y=>y undef x) λ x=>x undef w) λ w=>w undef v)) λ u=>onG m (binR (binC EE .gtr 3 (isC (.tmp 19)) (isC (.tmp 21))) o s λ v=>u v t) (u undef t) (u undef t)) λ s=>onG m (onPtr q λ t=>onRow (hget r t.1) λ _ u _ _ _ v=>ifB (Nat.ble (Nat.succ t.2) u) (s (getF v t.2) r)) (s undef r) (s undef r)) λ q=>onG m (q (.pointer (some (Addr.mk h.1 (Nat.add 0 2) none))) p) (q undef p) (q undef p)) λ o=>onG m (o a2 n) (o undef n) (o undef n)) (joinV (λ _ o=>joinV (λ _ p=>joinV (λ _ q=>joinV (λ _ r=>joinV (λ _ s=>joinV (λ _ t=>joinV (λ _ u=>joinV (λ _ v=>joinV (λ _ w=>joinV (λ _ x=>@joinR [6] (λ y z=>g (y.1,()) z) λ _=>k (.int .i64 (.ofNat 3)) x) λ x=>x undef w) λ w=>w undef v) λ v=>v undef u) λ u=>u undef t) λ t=>t undef s) λ s=>s undef r) λ r=>r undef q) λ q=>q undef p) λ p=>p undef o) λ o=>o undef n)) λ m=>onG i (binR (binC EE .lss 3 (isC (.tmp 15)) (isC (.const (.int .i64 0)))) j (.int .i64 (.ofNat 0)) λ n=>m n l) (m undef l) (m undef l)) λ j=>onG i (j a2 b) (j undef b) (j undef b)) (k (.int .i64 (.ofNat 1)) b))))
theorem sh175_eq (rc:RC)(a0 a1 a2:Value)(h:H)(k:Value→H→R):(funC EE KK 95).run rc [a0,a1,a2] h k = sh175 rc a0 a1 a2 h k:=by kernel_rfl
noncomputable def sh174 (rc:RC)(a0 a1:Value)(h:H)(k:Value→H→R):R:=onCells a0 λ a=>ifB (allF (λ b=>cell1F b) a) (ifB (Nat.ble h.1 1000000000) (letH (hpush h (.row 78 (lenF a) false false 0 (T.ofList unk a))) λ b=>@joinR [4] (λ _ c=>k (.int .i64 (.ofNat 2)) c) λ c=>onRow (hget b h.1) λ _ d _ _ _ e=>ifB (Nat.ble (Nat.succ 0) d) (binR (binC EE .eql 44 (isC (.tmp 7)) (isC (.const (.pointer none)))) (getF e 0) (.pointer none) λ f=>@joinR [4] (λ g i=>c (g.1,()) i) λ g=>onB f (binR (binC EE .eql 3 (isC (.tmp 10)) (isC (.const (.int .i64 1)))) a1 (.int .i64 (.ofNat 1)) λ i=>@joinR [9] (λ j l=>@joinR [4] (λ m n=>g (m.1,()) n) λ m=>onB j.1 (m (.int .i64 (.ofNat 0),()) l) (k (.int .i64 (.ofNat 0)) l)) λ j=>onB i (binR (binC EE .eql 3 (isC (.tmp 12)) (isC (.const (.int .i64 2)))) a1 (.int .i64 (.ofNat 2)) λ l=>@joinR [9] (λ m n=>j (m.1,()) n) λ m=>onB l (binR (binC EE .eql 3 (isC (.tmp 14)) (isC (.const (.int .i64 4)))) a1 (.int .i64 (.ofNat 4)) λ n=>@joinR [9] (λ o p=>m (o.1,()) p) λ o=>onB n (binR (binC EE .eql 3 (isC (.tmp 16)) (isC (.const (.int .i64 8)))) a1 (.int .i64 (.ofNat 8)) λ p=>o (p,()) b) (o (n,()) b)) (m (l,()) b)) (j (i,()) b)) (k (.int .i64 (.ofNat 1)) b))))
theorem sh174_eq (rc:RC)(a0 a1:Value)(h:H)(k:Value→H→R):(funC EE KK 94).run rc [a0,a1] h k = sh174 rc a0 a1 h k:=by kernel_rfl
noncomputable def sh89 (rc:RC)(a0 a1 a2:Value)(h:H)(k:Value→H→R):R:=onCells a0 λ a=>ifB (allF (λ b=>cell1F b) a) (ifB (Nat.ble h.1 1000000000) (letH (hpush h (.row 78 (lenF a) false false 0 (T.ofList unk a))) λ b=>onRow (hget b h.1) λ _ c _ _ _ d=>ifB (Nat.ble (Nat.add 0 3) c) (rc 94 [.agg ⟨cellsF d 3 0⟩,a2] b λ e f=>binR (binC EE .neq 41 (isC (.tmp 13)) (isC (.const (.int .i64 0)))) e (.int .i64 (.ofNat 0)) λ g=>@joinR [6,7] (λ i j=>onRow (hget j h.1) λ _ l _ _ _ m=>ifB (Nat.ble (Nat.add 0 3) l) (rc 95 [.agg ⟨cellsF m 3 0⟩,a1,a2] j λ n o=>binR (binC EE .neq 41 (isC (.tmp 20)) (isC (.const (.int .i64 0)))) n (.int .i64 (.ofNat 0)) λ p=>@joinR [6,7] (λ _ q=>onRow (hget q h.1) λ _ r _ _ _ s=>ifB (Nat.ble (Nat.succ 0) r) (onRow (hget q h.1) λ _ t _ _ _ u=>ifB (Nat.ble (Nat.succ (Nat.add 0 1)) t) (binR (binC EE .add 3 (isC (.tmp 26)) (isC (.tmp 27))) (getF u (Nat.add 0 1)) a1 λ v=>rc 118 [getF s 0,v,a2] q λ w x=>onTup w λ y=>nthF 0 y λ z=>onTup w λ a3=>nthF 1 a3 λ a4=>ifB (List.all [z,a4] λ a5=>Bool.not (isTuple a5)) (k (.tuple ⟨[z,a4]⟩) x)))) λ q=>onB p (q (i.1,(i.2.1,())) o) (ifB (List.all [.int .u64 (.ofNat 0),n] λ r=>Bool.not (isTuple r)) (k (.tuple ⟨[.int .u64 (.ofNat 0),n]⟩) o)))) λ i=>onB g (i (.int .u64 (.ofNat 0),(.int .i64 (.ofNat 0),())) f) (ifB (List.all [.int .u64 (.ofNat 0),e] λ j=>Bool.not (isTuple j)) (k (.tuple ⟨[.int .u64 (.ofNat 0),e]⟩) f)))))
theorem sh89_eq (rc:RC)(a0 a1 a2:Value)(h:H)(k:Value→H→R):(funC EE KK 52).run rc [a0,a1,a2] h k = sh89 rc a0 a1 a2 h k:=by kernel_rfl
noncomputable def sh283 (rc:RC)(a0 a1 a2:Value)(h:H)(k:Value→H→R):R:=onCells a0 λ a=>ifB (allF (λ b=>cell1F b) a) (ifB (Nat.ble h.1 1000000000) (letH (hpush h (.row 78 (lenF a) false false 0 (T.ofList unk a))) λ b=>onRow (hget b h.1) λ _ c _ _ _ d=>ifB (Nat.ble (Nat.add 0 3) c) (rc 95 [.agg ⟨cellsF d 3 0⟩,a1,a2] b λ e f=>binR (binC EE .neq 41 (isC (.tmp 13)) (isC (.const (.int .i64 0)))) e (.int .i64 (.ofNat 0)) λ g=>@joinR [6,7] (λ _ i=>onRow (hget i h.1) λ _ j _ _ _ l=>ifB (Nat.ble (Nat.succ 0) j) (onRow (hget i h.1) λ _ m _ _ _ n=>ifB (Nat.ble (Nat.succ (Nat.add 0 1)) m) (binR (binC EE .add 3 (isC (.tmp 19)) (isC (.tmp 20))) (getF n (Nat.add 0 1)) a1 λ o=>rc 178 [getF l 0,o,a2] i λ p q=>onTup p λ r=>nthF 0 r λ s=>onTup p λ t=>nthF 1 t λ u=>ifB (List.all [s,u] λ v=>Bool.not (isTuple v)) (k (.tuple ⟨[s,u]⟩) q)))) λ i=>onB g (i (.string (ByteArray.mk #[]),(.int .i64 (.ofNat 0),())) f) (ifB (List.all [.string (ByteArray.mk #[]),e] λ j=>Bool.not (isTuple j)) (k (.tuple ⟨[.string (ByteArray.mk #[]),e]⟩) f)))))
theorem sh283_eq (rc:RC)(a0 a1 a2:Value)(h:H)(k:Value→H→R):(funC EE KK 287).run rc [a0,a1,a2] h k = sh283 rc a0 a1 a2 h k:=by kernel_rfl
end Go.Ev
namespace Go.Ev
open Go F Go.Proofs
set_option maxRecDepth 100000
set_option linter.unusedSimpArgs false
theorem und3:EE.und 3=some (.int .i64):=by kernel_rfl
theorem und22:EE.und 25=some (.int .u64):=by kernel_rfl
theorem ones0 (rc:RC) (h:H) (k:Value→H→R):sh196 rc (.int .u64 (.ofNat 1)) h k=k (.int .i64 (.ofNat 1)) h:=by kernel_rfl
theorem ones1 (rc:RC) (h:H) (k:Value→H→R):sh196 rc (.int .u64 (.ofNat 2)) h k=k (.int .i64 (.ofNat 1)) h:=by kernel_rfl
theorem ones2 (rc:RC) (h:H) (k:Value→H→R):sh196 rc (.int .u64 (.ofNat 4)) h k=k (.int .i64 (.ofNat 1)) h:=by kernel_rfl
theorem ones3 (rc:RC) (h:H) (k:Value→H→R):sh196 rc (.int .u64 (.ofNat 8)) h k=k (.int .i64 (.ofNat 1)) h:=by kernel_rfl
theorem ones4 (rc:RC) (h:H) (k:Value→H→R):sh196 rc (.int .u64 (.ofNat 16)) h k=k (.int .i64 (.ofNat 1)) h:=by kernel_rfl
theorem ones5 (rc:RC) (h:H) (k:Value→H→R):sh196 rc (.int .u64 (.ofNat 32)) h k=k (.int .i64 (.ofNat 1)) h:=by kernel_rfl
theorem ones6 (rc:RC) (h:H) (k:Value→H→R):sh196 rc (.int .u64 (.ofNat 64)) h k=k (.int .i64 (.ofNat 1)) h:=by kernel_rfl
theorem ones7 (rc:RC) (h:H) (k:Value→H→R):sh196 rc (.int .u64 (.ofNat 128)) h k=k (.int .i64 (.ofNat 1)) h:=by kernel_rfl
theorem ones8 (rc:RC) (h:H) (k:Value→H→R):sh196 rc (.int .u64 (.ofNat 256)) h k=k (.int .i64 (.ofNat 1)) h:=by kernel_rfl
theorem ones9 (rc:RC) (h:H) (k:Value→H→R):sh196 rc (.int .u64 (.ofNat 512)) h k=k (.int .i64 (.ofNat 1)) h:=by kernel_rfl
theorem ones10 (rc:RC) (h:H) (k:Value→H→R):sh196 rc (.int .u64 (.ofNat 1024)) h k=k (.int .i64 (.ofNat 1)) h:=by kernel_rfl
theorem ones11 (rc:RC) (h:H) (k:Value→H→R):sh196 rc (.int .u64 (.ofNat 2048)) h k=k (.int .i64 (.ofNat 1)) h:=by kernel_rfl
theorem ones12 (rc:RC) (h:H) (k:Value→H→R):sh196 rc (.int .u64 (.ofNat 4096)) h k=k (.int .i64 (.ofNat 1)) h:=by kernel_rfl
theorem ones13 (rc:RC) (h:H) (k:Value→H→R):sh196 rc (.int .u64 (.ofNat 8192)) h k=k (.int .i64 (.ofNat 1)) h:=by kernel_rfl
theorem ones14 (rc:RC) (h:H) (k:Value→H→R):sh196 rc (.int .u64 (.ofNat 16384)) h k=k (.int .i64 (.ofNat 1)) h:=by kernel_rfl
theorem ones15 (rc:RC) (h:H) (k:Value→H→R):sh196 rc (.int .u64 (.ofNat 32768)) h k=k (.int .i64 (.ofNat 1)) h:=by kernel_rfl
theorem ones16 (rc:RC) (h:H) (k:Value→H→R):sh196 rc (.int .u64 (.ofNat 65536)) h k=k (.int .i64 (.ofNat 1)) h:=by kernel_rfl
theorem ones17 (rc:RC) (h:H) (k:Value→H→R):sh196 rc (.int .u64 (.ofNat 131072)) h k=k (.int .i64 (.ofNat 1)) h:=by kernel_rfl
theorem ones18 (rc:RC) (h:H) (k:Value→H→R):sh196 rc (.int .u64 (.ofNat 262144)) h k=k (.int .i64 (.ofNat 1)) h:=by kernel_rfl
theorem ones19 (rc:RC) (h:H) (k:Value→H→R):sh196 rc (.int .u64 (.ofNat 524288)) h k=k (.int .i64 (.ofNat 1)) h:=by kernel_rfl
theorem ones20 (rc:RC) (h:H) (k:Value→H→R):sh196 rc (.int .u64 (.ofNat 1048576)) h k=k (.int .i64 (.ofNat 1)) h:=by kernel_rfl
theorem ones21 (rc:RC) (h:H) (k:Value→H→R):sh196 rc (.int .u64 (.ofNat 2097152)) h k=k (.int .i64 (.ofNat 1)) h:=by kernel_rfl
theorem ones22 (rc:RC) (h:H) (k:Value→H→R):sh196 rc (.int .u64 (.ofNat 4194304)) h k=k (.int .i64 (.ofNat 1)) h:=by kernel_rfl
theorem ones23 (rc:RC) (h:H) (k:Value→H→R):sh196 rc (.int .u64 (.ofNat 8388608)) h k=k (.int .i64 (.ofNat 1)) h:=by kernel_rfl
theorem ones24 (rc:RC) (h:H) (k:Value→H→R):sh196 rc (.int .u64 (.ofNat 16777216)) h k=k (.int .i64 (.ofNat 1)) h:=by kernel_rfl
theorem ones25 (rc:RC) (h:H) (k:Value→H→R):sh196 rc (.int .u64 (.ofNat 33554432)) h k=k (.int .i64 (.ofNat 1)) h:=by kernel_rfl
theorem ones26 (rc:RC) (h:H) (k:Value→H→R):sh196 rc (.int .u64 (.ofNat 67108864)) h k=k (.int .i64 (.ofNat 1)) h:=by kernel_rfl
theorem ones27 (rc:RC) (h:H) (k:Value→H→R):sh196 rc (.int .u64 (.ofNat 134217728)) h k=k (.int .i64 (.ofNat 1)) h:=by kernel_rfl
theorem ones28 (rc:RC) (h:H) (k:Value→H→R):sh196 rc (.int .u64 (.ofNat 268435456)) h k=k (.int .i64 (.ofNat 1)) h:=by kernel_rfl
theorem ones29 (rc:RC) (h:H) (k:Value→H→R):sh196 rc (.int .u64 (.ofNat 536870912)) h k=k (.int .i64 (.ofNat 1)) h:=by kernel_rfl
theorem ones30 (rc:RC) (h:H) (k:Value→H→R):sh196 rc (.int .u64 (.ofNat 1073741824)) h k=k (.int .i64 (.ofNat 1)) h:=by kernel_rfl
theorem ones31 (rc:RC) (h:H) (k:Value→H→R):sh196 rc (.int .u64 (.ofNat 2147483648)) h k=k (.int .i64 (.ofNat 1)) h:=by kernel_rfl
theorem ones32 (rc:RC) (h:H) (k:Value→H→R):sh196 rc (.int .u64 (.ofNat 4294967296)) h k=k (.int .i64 (.ofNat 1)) h:=by kernel_rfl
theorem ones33 (rc:RC) (h:H) (k:Value→H→R):sh196 rc (.int .u64 (.ofNat 8589934592)) h k=k (.int .i64 (.ofNat 1)) h:=by kernel_rfl
theorem ones34 (rc:RC) (h:H) (k:Value→H→R):sh196 rc (.int .u64 (.ofNat 17179869184)) h k=k (.int .i64 (.ofNat 1)) h:=by kernel_rfl
theorem ones35 (rc:RC) (h:H) (k:Value→H→R):sh196 rc (.int .u64 (.ofNat 34359738368)) h k=k (.int .i64 (.ofNat 1)) h:=by kernel_rfl
theorem ones36 (rc:RC) (h:H) (k:Value→H→R):sh196 rc (.int .u64 (.ofNat 68719476736)) h k=k (.int .i64 (.ofNat 1)) h:=by kernel_rfl
theorem ones37 (rc:RC) (h:H) (k:Value→H→R):sh196 rc (.int .u64 (.ofNat 137438953472)) h k=k (.int .i64 (.ofNat 1)) h:=by kernel_rfl
theorem ones38 (rc:RC) (h:H) (k:Value→H→R):sh196 rc (.int .u64 (.ofNat 274877906944)) h k=k (.int .i64 (.ofNat 1)) h:=by kernel_rfl
theorem ones39 (rc:RC) (h:H) (k:Value→H→R):sh196 rc (.int .u64 (.ofNat 549755813888)) h k=k (.int .i64 (.ofNat 1)) h:=by kernel_rfl
theorem ones40 (rc:RC) (h:H) (k:Value→H→R):sh196 rc (.int .u64 (.ofNat 1099511627776)) h k=k (.int .i64 (.ofNat 1)) h:=by kernel_rfl
theorem ones41 (rc:RC) (h:H) (k:Value→H→R):sh196 rc (.int .u64 (.ofNat 2199023255552)) h k=k (.int .i64 (.ofNat 1)) h:=by kernel_rfl
theorem ones42 (rc:RC) (h:H) (k:Value→H→R):sh196 rc (.int .u64 (.ofNat 4398046511104)) h k=k (.int .i64 (.ofNat 1)) h:=by kernel_rfl
theorem ones43 (rc:RC) (h:H) (k:Value→H→R):sh196 rc (.int .u64 (.ofNat 8796093022208)) h k=k (.int .i64 (.ofNat 1)) h:=by kernel_rfl
theorem ones44 (rc:RC) (h:H) (k:Value→H→R):sh196 rc (.int .u64 (.ofNat 17592186044416)) h k=k (.int .i64 (.ofNat 1)) h:=by kernel_rfl
theorem ones45 (rc:RC) (h:H) (k:Value→H→R):sh196 rc (.int .u64 (.ofNat 35184372088832)) h k=k (.int .i64 (.ofNat 1)) h:=by kernel_rfl
theorem ones46 (rc:RC) (h:H) (k:Value→H→R):sh196 rc (.int .u64 (.ofNat 70368744177664)) h k=k (.int .i64 (.ofNat 1)) h:=by kernel_rfl
theorem ones47 (rc:RC) (h:H) (k:Value→H→R):sh196 rc (.int .u64 (.ofNat 140737488355328)) h k=k (.int .i64 (.ofNat 1)) h:=by kernel_rfl
theorem ones48 (rc:RC) (h:H) (k:Value→H→R):sh196 rc (.int .u64 (.ofNat 281474976710656)) h k=k (.int .i64 (.ofNat 1)) h:=by kernel_rfl
theorem ones49 (rc:RC) (h:H) (k:Value→H→R):sh196 rc (.int .u64 (.ofNat 562949953421312)) h k=k (.int .i64 (.ofNat 1)) h:=by kernel_rfl
theorem ones50 (rc:RC) (h:H) (k:Value→H→R):sh196 rc (.int .u64 (.ofNat 1125899906842624)) h k=k (.int .i64 (.ofNat 1)) h:=by kernel_rfl
theorem ones51 (rc:RC) (h:H) (k:Value→H→R):sh196 rc (.int .u64 (.ofNat 2251799813685248)) h k=k (.int .i64 (.ofNat 1)) h:=by kernel_rfl
theorem ones52 (rc:RC) (h:H) (k:Value→H→R):sh196 rc (.int .u64 (.ofNat 4503599627370496)) h k=k (.int .i64 (.ofNat 1)) h:=by kernel_rfl
theorem ones53 (rc:RC) (h:H) (k:Value→H→R):sh196 rc (.int .u64 (.ofNat 9007199254740992)) h k=k (.int .i64 (.ofNat 1)) h:=by kernel_rfl
theorem ones54 (rc:RC) (h:H) (k:Value→H→R):sh196 rc (.int .u64 (.ofNat 18014398509481984)) h k=k (.int .i64 (.ofNat 1)) h:=by kernel_rfl
theorem ones55 (rc:RC) (h:H) (k:Value→H→R):sh196 rc (.int .u64 (.ofNat 36028797018963968)) h k=k (.int .i64 (.ofNat 1)) h:=by kernel_rfl
theorem ones56 (rc:RC) (h:H) (k:Value→H→R):sh196 rc (.int .u64 (.ofNat 72057594037927936)) h k=k (.int .i64 (.ofNat 1)) h:=by kernel_rfl
theorem ones57 (rc:RC) (h:H) (k:Value→H→R):sh196 rc (.int .u64 (.ofNat 144115188075855872)) h k=k (.int .i64 (.ofNat 1)) h:=by kernel_rfl
theorem ones58 (rc:RC) (h:H) (k:Value→H→R):sh196 rc (.int .u64 (.ofNat 288230376151711744)) h k=k (.int .i64 (.ofNat 1)) h:=by kernel_rfl
theorem ones59 (rc:RC) (h:H) (k:Value→H→R):sh196 rc (.int .u64 (.ofNat 576460752303423488)) h k=k (.int .i64 (.ofNat 1)) h:=by kernel_rfl
theorem ones60 (rc:RC) (h:H) (k:Value→H→R):sh196 rc (.int .u64 (.ofNat 1152921504606846976)) h k=k (.int .i64 (.ofNat 1)) h:=by kernel_rfl
theorem ones61 (rc:RC) (h:H) (k:Value→H→R):sh196 rc (.int .u64 (.ofNat 2305843009213693952)) h k=k (.int .i64 (.ofNat 1)) h:=by kernel_rfl
theorem ones62 (rc:RC) (h:H) (k:Value→H→R):sh196 rc (.int .u64 (.ofNat 4611686018427387904)) h k=k (.int .i64 (.ofNat 1)) h:=by kernel_rfl
theorem ones63 (rc:RC) (h:H) (k:Value→H→R):sh196 rc (.int .u64 (.ofNat 9223372036854775808)) h k=k (.int .i64 (.ofNat 1)) h:=by kernel_rfl
theorem ones (rc:RC) (h:H) (k:Value→H→R):∀ b,b < 64→sh196 rc (.int .u64 (.ofNat (2 ^ b))) h k=k (.int .i64 (.ofNat 1)) h
  | 0,_=>ones0 rc h k
  | 1,_=>ones1 rc h k
  | 2,_=>ones2 rc h k
  | 3,_=>ones3 rc h k
  | 4,_=>ones4 rc h k
  | 5,_=>ones5 rc h k
  | 6,_=>ones6 rc h k
  | 7,_=>ones7 rc h k
  | 8,_=>ones8 rc h k
  | 9,_=>ones9 rc h k
  | 10,_=>ones10 rc h k
  | 11,_=>ones11 rc h k
  | 12,_=>ones12 rc h k
  | 13,_=>ones13 rc h k
  | 14,_=>ones14 rc h k
  | 15,_=>ones15 rc h k
  | 16,_=>ones16 rc h k
  | 17,_=>ones17 rc h k
  | 18,_=>ones18 rc h k
  | 19,_=>ones19 rc h k
  | 20,_=>ones20 rc h k
  | 21,_=>ones21 rc h k
  | 22,_=>ones22 rc h k
  | 23,_=>ones23 rc h k
  | 24,_=>ones24 rc h k
  | 25,_=>ones25 rc h k
  | 26,_=>ones26 rc h k
  | 27,_=>ones27 rc h k
  | 28,_=>ones28 rc h k
  | 29,_=>ones29 rc h k
  | 30,_=>ones30 rc h k
  | 31,_=>ones31 rc h k
  | 32,_=>ones32 rc h k
  | 33,_=>ones33 rc h k
  | 34,_=>ones34 rc h k
  | 35,_=>ones35 rc h k
  | 36,_=>ones36 rc h k
  | 37,_=>ones37 rc h k
  | 38,_=>ones38 rc h k
  | 39,_=>ones39 rc h k
  | 40,_=>ones40 rc h k
  | 41,_=>ones41 rc h k
  | 42,_=>ones42 rc h k
  | 43,_=>ones43 rc h k
  | 44,_=>ones44 rc h k
  | 45,_=>ones45 rc h k
  | 46,_=>ones46 rc h k
  | 47,_=>ones47 rc h k
  | 48,_=>ones48 rc h k
  | 49,_=>ones49 rc h k
  | 50,_=>ones50 rc h k
  | 51,_=>ones51 rc h k
  | 52,_=>ones52 rc h k
  | 53,_=>ones53 rc h k
  | 54,_=>ones54 rc h k
  | 55,_=>ones55 rc h k
  | 56,_=>ones56 rc h k
  | 57,_=>ones57 rc h k
  | 58,_=>ones58 rc h k
  | 59,_=>ones59 rc h k
  | 60,_=>ones60 rc h k
  | 61,_=>ones61 rc h k
  | 62,_=>ones62 rc h k
  | 63,_=>ones63 rc h k
  | b + 64,hb=>absurd hb (by omega)
theorem callF_succ (n:Nat) (f:FuncId) (args:List Value) (h:H) (k:Value→H→R):callF EE KK (n + 1) f args h k=(funC EE KK f).run (callF EE KK n) args h k:=rfl
theorem ones_run (n:Nat) (h:H) (k:Value→H→R) (b:Nat) (hb:b < 64):callF EE KK (n + 1) 263 [.int .u64 (.ofNat (2 ^ b))] h k=k (.int .i64 (.ofNat 1)) h:=by
  rw [callF_succ,sh196_eq,ones _ _ _ b hb]
theorem mask_run (n:Nat) (h:H) (k:Value→H→R) (f:Nat) (hf:f≤1000000000) :
    callF EE KK (n + 1) 262 [.int .i64 (.ofNat f),.int .i64 (.ofNat 1)] h k=k (.tuple ⟨[.int .u64 (.ofNat (2 ^ (f % 64))),.int .i64 (.ofNat 1)]⟩) h:=by
  rw [callF_succ,sh195_eq]
  unfold sh195
  have h1:min 1 (64 - f % 64)=1:=by omega
  have h2:(1:Nat) <<< (f % 64)=2 ^ (f % 64):=by rw [Nat.shiftLeft_eq,Nat.one_mul]
  have h3:2 ^ (f % 64)≤2 ^ 63:=Nat.pow_le_pow_right (by omega) (by omega)
  simp (disch:=omega) only [rem_i64 und3,sub_i64 und3,min_i64,bindO_some',h1]
  rw [shl_u64 und22 (by omega) (by decide),sub_u64 und22 (by decide) (by decide),shl_u64 und22 (by omega) (by rw [show (1:Nat) <<< 1 - 1=1 from rfl,h2]; exact Nat.le_trans h3 (by decide))]
  rw [show (1:Nat) <<< 1 - 1=1 from rfl,h2]
  rfl
theorem within_run (n:Nat) (h:H) (L f m:Nat) (wa:Addr) (nw cw:Nat) (hn:h.next≤1000000000) (hL:L≤1000000000) (hm:f + m≤L) :
    ∃ h',Old h h'∧h'.next=h.next + 1∧∀ k:Value→H→R,callF EE KK (n + 1) 261 [.agg ⟨[.int .i64 (.ofNat L),.slice (some wa) nw cw]⟩,.int .i64 (.ofNat f),.int .i64 (.ofNat m)] h k=k (.bool true) h':=by
  refine ⟨hpush h (.row 99 2 false false 0 (T.ofList unk [.int .i64 (.ofNat L),.slice (some wa) nw cw])),(Old.refl h).push _ hn,rfl,λ k=>?_⟩
  rw [callF_succ,sh194_eq]
  unfold sh194
  simp (disch:=omega) only [onCells_agg,allF_cons,allF_nil,c1_int,c1_sl,cond_true,ifB_ble hn,letH_eq,ifB_true,joinV_eq,geq_i64 und3,leq_i64 und3,sub_i64 und3,onB_tt,onB_ff,onG_tt,onG_ff,onG_un,ble_t,onPtr_ptr,get_push_eq,onRow_row,getF_ofList,lenF_eq,List.length_cons,List.length_nil,List.getD_cons_zero]
theorem count_run (n:Nat) (h:H) (L f:Nat) (wb wo nw cw w:Nat) (e:TypeId) (m:Nat) (op ro:Bool) (fz:Nat) (c:T Value) (hn:h.next + 10≤1000000000) (hL:L≤1000000) (hf:f < L)
    (hw:wb < h.next) (hnw:f / 64 < nw) (hrow:hget h wb=.row e m op ro fz c) (hm:wo + f / 64 < m) (hc:getF c (wo + f / 64)=.int .u64 (.ofNat w)) (hw2:w≤18446744073709551615) (hbit:w &&& 2 ^ (f % 64)=2 ^ (f % 64)) :
    ∃ h',Old h h'∧h'.next≤h.next + 2∧∀ k:Value→H→R,callF EE KK (n + 3) 179 [.agg ⟨[.int .i64 (.ofNat L),.slice (some ⟨wb,wo,none⟩) nw cw]⟩,.int .i64 (.ofNat f),.int .i64 (.ofNat 1)] h k=k (.tuple ⟨[.int .i64 (.ofNat 1),.int .i64 (.ofNat 0)]⟩) h':=by
  have hp:Old h (hpush h (.row 99 2 false false 0 (T.ofList unk [.int .i64 (.ofNat L),.slice (some ⟨wb,wo,none⟩) nw cw]))):=(Old.refl h).push _ (by omega)
  obtain ⟨h2,ho,hx,hr⟩:=within_run (n + 1) (hpush h (.row 99 2 false false 0 (T.ofList unk [.int .i64 (.ofNat L),.slice (some ⟨wb,wo,none⟩) nw cw]))) L f 1 ⟨wb,wo,none⟩ nw cw (by rw [next_push]; omega) (by omega) (by omega)
  rw [next_push] at hx
  have hnew:hget h2 h.next=.row 99 2 false false 0 (T.ofList unk [.int .i64 (.ofNat L),.slice (some ⟨wb,wo,none⟩) nw cw]):=by
    rw [ho.2 _ (by rw [next_push]; omega),get_push_eq _ _ (by omega)]
  have hold:hget h2 wb=.row e m op ro fz c:=by
    rw [ho.2 _ (by rw [next_push]; omega),get_push_ne _ _ (by omega) hw,hrow]
  refine ⟨h2,hp.trans ho,by omega,λ k=>?_⟩
  rw [callF_succ,sh99_eq]
  unfold sh99
  have hp63:2 ^ (f % 64)≤18446744073709551615:=Nat.le_trans (Nat.pow_le_pow_right (by omega) (show f % 64≤63 by omega)) (by decide)
  simp (disch:=omega) only [↓onCells_agg,allF_cons,allF_nil,c1_int,c1_sl,cond_true,↓ifB_ble,↓letH_eq,↓ifB_true,↓joinR_eq,get_push_eq,↓onRow_row,lenF_eq,List.length_cons,List.length_nil,cellsF_two,getF_ofList,List.getD_cons_zero,List.getD_cons_succ,↓hr,↓onB_tt,↓onB_ff,
    Nat.add_eq,Nat.mul_eq,Nat.succ_eq_add_one,Nat.reduceAdd,Nat.zero_add]
  simp (disch:=omega) only [↓loopF_lit,↓loopF_lit1,↓gtr_i64 und3,ble_t,ble_f,↓onB_tt,↓onB_ff,↓mask_run,↓onTup_tup,↓nthF_zero,↓nthF_one,hnew,↓onRow_row,↓ifB_ble,↓quo_i64 und3,↓onNat_int,getF_ofList,List.getD_cons_zero,List.getD_cons_succ,↓onSl_sl,↓addOffF_eq,↓onPtr_ptr,hold,Nat.mul_one,hc,↓and_u64 und22 hw2 hp63,hbit,↓ones_run,↓add_i64 und3,↓sub_i64 und3,
    ↓joinR_eq,Nat.reduceAdd,Nat.zero_add,Nat.sub_self]
  rfl
end Go.Ev
namespace Go.Ev
open Go F Go.Proofs
set_option maxRecDepth 100000
set_option linter.unusedSimpArgs false
theorem und38:EE.und 44=some (.pointer 104):=by kernel_rfl
structure ArP where
  (b eA mA fzA np cp L wb wo nw cw ew mw fzw w pb po ep mp fzp qb eq fzq:Nat)
  (opA roA opw row opp rop opq roq:Bool)
  (cA cww cpp cq:T Value)
structure ArOK (h:H) (p:ArP) (a m:Nat):Prop where
  hA:hget h p.b=.row p.eA p.mA p.opA p.roA p.fzA p.cA
  mA:3≤p.mA
  c0:getF p.cA 0=.slice (some ⟨p.pb,p.po,none⟩) p.np p.cp
  c1:getF p.cA 1=.int .i64 (.ofNat p.L)
  c2:getF p.cA 2=.slice (some ⟨p.wb,p.wo,none⟩) p.nw p.cw
  hW:hget h p.wb=.row p.ew p.mw p.opw p.row p.fzw p.cww
  word:getF p.cww (p.wo + a / 4096 / 64)=.int .u64 (.ofNat p.w)
  hnw:a / 4096 / 64 < p.nw
  hmw:p.wo + a / 4096 / 64 < p.mw
  hw:p.w≤18446744073709551615
  bit:p.w &&& 2 ^ (a / 4096 % 64)=2 ^ (a / 4096 % 64)
  hf:a / 4096 < p.L
  hL:p.L≤1000000
  one:a % 4096 + m≤4096
  m1:1≤m
  hin:a + m≤p.np * 4096
  hnp:p.np≤1000000
  lb:p.b < h.next
  lw:p.wb < h.next
  lp:p.pb < h.next
  lq:p.qb < h.next
  hP:hget h p.pb=.row p.ep p.mp p.opp p.rop p.fzp p.cpp
  page:getF p.cpp (p.po + a / 4096)=.pointer (some ⟨p.qb,0,none⟩)
  hmp:p.po + a / 4096 < p.mp
  hQ:hget h p.qb=.row p.eq 4096 p.opq p.roq p.fzq p.cq
theorem ArOK.old {h h':H} {p:ArP} {a m:Nat} (x:ArOK h p a m) (o:Old h h'):ArOK h' p a m :=
  { x with
    hA:=(o.2 _ x.lb).trans x.hA
    hW:=(o.2 _ x.lw).trans x.hW
    hP:=(o.2 _ x.lp).trans x.hP
    hQ:=(o.2 _ x.lq).trans x.hQ
    lb:=Nat.lt_of_lt_of_le x.lb o.1
    lw:=Nat.lt_of_lt_of_le x.lw o.1
    lp:=Nat.lt_of_lt_of_le x.lp o.1
    lq:=Nat.lt_of_lt_of_le x.lq o.1 }
set_option maxHeartbeats 4000000 in
theorem check_run (n:Nat) {h:H} {p:ArP} {a m:Nat} (x:ArOK h p a m) (hn:h.next + 10≤1000000000) :
    ∃ h',Old h h'∧h'.next≤h.next + 2∧∀ k:Value→H→R,callF EE KK (n + 4) 84 [.pointer (some ⟨p.b,0,none⟩),.int .i64 (.ofNat a),.int .i64 (.ofNat m)] h k=k (.int .i64 (.ofNat 0)) h':=by
  obtain ⟨h2,ho,hx,hr⟩:=count_run n h p.L (a / 4096) p.wb p.wo p.nw p.cw p.w p.ew p.mw p.opw p.row p.fzw p.cww hn x.hL x.hf x.lw x.hnw x.hW x.hmw x.word x.hw x.bit
  refine ⟨h2,ho,hx,λ k=>?_⟩
  have hin:=x.hin; have hnp:=x.hnp; have one:=x.one; have m1:=x.m1; have mA:=x.mA
  have hAr:∀ k,onRow (hget h p.b) k=k p.eA p.mA p.opA p.roA p.fzA p.cA:=λ k=>by rw [x.hA]; rfl
  have c0:∀ s k,onSl (getF p.cA 0) s k=k ⟨p.pb,p.po,none⟩ p.np p.cp:=λ s k=>by rw [x.c0]; rfl
  have c12:cellsF p.cA 2 1=[.int .i64 (.ofNat p.L),.slice (some ⟨p.wb,p.wo,none⟩) p.nw p.cw]:=by rw [cellsF_two,x.c1,x.c2]
  have e1:(a + m - 1) / 4096=a / 4096:=by omega
  rw [callF_succ,sh165_eq]
  unfold sh165
  simp (disch:=first | omega | (simp only [Nat.add_eq,Nat.mul_eq,Nat.succ_eq_add_one]; omega)) only [↓joinR_eq,↓joinV_eq,↓eql_nil und38,↓onB_tt,↓onB_ff,↓onG_tt,↓onG_ff,↓onG_un,↓lss_f und3,↓gtr_f und3,↓eql_f und3,↓bindO_nil,↓onPtr_ptr,↓hAr,↓ifB_ble,↓c0,↓mul_i64 und3,↓sub_i64 und3,↓add_i64 und3,↓quo_i64 und3]
  rw [show Nat.add 0 1=1 from rfl,c12,e1,Nat.sub_self,Nat.zero_add]
  simp (disch:=first | omega | (simp only [Nat.add_eq,Nat.mul_eq,Nat.succ_eq_add_one]; omega)) only [↓hr,↓onTup_tup,↓nthF_zero,↓nthF_one,↓leq_f und3,↓onB_ff]
end Go.Ev
namespace Go.Ev
open Go F Go.Proofs
set_option maxRecDepth 100000
set_option linter.unusedSimpArgs false
theorem und214:EE.und 59=some (.pointer 62):=by kernel_rfl
theorem und329:EE.und 214=some .unsafePointer:=by kernel_rfl
theorem size216:EE.size 62=some (1 + 1):=by kernel_rfl
theorem und93:EE.und 60=some (.slice 5):=by kernel_rfl
theorem und292:EE.und 134=some (.pointer 5):=by kernel_rfl
theorem und294:EE.und 235=some (.array 4096 5):=by kernel_rfl
theorem und34:EE.und 41=some (.int .i64):=by kernel_rfl
theorem size5:EE.size 5=some 1:=by kernel_rfl
noncomputable def info5:TypeInfo:=(EE.info 5).getD default
theorem i5:EE.info 5=some info5:=by kernel_rfl
theorem i5s:info5.size=1:=by kernel_rfl
theorem i5b:info5.bytes=1:=by kernel_rfl
theorem z5:zeroCellsV EE 5=some [.int .u8 (.ofNat 0)]:=by kernel_rfl
theorem noescape_run (n:Nat) (v:Value) (h:H) (k:Value→H→R):callF EE KK (n + 1) 148 [v] h k=k v h:=by kernel_rfl
theorem copy_run (n:Nat) {h:H} {bb:Nat} {c:T Value} (hb:hget h bb=.row 62 2 false false 0 c) (h0:getF c 0=.pointer none) (hbb:bb≤1000000000) :
    ∀ k:Value→H→R,callF EE KK (n + 2) 66 [.pointer (some ⟨bb,0,none⟩)] h k=k (.tuple ⟨[]⟩) (hset h bb (.row 62 2 false false 0 (insF 40 c 0 (.pointer (some ⟨bb,0,none⟩))))):=by
  intro k
  have hbr:∀ k,onRow (hget h bb) k=k 62 2 false false 0 c:=λ k=>by rw [hb]; rfl
  have e1:∀ cx cy k,binR (binC EE .eql 59 cx cy) (getF c 0) (.pointer none) k=k (.bool true):=λ cx cy k=>by rw [h0]; exact eql_nil2 und214
  rw [callF_succ,sh245_eq]
  unfold sh245
  simp (disch:=first | omega | (simp only [Nat.add_eq,Nat.mul_eq,Nat.succ_eq_add_one]; omega)) only [↓bindO_nil,↓onPtr_ptr,↓hbr,↓ifB_ble,↓e1,↓joinR_eq,↓onB_tt]
  rw [conv_up und214 und329 size216 hb (by omega)]
  simp (disch:=first | omega | (simp only [Nat.add_eq,Nat.mul_eq,Nat.succ_eq_add_one]; omega)) only [↓bindO_some',↓noescape_run]
  rw [conv_down und329 und214 size216 hb (by omega)]
  simp (disch:=first | omega | (simp only [Nat.add_eq,Nat.mul_eq,Nat.succ_eq_add_one]; omega)) only [↓bindO_some',↓bindO_nil,↓onPtr_ptr,↓onCells_ptr,↓hbr]
  simp only [letH_eq]
  rfl
theorem write_run (n:Nat) {h:H} {bb qb o m cap e' nq fz:Nat} {op ro:Bool} {c cq:T Value} (hb:hget h bb=.row 62 2 false false 0 c) (h0:getF c 0=.pointer none) (h1:getF c 1=.slice none 0 0) (hbb:bb < h.next) (hq:hget h qb=.row e' nq op ro fz cq) (hqb:qb < bb)
    (hm:1≤m) (hon:o + m≤nq) (hm2:m≤100000) (hroom:h.next≤1000000000) :
    ∃ h',h'.next=h.next + 1∧(∀ i,i < h.next→i ≠ bb→hget h' i=hget h i)∧(∃ c',hget h' bb=.row 62 2 false false 0 c'∧getF c' 1=.slice (some ⟨h.next,0,none⟩) m (2 * m + 1))∧hget h' h.next=.row 5 m true false 0 (T.ofList unk (cellsF cq m o)) ∧
    ∀ k:Value→H→R,callF EE KK (n + 3) 260 [.pointer (some ⟨bb,0,none⟩),.slice (some ⟨qb,o,none⟩) m cap] h k=k (.tuple ⟨[.int .i64 (.ofNat m),.nilIface]⟩) h':=by
  have hgq:hget (hset h bb (.row 62 2 false false 0 (insF 40 c 0 (.pointer (some ⟨bb,0,none⟩))))) qb=.row e' nq op ro fz cq:=by rw [get_set_ne _ _ (by omega) hqb,hq]
  have hgb:hget (hset h bb (.row 62 2 false false 0 (insF 40 c 0 (.pointer (some ⟨bb,0,none⟩))))) bb=.row 62 2 false false 0 (insF 40 c 0 (.pointer (some ⟨bb,0,none⟩))):=get_set_eq _ _ _ (by omega)
  have hc1:getF (insF 40 c 0 (.pointer (some ⟨bb,0,none⟩))) 1=.slice none 0 0:=by rw [getF_ins _ _ _ _ (by omega),if_neg (by omega),h1]
  have ha:=append_nil (t:=60) (c:=cap) und93 i5 z5 i5s i5b hgq hm hon hm2 (by rw [next_set]; exact hroom)
  have hnx:(hset h bb (.row 62 2 false false 0 (insF 40 c 0 (.pointer (some ⟨bb,0,none⟩))))).next=h.next:=rfl
  rw [hnx] at ha
  have hgb2:hget (hpush (hset h bb (.row 62 2 false false 0 (insF 40 c 0 (.pointer (some ⟨bb,0,none⟩))))) (.row 5 m true false 0 (T.ofList unk (cellsF cq m o)))) bb=.row 62 2 false false 0 (insF 40 c 0 (.pointer (some ⟨bb,0,none⟩))):=by
    rw [get_push_ne _ _ (by rw [hnx]; exact hroom) (by rw [hnx]; exact hbb),hgb]
  refine ⟨hset (hpush (hset h bb (.row 62 2 false false 0 (insF 40 c 0 (.pointer (some ⟨bb,0,none⟩))))) (.row 5 m true false 0 (T.ofList unk (cellsF cq m o)))) bb (.row 62 2 false false 0 (insF 40 (insF 40 c 0 (.pointer (some ⟨bb,0,none⟩))) 1 (.slice (some ⟨h.next,0,none⟩) m (2 * m + 1)))),rfl,?_,⟨_,get_set_eq _ _ _ (by omega),by rw [getF_ins _ _ _ _ (by omega),if_pos rfl]⟩,?_,λ k=>?_⟩
  · intro i hi hne
    rw [get_set _ _ _ _ (by omega),if_neg hne,get_push_ne _ _ (by rw [hnx]; exact hroom) (by rw [hnx]; exact hi),get_set _ _ _ _ (by omega),if_neg hne]
  · rw [get_set _ _ _ _ (by omega),if_neg (by omega)]
    exact get_push_eq _ _ (by rw [hnx]; exact hroom)
  · have hbr:∀ k,onRow (hget (hset h bb (.row 62 2 false false 0 (insF 40 c 0 (.pointer (some ⟨bb,0,none⟩))))) bb) k=k 62 2 false false 0 (insF 40 c 0 (.pointer (some ⟨bb,0,none⟩))):=λ k=>by rw [hgb]; rfl
    rw [callF_succ,sh219_eq]
    unfold sh219
    simp (disch:=first | omega | (simp only [Nat.add_eq,Nat.mul_eq,Nat.succ_eq_add_one]; omega)) only [↓copy_run n hb h0 (by omega),↓bindO_nil,↓onPtr_ptr,↓hbr,↓ifB_ble]
    rw [show Nat.add 0 1=1 from rfl,hc1,ha]
    simp (disch:=first | omega | (simp only [Nat.add_eq,Nat.mul_eq,Nat.succ_eq_add_one]; omega)) only [↓bindP_some',↓bindO_nil,↓onPtr_ptr,↓onCells_sl]
    rw [hgb2]
    simp only [letH_eq]
    rfl
end Go.Ev
namespace Go.Ev
open Go F Go.Proofs
set_option maxRecDepth 100000
set_option linter.unusedSimpArgs false
theorem string_run (n:Nat) {h:H} {bb sb m:Nat} {c:T Value} {l:List Value} {s:List UInt8} (hb:hget h bb=.row 62 2 false false 0 c) (h1:getF c 1=.slice (some ⟨sb,0,none⟩) m (2 * m + 1)) (hs:hget h sb=.row 5 m true false 0 (T.ofList unk l))
    (hl:l.length=m) (hm:1≤m) (hm2:m≤100000) (hby:bytesC l=some s) (hroom:h.next≤1000000000) :
    ∀ k:Value→H→R,callF EE KK (n + 1) 32 [.pointer (some ⟨bb,0,none⟩)] h k=k (.string ⟨⟨s⟩⟩) (hset h sb (.row 5 m true false m (T.ofList unk l))):=by
  intro k
  have hbr:∀ k,onRow (hget h bb) k=k 62 2 false false 0 c:=λ k=>by rw [hb]; rfl
  have hh:(H.mk (Nat.add h.1 0) h.2)=h:=by cases h; rfl
  rw [callF_succ,sh154_eq]
  unfold sh154
  rw [hh]
  simp (disch:=first | omega | (simp only [Nat.add_eq,Nat.mul_eq,Nat.succ_eq_add_one]; omega)) only [↓ifB_ble,↓letH_eq,↓bindO_nil,↓onPtr_ptr,↓hbr]
  rw [show Nat.add 0 1=1 from rfl,h1,slice_data (by omega)]
  simp (disch:=first | omega | (simp only [Nat.add_eq,Nat.mul_eq,Nat.succ_eq_add_one]; omega)) only [↓bindO_some',↓bindO_nil,↓onPtr_ptr,↓hbr,↓ifB_ble]
  simp (disch:=first | omega | (simp only [Nat.add_eq,Nat.mul_eq,Nat.succ_eq_add_one]; omega)) only [↓onSl_sl]
  rw [unsafe_str und292 size5 hs hl hm hm2 hby]
  rfl
theorem eachw_run (n:Nat) {h:H} {p:ArP} {a m:Nat} {bb:Nat} {c:T Value} (x:ArOK h p a m) (hb:hget h bb=.row 62 2 false false 0 c) (h0:getF c 0=.pointer none) (h1:getF c 1=.slice none 0 0) (hbb:bb < h.next) (hpb:p.qb < bb) (hroom:h.next + 10≤1000000000) :
    ∃ h',h'.next=h.next + 1∧(∀ i,i < h.next→i ≠ bb→hget h' i=hget h i)∧(∃ c',hget h' bb=.row 62 2 false false 0 c'∧getF c' 1=.slice (some ⟨h.next,0,none⟩) m (2 * m + 1))∧hget h' h.next=.row 5 m true false 0 (T.ofList unk (cellsF p.cq m (a % 4096))) ∧
    ∀ k:Value→H→R,callF EE KK (n + 5) 85 [.pointer (some ⟨p.b,0,none⟩),.int .i64 (.ofNat a),.int .i64 (.ofNat m),.func (.func 259) ⟨[]⟩ ⟨[.pointer (some ⟨bb,0,none⟩)]⟩] h k=k (.tuple ⟨[]⟩) h':=by
  have hin:=x.hin; have hnp:=x.hnp; have one:=x.one; have m1:=x.m1; have mA:=x.mA; have hmp:=x.hmp
  obtain ⟨h',hx,hold,hbn,hsn,hw⟩:=write_run n (cap:=2 * (4096 - a % 4096)) hb h0 h1 hbb x.hQ hpb m1 one (by omega) (by omega)
  refine ⟨h',hx,hold,hbn,hsn,λ k=>?_⟩
  have hAr:∀ k,onRow (hget h p.b) k=k p.eA p.mA p.opA p.roA p.fzA p.cA:=λ k=>by rw [x.hA]; rfl
  have hPr:∀ k,onRow (hget h p.pb) k=k p.ep p.mp p.opp p.rop p.fzp p.cpp:=λ k=>by rw [x.hP]; rfl
  have c0:∀ s k,onSl (getF p.cA 0) s k=k ⟨p.pb,p.po,none⟩ p.np p.cp:=λ s k=>by rw [x.c0]; rfl
  have emin:min m (4096 - a % 4096)=m:=by omega
  rw [callF_succ,sh166_eq]
  unfold sh166
  rw [joinR_eq,loopF_lit]
  simp (disch:=first | omega | (simp only [Nat.add_eq,Nat.mul_eq,Nat.succ_eq_add_one]; omega)) only [↓gtr_t und3,↓joinR_eq,↓onB_tt,↓rem_i64 und3,↓sub_i64 und3]
  rw [min_i64,emin]
  simp (disch:=first | omega | (simp only [Nat.add_eq,Nat.mul_eq,Nat.succ_eq_add_one]; omega)) only [↓bindO_some',↓bindO_nil,↓onPtr_ptr,↓hAr,↓ifB_ble,↓quo_i64 und3,↓onNat_int,↓c0,↓addOffF_eq,↓hPr]
  rw [show Nat.mul (a / 4096) 1=a / 4096 from Nat.mul_one _,x.page]
  simp (disch:=first | omega | (simp only [Nat.add_eq,Nat.mul_eq,Nat.succ_eq_add_one]; omega)) only [↓bindO_nil,↓rem_i64 und3]
  rw [slice_arr und294 size5 (by omega)]
  simp (disch:=first | omega | (simp only [Nat.add_eq,Nat.mul_eq,Nat.succ_eq_add_one]; omega)) only [↓bindO_some']
  rw [slice_hi und93 size5 (by omega)]
  simp (disch:=first | omega | (simp only [Nat.add_eq,Nat.mul_eq,Nat.succ_eq_add_one]; omega)) only [↓bindO_some',↓onF_fn]
  rw [show catV (Array.mk []) (Array.mk [Value.pointer (some ⟨bb,0,none⟩)]) [Value.slice (some ⟨p.qb,a % 4096,none⟩) m (2 * (4096 - a % 4096))]=[Value.slice (some ⟨p.qb,a % 4096,none⟩) m (2 * (4096 - a % 4096)),Value.pointer (some ⟨bb,0,none⟩)] from rfl]
  rw [callF_succ,sh218_eq]
  unfold sh218
  rw [hw]
  simp (disch:=first | omega | (simp only [Nat.add_eq,Nat.mul_eq,Nat.succ_eq_add_one]; omega)) only [↓add_i64 und3,↓sub_i64 und3,↓loopF_lit1,↓gtr_f und3,↓joinR_eq,↓onB_ff]
theorem bytes_run (n:Nat) {h:H} {p:ArP} {a m:Nat} {s:List UInt8} (x:ArOK h p a m) (hby:bytesC (cellsF p.cq m (a % 4096))=some s) (hroom:h.next + 20≤1000000000) :
    ∃ h',Old h h'∧h'.next≤h.next + 4∧∀ k:Value→H→R,callF EE KK (n + 6) 178 [.pointer (some ⟨p.b,0,none⟩),.int .i64 (.ofNat a),.int .i64 (.ofNat m)] h k=k (.tuple ⟨[.string ⟨⟨s⟩⟩,.int .i64 (.ofNat 0)]⟩) h':=by
  have m1:=x.m1; have one:=x.one
  obtain ⟨h1,ho1,hx1,hc⟩:=check_run (n + 1) x (by omega)
  have x1:=x.old ho1
  have hq1:=x1.lq
  have ho2:Old h1 (hpush h1 (.row 62 2 false false 0 (T.ofList unk [.pointer none,.slice none 0 0]))):=(Old.refl h1).push _ (by omega)
  obtain ⟨h3,hx3,hold3,⟨c',hbn,hc1⟩,hsn,he⟩:=eachw_run n (bb:=h1.next) (x1.old ho2) (get_push_eq _ _ (by omega)) (by rw [getF_ofList]; rfl) (by rw [getF_ofList]; rfl) (by rw [next_push]; omega) hq1 (by rw [next_push]; omega)
  rw [next_push] at hx3 hold3 hsn hc1
  have hst:=string_run (n + 4) hbn hc1 hsn (len_cellsF _ _ _) m1 (by omega) hby (by omega)
  refine ⟨hset h3 (h1.next + 1) (.row 5 m true false m (T.ofList unk (cellsF p.cq m (a % 4096)))),⟨?_,λ i hi=>?_⟩,?_,λ k=>?_⟩
  · rw [next_set]; have:=ho1.1; omega
  · have:=ho1.1
    rw [get_set_ne _ _ (by omega) (by omega),hold3 i (by omega) (by omega),get_push_ne _ _ (by omega) (by omega)]
    exact ho1.2 i hi
  · rw [next_set]; omega
  · rw [callF_succ,sh129_eq]
    unfold sh129
    simp (disch:=first | omega | (simp only [Nat.add_eq,Nat.mul_eq,Nat.succ_eq_add_one]; omega)) only [↓hc,↓neq_f und34,↓joinR_eq,↓onB_ff,↓ifB_ble,↓letH_eq]
    rw [ifB_of (show andB (allF (λ v=>isS0F v) []) (allF (λ v=>isS0F v) [Value.pointer (some ⟨h1.next,0,none⟩)])=true from rfl)]
    rw [he,hst]
    rfl
end Go.Ev
namespace Go.Ev
open Go F Go.Proofs
set_option maxRecDepth 100000
set_option linter.unusedSimpArgs false
set_option linter.unusedVariables false
noncomputable def step188 (a2 v60:Value) (k69:FEnv [10]→H→R):(FEnv [10,30]→H→R)→FEnv [10,30]→H→R :=
  (λ k70=>(λ e71=>(λ h72=>(Go.Ev.F.binR (Go.Ev.F.binC Go.Ev.EE Go.BinOp.lss 3 (Go.Ev.isC (Go.Operand.tmp 30)) (Go.Ev.isC (Go.Operand.tmp 29))) e71.2.1 a2 (λ v73=>(@Go.Ev.F.joinR [] (λ e74=>(λ h75=>(@Go.Ev.F.joinR (10 :: []) (λ e76=>(λ h77=>(Go.Ev.F.binR (Go.Ev.F.binC Go.Ev.EE Go.BinOp.add 3 (Go.Ev.isC (Go.Operand.tmp 30)) (Go.Ev.isC (Go.Operand.const (Go.Value.int Go.IntKind.i64 1)))) e71.2.1 (Go.Value.int Go.IntKind.i64 (Int.ofNat 1)) (λ v78=>(k70 (e76.1,(v78,())) h77))))) (λ k79=>(Go.Ev.F.bindO (Go.Ev.indexV Go.Ev.EE 9 v60 e71.2.1) (λ v80=>(Go.Ev.F.onNat v80 (Go.Ev.F.bindO (Go.Ev.convV Go.Ev.EE h75 5 25 v80) (λ v81=>(Go.Ev.F.binR (Go.Ev.F.binC Go.Ev.EE Go.BinOp.mul 3 (Go.Ev.isC (Go.Operand.const (Go.Value.int Go.IntKind.i64 8))) (Go.Ev.isC (Go.Operand.tmp 38))) (Go.Value.int Go.IntKind.i64 (Int.ofNat 8)) e71.2.1 (λ v82=>(Go.Ev.F.binR (Go.Ev.F.binC Go.Ev.EE Go.BinOp.shl 25 (Go.Ev.isC (Go.Operand.tmp 37)) (Go.Ev.isC (Go.Operand.tmp 39))) v81 v82 (λ v83=>(Go.Ev.F.binR (Go.Ev.F.binC Go.Ev.EE Go.BinOp.or 25 (Go.Ev.isC (Go.Operand.tmp 33)) (Go.Ev.isC (Go.Operand.tmp 40))) e71.1 v83 (λ v84=>(k79 (v84,()) h75))))))))) (λ n85=>(@Bool.rec (λ x86=>Go.Ev.F.R) (Go.Ev.F.bindO (Go.Ev.convV Go.Ev.EE h75 5 25 v80) (λ v87=>(Go.Ev.F.binR (Go.Ev.F.binC Go.Ev.EE Go.BinOp.mul 3 (Go.Ev.isC (Go.Operand.const (Go.Value.int Go.IntKind.i64 8))) (Go.Ev.isC (Go.Operand.tmp 38))) (Go.Value.int Go.IntKind.i64 (Int.ofNat 8)) e71.2.1 (λ v88=>(Go.Ev.F.binR (Go.Ev.F.binC Go.Ev.EE Go.BinOp.shl 25 (Go.Ev.isC (Go.Operand.tmp 37)) (Go.Ev.isC (Go.Operand.tmp 39))) v87 v88 (λ v89=>(Go.Ev.F.binR (Go.Ev.F.binC Go.Ev.EE Go.BinOp.or 25 (Go.Ev.isC (Go.Operand.tmp 33)) (Go.Ev.isC (Go.Operand.tmp 40))) e71.1 v89 (λ v90=>(k79 (v90,()) h75))))))))) (Go.Ev.F.binR (Go.Ev.F.binC Go.Ev.EE Go.BinOp.mul 3 (Go.Ev.isC (Go.Operand.const (Go.Value.int Go.IntKind.i64 8))) (Go.Ev.isC (Go.Operand.tmp 38))) (Go.Value.int Go.IntKind.i64 (Int.ofNat 8)) e71.2.1 (λ v91=>(Go.Ev.F.binR (Go.Ev.F.binC Go.Ev.EE Go.BinOp.shl 25 (Go.Ev.isC (Go.Operand.tmp 37)) (Go.Ev.isC (Go.Operand.tmp 39))) (Go.Value.int Go.IntKind.u64 (Int.ofNat n85)) v91 (λ v92=>(Go.Ev.F.binR (Go.Ev.F.binC Go.Ev.EE Go.BinOp.or 25 (Go.Ev.isC (Go.Operand.tmp 33)) (Go.Ev.isC (Go.Operand.tmp 40))) e71.1 v92 (λ v93=>(k79 (v93,()) h75))))))) (Nat.ble n85 18446744073709551615)))))))))) (λ k94=>(Go.Ev.F.onB v73 (k69 (e71.1,()) h72) (k94 () h72)))))))))
def bigN:Nat:=1000000
noncomputable def sh188b (rc:RC) (a0 a1 a2:Value) (h:H) (k:Value→H→R):R :=
  (@Go.Ev.F.joinR (6 :: (7 :: [])) (λ e55=>(λ h56=>(rc 178 (a0 :: (a1 :: (a2 :: []))) h56 (λ v57=>(λ h58=>(Go.Ev.F.onTup v57 (λ l59=>(Go.Ev.F.nthF 0 l59 (λ v60=>(Go.Ev.F.onTup v57 (λ l61=>(Go.Ev.F.nthF 1 l61 (λ v62=>(Go.Ev.F.binR (Go.Ev.F.binC Go.Ev.EE Go.BinOp.neq 41 (Go.Ev.isC (Go.Operand.tmp 26)) (Go.Ev.isC (Go.Operand.const (Go.Value.int Go.IntKind.i64 0)))) v62 (Go.Value.int Go.IntKind.i64 (Int.ofNat 0)) (λ v63=>(@Go.Ev.F.joinR (6 :: (7 :: [])) (λ e64=>(λ h65=>(@Go.Ev.F.joinR (10 :: []) (λ e66=>(λ h67=>(Go.Ev.F.ifB (@List.all Go.Value (e66.1 :: ((Go.Value.int Go.IntKind.i64 (Int.ofNat 0)) :: [])) (λ v68=>(Bool.not (Go.Ev.isTuple v68)))) (k (Go.Value.tuple (Array.mk (e66.1 :: ((Go.Value.int Go.IntKind.i64 (Int.ofNat 0)) :: [])))) h67)))) (λ k69=>(@Go.Ev.F.loopF (10 :: (30 :: [])) (step188 a2 v60 k69) bigN ((Go.Value.int Go.IntKind.u64 (Int.ofNat 0)),((Go.Value.int Go.IntKind.i64 (Int.ofNat 0)),())) h65))))) (λ k95=>(Go.Ev.F.onB v63 (k95 (e55.1,(e55.2.1,())) h58) (Go.Ev.F.ifB (@List.all Go.Value ((Go.Value.int Go.IntKind.u64 (Int.ofNat 0)) :: (v62 :: [])) (λ v96=>(Bool.not (Go.Ev.isTuple v96)))) (k (Go.Value.tuple (Array.mk ((Go.Value.int Go.IntKind.u64 (Int.ofNat 0)) :: (v62 :: [])))) h58)))))))))))))))))))) (λ k97=>(Go.Ev.F.binR (Go.Ev.F.binC Go.Ev.EE Go.BinOp.eql 44 (Go.Ev.isC (Go.Operand.tmp 13)) (Go.Ev.isC (Go.Operand.const (Go.Value.pointer none)))) a0 (Go.Value.pointer none) (λ v98=>(@Go.Ev.F.joinR (6 :: (7 :: [])) (λ e99=>(λ h100=>(k97 (e99.1,(e99.2.1,())) h100))) (λ k101=>(Go.Ev.F.onB v98 (rc 182 (a2 :: []) h (λ v102=>(λ h103=>(Go.Ev.F.onB v102 (@Go.Ev.F.joinR (6 :: (7 :: [])) (λ e104=>(λ h105=>(k101 (e104.1,(e104.2.1,())) h105))) (λ k106=>(k (Go.Value.tuple (Array.mk ((Go.Value.int Go.IntKind.u64 (Int.ofNat 0)) :: ((Go.Value.int Go.IntKind.i64 (Int.ofNat 2)) :: [])))) h103))) (@Go.Ev.F.joinR (6 :: (7 :: [])) (λ e107=>(λ h108=>(k101 (e107.1,(e107.2.1,())) h108))) (λ k109=>(k109 ((Go.Value.int Go.IntKind.u64 (Int.ofNat 0)),((Go.Value.int Go.IntKind.i64 (Int.ofNat 0)),())) h103))))))) (k (Go.Value.tuple (Array.mk ((Go.Value.int Go.IntKind.u64 (Int.ofNat 0)) :: ((Go.Value.int Go.IntKind.i64 (Int.ofNat 1)) :: [])))) h))))))))
theorem sh188b_eq (rc:RC) (a0 a1 a2:Value) (h:H) (k:Value→H→R):(funC EE KK 118).run rc [a0,a1,a2] h k=sh188b rc a0 a1 a2 h k:=by kernel_rfl
def ldv:List UInt8→Nat→Nat→Nat
  | [],x,_=>x
  | b :: l,x,i=>ldv l (x ||| (b.toNat <<< (8 * i))) (i + 1)
theorem und9:EE.und 9=some .string:=by kernel_rfl
theorem und5:EE.und 5=some (.int .u8):=by kernel_rfl
theorem idx_str {s:List UInt8} {j:Nat} {b:UInt8} {kd:IntKind} (h:s[j]?=some b):indexV EE 9 (.string ⟨⟨s⟩⟩) (.int kd (.ofNat j))=some (.int .u8 (.ofNat b.toNat)):=by
  simp only [indexV,und9]
  rw [h]
  rfl
theorem brec_t {a b:Nat} (h:a≤b) (x y:R):@Bool.rec (λ _=>R) x y (Nat.ble a b)=y:=by rw [ble_t h]
theorem drop_get {s:List UInt8} {j:Nat} (h:j < s.length):∃ b,s[j]?=some b∧s.drop j=b :: s.drop (j + 1) :=
  ⟨s[j],by simp [h],List.drop_eq_getElem_cons h⟩
theorem loop188 (s:List UInt8) (m:Nat) (k69:FEnv [10]→H→R) (hm:m≤8) (hl:s.length=m):∀ (d j x N:Nat) (h:H),j + d=m→x < 2 ^ (8 * j)→d < N →
    loopF (ks:=[10,30]) (step188 (.int .i64 (.ofNat m)) (.string ⟨⟨s⟩⟩) k69) N (.int .u64 (.ofNat x),(.int .i64 (.ofNat j),())) h=k69 (.int .u64 (.ofNat (ldv (s.drop j) x j)),()) h:=by
  intro d
  induction d with
  | zero =>
    intro j x N h hj hx hN
    obtain ⟨N,rfl⟩:∃ M,N=M + 1:=⟨N - 1,by omega⟩
    have hd:s.drop j=[]:=by apply List.drop_eq_nil_of_le; omega
    rw [loopF_one,hd]
    unfold step188
    simp (disch:=omega) only [↓lss_f und3,↓joinR_eq,↓onB_ff]
    rfl
  | succ d ih =>
    intro j x N h hj hx hN
    obtain ⟨N,rfl⟩:∃ M,N=M + 1:=⟨N - 1,by omega⟩
    obtain ⟨b,hb,hd⟩:=drop_get (s:=s) (j:=j) (by omega)
    have hb8:b.toNat < 2 ^ 8:=b.toNat_lt
    have hp:(2:Nat) ^ (8 * j)≤2 ^ 56:=Nat.pow_le_pow_right (by omega) (by omega)
    have hsh:b.toNat <<< (8 * j) < 2 ^ (8 * (j + 1)):=by
      rw [Nat.shiftLeft_eq,show 8 * (j + 1)=8 + 8 * j by omega,Nat.pow_add]
      exact Nat.mul_lt_mul_of_pos_right hb8 (Nat.two_pow_pos _)
    have hp2:(2:Nat) ^ (8 * (j + 1))≤2 ^ 64:=Nat.pow_le_pow_right (by omega) (by omega)
    have hx2:x < 2 ^ (8 * (j + 1)):=Nat.lt_of_lt_of_le hx (Nat.pow_le_pow_right (by omega) (by omega))
    have hor:=Nat.or_lt_two_pow hx2 hsh
    rw [loopF_one,hd]
    unfold step188
    simp (disch:=omega) only [↓lss_t und3,↓joinR_eq,↓onB_tt]
    rw [idx_str hb]
    simp (disch:=omega) only [↓bindO_some',↓onNat_int,↓brec_t,↓mul_i64 und3,↓shl_u64 und22,↓or_u64 und22,↓add_i64 und3]
    exact ih (j + 1) _ N h (by omega) hor (by omega)
theorem whole_run (n m:Nat) (h:H) (k:Value→H→R) (hm:m=1 ∨ m=2 ∨ m=4 ∨ m=8):callF EE KK (n + 1) 182 [.int .i64 (.ofNat m)] h k=k (.bool true) h:=by
  rcases hm with rfl | rfl | rfl | rfl
  · kernel_rfl
  · kernel_rfl
  · kernel_rfl
  · kernel_rfl
theorem bytesC_len:∀ (l:List Value) (s:List UInt8),bytesC l=some s→s.length=l.length:=by
  intro l
  induction l with
  | nil=>intro s h; simp only [bytesC,Option.some.injEq] at h; subst h; rfl
  | cons v l ih =>
    intro s h
    unfold bytesC at h
    split at h
    · simp at *
    · rename_i n l' he
      cases he
      cases hb:Nat.blt n 256 with
      | false=>rw [hb] at h; exact nomatch h
      | true =>
        rw [hb] at h
        simp only [cond_true] at h
        cases hr:bytesC l with
        | none=>rw [hr] at h; exact nomatch h
        | some r =>
          rw [hr] at h
          injection h with h
          subst h
          simp [ih r hr]
    · exact nomatch h
end Go.Ev
namespace Go.Ev
open Go F Go.Proofs
set_option maxRecDepth 100000
set_option linter.unusedSimpArgs false
set_option linter.unusedVariables false
theorem load_run (n:Nat) {h:H} {p:ArP} {a m:Nat} {s:List UInt8} (x:ArOK h p a m) (hby:bytesC (cellsF p.cq m (a % 4096))=some s) (hm:m=1 ∨ m=2 ∨ m=4 ∨ m=8) (hroom:h.next + 20≤1000000000) :
    ∃ h',Old h h'∧h'.next≤h.next + 4∧∀ k:Value→H→R,callF EE KK (n + 7) 118 [.pointer (some ⟨p.b,0,none⟩),.int .i64 (.ofNat a),.int .i64 (.ofNat m)] h k=k (.tuple ⟨[.int .u64 (.ofNat (ldv s 0 0)),.int .i64 (.ofNat 0)]⟩) h':=by
  obtain ⟨h',ho,hx,hb⟩:=bytes_run n x hby hroom
  have hl:s.length=m:=(bytesC_len _ _ hby).trans (len_cellsF _ _ _)
  refine ⟨h',ho,hx,λ k=>?_⟩
  rw [callF_succ,sh188b_eq]
  unfold sh188b
  simp (disch:=first | omega | exact hm) only [↓joinR_eq,↓eql_nil und38,↓onB_ff,↓whole_run,↓onB_tt,↓hb,↓onTup_tup,↓nthF_zero,↓nthF_one,↓neq_f und34]
  have:=loop188 s m (λ e66 h67=>ifB ([e66.1,.int .i64 (.ofNat 0)].all λ v=>!isTuple v) (k (.tuple ⟨[e66.1,.int .i64 (.ofNat 0)]⟩) h67)) (by omega) hl m 0 0 bigN h' (by omega) (by decide) (by unfold bigN; omega)
  rw [List.drop_zero] at this
  exact this
end Go.Ev
namespace Go.Ev
set_option linter.unusedVariables false
open Go F Go.Proofs
noncomputable def onAt (ad:Addr) (k:Nat→Nat→R):R:=Option.rec (motive:=λ _=>R) (k ad.1 ad.2) (λ _=>none) ad.3
noncomputable def onI64 (v:Value) (k:Nat→R):R:=NN.rec (motive:=λ _=>R) none k (asI64 v)
noncomputable def onU64 (v:Value) (k:Nat→R):R:=NN.rec (motive:=λ _=>R) none k (asU64 v)
noncomputable def onU8 (v:Value) (k:Nat→R):R:=NN.rec (motive:=λ _=>R) none k (asU8 v)
noncomputable def onN (x:Nat) (k:Nat→R):R:=Nat.rec (motive:=λ _=>R) (k 0) (λ p _=>k (Nat.succ p)) x
theorem onN_eq (x:Nat) (k:Nat→R):onN x k=k x:=by cases x <;> rfl
noncomputable def arQ3 (h:H) (a m b pb po wb wo np:Nat) (k:T Value→R):R :=
  onRow (hget h pb) λ _ mp _ _ _ cpp=>ifB (Nat.ble (Nat.succ (Nat.add po (Nat.div a 4096))) mp) (
  onPtr (getF cpp (Nat.add po (Nat.div a 4096))) λ aq=>onAt aq λ qb qo=>ifB (Nat.beq qo 0) (
  onRow (hget h qb) λ _ mq _ _ _ cq=>ifB (Nat.beq mq 4096) (
  ifB (Nat.ble (Nat.succ b) h.1) (ifB (Nat.ble (Nat.succ wb) h.1) (ifB (Nat.ble (Nat.succ pb) h.1) (ifB (Nat.ble (Nat.succ qb) h.1) (
  ifB (Nat.ble (Nat.add (Nat.mod a 4096) m) 4096) (ifB (Nat.ble 1 m) (ifB (Nat.ble (Nat.add a m) (Nat.mul np 4096)) (ifB (Nat.ble np 1000000) (ifB (Nat.ble (Nat.add h.1 20) 1000000000) (k cq))))))))))))
noncomputable def arQ2 (h:H) (a m b f:Nat) (cA:T Value) (k:T Value→R):R :=
  onSl (getF cA 0) none λ ap np _=>onAt ap λ pb po =>
  onSl (getF cA 2) none λ aw nw _=>onAt aw λ wb wo =>
  onI64 (getF cA 1) λ L=>ifB (Nat.ble (Nat.succ f) L) (ifB (Nat.ble L 1000000) (
  onRow (hget h wb) λ _ mw _ _ _ cww=>ifB (Nat.ble (Nat.succ (Nat.div f 64)) nw) (ifB (Nat.ble (Nat.succ (Nat.add wo (Nat.div f 64))) mw) (
  onU64 (getF cww (Nat.add wo (Nat.div f 64))) λ w=>ifB (Nat.ble w 18446744073709551615) (ifB (Nat.beq (Nat.land w (Nat.pow 2 (Nat.mod f 64))) (Nat.pow 2 (Nat.mod f 64))) (
  arQ3 h a m b pb po wb wo np k))))))
noncomputable def arQ (v:Value) (a m:Nat) (h:H) (k:T Value→R):R :=
  onPtr v λ ad=>onAt ad λ b o=>ifB (Nat.beq o 0) (
  onRow (hget h b) λ _ mA _ _ _ cA=>ifB (Nat.ble 3 mA) (onN (Nat.div a 4096) λ f=>arQ2 h a m b f cA k))
theorem onAt_some {ad:Addr} {k:Nat→Nat→R} {r} (h:onAt ad k=some r):∃ b o,ad=⟨b,o,none⟩∧k b o=some r:=by
  obtain ⟨b,o,s⟩:=ad
  cases s with
  | none=>exact ⟨b,o,rfl,h⟩
  | some _=>exact nomatch h
theorem natOf_s {n:Int} {m:Nat} (h:natOf n=.s m):n=.ofNat m:=by
  cases n with
  | ofNat k=>cases h; rfl
  | negSucc k=>exact nomatch h
theorem nn_some {x:NN} {k:Nat→R} {r} (h:NN.rec (motive:=λ _=>R) none k x=some r):∃ n,x=.s n∧k n=some r:=by
  cases x with
  | no=>exact nomatch h
  | s n=>exact ⟨n,rfl,h⟩
theorem onI64_some {v:Value} {k:Nat→R} {r} (h:onI64 v k=some r):∃ n,v=.int .i64 (.ofNat n)∧k n=some r:=by
  obtain ⟨n,e,h⟩:=nn_some h
  refine ⟨n,?_,h⟩
  cases v with
  | int kd z=>cases kd <;> first | (rw [natOf_s e]) | exact nomatch e
  | _=>exact nomatch e
theorem onU64_some {v:Value} {k:Nat→R} {r} (h:onU64 v k=some r):∃ n,v=.int .u64 (.ofNat n)∧k n=some r:=by
  obtain ⟨n,e,h⟩:=nn_some h
  refine ⟨n,?_,h⟩
  cases v with
  | int kd z=>cases kd <;> first | (rw [natOf_s e]) | exact nomatch e
  | _=>exact nomatch e
theorem onU8_some {v:Value} {k:Nat→R} {r} (h:onU8 v k=some r):∃ n,v=.int .u8 (.ofNat n)∧k n=some r:=by
  obtain ⟨n,e,h⟩:=nn_some h
  refine ⟨n,?_,h⟩
  cases v with
  | int kd z=>cases kd <;> first | (rw [natOf_s e]) | exact nomatch e
  | _=>exact nomatch e
theorem onSl_some' {v:Value} {k:Addr→Nat→Nat→R} {r} (h:onSl v none k=some r):∃ ad n c,v=.slice (some ad) n c∧k ad n c=some r:=by
  rcases onSl_some h with h | h
  · exact nomatch h
  · exact h
theorem arQ_some {v:Value} {a m:Nat} {h:H} {k:T Value→R} {r} (hk:arQ v a m h k=some r) :
    ∃ p:ArP,v=.pointer (some ⟨p.b,0,none⟩)∧ArOK h p a m∧h.next + 20≤1000000000∧k p.cq=some r:=by
  unfold arQ at hk
  obtain ⟨ad,ev,hk⟩:=onPtr_some hk
  obtain ⟨b,o,ed,hk⟩:=onAt_some hk
  obtain ⟨ho,hk⟩:=ifB_some hk
  have ho:=Nat.eq_of_beq_eq_true ho
  rw [ed,ho] at ev
  obtain ⟨eA,mA,opA,roA,fzA,cA,hA,hk⟩:=onRow_some hk
  obtain ⟨hmA,hk⟩:=ifB_some hk
  rw [onN_eq] at hk
  unfold arQ2 at hk
  obtain ⟨_,np,cp,c0,hk⟩:=onSl_some' hk
  obtain ⟨pb,po,ed0,hk⟩:=onAt_some hk
  rw [ed0] at c0
  obtain ⟨_,nw,cw,c2,hk⟩:=onSl_some' hk
  obtain ⟨wb,wo,ed2,hk⟩:=onAt_some hk
  rw [ed2] at c2
  obtain ⟨L,c1,hk⟩:=onI64_some hk
  obtain ⟨q1,hk⟩:=ifB_some hk
  obtain ⟨q2,hk⟩:=ifB_some hk
  obtain ⟨ew,mw,opw,row,fzw,cww,hW,hk⟩:=onRow_some hk
  obtain ⟨q3,hk⟩:=ifB_some hk
  obtain ⟨q4,hk⟩:=ifB_some hk
  obtain ⟨w,word,hk⟩:=onU64_some hk
  obtain ⟨q5,hk⟩:=ifB_some hk
  obtain ⟨q6,hk⟩:=ifB_some hk
  unfold arQ3 at hk
  obtain ⟨ep,mp,opp,rop,fzp,cpp,hP,hk⟩:=onRow_some hk
  obtain ⟨q7,hk⟩:=ifB_some hk
  obtain ⟨_,page,hk⟩:=onPtr_some hk
  obtain ⟨qb,qo,ed3,hk⟩:=onAt_some hk
  obtain ⟨q8,hk⟩:=ifB_some hk
  have q8:=Nat.eq_of_beq_eq_true q8
  rw [ed3,q8] at page
  obtain ⟨eq,mq,opq,roq,fzq,cq,hQ,hk⟩:=onRow_some hk
  obtain ⟨q9,hk⟩:=ifB_some hk
  have q9:=Nat.eq_of_beq_eq_true q9
  rw [q9] at hQ
  obtain ⟨r1,hk⟩:=ifB_some hk
  obtain ⟨r2,hk⟩:=ifB_some hk
  obtain ⟨r3,hk⟩:=ifB_some hk
  obtain ⟨r4,hk⟩:=ifB_some hk
  obtain ⟨r5,hk⟩:=ifB_some hk
  obtain ⟨r6,hk⟩:=ifB_some hk
  obtain ⟨r7,hk⟩:=ifB_some hk
  obtain ⟨r8,hk⟩:=ifB_some hk
  obtain ⟨r9,hk⟩:=ifB_some hk
  exact ⟨⟨b,eA,mA,fzA,np,cp,L,wb,wo,nw,cw,ew,mw,fzw,w,pb,po,ep,mp,fzp,qb,eq,fzq,opA,roA,opw,row,opp,rop,opq,roq,cA,cww,cpp,cq⟩,ev,
    { hA:=hA
      mA:=Nat.le_of_ble_eq_true hmA
      c0:=c0
      c1:=c1
      c2:=c2
      hW:=hW
      word:=word
      hnw:=Nat.le_of_ble_eq_true q3
      hmw:=Nat.le_of_ble_eq_true q4
      hw:=Nat.le_of_ble_eq_true q5
      bit:=Nat.eq_of_beq_eq_true q6
      hf:=Nat.le_of_ble_eq_true q1
      hL:=Nat.le_of_ble_eq_true q2
      one:=Nat.le_of_ble_eq_true r5
      m1:=Nat.le_of_ble_eq_true r6
      hin:=Nat.le_of_ble_eq_true r7
      hnp:=Nat.le_of_ble_eq_true r8
      lb:=Nat.le_of_ble_eq_true r1
      lw:=Nat.le_of_ble_eq_true r2
      lp:=Nat.le_of_ble_eq_true r3
      lq:=Nat.le_of_ble_eq_true r4
      hP:=hP
      page:=page
      hmp:=Nat.le_of_ble_eq_true q7
      hQ:=hQ },Nat.le_of_ble_eq_true r9,hk⟩
noncomputable def ldQ (c:T Value) (m:Nat):Nat→Nat→Nat→(Nat→R)→R :=
  Nat.rec (motive:=λ _=>Nat→Nat→Nat→(Nat→R)→R) (λ _ _ x k=>onN x k)
    (λ _ ih o i x k=>onU8 (getF c o) λ n=>ifB (Nat.ble n 255) (ih (Nat.succ o) (Nat.add i 8) (Nat.lor x (Nat.shiftLeft n i)) k)) m
noncomputable def loadQ (args:List Value) (h:H):R :=
  nthF 0 args λ v=>nthF 1 args λ va=>nthF 2 args λ vm=>ifB (Nat.beq (lenF args) 3) (onI64 va λ a=>onI64 vm λ m =>
  ifB (Nat.beq m 1 || Nat.beq m 2 || Nat.beq m 4 || Nat.beq m 8) (arQ v a m h λ c=>ldQ c m (Nat.mod a 4096) 0 0 λ x=>some (.tuple ⟨[.int .u64 (.ofNat x),.int .i64 (.ofNat 0)]⟩,h)))
theorem cellsF_succ (c:T Value) (m o:Nat):cellsF c (m + 1) o=getF c o :: cellsF c m (o + 1):=rfl
theorem ldQ_some {c:T Value}:∀ {m o i j x:Nat} {k:Nat→R} {r},ldQ c m o i x k=some r→i=8 * j→∃ s,bytesC (cellsF c m o)=some s∧k (ldv s x j)=some r
  | 0,o,i,j,x,k,r,h,_=>by
    have h:onN x k=some r:=h
    rw [onN_eq] at h
    exact ⟨[],rfl,h⟩
  | m + 1,o,i,j,x,k,r,h,e=>by
    have h:(onU8 (getF c o) λ n=>ifB (Nat.ble n 255) (ldQ c m (Nat.succ o) (Nat.add i 8) (Nat.lor x (Nat.shiftLeft n i)) k))=some r:=h
    obtain ⟨n,e1,h⟩:=onU8_some h
    obtain ⟨hb,h⟩:=ifB_some h
    have hb:=Nat.le_of_ble_eq_true hb
    obtain ⟨s,hs,hk⟩:=ldQ_some (j:=j + 1) h (by show i + 8=_; omega)
    subst e
    refine ⟨n.toUInt8 :: s,?_,?_⟩
    · rw [cellsF_succ,e1]
      show bytesC (.int .u8 (.ofNat n) :: cellsF c m (o + 1))=_
      simp only [bytesC]
      rw [show bytesC (cellsF c m (o + 1))=some s from hs]
      have:Nat.blt n 256=true:=Nat.ble_eq_true_of_le (Nat.succ_le_succ hb)
      rw [this]
      rfl
    · have:(n.toUInt8).toNat=n:=by
        simp [Nat.toUInt8,UInt8.toNat_ofNat']
        omega
      show k (ldv s (x ||| (n.toUInt8.toNat <<< (8 * j))) (j + 1))=some r
      rw [this]
      exact hk
theorem lenF_eq (l:List Value):lenF l=l.length:=by
  induction l with
  | nil=>rfl
  | cons v l ih=>show Nat.succ (lenF l)=_; rw [ih]; rfl
theorem nthF_some {i:Nat} {l:List Value} {k:Value→R} {r} (h:nthF i l k=some r):∃ v,l[i]?=some v∧k v=some r:=by
  induction i generalizing l with
  | zero=>cases l with
    | nil=>exact nomatch h
    | cons v l=>exact ⟨v,rfl,h⟩
  | succ i ih=>cases l with
    | nil=>exact nomatch h
    | cons v l =>
      obtain ⟨u,e,h⟩:=ih (l:=l) h
      exact ⟨u,by simpa using e,h⟩
theorem args3 {args:List Value} {v0 v1 v2:Value} (h0:args[0]?=some v0) (h1:args[1]?=some v1) (h2:args[2]?=some v2) (hl:args.length=3):args=[v0,v1,v2]:=by
  match args,hl with
  | [a,b,c],_=>simp at h0 h1 h2; rw [h0,h1,h2]
def Quick (f:FuncId) (args:List Value) (h:H) (r:Value × H):Prop:=r.2=h∧∃ v0,ground2 v0=true∧(∀ ρ u,VR ρ v0 u→VR ρ r.1 u)∧∃ n h',Old h h'∧∀ k:Value→H→R,callF EE KK n f args h k=k v0 h'
theorem loadQ_ok {args:List Value} {h:H} {r:Value × H} (hq:loadQ args h=some r):Quick 118 args h r:=by
  unfold loadQ at hq
  obtain ⟨v,e0,hq⟩:=nthF_some hq
  obtain ⟨va,e1,hq⟩:=nthF_some hq
  obtain ⟨vm,e2,hq⟩:=nthF_some hq
  obtain ⟨hl,hq⟩:=ifB_some hq
  have hl:=Nat.eq_of_beq_eq_true hl
  rw [lenF_eq] at hl
  have ha:=args3 e0 e1 e2 hl
  obtain ⟨a,ea,hq⟩:=onI64_some hq
  obtain ⟨m,em,hq⟩:=onI64_some hq
  obtain ⟨hm,hq⟩:=ifB_some hq
  obtain ⟨p,ep,hok,hroom,hq⟩:=arQ_some hq
  obtain ⟨s,hs,hq⟩:=ldQ_some (j:=0) hq rfl
  have hq:=Option.some.inj hq
  subst hq
  have hm:m=1 ∨ m=2 ∨ m=4 ∨ m=8:=by
    simp only [Bool.or_eq_true] at hm
    rcases hm with ((q | q) | q) | q
    · exact .inl (Nat.eq_of_beq_eq_true q)
    · exact .inr (.inl (Nat.eq_of_beq_eq_true q))
    · exact .inr (.inr (.inl (Nat.eq_of_beq_eq_true q)))
    · exact .inr (.inr (.inr (Nat.eq_of_beq_eq_true q)))
  obtain ⟨h',ho,_,hk⟩:=load_run 0 hok hs hm hroom
  refine ⟨rfl,_,rfl,λ _ _ q=>q,7,h',ho,λ k=>?_⟩
  rw [ha,ep,ea,em]
  exact hk k
noncomputable def bytQ (c:T Value) (m:Nat):Nat→(List UInt8→R)→R :=
  Nat.rec (motive:=λ _=>Nat→(List UInt8→R)→R) (λ _ k=>k [])
    (λ _ ih o k=>onU8 (getF c o) λ n=>ifB (Nat.ble n 255) (ih (Nat.succ o) (λ l=>k (UInt8.ofNat n :: l)))) m
theorem bytQ_some {c:T Value}:∀ {m o:Nat} {k:List UInt8→R} {r},bytQ c m o k=some r→∃ s,bytesC (cellsF c m o)=some s∧k s=some r
  | 0,o,k,r,h=>⟨[],rfl,h⟩
  | m + 1,o,k,r,h=>by
    have h:(onU8 (getF c o) λ n=>ifB (Nat.ble n 255) (bytQ c m (Nat.succ o) (λ l=>k (UInt8.ofNat n :: l))))=some r:=h
    obtain ⟨n,e1,h⟩:=onU8_some h
    obtain ⟨hb,h⟩:=ifB_some h
    have hb:=Nat.le_of_ble_eq_true hb
    obtain ⟨s,hs,hk⟩:=bytQ_some h
    refine ⟨UInt8.ofNat n :: s,?_,hk⟩
    rw [cellsF_succ,e1]
    show bytesC (.int .u8 (.ofNat n) :: cellsF c m (o + 1))=_
    simp only [bytesC]
    rw [show bytesC (cellsF c m (o + 1))=some s from hs]
    have:Nat.blt n 256=true:=Nat.ble_eq_true_of_le (Nat.succ_le_succ hb)
    rw [this]
    rfl
noncomputable def isB (v:Value):Bool:=NN.rec (motive:=λ _=>Bool) false (λ n=>Nat.ble n 255) (asU8 v)
noncomputable def allB (t:T Value):Bool:=T.rec (motive:=λ _=>Bool) isB (λ _ v _ a b=>Bool.rec (motive:=λ _=>Bool) false (Bool.rec (motive:=λ _=>Bool) false (isB v) b) a) t
theorem isB_some {v:Value} (h:isB v=true):∃ n,v=.int .u8 (.ofNat n)∧n≤255:=by
  unfold isB at h
  cases e:asU8 v with
  | no=>rw [e] at h; exact nomatch h
  | s n =>
    rw [e] at h
    refine ⟨n,?_,Nat.le_of_ble_eq_true h⟩
    have:onU8 v (λ n=>some (.int .u8 (.ofNat n),⟨0,.c .dead⟩))=some (.int .u8 (.ofNat n),⟨0,.c .dead⟩):=by unfold onU8; rw [e]
    obtain ⟨m,e1,e2⟩:=onU8_some this
    rw [e1]
    rw [e1] at e
    cases e
    rfl
theorem allB_get {t:T Value}:allB t=true→∀ i,isB (getF t i)=true:=by
  induction t with
  | c v=>intro h i; exact h
  | n l v r ihl ihr =>
    intro h
    have h:Bool.rec (motive:=λ _=>Bool) false (Bool.rec (motive:=λ _=>Bool) false (isB v) (allB r)) (allB l)=true:=h
    have hl:allB l=true:=by cases e:allB l with | true=>rfl | false=>rw [e] at h; exact nomatch h
    rw [hl] at h
    have hr:allB r=true:=by cases e:allB r with | true=>rfl | false=>rw [e] at h; exact nomatch h
    rw [hr] at h
    intro i
    rw [getF_eq,T.get_n]
    cases i with
    | zero=>exact h
    | succ j =>
      simp only []
      split
      · rw [← getF_eq]; exact ihl hl _
      · rw [← getF_eq]; exact ihr hr _
theorem allB_bytes {c:T Value} (hc:allB c=true):∀ m o,∃ s,bytesC (cellsF c m o)=some s
  | 0,_=>⟨[],rfl⟩
  | m + 1,o=>by
    obtain ⟨s,hs⟩:=allB_bytes hc m (o + 1)
    obtain ⟨n,e1,hb⟩:=isB_some (allB_get hc o)
    refine ⟨UInt8.ofNat n :: s,?_⟩
    rw [cellsF_succ,e1]
    simp only [bytesC]
    rw [hs]
    have:Nat.blt n 256=true:=Nat.ble_eq_true_of_le (Nat.succ_le_succ hb)
    rw [this]
    rfl
noncomputable def bytesQ (args:List Value) (h:H):R :=
  nthF 0 args λ v=>nthF 1 args λ va=>nthF 2 args λ vm=>ifB (Nat.beq (lenF args) 3) (onI64 va λ a=>onI64 vm λ m =>
  arQ v a m h λ c=>Bool.rec (motive:=λ _=>R) (ifB (allB c) (some (.tuple ⟨[unk,.int .i64 (.ofNat 0)]⟩,h)))
    (bytQ c m (Nat.mod a 4096) λ s=>some (.tuple ⟨[.string ⟨⟨s⟩⟩,.int .i64 (.ofNat 0)]⟩,h)) (Nat.ble m 12))
theorem bytesQ_ok {args:List Value} {h:H} {r:Value × H} (hq:bytesQ args h=some r):Quick 178 args h r:=by
  unfold bytesQ at hq
  obtain ⟨v,e0,hq⟩:=nthF_some hq
  obtain ⟨va,e1,hq⟩:=nthF_some hq
  obtain ⟨vm,e2,hq⟩:=nthF_some hq
  obtain ⟨hl,hq⟩:=ifB_some hq
  have hl:=Nat.eq_of_beq_eq_true hl
  rw [lenF_eq] at hl
  have ha:=args3 e0 e1 e2 hl
  obtain ⟨a,ea,hq⟩:=onI64_some hq
  obtain ⟨m,em,hq⟩:=onI64_some hq
  obtain ⟨p,ep,hok,hroom,hq⟩:=arQ_some hq
  cases hm:Nat.ble m 12 with
  | false =>
    rw [hm] at hq
    obtain ⟨hb,hq⟩:=ifB_some hq
    obtain ⟨s,hs⟩:=allB_bytes hb m (a % 4096)
    have hq:=Option.some.inj hq
    subst hq
    obtain ⟨h',ho,_,hk⟩:=bytes_run 0 hok hs hroom
    refine ⟨rfl,.tuple ⟨[.string ⟨⟨s⟩⟩,.int .i64 (.ofNat 0)]⟩,rfl,λ ρ u q=>?_,6,h',ho,λ k=>?_⟩
    · obtain ⟨l,rfl,hl⟩:=q.tuple
      match l,hl with
      | [u1,u2],⟨_,h2,_⟩=>exact .inr ⟨_,_,rfl,rfl,.inl (.inl rfl),h2,trivial⟩
    · rw [ha,ep,ea,em]
      exact hk k
  | true =>
  rw [hm] at hq
  obtain ⟨s,hs,hq⟩:=bytQ_some hq
  have hq:=Option.some.inj hq
  subst hq
  obtain ⟨h',ho,_,hk⟩:=bytes_run 0 hok hs hroom
  refine ⟨rfl,_,rfl,λ _ _ q=>q,6,h',ho,λ k=>?_⟩
  rw [ha,ep,ea,em]
  exact hk k
noncomputable def checkQ (args:List Value) (h:H):R :=
  nthF 0 args λ v=>nthF 1 args λ va=>nthF 2 args λ vm=>ifB (Nat.beq (lenF args) 3) (onI64 va λ a=>onI64 vm λ m =>
  arQ v a m h λ _=>some (.int .i64 (.ofNat 0),h))
theorem checkQ_ok {args:List Value} {h:H} {r:Value × H} (hq:checkQ args h=some r):Quick 84 args h r:=by
  unfold checkQ at hq
  obtain ⟨v,e0,hq⟩:=nthF_some hq
  obtain ⟨va,e1,hq⟩:=nthF_some hq
  obtain ⟨vm,e2,hq⟩:=nthF_some hq
  obtain ⟨hl,hq⟩:=ifB_some hq
  have hl:=Nat.eq_of_beq_eq_true hl
  rw [lenF_eq] at hl
  have ha:=args3 e0 e1 e2 hl
  obtain ⟨a,ea,hq⟩:=onI64_some hq
  obtain ⟨m,em,hq⟩:=onI64_some hq
  obtain ⟨p,ep,hok,hroom,hq⟩:=arQ_some hq
  have hq:=Option.some.inj hq
  subst hq
  obtain ⟨h',ho,_,hk⟩:=check_run 0 hok (by omega)
  refine ⟨rfl,_,rfl,λ _ _ q=>q,4,h',ho,λ k=>?_⟩
  rw [ha,ep,ea,em]
  exact hk k
end Go.Ev
namespace Go.Ev
open Go F Go.Proofs
set_option maxRecDepth 100000
set_option linter.unusedSimpArgs false
set_option linter.unusedVariables false
noncomputable def step167 (a0 a1:Value) (n114:Nat) (k118:FEnv []→H→R):(FEnv [6]→H→R)→FEnv [6]→H→R :=
  (λ k119=>(λ e120=>(λ h121=>(Go.Ev.F.binR (Go.Ev.F.binC Go.Ev.EE Go.BinOp.lss 3 (Go.Ev.isC (Go.Operand.tmp 6)) (Go.Ev.isC (Go.Operand.tmp 5))) e120.1 (Go.Value.int Go.IntKind.i64 (Int.ofNat n114)) (λ v122=>(@Go.Ev.F.joinR [] (λ e123=>(λ h124=>(@Go.Ev.F.joinR [] (λ e125=>(λ h126=>(Go.Ev.F.binR (Go.Ev.F.binC Go.Ev.EE Go.BinOp.add 3 (Go.Ev.isC (Go.Operand.tmp 6)) (Go.Ev.isC (Go.Operand.const (Go.Value.int Go.IntKind.i64 1)))) e120.1 (Go.Value.int Go.IntKind.i64 (Int.ofNat 1)) (λ v127=>(k119 (v127,()) h126))))) (λ k128=>(Go.Ev.F.onPtr a1 (λ a129=>(Go.Ev.F.onRow (Go.Ev.F.hget h124 a129.1) (λ x130=>(λ n131=>(λ x132=>(λ x133=>(λ n134=>(λ t135=>(Go.Ev.F.ifB (Nat.ble (Nat.succ a129.2) n131) (Go.Ev.F.onNat e120.1 none (λ n136=>(Go.Ev.F.onSl a0 none (λ a137=>(λ n138=>(λ n139=>(Go.Ev.F.ifB (Nat.ble (Nat.succ n136) n138) (Go.Ev.F.addOffF a137 (Nat.mul n136 1) (λ v140=>(Go.Ev.F.onPtr v140 (λ a141=>(Go.Ev.F.onCells (@Go.Ev.F.getF Go.Value t135 a129.2) (λ l142=>(Go.Ev.F.onRow (Go.Ev.F.hget h124 a141.1) (λ x143=>(λ n144=>(λ x145=>(λ x146=>(λ n147=>(λ t148=>(Go.Ev.F.ifB (Go.Ev.F.notB x146) (Go.Ev.F.ifB (Nat.beq (Go.Ev.F.lenF l142) 1) (Go.Ev.F.ifB (Nat.ble n147 a141.2) (Go.Ev.F.ifB (Nat.ble (Nat.add a141.2 1) n144) (Go.Ev.F.ifB (Nat.ble n144 1000000000) (Go.Ev.F.ifB (Go.Ev.F.allF (λ v149=>(Go.Ev.F.cell1F v149)) l142) (Go.Ev.F.letH (Go.Ev.F.hset h124 a141.1 (Go.Ev.AO.row x143 n144 x145 Bool.false n147 (Go.Ev.F.putF t148 a141.2 l142))) (λ h150=>(k128 () h150))))))))))))))))))))))))))))))))))))))))))) (λ k151=>(Go.Ev.F.onB v122 (k118 () h121) (k151 () h121)))))))))
noncomputable def sh167b (rc:RC) (a0 a1:Value) (h:H) (k:Value→H→R):R :=
  (Go.Ev.F.onSl a0 (Go.Ev.F.bindO (Go.Ev.lenV Go.Ev.EE h 60 a0) (λ v76=>(@Go.Ev.F.joinR [] (λ e77=>(λ h78=>(k (Go.Value.tuple (Array.mk [])) h78))) (λ k79=>(@Go.Ev.F.loopF (6 :: []) (λ k80=>(λ e81=>(λ h82=>(Go.Ev.F.binR (Go.Ev.F.binC Go.Ev.EE Go.BinOp.lss 3 (Go.Ev.isC (Go.Operand.tmp 6)) (Go.Ev.isC (Go.Operand.tmp 5))) e81.1 v76 (λ v83=>(@Go.Ev.F.joinR [] (λ e84=>(λ h85=>(@Go.Ev.F.joinR [] (λ e86=>(λ h87=>(Go.Ev.F.binR (Go.Ev.F.binC Go.Ev.EE Go.BinOp.add 3 (Go.Ev.isC (Go.Operand.tmp 6)) (Go.Ev.isC (Go.Operand.const (Go.Value.int Go.IntKind.i64 1)))) e81.1 (Go.Value.int Go.IntKind.i64 (Int.ofNat 1)) (λ v88=>(k80 (v88,()) h87))))) (λ k89=>(Go.Ev.F.onPtr a1 (λ a90=>(Go.Ev.F.onRow (Go.Ev.F.hget h85 a90.1) (λ x91=>(λ n92=>(λ x93=>(λ x94=>(λ n95=>(λ t96=>(Go.Ev.F.ifB (Nat.ble (Nat.succ a90.2) n92) (Go.Ev.F.onNat e81.1 none (λ n97=>(Go.Ev.F.onSl a0 none (λ a98=>(λ n99=>(λ n100=>(Go.Ev.F.ifB (Nat.ble (Nat.succ n97) n99) (Go.Ev.F.addOffF a98 (Nat.mul n97 1) (λ v101=>(Go.Ev.F.onPtr v101 (λ a102=>(Go.Ev.F.onCells (@Go.Ev.F.getF Go.Value t96 a90.2) (λ l103=>(Go.Ev.F.onRow (Go.Ev.F.hget h85 a102.1) (λ x104=>(λ n105=>(λ x106=>(λ x107=>(λ n108=>(λ t109=>(Go.Ev.F.ifB (Go.Ev.F.notB x107) (Go.Ev.F.ifB (Nat.beq (Go.Ev.F.lenF l103) 1) (Go.Ev.F.ifB (Nat.ble n108 a102.2) (Go.Ev.F.ifB (Nat.ble (Nat.add a102.2 1) n105) (Go.Ev.F.ifB (Nat.ble n105 1000000000) (Go.Ev.F.ifB (Go.Ev.F.allF (λ v110=>(Go.Ev.F.cell1F v110)) l103) (Go.Ev.F.letH (Go.Ev.F.hset h85 a102.1 (Go.Ev.AO.row x104 n105 x106 Bool.false n108 (Go.Ev.F.putF t109 a102.2 l103))) (λ h111=>(k89 () h111))))))))))))))))))))))))))))))))))))))))))) (λ k112=>(Go.Ev.F.onB v83 (k79 () h82) (k112 () h82))))))))) bigN ((Go.Value.int Go.IntKind.i64 (Int.ofNat 0)),()) h))))) (λ a113=>(λ n114=>(λ n115=>(@Go.Ev.F.joinR [] (λ e116=>(λ h117=>(k (Go.Value.tuple (Array.mk [])) h117))) (λ k118=>(@Go.Ev.F.loopF (6 :: []) (step167 a0 a1 n114 k118) bigN ((Go.Value.int Go.IntKind.i64 (Int.ofNat 0)),()) h)))))))
theorem sh167b_eq (rc:RC) (a0 a1:Value) (h:H) (k:Value→H→R):(funC EE KK 86).run rc [a0,a1] h k=sh167b rc a0 a1 h k:=by kernel_rfl
noncomputable def fillC (v:Value):Nat→Nat→T Value→T Value
  | 0,_,c=>c
  | d + 1,i,c=>fillC v d (i + 1) (insF 40 c i v)
noncomputable def fillH (qb e m:Nat) (op:Bool) (v:Value):Nat→Nat→T Value→H→H
  | 0,_,_,h=>h
  | d + 1,i,c,h=>fillH qb e m op v d (i + 1) (insF 40 c i v) (hset h qb (.row e m op false 0 (insF 40 c i v)))
theorem onCells_int (kd:IntKind) (n:Int) (k:List Value→R):onCells (.int kd n) k=k [.int kd n]:=rfl
theorem loop167 {qb e m cap bb ob eb mb fzb x:Nat} {op opb rob:Bool} {cb:T Value} (k118:FEnv []→H→R) (hne:bb ≠ qb) (hqb:qb≤1000000000) (hob:ob < mb) (hv:getF cb ob=.int .u8 (.ofNat x)) (hm:m≤1000000) :
    ∀ (d i N:Nat) (c:T Value) (h:H),i + d=m→d < N→hget h qb=.row e m op false 0 c→hget h bb=.row eb mb opb rob fzb cb →
    loopF (ks:=[6]) (step167 (.slice (some ⟨qb,0,none⟩) m cap) (.pointer (some ⟨bb,ob,none⟩)) m k118) N (.int .i64 (.ofNat i),()) h=k118 () (fillH qb e m op (.int .u8 (.ofNat x)) d i c h):=by
  intro d
  induction d with
  | zero =>
    intro i N c h hi hN hq hb
    obtain ⟨N,rfl⟩:∃ M,N=M + 1:=⟨N - 1,by omega⟩
    rw [loopF_one]
    unfold step167
    simp (disch:=omega) only [↓lss_f und3,↓joinR_eq,↓onB_ff]
    rfl
  | succ d ih =>
    intro i N c h hi hN hq hb
    obtain ⟨N,rfl⟩:∃ M,N=M + 1:=⟨N - 1,by omega⟩
    have hbr:∀ k,onRow (hget h bb) k=k eb mb opb rob fzb cb:=λ k=>by rw [hb]; rfl
    have hqr:∀ k,onRow (hget h qb) k=k e m op false 0 c:=λ k=>by rw [hq]; rfl
    have key:=ih (i + 1) N (insF 40 c i (.int .u8 (.ofNat x))) (hset h qb (.row e m op false 0 (insF 40 c i (.int .u8 (.ofNat x))))) (by omega) (by omega) (get_set_eq _ _ _ hqb)
      (by rw [get_set _ _ _ _ hqb,if_neg hne]; exact hb)
    rw [loopF_one]
    generalize loopF (ks:=[6]) (step167 (.slice (some ⟨qb,0,none⟩) m cap) (.pointer (some ⟨bb,ob,none⟩)) m k118) N=L at key ⊢
    unfold step167
    simp (disch:=first | omega | (simp only [Nat.add_eq,Nat.mul_eq,Nat.succ_eq_add_one]; omega)) only [↓lss_t und3,↓joinR_eq,↓onB_tt,↓onPtr_ptr,↓hbr,↓ifB_ble,↓onNat_int,↓onSl_sl,↓addOffF_eq]
    rw [hv]
    simp (disch:=first | omega | (simp only [Nat.add_eq,Nat.mul_eq,Nat.succ_eq_add_one]; omega)) only [↓onCells_int,↓hqr]
    have e0:0 + i.mul 1=i:=by rw [Nat.zero_add]; exact Nat.mul_one i
    rw [e0]
    rw [ifB_of (show notB false=true from rfl),ifB_of (show Nat.beq (lenF [Value.int IntKind.u8 (Int.ofNat x)]) 1=true from rfl),ifB_of (show Nat.ble 0 i=true from ble_t (Nat.zero_le i)),ifB_of (show Nat.ble (i.add 1) m=true from ble_t (by simp only [Nat.add_eq]; omega)),
      ifB_of (show Nat.ble m 1000000000=true from ble_t (by omega)),ifB_of (show allF (λ v=>cell1F v) [Value.int IntKind.u8 (Int.ofNat x)]=true from rfl),letH_eq]
    simp (disch:=first | omega | (simp only [Nat.add_eq,Nat.mul_eq,Nat.succ_eq_add_one]; omega)) only [↓add_i64 und3]
    exact key
theorem fill_run (n:Nat) {h:H} {qb e m cap bb ob eb mb fzb x:Nat} {op opb rob:Bool} {c cb:T Value} (hne:bb ≠ qb) (hqb:qb≤1000000000) (hob:ob < mb) (hv:getF cb ob=.int .u8 (.ofNat x)) (hm:m + 2≤1000000)
    (hq:hget h qb=.row e m op false 0 c) (hb:hget h bb=.row eb mb opb rob fzb cb) (k:Value→H→R) :
    callF EE KK (n + 1) 86 [.slice (some ⟨qb,0,none⟩) m cap,.pointer (some ⟨bb,ob,none⟩)] h k=k (.tuple ⟨[]⟩) (fillH qb e m op (.int .u8 (.ofNat x)) m 0 c h):=by
  rw [callF_succ,sh167b_eq]
  unfold sh167b
  simp (disch:=omega) only [↓joinR_eq,↓onSl_sl]
  exact loop167 (λ _ h=>k (.tuple ⟨[]⟩) h) hne hqb hob hv (by omega) m 0 bigN c h (by omega) (by unfold bigN; omega) hq hb
theorem fillC_get (v:Value):∀ (d i:Nat) (c:T Value) (j:Nat),i + d≤1000000→getF (fillC v d i c) j=if i≤j∧j < i + d then v else getF c j:=by
  intro d
  induction d with
  | zero=>intro i c j _; rw [if_neg (by omega)]; rfl
  | succ d ih =>
    intro i c j hi
    show getF (fillC v d (i + 1) (insF 40 c i v)) j=_
    rw [ih _ _ _ (by omega)]
    by_cases h1:i + 1≤j∧j < i + 1 + d
    · rw [if_pos h1,if_pos (by omega)]
    · rw [if_neg h1,getF_ins _ _ _ _ (by omega)]
      by_cases h2:j=i
      · rw [if_pos h2,if_pos (by omega)]
      · rw [if_neg h2,if_neg (by omega)]
theorem fillH_get {qb e m:Nat} {op:Bool} {v:Value} (hqb:qb≤1000000000):∀ (d i:Nat) (c:T Value) (h:H),hget h qb=.row e m op false 0 c →
    (fillH qb e m op v d i c h).next=h.next∧hget (fillH qb e m op v d i c h) qb=.row e m op false 0 (fillC v d i c)∧∀ j,j ≠ qb→hget (fillH qb e m op v d i c h) j=hget h j:=by
  intro d
  induction d with
  | zero=>intro i c h hq; exact ⟨rfl,hq,λ _ _=>rfl⟩
  | succ d ih =>
    intro i c h hq
    obtain ⟨h1,h2,h3⟩:=ih (i + 1) (insF 40 c i v) (hset h qb (.row e m op false 0 (insF 40 c i v))) (get_set_eq _ _ _ hqb)
    exact ⟨h1,h2,λ j hj=>(h3 j hj).trans (by rw [get_set _ _ _ _ hqb,if_neg hj])⟩
end Go.Ev
namespace Go.Ev
open Go F Go.Proofs
set_option linter.unusedVariables false
def AOeq (a b:AO):Prop:=a=b ∨ ∃ e n op ro fz c c',a=.row e n op ro fz c∧b=.row e n op ro fz c'∧∀ i,i < n→c.get i=c'.get i
theorem AOeq.live {a b:AO} (h:AOeq a b):live b=live a:=by
  rcases h with rfl | ⟨e,n,op,ro,fz,c,c',rfl,rfl,_⟩ <;> rfl
theorem AOeq.wr {a b:AO} (h:AOeq a b):wr b=wr a:=by
  rcases h with rfl | ⟨e,n,op,ro,fz,c,c',rfl,rfl,_⟩ <;> rfl
theorem AOeq.orel {P:Program} {ρ:Ren} {w:World} {p:Nat × Nat} {a b:AO} (h:AOeq a b) (ho:ORel P ρ w p a):ORel P ρ w p b:=by
  rcases h with rfl | ⟨e,n,op,ro,fz,c,c',rfl,rfl,hc⟩
  · exact ho
  · obtain ⟨cs,fr,h1,h2,h3,h4,h5,h6⟩:=ho
    exact ⟨cs,fr,h1,h2,h3,h4,λ i hi=>by rw [← hc i hi]; exact h5 i hi,h6⟩
theorem Step.heq {P:Program} {ρ ρ':Ren} {h h1 h2:H} {w w':World} (s:Step P ρ h w ρ' h1 w') (hn:h2.next=h1.next) (he:∀ id,AOeq (h1.objs.get id) (h2.objs.get id)) (hm:∀ id,id < h.next→ρ id=none→h2.objs.get id=h1.objs.get id):Step P ρ h w ρ' h2 w' where
  ext:=s.ext
  old:=s.old
  next:=by rw [hn]; exact s.next
  keep:=λ id hl hr=>(hm id hl hr).trans (s.keep id hl hr)
  rel :=
    { dom:=λ id p e=>by rw [hn]; exact s.rel.dom id p e
      inj:=λ i j p q e1 e2 l1 l2 e=>s.rel.inj i j p q e1 e2 (by rw [← (he i).live]; exact l1) (by rw [← (he j).live]; exact l2) e
      obj:=λ id p e=>(he id).orel (s.rel.obj id p e)
      small:=λ id l=>s.rel.small id (by rw [← (he id).live]; exact l)
      fresh:=λ id l=>by
        have:=s.rel.fresh id (by rw [← hn]; exact l)
        rcases he id with e | ⟨e,n,op,ro,fz,c,c',e1,_⟩
        · rw [← e]; exact this
        · rw [this] at e1; exact nomatch e1
      glob:=s.rel.glob
      inside:=λ id p e l=>s.rel.inside id p e (by rw [← (he id).live]; exact l) }
  same:=s.same
  own:=λ b ⟨id,p,e1,e2,l⟩ hb=>s.own b ⟨id,p,e1,e2,by rw [← (he id).wr]; exact l⟩ hb
  size:=s.size
  tape:=s.tape
  os:=s.os
  output:=s.output
theorem CallOK.heq {P:Program} {ρ:Ren} {h h1 h2:H} {w:World} {f:FuncId} {args':List Value} {v:Value} (c:CallOK P ρ h w f args' v h1) (hn:h2.next=h1.next) (he:∀ id,AOeq (h1.objs.get id) (h2.objs.get id)) (hm:∀ id,id < h.next→ρ id=none→h2.objs.get id=h1.objs.get id):CallOK P ρ h w f args' v h2:=by
  rcases c with ⟨v',ρ',w',q1,q2,q3⟩ | ⟨fn,q1,q2,q3,q4⟩
  · exact .inl ⟨v',ρ',w',q1,q2,q3.heq hn he hm⟩
  · refine .inr ⟨fn,q1,q2,q3,q4.mono λ e w' hq=>?_⟩
    obtain ⟨ρ',v',e1,e2,e3⟩:=hq
    exact ⟨ρ',v',e1,e2,e3.heq hn he hm⟩
noncomputable def fillQ (args:List Value) (h:H):R :=
  nthF 0 args λ v0=>nthF 1 args λ v1=>ifB (Nat.beq (lenF args) 2) (onSl v0 none λ ad m _=>onAt ad λ qb qo=>ifB (Nat.beq qo 0) (
  onPtr v1 λ ad1=>onAt ad1 λ bb ob=>onRow (hget h bb) λ _ mb _ _ _ cb=>ifB (Nat.ble (Nat.succ ob) mb) (onU8 (getF cb ob) λ x =>
  onRow (hget h qb) λ e m' op ro fz c=>ifB (notB ro) (ifB (Nat.beq fz 0) (ifB (Nat.beq m m') (ifB (Nat.ble (Nat.add m 2) 1000000) (ifB (Nat.ble qb 1000000000) (ifB (notB (Nat.beq bb qb))
  (letH (hset h qb (.row e m' op false 0 (.c (.int .u8 (.ofNat x))))) λ h'=>some (.tuple ⟨[]⟩,h'))))))))))
noncomputable def fillX (args:List Value) (h:H):Option (Value × H) :=
  match fillQ args h with
  | some r=>some r
  | none=>callF EE KK 100 86 args h (λ v h=>some (v,h))
theorem args2 {args:List Value} {v0 v1:Value} (h0:args[0]?=some v0) (h1:args[1]?=some v1) (hl:args.length=2):args=[v0,v1]:=by
  match args,hl with
  | [a,b],_=>simp at h0 h1; rw [h0,h1]
theorem fill_ok {P:Program} (hE:EnvOK P EE planOK):ExtOK P 86 fillX:=by
  intro ρ h w args args' v h' hr ha he
  unfold fillX at he
  split at he
  · rename_i r hq
    cases he
    unfold fillQ at hq
    obtain ⟨v0,e0,hq⟩:=nthF_some hq
    obtain ⟨v1,e1,hq⟩:=nthF_some hq
    obtain ⟨hl,hq⟩:=ifB_some hq
    have hl:=Nat.eq_of_beq_eq_true hl
    rw [lenF_eq] at hl
    have hargs:=args2 e0 e1 hl
    obtain ⟨ad,m,cap,ev0,hq⟩:=onSl_some' hq
    obtain ⟨qb,qo,ed,hq⟩:=onAt_some hq
    obtain ⟨q0,hq⟩:=ifB_some hq
    rw [ed,Nat.eq_of_beq_eq_true q0] at ev0
    obtain ⟨ad1,ev1,hq⟩:=onPtr_some hq
    obtain ⟨bb,ob,ed1,hq⟩:=onAt_some hq
    rw [ed1] at ev1
    obtain ⟨eb,mb,opb,rob,fzb,cb,hb,hq⟩:=onRow_some hq
    obtain ⟨q1,hq⟩:=ifB_some hq
    obtain ⟨x,hv,hq⟩:=onU8_some hq
    obtain ⟨e,m',op,ro,fz,c,hqb,hq⟩:=onRow_some hq
    obtain ⟨q2,hq⟩:=ifB_some hq
    obtain ⟨q3,hq⟩:=ifB_some hq
    obtain ⟨q4,hq⟩:=ifB_some hq
    obtain ⟨q5,hq⟩:=ifB_some hq
    obtain ⟨q6,hq⟩:=ifB_some hq
    obtain ⟨q7,hq⟩:=ifB_some hq
    rw [letH_eq] at hq
    have q1:=Nat.le_of_ble_eq_true q1
    have q2:ro=false:=by cases ro <;> first | rfl | exact nomatch q2
    have q3:=Nat.eq_of_beq_eq_true q3
    have q4:=Nat.eq_of_beq_eq_true q4
    have q5:m + 2≤1000000:=Nat.le_of_ble_eq_true q5
    have q6:=Nat.le_of_ble_eq_true q6
    have q7:bb ≠ qb:=by
      intro e
      rw [e,Nat.beq_refl] at q7
      exact nomatch q7
    rw [q2,q3,← q4] at hqb
    rw [← q4] at hq
    have hq:=Option.some.inj hq
    cases hq
    obtain ⟨g1,g2,g3⟩:=fillH_get (v:=.int .u8 (.ofNat x)) q6 m 0 c h hqb
    have hk:=fill_run 0 (cap:=cap) q7 q6 q1 hv q5 hqb hb (λ v h=>some (v,h))
    rw [← ev0,← ev1,← hargs] at hk
    obtain ⟨N,v2,h3,hc,he⟩:=F.callF_callV hk
    cases he
    have hro:∀ id,ρ id=none→id ≠ qb:=by
      intro id h0 e
      subst e
      rw [hargs,ev0] at ha
      match args',ha with
      | a :: _,⟨h1,_⟩ =>
        obtain ⟨p,h2,_⟩:=h1.slice
        rw [h0] at h2
        exact nomatch h2
    refine (sound hE N 86 args h _ _ hc ρ w args' hr ha).heq ?_ (λ id=>?_) (λ id _ h0=>?_)
    · rw [g1]; rfl
    · rw [← hget_eq,← hget_eq]
      by_cases e:id=qb
      · subst e
        rw [g2,get_set_eq _ _ _ q6]
        refine .inr ⟨_,_,_,_,_,_,_,rfl,rfl,λ i hi=>?_⟩
        rw [← getF_eq,← getF_eq,fillC_get _ _ _ _ _ (by omega),if_pos (by omega)]
        rfl
      · rw [g3 id e,get_set _ _ _ _ q6,if_neg e]
        exact .inl rfl
    · have e:=hro id h0
      rw [← hget_eq,← hget_eq,g3 id e,get_set _ _ _ _ q6,if_neg e]
  · obtain ⟨N,v2,h3,hv,he⟩:=F.callF_callV he
    cases he
    exact sound hE N 86 args h _ _ hv ρ w args' hr ha
end Go.Ev
namespace Go.Ev
open Go F Go.Proofs
set_option maxRecDepth 100000
set_option linter.unusedSimpArgs false
set_option linter.unusedVariables false
theorem neq_self {E:Env} {ty e s:TypeId} {cx cy:Bool} {ad:Addr} {k:Value→R} (hE:E.und ty=some (.pointer e)) (hs:E.size e=some (s + 1)):binR (binC E .neq ty cx cy) (.pointer (some ad)) (.pointer (some ad)) k=k (.bool false):=by
  have hb:bin E .neq ty cx cy (.pointer (some ad)) (.pointer (some ad))=some (.bool false):=by
    simp only [bin,eqV,hE,hs,Nat.beq_refl,cond_true,Bool.not_true]
  unfold binR binC; rw [hE]
  show bindO (bin E .neq ty cx cy (.pointer (some ad)) (.pointer (some ad))) k=_
  rw [hb]; rfl
theorem copy_run2 (n:Nat) {h:H} {bb:Nat} {c:T Value} (hb:hget h bb=.row 62 2 false false 0 c) (h0:getF c 0=.pointer (some ⟨bb,0,none⟩)) :
    ∀ k:Value→H→R,callF EE KK (n + 2) 66 [.pointer (some ⟨bb,0,none⟩)] h k=k (.tuple ⟨[]⟩) h:=by
  intro k
  have hbr:∀ k,onRow (hget h bb) k=k 62 2 false false 0 c:=λ k=>by rw [hb]; rfl
  have e1:∀ cx cy k,binR (binC EE .eql 59 cx cy) (getF c 0) (.pointer none) k=k (.bool false):=λ cx cy k=>by rw [h0]; exact eql_nil und214
  have e2:∀ cx cy k,binR (binC EE .neq 59 cx cy) (getF c 0) (.pointer (some ⟨bb,0,none⟩)) k=k (.bool false):=λ cx cy k=>by rw [h0]; exact neq_self und214 size216
  rw [callF_succ,sh245_eq]
  unfold sh245
  simp (disch:=first | omega | (simp only [Nat.add_eq,Nat.mul_eq,Nat.succ_eq_add_one]; omega)) only [↓bindO_nil,↓onPtr_ptr,↓hbr,↓ifB_ble,↓e1,↓e2,↓joinR_eq,↓onB_ff]
theorem append_own {E:Env} {t e:Nat} {i:TypeInfo} {z:Value} {h:H} {sb n1 b o m c e' n fz:Nat} {op ro:Bool} {cs cq:T Value} (hE:E.und t=some (.slice e)) (hi:E.info e=some i) (hz:zeroCellsV E e=some [z]) (hsz:i.size=1) (hb:i.bytes=1)
    (hs:hget h sb=.row e n1 true false 0 cs) (hr:hget h b=.row e' n op ro fz cq) (hm:1≤m) (hon:o + m≤n) (hm2:n1 + m≤100000) (hroom:h.next≤1000000000) (hc:(cellsF cq m o).all cell1=true) :
    heavyB E h .append [.slice (some ⟨sb,0,none⟩) n1 (2 * n1 + 1),.slice (some ⟨b,o,none⟩) m c] [t,t]=some (.slice (some ⟨h.next,0,none⟩) (n1 + m) (2 * (n1 + m) + 1),hpush (hset h sb .dead) (.row e (n1 + m) true false 0 (putCells cs n1 (cellsF cq m o)))):=by
  rw [hget_eq] at hr hs
  have g1:Nat.ble (o + m) n=true:=ble_t hon
  have g2:Nat.ble ((n1 + m) * 2) 1000000000=true:=ble_t (by omega)
  have g3:Nat.ble (n1 + m) 1000000000=true:=ble_t (by omega)
  have e0:(2 * n1 + 1) / 2=n1:=by omega
  have e1:(2 * n1 + 1) % 2=1:=by omega
  have g4:Nat.ble (n1 + m) n1=false:=ble_f (by omega)
  have g5:Nat.beq 1 0=false:=rfl
  have g6:Nat.ble 0 n1=true:=ble_t (by omega)
  have h5:room h=true:=ble_t hroom
  rw [hpush_eq,hset_eq]
  rw [cellsF_eq] at hc ⊢
  simp only [heavyB,numAt,hE,appendV,hi,hz,hsz,hb,newsV,cond_false,lenN,srcN,hr,hs,List.length_cons,List.length_nil,Nat.zero_add,Nat.mul_one,g1,cond_true,g2,g3,g4,Nat.reduceAdd,e0,e1,g5,Nat.beq_refl,Bool.and_self,hc,g6,h5,Bool.not_false]
theorem write2_run (n:Nat) {h:H} {bb qb o m cap e' nq fz sb n1:Nat} {op ro:Bool} {c cq cs:T Value} (hb:hget h bb=.row 62 2 false false 0 c) (h0:getF c 0=.pointer (some ⟨bb,0,none⟩)) (h1:getF c 1=.slice (some ⟨sb,0,none⟩) n1 (2 * n1 + 1)) (hbb:bb < h.next)
    (hs:hget h sb=.row 5 n1 true false 0 cs) (hsb:sb < h.next) (hq:hget h qb=.row e' nq op ro fz cq)
    (hm:1≤m) (hon:o + m≤nq) (hm2:n1 + m≤100000) (hroom:h.next≤1000000000) (hc:(cellsF cq m o).all cell1=true) :
    ∀ k:Value→H→R,callF EE KK (n + 3) 260 [.pointer (some ⟨bb,0,none⟩),.slice (some ⟨qb,o,none⟩) m cap] h k=k (.tuple ⟨[.int .i64 (.ofNat m),.nilIface]⟩)
      (hset (hpush (hset h sb .dead) (.row 5 (n1 + m) true false 0 (putCells cs n1 (cellsF cq m o)))) bb (.row 62 2 false false 0 (insF 40 c 1 (.slice (some ⟨h.next,0,none⟩) (n1 + m) (2 * (n1 + m) + 1))))):=by
  intro k
  have hne:bb ≠ sb:=by
    intro e
    subst e
    rw [hb] at hs
    cases hs
  have ha:=append_own (t:=60) (c:=cap) und93 i5 z5 i5s i5b hs hq hm hon hm2 hroom hc
  have hbr:∀ k,onRow (hget h bb) k=k 62 2 false false 0 c:=λ k=>by rw [hb]; rfl
  have hgb2:hget (hpush (hset h sb .dead) (.row 5 (n1 + m) true false 0 (putCells cs n1 (cellsF cq m o)))) bb=.row 62 2 false false 0 c:=by
    rw [get_push_ne _ _ (by rw [next_set]; exact hroom) (by rw [next_set]; exact hbb),get_set _ _ _ _ (by omega),if_neg hne,hb]
  rw [callF_succ,sh219_eq]
  unfold sh219
  simp (disch:=first | omega | (simp only [Nat.add_eq,Nat.mul_eq,Nat.succ_eq_add_one]; omega)) only [↓copy_run2 n hb h0,↓bindO_nil,↓onPtr_ptr,↓hbr,↓ifB_ble]
  rw [show Nat.add 0 1=1 from rfl,h1,ha]
  simp (disch:=first | omega | (simp only [Nat.add_eq,Nat.mul_eq,Nat.succ_eq_add_one]; omega)) only [↓bindP_some',↓bindO_nil,↓onPtr_ptr,↓onCells_sl]
  rw [hgb2]
  simp only [letH_eq]
  rfl
theorem unsafe_str2 {E:Env} {t t2 e:Nat} {h:H} {b m:Nat} {cs:T Value} {s:List UInt8} (hE:E.und t=some (.pointer e)) (hs:E.size e=some 1)
    (hr:hget h b=.row e m true false 0 cs) (hm:1≤m) (hm2:m≤100000) (hb:bytesC (cellsFrom cs 0 m)=some s) :
    heavyB E h .unsafeString [.pointer (some ⟨b,0,none⟩),.int .i64 (.ofNat m)] [t,t2]=some (.string ⟨⟨s⟩⟩,hset h b (.row e m true false m cs)):=by
  rw [hget_eq] at hr
  obtain ⟨n,rfl⟩:∃ n,m=n + 1:=⟨m - 1,by omega⟩
  have g1:Nat.ble (n + 1) (n + 1)=true:=ble_t (Nat.le_refl _)
  have g2:Nat.ble n 1000000000=true:=ble_t (by omega)
  have g3:Nat.ble 0 (n + 1)=true:=ble_t (by omega)
  rw [hset_eq]
  simp only [heavyB,hE,hr,hs,Nat.beq_refl,g1,g2,g3,Bool.and_self,cond_true,hb]
theorem string2_run (n:Nat) {h:H} {bb sb m:Nat} {c cs:T Value} {s:List UInt8} (hb:hget h bb=.row 62 2 false false 0 c) (h1:getF c 1=.slice (some ⟨sb,0,none⟩) m (2 * m + 1)) (hs:hget h sb=.row 5 m true false 0 cs)
    (hm:1≤m) (hm2:m≤100000) (hby:bytesC (cellsFrom cs 0 m)=some s) (hroom:h.next≤1000000000) :
    ∀ k:Value→H→R,callF EE KK (n + 1) 32 [.pointer (some ⟨bb,0,none⟩)] h k=k (.string ⟨⟨s⟩⟩) (hset h sb (.row 5 m true false m cs)):=by
  intro k
  have hbr:∀ k,onRow (hget h bb) k=k 62 2 false false 0 c:=λ k=>by rw [hb]; rfl
  have hh:(H.mk (Nat.add h.1 0) h.2)=h:=by cases h; rfl
  rw [callF_succ,sh154_eq]
  unfold sh154
  rw [hh]
  simp (disch:=first | omega | (simp only [Nat.add_eq,Nat.mul_eq,Nat.succ_eq_add_one]; omega)) only [↓ifB_ble,↓letH_eq,↓bindO_nil,↓onPtr_ptr,↓hbr]
  rw [show Nat.add 0 1=1 from rfl,h1,slice_data (by omega)]
  simp (disch:=first | omega | (simp only [Nat.add_eq,Nat.mul_eq,Nat.succ_eq_add_one]; omega)) only [↓bindO_some',↓bindO_nil,↓onPtr_ptr,↓hbr,↓ifB_ble]
  simp (disch:=first | omega | (simp only [Nat.add_eq,Nat.mul_eq,Nat.succ_eq_add_one]; omega)) only [↓onSl_sl]
  rw [unsafe_str2 und292 size5 hs hm hm2 hby]
  rfl
end Go.Ev
namespace Go.Ev
open Go F Go.Proofs
set_option linter.unusedSimpArgs false
set_option linter.unusedVariables false
theorem write1_run (n:Nat) {h:H} {bb qb o m cap e' nq fz:Nat} {op ro:Bool} {c cq:T Value} (hb:hget h bb=.row 62 2 false false 0 c) (h0:getF c 0=.pointer none) (h1:getF c 1=.slice none 0 0) (hbb:bb < h.next) (hq:hget h qb=.row e' nq op ro fz cq) (hqb:qb < bb)
    (hm:1≤m) (hon:o + m≤nq) (hm2:m≤100000) (hroom:h.next≤1000000000) :
    ∀ k:Value→H→R,callF EE KK (n + 3) 260 [.pointer (some ⟨bb,0,none⟩),.slice (some ⟨qb,o,none⟩) m cap] h k=k (.tuple ⟨[.int .i64 (.ofNat m),.nilIface]⟩)
      (hset (hpush (hset h bb (.row 62 2 false false 0 (insF 40 c 0 (.pointer (some ⟨bb,0,none⟩))))) (.row 5 m true false 0 (T.ofList unk (cellsF cq m o)))) bb (.row 62 2 false false 0 (insF 40 (insF 40 c 0 (.pointer (some ⟨bb,0,none⟩))) 1 (.slice (some ⟨h.next,0,none⟩) m (2 * m + 1))))):=by
  have hgq:hget (hset h bb (.row 62 2 false false 0 (insF 40 c 0 (.pointer (some ⟨bb,0,none⟩))))) qb=.row e' nq op ro fz cq:=by rw [get_set_ne _ _ (by omega) hqb,hq]
  have hgb:hget (hset h bb (.row 62 2 false false 0 (insF 40 c 0 (.pointer (some ⟨bb,0,none⟩))))) bb=.row 62 2 false false 0 (insF 40 c 0 (.pointer (some ⟨bb,0,none⟩))):=get_set_eq _ _ _ (by omega)
  have hc1:getF (insF 40 c 0 (.pointer (some ⟨bb,0,none⟩))) 1=.slice none 0 0:=by rw [getF_ins _ _ _ _ (by omega),if_neg (by omega),h1]
  have ha:=append_nil (t:=60) (c:=cap) und93 i5 z5 i5s i5b hgq hm hon hm2 (by rw [next_set]; exact hroom)
  have hnx:(hset h bb (.row 62 2 false false 0 (insF 40 c 0 (.pointer (some ⟨bb,0,none⟩))))).next=h.next:=rfl
  rw [hnx] at ha
  have hgb2:hget (hpush (hset h bb (.row 62 2 false false 0 (insF 40 c 0 (.pointer (some ⟨bb,0,none⟩))))) (.row 5 m true false 0 (T.ofList unk (cellsF cq m o)))) bb=.row 62 2 false false 0 (insF 40 c 0 (.pointer (some ⟨bb,0,none⟩))):=by
    rw [get_push_ne _ _ (by rw [hnx]; exact hroom) (by rw [hnx]; exact hbb),hgb]
  intro k
  have hbr:∀ k,onRow (hget (hset h bb (.row 62 2 false false 0 (insF 40 c 0 (.pointer (some ⟨bb,0,none⟩))))) bb) k=k 62 2 false false 0 (insF 40 c 0 (.pointer (some ⟨bb,0,none⟩))):=λ k=>by rw [hgb]; rfl
  rw [callF_succ,sh219_eq]
  unfold sh219
  simp (disch:=first | omega | (simp only [Nat.add_eq,Nat.mul_eq,Nat.succ_eq_add_one]; omega)) only [↓copy_run n hb h0 (by omega),↓bindO_nil,↓onPtr_ptr,↓hbr,↓ifB_ble]
  rw [show Nat.add 0 1=1 from rfl,hc1,ha]
  simp (disch:=first | omega | (simp only [Nat.add_eq,Nat.mul_eq,Nat.succ_eq_add_one]; omega)) only [↓bindP_some',↓bindO_nil,↓onPtr_ptr,↓onCells_sl]
  rw [hgb2]
  simp only [letH_eq]
  rfl
end Go.Ev
namespace Go.Ev
open Go F Go.Proofs
set_option linter.unusedVariables false
noncomputable def onUni (t:T Value) (k:Nat→R):R:=T.rec (motive:=λ _=>R) (λ v=>onU8 v λ x=>ifB (Nat.ble x 255) (k x)) (λ _ _ _ _ _=>none) t
theorem onUni_some {t:T Value} {k:Nat→R} {r} (h:onUni t k=some r):∃ x,t=.c (.int .u8 (.ofNat x))∧x≤255∧k x=some r:=by
  cases t with
  | c v =>
    have h:(onU8 v λ x=>ifB (Nat.ble x 255) (k x))=some r:=h
    obtain ⟨x,rfl,h⟩:=onU8_some h
    obtain ⟨hb,h⟩:=ifB_some h
    exact ⟨x,rfl,Nat.le_of_ble_eq_true hb,h⟩
  | n l v r=>exact nomatch h
def onNil (v:Value) (k:R):R:=match v with
  | .pointer none=>k
  | _=>none
theorem onNil_some {v:Value} {k:R} {r} (h:onNil v k=some r):v=.pointer none∧k=some r:=by
  unfold onNil at h
  split at h
  · exact ⟨rfl,h⟩
  · exact nomatch h
def onNilS (v:Value) (k:R):R:=match v with
  | .slice none 0 0=>k
  | _=>none
theorem onNilS_some {v:Value} {k:R} {r} (h:onNilS v k=some r):v=.slice none 0 0∧k=some r:=by
  unfold onNilS at h
  split at h
  · exact ⟨rfl,h⟩
  · exact nomatch h
theorem cells_c (v:Value):∀ m o,cellsF (.c v) m o=List.replicate m v
  | 0,_=>rfl
  | m + 1,o=>by rw [cellsF_succ,cells_c v m (o + 1)]; rfl
noncomputable def wPre (args:List Value) (h:H) (k:Nat→Nat→Nat→Nat→Nat→T Value→R):R :=
  nthF 0 args λ v0=>nthF 1 args λ v1=>ifB (Nat.beq (lenF args) 2) (onPtr v0 λ ad=>onAt ad λ bb bo=>ifB (Nat.beq bo 0) (
  onSl v1 none λ aq m _=>onAt aq λ qb o=>ifB (Nat.ble 41 m) (onRow (hget h qb) λ _ nq _ _ _ cq=>onUni cq λ x=>ifB (Nat.ble (Nat.add o m) nq) (ifB (Nat.ble (Nat.succ bb) h.1) (ifB (Nat.ble h.1 1000000000) (
  onRow (hget h bb) λ e n op ro fz c=>ifB (Nat.beq e 62) (ifB (Nat.beq n 2) (ifB (notB op) (ifB (notB ro) (ifB (Nat.beq fz 0) (k bb qb o m x c)))))))))))
theorem wPre_some {args:List Value} {h:H} {k:Nat→Nat→Nat→Nat→Nat→T Value→R} {r} (hq:wPre args h k=some r) :
    ∃ bb qb o m x c cap eq nq opq roq fzq,args=[.pointer (some ⟨bb,0,none⟩),.slice (some ⟨qb,o,none⟩) m cap]∧41≤m∧hget h qb=.row eq nq opq roq fzq (.c (.int .u8 (.ofNat x)))∧x≤255∧o + m≤nq∧bb < h.next∧h.next≤1000000000 ∧
      hget h bb=.row 62 2 false false 0 c∧k bb qb o m x c=some r:=by
  unfold wPre at hq
  obtain ⟨v0,e0,hq⟩:=nthF_some hq
  obtain ⟨v1,e1,hq⟩:=nthF_some hq
  obtain ⟨hl,hq⟩:=ifB_some hq
  have hl:=Nat.eq_of_beq_eq_true hl
  rw [lenF_eq] at hl
  have hargs:=args2 e0 e1 hl
  obtain ⟨ad,ev0,hq⟩:=onPtr_some hq
  obtain ⟨bb,bo,ed,hq⟩:=onAt_some hq
  obtain ⟨q0,hq⟩:=ifB_some hq
  rw [ed,Nat.eq_of_beq_eq_true q0] at ev0
  obtain ⟨aq,m,cap,ev1,hq⟩:=onSl_some' hq
  obtain ⟨qb,o,ed1,hq⟩:=onAt_some hq
  rw [ed1] at ev1
  obtain ⟨q1,hq⟩:=ifB_some hq
  obtain ⟨eq,nq,opq,roq,fzq,cq,hqb,hq⟩:=onRow_some hq
  obtain ⟨x,ec,hx,hq⟩:=onUni_some hq
  rw [ec] at hqb
  obtain ⟨q2,hq⟩:=ifB_some hq
  obtain ⟨q3,hq⟩:=ifB_some hq
  obtain ⟨q4,hq⟩:=ifB_some hq
  obtain ⟨e,n,op,ro,fz,c,hb,hq⟩:=onRow_some hq
  obtain ⟨q5,hq⟩:=ifB_some hq
  obtain ⟨q6,hq⟩:=ifB_some hq
  obtain ⟨q7,hq⟩:=ifB_some hq
  obtain ⟨q8,hq⟩:=ifB_some hq
  obtain ⟨q9,hq⟩:=ifB_some hq
  have q7:op=false:=by cases op <;> first | rfl | exact nomatch q7
  have q8:ro=false:=by cases ro <;> first | rfl | exact nomatch q8
  rw [Nat.eq_of_beq_eq_true q5,Nat.eq_of_beq_eq_true q6,q7,q8,Nat.eq_of_beq_eq_true q9] at hb
  exact ⟨bb,qb,o,m,x,c,cap,eq,nq,opq,roq,fzq,by rw [hargs,ev0,ev1],Nat.le_of_ble_eq_true q1,hqb,hx,Nat.le_of_ble_eq_true q2,Nat.le_of_ble_eq_true q3,Nat.le_of_ble_eq_true q4,hb,hq⟩
noncomputable def writeN (args:List Value) (h:H):R :=
  wPre args h λ bb qb o m x c=>onNil (getF c 0) (onNilS (getF c 1) (ifB (Nat.ble m 100000) (ifB (Nat.ble (Nat.succ qb) bb) (
    letH (hpush (hset h bb (.row 62 2 false false 0 (insF 40 c 0 (.pointer (some ⟨bb,0,none⟩))))) (.row 5 m true false 0 (.c (.int .u8 (.ofNat x))))) λ h1 =>
    letH (hset h1 bb (.row 62 2 false false 0 (insF 40 (insF 40 c 0 (.pointer (some ⟨bb,0,none⟩))) 1 (.slice (some ⟨h.1,0,none⟩) m (2 * m + 1))))) λ h2=>some (.tuple ⟨[.int .i64 (.ofNat m),.nilIface]⟩,h2)))))
noncomputable def writeO (args:List Value) (h:H):R :=
  wPre args h λ bb qb o m x c=>onPtr (getF c 0) λ ad=>onAt ad λ b2 o2=>ifB (Nat.beq b2 bb) (ifB (Nat.beq o2 0) (onSl (getF c 1) none λ aS n1 c1=>onAt aS λ sb so=>ifB (Nat.beq so 0) (ifB (Nat.beq c1 (Nat.add (Nat.mul 2 n1) 1)) (ifB (Nat.ble (Nat.add n1 m) 100000) (ifB (Nat.ble (Nat.succ sb) h.1) (
    onRow (hget h sb) λ e n op ro fz cs=>ifB (Nat.beq e 5) (ifB (Nat.beq n n1) (ifB op (ifB (notB ro) (ifB (Nat.beq fz 0) (onUni cs λ x'=>ifB (Nat.beq x' x) (
    letH (hpush (hset h sb .dead) (.row 5 (n1 + m) true false 0 (.c (.int .u8 (.ofNat x))))) λ h1 =>
    letH (hset h1 bb (.row 62 2 false false 0 (insF 40 c 1 (.slice (some ⟨h.1,0,none⟩) (n1 + m) (2 * (n1 + m) + 1))))) λ h2=>some (.tuple ⟨[.int .i64 (.ofNat m),.nilIface]⟩,h2)))))))))))))
noncomputable def writeX (args:List Value) (h:H):Option (Value × H) :=
  match writeN args h with
  | some r=>some r
  | none=>match writeO args h with
    | some r=>some r
    | none=>callF EE KK 100 260 args h (λ v h=>some (v,h))
theorem uni_all (x m o:Nat):(cellsF (.c (.int .u8 (.ofNat x))) m o).all cell1=true:=by
  rw [cells_c]
  exact List.all_eq_true.2 λ v hv=>by rw [List.eq_of_mem_replicate hv]; rfl
theorem heq_push {h:H} {bb n:Nat} {c1 c2:T Value} {o:AO} (hn:h.next≤1000000000) (hb:bb≤1000000000) (hc:∀ i,i < n→c1.get i=c2.get i) (e:Nat) (op ro:Bool) (fz:Nat) (id:Nat) :
    AOeq ((hset (hpush h (.row e n op ro fz c1)) bb o).objs.get id) ((hset (hpush h (.row e n op ro fz c2)) bb o).objs.get id):=by
  rw [← hget_eq,← hget_eq,get_set _ _ _ _ hb,get_set _ _ _ _ hb]
  by_cases e1:id=bb
  · rw [if_pos e1,if_pos e1]; exact .inl rfl
  · rw [if_neg e1,if_neg e1,get_push _ _ _ hn,get_push _ _ _ hn]
    by_cases e2:id=h.next
    · rw [if_pos e2,if_pos e2]; exact .inr ⟨_,_,_,_,_,_,_,rfl,rfl,hc⟩
    · rw [if_neg e2,if_neg e2]; exact .inl rfl
theorem heq_old {h:H} {bb:Nat} {o1 o2 o:AO} (hn:h.next≤1000000000) (hb:bb≤1000000000) (id:Nat) (hid:id < h.next) :
    (hset (hpush h o2) bb o).objs.get id=(hset (hpush h o1) bb o).objs.get id:=by
  rw [← hget_eq,← hget_eq,get_set _ _ _ _ hb,get_set _ _ _ _ hb]
  by_cases e1:id=bb
  · rw [if_pos e1,if_pos e1]
  · rw [if_neg e1,if_neg e1,get_push_ne _ _ hn hid,get_push_ne _ _ hn hid]
theorem writeX_ok {P:Program} (hE:EnvOK P EE planOK):ExtOK P 260 writeX:=by
  intro ρ h w args args' v h' hr ha he
  unfold writeX at he
  split at he
  · rename_i r hq
    cases he
    unfold writeN at hq
    obtain ⟨bb,qb,o,m,x,c,cap,eq,nq,opq,roq,fzq,hargs,hm,hqb,hx,hon,hbb,hroom,hb,hq⟩:=wPre_some hq
    obtain ⟨c0,hq⟩:=onNil_some hq
    obtain ⟨c1,hq⟩:=onNilS_some hq
    obtain ⟨q1,hq⟩:=ifB_some hq
    obtain ⟨q2,hq⟩:=ifB_some hq
    rw [letH_eq,letH_eq] at hq
    have q1:=Nat.le_of_ble_eq_true q1
    have q2:qb < bb:=Nat.le_of_ble_eq_true q2
    have hq:=Option.some.inj hq
    cases hq
    have hk:=write1_run 0 (cap:=cap) hb c0 c1 hbb hqb q2 (by omega) hon q1 hroom (λ v h=>some (v,h))
    rw [← hargs] at hk
    obtain ⟨N,v2,h3,hc,he⟩:=F.callF_callV hk
    cases he
    refine (sound hE N 260 args h _ _ hc ρ w args' hr ha).heq rfl (λ id=>heq_push (h:=hset h bb (.row 62 2 false false 0 (insF 40 c 0 (.pointer (some ⟨bb,0,none⟩))))) hroom (by omega) (λ i hi=>?_) _ _ _ _ _) (λ id hl h0=>heq_old (h:=hset h bb (.row 62 2 false false 0 (insF 40 c 0 (.pointer (some ⟨bb,0,none⟩))))) hroom (by omega) id hl)
    rw [cells_c,T.get_ofList]
    have hi:i < m:=hi
    simp [hi,T.get]
  · split at he
    · rename_i r hq
      cases he
      unfold writeO at hq
      obtain ⟨bb,qb,o,m,x,c,cap,eq,nq,opq,roq,fzq,hargs,hm,hqb,hx,hon,hbb,hroom,hb,hq⟩:=wPre_some hq
      obtain ⟨ad,c0,hq⟩:=onPtr_some hq
      obtain ⟨b2,o2,ed,hq⟩:=onAt_some hq
      obtain ⟨q1,hq⟩:=ifB_some hq
      obtain ⟨q2,hq⟩:=ifB_some hq
      rw [ed,Nat.eq_of_beq_eq_true q1,Nat.eq_of_beq_eq_true q2] at c0
      obtain ⟨aS,n1,cc,c1,hq⟩:=onSl_some' hq
      obtain ⟨sb,so,ed1,hq⟩:=onAt_some hq
      obtain ⟨q3,hq⟩:=ifB_some hq
      obtain ⟨q4,hq⟩:=ifB_some hq
      rw [ed1,Nat.eq_of_beq_eq_true q3,Nat.eq_of_beq_eq_true q4] at c1
      obtain ⟨q5,hq⟩:=ifB_some hq
      obtain ⟨q6,hq⟩:=ifB_some hq
      obtain ⟨e,n,op,ro,fz,cs,hs,hq⟩:=onRow_some hq
      obtain ⟨r1,hq⟩:=ifB_some hq
      obtain ⟨r2,hq⟩:=ifB_some hq
      obtain ⟨r3,hq⟩:=ifB_some hq
      obtain ⟨r4,hq⟩:=ifB_some hq
      obtain ⟨r5,hq⟩:=ifB_some hq
      obtain ⟨x',ec,_,hq⟩:=onUni_some hq
      obtain ⟨r6,hq⟩:=ifB_some hq
      rw [letH_eq,letH_eq] at hq
      have r4:ro=false:=by cases ro <;> first | rfl | exact nomatch r4
      rw [Nat.eq_of_beq_eq_true r1,Nat.eq_of_beq_eq_true r2,r3,r4,Nat.eq_of_beq_eq_true r5,ec,Nat.eq_of_beq_eq_true r6] at hs
      have q5:n1 + m≤100000:=Nat.le_of_ble_eq_true q5
      have q6:sb < h.next:=Nat.le_of_ble_eq_true q6
      have hq:=Option.some.inj hq
      cases hq
      have hk:=write2_run 0 (cap:=cap) hb c0 c1 hbb hs q6 hqb (by omega) hon q5 hroom (uni_all x m o) (λ v h=>some (v,h))
      rw [← hargs] at hk
      obtain ⟨N,v2,h3,hc,he⟩:=F.callF_callV hk
      cases he
      refine (sound hE N 260 args h _ _ hc ρ w args' hr ha).heq rfl (λ id=>heq_push (h:=hset h sb .dead) hroom (by omega) (λ i hi=>?_) _ _ _ _ _) (λ id hl h0=>heq_old (h:=hset h sb .dead) hroom (by omega) id hl)
      rw [cells_c,get_putCells _ _ _ (by simp; omega)]
      simp only [List.length_replicate]
      split
      · rename_i hh
        have:i - n1 < m:=by omega
        simp [List.getD,this,T.get]
      · rfl
    · obtain ⟨N,v2,h3,hv,he⟩:=F.callF_callV he
      cases he
      exact sound hE N 260 args h _ _ hv ρ w args' hr ha
noncomputable def stringQ (args:List Value) (h:H):R :=
  nthF 0 args λ v0=>ifB (Nat.beq (lenF args) 1) (onPtr v0 λ ad=>onAt ad λ bb bo=>ifB (Nat.beq bo 0) (ifB (Nat.ble h.1 1000000000) (
  onRow (hget h bb) λ e n op ro fz c=>ifB (Nat.beq e 62) (ifB (Nat.beq n 2) (ifB (notB op) (ifB (notB ro) (ifB (Nat.beq fz 0) (
  onSl (getF c 1) none λ aS m c1=>onAt aS λ sb so=>ifB (Nat.beq so 0) (ifB (Nat.beq c1 (Nat.add (Nat.mul 2 m) 1)) (ifB (Nat.ble 41 m) (ifB (Nat.ble m 100000) (
  onRow (hget h sb) λ e n op ro fz cs=>ifB (Nat.beq e 5) (ifB (Nat.beq n m) (ifB op (ifB (notB ro) (ifB (Nat.beq fz 0) (onUni cs λ x=>letH (hset h sb (.row 5 m true false m cs)) λ h2=>some (unk,h2))))))))))))))))))
noncomputable def stringX (args:List Value) (h:H):Option (Value × H) :=
  match stringQ args h with
  | some r=>some r
  | none=>callF EE KK 100 32 args h (λ v h=>some (v,h))
theorem stringX_ok {P:Program} (hE:EnvOK P EE planOK):ExtOK P 32 stringX:=by
  intro ρ h w args args' v h' hr ha he
  unfold stringX at he
  split at he
  · rename_i r hq
    cases he
    unfold stringQ at hq
    obtain ⟨v0,e0,hq⟩:=nthF_some hq
    obtain ⟨hl,hq⟩:=ifB_some hq
    have hl:=Nat.eq_of_beq_eq_true hl
    rw [lenF_eq] at hl
    have hargs:args=[v0]:=by
      match args,hl with
      | [a],_=>simp at e0; rw [e0]
    obtain ⟨ad,ev0,hq⟩:=onPtr_some hq
    obtain ⟨bb,bo,ed,hq⟩:=onAt_some hq
    obtain ⟨q0,hq⟩:=ifB_some hq
    rw [ed,Nat.eq_of_beq_eq_true q0] at ev0
    obtain ⟨hroom,hq⟩:=ifB_some hq
    obtain ⟨e,n,op,ro,fz,c,hb,hq⟩:=onRow_some hq
    obtain ⟨q5,hq⟩:=ifB_some hq
    obtain ⟨q6,hq⟩:=ifB_some hq
    obtain ⟨q7,hq⟩:=ifB_some hq
    obtain ⟨q8,hq⟩:=ifB_some hq
    obtain ⟨q9,hq⟩:=ifB_some hq
    have q7:op=false:=by cases op <;> first | rfl | exact nomatch q7
    have q8:ro=false:=by cases ro <;> first | rfl | exact nomatch q8
    rw [Nat.eq_of_beq_eq_true q5,Nat.eq_of_beq_eq_true q6,q7,q8,Nat.eq_of_beq_eq_true q9] at hb
    obtain ⟨aS,m,cc,c1,hq⟩:=onSl_some' hq
    obtain ⟨sb,so,ed1,hq⟩:=onAt_some hq
    obtain ⟨q3,hq⟩:=ifB_some hq
    obtain ⟨q4,hq⟩:=ifB_some hq
    rw [ed1,Nat.eq_of_beq_eq_true q3,Nat.eq_of_beq_eq_true q4] at c1
    obtain ⟨p1,hq⟩:=ifB_some hq
    obtain ⟨p2,hq⟩:=ifB_some hq
    have p1:=Nat.le_of_ble_eq_true p1
    have p2:=Nat.le_of_ble_eq_true p2
    obtain ⟨e,n,op,ro,fz,cs,hs,hq⟩:=onRow_some hq
    obtain ⟨r1,hq⟩:=ifB_some hq
    obtain ⟨r2,hq⟩:=ifB_some hq
    obtain ⟨r3,hq⟩:=ifB_some hq
    obtain ⟨r4,hq⟩:=ifB_some hq
    obtain ⟨r5,hq⟩:=ifB_some hq
    obtain ⟨x,ec,hx,hq⟩:=onUni_some hq
    rw [letH_eq] at hq
    have r4:ro=false:=by cases ro <;> first | rfl | exact nomatch r4
    rw [Nat.eq_of_beq_eq_true r1,Nat.eq_of_beq_eq_true r2,r3,r4,Nat.eq_of_beq_eq_true r5] at hs
    have hq:=Option.some.inj hq
    cases hq
    have hB:allB cs=true:=by
      rw [ec]
      exact Nat.ble_eq_true_of_le hx
    obtain ⟨s,hby⟩:=allB_bytes hB m 0
    rw [cellsF_eq] at hby
    have hk:=string2_run 0 hb c1 hs (by omega) p2 hby (Nat.le_of_ble_eq_true hroom) (λ v h=>some (v,h))
    rw [← ev0,← hargs] at hk
    obtain ⟨N,v2,h3,hc,he⟩:=F.callF_callV hk
    cases he
    exact (sound hE N 32 args h _ _ hc ρ w args' hr ha).weaken λ ρ u q=>VR.unk ρ u
  · obtain ⟨N,v2,h3,hv,he⟩:=F.callF_callV he
    cases he
    exact sound hE N 32 args h _ _ hv ρ w args' hr ha
end Go.Ev
namespace Go.Ev
open Go F Go.Proofs
set_option maxRecDepth 100000
set_option linter.unusedSimpArgs false
set_option linter.unusedVariables false
def viewV (A:Addr) (at0 size:Nat):List Value:=[.pointer (some A),.int .i64 (.ofNat at0),.int .i64 (.ofNat size)]
theorem cells_agg (l:List Value) (k:List Value→R):onCells (.agg ⟨l⟩) k=k l:=rfl
theorem allv (A:Addr) (at0 size:Nat):allF (λ v=>cell1F v) (viewV A at0 size)=true:=rfl
theorem lenv (A:Addr) (at0 size:Nat):lenF (viewV A at0 size)=3:=rfl
set_option maxHeartbeats 2000000 in
theorem vcheck_run (n:Nat) {h:H} {A:Addr} {at0 size a m:Nat} (h1:a + m≤size) (hs:size≤4611686018427387904) (hn:h.next≤1000000000) (k:Value→H→R) :
    callF EE KK (n + 1) 95 [.agg ⟨viewV A at0 size⟩,.int .i64 (.ofNat a),.int .i64 (.ofNat m)] h k=k (.int .i64 (.ofNat 0)) (hpush h (.row 78 3 false false 0 (T.ofList unk (viewV A at0 size)))):=by
  have hrow:∀ k,onRow (hget (hpush h (.row 78 3 false false 0 (T.ofList unk (viewV A at0 size)))) h.next) k=k 78 3 false false 0 (T.ofList unk (viewV A at0 size)):=λ k=>by rw [get_push_eq _ _ hn]; rfl
  have e0:getF (T.ofList unk (viewV A at0 size)) 0=.pointer (some A):=by rw [getF_ofList]; rfl
  have e2:getF (T.ofList unk (viewV A at0 size)) 2=.int .i64 (.ofNat size):=by rw [getF_ofList]; rfl
  rw [callF_succ,sh175_eq]
  unfold sh175
  simp (disch:=first | omega | (simp only [Nat.add_eq,Nat.mul_eq,Nat.succ_eq_add_one]; omega)) only [↓onCells_agg,↓allv,↓ifB_true,↓lenv,↓ifB_ble,↓letH_eq]
  rw [show Nat.add 0 2=2 from rfl]
  simp (disch:=first | omega | (simp only [Nat.add_eq,Nat.mul_eq,Nat.succ_eq_add_one]; omega)) only [↓ifB_ble,↓letH_eq,↓joinR_eq,↓joinV_eq,↓hrow]
  rw [e0]
  simp (disch:=first | omega | (simp only [Nat.add_eq,Nat.mul_eq,Nat.succ_eq_add_one]; omega)) only [↓ifB_ble,↓letH_eq,↓joinR_eq,↓joinV_eq,↓hrow,↓eql_nil und38,↓onB_ff,↓onG_ff,↓lss_f und3,↓onPtr_ptr]
  rw [e2]
  simp (disch:=first | omega | (simp only [Nat.add_eq,Nat.mul_eq,Nat.succ_eq_add_one]; omega)) only [↓gtr_f und3,↓onG_ff,↓sub_i64 und3,↓onB_ff]
set_option maxHeartbeats 2000000 in
theorem vwhole_run (n:Nat) {h:H} {A:Addr} {at0 size m:Nat} (hm:m=1 ∨ m=2 ∨ m=4 ∨ m=8) (hn:h.next≤1000000000) (k:Value→H→R) :
    callF EE KK (n + 1) 94 [.agg ⟨viewV A at0 size⟩,.int .i64 (.ofNat m)] h k=k (.int .i64 (.ofNat 0)) (hpush h (.row 78 3 false false 0 (T.ofList unk (viewV A at0 size)))):=by
  have hrow:∀ k,onRow (hget (hpush h (.row 78 3 false false 0 (T.ofList unk (viewV A at0 size)))) h.next) k=k 78 3 false false 0 (T.ofList unk (viewV A at0 size)):=λ k=>by rw [get_push_eq _ _ hn]; rfl
  have e0:getF (T.ofList unk (viewV A at0 size)) 0=.pointer (some A):=by rw [getF_ofList]; rfl
  rw [callF_succ,sh174_eq]
  unfold sh174
  simp (disch:=first | omega | (simp only [Nat.add_eq,Nat.mul_eq,Nat.succ_eq_add_one]; omega)) only [↓onCells_agg,↓allv,↓ifB_true,↓lenv,↓ifB_ble,↓letH_eq,↓joinR_eq,↓hrow]
  rw [e0]
  simp (disch:=first | omega | (simp only [Nat.add_eq,Nat.mul_eq,Nat.succ_eq_add_one]; omega)) only [↓eql_nil und38,↓onB_ff,↓joinR_eq]
  rcases hm with rfl | rfl | rfl | rfl
  · simp (disch:=omega) only [↓eql_t und3,↓eql_f und3,↓onB_tt,↓onB_ff,↓joinR_eq]
  · simp (disch:=omega) only [↓eql_t und3,↓eql_f und3,↓onB_tt,↓onB_ff,↓joinR_eq]
  · simp (disch:=omega) only [↓eql_t und3,↓eql_f und3,↓onB_tt,↓onB_ff,↓joinR_eq]
  · simp (disch:=omega) only [↓eql_t und3,↓eql_f und3,↓onB_tt,↓onB_ff,↓joinR_eq]
set_option maxHeartbeats 2000000 in
theorem vload_run (n:Nat) {h:H} {p:ArP} {at0 size a m:Nat} {s:List UInt8} (h1:a + m≤size) (hs:size≤4611686018427387904) (hat:at0≤4611686018427387904) (x:ArOK h p (at0 + a) m) (hby:bytesC (cellsF p.cq m ((at0 + a) % 4096))=some s) (hm:m=1 ∨ m=2 ∨ m=4 ∨ m=8) (hroom:h.next + 30≤1000000000) :
    ∃ h',Old h h'∧∀ k:Value→H→R,callF EE KK (n + 8) 52 [.agg ⟨viewV ⟨p.b,0,none⟩ at0 size⟩,.int .i64 (.ofNat a),.int .i64 (.ofNat m)] h k=k (.tuple ⟨[.int .u64 (.ofNat (ldv s 0 0)),.int .i64 (.ofNat 0)]⟩) h':=by
  have o1:Old h (hpush h (.row 78 3 false false 0 (T.ofList unk (viewV ⟨p.b,0,none⟩ at0 size)))):=(Old.refl h).push _ (by omega)
  generalize hh1:hpush h (.row 78 3 false false 0 (T.ofList unk (viewV ⟨p.b,0,none⟩ at0 size)))=g1 at o1
  have n1:g1.next=h.next + 1:=by rw [← hh1]; rfl
  have o2:Old g1 (hpush g1 (.row 78 3 false false 0 (T.ofList unk (viewV ⟨p.b,0,none⟩ at0 size)))):=(Old.refl g1).push _ (by omega)
  generalize hh2:hpush g1 (.row 78 3 false false 0 (T.ofList unk (viewV ⟨p.b,0,none⟩ at0 size)))=g2 at o2
  have n2:g2.next=h.next + 2:=by rw [← hh2,next_push,n1]
  have o3:Old g2 (hpush g2 (.row 78 3 false false 0 (T.ofList unk (viewV ⟨p.b,0,none⟩ at0 size)))):=(Old.refl g2).push _ (by omega)
  generalize hh3:hpush g2 (.row 78 3 false false 0 (T.ofList unk (viewV ⟨p.b,0,none⟩ at0 size)))=g3 at o3
  have n3:g3.next=h.next + 3:=by rw [← hh3,next_push,n2]
  have r1:hget g1 h.next=.row 78 3 false false 0 (T.ofList unk (viewV ⟨p.b,0,none⟩ at0 size)):=by rw [← hh1,get_push_eq _ _ (by omega)]
  have r2:hget g2 h.next=.row 78 3 false false 0 (T.ofList unk (viewV ⟨p.b,0,none⟩ at0 size)):=by rw [o2.2 _ (by omega),r1]
  have r3:hget g3 h.next=.row 78 3 false false 0 (T.ofList unk (viewV ⟨p.b,0,none⟩ at0 size)):=by rw [o3.2 _ (by omega),r2]
  have k1:∀ k,onRow (hget g1 h.next) k=k 78 3 false false 0 (T.ofList unk (viewV ⟨p.b,0,none⟩ at0 size)):=λ k=>by rw [r1]; rfl
  have k2:∀ k,onRow (hget g2 h.next) k=k 78 3 false false 0 (T.ofList unk (viewV ⟨p.b,0,none⟩ at0 size)):=λ k=>by rw [r2]; rfl
  have k3:∀ k,onRow (hget g3 h.next) k=k 78 3 false false 0 (T.ofList unk (viewV ⟨p.b,0,none⟩ at0 size)):=λ k=>by rw [r3]; rfl
  have e0:getF (T.ofList unk (viewV ⟨p.b,0,none⟩ at0 size)) 0=.pointer (some ⟨p.b,0,none⟩):=by rw [getF_ofList]; rfl
  have e1:getF (T.ofList unk (viewV ⟨p.b,0,none⟩ at0 size)) 1=.int .i64 (.ofNat at0):=by rw [getF_ofList]; rfl
  have ec:cellsF (T.ofList unk (viewV ⟨p.b,0,none⟩ at0 size)) 3 0=viewV ⟨p.b,0,none⟩ at0 size:=by
    show [getF _ 0,getF _ 1,getF _ 2]=_
    rw [e0,e1,getF_ofList]; rfl
  obtain ⟨h',ho,hx,hl⟩:=load_run n ((x.old o1).old o2 |>.old o3) hby hm (by omega)
  refine ⟨h',o1.trans (o2.trans (o3.trans ho)),λ k=>?_⟩
  have w1:∀ k,callF EE KK (n + 7) 94 [.agg ⟨viewV ⟨p.b,0,none⟩ at0 size⟩,.int .i64 (.ofNat m)] g1 k=k (.int .i64 (.ofNat 0)) g2:=λ k=>by rw [vwhole_run (n + 6) hm (by omega),hh2]
  have w2:∀ k,callF EE KK (n + 7) 95 [.agg ⟨viewV ⟨p.b,0,none⟩ at0 size⟩,.int .i64 (.ofNat a),.int .i64 (.ofNat m)] g2 k=k (.int .i64 (.ofNat 0)) g3:=λ k=>by rw [vcheck_run (n + 6) h1 hs (by omega),hh3]
  rw [callF_succ,sh89_eq]
  unfold sh89
  simp (disch:=first | omega | (simp only [Nat.add_eq,Nat.mul_eq,Nat.succ_eq_add_one]; omega)) only [↓onCells_agg,↓allv,↓ifB_true,↓lenv,↓ifB_ble,↓letH_eq]
  rw [hh1]
  simp (disch:=first | omega | (simp only [Nat.add_eq,Nat.mul_eq,Nat.succ_eq_add_one]; omega)) only [↓k1,↓ifB_ble]
  rw [ec]
  simp (disch:=first | omega | (simp only [Nat.add_eq,Nat.mul_eq,Nat.succ_eq_add_one]; omega)) only [↓w1,↓neq_f und34,↓joinR_eq,↓onB_ff,↓k2,↓ifB_ble,ec]
  simp (disch:=first | omega | (simp only [Nat.add_eq,Nat.mul_eq,Nat.succ_eq_add_one]; omega)) only [↓w2,↓neq_f und34,↓joinR_eq,↓onB_ff,↓k3,↓ifB_ble]
  rw [show Nat.add 0 1=1 from rfl,e0,e1]
  simp (disch:=first | omega | (simp only [Nat.add_eq,Nat.mul_eq,Nat.succ_eq_add_one]; omega)) only [↓add_i64 und3,↓hl,↓onTup_tup,↓nthF_zero,↓nthF_one]
  rfl
end Go.Ev
namespace Go.Ev
open Go F Go.Proofs
set_option linter.unusedVariables false
noncomputable def onView (v:Value) (k:Value→Nat→Nat→R):R :=
  onCells v λ l=>ifB (Nat.beq (lenF l) 3) (nthF 0 l λ p=>nthF 1 l λ v1=>nthF 2 l λ v2=>onI64 v1 λ at0=>onI64 v2 λ size=>ifB (Nat.ble size 4611686018427387904) (ifB (Nat.ble at0 4611686018427387904) (k p at0 size)))
theorem agg_of {v:Value} {l:List Value} (h:cellsOfV v=l) (hl:l.length=3):v=.agg ⟨l⟩:=by
  cases v <;> simp only [cellsOfV] at h <;> first | (subst h; rfl) | (subst h; simp at hl)
theorem onView_some {v:Value} {k:Value→Nat→Nat→R} {r} (h:onView v k=some r) :
    ∃ p at0 size,v=.agg ⟨[p,.int .i64 (.ofNat at0),.int .i64 (.ofNat size)]⟩∧size≤4611686018427387904∧at0≤4611686018427387904∧k p at0 size=some r:=by
  unfold onView at h
  have h:=onCells_some h
  obtain ⟨hl,h⟩:=ifB_some h
  obtain ⟨p,e0,h⟩:=nthF_some h
  obtain ⟨v1,e1,h⟩:=nthF_some h
  obtain ⟨v2,e2,h⟩:=nthF_some h
  obtain ⟨at0,f1,h⟩:=onI64_some h
  obtain ⟨size,f2,h⟩:=onI64_some h
  obtain ⟨g1,h⟩:=ifB_some h
  obtain ⟨g2,h⟩:=ifB_some h
  have hl:=Nat.eq_of_beq_eq_true hl
  rw [lenF_eq] at hl
  refine ⟨p,at0,size,?_,Nat.le_of_ble_eq_true g1,Nat.le_of_ble_eq_true g2,h⟩
  rw [agg_of rfl hl,args3 e0 e1 e2 hl,f1,f2]
noncomputable def vloadQ (args:List Value) (h:H):R :=
  nthF 0 args λ v=>nthF 1 args λ va=>nthF 2 args λ vm=>ifB (Nat.beq (lenF args) 3) (onI64 va λ a=>onI64 vm λ m =>
  ifB (Nat.beq m 1 || Nat.beq m 2 || Nat.beq m 4 || Nat.beq m 8) (onView v λ p at0 size=>ifB (Nat.ble (Nat.add a m) size) (ifB (Nat.ble (Nat.add h.1 30) 1000000000) (fcN (Nat.add at0 a) λ b =>
  arQ p b m h λ c=>ldQ c m (Nat.mod b 4096) 0 0 λ x=>some (.tuple ⟨[.int .u64 (.ofNat x),.int .i64 (.ofNat 0)]⟩,h)))))
theorem vloadQ_ok {args:List Value} {h:H} {r:Value × H} (hq:vloadQ args h=some r):Quick 52 args h r:=by
  unfold vloadQ at hq
  obtain ⟨v,e0,hq⟩:=nthF_some hq
  obtain ⟨va,e1,hq⟩:=nthF_some hq
  obtain ⟨vm,e2,hq⟩:=nthF_some hq
  obtain ⟨hl,hq⟩:=ifB_some hq
  have hl:=Nat.eq_of_beq_eq_true hl
  rw [lenF_eq] at hl
  have ha:=args3 e0 e1 e2 hl
  obtain ⟨a,ea,hq⟩:=onI64_some hq
  obtain ⟨m,em,hq⟩:=onI64_some hq
  obtain ⟨hm,hq⟩:=ifB_some hq
  obtain ⟨pv,at0,size,ev,hs,hat,hq⟩:=onView_some hq
  obtain ⟨hsz,hq⟩:=ifB_some hq
  obtain ⟨hroom,hq⟩:=ifB_some hq
  rw [fcN_eq] at hq
  obtain ⟨p,ep,hok,_,hq⟩:=arQ_some hq
  obtain ⟨s,hs2,hq⟩:=ldQ_some (j:=0) hq rfl
  have hq:=Option.some.inj hq
  subst hq
  have hm:m=1 ∨ m=2 ∨ m=4 ∨ m=8:=by
    simp only [Bool.or_eq_true] at hm
    rcases hm with ((q | q) | q) | q
    · exact .inl (Nat.eq_of_beq_eq_true q)
    · exact .inr (.inl (Nat.eq_of_beq_eq_true q))
    · exact .inr (.inr (.inl (Nat.eq_of_beq_eq_true q)))
    · exact .inr (.inr (.inr (Nat.eq_of_beq_eq_true q)))
  obtain ⟨h',ho,hk⟩:=vload_run 0 (Nat.le_of_ble_eq_true hsz) hs hat hok hs2 hm (Nat.le_of_ble_eq_true hroom)
  refine ⟨rfl,_,rfl,λ _ _ q=>q,8,h',ho,λ k=>?_⟩
  rw [ha,ev,ep,ea,em]
  exact hk k
noncomputable def vcheckQ (args:List Value) (h:H):R :=
  nthF 0 args λ v=>nthF 1 args λ va=>nthF 2 args λ vm=>ifB (Nat.beq (lenF args) 3) (onI64 va λ a=>onI64 vm λ m =>
  onView v λ p at0 size=>onPtr p λ _=>ifB (Nat.ble (Nat.add a m) size) (ifB (Nat.ble h.1 1000000000) (some (.int .i64 (.ofNat 0),h))))
theorem vcheckQ_ok {args:List Value} {h:H} {r:Value × H} (hq:vcheckQ args h=some r):Quick 95 args h r:=by
  unfold vcheckQ at hq
  obtain ⟨v,e0,hq⟩:=nthF_some hq
  obtain ⟨va,e1,hq⟩:=nthF_some hq
  obtain ⟨vm,e2,hq⟩:=nthF_some hq
  obtain ⟨hl,hq⟩:=ifB_some hq
  have hl:=Nat.eq_of_beq_eq_true hl
  rw [lenF_eq] at hl
  have ha:=args3 e0 e1 e2 hl
  obtain ⟨a,ea,hq⟩:=onI64_some hq
  obtain ⟨m,em,hq⟩:=onI64_some hq
  obtain ⟨pv,at0,size,ev,hs,hat,hq⟩:=onView_some hq
  obtain ⟨A,eA,hq⟩:=onPtr_some hq
  obtain ⟨hsz,hq⟩:=ifB_some hq
  obtain ⟨hroom,hq⟩:=ifB_some hq
  have hq:=Option.some.inj hq
  subst hq
  refine ⟨rfl,_,rfl,λ _ _ q=>q,1,_,(Old.refl h).push (.row 78 3 false false 0 (T.ofList unk (viewV A at0 size))) (Nat.le_of_ble_eq_true hroom),λ k=>?_⟩
  rw [ha,ev,ea,em,eA]
  exact vcheck_run 0 (Nat.le_of_ble_eq_true hsz) hs (Nat.le_of_ble_eq_true hroom) k
noncomputable def vwholeQ (args:List Value) (h:H):R :=
  nthF 0 args λ v=>nthF 1 args λ vm=>ifB (Nat.beq (lenF args) 2) (onI64 vm λ m =>
  ifB (Nat.beq m 1 || Nat.beq m 2 || Nat.beq m 4 || Nat.beq m 8) (onView v λ p at0 size=>onPtr p λ _=>ifB (Nat.ble h.1 1000000000) (some (.int .i64 (.ofNat 0),h))))
theorem vwholeQ_ok {args:List Value} {h:H} {r:Value × H} (hq:vwholeQ args h=some r):Quick 94 args h r:=by
  unfold vwholeQ at hq
  obtain ⟨v,e0,hq⟩:=nthF_some hq
  obtain ⟨vm,e1,hq⟩:=nthF_some hq
  obtain ⟨hl,hq⟩:=ifB_some hq
  have hl:=Nat.eq_of_beq_eq_true hl
  rw [lenF_eq] at hl
  have ha:=args2 e0 e1 hl
  obtain ⟨m,em,hq⟩:=onI64_some hq
  obtain ⟨hm,hq⟩:=ifB_some hq
  obtain ⟨pv,at0,size,ev,hs,hat,hq⟩:=onView_some hq
  obtain ⟨A,eA,hq⟩:=onPtr_some hq
  obtain ⟨hroom,hq⟩:=ifB_some hq
  have hq:=Option.some.inj hq
  subst hq
  have hm:m=1 ∨ m=2 ∨ m=4 ∨ m=8:=by
    simp only [Bool.or_eq_true] at hm
    rcases hm with ((q | q) | q) | q
    · exact .inl (Nat.eq_of_beq_eq_true q)
    · exact .inr (.inl (Nat.eq_of_beq_eq_true q))
    · exact .inr (.inr (.inl (Nat.eq_of_beq_eq_true q)))
    · exact .inr (.inr (.inr (Nat.eq_of_beq_eq_true q)))
  refine ⟨rfl,_,rfl,λ _ _ q=>q,1,_,(Old.refl h).push (.row 78 3 false false 0 (T.ofList unk (viewV A at0 size))) (Nat.le_of_ble_eq_true hroom),λ k=>?_⟩
  rw [ha,ev,em,eA]
  exact vwhole_run 0 hm (Nat.le_of_ble_eq_true hroom) k
end Go.Ev
