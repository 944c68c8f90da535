/-
  Functions of the law as plain Lean, printed by a program.
-/
import Derived.Test.YtdibeojmiobklaaGreatDoorKa
import Derived.Test.YtdibeojmiobklaaGreatDoorLa
import Derived.Test.YtdibeojmiobklaaGreatDoorLb
import Derived.Test.YtdibeojmiobklaaGreatDoorEe
set_option linter.unusedVariables false
set_option linter.unusedSimpArgs false
namespace Go.Ev
open Go F Go.Proofs
set_option maxRecDepth 100000
set_option linter.unusedVariables false
noncomputable def p16 (E:Env)(rc:RC)(a0:Value)(h:H)(k:Value→H→R):R:=rc 36 [a0,.string ⟨⟨[101,114,114,111,114,32,52]⟩⟩] h λ a b=>binR (binC E .geq 3 false true) a (.int .i64 (.ofNat 0)) λ c=>@joinR [2] (λ _ d=>onSl a0 (bindO (lenV E d 33 a0) λ e=>k e d) λ _ e _=>k (.int .i64 (.ofNat e)) d) λ d=>onB c (d (.int .i64 (.ofNat 0),()) b) (k a b)
theorem p16_eq (t:ExtT)(rc:RC)(a0:Value)(h:H)(k:Value→H→R):(funB (EX t) KK 16).run rc [a0] h k = p16 (EX t) rc a0 h k:=by kernel_rfl
noncomputable def p17_0 (E:Env)(a0:Value)(k:Value→H→R)(k79:FEnv [2]→H→R)(v72:Value):(FEnv [2,7]→H→R)→FEnv [2,7]→H→R:=λ a b c=>binR (binC E .lss 3 false false) b.2.1 v72 λ d=>@joinR [] (λ _ e=>@joinR [2] (λ f g=>binR (binC E .add 3 false true) b.2.1 (.int .i64 (.ofNat 1)) λ h=>a (f.1,(h,())) g) λ f=>onNat b.2.1 none λ g=>onSl a0 none λ h i _=>ifB (Nat.ble (Nat.succ g) i) (addOffF h (Nat.mul g 1) λ j=>onPtr j λ l=>onRow (hget e l.1) λ _ m _ _ _ n=>ifB (Nat.ble (Nat.succ l.2) m) (binR (binC E .eql 9 false true) (getF n l.2) (.string ⟨⟨[101,114,114,111,114,32,52]⟩⟩) λ o=>@joinR [2] (λ p q=>f (p.1,()) q) λ p=>onB o (p (b.1,()) e) (k b.2.1 e)))) λ e=>onB d (k79 (b.1,()) c) (e () c)
noncomputable def p17_1 (E:Env)(a0:Value)(k:Value→H→R)(k116:FEnv [2]→H→R)(n108:Nat):(FEnv [2,7]→H→R)→FEnv [2,7]→H→R:=λ a b c=>binR (binC E .lss 3 false false) b.2.1 (.int .i64 (.ofNat n108)) λ d=>@joinR [] (λ _ e=>@joinR [2] (λ f g=>binR (binC E .add 3 false true) b.2.1 (.int .i64 (.ofNat 1)) λ h=>a (f.1,(h,())) g) λ f=>onNat b.2.1 none λ g=>onSl a0 none λ h i _=>ifB (Nat.ble (Nat.succ g) i) (addOffF h (Nat.mul g 1) λ j=>onPtr j λ l=>onRow (hget e l.1) λ _ m _ _ _ n=>ifB (Nat.ble (Nat.succ l.2) m) (binR (binC E .eql 9 false true) (getF n l.2) (.string ⟨⟨[101,114,114,111,114,32,52]⟩⟩) λ o=>@joinR [2] (λ p q=>f (p.1,()) q) λ p=>onB o (p (b.1,()) e) (k b.2.1 e)))) λ e=>onB d (k116 (b.1,()) c) (e () c)
noncomputable def p17 (E:Env)(rc:RC)(a0:Value)(h:H)(k:Value→H→R):R:=onSl a0 (bindO (lenV E h 33 a0) λ a=>@joinR [2] (λ _ b=>onSl a0 (bindO (lenV E b 33 a0) λ c=>k c b) λ _ c _=>k (.int .i64 (.ofNat c)) b) λ b=>@loopF [2,7] (p17_0 E a0 k b a) bigN (.int .i64 (.ofNat 0),(.int .i64 (.ofNat 0),())) h) λ _ a _=>@joinR [2] (λ _ b=>onSl a0 (bindO (lenV E b 33 a0) λ c=>k c b) λ _ c _=>k (.int .i64 (.ofNat c)) b) λ b=>@loopF [2,7] (p17_1 E a0 k b a) bigN (.int .i64 (.ofNat 0),(.int .i64 (.ofNat 0),())) h
theorem p17_eq (t:ExtT)(rc:RC)(a0:Value)(h:H)(k:Value→H→R):(funB (EX t) KK 17).run rc [a0] h k = p17 (EX t) rc a0 h k:=by kernel_rfl
noncomputable def p36_0 (E:Env)(a0:Value)(a1:Value)(k:Value→H→R)(k67:FEnv [4]→H→R)(v64:Value):(FEnv [4,8]→H→R)→FEnv [4,8]→H→R:=λ a b c=>binR (binC E .lss 3 false false) b.2.1 v64 λ d=>@joinR [] (λ _ e=>@joinR [4] (λ f g=>binR (binC E .add 3 false true) b.2.1 (.int .i64 (.ofNat 1)) λ h=>a (f.1,(h,())) g) λ f=>onNat b.2.1 none λ g=>onSl a0 none λ h i _=>ifB (Nat.ble (Nat.succ g) i) (addOffF h (Nat.mul g 1) λ j=>onPtr j λ l=>onRow (hget e l.1) λ _ m _ _ _ n=>ifB (Nat.ble (Nat.succ l.2) m) (binR (binC E .eql 9 false false) a1 (getF n l.2) λ o=>@joinR [4] (λ p q=>f (p.1,()) q) λ p=>onB o (p (b.1,()) e) (k b.2.1 e)))) λ e=>onB d (k67 (b.1,()) c) (e () c)
noncomputable def p36_1 (E:Env)(a0:Value)(a1:Value)(k:Value→H→R)(k100:FEnv [4]→H→R)(n96:Nat):(FEnv [4,8]→H→R)→FEnv [4,8]→H→R:=λ a b c=>binR (binC E .lss 3 false false) b.2.1 (.int .i64 (.ofNat n96)) λ d=>@joinR [] (λ _ e=>@joinR [4] (λ f g=>binR (binC E .add 3 false true) b.2.1 (.int .i64 (.ofNat 1)) λ h=>a (f.1,(h,())) g) λ f=>onNat b.2.1 none λ g=>onSl a0 none λ h i _=>ifB (Nat.ble (Nat.succ g) i) (addOffF h (Nat.mul g 1) λ j=>onPtr j λ l=>onRow (hget e l.1) λ _ m _ _ _ n=>ifB (Nat.ble (Nat.succ l.2) m) (binR (binC E .eql 9 false false) a1 (getF n l.2) λ o=>@joinR [4] (λ p q=>f (p.1,()) q) λ p=>onB o (p (b.1,()) e) (k b.2.1 e)))) λ e=>onB d (k100 (b.1,()) c) (e () c)
noncomputable def p36 (E:Env)(rc:RC)(a0 a1:Value)(h:H)(k:Value→H→R):R:=onSl a0 (bindO (lenV E h 33 a0) λ a=>@joinR [4] (λ _ b=>k (.int .i64 (.negSucc 0)) b) λ b=>@loopF [4,8] (p36_0 E a0 a1 k b a) bigN (.int .i64 (.ofNat 0),(.int .i64 (.ofNat 0),())) h) λ _ a _=>@joinR [4] (λ _ b=>k (.int .i64 (.negSucc 0)) b) λ b=>@loopF [4,8] (p36_1 E a0 a1 k b a) bigN (.int .i64 (.ofNat 0),(.int .i64 (.ofNat 0),())) h
theorem p36_eq (t:ExtT)(rc:RC)(a0 a1:Value)(h:H)(k:Value→H→R):(funB (EX t) KK 36).run rc [a0,a1] h k = p36 (EX t) rc a0 a1 h k:=by kernel_rfl
noncomputable def p8_0 (E:Env)(a0:Value)(a1:Value)(k:Value→H→R)(k396:FEnv [4]→H→R)(v393:Value):(FEnv [4,13]→H→R)→FEnv [4,13]→H→R:=λ a b c=>binR (binC E .lss 3 false false) b.2.1 v393 λ d=>@joinR [] (λ _ e=>@joinR [4] (λ f g=>binR (binC E .add 3 false true) b.2.1 (.int .i64 (.ofNat 1)) λ h=>a (f.1,(h,())) g) λ f=>ifB (Nat.ble e.1 1000000000) (letH (H.mk e.1 e.2) λ g=>onNat b.2.1 none λ h=>onSl a0 none λ i j _=>ifB (Nat.ble (Nat.succ h) j) (addOffF i (Nat.mul h 1) λ l=>onPtr l λ m=>onRow (hget g m.1) λ _ n _ _ _ o=>ifB (Nat.ble (Nat.succ m.2) n) (onNat b.2.1 none λ p=>onSl a1 none λ q r _=>ifB (Nat.ble (Nat.succ p) r) (addOffF q (Nat.mul p 1) λ s=>onPtr s λ t=>onRow (hget g t.1) λ _ u _ _ _ v=>ifB (Nat.ble (Nat.succ t.2) u) (binR (binC E .neq 9 false false) (getF o m.2) (getF v t.2) λ w=>@joinR [4] (λ x y=>f (x.1,()) y) λ x=>onB w (x (b.1,()) g) (k (.bool false) g))))))) λ e=>onB d (k396 (b.1,()) c) (e () c)
noncomputable def p8_1 (E:Env)(a0:Value)(a1:Value)(k:Value→H→R)(k442:FEnv [4]→H→R)(n438:Nat):(FEnv [4,13]→H→R)→FEnv [4,13]→H→R:=λ a b c=>binR (binC E .lss 3 false false) b.2.1 (.int .i64 (.ofNat n438)) λ d=>@joinR [] (λ _ e=>@joinR [4] (λ f g=>binR (binC E .add 3 false true) b.2.1 (.int .i64 (.ofNat 1)) λ h=>a (f.1,(h,())) g) λ f=>ifB (Nat.ble e.1 1000000000) (letH (H.mk e.1 e.2) λ g=>onNat b.2.1 none λ h=>onSl a0 none λ i j _=>ifB (Nat.ble (Nat.succ h) j) (addOffF i (Nat.mul h 1) λ l=>onPtr l λ m=>onRow (hget g m.1) λ _ n _ _ _ o=>ifB (Nat.ble (Nat.succ m.2) n) (onNat b.2.1 none λ p=>onSl a1 none λ q r _=>ifB (Nat.ble (Nat.succ p) r) (addOffF q (Nat.mul p 1) λ s=>onPtr s λ t=>onRow (hget g t.1) λ _ u _ _ _ v=>ifB (Nat.ble (Nat.succ t.2) u) (binR (binC E .neq 9 false false) (getF o m.2) (getF v t.2) λ w=>@joinR [4] (λ x y=>f (x.1,()) y) λ x=>onB w (x (b.1,()) g) (k (.bool false) g))))))) λ e=>onB d (k442 (b.1,()) c) (e () c)
noncomputable def p8 (E:Env)(rc:RC)(a0 a1:Value)(h:H)(k:Value→H→R):R:=onSl a0 (bindO (lenV E h 33 a0) λ a=>onSl a1 (bindO (lenV E h 33 a1) λ b=>binR (binC E .neq 3 false false) a b λ c=>@joinR [4] (λ d e=>onSl a0 (bindO (lenV E e 33 a0) λ f=>@joinR [4] (λ _ g=>k (.bool true) g) λ g=>@loopF [4,13] (p8_0 E a0 a1 k g f) bigN (d.1,(.int .i64 (.ofNat 0),())) e) λ _ f _=>@joinR [4] (λ _ g=>k (.bool true) g) λ g=>@loopF [4,13] (p8_1 E a0 a1 k g f) bigN (d.1,(.int .i64 (.ofNat 0),())) e) λ d=>onB c (d (.bool false,()) h) (k (.bool false) h)) λ _ b _=>binR (binC E .neq 3 false false) a (.int .i64 (.ofNat b)) λ c=>@joinR [4] (λ d e=>onSl a0 (bindO (lenV E e 33 a0) λ f=>@joinR [4] (λ _ g=>k (.bool true) g) λ g=>@loopF [4,13] (p8_0 E a0 a1 k g f) bigN (d.1,(.int .i64 (.ofNat 0),())) e) λ _ f _=>@joinR [4] (λ _ g=>k (.bool true) g) λ g=>@loopF [4,13] (p8_1 E a0 a1 k g f) bigN (d.1,(.int .i64 (.ofNat 0),())) e) λ d=>onB c (d (.bool false,()) h) (k (.bool false) h)) λ _ a _=>onSl a1 (bindO (lenV E h 33 a1) λ b=>binR (binC E .neq 3 false false) (.int .i64 (.ofNat a)) b λ c=>@joinR [4] (λ d e=>onSl a0 (bindO (lenV E e 33 a0) λ f=>@joinR [4] (λ _ g=>k (.bool true) g) λ g=>@loopF [4,13] (p8_0 E a0 a1 k g f) bigN (d.1,(.int .i64 (.ofNat 0),())) e) λ _ f _=>@joinR [4] (λ _ g=>k (.bool true) g) λ g=>@loopF [4,13] (p8_1 E a0 a1 k g f) bigN (d.1,(.int .i64 (.ofNat 0),())) e) λ d=>onB c (d (.bool false,()) h) (k (.bool false) h)) λ _ b _=>binR (binC E .neq 3 false false) (.int .i64 (.ofNat a)) (.int .i64 (.ofNat b)) λ c=>@joinR [4] (λ d e=>onSl a0 (bindO (lenV E e 33 a0) λ f=>@joinR [4] (λ _ g=>k (.bool true) g) λ g=>@loopF [4,13] (p8_0 E a0 a1 k g f) bigN (d.1,(.int .i64 (.ofNat 0),())) e) λ _ f _=>@joinR [4] (λ _ g=>k (.bool true) g) λ g=>@loopF [4,13] (p8_1 E a0 a1 k g f) bigN (d.1,(.int .i64 (.ofNat 0),())) e) λ d=>onB c (d (.bool false,()) h) (k (.bool false) h)
theorem p8_eq (t:ExtT)(rc:RC)(a0 a1:Value)(h:H)(k:Value→H→R):(funB (EX t) KK 8).run rc [a0,a1] h k = p8 (EX t) rc a0 a1 h k:=by kernel_rfl
noncomputable def p18 (E:Env)(rc:RC)(a0 a1:Value)(h:H)(k:Value→H→R):R:=rc 16 [a0] h λ a b=>rc 16 [a1] b λ c d=>onSl a0 (bindO (lenV E d 33 a0) λ e=>binR (binC E .eql 3 false false) a e λ f=>joinV (λ g i=>joinV (λ j l=>joinV (λ m n=>joinV (λ o p=>onB f (@joinR [4] (λ _ q=>bindO (builtinV E q Builtin.min [a,c] [3,3]) λ r=>ifB (Nat.ble q.1 1000000000) (letH (H.mk q.1 q.2) λ s=>bindO (sliceV E 33 a0 none (some r) none) λ t=>bindO (sliceV E 33 a1 none (some r) none) λ u=>rc 8 [t,u] s λ v w=>k v w)) λ q=>q (.bool false,()) p) (@joinR [4] (λ _ q=>bindO (builtinV E q Builtin.min [a,c] [3,3]) λ r=>ifB (Nat.ble q.1 1000000000) (letH (H.mk q.1 q.2) λ s=>bindO (sliceV E 33 a0 none (some r) none) λ t=>bindO (sliceV E 33 a1 none (some r) none) λ u=>rc 8 [t,u] s λ v w=>k v w)) λ q=>onB o (q (.bool false,()) p) (rc 8 [a0,a1] p λ r s=>k r s))) λ o=>onG f (o undef n) (binR (binC E .eql 3 false false) g m λ p=>o p n) (o undef n)) λ m=>onG f (m undef l) (onSl j (bindO (lenV E l 33 j) λ n=>m n l) λ _ n _=>m (.int .i64 (.ofNat n)) l) (m undef l)) λ j=>onG f (j undef i) (j a1 i) (j undef i)) λ g=>onG f (g undef d) (g c d) (g undef d)) λ _ e _=>binR (binC E .eql 3 false false) a (.int .i64 (.ofNat e)) λ f=>joinV (λ g i=>joinV (λ j l=>joinV (λ m n=>joinV (λ o p=>onB f (@joinR [4] (λ _ q=>bindO (builtinV E q Builtin.min [a,c] [3,3]) λ r=>ifB (Nat.ble q.1 1000000000) (letH (H.mk q.1 q.2) λ s=>bindO (sliceV E 33 a0 none (some r) none) λ t=>bindO (sliceV E 33 a1 none (some r) none) λ u=>rc 8 [t,u] s λ v w=>k v w)) λ q=>q (.bool false,()) p) (@joinR [4] (λ _ q=>bindO (builtinV E q Builtin.min [a,c] [3,3]) λ r=>ifB (Nat.ble q.1 1000000000) (letH (H.mk q.1 q.2) λ s=>bindO (sliceV E 33 a0 none (some r) none) λ t=>bindO (sliceV E 33 a1 none (some r) none) λ u=>rc 8 [t,u] s λ v w=>k v w)) λ q=>onB o (q (.bool false,()) p) (rc 8 [a0,a1] p λ r s=>k r s))) λ o=>onG f (o undef n) (binR (binC E .eql 3 false false) g m λ p=>o p n) (o undef n)) λ m=>onG f (m undef l) (onSl j (bindO (lenV E l 33 j) λ n=>m n l) λ _ n _=>m (.int .i64 (.ofNat n)) l) (m undef l)) λ j=>onG f (j undef i) (j a1 i) (j undef i)) λ g=>onG f (g undef d) (g c d) (g undef d)
theorem p18_eq (t:ExtT)(rc:RC)(a0 a1:Value)(h:H)(k:Value→H→R):(funB (EX t) KK 18).run rc [a0,a1] h k = p18 (EX t) rc a0 a1 h k:=by kernel_rfl
noncomputable def p19_0 (E:Env)(a0:Value)(a1:Value)(k:Value→H→R)(k658:FEnv [4]→H→R)(v634:Value)(v636:Value):(FEnv [4,7]→H→R)→FEnv [4,7]→H→R:=λ a b c=>binR (binC E .lss 3 false false) b.2.1 v634 λ d=>joinV (λ e f=>joinV (λ g h=>joinV (λ i j=>onB d (@joinR [] (λ _ l=>@joinR [4] (λ m n=>binR (binC E .add 3 false true) b.2.1 (.int .i64 (.ofNat 1)) λ o=>a (m.1,(o,())) n) λ m=>ifB (Nat.ble l.1 1000000000) (letH (H.mk l.1 l.2) λ n=>onNat b.2.1 none λ o=>onSl a0 none λ p q _=>ifB (Nat.ble (Nat.succ o) q) (addOffF p (Nat.mul o 1) λ r=>onPtr r λ s=>onRow (hget n s.1) λ _ t _ _ _ u=>ifB (Nat.ble (Nat.succ s.2) t) (onNat b.2.1 none λ v=>onSl a1 none λ w x _=>ifB (Nat.ble (Nat.succ v) x) (addOffF w (Nat.mul v 1) λ y=>onPtr y λ z=>onRow (hget n z.1) λ _ a2 _ _ _ a3=>ifB (Nat.ble (Nat.succ z.2) a2) (binR (binC E .neq 9 false false) (getF u s.2) (getF a3 z.2) λ a4=>@joinR [4] (λ a5 a6=>m (a5.1,()) a6) λ a5=>onB a4 (a5 (b.1,()) n) (k (.bool false) n))))))) λ _=>k658 (b.1,()) j) (@joinR [] (λ _ l=>@joinR [4] (λ m n=>binR (binC E .add 3 false true) b.2.1 (.int .i64 (.ofNat 1)) λ o=>a (m.1,(o,())) n) λ m=>ifB (Nat.ble l.1 1000000000) (letH (H.mk l.1 l.2) λ n=>onNat b.2.1 none λ o=>onSl a0 none λ p q _=>ifB (Nat.ble (Nat.succ o) q) (addOffF p (Nat.mul o 1) λ r=>onPtr r λ s=>onRow (hget n s.1) λ _ t _ _ _ u=>ifB (Nat.ble (Nat.succ s.2) t) (onNat b.2.1 none λ v=>onSl a1 none λ w x _=>ifB (Nat.ble (Nat.succ v) x) (addOffF w (Nat.mul v 1) λ y=>onPtr y λ z=>onRow (hget n z.1) λ _ a2 _ _ _ a3=>ifB (Nat.ble (Nat.succ z.2) a2) (binR (binC E .neq 9 false false) (getF u s.2) (getF a3 z.2) λ a4=>@joinR [4] (λ a5 a6=>m (a5.1,()) a6) λ a5=>onB a4 (a5 (b.1,()) n) (k (.bool false) n))))))) λ l=>onB i (k658 (b.1,()) j) (l () j))) λ i=>onG d (i undef h) (binR (binC E .lss 3 false false) e g λ j=>i j h) (i undef h)) λ g=>onG d (g undef f) (g v636 f) (g undef f)) λ e=>onG d (e undef c) (e b.2.1 c) (e undef c)
noncomputable def p19 (E:Env)(rc:RC)(a0 a1:Value)(h:H)(k:Value→H→R):R:=rc 17 [a0] h λ a b=>rc 17 [a1] b λ c d=>onSl a0 (bindO (lenV E d 33 a0) λ e=>binR (binC E .eql 3 false false) a e λ f=>joinV (λ g i=>joinV (λ j l=>joinV (λ m n=>joinV (λ o p=>onB f (joinV (λ _ q=>joinV (λ _ r=>joinV (λ _ s=>@joinR [4] (λ t u=>@joinR [4] (λ _ v=>k (.bool true) v) λ v=>@loopF [4,7] (p19_0 E a0 a1 k v a c) bigN (t.1,(.int .i64 (.ofNat 0),())) u) λ t=>t (.bool false,()) s) λ s=>s undef r) λ r=>r undef q) λ q=>q undef p) (joinV (λ q r=>joinV (λ s t=>joinV (λ u v=>onB o (@joinR [4] (λ w x=>@joinR [4] (λ _ y=>k (.bool true) y) λ y=>@loopF [4,7] (p19_0 E a0 a1 k y a c) bigN (w.1,(.int .i64 (.ofNat 0),())) x) λ w=>w (.bool false,()) v) (@joinR [4] (λ w x=>@joinR [4] (λ _ y=>k (.bool true) y) λ y=>@loopF [4,7] (p19_0 E a0 a1 k y a c) bigN (w.1,(.int .i64 (.ofNat 0),())) x) λ w=>onB u (w (.bool false,()) v) (k (.bool false) v))) λ u=>onG o (u undef t) (binR (binC E .neq 3 false false) q s λ v=>u v t) (u undef t)) λ s=>onG o (s undef r) (s c r) (s undef r)) λ q=>onG o (q undef p) (q a p) (q undef p))) λ o=>onG f (o undef n) (binR (binC E .eql 3 false false) g m λ p=>o p n) (o undef n)) λ m=>onG f (m undef l) (onSl j (bindO (lenV E l 33 j) λ n=>m n l) λ _ n _=>m (.int .i64 (.ofNat n)) l) (m undef l)) λ j=>onG f (j undef i) (j a1 i) (j undef i)) λ g=>onG f (g undef d) (g c d) (g undef d)) λ _ e _=>binR (binC E .eql 3 false false) a (.int .i64 (.ofNat e)) λ f=>joinV (λ g i=>joinV (λ j l=>joinV (λ m n=>joinV (λ o p=>onB f (joinV (λ _ q=>joinV (λ _ r=>joinV (λ _ s=>@joinR [4] (λ t u=>@joinR [4] (λ _ v=>k (.bool true) v) λ v=>@loopF [4,7] (p19_0 E a0 a1 k v a c) bigN (t.1,(.int .i64 (.ofNat 0),())) u) λ t=>t (.bool false,()) s) λ s=>s undef r) λ r=>r undef q) λ q=>q undef p) (joinV (λ q r=>joinV (λ s t=>joinV (λ u v=>onB o (@joinR [4] (λ w x=>@joinR [4] (λ _ y=>k (.bool true) y) λ y=>@loopF [4,7] (p19_0 E a0 a1 k y a c) bigN (w.1,(.int .i64 (.ofNat 0),())) x) λ w=>w (.bool false,()) v) (@joinR [4] (λ w x=>@joinR [4] (λ _ y=>k (.bool true) y) λ y=>@loopF [4,7] (p19_0 E a0 a1 k y a c) bigN (w.1,(.int .i64 (.ofNat 0),())) x) λ w=>onB u (w (.bool false,()) v) (k (.bool false) v))) λ u=>onG o (u undef t) (binR (binC E .neq 3 false false) q s λ v=>u v t) (u undef t)) λ s=>onG o (s undef r) (s c r) (s undef r)) λ q=>onG o (q undef p) (q a p) (q undef p))) λ o=>onG f (o undef n) (binR (binC E .eql 3 false false) g m λ p=>o p n) (o undef n)) λ m=>onG f (m undef l) (onSl j (bindO (lenV E l 33 j) λ n=>m n l) λ _ n _=>m (.int .i64 (.ofNat n)) l) (m undef l)) λ j=>onG f (j undef i) (j a1 i) (j undef i)) λ g=>onG f (g undef d) (g c d) (g undef d)
theorem p19_eq (t:ExtT)(rc:RC)(a0 a1:Value)(h:H)(k:Value→H→R):(funB (EX t) KK 19).run rc [a0,a1] h k = p19 (EX t) rc a0 a1 h k:=by kernel_rfl
noncomputable def p5b (E:Env)(rc:RC)(a0 a1:Value)(k:Value→H→R):FEnv [4]→H→R:=λ _ o=>rc 16 [a0] o λ p q=>rc 17 [a0] q λ r s=>binR (binC E .eql 3 false false) p r λ t=>joinV (λ u v=>joinV (λ w x=>joinV (λ y z=>joinV (λ a2 a3=>joinV (λ a4 a5=>onB t (joinV (λ _ a6=>joinV (λ _ a7=>joinV (λ _ a8=>joinV (λ _ a9=>joinV (λ _ b0=>joinV (λ _ b1=>joinV (λ _ b2=>joinV (λ _ b3=>joinV (λ _ b4=>joinV (λ _ b5=>k (.bool false) b5) λ b5=>b5 undef b4) λ b4=>b4 undef b3) λ b3=>b3 undef b2) λ b2=>b2 undef b1) λ b1=>b1 undef b0) λ b0=>b0 undef a9) λ a9=>a9 undef a8) λ a8=>a8 undef a7) λ a7=>a7 undef a6) λ a6=>a6 undef a5) (joinV (λ a6 a7=>joinV (λ a8 a9=>joinV (λ b0 b1=>joinV (λ b2 b3=>joinV (λ b4 b5=>joinV (λ b6 b7=>joinV (λ b8 b9=>onB a4 (joinV (λ _ c0=>joinV (λ _ c1=>joinV (λ _ c2=>k (.bool false) c2) λ c2=>c2 undef c1) λ c1=>c1 undef c0) λ c0=>c0 undef b9) (joinV (λ c0 c1=>joinV (λ c2 c3=>joinV (λ c4 c5=>onB b8 (k (.bool false) c5) (k c4 c5)) λ c4=>onG b8 (c4 undef c3) (rc 18 [c0,c2] c3 c4) (c4 undef c3)) λ c2=>onG b8 (c2 undef c1) (c2 a0 c1) (c2 undef c1)) λ c0=>onG b8 (c0 undef b9) (c0 a0 b9) (c0 undef b9))) λ b8=>onG a4 (b8 undef b7) (binR (binC E .eql 4 false false) b0 b6 λ b9=>b8 b9 b7) (b8 undef b7)) λ b6=>onG a4 (b6 undef b5) (rc 19 [b2,b4] b5 b6) (b6 undef b5)) λ b4=>onG a4 (b4 undef b3) (b4 a1 b3) (b4 undef b3)) λ b2=>onG a4 (b2 undef b1) (b2 a0 b1) (b2 undef b1)) λ b0=>onG a4 (b0 undef a9) (rc 18 [a6,a8] a9 b0) (b0 undef a9)) λ a8=>onG a4 (a8 undef a7) (a8 a1 a7) (a8 undef a7)) λ a6=>onG a4 (a6 undef a5) (a6 a0 a5) (a6 undef a5))) λ a4=>onG t (a4 undef a3) (binR (binC E .eql 3 false false) w a2 λ a5=>a4 a5 a3) (a4 undef a3)) λ a2=>onG t (a2 undef z) (rc 17 [y] z a2) (a2 undef z)) λ y=>onG t (y undef x) (y a1 x) (y undef x)) λ w=>onG t (w undef v) (rc 16 [u] v w) (w undef v)) λ u=>onG t (u undef s) (u a1 s) (u undef s)
noncomputable def p5 (E:Env)(rc:RC)(a0 a1:Value)(h:H)(k:Value→H→R):R:=rc 15 [] h λ a b=>onB a (@joinR [4] (λ c d=>onSl a0 (bindO (lenV E d 33 a0) λ e=>binR (binC E .gtr 3 false true) e (.int .i64 (.ofNat 40)) λ f=>joinV (λ g i=>joinV (λ j l=>joinV (λ m n=>onB f (@joinR [4] (p5b E rc a0 a1 k) λ o=>onB m (o (c.1,()) n) (k (.bool true) n)) (@joinR [4] (p5b E rc a0 a1 k) λ _=>k (.bool true) n)) λ m=>onG f (binR (binC E .gtr 3 false true) j (.int .i64 (.ofNat 40)) λ n=>m n l) (m undef l) (m undef l)) λ j=>onG f (onSl g (bindO (lenV E i 33 g) λ l=>j l i) λ _ l _=>j (.int .i64 (.ofNat l)) i) (j undef i) (j undef i)) λ g=>onG f (g a1 d) (g undef d) (g undef d)) λ _ e _=>binR (binC E .gtr 3 false true) (.int .i64 (.ofNat e)) (.int .i64 (.ofNat 40)) λ f=>joinV (λ g i=>joinV (λ j l=>joinV (λ m n=>onB f (@joinR [4] (p5b E rc a0 a1 k) λ o=>onB m (o (c.1,()) n) (k (.bool true) n)) (@joinR [4] (p5b E rc a0 a1 k) λ _=>k (.bool true) n)) λ m=>onG f (binR (binC E .gtr 3 false true) j (.int .i64 (.ofNat 40)) λ n=>m n l) (m undef l) (m undef l)) λ j=>onG f (onSl g (bindO (lenV E i 33 g) λ l=>j l i) λ _ l _=>j (.int .i64 (.ofNat l)) i) (j undef i) (j undef i)) λ g=>onG f (g a1 d) (g undef d) (g undef d)) λ _=>k (.bool false) b) (@joinR [4] (λ c d=>onSl a0 (bindO (lenV E d 33 a0) λ e=>binR (binC E .gtr 3 false true) e (.int .i64 (.ofNat 40)) λ f=>joinV (λ g i=>joinV (λ j l=>joinV (λ m n=>onB f (@joinR [4] (p5b E rc a0 a1 k) λ o=>onB m (o (c.1,()) n) (k (.bool true) n)) (@joinR [4] (p5b E rc a0 a1 k) λ _=>k (.bool true) n)) λ m=>onG f (binR (binC E .gtr 3 false true) j (.int .i64 (.ofNat 40)) λ n=>m n l) (m undef l) (m undef l)) λ j=>onG f (onSl g (bindO (lenV E i 33 g) λ l=>j l i) λ _ l _=>j (.int .i64 (.ofNat l)) i) (j undef i) (j undef i)) λ g=>onG f (g a1 d) (g undef d) (g undef d)) λ _ e _=>binR (binC E .gtr 3 false true) (.int .i64 (.ofNat e)) (.int .i64 (.ofNat 40)) λ f=>joinV (λ g i=>joinV (λ j l=>joinV (λ m n=>onB f (@joinR [4] (p5b E rc a0 a1 k) λ o=>onB m (o (c.1,()) n) (k (.bool true) n)) (@joinR [4] (p5b E rc a0 a1 k) λ _=>k (.bool true) n)) λ m=>onG f (binR (binC E .gtr 3 false true) j (.int .i64 (.ofNat 40)) λ n=>m n l) (m undef l) (m undef l)) λ j=>onG f (onSl g (bindO (lenV E i 33 g) λ l=>j l i) λ _ l _=>j (.int .i64 (.ofNat l)) i) (j undef i) (j undef i)) λ g=>onG f (g a1 d) (g undef d) (g undef d)) λ c=>c (.bool false,()) b)
theorem p5_eq (t:ExtT)(rc:RC)(a0 a1:Value)(h:H)(k:Value→H→R):(funB (EX t) KK 5).run rc [a0,a1] h k = p5 (EX t) rc a0 a1 h k:=by kernel_rfl
end Go.Ev
namespace Go.Ev
open Go F
set_option maxRecDepth 100000
set_option linter.unusedVariables false
set_option linter.unusedSimpArgs false
def memN (s:List UInt8):List (List UInt8)→Nat
  | []=>0
  | x :: r=>if x=s then 0 else memN s r + 1
theorem memN_le (s:List UInt8):∀ l,memN s l≤l.length
  | []=>Nat.le_refl _
  | x :: r=>by
    unfold memN
    split
    · exact Nat.zero_le _
    · exact Nat.succ_le_succ (memN_le s r)
theorem ne_nil_of_lt {α:Type} {i:Nat} {l:List α} (h:i < l.length):l ≠ []:=λ e=>by rw [e] at h; exact Nat.not_lt_zero _ h
def err4:List UInt8:=[101,114,114,111,114,32,52]
structure UE (E:Env):Prop where
  u3:E.und 3=some (.int .i64)
  u9:E.und 9=some .string
  u33:E.und 33=some (.slice 9)
  s9:E.size 9=some 1
inductive SL (h:H):Value→List (List UInt8)→Prop
  | nil:SL h (.slice none 0 0) []
  | row {b o c e m fz:Nat} {op ro:Bool} {cells:T Value} {l:List (List UInt8)} (hq:l ≠ []→hget h b=.row e m op ro fz cells) (hm:o + l.length≤m)
      (hc:∀ i (hi:i < l.length),getF cells (o + i)=.string ⟨⟨l[i]⟩⟩) (hcap:l.length≤c / 2) (hl:l.length≤900000):SL h (.slice (some ⟨b,o,none⟩) l.length c) l
variable {E : Env} (u : UE E)
include u
theorem str_eql {cx cy:Bool} {a b:List UInt8} {k:Value→R}:binR (binC E .eql 9 cx cy) (.string ⟨⟨a⟩⟩) (.string ⟨⟨b⟩⟩) k=k (.bool (a == b)):=by
  have hb:bin E .eql 9 cx cy (.string ⟨⟨a⟩⟩) (.string ⟨⟨b⟩⟩)=some (.bool (a == b)):=by
    simp only [bin,eqBytes_eq]
  unfold binR binC; rw [u.u9]
  show bindO (bin E .eql 9 cx cy (.string ⟨⟨a⟩⟩) (.string ⟨⟨b⟩⟩)) k=_
  rw [hb]; rfl
theorem str_neq {cx cy:Bool} {a b:List UInt8} {k:Value→R}:binR (binC E .neq 9 cx cy) (.string ⟨⟨a⟩⟩) (.string ⟨⟨b⟩⟩) k=k (.bool (!(a == b))):=by
  have hb:bin E .neq 9 cx cy (.string ⟨⟨a⟩⟩) (.string ⟨⟨b⟩⟩)=some (.bool (!(a == b))):=by
    simp only [bin,eqBytes_eq]
  unfold binR binC; rw [u.u9]
  show bindO (bin E .neq 9 cx cy (.string ⟨⟨a⟩⟩) (.string ⟨⟨b⟩⟩)) k=_
  rw [hb]; rfl
theorem len_nil (h:H):lenV E h 33 (.slice none 0 0)=some (.int .i64 (.ofNat 0)):=by
  unfold lenV; rw [u.u33]; rfl
omit u in
theorem onSl_nil (n c:Nat) (s:R) (k:Addr→Nat→Nat→R):onSl (.slice none n c) s k=s:=rfl
theorem loop17 {h:H} {b o c e m fz:Nat} {op ro:Bool} {cells:T Value} {l:List (List UInt8)} (hq:l ≠ []→hget h b=.row e m op ro fz cells) (hm:o + l.length≤m)
    (hc:∀ i (hi:i < l.length),getF cells (o + i)=.string ⟨⟨l[i]⟩⟩) (hl:l.length≤900000) (k:Value→H→R) (k':FEnv [2]→H→R) :
    ∀ (d i N:Nat) (x:Value),i + d=l.length→d < N →
      loopF (ks:=[2,7]) (p17_1 E (.slice (some ⟨b,o,none⟩) l.length c) k k' l.length) N (x,(.int .i64 (.ofNat i),())) h=if memN err4 (l.drop i) < d then k (.int .i64 (.ofNat (i + memN err4 (l.drop i)))) h else k' (x,()) h:=by
  have u3:=u.u3
  intro d
  induction d with
  | zero =>
    intro i N x hi hN
    obtain ⟨N,rfl⟩:∃ M,N=M + 1:=⟨N - 1,by omega⟩
    rw [loopF_one]
    unfold p17_1
    simp (disch:=omega) only [↓lss_f u3,↓joinR_eq,↓onB_ff]
    rw [if_neg (Nat.not_lt_zero _)]
  | succ d ih =>
    intro i N x hi hN
    obtain ⟨N,rfl⟩:∃ M,N=M + 1:=⟨N - 1,by omega⟩
    have hlt:i < l.length:=by omega
    have hqr:∀ k,onRow (hget h b) k=k e m op ro fz cells:=λ k=>by rw [hq (ne_nil_of_lt hlt)]; rfl
    have hget:=hc i hlt
    have key:=ih (i + 1) N x (by omega) (by omega)
    rw [loopF_one]
    generalize loopF (ks:=[2,7]) (p17_1 E (.slice (some ⟨b,o,none⟩) l.length c) k k' l.length) N=L at key ⊢
    unfold p17_1
    simp (disch:=first | omega | (simp only [Nat.add_eq,Nat.mul_eq,Nat.succ_eq_add_one]; omega)) only [↓lss_t u3,↓joinR_eq,↓onB_tt,↓onNat_int,↓onSl_sl,↓ifB_ble,↓addOffF_eq,↓onPtr_ptr,↓hqr]
    rw [show i.mul 1=i from Nat.mul_one i,hget,str_eql u]
    have hd:l.drop i=l[i] :: l.drop (i + 1):=List.drop_eq_getElem_cons hlt
    rw [hd]
    unfold memN
    by_cases q:l[i]=err4
    · have:(l[i] == [101,114,114,111,114,32,52])=true:=by rw [q]; rfl
      rw [this,if_pos q,if_pos (by omega)]
      rfl
    · have:(l[i] == [101,114,114,111,114,32,52])=false:=by
        rw [beq_eq_false_iff_ne]; exact q
      rw [this,if_neg q]
      simp (disch:=first | omega | (simp only [Nat.add_eq,Nat.mul_eq,Nat.succ_eq_add_one]; omega)) only [↓onB_ff,↓add_i64 u3]
      rw [key]
      by_cases q2:memN err4 (l.drop (i + 1)) < d
      · rw [if_pos q2,if_pos (by omega)]
        have:i + 1 + memN err4 (l.drop (i + 1))=i + (memN err4 (l.drop (i + 1)) + 1):=by omega
        rw [this]
      · rw [if_neg q2,if_neg (by omega)]
theorem run17 {rc:RC} {h:H} {v:Value} {l:List (List UInt8)} (s:SL h v l) (k:Value→H→R):p17 E rc v h k=k (.int .i64 (.ofNat (memN err4 l))) h:=by
  have u3:=u.u3
  cases s with
  | nil =>
    unfold p17
    rw [onSl_nil,len_nil u]
    simp only [↓bindO_some',↓joinR_eq,↓onSl_nil]
    unfold bigN
    rw [show (1000000:Nat)=999999 + 1 from rfl,loopF_one]
    unfold p17_0
    simp (disch:=omega) only [↓lss_f u3,↓joinR_eq,↓onB_ff]
    rw [len_nil u]
    rfl
  | row hq hm hc hcap hl =>
    rename_i b o c e m fz op ro cells
    unfold p17
    simp only [↓onSl_sl,↓joinR_eq]
    have:=loop17 u (c:=c) hq hm hc hl k (λ _ b=>k (.int .i64 (.ofNat l.length)) b) l.length 0 bigN (.int .i64 (.ofNat 0)) (by omega) (by unfold bigN; omega)
    rw [List.drop_zero,Nat.zero_add] at this
    refine this.trans ?_
    have hle:=memN_le err4 l
    by_cases q:memN err4 l < l.length
    · rw [if_pos q]
    · rw [if_neg q,show memN err4 l=l.length by omega]
def idxV (s:List UInt8) (l:List (List UInt8)):Value:=if memN s l < l.length then .int .i64 (.ofNat (memN s l)) else .int .i64 (.negSucc 0)
theorem loop36 {h:H} {b o c e m fz:Nat} {op ro:Bool} {cells:T Value} {l:List (List UInt8)} (hq:l ≠ []→hget h b=.row e m op ro fz cells) (hm:o + l.length≤m)
    (hc:∀ i (hi:i < l.length),getF cells (o + i)=.string ⟨⟨l[i]⟩⟩) (hl:l.length≤900000) (s:List UInt8) (k:Value→H→R) (k':FEnv [4]→H→R) :
    ∀ (d i N:Nat) (x:Value),i + d=l.length→d < N →
      loopF (ks:=[4,8]) (p36_1 E (.slice (some ⟨b,o,none⟩) l.length c) (.string ⟨⟨s⟩⟩) k k' l.length) N (x,(.int .i64 (.ofNat i),())) h=if memN s (l.drop i) < d then k (.int .i64 (.ofNat (i + memN s (l.drop i)))) h else k' (x,()) h:=by
  have u3:=u.u3
  intro d
  induction d with
  | zero =>
    intro i N x hi hN
    obtain ⟨N,rfl⟩:∃ M,N=M + 1:=⟨N - 1,by omega⟩
    rw [loopF_one]
    unfold p36_1
    simp (disch:=omega) only [↓lss_f u3,↓joinR_eq,↓onB_ff]
    rw [if_neg (Nat.not_lt_zero _)]
  | succ d ih =>
    intro i N x hi hN
    obtain ⟨N,rfl⟩:∃ M,N=M + 1:=⟨N - 1,by omega⟩
    have hlt:i < l.length:=by omega
    have hqr:∀ k,onRow (hget h b) k=k e m op ro fz cells:=λ k=>by rw [hq (ne_nil_of_lt hlt)]; rfl
    have hget:=hc i hlt
    have key:=ih (i + 1) N x (by omega) (by omega)
    rw [loopF_one]
    generalize loopF (ks:=[4,8]) (p36_1 E (.slice (some ⟨b,o,none⟩) l.length c) (.string ⟨⟨s⟩⟩) k k' l.length) N=L at key ⊢
    unfold p36_1
    simp (disch:=first | omega | (simp only [Nat.add_eq,Nat.mul_eq,Nat.succ_eq_add_one]; omega)) only [↓lss_t u3,↓joinR_eq,↓onB_tt,↓onNat_int,↓onSl_sl,↓ifB_ble,↓addOffF_eq,↓onPtr_ptr,↓hqr]
    rw [show i.mul 1=i from Nat.mul_one i,hget,str_eql u]
    have hd:l.drop i=l[i] :: l.drop (i + 1):=List.drop_eq_getElem_cons hlt
    rw [hd]
    unfold memN
    by_cases q:l[i]=s
    · have:(s == l[i])=true:=by rw [q]; exact beq_self_eq_true _
      rw [this,if_pos q,if_pos (by omega)]
      rfl
    · have:(s == l[i])=false:=by
        rw [beq_eq_false_iff_ne]; exact λ e=>q e.symm
      rw [this,if_neg q]
      simp (disch:=first | omega | (simp only [Nat.add_eq,Nat.mul_eq,Nat.succ_eq_add_one]; omega)) only [↓onB_ff,↓add_i64 u3]
      rw [key]
      by_cases q2:memN s (l.drop (i + 1)) < d
      · rw [if_pos q2,if_pos (by omega)]
        have:i + 1 + memN s (l.drop (i + 1))=i + (memN s (l.drop (i + 1)) + 1):=by omega
        rw [this]
      · rw [if_neg q2,if_neg (by omega)]
theorem run36 {rc:RC} {h:H} {v:Value} {l:List (List UInt8)} (sl:SL h v l) (s:List UInt8) (k:Value→H→R):p36 E rc v (.string ⟨⟨s⟩⟩) h k=k (idxV s l) h:=by
  have u3:=u.u3
  cases sl with
  | nil =>
    unfold p36
    rw [onSl_nil,len_nil u]
    simp only [↓bindO_some',↓joinR_eq,↓onSl_nil]
    unfold bigN
    rw [show (1000000:Nat)=999999 + 1 from rfl,loopF_one]
    unfold p36_0
    simp (disch:=omega) only [↓lss_f u3,↓joinR_eq,↓onB_ff]
    rfl
  | row hq hm hc hcap hl =>
    rename_i b o c e m fz op ro cells
    unfold p36
    simp only [↓onSl_sl,↓joinR_eq]
    have:=loop36 u (c:=c) hq hm hc hl s k (λ _ a=>k (.int .i64 (.negSucc 0)) a) l.length 0 bigN (.int .i64 (.ofNat 0)) (by omega) (by unfold bigN; omega)
    rw [List.drop_zero,Nat.zero_add] at this
    refine this.trans ?_
    unfold idxV
    split <;> rfl
theorem run16 {rc:RC} {h:H} {v:Value} {l:List (List UInt8)} (sl:SL h v l) (k:Value→H→R) (h36:∀ k,rc 36 [v,.string ⟨⟨err4⟩⟩] h k=k (idxV err4 l) h):p16 E rc v h k=k (.int .i64 (.ofNat (memN err4 l))) h:=by
  have u3:=u.u3
  have hle:=memN_le err4 l
  have e0:p16 E rc v h k=rc 36 [v,.string ⟨⟨err4⟩⟩] h λ a b=>binR (binC E .geq 3 false true) a (.int .i64 (.ofNat 0)) λ c=>@joinR [2] (λ _ d=>onSl v (bindO (lenV E d 33 v) λ e=>k e d) λ _ e _=>k (.int .i64 (.ofNat e)) d) λ d=>onB c (d (.int .i64 (.ofNat 0),()) b) (k a b):=rfl
  rw [e0,h36]
  unfold idxV
  by_cases q:memN err4 l < l.length
  · rw [if_pos q]
    simp (disch:=omega) only [↓geq_t u3,↓joinR_eq,↓onB_tt]
  · rw [if_neg q]
    have hneg:∀ k:Value→R,binR (binC E .geq 3 false true) (.int .i64 (.negSucc 0)) (.int .i64 (.ofNat 0)) k=k (.bool false):=λ k=>by
      unfold binR binC; rw [u3]; rfl
    rw [hneg]
    simp only [↓joinR_eq,↓onB_ff]
    have e1:memN err4 l=l.length:=by omega
    rw [e1]
    cases sl with
    | nil=>rw [onSl_nil,len_nil u]; rfl
    | row=>rfl
theorem loop8 {h:H} {b o c e m fz b' o' c' e' m' fz':Nat} {op ro op' ro':Bool} {cells cells':T Value} {l l':List (List UInt8)} (hq:l ≠ []→hget h b=.row e m op ro fz cells) (hm:o + l.length≤m)
    (hc:∀ i (hi:i < l.length),getF cells (o + i)=.string ⟨⟨l[i]⟩⟩) (hl:l.length≤900000)
    (hq':l' ≠ []→hget h b'=.row e' m' op' ro' fz' cells') (hm':o' + l'.length≤m') (hc':∀ i (hi:i < l'.length),getF cells' (o' + i)=.string ⟨⟨l'[i]⟩⟩) (hll:l.length=l'.length) (hn:h.1≤1000000000) (k:Value→H→R) :
    ∀ (d i N:Nat) (x:Value),i + d=l.length→d < N →
      loopF (ks:=[4,13]) (p8_1 E (.slice (some ⟨b,o,none⟩) l.length c) (.slice (some ⟨b',o',none⟩) l'.length c') k (λ _ g=>k (.bool true) g) l.length) N (x,(.int .i64 (.ofNat i),())) h=k (.bool (decide (l.drop i=l'.drop i))) h:=by
  have u3:=u.u3
  intro d
  induction d with
  | zero =>
    intro i N x hi hN
    obtain ⟨N,rfl⟩:∃ M,N=M + 1:=⟨N - 1,by omega⟩
    rw [loopF_one]
    unfold p8_1
    simp (disch:=omega) only [↓lss_f u3,↓joinR_eq,↓onB_ff]
    rw [List.drop_eq_nil_of_le (by omega),List.drop_eq_nil_of_le (by omega)]
    rfl
  | succ d ih =>
    intro i N x hi hN
    obtain ⟨N,rfl⟩:∃ M,N=M + 1:=⟨N - 1,by omega⟩
    have hlt:i < l.length:=by omega
    have hqr:∀ k,onRow (hget h b) k=k e m op ro fz cells:=λ k=>by rw [hq (ne_nil_of_lt hlt)]; rfl
    have hlt':i < l'.length:=by omega
    have hqr':∀ k,onRow (hget h b') k=k e' m' op' ro' fz' cells':=λ k=>by rw [hq' (ne_nil_of_lt hlt')]; rfl
    have hget:=hc i hlt
    have hget':=hc' i hlt'
    have key:=ih (i + 1) N x (by omega) (by omega)
    rw [loopF_one]
    generalize loopF (ks:=[4,13]) (p8_1 E (.slice (some ⟨b,o,none⟩) l.length c) (.slice (some ⟨b',o',none⟩) l'.length c') k (λ _ g=>k (.bool true) g) l.length) N=L at key ⊢
    unfold p8_1
    simp (disch:=first | omega | (simp only [Nat.add_eq,Nat.mul_eq,Nat.succ_eq_add_one]; omega)) only [↓lss_t u3,↓joinR_eq,↓onB_tt,↓onNat_int,↓onSl_sl,↓ifB_ble,↓letH_eq,↓addOffF_eq,↓onPtr_ptr,↓hqr,↓hqr']
    rw [show i.mul 1=i from Nat.mul_one i,hget,hget',str_neq u]
    have hd:l.drop i=l[i] :: l.drop (i + 1):=List.drop_eq_getElem_cons hlt
    have hd':l'.drop i=l'[i] :: l'.drop (i + 1):=List.drop_eq_getElem_cons hlt'
    rw [hd,hd']
    by_cases q:l[i]=l'[i]
    · have:(!(l[i] == l'[i]))=false:=by rw [q,beq_self_eq_true]; rfl
      rw [this]
      simp (disch:=first | omega | (simp only [Nat.add_eq,Nat.mul_eq,Nat.succ_eq_add_one]; omega)) only [↓onB_ff,↓add_i64 u3]
      refine key.trans ?_
      have hiff:∀ (a b:List UInt8) (A B:List (List UInt8)),a=b→decide (a :: A=b :: B)=decide (A=B):=λ a b A B e=>by subst e; simp
      rw [hiff _ _ _ _ q]
    · have:(!(l[i] == l'[i]))=true:=by rw [beq_eq_false_iff_ne.2 q]; rfl
      rw [this]
      have h2:decide (l[i] :: l.drop (i + 1)=l'[i] :: l'.drop (i + 1))=false:=by
        rw [decide_eq_false_iff_not]; intro e; injection e with e1 _; exact q e1
      rw [h2]
      rfl
theorem run8 {rc:RC} {h:H} {v w:Value} {l l':List (List UInt8)} (s:SL h v l) (s':SL h w l') (hn:h.1≤1000000000) (k:Value→H→R):p8 E rc v w h k=k (.bool (decide (l=l'))) h:=by
  have u3:=u.u3
  have hbig:bigN=999999 + 1:=rfl
  cases s with
  | nil =>
    cases s' with
    | nil =>
      unfold p8
      rw [onSl_nil,len_nil u]
      simp (disch:=omega) only [↓bindO_some',↓onSl_nil,len_nil u,↓neq_f u3,↓joinR_eq,↓onB_ff]
      rw [hbig,loopF_one]
      unfold p8_0
      simp (disch:=omega) only [↓lss_f u3,↓joinR_eq,↓onB_ff]
      rfl
    | row hq' hm' hc' hcap' hl' =>
      unfold p8
      rw [onSl_nil,len_nil u]
      by_cases q:l'.length=0
      · have:l'=[]:=List.eq_nil_of_length_eq_zero q
        subst this
        simp (disch:=first | omega | rfl) only [↓bindO_some',↓onSl_nil,↓onSl_sl,len_nil u,↓neq_f u3,↓joinR_eq,↓onB_ff]
        rw [hbig,loopF_one]
        unfold p8_0
        simp (disch:=omega) only [↓lss_f u3,↓joinR_eq,↓onB_ff]
        rfl
      · simp (disch:=omega) only [↓bindO_some',↓onSl_nil,↓onSl_sl,len_nil u,↓neq_t u3,↓joinR_eq,↓onB_tt]
        have:decide (([]:List (List UInt8))=l')=false:=by
          rw [decide_eq_false_iff_not]; intro e; rw [← e] at q; exact q rfl
        rw [this]
  | row hq hm hc hcap hl =>
    rename_i b o c e m fz op ro cells
    cases s' with
    | nil =>
      unfold p8
      by_cases q:l.length=0
      · have:l=[]:=List.eq_nil_of_length_eq_zero q
        subst this
        simp (disch:=first | omega | rfl) only [↓bindO_some',↓onSl_nil,↓onSl_sl,len_nil u,↓neq_f u3,↓joinR_eq,↓onB_ff]
        rw [hbig,loopF_one]
        unfold p8_1
        simp (disch:=first | omega | exact Nat.le_refl _) only [↓lss_f u3,↓joinR_eq,↓onB_ff]
        rfl
      · simp (disch:=omega) only [↓bindO_some',↓onSl_nil,↓onSl_sl,len_nil u,↓neq_t u3,↓joinR_eq,↓onB_tt]
        have:decide (l=([]:List (List UInt8)))=false:=by
          rw [decide_eq_false_iff_not]; intro e; rw [e] at q; exact q rfl
        rw [this]
    | row hq' hm' hc' hcap' hl' =>
      rename_i b' o' c' e' m' fz' op' ro' cells'
      unfold p8
      by_cases q:l.length=l'.length
      · simp (disch:=omega) only [↓onSl_sl,↓neq_f u3,↓joinR_eq,↓onB_ff]
        have:=loop8 u (c:=c) (c':=c') hq hm hc hl hq' hm' hc' q hn k l.length 0 bigN (.bool false) (by omega) (by unfold bigN; omega)
        rw [List.drop_zero,List.drop_zero] at this
        exact this
      · simp (disch:=omega) only [↓onSl_sl,↓neq_t u3,↓joinR_eq,↓onB_tt]
        have:decide (l=l')=false:=by
          rw [decide_eq_false_iff_not]; intro e; rw [e] at q; exact q rfl
        rw [this]
end Go.Ev
namespace Go.Ev
open Go F
set_option maxRecDepth 100000
set_option linter.unusedVariables false
set_option linter.unusedSimpArgs false
def agV (l l':List (List UInt8)):Bool :=
  if memN err4 l=l.length∧memN err4 l'=l'.length then decide (l=l') else decide (l.take (min (memN err4 l) (memN err4 l'))=l'.take (min (memN err4 l) (memN err4 l')))
theorem agV_self (l:List (List UInt8)):agV l l=true:=by
  unfold agV; split <;> simp
theorem SL.get {h:H} {v:Value} {l:List (List UInt8)} (s:SL h v l) {i:Nat} (hi:i < l.length) :
    ∃ b o c e m op ro fz cells,v=.slice (some ⟨b,o,none⟩) l.length c∧hget h b=.row e m op ro fz cells∧o + i < m∧getF cells (o + i)=.string ⟨⟨l[i]⟩⟩:=by
  cases s with
  | nil=>exact absurd hi (Nat.not_lt_zero _)
  | row hq hm hc hcap hl=>exact ⟨_,_,_,_,_,_,_,_,_,rfl,hq (ne_nil_of_lt hi),by omega,hc i hi⟩
theorem SL.len {h:H} {v:Value} {l:List (List UInt8)} (s:SL h v l):l.length≤900000:=by
  cases s with
  | nil=>exact Nat.zero_le _
  | row hq hm hc hcap hl=>exact hl
variable {E : Env} (u : UE E)
include u
theorem onLen {h:H} {v:Value} {l:List (List UInt8)} (s:SL h v l) (X:Value→R):onSl v (bindO (lenV E h 33 v) X) (λ _ n _=>X (.int .i64 (.ofNat n)))=X (.int .i64 (.ofNat l.length)):=by
  cases s with
  | nil=>rw [onSl_nil,len_nil u]; rfl
  | row=>rfl
theorem SL.take {h:H} {v:Value} {l:List (List UInt8)} (s:SL h v l) {k:Nat} (hk:k≤l.length) :
    ∃ v',sliceV E 33 v none (some (.int .i64 (.ofNat k))) none=some v'∧SL h v' (l.take k):=by
  cases s with
  | nil =>
    have:k=0:=Nat.le_zero.1 hk
    subst this
    refine ⟨.slice none 0 0,?_,.nil⟩
    unfold sliceV; rw [u.u33]; simp only; rw [u.s9]; rfl
  | row hq hm hc hcap hl =>
    rename_i b o c e m fz op ro cells
    have hlen:(l.take k).length=k:=by rw [List.length_take]; omega
    refine ⟨.slice (some ⟨b,o,none⟩) k c,slice_hi3 u.u33 u.s9 (by omega),?_⟩
    have:=SL.row (h:=h) (o:=o) (c:=c) (l:=l.take k) (λ hne=>hq λ e=>hne (by rw [e,List.take_nil])) (by omega) (λ i hi=>by rw [List.getElem_take]; exact hc i (by omega)) (by omega) (by omega)
    rw [hlen] at this
    exact this
theorem run18 {rc:RC} {h:H} {v w:Value} {l l':List (List UInt8)} (s:SL h v l) (s':SL h w l') (hn:h.1≤1000000000)
    (h16:∀ {v l},SL h v l→∀ k,rc 16 [v] h k=k (.int .i64 (.ofNat (memN err4 l))) h)
    (h8:∀ {v w l l'},SL h v l→SL h w l'→∀ k,rc 8 [v,w] h k=k (.bool (decide (l=l'))) h) (k:Value→H→R):p18 E rc v w h k=k (.bool (agV l l')) h:=by
  have u3:=u.u3
  have hle:=memN_le err4 l
  have hle':=memN_le err4 l'
  unfold p18
  rw [h16 s,h16 s',onLen u s]
  have fin:(bindO (builtinV E h Builtin.min [.int .i64 (.ofNat (memN err4 l)),.int .i64 (.ofNat (memN err4 l'))] [3,3]) λ r=>ifB (Nat.ble h.1 1000000000) (letH (H.mk h.1 h.2) λ s=>bindO (sliceV E 33 v none (some r) none) λ t=>bindO (sliceV E 33 w none (some r) none) λ u=>rc 8 [t,u] s λ v w=>k v w))=k (.bool (decide (l.take (min (memN err4 l) (memN err4 l'))=l'.take (min (memN err4 l) (memN err4 l'))))) h:=by
    rw [min_i64,bindO_some',ifB_ble hn,letH_eq]
    obtain ⟨t,e1,s1⟩:=s.take u (k:=min (memN err4 l) (memN err4 l')) (by omega)
    obtain ⟨t',e2,s2⟩:=s'.take u (k:=min (memN err4 l) (memN err4 l')) (by omega)
    rw [e1,bindO_some',e2,bindO_some']
    exact h8 s1 s2 k
  by_cases q:memN err4 l=l.length
  · rw [eql_t u3 q]
    simp only [↓joinV_eq,↓onG_tt]
    rw [onLen u s']
    by_cases q':memN err4 l'=l'.length
    · rw [eql_t u3 q']
      simp only [↓joinV_eq,↓onB_tt]
      rw [show agV l l'=decide (l=l') from if_pos ⟨q,q'⟩]
      exact h8 s s' k
    · rw [eql_f u3 q']
      simp only [↓joinV_eq,↓onB_ff,↓onB_tt,↓joinR_eq]
      rw [show agV l l'=_ from if_neg (λ e=>q' e.2)]
      exact fin
  · rw [eql_f u3 q]
    simp only [↓joinV_eq,↓onG_ff,↓onB_ff,↓joinR_eq]
    rw [show agV l l'=_ from if_neg (λ e=>q e.1)]
    exact fin
theorem loop19 {h:H} {v w:Value} {l l':List (List UInt8)} (s:SL h v l) (s':SL h w l') (hn:h.1≤1000000000) {p q:Nat} (hp:p≤l.length) (hq:q≤l'.length) (k:Value→H→R) (k':FEnv [4]→H→R) :
    ∀ (d i N:Nat) (x:Value),i + d=min p q→d < N →
      loopF (ks:=[4,7]) (p19_0 E v w k k' (.int .i64 (.ofNat p)) (.int .i64 (.ofNat q))) N (x,(.int .i64 (.ofNat i),())) h=if (l.drop i).take d=(l'.drop i).take d then k' (x,()) h else k (.bool false) h:=by
  have u3:=u.u3
  have hl:=s.len
  intro d
  induction d with
  | zero =>
    intro i N x hi hN
    obtain ⟨N,rfl⟩:∃ M,N=M + 1:=⟨N - 1,by omega⟩
    rw [loopF_one,if_pos (by rw [List.take_zero,List.take_zero])]
    unfold p19_0
    by_cases c:i < p
    · simp (disch:=omega) only [↓lss_t u3,↓lss_f u3 (m:=i) (n:=q),↓joinV_eq,↓joinR_eq,↓onG_tt,↓onB_tt,↓onB_ff]
    · rw [lss_f u3 (by omega)]
      simp only [↓joinV_eq,↓joinR_eq,↓onG_ff,↓onB_ff]
  | succ d ih =>
    intro i N x hi hN
    obtain ⟨N,rfl⟩:∃ M,N=M + 1:=⟨N - 1,by omega⟩
    have hlt:i < l.length:=by omega
    have hlt':i < l'.length:=by omega
    have key:=ih (i + 1) N x (by omega) (by omega)
    rw [loopF_one]
    obtain ⟨b,o,c,e,m,op,ro,fz,cells,ev,hr,hm,hc⟩:=s.get hlt
    obtain ⟨b',o',c',e',m',op',ro',fz',cells',ew,hr',hm',hc'⟩:=s'.get hlt'
    subst ev ew
    have hqr:∀ k,onRow (hget h b) k=k e m op ro fz cells:=λ k=>by rw [hr]; rfl
    have hqr':∀ k,onRow (hget h b') k=k e' m' op' ro' fz' cells':=λ k=>by rw [hr']; rfl
    generalize loopF (ks:=[4,7]) (p19_0 E (.slice (some ⟨b,o,none⟩) l.length c) (.slice (some ⟨b',o',none⟩) l'.length c') k k' (.int .i64 (.ofNat p)) (.int .i64 (.ofNat q))) N=L at key ⊢
    unfold p19_0
    simp (disch:=first | omega | (simp only [Nat.add_eq,Nat.mul_eq,Nat.succ_eq_add_one]; omega)) only [↓lss_t u3,↓joinV_eq,↓joinR_eq,↓onG_tt,↓onB_tt,↓onNat_int,↓onSl_sl,↓ifB_ble,↓letH_eq,↓addOffF_eq,↓onPtr_ptr,↓hqr,↓hqr']
    rw [show i.mul 1=i from Nat.mul_one i,hc,hc',str_neq u]
    have hd:(l.drop i).take (d + 1)=l[i] :: (l.drop (i + 1)).take d:=by rw [List.drop_eq_getElem_cons hlt]; rfl
    have hd':(l'.drop i).take (d + 1)=l'[i] :: (l'.drop (i + 1)).take d:=by rw [List.drop_eq_getElem_cons hlt']; rfl
    rw [hd,hd']
    by_cases q:l[i]=l'[i]
    · have:(!(l[i] == l'[i]))=false:=by rw [q,beq_self_eq_true]; rfl
      rw [this]
      simp (disch:=first | omega | (simp only [Nat.add_eq,Nat.mul_eq,Nat.succ_eq_add_one]; omega)) only [↓onB_ff,↓add_i64 u3]
      refine key.trans ?_
      by_cases z:(l.drop (i + 1)).take d=(l'.drop (i + 1)).take d
      · rw [if_pos z,if_pos (by rw [q,z])]
      · rw [if_neg z,if_neg (λ e=>z (List.cons.inj e).2)]
    · have:(!(l[i] == l'[i]))=true:=by rw [beq_eq_false_iff_ne.2 q]; rfl
      rw [this,if_neg (λ e=>q (List.cons.inj e).1)]
      rfl
theorem run19 {rc:RC} {h:H} {v w:Value} {l l':List (List UInt8)} (s:SL h v l) (s':SL h w l') (hn:h.1≤1000000000)
    (h17:∀ {v l},SL h v l→∀ k,rc 17 [v] h k=k (.int .i64 (.ofNat (memN err4 l))) h) (k:Value→H→R):p19 E rc v w h k=k (.bool (agV l l')) h:=by
  have u3:=u.u3
  have hle:=memN_le err4 l
  have hle':=memN_le err4 l'
  have hl:=s.len
  have fin:∀ x,(@loopF [4,7] (p19_0 E v w k (λ _ y=>k (.bool true) y) (.int .i64 (.ofNat (memN err4 l))) (.int .i64 (.ofNat (memN err4 l')))) bigN (x,(.int .i64 (.ofNat 0),())) h)=k (.bool (decide (l.take (min (memN err4 l) (memN err4 l'))=l'.take (min (memN err4 l) (memN err4 l'))))) h:=by
    intro x
    refine (loop19 u s s' hn hle hle' k _ (min (memN err4 l) (memN err4 l')) 0 bigN x (by omega) (by unfold bigN; omega)).trans ?_
    rw [List.drop_zero,List.drop_zero]
    by_cases z:l.take (min (memN err4 l) (memN err4 l'))=l'.take (min (memN err4 l) (memN err4 l'))
    · rw [if_pos z,decide_eq_true z]
    · rw [if_neg z,decide_eq_false z]
  unfold p19
  rw [h17 s,h17 s',onLen u s]
  by_cases q:memN err4 l=l.length
  · rw [eql_t u3 q]
    simp only [↓joinV_eq,↓onG_tt]
    rw [onLen u s']
    by_cases q':memN err4 l'=l'.length
    · rw [eql_t u3 q']
      simp only [↓joinV_eq,↓onB_tt,↓onG_tt]
      rw [show agV l l'=decide (l=l') from if_pos ⟨q,q'⟩]
      by_cases z:memN err4 l=memN err4 l'
      · rw [neq_f u3 z]
        simp only [↓joinV_eq,↓onB_ff,↓joinR_eq]
        refine (fin _).trans ?_
        rw [List.take_of_length_le (by omega),List.take_of_length_le (by omega)]
      · rw [neq_t u3 z]
        simp only [↓joinV_eq,↓onB_tt,↓joinR_eq]
        rw [decide_eq_false (λ e=>z (by rw [e]))]
    · rw [eql_f u3 q']
      simp only [↓joinV_eq,↓onB_ff,↓onB_tt,↓joinR_eq,↓onG_ff]
      rw [show agV l l'=_ from if_neg (λ e=>q' e.2)]
      exact fin _
  · rw [eql_f u3 q]
    simp only [↓joinV_eq,↓onG_ff,↓onB_ff,↓joinR_eq]
    rw [show agV l l'=_ from if_neg (λ e=>q e.1)]
    exact fin _
end Go.Ev
