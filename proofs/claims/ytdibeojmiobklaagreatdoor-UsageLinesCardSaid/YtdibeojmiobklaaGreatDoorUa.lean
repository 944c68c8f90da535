/-
  Functions of the law as plain Lean, printed by a program.
-/
import Derived.Test.YtdibeojmiobklaaGreatDoorLb
import Derived.Shelf.Strings.Builder1
import Derived.Shelf.Strings.Builder2
import Derived.Shelf.Strings.OnBuilder
import Derived.Shelf.Small.Utf8
import Derived.Shelf.Small.Strs
import Derived.Shelf.Strings.BuilderF
import Derived.Shelf.Strconv.Itoa0
import Derived.Shelf.Strconv.Itoa1
import Derived.Shelf.LaysM
import Derived.Shelf.Strconv.Itoa2
import Derived.Shelf.Strconv.Itoa3
import Derived.Shelf.Strings.Search1
import Derived.Shelf.Strings.Search2
import Derived.Shelf.Strings.Search3
import Derived.Shelf.Strings.Count
import Derived.Shelf.Strings.Shaped
import Derived.Shelf.Strings.Prefix
import Derived.Shelf.Strings.Runes
import Derived.Shelf.Strings.IndexAny
import Derived.Shelf.Strings.AsciiSet
import Derived.Shelf.Strings.IndexAnyAll
import Derived.Shelf.Bits.Mul64
import Derived.Shelf.Strings.Repeat
import Derived.Shelf.Unicode.DecodeSlow
import Derived.Test.YtdibeojmiobklaaGreatDoorProg
import Derived.Lib.Walk
import Derived.Lib.ItoaMem
import Derived.WalkKit
import Derived.BigCall
import Derived.BigGuard
import Derived.Lib.ItoaLen
set_option linter.unusedVariables false
set_option linter.unusedSimpArgs false
namespace Go.Ev
open Go F Go.Proofs
set_option maxRecDepth 100000
set_option linter.unusedVariables false
noncomputable def p3_0 (E:Env)(a a0:Value)(rc:RC)(k:Value→H→R)(b:FEnv [2,3]→H→R):(FEnv [2,3,13]→H→R)→FEnv [2,3,13]→H→R:=λ c d e=>binR (binC E .lss 3 false false) d.2.2.1 a λ f=>@joinR [] (λ _ g=>@joinR [2,3] (λ h i=>binR (binC E .add 3 false true) d.2.2.1 (.int .i64 (.ofNat 1)) λ j=>c (h.1,(h.2.1,(j,()))) i) λ h=>onNat d.2.2.1 none λ i=>onSl a0 none λ j l _=>ifB (Nat.ble (Nat.succ i) l) (addOffF j (Nat.mul i 9) λ m=>onPtr m λ n=>onRow (hget g n.1) λ _ o _ _ _ p=>ifB (Nat.ble (Nat.add n.2 9) o) (ifB (Nat.ble g.1 1000000000) (letH (hpush g (.row 28 9 false false 0 (T.ofList unk [.int .u64 (.ofNat 0),.int .i64 (.ofNat 0),.int .u64 (.ofNat 0),.string (ByteArray.mk #[]),.int .i64 (.ofNat 0),.int .i64 (.ofNat 0),.int .i64 (.ofNat 0),.int .i64 (.ofNat 0),.int .i64 (.ofNat 0)]))) λ q=>onRow (hget q g.1) λ r s t u v w=>ifB (notB u) (ifB (Nat.beq (lenF (cellsF p 9 n.2)) 9) (ifB (Nat.ble v 0) (ifB (Nat.ble 9 s) (ifB (Nat.ble s 1000000000) (ifB (allF (λ x=>cell1F x) (cellsF p 9 n.2)) (letH (hset q g.1 (.row r s t false v (putF w 0 (cellsF p 9 n.2)))) λ x=>onRow (hget x g.1) λ _ y _ _ _ z=>ifB (Nat.ble 4 y) (bindO (lenV E x 9 (getF z 3)) λ a1=>binR (binC E .gtr 3 false true) a1 (.int .i64 (.ofNat 100)) λ a2=>@joinR [2] (λ a3 a4=>onRow (hget a4 g.1) λ _ a5 _ _ _ a6=>ifB (Nat.ble 9 a5) (rc 7 [.agg ⟨cellsF a6 9 0⟩] a4 λ a7 a8=>@Option.rec (List Value) (λ _=>R) none (λ a9=>ifB (Nat.ble a8.1 1000000000) (letH (hpush a8 (.row 30 9 false false 0 (T.ofList unk a9))) λ b0=>bindP (heavyB E b0 Builtin.append [d.2.1,.slice (some (Addr.mk a8.1 0 none)) 1 2] [24,24]) λ b1 b2=>h (a3.1,(b1,())) b2)) (fillV (λ a9=>some (Nat.mul a9 9,9)) (List.flatten (List.replicate 1 (cellsOfV (.agg (@List.toArray Value [.int .u64 (.ofNat 0),.int .i64 (.ofNat 0),.int .u64 (.ofNat 0),.string (ByteArray.mk #[]),.int .i64 (.ofNat 0),.int .i64 (.ofNat 0),.int .i64 (.ofNat 0),.int .i64 (.ofNat 0),.int .i64 (.ofNat 0)]))))) [(0,a7)]))) λ a3=>onB a2 (a3 (d.1,()) x) (k (.bool true) x)))))))))))) λ g=>onB f (b (d.1,(d.2.1,())) e) (g () e)
noncomputable def p3_1 (E:Env)(rc:RC)(a0:Value)(k:Value→H→R)(a:FEnv [2])(b:H):R:=joinL (λ c=>binR (binC E .gtr 3 false true) c (.int .i64 (.ofNat 40)) λ d=>@joinR [2] (λ e f=>joinL (λ g=>@joinR [2,3] (λ h i=>rc 9 [a0] i λ j l=>rc 10 [h.2.1] l λ m n=>rc 8 [j,m] n λ o p=>k o p) λ h=>@loopF [2,3,13] (p3_0 E g a0 rc k h) bigN (e.1,(.slice none 0 0,(.int .i64 (.ofNat 0),()))) f) λ g=>onSl a0 (bindO (lenV E f 22 a0) g) λ _ h _=>g (.int .i64 (.ofNat h))) λ e=>onB d (e (a.1,()) b) (k (.bool true) b)) λ c=>onSl a0 (bindO (lenV E b 22 a0) c) λ _ d _=>c (.int .i64 (.ofNat d))
noncomputable def p3 (E:Env)(rc:RC)(a0:Value)(h:H)(k:Value→H→R):R:=rc 6 [] h λ a b=>onB a (@joinR [2] (λ c d=>p3_1 E rc a0 k c d) λ _=>k (.bool false) b) (@joinR [2] (λ c d=>p3_1 E rc a0 k c d) λ c=>c (.bool false,()) b)
theorem p3_eq (t:ExtT)(rc:RC)(a0:Value)(h:H)(k:Value→H→R):(funB (EX t) KK 3).run rc [a0] h k = p3 (EX t) rc a0 h k:=by kernel_rfl
noncomputable def p7 (E:Env)(rc:RC)(a0:Value)(h:H)(k:Value→H→R):R:=onCells a0 λ a=>ifB (allF (λ b=>cell1F b) a) (ifB (Nat.ble h.1 1000000000) (letH (hpush h (.row 28 (lenF a) false false 0 (T.ofList unk a))) λ b=>ifB (Nat.ble b.1 1000000000) (letH (hpush b (.row 30 9 false false 0 (T.ofList unk [.int .u64 (.ofNat 0),.int .i64 (.ofNat 0),.int .u64 (.ofNat 0),.string (ByteArray.mk #[]),.int .i64 (.ofNat 0),.int .i64 (.ofNat 0),.int .i64 (.ofNat 0),.int .i64 (.ofNat 0),.int .i64 (.ofNat 0)]))) λ c=>onRow (hget c h.1) λ _ d _ _ _ e=>ifB (Nat.ble 1 d) (onRow (hget c h.1) λ _ f _ _ _ g=>ifB (Nat.ble 2 f) (onRow (hget c h.1) λ _ i _ _ _ j=>ifB (Nat.ble 3 i) (onRow (hget c h.1) λ _ l _ _ _ m=>ifB (Nat.ble 4 l) (onRow (hget c h.1) λ _ n _ _ _ o=>ifB (Nat.ble 5 n) (onRow (hget c h.1) λ _ p _ _ _ q=>ifB (Nat.ble 6 p) (onRow (hget c h.1) λ _ r _ _ _ s=>ifB (Nat.ble 7 r) (onRow (hget c h.1) λ _ t _ _ _ u=>ifB (Nat.ble 8 t) (onRow (hget c h.1) λ _ v _ _ _ w=>ifB (Nat.ble 9 v) (bindO (buildV E 30 [(0,getF e 0),(1,getF g 1),(2,getF j 2),(3,getF m 3),(4,getF o 4),(5,getF q 5),(6,getF s 6),(7,getF u 7),(8,getF w 8)]) λ x=>onCells x λ y=>onRow (hget c b.1) λ z a1 a2 a3 a4 a5=>ifB (notB a3) (ifB (Nat.beq (lenF y) 9) (ifB (Nat.ble a4 0) (ifB (Nat.ble 9 a1) (ifB (Nat.ble a1 1000000000) (ifB (allF (λ a6=>cell1F a6) y) (letH (hset c b.1 (.row z a1 a2 false a4 (putF a5 0 y))) λ a6=>bindO (loadV E a6 30 (Addr.mk b.1 0 none)) λ a7=>k a7 a6))))))))))))))))))
theorem p7_eq (t:ExtT)(rc:RC)(a0:Value)(h:H)(k:Value→H→R):(funB (EX t) KK 7).run rc [a0] h k = p7 (EX t) rc a0 h k:=by kernel_rfl
noncomputable def p9_0 (E:Env)(a:Value)(b:H)(rc:RC)(c:FEnv [7,40]→H→R):(FEnv [7,40]→H→R)→FEnv [7,40]→H→R:=λ d e f=>binR (binC E .lss 3 false false) e.2.1 a λ g=>@joinR [] (λ _ h=>@joinR [7] (λ i j=>binR (binC E .add 3 false true) e.2.1 (.int .i64 (.ofNat 1)) λ l=>d (i.1,(l,())) j) λ i=>onNat e.2.1 none λ j=>ifB (Nat.ble (Nat.succ j) 5) (addOffF (Addr.mk b.1 0 none) (Nat.mul j 1) λ l=>onPtr l λ m=>onRow (hget h m.1) λ _ n _ _ _ o=>ifB (Nat.ble (Nat.succ m.2) n) (rc 26 [getF o m.2] h λ p q=>@Option.rec (List Value) (λ _=>R) none (λ r=>ifB (Nat.ble q.1 1000000000) (letH (hpush q (.row 9 1 false false 0 (T.ofList unk r))) λ s=>bindP (heavyB E s Builtin.append [e.1,.slice (some (Addr.mk q.1 0 none)) 1 2] [33,33]) λ t u=>i (t,()) u)) (fillV (λ r=>some (Nat.mul r 1,1)) (List.flatten (List.replicate 1 (cellsOfV (.string (ByteArray.mk #[]))))) [(0,p)])))) λ h=>onB g (c (e.1,(e.2.1,())) f) (h () f)
noncomputable def p9_1 (E:Env)(a a0:Value)(rc:RC)(b:FEnv [3]→H→R):(FEnv [3,12]→H→R)→FEnv [3,12]→H→R:=λ c d e=>binR (binC E .lss 3 false false) d.2.1 a λ f=>@joinR [] (λ _ g=>@joinR [3] (λ h i=>binR (binC E .add 3 false true) d.2.1 (.int .i64 (.ofNat 1)) λ j=>c (h.1,(j,())) i) λ h=>onNat d.2.1 none λ i=>onSl a0 none λ j l _=>ifB (Nat.ble (Nat.succ i) l) (addOffF j (Nat.mul i 9) λ m=>onPtr m λ n=>onRow (hget g n.1) λ _ o _ _ _ p=>ifB (Nat.ble (Nat.add n.2 9) o) (ifB (Nat.ble g.1 1000000000) (letH (hpush g (.row 28 9 false false 0 (T.ofList unk [.int .u64 (.ofNat 0),.int .i64 (.ofNat 0),.int .u64 (.ofNat 0),.string (ByteArray.mk #[]),.int .i64 (.ofNat 0),.int .i64 (.ofNat 0),.int .i64 (.ofNat 0),.int .i64 (.ofNat 0),.int .i64 (.ofNat 0)]))) λ q=>onRow (hget q g.1) λ r s t u v w=>ifB (notB u) (ifB (Nat.beq (lenF (cellsF p 9 n.2)) 9) (ifB (Nat.ble v 0) (ifB (Nat.ble 9 s) (ifB (Nat.ble s 1000000000) (ifB (allF (λ x=>cell1F x) (cellsF p 9 n.2)) (letH (hset q g.1 (.row r s t false v (putF w 0 (cellsF p 9 n.2)))) λ x=>onRow (hget x g.1) λ _ y _ _ _ z=>ifB (Nat.ble 4 y) (binR (binC E .eql 9 false true) (getF z 3) (.string (ByteArray.mk #[])) λ a1=>@joinR [6] (λ a2 a3=>ifB (Nat.ble a3.1 1000000000) (letH (H.mk (Nat.add a3.1 1) a3.2) λ a4=>onRow (hget a4 g.1) λ _ a5 _ _ _ a6=>ifB (Nat.ble 1 a5) (onRow (hget a4 g.1) λ _ a7 _ _ _ a8=>ifB (Nat.ble 3 a7) (rc 25 [getF a6 0,.int .i64 (.ofNat 10)] a4 λ a9 b0=>ifB (sameW (.pointer (some (Addr.mk g.1 2 none))) (.pointer (some (Addr.mk g.1 2 none)))) (onRow (hget b0 g.1) λ _ b1 _ _ _ b2=>ifB (Nat.ble 3 b1) (ifB (sameW (getF b2 2) (getF a8 2)) (ifB (sameW a2.1 a2.1) (rc 25 [getF a8 2,.int .i64 (.ofNat 10)] b0 λ b3 b4=>ifB (sameW a2.1 a2.1) (@Option.rec (List Value) (λ _=>R) none (λ b5=>letH (hset b4 a3.1 (.row 9 3 false false 0 (T.ofList unk b5))) λ b6=>onRow (hget b6 g.1) λ _ b7 _ _ _ b8=>ifB (Nat.ble 5 b7) (onRow (hget b6 g.1) λ _ b9 _ _ _ c0=>ifB (Nat.ble 6 b9) (onRow (hget b6 g.1) λ _ c1 _ _ _ c2=>ifB (Nat.ble 7 c1) (onRow (hget b6 g.1) λ _ c3 _ _ _ c4=>ifB (Nat.ble 8 c3) (onRow (hget b6 g.1) λ _ c5 _ _ _ c6=>ifB (Nat.ble 9 c5) (@Option.rec (List Value) (λ _=>R) none (λ c7=>ifB (Nat.ble b6.1 1000000000) (letH (hpush b6 (.row 3 5 false false 0 (T.ofList unk c7))) λ c8=>joinL (λ c9=>@joinR [7,40] (λ d0 d1=>onRow (hget d1 g.1) λ _ d2 _ _ _ d3=>ifB (Nat.ble 2 d2) (bindO (builtinV E d1 Builtin.min [getF d3 1,.int .i64 (.ofNat 300)] [3,3]) λ d4=>bindO (builtinV E d1 Builtin.max [.int .i64 (.ofNat 0),d4] [3,3]) λ d5=>rc 27 [.string ⟨⟨[32,32]⟩⟩,d5] d1 λ d6 d7=>rc 28 [d0.1,.string ⟨⟨[32]⟩⟩] d7 λ d8 d9=>binR (binC E .add 9 false false) d6 d8 λ e0=>@Option.rec (List Value) (λ _=>R) none (λ e1=>ifB (Nat.ble d9.1 1000000000) (letH (hpush d9 (.row 9 1 false false 0 (T.ofList unk e1))) λ e2=>bindP (heavyB E e2 Builtin.append [d.1,.slice (some (Addr.mk d9.1 0 none)) 1 2] [33,33]) λ e3 e4=>h (e3,()) e4)) (fillV (λ e1=>some (Nat.mul e1 1,1)) (List.flatten (List.replicate 1 (cellsOfV (.string (ByteArray.mk #[]))))) [(0,e0)]))) λ d0=>@loopF [7,40] (p9_0 E c9 b6 rc d0) bigN (.slice (some (Addr.mk a3.1 0 none)) 3 6,(.int .i64 (.ofNat 0),())) c8) λ c9=>c9 (.int .i64 (.ofNat 5)))) (fillV (λ c7=>some (Nat.mul c7 1,1)) (List.flatten (List.replicate 5 (cellsOfV (.int .i64 (.ofNat 0))))) [(0,getF b8 4),(1,getF c0 5),(2,getF c2 6),(3,getF c4 7),(4,getF c6 8)]))))))) (fillV (λ b5=>some (Nat.mul b5 1,1)) (List.flatten (List.replicate 3 (cellsOfV (.string (ByteArray.mk #[]))))) [(0,a9),(1,b3),(2,a2.1)])))))))))) λ a2=>onB a1 (a2 (getF z 3,()) x) (a2 (.string ⟨⟨[46]⟩⟩,()) x)))))))))))) λ g=>onB f (b (d.1,()) e) (g () e)
noncomputable def p9 (E:Env)(rc:RC)(a0:Value)(h:H)(k:Value→H→R):R:=joinL (λ a=>@joinR [3] (λ b c=>k b.1 c) λ b=>@loopF [3,12] (p9_1 E a a0 rc b) bigN (.slice none 0 0,(.int .i64 (.ofNat 0),())) h) λ a=>onSl a0 (bindO (lenV E h 22 a0) a) λ _ b _=>a (.int .i64 (.ofNat b))
theorem p9_eq (t:ExtT)(rc:RC)(a0:Value)(h:H)(k:Value→H→R):(funB (EX t) KK 9).run rc [a0] h k = p9 (EX t) rc a0 h k:=by kernel_rfl
noncomputable def p10_0 (E:Env)(a:Value)(b:H)(rc:RC)(c:FEnv [6,60]→H→R):(FEnv [6,60]→H→R)→FEnv [6,60]→H→R:=λ d e f=>binR (binC E .lss 3 false false) e.2.1 a λ g=>@joinR [] (λ _ h=>@joinR [6] (λ i j=>binR (binC E .add 3 false true) e.2.1 (.int .i64 (.ofNat 1)) λ l=>d (i.1,(l,())) j) λ i=>onNat e.2.1 none λ j=>ifB (Nat.ble (Nat.succ j) 5) (addOffF (Addr.mk b.1 0 none) (Nat.mul j 1) λ l=>onPtr l λ m=>onRow (hget h m.1) λ _ n _ _ _ o=>ifB (Nat.ble (Nat.succ m.2) n) (binR (binC E .add 9 false true) e.1 (.string ⟨⟨[32]⟩⟩) λ p=>rc 26 [getF o m.2] h λ q r=>binR (binC E .add 9 false false) p q λ s=>i (s,()) r))) λ h=>onB g (c (e.1,(e.2.1,())) f) (h () f)
noncomputable def p10_1 (E:Env)(a:FEnv [6,7])(b:FEnv [6,7]→H→R)(c:H):R:=@joinR [6] (λ d e=>binR (binC E .add 3 false true) a.2.1 (.int .i64 (.ofNat 1)) λ f=>b (d.1,(f,())) e) λ d=>binR (binC E .add 9 false true) a.1 (.string ⟨⟨[32,32]⟩⟩) λ e=>d (e,()) c
noncomputable def p10_2 (a:H)(E:Env)(b:FEnv [6,7]→H→R):(FEnv [6,7]→H→R)→FEnv [6,7]→H→R:=λ c d e=>onRow (hget e a.1) λ _ f _ _ _ g=>ifB (Nat.ble 2 f) (binR (binC E .lss 3 false false) d.2.1 (getF g 1) λ h=>joinV (λ i j=>joinV (λ l m=>onB h (@joinR [] (λ _ n=>p10_1 E d c n) λ _=>b (d.1,(d.2.1,())) m) (@joinR [] (λ _ n=>p10_1 E d c n) λ n=>onB l (b (d.1,(d.2.1,())) m) (n () m))) λ l=>onG h (l undef j) (binR (binC E .lss 3 false true) i (.int .i64 (.ofNat 300)) λ m=>l m j) (l undef j)) λ i=>onG h (i undef e) (i d.2.1 e) (i undef e))
noncomputable def p10_3 (E:Env)(a a0:Value)(rc:RC)(b:FEnv [3]→H→R):(FEnv [3,12]→H→R)→FEnv [3,12]→H→R:=λ c d e=>binR (binC E .lss 3 false false) d.2.1 a λ f=>@joinR [] (λ _ g=>@joinR [3] (λ h i=>binR (binC E .add 3 false true) d.2.1 (.int .i64 (.ofNat 1)) λ j=>c (h.1,(j,())) i) λ h=>onNat d.2.1 none λ i=>onSl a0 none λ j l _=>ifB (Nat.ble (Nat.succ i) l) (addOffF j (Nat.mul i 9) λ m=>onPtr m λ n=>onRow (hget g n.1) λ _ o _ _ _ p=>ifB (Nat.ble (Nat.add n.2 9) o) (ifB (Nat.ble g.1 1000000000) (letH (hpush g (.row 30 9 false false 0 (T.ofList unk [.int .u64 (.ofNat 0),.int .i64 (.ofNat 0),.int .u64 (.ofNat 0),.string (ByteArray.mk #[]),.int .i64 (.ofNat 0),.int .i64 (.ofNat 0),.int .i64 (.ofNat 0),.int .i64 (.ofNat 0),.int .i64 (.ofNat 0)]))) λ q=>onRow (hget q g.1) λ r s t u v w=>ifB (notB u) (ifB (Nat.beq (lenF (cellsF p 9 n.2)) 9) (ifB (Nat.ble v 0) (ifB (Nat.ble 9 s) (ifB (Nat.ble s 1000000000) (ifB (allF (λ x=>cell1F x) (cellsF p 9 n.2)) (letH (hset q g.1 (.row r s t false v (putF w 0 (cellsF p 9 n.2)))) λ x=>@joinR [6,7] (λ y z=>ifB (Nat.ble z.1 1000000000) (letH (H.mk z.1 z.2) λ a1=>onRow (hget a1 g.1) λ _ a2 _ _ _ a3=>ifB (Nat.ble 1 a2) (onRow (hget a1 g.1) λ _ a4 _ _ _ a5=>ifB (Nat.ble 3 a4) (rc 25 [getF a3 0,.int .i64 (.ofNat 10)] a1 λ a6 a7=>ifB (sameW y.1 y.1) (ifB (sameW (.pointer (some (Addr.mk g.1 2 none))) (.pointer (some (Addr.mk g.1 2 none)))) (onRow (hget a7 g.1) λ _ a8 _ _ _ a9=>ifB (Nat.ble 3 a8) (ifB (sameW (getF a9 2) (getF a5 2)) (binR (binC E .add 9 false false) y.1 a6 λ b0=>binR (binC E .add 9 false true) b0 (.string ⟨⟨[32]⟩⟩) λ b1=>rc 25 [getF a5 2,.int .i64 (.ofNat 10)] a7 λ b2 b3=>ifB (sameW y.1 y.1) (binR (binC E .add 9 false false) y.1 a6 λ b4=>ifB (sameW b4 b0) (binR (binC E .add 9 false true) b0 (.string ⟨⟨[32]⟩⟩) λ b5=>ifB (sameW b5 b1) (binR (binC E .add 9 false false) b1 b2 λ b6=>binR (binC E .add 9 false true) b6 (.string ⟨⟨[32]⟩⟩) λ b7=>onRow (hget b3 g.1) λ _ b8 _ _ _ b9=>ifB (Nat.ble 4 b8) (binR (binC E .eql 9 false true) (getF b9 3) (.string (ByteArray.mk #[])) λ c0=>@joinR [6] (λ c1 c2=>onRow (hget c2 g.1) λ _ c3 _ _ _ c4=>ifB (Nat.ble 4 c3) (binR (binC E .add 9 false false) c1.1 (getF c4 3) λ c5=>onRow (hget c2 g.1) λ _ c6 _ _ _ c7=>ifB (Nat.ble 5 c6) (onRow (hget c2 g.1) λ _ c8 _ _ _ c9=>ifB (Nat.ble 6 c8) (onRow (hget c2 g.1) λ _ d0 _ _ _ d1=>ifB (Nat.ble 7 d0) (onRow (hget c2 g.1) λ _ d2 _ _ _ d3=>ifB (Nat.ble 8 d2) (onRow (hget c2 g.1) λ _ d4 _ _ _ d5=>ifB (Nat.ble 9 d4) (@Option.rec (List Value) (λ _=>R) none (λ d6=>ifB (Nat.ble c2.1 1000000000) (letH (hpush c2 (.row 3 5 false false 0 (T.ofList unk d6))) λ d7=>joinL (λ d8=>@joinR [6,60] (λ d9 e0=>@Option.rec (List Value) (λ _=>R) none (λ e1=>ifB (Nat.ble e0.1 1000000000) (letH (hpush e0 (.row 9 1 false false 0 (T.ofList unk e1))) λ e2=>bindP (heavyB E e2 Builtin.append [d.1,.slice (some (Addr.mk e0.1 0 none)) 1 2] [33,33]) λ e3 e4=>h (e3,()) e4)) (fillV (λ e1=>some (Nat.mul e1 1,1)) (List.flatten (List.replicate 1 (cellsOfV (.string (ByteArray.mk #[]))))) [(0,d9.1)])) λ d9=>@loopF [6,60] (p10_0 E d8 c2 rc d9) bigN (c5,(.int .i64 (.ofNat 0),())) d7) λ d8=>d8 (.int .i64 (.ofNat 5)))) (fillV (λ d6=>some (Nat.mul d6 1,1)) (List.flatten (List.replicate 5 (cellsOfV (.int .i64 (.ofNat 0))))) [(0,getF c7 4),(1,getF c9 5),(2,getF d1 6),(3,getF d3 7),(4,getF d5 8)])))))))) λ c1=>onB c0 (c1 (b7,()) b3) (binR (binC E .add 9 false true) b7 (.string ⟨⟨[46]⟩⟩) λ c2=>c1 (c2,()) b3))))))))))))) λ y=>@loopF [6,7] (p10_2 g E y) bigN (.string (ByteArray.mk #[]),(.int .i64 (.ofNat 0),())) x)))))))))) λ g=>onB f (b (d.1,()) e) (g () e)
noncomputable def p10 (E:Env)(rc:RC)(a0:Value)(h:H)(k:Value→H→R):R:=joinL (λ a=>@joinR [3] (λ b c=>k b.1 c) λ b=>@loopF [3,12] (p10_3 E a a0 rc b) bigN (.slice none 0 0,(.int .i64 (.ofNat 0),())) h) λ a=>onSl a0 (bindO (lenV E h 24 a0) a) λ _ b _=>a (.int .i64 (.ofNat b))
theorem p10_eq (t:ExtT)(rc:RC)(a0:Value)(h:H)(k:Value→H→R):(funB (EX t) KK 10).run rc [a0] h k = p10 (EX t) rc a0 h k:=by kernel_rfl
end Go.Ev
namespace Go.Ev
open Go F
set_option linter.unusedVariables false
set_option linter.unusedSimpArgs false
structure ElT (E:Env) (t e s:Nat) (i:TypeInfo) (z:List Value):Prop where
  u:E.und t=some (.slice e)
  inf:E.info e=some i
  sz:i.size=s
  bt:i.bytes≤1000
  zc:zeroCellsV E e=some z
  zl:z.length=s
  s0:1≤s
  s1:s≤100
inductive OL (e s:Nat) (h:H):Value→Nat→List Value→Prop
  | nil:OL e s h (.slice none 0 0) 0 []
  | row {b n fz:Nat} {op:Bool} {cells:T Value} {L:List Value} (hb:b < h.next) (hq:hget h b=.row e (n * s) op false 0 cells) (hL:L.length=n * s)
      (hc:∀ i,i < L.length→getF cells i=L.getD i unk) (hn:0 < n):OL e s h (.slice (some ⟨b,0,none⟩) n (2 * n + op.toNat)) n L
def blkOf:Value→Option Nat
  | .slice (some a) _ _=>some a.block
  | _=>none
theorem OL.keep {e s n:Nat} {h h':H} {v:Value} {L:List Value} (o:OL e s h v n L) (hn:h.next≤h'.next) (hk:∀ b,blkOf v=some b→b < h.next→hget h' b=hget h b):OL e s h' v n L:=by
  cases o with
  | nil=>exact .nil
  | row hb hq hL hc hp=>exact .row (fz:=0) (Nat.lt_of_lt_of_le hb hn) ((hk _ rfl hb).trans hq) hL hc hp
theorem OL.blk {e s n:Nat} {h:H} {v:Value} {L:List Value} (o:OL e s h v n L) (b:Nat) (hb:blkOf v=some b):b < h.next:=by
  cases o with
  | nil=>exact nomatch hb
  | row h1=>cases hb; exact h1
theorem append1 {E:Env} {t e s n:Nat} {i:TypeInfo} {z xs:List Value} (T1:ElT E t e s i z) {h:H} {v:Value} {L:List Value} (o:OL e s h v n L) (hx:xs.length=s) (hc1:xs.all cell1=true)
    (hn:h.next + 2≤1000000000) (hn2:n≤9000) :
    ∃ v' h',heavyB E (hpush h (.row e s false false 0 (T.ofList unk xs))) .append [v,.slice (some ⟨h.next,0,none⟩) 1 2] [t,t]=some (v',h')∧OL e s h' v' (n + 1) (L ++ xs)∧h'.next=h.next + 2 ∧
      blkOf v'=some (h.next + 1)∧∀ id,id < h.next→blkOf v ≠ some id→hget h' id=hget h id:=by
  obtain ⟨s0,s1⟩:=And.intro T1.s0 T1.s1
  have hg1:(hpush h (.row e s false false 0 (T.ofList unk xs))).objs.get h.next=.row e s false false 0 (T.ofList unk xs):=by
    rw [← hget_eq]; exact get_push_eq _ _ (by omega)
  have hnx:(hpush h (.row e s false false 0 (T.ofList unk xs))).next=h.next + 1:=rfl
  have hroom:room (hpush h (.row e s false false 0 (T.ofList unk xs)))=true:=ble_t (by rw [hnx]; omega)
  have hsrc:srcN (hpush h (.row e s false false 0 (T.ofList unk xs))) s 1 (.slice (some ⟨h.next,0,none⟩) 1 2)=some xs:=by
    have:Nat.ble (0 + 1 * s) s=true:=ble_t (by omega)
    simp only [srcN,hg1,this,cond_true]
    rw [Nat.one_mul,← hx,show (0:Nat)=0 from rfl]
    exact congrArg some (cells_back xs xs.length rfl)
  have hnews:newsV (hpush h (.row e s false false 0 (T.ofList unk xs))) s z false (.slice (some ⟨h.next,0,none⟩) 1 2)=some (1,xs):=by
    simp only [newsV,cond_false,lenN,hsrc]
  obtain ⟨s',hs'⟩:∃ s',i.size=s' + 1:=⟨s - 1,by rw [T1.sz]; omega⟩
  have hnum:numAt E [t]=some false:=by simp only [numAt,T1.u]
  have hss:s' + 1=s:=by rw [← hs',T1.sz]
  have hzb:Nat.beq z.length (s' + 1)=true:=beq_t (by rw [T1.zl,hss])
  have hbt:=T1.bt
  have b1:Nat.ble ((n + 1) * (i.bytes + 1)) 1000000000=true:=ble_t (Nat.le_trans (Nat.mul_le_mul (show n + 1≤9001 by omega) (show i.bytes + 1≤1001 by omega)) (by decide))
  have b2:Nat.ble ((n + 1) * (s' + 1)) 1000000000=true:=ble_t (Nat.le_trans (Nat.mul_le_mul (show n + 1≤9001 by omega) (show s' + 1≤100 by omega)) (by decide))
  have hnews':newsV (hpush h (.row e s false false 0 (T.ofList unk xs))) (s' + 1) z false (.slice (some ⟨h.next,0,none⟩) 1 2)=some (1,xs):=by rw [hss]; exact hnews
  have hnx':=hnx
  rw [hpush_eq] at hnews' hroom hnx'
  cases o with
  | nil =>
    have b1':Nat.ble ((0 + 1) * (i.bytes + 1)) 1000000000=true:=b1
    have b2':Nat.ble ((0 + 1) * (s' + 1)) 1000000000=true:=b2
    have e0:heavyB E (hpush h (.row e s false false 0 (T.ofList unk xs))) .append [.slice none 0 0,.slice (some ⟨h.next,0,none⟩) 1 2] [t,t]=some (.slice (some ⟨h.next + 1,0,none⟩) 1 3,hpush (hpush h (.row e s false false 0 (T.ofList unk xs))) (.row e s true false 0 (T.ofList unk xs))):=by
      rw [hpush_eq]
      simp only [heavyB,hnum,appendV,T1.u,T1.inf,T1.zc,hs',hnews',b1',b2',hzb,Bool.and_self,cond_true,Nat.zero_div,show Nat.ble (0 + 1) 0=false from rfl,cond_false,hroom,Nat.beq_refl,hnx',hpush_eq]
      simp only [Nat.zero_add,Nat.one_mul,hss,Nat.mul_one]
    refine ⟨_,_,e0,?_,rfl,rfl,λ id hid _=>?_⟩
    · have hq:hget (hpush (hpush h (.row e s false false 0 (T.ofList unk xs))) (.row e s true false 0 (T.ofList unk xs))) (h.next + 1)=.row e ((0 + 1) * s) true false 0 (T.ofList unk xs):=by
        rw [show h.next + 1=(hpush h (.row e s false false 0 (T.ofList unk xs))).next from rfl,get_push_eq _ _ (by rw [hnx]; omega),Nat.zero_add,Nat.one_mul]
      exact .row (n:=1) (op:=true) (fz:=0) (show h.next + 1 < h.next + 2 by omega) hq (by simp [hx]) (λ j hj=>by rw [getF_ofList,List.nil_append]) (by omega)
    · rw [get_push_ne _ _ (by rw [hnx]; omega) (by rw [hnx]; omega),get_push_ne _ _ (by omega) hid]
  | row hb hq hL hc hp =>
    rename_i b fz op cells
    have hqp:(hpush h (.row e s false false 0 (T.ofList unk xs))).objs.get b=.row e (n * s) op false 0 cells:=by
      rw [← hget_eq,get_push_ne _ _ (by omega) hb,hq]
    rw [hpush_eq] at hqp
    have g1:Nat.ble (n + 1) n=false:=ble_f (by omega)
    have hl1:∀ op:Bool,(2 * n + op.toNat) / 2=n:=λ op=>by cases op <;> simp [Bool.toNat] <;> omega
    cases op with
    | false =>
      have h2:Nat.beq ((2 * n + Bool.toNat false) % 2) 0=true:=beq_t (by simp [Bool.toNat])
      have h3:Nat.ble (0 + n * (s' + 1)) (n * s)=true:=ble_t (by rw [hss]; omega)
      have e0:heavyB E (hpush h (.row e s false false 0 (T.ofList unk xs))) .append [.slice (some ⟨b,0,none⟩) n (2 * n + Bool.toNat false),.slice (some ⟨h.next,0,none⟩) 1 2] [t,t] =
          some (.slice (some ⟨h.next + 1,0,none⟩) (n + 1) (2 * (n + 1) + 1),hpush (hpush h (.row e s false false 0 (T.ofList unk xs))) (.row e ((n + 1) * s) true false 0 (T.ofList unk (cellsF cells (n * s) 0 ++ xs)))):=by
        rw [hpush_eq]
        simp only [heavyB,hnum,appendV,T1.u,T1.inf,T1.zc,hs',hnews',b1,b2,hzb,Bool.and_self,cond_true,cond_false,hl1,g1,hroom,hqp,h2,h3,hnx',hpush_eq,cellsF_eq]
        simp only [hss]
      refine ⟨_,_,e0,?_,rfl,rfl,λ id hid _=>?_⟩
      · have hq2:hget (hpush (hpush h (.row e s false false 0 (T.ofList unk xs))) (.row e ((n + 1) * s) true false 0 (T.ofList unk (cellsF cells (n * s) 0 ++ xs)))) (h.next + 1)=.row e ((n + 1) * s) true false 0 (T.ofList unk (cellsF cells (n * s) 0 ++ xs)):=by
          rw [show h.next + 1=(hpush h (.row e s false false 0 (T.ofList unk xs))).next from rfl,get_push_eq _ _ (by rw [hnx]; omega)]
        refine .row (n:=n + 1) (op:=true) (fz:=0) (show h.next + 1 < h.next + 2 by omega) hq2 (by rw [List.length_append,hL,hx,Nat.succ_mul]) (λ j hj=>?_) (by omega)
        have hcl:cellsF cells (n * s) 0=L:=by
          rw [cellsF_eq,← hL]
          exact cells_ofList L cells 0 λ k hk=>by rw [Nat.zero_add,← getF_eq,hc k hk]
        rw [getF_ofList,hcl]
      · rw [get_push_ne _ _ (by rw [hnx]; omega) (by rw [hnx]; omega),get_push_ne _ _ (by omega) hid]
    | true =>
      have h2:Nat.beq ((2 * n + Bool.toNat true) % 2) 0=false:=beq_f (by simp [Bool.toNat])
      have h4:Nat.beq n n=true:=Nat.beq_refl n
      have h5:Nat.beq (n * (s' + 1)) (n * s)=true:=beq_t (by rw [hss])
      have h6:Nat.ble 0 (n * s)=true:=ble_t (Nat.zero_le _)
      have h7:Nat.beq e e=true:=Nat.beq_refl e
      have e0:heavyB E (hpush h (.row e s false false 0 (T.ofList unk xs))) .append [.slice (some ⟨b,0,none⟩) n (2 * n + Bool.toNat true),.slice (some ⟨h.next,0,none⟩) 1 2] [t,t] =
          some (.slice (some ⟨h.next + 1,0,none⟩) (n + 1) (2 * (n + 1) + 1),hpush (hset (hpush h (.row e s false false 0 (T.ofList unk xs))) b .dead) (.row e ((n + 1) * s) true false 0 (putCells cells (n * s) xs))):=by
        rw [hpush_eq]
        simp only [heavyB,hnum,appendV,T1.u,T1.inf,T1.zc,hs',hnews',b1,b2,hzb,Bool.and_self,cond_true,cond_false,hl1,g1,hroom,hqp,h2,h4,h5,h6,h7,Nat.beq_refl,hc1,Bool.not_false,hnx',hpush_eq,hset_eq]
        simp only [hss]
      have hnx2:(hset (hpush h (.row e s false false 0 (T.ofList unk xs))) b .dead).next=h.next + 1:=rfl
      refine ⟨_,_,e0,?_,rfl,rfl,λ id hid hne=>?_⟩
      · have hq2:hget (hpush (hset (hpush h (.row e s false false 0 (T.ofList unk xs))) b .dead) (.row e ((n + 1) * s) true false 0 (putCells cells (n * s) xs))) (h.next + 1)=.row e ((n + 1) * s) true false 0 (putCells cells (n * s) xs):=by
          rw [← hnx2,get_push_eq _ _ (by rw [hnx2]; omega)]
        refine .row (n:=n + 1) (op:=true) (fz:=0) (show h.next + 1 < h.next + 2 by omega) hq2 (by rw [List.length_append,hL,hx,Nat.succ_mul]) (λ j hj=>?_) (by omega)
        have hns:n * s + xs.length≤1000000000:=Nat.le_trans (Nat.add_le_add (Nat.mul_le_mul hn2 s1) (show xs.length≤100 by omega)) (by decide)
        rw [getF_eq,get_putCells _ _ _ hns]
        rw [List.length_append] at hj
        by_cases q:j < L.length
        · rw [if_neg (by omega),← getF_eq,hc j q,List.getD_eq_getElem?_getD,List.getD_eq_getElem?_getD,List.getElem?_append_left q]
        · rw [if_pos (by omega),List.getD_eq_getElem?_getD,List.getD_eq_getElem?_getD,List.getElem?_append_right (by omega),hL]
      · rw [get_push_ne _ _ (by rw [hnx2]; omega) (by rw [hnx2]; omega),get_set _ _ _ _ (by omega),if_neg (λ e=>hne (by rw [e]; rfl)),get_push_ne _ _ (by omega) hid]
end Go.Ev
namespace Go.Proofs
open Go.Shelf
def Tryz.lays156_ren:Go.Shelf.Ren:=⟨λ | 156=>28 | 165=>58 | 166=>59 | 169=>32 | 240=>66 | 241=>131 | 276=>148 | 277=>225 | n=>n,λ | 31=>33 | 9=>9 | 3=>3 | 4=>4 | 0=>0 | 20=>20 | 72=>62 | 76=>126 | 70=>59 | 37=>60 | 75=>64 | 127=>134 | 164=>214 | 5=>5 | 80=>66 | n=>n,λ | n=>n⟩
theorem Tryz.lays156:Go.Proofs.Lays.n156 Tryz.prog Tryz.lays156_ren:={
  mixed:=by kernel_rfl
  f156:=Tryz.func28.trans (congrArg some (by kernel_rfl))
  f165:=Tryz.func58.trans (congrArg some (by kernel_rfl))
  f166:=Tryz.func59.trans (congrArg some (by kernel_rfl))
  f169:=Tryz.func32.trans (congrArg some (by kernel_rfl))
  f240:=Tryz.func66.trans (congrArg some (by kernel_rfl))
  f241:=Tryz.func131.trans (congrArg some (by kernel_rfl))
  f276:=Tryz.func148.trans (congrArg some (by kernel_rfl))
  f277:=Tryz.func225.trans (congrArg some (by kernel_rfl))
  t0:=Tryz.underlying0
  a0:=Tryz.isAgg0
  z0:=Tryz.sizeOf0
  v0:=Tryz.zeroValue0
  t3:=Tryz.underlying3
  a3:=Tryz.isAgg3
  z3:=Tryz.sizeOf3
  v3:=Tryz.zeroValue3
  t4:=Tryz.underlying4
  a4:=Tryz.isAgg4
  z4:=Tryz.sizeOf4
  v4:=Tryz.zeroValue4
  t9:=Tryz.underlying9
  a9:=Tryz.isAgg9
  z9:=Tryz.sizeOf9
  v9:=Tryz.zeroValue9
  t20:=Tryz.underlying20
  a20:=Tryz.isAgg20
  z20:=Tryz.sizeOf20
  v20:=Tryz.zeroValue20
  t31:=Tryz.underlying33
  a31:=Tryz.isAgg33
  z31:=Tryz.sizeOf33
  v31:=Tryz.zeroValue33
  t37:=Tryz.underlying60
  a37:=Tryz.isAgg60
  z37:=Tryz.sizeOf60
  v37:=Tryz.zeroValue60
  t70:=Tryz.underlying59
  a70:=Tryz.isAgg59
  z70:=Tryz.sizeOf59
  v70:=Tryz.zeroValue59
  t72:=Tryz.underlying62
  a72:=Tryz.isAgg62
  z72:=Tryz.sizeOf62
  v72:=Tryz.zeroValue62
  t75:=Tryz.underlying64
  a75:=Tryz.isAgg64
  z75:=Tryz.sizeOf64
  v75:=Tryz.zeroValue64
  t76:=Tryz.underlying126
  a76:=Tryz.isAgg126
  z76:=Tryz.sizeOf126
  v76:=Tryz.zeroValue126
  t127:=Tryz.underlying134
  a127:=Tryz.isAgg134
  z127:=Tryz.sizeOf134
  v127:=Tryz.zeroValue134
  t164:=Tryz.underlying214
  a164:=Tryz.isAgg214
  z164:=Tryz.sizeOf214
  v164:=Tryz.zeroValue214 }
theorem Tryz.Builder_Extra_156:Builder.Extra Tryz.prog Tryz.lays156_ren:={
  sizeBuilder:=by kernel_rfl
  liesBuilder:=by kernel_rfl
  t5:=Tryz.underlying5
  a5:=Tryz.isAgg5
  z5:=Tryz.sizeOf5
  v5:=Tryz.zeroValue5
  infoByte:=by kernel_rfl
  cellsByte:=by kernel_rfl
  sizeByte:=by kernel_rfl
  neB5:=by decide }
open Go.RowKit in
theorem Tryz.strings_Join_none (a:Option Addr) (c:Nat) (sep:ByteArray) (w:World) :
    Calls Tryz.prog 28 #[.slice a 0 c,.string sep] w λ e w'=>e=.returned (.string ⟨#[]⟩)∧w'=w:=Any.strings_Join_none Tryz.lays156 Tryz.Builder_Extra_156 a c sep w
open Go.RowKit in
theorem Tryz.strings_Join (bk o c:Nat) (xs:List ByteArray) (sep:ByteArray) (w:World) (hcells:∀ (j:Nat) x,xs[j]?=some x→w.cell? ⟨bk,o + j,none⟩=some (.string x)) (hbk:bk < w.heap.size) (hN:xs.length≤140737488355328) (hcap:xs.length≤c) (hlen:(Lib.join (xs.map (·.data.toList)) sep.data.toList).length≤140737488355328) :
    Calls Tryz.prog 28 #[.slice (some ⟨bk,o,none⟩) xs.length c,.string sep] w λ e w'=>e=.returned (.string ⟨(Lib.join (xs.map (·.data.toList)) sep.data.toList).toArray⟩)∧Below w.heap.size w w':=Any.strings_Join Tryz.lays156 Tryz.Builder_Extra_156 bk o c xs sep w hcells hbk hN hcap hlen
def Tryz.lays283_ren:Go.Shelf.Ren:=⟨λ | 283=>123 | n=>n,λ | 3=>3 | 9=>9 | 4=>4 | n=>n,λ | n=>n⟩
theorem Tryz.lays283:Go.Proofs.Lays.n283 Tryz.prog Tryz.lays283_ren:={
  mixed:=by kernel_rfl
  f283:=Tryz.func123.trans (congrArg some (by kernel_rfl))
  t3:=Tryz.underlying3
  a3:=Tryz.isAgg3
  z3:=Tryz.sizeOf3
  v3:=Tryz.zeroValue3
  t4:=Tryz.underlying4
  a4:=Tryz.isAgg4
  z4:=Tryz.sizeOf4
  v4:=Tryz.zeroValue4
  t9:=Tryz.underlying9
  a9:=Tryz.isAgg9
  z9:=Tryz.sizeOf9
  v9:=Tryz.zeroValue9 }
open Go.Lib in
theorem Tryz.internal_strconv_small (i:Nat) (h:i < 100) (w:World) :
    Calls Tryz.prog 123 #[.int .i64 i] w λ e w'=>e=.returned (.string ⟨(Lib.decDigits i).toArray⟩)∧w'=w:=Any.internal_strconv_small Tryz.lays283 i h w
def Tryz.laysM284_ren:Go.Shelf.Ren:=⟨λ | 284=>124 | 129=>222 | 317=>221 | 318=>223 | n=>n,λ | 53=>25 | 3=>3 | 212=>286 | 0=>0 | 4=>4 | 46=>122 | 5=>5 | 9=>9 | n=>n,λ | 17=>0 | n=>n⟩
theorem Tryz.laysM284:Go.Proofs.LaysM.n284 Tryz.prog Tryz.laysM284_ren:={
  mixed:=by kernel_rfl
  f129:=Tryz.func222.trans (congrArg some (by kernel_rfl))
  f284:=Tryz.func124.trans (congrArg some (by kernel_rfl))
  f317:=Tryz.func221.trans (congrArg some (by kernel_rfl))
  f318:=Tryz.func223.trans (congrArg some (by kernel_rfl))
  t0:=Tryz.underlying0
  a0:=Tryz.isAgg0
  z0:=Tryz.sizeOf0
  v0:=Tryz.zeroValue0
  t3:=Tryz.underlying3
  a3:=Tryz.isAgg3
  z3:=Tryz.sizeOf3
  v3:=Tryz.zeroValue3
  t4:=Tryz.underlying4
  a4:=Tryz.isAgg4
  z4:=Tryz.sizeOf4
  v4:=Tryz.zeroValue4
  t5:=Tryz.underlying5
  a5:=Tryz.isAgg5
  z5:=Tryz.sizeOf5
  v5:=Tryz.zeroValue5
  t9:=Tryz.underlying9
  a9:=Tryz.isAgg9
  z9:=Tryz.sizeOf9
  v9:=Tryz.zeroValue9
  t46:=Tryz.underlying122
  a46:=Tryz.isAgg122
  z46:=Tryz.sizeOf122
  v46:=Tryz.zeroValue122
  t53:=Tryz.underlying25
  a53:=Tryz.isAgg25
  z53:=Tryz.sizeOf25
  v53:=Tryz.zeroValue25
  t212:=Tryz.underlying286
  a212:=Tryz.isAgg286
  z212:=Tryz.sizeOf286
  v212:=Tryz.zeroValue286
  g17:=by kernel_rfl
  i0:=by kernel_rfl
  i3:=by kernel_rfl
  i4:=by kernel_rfl
  i5:=by kernel_rfl
  i9:=by kernel_rfl
  i46:=by kernel_rfl
  i53:=by kernel_rfl
  i212:=by kernel_rfl
  m17:=by kernel_rfl }
open Go.Lib in
theorem Tryz.internal_strconv_numDigits (u : Nat) (h1 : 1 ≤ u) (h2 : u < 18446744073709551616) (w : World) (htab : Lib.TabIs Tryz.prog w "internal/strconv.uint64pow10" .u64 Lib.pow10Tab) :
    Calls Tryz.prog 124 #[.int .u64 u] w λ e w'=>e=.returned (.int .i64 (Lib.nDigits u))∧w'=w:=Any.internal_strconv_numDigits Tryz.laysM284 u h1 h2 w htab
def Tryz.lays285_ren:Go.Shelf.Ren:=⟨λ | 285=>125 | n=>n,λ | 37=>60 | 53=>25 | 3=>3 | 4=>4 | 51=>192 | 9=>9 | 5=>5 | 0=>0 | n=>n,λ | n=>n⟩
theorem Tryz.lays285:Go.Proofs.Lays.n285 Tryz.prog Tryz.lays285_ren:={
  mixed:=by kernel_rfl
  f285:=Tryz.func125.trans (congrArg some (by kernel_rfl))
  t0:=Tryz.underlying0
  a0:=Tryz.isAgg0
  z0:=Tryz.sizeOf0
  v0:=Tryz.zeroValue0
  t3:=Tryz.underlying3
  a3:=Tryz.isAgg3
  z3:=Tryz.sizeOf3
  v3:=Tryz.zeroValue3
  t4:=Tryz.underlying4
  a4:=Tryz.isAgg4
  z4:=Tryz.sizeOf4
  v4:=Tryz.zeroValue4
  t5:=Tryz.underlying5
  a5:=Tryz.isAgg5
  z5:=Tryz.sizeOf5
  v5:=Tryz.zeroValue5
  t9:=Tryz.underlying9
  a9:=Tryz.isAgg9
  z9:=Tryz.sizeOf9
  v9:=Tryz.zeroValue9
  t37:=Tryz.underlying60
  a37:=Tryz.isAgg60
  z37:=Tryz.sizeOf60
  v37:=Tryz.zeroValue60
  t51:=Tryz.underlying192
  a51:=Tryz.isAgg192
  z51:=Tryz.sizeOf192
  v51:=Tryz.zeroValue192
  t53:=Tryz.underlying25
  a53:=Tryz.isAgg25
  z53:=Tryz.sizeOf25
  v53:=Tryz.zeroValue25 }
open Go.RowKit Go.Sort Go.Lib in
theorem Tryz.internal_strconv_formatBase10 (blk off cap:Nat) (u:Nat) (d:Array UInt8) (w:World) (hH:Holds (λ (b:UInt8)=>Value.int .u8 (b.toNat:Int)) w blk off d) (hu:u < 10 ^ d.size) (hu64:u < 18446744073709551616) (hsz:d.size < 4611686018427387904) :
    Calls Tryz.prog 125 #[.slice (some ⟨blk,off,none⟩) d.size cap,.int .u64 u] w λ e w' =>
      e=.returned (.tuple #[])∧∃ (n v':Nat) (dk:Array UInt8),w'=(putRow (λ (b:UInt8)=>Value.int .u8 (b.toNat:Int)) w blk off dk).drewN n∧FmtInv d.size u 0 v' dk:=Any.internal_strconv_formatBase10 Tryz.lays285 blk off cap u d w hH hu hu64 hsz
def Tryz.laysM171_ren:Go.Shelf.Ren:=⟨λ | 171=>26 | 243=>55 | 246=>127 | 283=>123 | 284=>124 | 285=>125 | 286=>126 | 129=>222 | 317=>221 | 318=>223 | 319=>224 | 320=>169 | 337=>254 | 338=>255 | n=>n,λ | 3=>3 | 9=>9 | 2=>2 | 4=>4 | 171=>186 | 0=>0 | 53=>25 | 37=>60 | 5=>5 | 173=>189 | 212=>286 | 51=>192 | 20=>20 | 213=>287 | 46=>122 | 232=>384 | 233=>385 | n=>n,λ | 17=>0 | 18=>2 | 19=>3 | n=>n⟩
theorem Tryz.laysM171:Go.Proofs.LaysM.n171 Tryz.prog Tryz.laysM171_ren:={
  mixed:=by kernel_rfl
  f129:=Tryz.func222.trans (congrArg some (by kernel_rfl))
  f171:=Tryz.func26.trans (congrArg some (by kernel_rfl))
  f243:=Tryz.func55.trans (congrArg some (by kernel_rfl))
  f246:=Tryz.func127.trans (congrArg some (by kernel_rfl))
  f283:=Tryz.func123.trans (congrArg some (by kernel_rfl))
  f284:=Tryz.func124.trans (congrArg some (by kernel_rfl))
  f285:=Tryz.func125.trans (congrArg some (by kernel_rfl))
  f286:=Tryz.func126.trans (congrArg some (by kernel_rfl))
  f317:=Tryz.func221.trans (congrArg some (by kernel_rfl))
  f318:=Tryz.func223.trans (congrArg some (by kernel_rfl))
  f319:=Tryz.func224.trans (congrArg some (by kernel_rfl))
  f320:=Tryz.func169.trans (congrArg some (by kernel_rfl))
  f337:=Tryz.func254.trans (congrArg some (by kernel_rfl))
  f338:=Tryz.func255.trans (congrArg some (by kernel_rfl))
  t0:=Tryz.underlying0
  a0:=Tryz.isAgg0
  z0:=Tryz.sizeOf0
  v0:=Tryz.zeroValue0
  t2:=Tryz.underlying2
  a2:=Tryz.isAgg2
  z2:=Tryz.sizeOf2
  v2:=Tryz.zeroValue2
  t3:=Tryz.underlying3
  a3:=Tryz.isAgg3
  z3:=Tryz.sizeOf3
  v3:=Tryz.zeroValue3
  t4:=Tryz.underlying4
  a4:=Tryz.isAgg4
  z4:=Tryz.sizeOf4
  v4:=Tryz.zeroValue4
  t5:=Tryz.underlying5
  a5:=Tryz.isAgg5
  z5:=Tryz.sizeOf5
  v5:=Tryz.zeroValue5
  t9:=Tryz.underlying9
  a9:=Tryz.isAgg9
  z9:=Tryz.sizeOf9
  v9:=Tryz.zeroValue9
  t20:=Tryz.underlying20
  a20:=Tryz.isAgg20
  z20:=Tryz.sizeOf20
  v20:=Tryz.zeroValue20
  t37:=Tryz.underlying60
  a37:=Tryz.isAgg60
  z37:=Tryz.sizeOf60
  v37:=Tryz.zeroValue60
  t46:=Tryz.underlying122
  a46:=Tryz.isAgg122
  z46:=Tryz.sizeOf122
  v46:=Tryz.zeroValue122
  t51:=Tryz.underlying192
  a51:=Tryz.isAgg192
  z51:=Tryz.sizeOf192
  v51:=Tryz.zeroValue192
  t53:=Tryz.underlying25
  a53:=Tryz.isAgg25
  z53:=Tryz.sizeOf25
  v53:=Tryz.zeroValue25
  t171:=Tryz.underlying186
  a171:=Tryz.isAgg186
  z171:=Tryz.sizeOf186
  v171:=Tryz.zeroValue186
  t173:=Tryz.underlying189
  a173:=Tryz.isAgg189
  z173:=Tryz.sizeOf189
  v173:=Tryz.zeroValue189
  t212:=Tryz.underlying286
  a212:=Tryz.isAgg286
  z212:=Tryz.sizeOf286
  v212:=Tryz.zeroValue286
  t213:=Tryz.underlying287
  a213:=Tryz.isAgg287
  z213:=Tryz.sizeOf287
  t232:=Tryz.underlying384
  a232:=Tryz.isAgg384
  z232:=Tryz.sizeOf384
  v232:=Tryz.zeroValue384
  t233:=Tryz.underlying385
  a233:=Tryz.isAgg385
  z233:=Tryz.sizeOf385
  v233:=Tryz.zeroValue385
  g17:=by kernel_rfl
  g18:=by kernel_rfl
  g19:=by kernel_rfl
  i0:=by kernel_rfl
  i2:=by kernel_rfl
  i3:=by kernel_rfl
  i4:=by kernel_rfl
  i5:=by kernel_rfl
  i9:=by kernel_rfl
  i20:=by kernel_rfl
  i37:=by kernel_rfl
  i46:=by kernel_rfl
  i51:=by kernel_rfl
  i53:=by kernel_rfl
  i171:=by kernel_rfl
  i173:=by kernel_rfl
  i212:=by kernel_rfl
  i232:=by kernel_rfl
  i233:=by kernel_rfl
  m17:=by kernel_rfl
  m18:=by kernel_rfl
  m19:=by kernel_rfl }
open Go.RowKit Go.Sort Go.Lib in
theorem Tryz.strconv_Itoa (n : Int) (h0 : -9223372036854775808 ≤ n) (h1 : n ≤ 9223372036854775807) (w : World) (htab : Lib.TabIs Tryz.prog w "internal/strconv.uint64pow10" .u64 Lib.pow10Tab) :
    Calls Tryz.prog 26 #[.int .i64 n] w λ e w'=>e=.returned (.string ⟨(Lib.itoa n).toArray⟩)∧∃ k os,w'=grow (w.drewN k) os:=Any.strconv_Itoa Tryz.laysM171 n h0 h1 w htab
def Tryz.lays105_ren:Go.Shelf.Ren:=⟨λ | 105=>27 | 212=>56 | 99=>57 | 165=>58 | 166=>59 | 170=>60 | 169=>32 | 263=>128 | 264=>129 | 206=>130 | 240=>66 | 241=>131 | 276=>148 | 277=>225 | n=>n,λ | 9=>9 | 3=>3 | 4=>4 | 20=>20 | 0=>0 | 46=>122 | 109=>123 | 5=>5 | 72=>62 | 76=>126 | 51=>192 | 146=>193 | 53=>25 | 148=>195 | 70=>59 | 37=>60 | 75=>64 | 127=>134 | 164=>214 | 80=>66 | n=>n,λ | n=>n⟩
theorem Tryz.lays105:Go.Proofs.Lays.n105 Tryz.prog Tryz.lays105_ren:={
  mixed:=by kernel_rfl
  f99:=Tryz.func57.trans (congrArg some (by kernel_rfl))
  f105:=Tryz.func27.trans (congrArg some (by kernel_rfl))
  f165:=Tryz.func58.trans (congrArg some (by kernel_rfl))
  f166:=Tryz.func59.trans (congrArg some (by kernel_rfl))
  f169:=Tryz.func32.trans (congrArg some (by kernel_rfl))
  f170:=Tryz.func60.trans (congrArg some (by kernel_rfl))
  f206:=Tryz.func130.trans (congrArg some (by kernel_rfl))
  f212:=Tryz.func56.trans (congrArg some (by kernel_rfl))
  f240:=Tryz.func66.trans (congrArg some (by kernel_rfl))
  f241:=Tryz.func131.trans (congrArg some (by kernel_rfl))
  f263:=Tryz.func128.trans (congrArg some (by kernel_rfl))
  f264:=Tryz.func129.trans (congrArg some (by kernel_rfl))
  f276:=Tryz.func148.trans (congrArg some (by kernel_rfl))
  f277:=Tryz.func225.trans (congrArg some (by kernel_rfl))
  t0:=Tryz.underlying0
  a0:=Tryz.isAgg0
  z0:=Tryz.sizeOf0
  v0:=Tryz.zeroValue0
  t3:=Tryz.underlying3
  a3:=Tryz.isAgg3
  z3:=Tryz.sizeOf3
  v3:=Tryz.zeroValue3
  t4:=Tryz.underlying4
  a4:=Tryz.isAgg4
  z4:=Tryz.sizeOf4
  v4:=Tryz.zeroValue4
  t5:=Tryz.underlying5
  a5:=Tryz.isAgg5
  z5:=Tryz.sizeOf5
  v5:=Tryz.zeroValue5
  t9:=Tryz.underlying9
  a9:=Tryz.isAgg9
  z9:=Tryz.sizeOf9
  v9:=Tryz.zeroValue9
  t20:=Tryz.underlying20
  a20:=Tryz.isAgg20
  z20:=Tryz.sizeOf20
  v20:=Tryz.zeroValue20
  t37:=Tryz.underlying60
  a37:=Tryz.isAgg60
  z37:=Tryz.sizeOf60
  v37:=Tryz.zeroValue60
  t46:=Tryz.underlying122
  a46:=Tryz.isAgg122
  z46:=Tryz.sizeOf122
  v46:=Tryz.zeroValue122
  t51:=Tryz.underlying192
  a51:=Tryz.isAgg192
  z51:=Tryz.sizeOf192
  v51:=Tryz.zeroValue192
  t53:=Tryz.underlying25
  a53:=Tryz.isAgg25
  z53:=Tryz.sizeOf25
  v53:=Tryz.zeroValue25
  t70:=Tryz.underlying59
  a70:=Tryz.isAgg59
  z70:=Tryz.sizeOf59
  v70:=Tryz.zeroValue59
  t72:=Tryz.underlying62
  a72:=Tryz.isAgg62
  z72:=Tryz.sizeOf62
  v72:=Tryz.zeroValue62
  t75:=Tryz.underlying64
  a75:=Tryz.isAgg64
  z75:=Tryz.sizeOf64
  v75:=Tryz.zeroValue64
  t76:=Tryz.underlying126
  a76:=Tryz.isAgg126
  z76:=Tryz.sizeOf126
  v76:=Tryz.zeroValue126
  t109:=Tryz.underlying123
  a109:=Tryz.isAgg123
  z109:=Tryz.sizeOf123
  v109:=Tryz.zeroValue123
  t127:=Tryz.underlying134
  a127:=Tryz.isAgg134
  z127:=Tryz.sizeOf134
  v127:=Tryz.zeroValue134
  t146:=Tryz.underlying193
  a146:=Tryz.isAgg193
  z146:=Tryz.sizeOf193
  v146:=Tryz.zeroValue193
  t148:=Tryz.underlying195
  a148:=Tryz.isAgg195
  z148:=Tryz.sizeOf195
  v148:=Tryz.zeroValue195
  t164:=Tryz.underlying214
  a164:=Tryz.isAgg214
  z164:=Tryz.sizeOf214
  v164:=Tryz.zeroValue214 }
theorem Tryz.Builder_Extra_105:Builder.Extra Tryz.prog Tryz.lays105_ren:={
  sizeBuilder:=by kernel_rfl
  liesBuilder:=by kernel_rfl
  t5:=Tryz.underlying5
  a5:=Tryz.isAgg5
  z5:=Tryz.sizeOf5
  v5:=Tryz.zeroValue5
  infoByte:=by kernel_rfl
  cellsByte:=by kernel_rfl
  sizeByte:=by kernel_rfl
  neB5:=by decide }
open Go.RowKit Go.Lib in
theorem Tryz.strings_Repeat (s:ByteArray) (c:Nat) (w:World) (hc:c≤9223372036854775807) (hlen:s.size * c≤140737488355328) :
    Calls Tryz.prog 27 #[.string s,.int .i64 c] w λ e w'=>e=.returned (.string ⟨(Lib.repeatL s.data.toList c).toArray⟩)∧Below w.heap.size w w':=Any.strings_Repeat Tryz.lays105 Tryz.Builder_Extra_105 s c w hc hlen
end Go.Proofs
namespace Go.Proofs
open Go.Shelf Go.RowKit Go.Sort Go.Lib
set_option linter.unusedVariables false
theorem holds0 (w:World) (T:TypeId) (nd:Nat) (hs:nd≤24):Holds (λ (b:UInt8)=>Value.int .u8 (b.toNat:Int)) (w.alloc (.cells zeros24 T)) w.heap.size 0 (Array.replicate nd (0:UInt8)):=λ j hj=>by
  have hj':j < nd:=by simpa using hj
  refine ⟨?_,World.frozen?_alloc_new _ _ _ _⟩
  rw [World.cell?_alloc_new,zeros24_at _ (by omega),getElem!_pos _ j hj]
  simp
theorem fin0 (w:World) (o:Obj) (dk:Array UInt8) (k:Nat):∃ os,(putRow (λ (b:UInt8)=>Value.int .u8 (b.toNat:Int)) (w.alloc o) w.heap.size 0 dk).drewN k=grow (w.drewN k) os:=by
  rw [alloc_eq_grow]
  obtain ⟨os',_,e⟩:=putRow_grow_new (λ (b:UInt8)=>Value.int .u8 (b.toNat:Int)) w #[o] w.heap.size 0 dk (Nat.le_refl _)
  exact ⟨os',by rw [e]; rfl⟩
set_option maxRecDepth 100000 in
theorem fu54 (u : Nat) (hu64 : u < 18446744073709551616) (w : World) (htab : Lib.TabIs Tryz.prog w "internal/strconv.uint64pow10" .u64 Lib.pow10Tab) :
    Calls Tryz.prog 54 #[.int .u64 u,.int .i64 10] w λ e w'=>e=.returned (.string ⟨(Lib.decDigits u).toArray⟩)∧∃ k os,w'=grow (w.drewN k) os:=by
  have e123:∀ args w,(callFunc 123 args).run Tryz.prog w=.ok (.enter 123 args) w:=enters_of Tryz.func123 (by kernel_rfl) rfl
  have e124:∀ args w,(callFunc 124 args).run Tryz.prog w=.ok (.enter 124 args) w:=enters_of Tryz.func124 (by kernel_rfl) rfl
  have e125:∀ args w,(callFunc 125 args).run Tryz.prog w=.ok (.enter 125 args) w:=enters_of Tryz.func125 (by kernel_rfl) rfl
  by_cases hs:u < 100
  · go_enter Tryz.func54,Tryz.ntmps54
    go_wp2_with (go_at_fn 123; refine (Tryz.internal_strconv_small u hs _).mono ?_; rintro e w' ⟨rfl,rfl⟩)
    go_ret
    exact ⟨rfl,0,#[],by simp [World.drewN_zero]⟩
  · have hu1:1≤u:=by omega
    have hnd20:Lib.nDigits u≤20:=by have:=Lib.numDigits_eq u hu1 hu64; split at this <;> omega
    have hb3:Lib.nDigits u≤24:=by omega
    have hal:Tryz.prog.arrayLen 186=24:=by simp [Program.arrayLen,Tryz.underlying186]
    have hsl1:∀ W,(Instr.sliceAt 186 (.pointer (some ⟨w.heap.size,0,none⟩)) none (some (.int .i64 (Lib.nDigits u:Int))) none).run Tryz.prog W=.ok (.slice (some ⟨w.heap.size,0,none⟩) (Lib.nDigits u) 24) W:=λ W=>by
      rw [run_sliceAt_array_h W 186 ⟨w.heap.size,0,none⟩ (by simp [Program.arrayLen,Program.elem,Tryz.underlying186]) .i64 (Lib.nDigits u:Int) (by omega) (by rw [hal]; omega)]
      go_simp
    have hH0:=holds0 w 186 (Lib.nDigits u) (by omega)
    have hfmt:=Tryz.internal_strconv_formatBase10 w.heap.size 0 24 u (Array.replicate (Lib.nDigits u) 0) (w.alloc (.cells Lib.zeros24 186)) hH0 (by rw [Array.size_replicate]; exact Lib.lt_pow_nDigits u) hu64 (by rw [Array.size_replicate]; omega)
    rw [Array.size_replicate] at hfmt
    have HH0:=Lib.hid hH0
    clear hH0 hal
    go_enter Tryz.func54,Tryz.ntmps54
    go_wp2_with (first
      | (go_at_fn 124; refine (Tryz.internal_strconv_numDigits u hu1 hu64 _ (Lib.tabIs_alloc htab _)).mono ?_; rintro e w' ⟨rfl,rfl⟩))
    go_at_fn 125
    refine hfmt.mono ?_
    rintro e w' ⟨rfl,k,v',dk,rfl,hF⟩
    have hcv:(convert 60 9 (.slice (some ⟨w.heap.size,0,none⟩) (Lib.nDigits u) 24)).run Tryz.prog ((putRow (λ (b:UInt8)=>Value.int .u8 (b.toNat:Int)) (w.alloc (.cells Lib.zeros24 186)) w.heap.size 0 dk).drewN k)=.ok (.string ⟨(Lib.decDigits u).toArray⟩) ((putRow (λ (b:UInt8)=>Value.int .u8 (b.toNat:Int)) (w.alloc (.cells Lib.zeros24 186)) w.heap.size 0 dk).drewN k):=by
      have h:=run_convert_bytes_back (P:=Tryz.prog) ((putRow (λ (b:UInt8)=>Value.int .u8 (b.toNat:Int)) (w.alloc (.cells Lib.zeros24 186)) w.heap.size 0 dk).drewN k) 60 9 5 ⟨w.heap.size,0,none⟩ 24 (Lib.decDigits u) Tryz.underlying60 Tryz.underlying5 Tryz.underlying9 (λ j hj=>by
        rw [Lib.row_is_numeral hF j hj,Lib.add_plain,World.cell?_drewN]
        exact cell?_putRow (λ (b:UInt8)=>Value.int .u8 (b.toNat:Int)) _ w.heap.size 0 _ dk HH0.out (by rw [hF.size,Array.size_replicate]) j (by rw [hF.size]; rw [Lib.decDigits_length] at hj; exact hj))
      rw [Lib.decDigits_length] at h
      exact h
    go_wp2
    go_ret
    obtain ⟨os,eo⟩:=fin0 w (.cells Lib.zeros24 186) dk k
    exact ⟨rfl,k,os,eo⟩
set_option maxRecDepth 100000 in
theorem fu25 (u : Nat) (hu64 : u < 18446744073709551616) (w : World) (htab : Lib.TabIs Tryz.prog w "internal/strconv.uint64pow10" .u64 Lib.pow10Tab) :
    Calls Tryz.prog 25 #[.int .u64 u,.int .i64 10] w λ e w'=>e=.returned (.string ⟨(Lib.decDigits u).toArray⟩)∧∃ k os,w'=grow (w.drewN k) os:=by
  have e54:∀ args w,(callFunc 54 args).run Tryz.prog w=.ok (.enter 54 args) w:=enters_of Tryz.func54 (by kernel_rfl) rfl
  go_enter Tryz.func25,Tryz.ntmps25
  go_wp2_with (go_at_fn 54; refine (fu54 u hu64 _ htab).mono ?_; rintro e w' ⟨rfl,k,os,rfl⟩)
  go_ret
  exact ⟨rfl,k,os,rfl⟩
end Go.Proofs
namespace Go.Ev
open Go F Go.Proofs Go.RowKit
set_option linter.unusedVariables false
set_option maxRecDepth 100000
theorem Step.below {P:Program} {ρ:Ren} {h:H} {w w':World} (hr:Rel P ρ h w) (b:Below w.heap.size w w'):Step P ρ h w ρ h w' where
  ext:=ρ.le_refl
  old:=λ _ _ e _=>e
  next:=Nat.le_refl _
  keep:=λ _ _ _=>rfl
  rel:=⟨hr.dom,hr.inj,λ id p e=>ORel.same (hr.obj id p e) λ hl=>b.block _ (hr.inside id p e hl),hr.small,hr.fresh,hr.glob,λ id p e hl=>Nat.lt_of_lt_of_le (hr.inside id p e hl) b.size⟩
  same:=λ k hk _=>b.block k hk
  own:=λ _ e _=>e
  size:=b.size
  tape:=b.tape
  os:=b.os
  output:=b.output
theorem CallOK.of_calls {P : Program} {ρ : Ren} {h : H} {w : World} {f : FuncId} {args' : List Value} {v v' : Value} {fn : Func} (hr : Rel P ρ h w) (h1 : P.funcs[f]? = some fn) (h2 : fn.body.isNone = false) (h3 : (fn.name == "runtime.NumGoroutine") = false)
    (hv:VR ρ v v') (c:Calls P f ⟨args'⟩ w λ e w'=>e=.returned v'∧Below w.heap.size w w'):CallOK P ρ h w f args' v h :=
  .inr ⟨fn,h1,h2,h3,c.mono λ e w' hq=>⟨ρ,v',hq.1,hv,Step.below hr hq.2⟩⟩
theorem below_grow (w:World) (k:Nat) (os:Array Obj):Below w.heap.size w (Sort.grow (w.drewN k) os):=by
  have h1:∀ k,Below w.heap.size w (w.drewN k):=by
    intro k
    induction k with
    | zero=>rw [World.drewN_zero]; exact Below.refl _ _
    | succ k ih=>exact ih.trans ⟨rfl,rfl,rfl,Nat.le_refl _,λ _ _=>rfl⟩
  refine (h1 k).trans ⟨rfl,rfl,rfl,by simp,λ i hi=>?_⟩
  have:i < (w.drewN k).heap.size:=Nat.lt_of_lt_of_le hi (h1 k).size
  show ((w.drewN k).heap ++ os)[i]?=_
  rw [Array.getElem?_append,if_pos this]
def pureX (gl:List AO) (q:List Value→Option Value) (args:List Value) (h:H):Option (Value × H) :=
  match q args with
  | some v=>bif sameG gl 0 h then some (v,h) else none
  | none=>none
theorem tab_of {ρ : Ren} {h : H} {w : World} (hr : Rel Tryz.prog ρ h w) (hs : sameG glob 0 h = true) : Lib.TabIs Tryz.prog w "internal/strconv.uint64pow10" .u64 Lib.pow10Tab := by
  have hr':=rel_G glob_ok hr hs
  have ho:=hr'.obj 0 (0,0) rfl
  have e0:(hzG glob).objs.get 0=.row 286 20 false true 0 (T.ofList undef (u64L l20)):=by rw [get_hzG]; rfl
  rw [e0] at ho
  obtain ⟨cs,fr,h1,h2,h3,h4,h5,h6⟩:=ho
  have hg : Tryz.prog.globalNamed "internal/strconv.uint64pow10" = some 0 := by kernel_rfl
  unfold Lib.TabIs World.var?
  rw [hg]
  simp only [Option.bind_some]
  have h1:w.heap[0]?=some (.cells cs 286 fr):=h1
  rw [h1]
  simp only [Option.some.injEq]
  have hz:=(h3 rfl).1
  apply Array.ext_getElem?
  intro i
  refine Eq.trans ?_ (show (Lib.pow10Tab.map λ z=>Value.int .u64 z)[i]?=(Lib.pow10Tab.map λ z=>Value.int .u64 z).toArray[i]? from (List.getElem?_toArray ..).symm)
  rw [List.getElem?_map]
  by_cases q:i < 20
  · obtain ⟨v',a,b⟩:=h5 i q
    have:(T.ofList undef (u64L l20)).get i=.int .u64 ((Lib.pow10Tab.getD i 0:Int))∧Lib.pow10Tab[i]?=some (Lib.pow10Tab.getD i 0):=by
      have hall:∀ i,i < 20→(T.ofList undef (u64L l20)).get i=.int .u64 ((Lib.pow10Tab.getD i 0:Int)):=by
        intro i hi
        rw [Lib.pow10Tab_at i hi]
        exact (sameInt_eq (allN_all (p:=λ i=>sameInt ((T.ofList undef (u64L l20)).get i) (.int .u64 ((10 ^ i:Nat):Int))) (show allN 20 _=true by kernel_rfl) i hi)).1
      exact ⟨hall i q,by rw [List.getD_eq_getElem?_getD,List.getElem?_eq_getElem (by rw [Lib.pow10Tab_length]; exact q)]; rfl⟩
    rw [this.1] at b
    rw [this.2,a]
    rcases b with b | b
    · exact nomatch b
    · simp only [den1,den0,Option.some.injEq] at b
      rw [← b]; rfl
  · rw [Array.getElem?_eq_none (by omega),List.getElem?_eq_none (by rw [Lib.pow10Tab_length]; omega)]
    rfl
theorem ground_same {ρ:Ren}:∀ {l l':List Value},(∀ v ∈ l,(∃ k n,v=.int k n) ∨ ∃ s,v=.string s)→All2 (VR ρ) l l'→l'=l
  | [],[],_,_=>rfl
  | v :: l,u :: l',hg,⟨h1,h2⟩=>by
    rw [ground_same (λ v hv=>hg v (List.mem_cons_of_mem _ hv)) h2]
    rcases hg v (List.mem_cons_self ..) with ⟨k,n,rfl⟩ | ⟨s,rfl⟩
    · rw [h1.int]
    · rw [h1.string]
  | [],_ :: _,_,h=>h.elim
  | _ :: _,[],_,h=>h.elim
theorem pureX_ok {f : FuncId} {fn : Func} {q : List Value → Option Value} (h1 : Tryz.prog.funcs[f]? = some fn) (h2 : fn.body.isNone = false) (h3 : (fn.name == "runtime.NumGoroutine") = false)
    (hg : ∀ args v, q args = some v → (∀ v ∈ args, (∃ k n, v = .int k n) ∨ ∃ s, v = .string s) ∧ (∀ ρ, VR ρ v v) ∧ ∀ w, Lib.TabIs Tryz.prog w "internal/strconv.uint64pow10" .u64 Lib.pow10Tab → Calls Tryz.prog f ⟨args⟩ w fun e w' => e = .returned v ∧ Below w.heap.size w w') :
    ExtOK Tryz.prog f (pureX glob q):=by
  intro ρ h w args args' v h' hr ha he
  unfold pureX at he
  split at he
  · rename_i v0 hq
    cases hs:sameG glob 0 h with
    | false=>rw [hs] at he; exact nomatch he
    | true =>
      rw [hs] at he
      cases he
      obtain ⟨g1,g2,g3⟩:=hg args v hq
      have:=ground_same g1 ha
      subst this
      exact CallOK.of_calls hr h1 h2 h3 (g2 ρ) (g3 w (tab_of hr hs))
  · exact nomatch he
theorem VR.str (ρ:Ren) (s:ByteArray):VR ρ (.string s) (.string s):=.of1 rfl
def fmtQ:List Value→Option Value
  | [.int .u64 (.ofNat n),.int .i64 (.ofNat 10)]=>bif Nat.blt n 18446744073709551616 then some (.string ⟨(Lib.decDigits n).toArray⟩) else none
  | _=>none
def itoaQ:List Value→Option Value
  | [.int .i64 n]=>bif decide (-9223372036854775808≤n) && decide (n≤9223372036854775807) then some (.string ⟨(Lib.itoa n).toArray⟩) else none
  | _=>none
def repQ:List Value→Option Value
  | [.string s,.int .i64 (.ofNat n)]=>bif Nat.ble n 1000000 && Nat.ble s.size 1000000 then some (.string ⟨(Lib.repeatL s.data.toList n).toArray⟩) else none
  | _=>none
theorem ext25:ExtOK Tryz.prog 25 (pureX glob fmtQ):=by
  refine pureX_ok Tryz.func25 (by kernel_rfl) (by kernel_rfl) λ args v hq=>?_
  unfold fmtQ at hq
  split at hq
  · rename_i n
    cases hb:Nat.blt n 18446744073709551616 with
    | false=>rw [hb] at hq; exact nomatch hq
    | true =>
      rw [hb] at hq
      cases hq
      refine ⟨λ v hv=>?_,λ ρ=>VR.str _ _,λ w ht=>?_⟩
      · simp at hv
        rcases hv with rfl | rfl
        · exact .inl ⟨_,_,rfl⟩
        · exact .inl ⟨_,_,rfl⟩
      · have hn:n < 18446744073709551616:=Nat.le_of_ble_eq_true hb
        refine (fu25 n hn w ht).mono ?_
        rintro e w' ⟨rfl,k,os,rfl⟩
        exact ⟨rfl,below_grow _ _ _⟩
  · exact nomatch hq
theorem ext26:ExtOK Tryz.prog 26 (pureX glob itoaQ):=by
  refine pureX_ok Tryz.func26 (by kernel_rfl) (by kernel_rfl) λ args v hq=>?_
  unfold itoaQ at hq
  split at hq
  · rename_i n
    cases hb:(decide (-9223372036854775808≤n) && decide (n≤9223372036854775807)) with
    | false=>rw [hb] at hq; exact nomatch hq
    | true =>
      rw [hb] at hq
      cases hq
      rw [Bool.and_eq_true,decide_eq_true_eq,decide_eq_true_eq] at hb
      refine ⟨λ v hv=>?_,λ ρ=>VR.str _ _,λ w ht=>?_⟩
      · simp at hv
        exact .inl ⟨_,_,hv⟩
      · refine (Tryz.strconv_Itoa n hb.1 hb.2 w ht).mono ?_
        rintro e w' ⟨rfl,k,os,rfl⟩
        exact ⟨rfl,below_grow _ _ _⟩
  · exact nomatch hq
theorem ext27:ExtOK Tryz.prog 27 (pureX glob repQ):=by
  refine pureX_ok Tryz.func27 (by kernel_rfl) (by kernel_rfl) λ args v hq=>?_
  unfold repQ at hq
  split at hq
  · rename_i s n
    cases hb:(Nat.ble n 1000000 && Nat.ble s.size 1000000) with
    | false=>rw [hb] at hq; exact nomatch hq
    | true =>
      rw [hb] at hq
      cases hq
      rw [Bool.and_eq_true] at hb
      have b1:=Nat.le_of_ble_eq_true hb.1
      have b2:=Nat.le_of_ble_eq_true hb.2
      refine ⟨λ v hv=>?_,λ ρ=>VR.str _ _,λ w ht=>?_⟩
      · simp at hv
        rcases hv with rfl | rfl
        · exact .inr ⟨_,rfl⟩
        · exact .inl ⟨_,_,rfl⟩
      · exact Tryz.strings_Repeat s n w (by omega) (Nat.le_trans (Nat.mul_le_mul b2 b1) (by decide))
  · exact nomatch hq
def strsC:List Value→Option (List ByteArray)
  | []=>some []
  | v :: l=>match v,strsC l with
    | .string s,some r=>some (s :: r)
    | _,_=>none
def sumL:List ByteArray→Nat
  | []=>0
  | s :: l=>s.size + 1 + sumL l
theorem strsC_get:∀ (l:List Value) (xs:List ByteArray),strsC l=some xs→l=xs.map Value.string
  | [],xs,e=>by cases e; rfl
  | v :: l,xs,e=>by
    unfold strsC at e
    split at e
    · rename_i s r hr
      cases e
      rw [List.map_cons,strsC_get l r hr]
    · exact nomatch e
theorem strsC_of:∀ xs:List ByteArray,strsC (xs.map Value.string)=some xs
  | []=>rfl
  | s :: l=>by rw [List.map_cons]; unfold strsC; rw [strsC_of l]
def joinQ (args:List Value) (h:H):Option (Value × H) :=
  match args with
  | [.slice (some ⟨b,o,none⟩) n c,.string sep]=>(match h.objs.get b with
    | .row _ m _ _ _ cs=>bif Nat.ble (o + n) m && Nat.ble n (c / 2) && Nat.ble n 1000 && Nat.ble sep.size 1000 && Nat.blt 0 n then
      (match strsC (cellsFrom cs o n) with
      | some xs=>bif Nat.ble (sumL xs) 100000000 then some (.string ⟨(Lib.join (xs.map (·.data.toList)) sep.data.toList).toArray⟩,h) else none
      | none=>none) else none
    | _=>none)
  | _=>none
theorem cellsFrom_len (c:T Value):∀ (n o:Nat),(cellsFrom c o n).length=n
  | 0,_=>rfl
  | n + 1,o=>by show (cellsFrom c (o + 1) n).length + 1=n + 1; rw [cellsFrom_len c n]
theorem lens_sum:∀ xs:List ByteArray,Lib.lens (xs.map (·.data.toList)) + xs.length=sumL xs
  | []=>rfl
  | s :: l=>by
    have:=lens_sum l
    unfold sumL
    unfold Lib.lens at this ⊢
    simp only [List.map_cons,List.sum_cons,List.length_cons]
    have hs:s.data.toList.length=s.size:=rfl
    omega
theorem ext28:ExtOK Tryz.prog 28 joinQ:=by
  intro ρ h w args args' v h' hr ha he
  unfold joinQ at he
  split at he
  · rename_i b o n c sep
    split at he
    · rename_i e m op ro fz cs hrow
      cases hb:(Nat.ble (o + n) m && Nat.ble n (c / 2) && Nat.ble n 1000 && Nat.ble sep.size 1000 && Nat.blt 0 n) with
      | false=>rw [hb] at he; exact nomatch he
      | true =>
        rw [hb] at he
        simp only [Bool.and_eq_true] at hb
        obtain ⟨⟨⟨⟨b1,b2⟩,b3⟩,b4⟩,b5⟩:=hb
        have b1:=Nat.le_of_ble_eq_true b1
        have b2:=Nat.le_of_ble_eq_true b2
        have b3:=Nat.le_of_ble_eq_true b3
        have b4:=Nat.le_of_ble_eq_true b4
        have b5:0 < n:=Nat.le_of_ble_eq_true b5
        rw [cond_true] at he
        split at he
        · rename_i xs hxs
          cases hc:Nat.ble (sumL xs) 100000000 with
          | false=>rw [hc] at he; exact nomatch he
          | true =>
            rw [hc] at he
            cases he
            have hc:=Nat.le_of_ble_eq_true hc
            obtain ⟨u,u2,rfl,hu,hu2⟩:=all2_two ha
            have:=hu2.string
            subst this
            obtain ⟨p,hp,_,rfl⟩:=hu.slice
            have hcell:=strsC_get _ _ hxs
            have hlen:xs.length=n:=by
              have:=congrArg List.length hcell
              rw [cellsFrom_len,List.length_map] at this
              exact this.symm
            have ho:=hr.obj b p hp
            rw [hrow] at ho
            obtain ⟨cs',fr,k1,k2,k3,k4,k5,k6⟩:=ho
            have hpl:p.1 < w.heap.size:=hr.inside b p hp (by rw [hrow]; rfl)
            refine CallOK.of_calls hr Tryz.func28 (by kernel_rfl) (by kernel_rfl) (VR.str _ _) ?_
            have key:=Tryz.strings_Join p.1 o (if c % 2=0 then c / 2 else c / 2 + p.2) xs sep w (λ j x hj=>?_) hpl (by omega) (by split <;> omega) ?_
            · rw [hlen] at key
              exact key
            · have hjn:j < n:=by rw [← hlen]; exact (List.getElem?_eq_some_iff.1 hj).1
              have h1:(cellsFrom cs o n)[j]?=some (.string x):=by rw [hcell,List.getElem?_map,hj]; rfl
              rw [List.getElem?_eq_getElem (by rw [cellsFrom_len]; exact hjn),cellsFrom_get] at h1
              obtain ⟨v',q1,q2⟩:=k5 (o + j) (by omega)
              rw [Option.some.inj h1] at q2
              have q2:v'=.string x:=by
                rcases q2 with q | q
                · exact nomatch q
                · simp only [den1,den0,Option.some.injEq] at q; exact q.symm
              subst q2
              unfold World.cell?
              simp only [k1,Option.isSome_none,Bool.false_eq_true,if_false]
              exact q1
            · have hls:=lens_sum xs
              obtain ⟨x,r,rfl⟩:∃ x r,xs=x :: r:=by
                cases xs with
                | nil=>simp at hlen; omega
                | cons x r=>exact ⟨x,r,rfl⟩
              rw [List.map_cons,Lib.join_length,List.length_map]
              rw [List.map_cons] at hls
              have h3:sep.data.toList.length=sep.size:=rfl
              rw [h3]
              have:sep.size * r.length≤1000 * 1000:=Nat.mul_le_mul b4 (by simp at hlen; omega)
              omega
        · exact nomatch he
    · exact nomatch he
  · exact nomatch he
end Go.Ev
namespace Go.Ev
open Go F Go.Proofs
set_option linter.unusedVariables false
set_option linter.unusedSimpArgs false
set_option maxRecDepth 100000
structure Rw where
  hd:Nat
  dp:Int
  kd:Nat
  nm:List UInt8
  a:Int
  b:Int
  c:Int
  d:Int
  e:Int
def i64 (n:Int):Prop:=-9223372036854775808≤n∧n≤9223372036854775807
structure Rw.ok (r:Rw):Prop where
  hd:r.hd < 18446744073709551616
  kd:r.kd < 18446744073709551616
  dp:i64 r.dp
  a:i64 r.a
  b:i64 r.b
  c:i64 r.c
  d:i64 r.d
  e:i64 r.e
def rowC (r:Rw):List Value:=[.int .u64 (.ofNat r.hd),.int .i64 r.dp,.int .u64 (.ofNat r.kd),.string ⟨⟨r.nm⟩⟩,.int .i64 r.a,.int .i64 r.b,.int .i64 r.c,.int .i64 r.d,.int .i64 r.e]
def strV (s:List UInt8):Value:=.string ⟨⟨s⟩⟩
def nums (r:Rw):List Int:=[r.a,r.b,r.c,r.d,r.e]
structure UW (E:Env):Prop where
  u3:E.und 3=some (.int .i64)
  u4:E.und 4=some .bool
  u5:E.und 5=some (.int .u8)
  u9:E.und 9=some .string
  l33:∃ i,ElT E 33 9 1 i [.string ⟨⟨[]⟩⟩]
  l24:∃ i z,ElT E 24 30 9 i z
  u22:E.und 22=some (.slice 28)
structure RcU (E:Env) (rc:RC):Prop where
  fmt:∀ h,sameG glob 0 h=true→∀ n,n < 18446744073709551616→∀ k,rc 25 [.int .u64 (.ofNat n),.int .i64 (.ofNat 10)] h k=k (strV (Lib.decDigits n)) h
  itoa:∀ h,sameG glob 0 h=true→∀ n,i64 n→∀ k,rc 26 [.int .i64 n] h k=k (strV (Lib.itoa n)) h
  rep:∀ h,sameG glob 0 h=true→∀ n,n≤1000→∀ k,rc 27 [.string ⟨⟨[32,32]⟩⟩,.int .i64 (.ofNat n)] h k=k (strV (Lib.repeatL [32,32] n)) h
  join:∀ h v n L,OL 9 1 h v n L→0 < n→n≤1000→∀ xs:List (List UInt8),L=xs.map strV→(xs.map List.length).sum≤100000→∀ k,rc 28 [v,.string ⟨⟨[32]⟩⟩] h k=k (strV (Lib.join xs [32])) h
theorem sameG_fr {h h':H} (hk:∀ id,id < 4→hget h' id=hget h id):sameG glob 0 h'=sameG glob 0 h:=by
  have hl:∀ (gl:List AO) (i:Nat),(∀ j,j < gl.length→h'.objs.get (i + j)=h.objs.get (i + j))→sameG gl i h'=sameG gl i h:=by
    intro gl
    induction gl with
    | nil=>intro i _; rfl
    | cons o gl ih =>
      intro i e
      unfold sameG
      rw [show h'.objs.get i=h.objs.get i from e 0 (Nat.succ_pos _),ih (i + 1) λ j hj=>by
        have:=e (j + 1) (Nat.succ_lt_succ hj)
        rwa [show i + (j + 1)=i + 1 + j by omega] at this]
  exact hl glob 0 λ j hj=>by
    have:=hk j hj
    rw [hget_eq,hget_eq] at this
    rwa [Nat.zero_add]
variable {E : Env} (u : UW E) {rc : RC} (q : RcU E rc)
include u q
theorem loop9_0 {B:Nat} {CI:T Value} {ns:List Int} (hl:ns.length=5) (hns:∀ n ∈ ns,i64 n) (hC:∀ i,i < 5→getF CI i=.int .i64 (ns.getD i 0)) (hB:16≤B) (bb:H)  (c:FEnv [7,40]→H→R) :
    ∀ (d i N:Nat) (v x:Value) (L:List Value) (h:H),i + d=5→d < N→OL 9 1 h v (3 + i) L→(∀ p,blkOf v=some p→B≤p∧p ≠ bb.1)→bb.1 < h.next→B≤h.next→hget h bb.1=.row 3 5 false false 0 CI→h.next + 2 * d≤900000000→sameG glob 0 h=true →
      ∃ v' x' h',loopF (ks:=[7,40]) (p9_0 E (.int .i64 (.ofNat 5)) bb rc c) N (v,(.int .i64 (.ofNat i),())) h=c (v',(x',())) h'∧OL 9 1 h' v' 8 (L ++ (ns.drop i).map λ n=>strV (Lib.itoa n))∧h'.next=h.next + 2 * d ∧
        (∀ p,blkOf v'=some p→B≤p)∧(∀ id,id < B→id < h.next→hget h' id=hget h id):=by
  have u3:=u.u3
  obtain ⟨inf,T1⟩:=u.l33
  intro d
  induction d with
  | zero =>
    intro i N v x L h hi hN o ho hb hBn hq hn hg
    obtain ⟨N,rfl⟩:∃ M,N=M + 1:=⟨N - 1,by omega⟩
    obtain rfl:i=5:=by omega
    refine ⟨v,.int .i64 (.ofNat 5),h,?_,?_,rfl,λ p hp=>(ho p hp).1,λ _ _ _=>rfl⟩
    · rw [loopF_one]
      unfold p9_0
      simp (disch:=omega) only [↓lss_f u3,↓joinR_eq,↓onB_ff]
    · rw [List.drop_eq_nil_of_le (by omega),List.map_nil,List.append_nil]; exact o
  | succ d ih =>
    intro i N v x L h hi hN o ho hb hBn hq hn hg
    obtain ⟨N,rfl⟩:∃ M,N=M + 1:=⟨N - 1,by omega⟩
    have hi5:i < 5:=by omega
    have hqr:∀ k,onRow (hget h bb.1) k=k 3 5 false false 0 CI:=λ k=>by rw [hq]; rfl
    have hCi:=hC i hi5
    have hmem:ns.getD i 0 ∈ ns:=by
      rw [List.getD_eq_getElem?_getD,List.getElem?_eq_getElem (by omega)]
      exact List.getElem_mem ..
    obtain ⟨v1,h1,e1,o1,n1,k1,f1⟩:=append1 T1 o (xs:=[strV (Lib.itoa (ns.getD i 0))]) rfl rfl (by omega) (by omega)
    have hkeep:∀ id,id < B→hget h1 id=hget h id:=λ id hid=>f1 id (by omega) (λ e=>by have:=(ho _ e).1; omega)
    obtain ⟨v2,x2,h2,e2,o2,n2,k2,f2⟩:=ih (i + 1) N v1 x (L ++ [strV (Lib.itoa (ns.getD i 0))]) h1 (by omega) (by omega) o1
      (λ p hp=>by rw [k1] at hp; cases hp; omega) (by omega) (by omega) (by rw [f1 _ hb (λ e=>(ho _ e).2 rfl),hq]) (by omega) (by rw [sameG_fr (h:=h) λ id hid=>hkeep id (by omega)]; exact hg)
    refine ⟨v2,x2,h2,?_,?_,by omega,k2,λ id hid hlt=>?_⟩
    · refine Eq.trans ?_ e2
      rw [loopF_one]
      generalize loopF (ks:=[7,40]) (p9_0 E (.int .i64 (.ofNat 5)) bb rc c) N=LL
      unfold p9_0
      simp (disch:=first | omega | (simp only [Nat.add_eq,Nat.mul_eq,Nat.succ_eq_add_one]; omega)) only [↓lss_t u3,↓joinR_eq,↓onB_tt,↓onNat_int,↓ifB_ble,↓addOffF_eq,↓onPtr_ptr,↓hqr]
      rw [show Nat.mul i 1=i from Nat.mul_one i,Nat.zero_add,hCi,q.itoa h hg _ (hns _ hmem)]
      rw [show fillV (λ r=>some (Nat.mul r 1,1)) (List.flatten (List.replicate 1 (cellsOfV (.string (ByteArray.mk #[]))))) [(0,strV (Lib.itoa (ns.getD i 0)))]=some [strV (Lib.itoa (ns.getD i 0))] from rfl]
      simp (disch:=omega) only [↓ifB_ble,letH_eq]
      rw [e1]
      simp (disch:=omega) only [↓bindP_some',↓add_i64 u3]
    · have:ns.drop i=ns.getD i 0 :: ns.drop (i + 1):=by
        rw [List.getD_eq_getElem?_getD,List.getElem?_eq_getElem (by omega)]
        exact List.drop_eq_getElem_cons (by omega)
      rw [this,List.map_cons,List.append_cons]
      exact o2
    · rw [f2 id hid (by omega),hkeep id hid]
inductive RL (h:H):Value→List Rw→Prop
  | nil:RL h (.slice none 0 0) []
  | row {b o c e m fz:Nat} {op ro:Bool} {cells:T Value} {rows:List Rw} (hq:rows ≠ []→hget h b=.row e m op ro fz cells∧b < h.next) (hm:o + 9 * rows.length≤m)
      (hc:∀ i (hi:i < rows.length),cellsF cells 9 (o + 9 * i)=rowC rows[i]):RL h (.slice (some ⟨b,o,none⟩) rows.length c) rows
def nameOr (s:List UInt8):List UInt8:=if s=[] then [46] else s
def dN (n:Int):Nat:=(max 0 (min n 300)).toNat
def lineL (r:Rw):List UInt8:=Lib.repeatL [32,32] (dN r.dp) ++ Lib.join ([Lib.decDigits r.hd,Lib.decDigits r.kd,nameOr r.nm] ++ (nums r).map Lib.itoa) [32]
def zero9:List Value:=[.int .u64 (.ofNat 0),.int .i64 (.ofNat 0),.int .u64 (.ofNat 0),.string (ByteArray.mk #[]),.int .i64 (.ofNat 0),.int .i64 (.ofNat 0),.int .i64 (.ofNat 0),.int .i64 (.ofNat 0),.int .i64 (.ofNat 0)]
noncomputable def rowT (r:Rw):T Value:=putF (T.ofList unk zero9) 0 (rowC r)
omit u q in
theorem dN_eq (n:Int) (h:H) (E:Env) (tys:List TypeId):builtinV E h .min [.int .i64 n,.int .i64 (.ofNat 300)] tys=some (.int .i64 (if 300 < n then 300 else n))∧builtinV E h .max [.int .i64 (.ofNat 0),.int .i64 (if 300 < n then 300 else n)] tys=some (.int .i64 (.ofNat (dN n))):=by
  refine ⟨rfl,?_⟩
  show some (Value.int .i64 (if (if 300 < n then 300 else n) > 0 then (if 300 < n then 300 else n) else 0))=_
  congr 2
  unfold dN
  show _=((max 0 (min n 300)).toNat:Int)
  omega
omit u q in
theorem dN_le (n:Int):dN n≤300:=by unfold dN; omega
omit u q in
theorem rowT_get (r:Rw):getF (rowT r) 0=.int .u64 (.ofNat r.hd)∧getF (rowT r) 1=.int .i64 r.dp∧getF (rowT r) 2=.int .u64 (.ofNat r.kd)∧getF (rowT r) 3=.string ⟨⟨r.nm⟩⟩∧getF (rowT r) 4=.int .i64 r.a∧getF (rowT r) 5=.int .i64 r.b∧getF (rowT r) 6=.int .i64 r.c∧getF (rowT r) 7=.int .i64 r.d∧getF (rowT r) 8=.int .i64 r.e :=
  ⟨rfl,rfl,rfl,rfl,rfl,rfl,rfl,rfl,rfl⟩
omit u q in
theorem sameW_str (s:List UInt8):sameW (.string ⟨⟨s⟩⟩) (.string ⟨⟨s⟩⟩)=true:=by
  show eqBytes s s=true
  rw [eqBytes_eq]; exact beq_self_eq_true _
omit u q in
theorem orec_some {α:Type} (n:R) (f:α→R) (l:α):@Option.rec α (λ _=>R) n f (some l)=f l:=rfl
omit u q in
theorem line_len (r:Rw) (hr:r.ok) (hn:r.nm.length≤100):((([Lib.decDigits r.hd,Lib.decDigits r.kd,nameOr r.nm] ++ (nums r).map Lib.itoa).map List.length).sum≤100000)∧(Lib.join ([Lib.decDigits r.hd,Lib.decDigits r.kd,nameOr r.nm] ++ (nums r).map Lib.itoa) [32]).length≤100000:=by
  have h1:(Lib.decDigits r.hd).length≤20:=by rw [Lib.decDigits_length]; exact Lib.nDigits_le20 _ hr.hd
  have h2:(Lib.decDigits r.kd).length≤20:=by rw [Lib.decDigits_length]; exact Lib.nDigits_le20 _ hr.kd
  have h3:(nameOr r.nm).length≤100:=by
    unfold nameOr; split
    · exact (by decide:1≤100)
    · exact hn
  have a1:=Lib.itoa_length_le r.a hr.a.1 hr.a.2
  have a2:=Lib.itoa_length_le r.b hr.b.1 hr.b.2
  have a3:=Lib.itoa_length_le r.c hr.c.1 hr.c.2
  have a4:=Lib.itoa_length_le r.d hr.d.1 hr.d.2
  have a5:=Lib.itoa_length_le r.e hr.e.1 hr.e.2
  constructor
  · simp only [nums,List.map_cons,List.map_nil,List.cons_append,List.nil_append,List.sum_cons,List.sum_nil]
    omega
  · rw [show ([Lib.decDigits r.hd,Lib.decDigits r.kd,nameOr r.nm] ++ (nums r).map Lib.itoa)=Lib.decDigits r.hd :: ([Lib.decDigits r.kd,nameOr r.nm] ++ (nums r).map Lib.itoa) from rfl,Lib.join_length]
    unfold Lib.lens
    simp only [nums,List.map_cons,List.map_nil,List.cons_append,List.nil_append,List.sum_cons,List.sum_nil,List.length_cons,List.length_nil]
    omega
omit q in
theorem str_add {cx cy:Bool} {a b:List UInt8} {k:Value→R} (h:a.length + b.length≤1000000000):binR (binC E .add 9 cx cy) (.string ⟨⟨a⟩⟩) (.string ⟨⟨b⟩⟩) k=k (.string ⟨⟨a ++ b⟩⟩):=by
  have hb:bin E .add 9 cx cy (.string ⟨⟨a⟩⟩) (.string ⟨⟨b⟩⟩)=some (.string ⟨⟨a ++ b⟩⟩):=by
    simp only [bin,ble_t h,cond_true]
  unfold binR binC; rw [u.u9]
  show bindO (bin E .add 9 cx cy (.string ⟨⟨a⟩⟩) (.string ⟨⟨b⟩⟩)) k=_
  rw [hb]; rfl
omit q in
theorem str_eq {cx cy:Bool} {a b:List UInt8} {k:Value→R}:binR (binC E .eql 9 cx cy) (.string ⟨⟨a⟩⟩) (.string ⟨⟨b⟩⟩) k=k (.bool (a == b)):=by
  have hb:bin E .eql 9 cx cy (.string ⟨⟨a⟩⟩) (.string ⟨⟨b⟩⟩)=some (.bool (a == b)):=by
    simp only [bin,eqBytes_eq]
  unfold binR binC; rw [u.u9]
  show bindO (bin E .eql 9 cx cy (.string ⟨⟨a⟩⟩) (.string ⟨⟨b⟩⟩)) k=_
  rw [hb]; rfl
theorem round9 {b o cc e m fz B:Nat} {op ro:Bool} {cells:T Value} {rows:List Rw} (hok:∀ r ∈ rows,r.ok∧r.nm.length≤100) (hm:o + 9 * rows.length≤m) (hc:∀ i (hi:i < rows.length),cellsF cells 9 (o + 9 * i)=rowC rows[i])
    (hlen:rows.length≤40) (hB:16≤B) (hbB:b < B) (kk:FEnv [3]→H→R) (LL:FEnv [3,12]→H→R) {i n:Nat} {v x:Value} {L:List Value} {h:H} (hi:i < rows.length) (hrow:hget h b=.row e m op ro fz cells) (ob:OL 9 1 h v n L) (hov:∀ p,blkOf v=some p→B≤p)
    (hBn:B≤h.next) (hn:h.next≤800000000) (hnn:n≤1000) (hg:sameG glob 0 h=true) :
    ∃ v' h',p9_1 E (.int .i64 (.ofNat rows.length)) (.slice (some ⟨b,o,none⟩) rows.length cc) rc kk LL (v,(.int .i64 (.ofNat i),())) h=LL (v',(.int .i64 (.ofNat (i + 1)),())) h'∧OL 9 1 h' v' (n + 1) (L ++ [strV (lineL rows[i])])∧h'.next=h.next + 15 ∧
      (∀ p,blkOf v'=some p→B≤p)∧(∀ id,id < B→hget h' id=hget h id):=by
  have u3:=u.u3
  obtain ⟨inf,T1⟩:=u.l33
  have hqr:∀ k,onRow (hget h b) k=k e m op ro fz cells:=λ k=>by rw [hrow]; rfl
  have hci:=hc i hi
  generalize hr:rows[i]=r at hci
  have hrok:=hok r (by rw [← hr]; exact List.getElem_mem ..)
  have h9:Nat.mul i 9=9 * i:=Nat.mul_comm i 9
  have hx1:∃ x1,x1=hset (hpush h (.row 28 9 false false 0 (T.ofList unk zero9))) h.next (.row 28 9 false false 0 (rowT r)):=⟨_,rfl⟩
  obtain ⟨x1,hx1⟩:=hx1
  have nx1:x1.1=h.next + 1:=by rw [hx1]; rfl
  have gx1:hget x1 h.next=.row 28 9 false false 0 (rowT r):=by rw [hx1]; exact get_set_eq _ _ _ (by omega)
  have ox1:∀ id,id < h.next→hget x1 id=hget h id:=λ id hid=>by rw [hx1,get_set _ _ _ _ (by omega),if_neg (by omega),get_push_ne _ _ (by omega) hid]
  obtain ⟨x3,hx3⟩:∃ x3,x3=hset (H.mk (x1.1 + 1) x1.2) x1.1 (.row 9 3 false false 0 (T.ofList unk [strV (Lib.decDigits r.hd),strV (Lib.decDigits r.kd),strV (nameOr r.nm)])):=⟨_,rfl⟩
  have nx3:x3.1=h.next + 2:=by rw [hx3]; show x1.1 + 1=_; omega
  have gx3:hget x3 (h.next + 1)=.row 9 3 false false 0 (T.ofList unk [strV (Lib.decDigits r.hd),strV (Lib.decDigits r.kd),strV (nameOr r.nm)]):=by rw [hx3,nx1]; exact get_set_eq _ _ _ (by omega)
  have hmk:∀ id,hget (H.mk (x1.1 + 1) x1.2) id=hget x1 id:=λ id=>rfl
  have ox3:∀ id,id < h.next + 1→hget x3 id=hget x1 id:=λ id hid=>by rw [hx3,get_set _ _ _ _ (by omega),if_neg (by omega)]; rfl
  obtain ⟨x4,hx4⟩:∃ x4,x4=hpush x3 (.row 3 5 false false 0 (T.ofList unk ((nums r).map λ n=>.int .i64 n))):=⟨_,rfl⟩
  have nx4:x4.1=h.next + 3:=by rw [hx4]; show x3.1 + 1=_; omega
  have gx4:hget x4 x3.1=.row 3 5 false false 0 (T.ofList unk ((nums r).map λ n=>.int .i64 n)):=by rw [hx4]; exact get_push_eq _ _ (by show x3.1≤_; omega)
  have ox4:∀ id,id < h.next + 2→hget x4 id=hget x3 id:=λ id hid=>by rw [hx4]; exact get_push_ne _ _ (by show x3.1≤_; omega) (by show id < x3.1; omega)
  have keep4:∀ id,id < h.next→hget x4 id=hget h id:=λ id hid=>by rw [ox4 id (by omega),ox3 id (by omega),ox1 id hid]
  have g4:hget x4 h.next=.row 28 9 false false 0 (rowT r):=by rw [ox4 _ (by omega),ox3 _ (by omega),gx1]
  have o4:OL 9 1 x4 (.slice (some ⟨h.next + 1,0,none⟩) 3 6) 3 [strV (Lib.decDigits r.hd),strV (Lib.decDigits r.kd),strV (nameOr r.nm)]:=by
    have:=OL.row (e:=9) (s:=1) (h:=x4) (b:=h.next + 1) (n:=3) (op:=false) (fz:=0) (L:=[strV (Lib.decDigits r.hd),strV (Lib.decDigits r.kd),strV (nameOr r.nm)]) (by show _ < x4.1; omega) (by rw [ox4 _ (by omega),gx3]) rfl (λ i hi=>getF_ofList _ _) (by omega)
    exact this
  have hnl:(nums r).length=5:=rfl
  have hni:∀ n ∈ nums r,i64 n:=by
    intro n hn
    simp only [nums,List.mem_cons,List.not_mem_nil,or_false] at hn
    rcases hn with rfl | rfl | rfl | rfl | rfl
    · exact hrok.1.a
    · exact hrok.1.b
    · exact hrok.1.c
    · exact hrok.1.d
    · exact hrok.1.e
  have hnc:∀ i,i < 5→getF (T.ofList unk ((nums r).map λ n=>Value.int .i64 n)) i=.int .i64 ((nums r).getD i 0):=by
    intro i hi
    rw [getF_ofList,List.getD_eq_getElem?_getD,List.getElem?_map,List.getD_eq_getElem?_getD,List.getElem?_eq_getElem (by rw [hnl]; exact hi)]
    rfl
  have hg4:sameG glob 0 x4=true:=by rw [sameG_fr (h:=h) λ id hid=>keep4 id (by omega)]; exact hg
  have lp:∀ c X,loopF (ks:=[7,40]) (p9_0 E (.int .i64 (.ofNat 5)) x3 rc c) bigN (.slice (some ⟨h.next + 1,0,none⟩) 3 6,(.int .i64 (.ofNat 0),())) x4=X→_:=λ c X e=>by
    have:=loop9_0 u q (B:=h.next + 1) hnl hni hnc (by omega) x3 c 5 0 bigN _ (.int .i64 (.ofNat 0)) _ x4 (by omega) (by unfold bigN; omega) o4 (λ p hp=>by cases hp; exact ⟨by show h.next + 1≤h.next + 1; omega,by show h.next + 1 ≠ x3.1; omega⟩) (by show x3.1 < x4.1; omega) (by show _≤x4.1; omega) gx4 (by show x4.1 + _≤_; omega) hg4
    rw [e] at this
    exact this
  obtain ⟨X,e⟩:∃ X,p9_1 E (.int .i64 (.ofNat rows.length)) (.slice (some ⟨b,o,none⟩) rows.length cc) rc kk LL (v,(.int .i64 (.ofNat i),())) h=X:=⟨_,rfl⟩
  rw [e]
  unfold p9_1 at e
  have hl9:lenF (rowC r)=9:=rfl
  have ha9:allF (λ x=>cell1F x) (rowC r)=true:=rfl
  have hnb:notB false=true:=rfl
  rw [lss_t u3 hi,joinR_eq] at e
  simp only [onB_tt] at e
  rw [joinR_eq] at e
  simp (disch:=first | omega | (simp only [Nat.add_eq,Nat.mul_eq,Nat.succ_eq_add_one]; omega)) only [↓onNat_int,↓onSl_sl,↓ifB_ble,↓addOffF_eq,↓onPtr_ptr,↓hqr] at e
  rw [h9,hci,hl9,ha9] at e
  simp (disch:=first | omega | (simp only [Nat.add_eq,Nat.mul_eq,Nat.succ_eq_add_one]; omega)) only [↓ifB_ble,↓letH_eq] at e
  rw [show hget (hpush h (.row 28 9 false false 0 (T.ofList unk [.int .u64 (.ofNat 0),.int .i64 (.ofNat 0),.int .u64 (.ofNat 0),.string (ByteArray.mk #[]),.int .i64 (.ofNat 0),.int .i64 (.ofNat 0),.int .i64 (.ofNat 0),.int .i64 (.ofNat 0),.int .i64 (.ofNat 0)]))) h.1=.row 28 9 false false 0 (T.ofList unk zero9) from get_push_eq _ _ (by omega)] at e
  simp only [onRow_row,hnb,ifB_true,Nat.beq_refl,letH_eq] at e
  simp (disch:=first | omega | (simp only [Nat.add_eq,Nat.mul_eq,Nat.succ_eq_add_one]; omega)) only [↓ifB_ble] at e
  rw [show hset (hpush h (.row 28 9 false false 0 (T.ofList unk [.int .u64 (.ofNat 0),.int .i64 (.ofNat 0),.int .u64 (.ofNat 0),.string (ByteArray.mk #[]),.int .i64 (.ofNat 0),.int .i64 (.ofNat 0),.int .i64 (.ofNat 0),.int .i64 (.ofNat 0),.int .i64 (.ofNat 0)]))) h.1 (.row 28 9 false false 0 (putF (T.ofList unk zero9) 0 (rowC r)))=x1 from hx1.symm] at e
  obtain ⟨t0,t1,t2,t3,t4,t5,t6,t7,t8⟩:=rowT_get r
  have hx1r:∀ k,onRow (hget x1 h.next) k=k 28 9 false false 0 (rowT r):=λ k=>by rw [gx1]; rfl
  have hnm:∀ c,(binR (binC E .eql 9 false true) (.string ⟨⟨r.nm⟩⟩) (.string (ByteArray.mk #[])) c)=c (.bool (r.nm == [])):=λ c=>str_eq u (b:=[])
  have g1:∀ id,id < h.next→hget (H.mk (Nat.add x1.1 1) x1.2) id=hget h id:=ox1
  have hg1:sameG glob 0 (H.mk (Nat.add x1.1 1) x1.2)=true:=by rw [sameG_fr (h:=h) λ id hid=>g1 id (by omega)]; exact hg
  have hx1s:∀ k,onRow (hget (H.mk (Nat.add x1.1 1) x1.2) h.next) k=k 28 9 false false 0 (rowT r):=hx1r
  have hfill3:∀ s:List UInt8,fillV (λ r=>some (Nat.mul r 1,1)) (List.flatten (List.replicate 3 (cellsOfV (.string (ByteArray.mk #[]))))) [(0,strV (Lib.decDigits r.hd)),(1,strV (Lib.decDigits r.kd)),(2,strV s)]=some [strV (Lib.decDigits r.hd),strV (Lib.decDigits r.kd),strV s]:=λ _=>rfl
  simp (disch:=first | omega | (simp only [Nat.add_eq,Nat.mul_eq,Nat.succ_eq_add_one]; omega)) only [↓hx1r,↓ifB_ble,↓t3,↓hnm] at e
  have hjn:∀ (K:FEnv [6]→H→R),joinR (ks:=[6]) K (λ a2=>onB (.bool (r.nm == [])) (a2 (.string ⟨⟨r.nm⟩⟩,()) x1) (a2 (.string ⟨⟨[46]⟩⟩,()) x1))=K (.string ⟨⟨nameOr r.nm⟩⟩,()) x1:=by
    intro K
    rw [joinR_eq]
    unfold nameOr
    by_cases hz:r.nm=[]
    · rw [hz]; rfl
    · rw [show (r.nm == [])=false from beq_eq_false_iff_ne.2 hz,if_neg hz]; rfl
  rw [hjn] at e
  have hss:∀ k:R,ifB (sameW (.string ⟨⟨nameOr r.nm⟩⟩) (.string ⟨⟨nameOr r.nm⟩⟩)) k=k:=λ k=>ifB_of (sameW_str _) k
  have hsp:∀ (k:R) (A:Addr),ifB (sameW (.pointer (some A)) (.pointer (some A))) k=k:=λ k A=>ifB_sp A k
  have hsi:∀ (k:R) (n:Nat),ifB (sameW (.int .u64 (.ofNat n)) (.int .u64 (.ofNat n))) k=k:=λ k n=>ifB_si _ _ k
  simp (disch:=first | omega | (simp only [Nat.add_eq,Nat.mul_eq,Nat.succ_eq_add_one]; omega)) only [↓ifB_ble,↓letH_eq,↓hx1s,↓t0,↓t2,↓q.fmt _ hg1 _ hrok.1.hd,↓q.fmt _ hg1 _ hrok.1.kd,↓hss,↓hsp,↓hsi] at e
  rw [show (Value.string ⟨⟨nameOr r.nm⟩⟩)=strV (nameOr r.nm) from rfl,hfill3,orec_some none] at e
  rw [show hset (H.mk (Nat.add x1.1 1) x1.2) x1.1 (.row 9 3 false false 0 (T.ofList unk [strV (Lib.decDigits r.hd),strV (Lib.decDigits r.kd),strV (nameOr r.nm)]))=x3 from hx3.symm] at e
  have hx3r:∀ k,onRow (hget x3 h.next) k=k 28 9 false false 0 (rowT r):=λ k=>by rw [ox3 _ (by omega),gx1]; rfl
  have hfill5:fillV (λ r=>some (Nat.mul r 1,1)) (List.flatten (List.replicate 5 (cellsOfV (.int .i64 (.ofNat 0))))) [(0,.int .i64 r.a),(1,.int .i64 r.b),(2,.int .i64 r.c),(3,.int .i64 r.d),(4,.int .i64 r.e)]=some ((nums r).map λ n=>.int .i64 n):=rfl
  simp (disch:=first | omega | (simp only [Nat.add_eq,Nat.mul_eq,Nat.succ_eq_add_one]; omega)) only [↓ifB_ble,↓hx3r,↓t4,↓t5,↓t6,↓t7,↓t8] at e
  rw [hfill5,orec_some none] at e
  rw [joinL_eq] at e
  dsimp only at e
  rw [joinR_eq,show hpush x3 (.row 3 5 false false 0 (T.ofList unk ((nums r).map λ n=>Value.int .i64 n)))=x4 from hx4.symm] at e
  rw [show x1.next=h.next + 1 from nx1] at e
  obtain ⟨v5,x5,h5,rfl,o5,n5,k5,f5⟩:=lp _ _ e
  clear e
  have g5:hget h5 h.next=.row 28 9 false false 0 (rowT r):=by rw [f5 _ (by omega) (by show _ < x4.1; omega),g4]
  have k5':∀ id,id < h.next→hget h5 id=hget h id:=λ id hid=>by rw [f5 _ (by omega) (by show _ < x4.1; omega),keep4 _ hid]
  have n5':h5.next=h.next + 13:=by rw [n5]; show x4.1 + 10=_; omega
  have hg5:sameG glob 0 h5=true:=by rw [sameG_fr (h:=h) λ id hid=>k5' id (by omega)]; exact hg
  have hx5r:∀ k,onRow (hget h5 h.next) k=k 28 9 false false 0 (rowT r):=λ k=>by rw [g5]; rfl
  obtain ⟨l1,l2⟩:=line_len r hrok.1 hrok.2
  have hj:=q.join h5 v5 8 _ o5 (by omega) (by omega) ([Lib.decDigits r.hd,Lib.decDigits r.kd,nameOr r.nm] ++ (nums r).map Lib.itoa) rfl l1
  have hdn:=dN_eq r.dp h5 E [3,3]
  have hdl:=dN_le r.dp
  have hob5:=ob.keep (h':=h5) (by omega) (λ p _ hp=>k5' p hp)
  obtain ⟨v6,h6,e6,o6,n6,b6,f6⟩:=append1 T1 hob5 (xs:=[strV (lineL r)]) rfl rfl (by omega) (by omega)
  have hfill1:fillV (λ r=>some (Nat.mul r 1,1)) (List.flatten (List.replicate 1 (cellsOfV (.string (ByteArray.mk #[]))))) [(0,strV (lineL r))]=some [strV (lineL r)]:=rfl
  refine ⟨v6,h6,?_,o6,by omega,λ p hp=>by rw [b6] at hp; cases hp; omega,λ id hid=>by rw [f6 id (by omega) (λ e=>by have:=hov _ e; omega),k5' id (by omega)]⟩
  simp (disch:=first | omega | (simp only [Nat.add_eq,Nat.mul_eq,Nat.succ_eq_add_one]; omega)) only [↓hx5r,↓ifB_ble,↓t1]
  rw [hdn.1,bindO_some',hdn.2,bindO_some',q.rep h5 hg5 _ (by omega),hj]
  unfold strV
  rw [str_add u (by rw [Lib.repeatL_length]; exact Nat.le_trans (Nat.add_le_add (Nat.mul_le_mul_right _ hdl) l2) (by decide))]
  rw [show (Value.string ⟨⟨Lib.repeatL [32,32] (dN r.dp) ++ Lib.join ([Lib.decDigits r.hd,Lib.decDigits r.kd,nameOr r.nm] ++ (nums r).map Lib.itoa) [32]⟩⟩)=strV (lineL r) from rfl,hfill1,orec_some none]
  simp (disch:=omega) only [↓ifB_ble,letH_eq]
  rw [e6]
  simp (disch:=omega) only [↓bindP_some',↓add_i64 u3]
theorem loop9_1 {b o cc e m fz B:Nat} {op ro:Bool} {cells:T Value} {rows:List Rw} (hok:∀ r ∈ rows,r.ok∧r.nm.length≤100) (hm:o + 9 * rows.length≤m) (hc:∀ i (hi:i < rows.length),cellsF cells 9 (o + 9 * i)=rowC rows[i])
    (hlen:rows.length≤40) (hB:16≤B) (hbB:b < B) (kk:FEnv [3]→H→R) :
    ∀ (d i N:Nat) (v:Value) (L:List Value) (h:H),i + d=rows.length→d < N→(rows ≠ []→hget h b=.row e m op ro fz cells)→OL 9 1 h v i L→(∀ p,blkOf v=some p→B≤p)→B≤h.next→h.next + 15 * d≤800000000→sameG glob 0 h=true →
      ∃ v' h',loopF (ks:=[3,12]) (p9_1 E (.int .i64 (.ofNat rows.length)) (.slice (some ⟨b,o,none⟩) rows.length cc) rc kk) N (v,(.int .i64 (.ofNat i),())) h=kk (v',()) h'∧OL 9 1 h' v' rows.length (L ++ (rows.drop i).map λ r=>strV (lineL r)) ∧
        h'.next=h.next + 15 * d∧(∀ p,blkOf v'=some p→B≤p)∧(∀ id,id < B→hget h' id=hget h id):=by
  intro d
  induction d with
  | zero =>
    intro i N v L h hi hN hrow ob hov hBn hn hg
    obtain ⟨N,rfl⟩:∃ M,N=M + 1:=⟨N - 1,by omega⟩
    obtain rfl:i=rows.length:=by omega
    refine ⟨v,h,?_,?_,rfl,hov,λ _ _=>rfl⟩
    · rw [loopF_one]
      unfold p9_1
      rw [lss_f u.u3 (Nat.le_refl _),joinR_eq]
      rfl
    · rw [List.drop_eq_nil_of_le (Nat.le_refl _),List.map_nil,List.append_nil]; exact ob
  | succ d ih =>
    intro i N v L h hi hN hrow ob hov hBn hn hg
    obtain ⟨N,rfl⟩:∃ M,N=M + 1:=⟨N - 1,by omega⟩
    have hlt:i < rows.length:=by omega
    have hne:rows ≠ []:=λ e=>by rw [e] at hlt; exact Nat.not_lt_zero _ hlt
    obtain ⟨v1,h1,e1,o1,n1,k1,f1⟩:=round9 u q (cc:=cc) (x:=v) hok hm hc hlen hB hbB kk (loopF (ks:=[3,12]) (p9_1 E (.int .i64 (.ofNat rows.length)) (.slice (some ⟨b,o,none⟩) rows.length cc) rc kk) N) hlt (hrow hne) ob hov hBn (by omega) (by omega) hg
    obtain ⟨v2,h2,e2,o2,n2,k2,f2⟩:=ih (i + 1) N v1 _ h1 (by omega) (by omega) (λ _=>by rw [f1 _ hbB]; exact hrow hne) o1 k1 (by omega) (by omega) (by rw [sameG_fr (h:=h) λ id hid=>f1 id (by omega)]; exact hg)
    refine ⟨v2,h2,?_,?_,by omega,k2,λ id hid=>by rw [f2 id hid,f1 id hid]⟩
    · rw [loopF_one,e1,e2]
    · rw [List.drop_eq_getElem_cons hlt,List.map_cons,List.append_cons]; exact o2
theorem run9 {h:H} {v:Value} {rows:List Rw} (a:RL h v rows) (hok:∀ r ∈ rows,r.ok∧r.nm.length≤100) (hlen:rows.length≤40) (hn:h.next≤700000000) (h16:16≤h.next) (hg:sameG glob 0 h=true) (k:Value→H→R) :
    ∃ v' h',p9 E rc v h k=k v' h'∧OL 9 1 h' v' rows.length (rows.map λ r=>strV (lineL r))∧h'.next=h.next + 15 * rows.length∧(∀ p,blkOf v'=some p→h.next≤p)∧(∀ id,id < h.next→hget h' id=hget h id):=by
  cases a with
  | nil =>
    refine ⟨.slice none 0 0,h,?_,.nil,rfl,λ p hp=>(nomatch hp),λ _ _=>rfl⟩
    have hlv:lenV E h 22 (.slice none 0 0)=some (.int .i64 (.ofNat 0)):=by unfold lenV; rw [u.u22]; rfl
    unfold p9
    rw [joinL_eq,onSl_nil,hlv,bindO_some',joinR_eq,show bigN=999999 + 1 from rfl,loopF_one]
    unfold p9_1
    simp (disch:=omega) only [↓lss_f u.u3,↓joinR_eq,↓onB_ff]
  | row hq hm hc =>
    rename_i b o c e m fz op ro cells
    by_cases hr:rows=[]
    · subst hr
      refine ⟨.slice none 0 0,h,?_,.nil,rfl,λ p hp=>(nomatch hp),λ _ _=>rfl⟩
      unfold p9
      rw [joinL_eq,onSl_sl]
      simp only [List.length_nil]
      rw [joinR_eq,show bigN=999999 + 1 from rfl,loopF_one]
      unfold p9_1
      simp (disch:=omega) only [↓lss_f u.u3,↓joinR_eq,↓onB_ff]
    · obtain ⟨hq,hb⟩:=hq hr
      obtain ⟨v',h',e1,o1,n1,k1,f1⟩:=loop9_1 u q (cc:=c) hok hm hc hlen h16 hb (λ b c=>k b.1 c) rows.length 0 bigN (.slice none 0 0) [] h (by omega) (by unfold bigN; omega) (λ _=>hq) .nil (λ p hp=>(nomatch hp)) (Nat.le_refl _) (by omega) hg
      refine ⟨v',h',?_,o1,n1,k1,f1⟩
      unfold p9
      rw [joinL_eq,onSl_sl]
      dsimp only
      rw [joinR_eq]
      exact e1
end Go.Ev
