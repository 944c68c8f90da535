/-
  Functions of a program as plain Lean, for any table of functions that are answered for; printed by a program.
-/
import Derived.Test.YtdibeojmiobklaaGreatDoorMb
set_option linter.unusedVariables false
set_option linter.unusedSimpArgs false
namespace Go.Ev
open Go F Go.Proofs
set_option maxRecDepth 100000
set_option linter.unusedVariables false
noncomputable section
variable (E : Env) (rc : RC) (k : Value → H → R)
def g287_1 (a b:V)(c d:Value)(e:H)(f:Nat):R:=ifB (Nat.ble 2 f) (binR (binC E .add 3 false false) (getF b 1) c λ g=>rc 178 [getF a 0,g,d] e λ h i=>g163_0 k h i)
def g287_2 (a b:Value)(c d:H):R:=onRow (hget d c.1) λ _ e _ _ _ f=>ifB (Nat.ble 1 e) (onRow (hget d c.1) λ _ g _ _ _ h=>g287_1 E rc k f h a b d g)
def g287_3 (a:(FEnv [6,7])→H→R)(b c:Value)(d:H):R:=onB c (a (.string (ByteArray.mk #[]),(.int .i64 (.ofNat 0),())) d) (ifB (nT [.string (ByteArray.mk #[]),b]) (k (.tuple ⟨[.string (ByteArray.mk #[]),b]⟩) d))
def g287_4 (a b c:Value)(d e:H):R:=binR (binC E .neq 41 false true) c (.int .i64 (.ofNat 0)) λ f=>@joinR [6,7] (λ _ g=>g287_2 E rc k a b d g) λ g=>g287_3 k g c f e
def g287_5 (a b:Value)(c d:H):R:=onRow (hget d c.1) λ _ e _ _ _ f=>ifB (Nat.ble 3 e) (rc 95 [.agg ⟨cellsF f 3 0⟩,a,b] d λ g h=>g287_4 E rc k a b g c h)
def g287_6 (a:L)(b c:Value)(d:H):R:=ifB (allF (λ e=>cell1F e) a) (ifB (Nat.ble d.1 1000000000) (letH (hpush d (.row 78 (lenF a) false false 0 (T.ofList unk a))) λ e=>g287_5 E rc k b c d e))
def g287 (E:Env)(rc:RC)(a0 a1 a2:Value)(h:H)(k:Value→H→R):R:=onCells a0 λ a=>g287_6 E rc k a a1 a2 h
theorem g287_eq (t:ExtT)(rc:RC)(a0 a1 a2:Value)(h:H)(k:Value→H→R):(funB (EX t) KK 287).run rc [a0,a1,a2] h k = g287 (EX t) rc a0 a1 a2 h k:=by kernel_rfl
def g288_0 (a b:V)(c:H)(d:Nat):R:=ifB (Nat.ble 1 d) (joinL (λ e=>rc 354 [.agg ⟨cellsF a 1 0⟩,e] c λ f g=>k f g) λ e=>onSl (getF b 0) (bindO (lenV E c 50 (getF b 0)) e) λ _ f _=>e (.int .i64 (.ofNat f)))
def g288_1 (a b:H):R:=onRow (hget b a.1) λ _ c _ _ _ d=>ifB (Nat.ble 1 c) (onRow (hget b a.1) λ _ e _ _ _ f=>g288_0 E rc k d f b e)
def g288_2 (a:L)(b:H):R:=ifB (allF (λ c=>cell1F c) a) (ifB (Nat.ble b.1 1000000000) (letH (hpush b (.row 264 (lenF a) false false 0 (T.ofList unk a))) λ c=>g288_1 E rc k b c))
def g288 (E:Env)(rc:RC)(a0:Value)(h:H)(k:Value→H→R):R:=onCells a0 λ a=>g288_2 E rc k a h
theorem g288_eq (t:ExtT)(rc:RC)(a0:Value)(h:H)(k:Value→H→R):(funB (EX t) KK 288).run rc [a0] h k = g288 (EX t) rc a0 h k:=by kernel_rfl
def g289_1 (a b c:V)(d e:Addr)(f:Value)(g:H)(h:Nat):R:=ifB (Nat.ble (Nat.succ e.2) h) (ifB (sameW (getF c e.2) (getF b d.2)) (rc 52 [.agg ⟨cellsF a 3 0⟩,f,getF b d.2] g λ i j=>onTup i λ l=>g43_0 k l i j))
def g289_2 (a b:V)(c d:Addr)(e f:Value)(g:H)(h i:Nat):R:=ifB (Nat.ble (Nat.succ h) i) (addOffF d (Nat.mul h 1) λ j=>ifB (sameW j e) (onPtr e λ l=>onRow (hget g l.1) λ _ m _ _ _ n=>g289_1 rc k a b n c l f g m))
def g289_3 (a b c d:V)(e:Addr)(f g h:Value)(i:H)(j:Nat):R:=ifB (Nat.ble 1 j) (ifB (sameW (getF d 0) (getF b 0)) (ifB (sameW f f) (onNat f none λ l=>onSl (getF b 0) none λ m n _=>g289_2 rc k a c e m g h i l n)))
def g289_4 (a b c d:V)(e:Addr)(f g h:Value)(i j:H)(l:Nat):R:=ifB (Nat.ble 3 l) (ifB (sameW (.agg ⟨cellsF d 3 0⟩) (.agg ⟨cellsF a 3 0⟩)) (ifB (sameW (.pointer (some (Addr.mk i.1 0 none))) (.pointer (some (Addr.mk i.1 0 none)))) (onRow (hget j i.1) λ _ m _ _ _ n=>g289_3 rc k a b c n e f g h j m)))
def g289_5 (a b c d:V)(e:Addr)(f g:Value)(h i j:H)(l:Nat):R:=ifB (Nat.ble (Nat.succ e.2) l) (rc 356 [.agg ⟨cellsF b 1 0⟩,f] j λ m n=>onRow (hget n i.1) λ _ o _ _ _ p=>g289_4 rc k a c d p e f g m h n o)
def g289_6 (a b c:V)(d:Addr)(e:Value)(f g h:H)(i j:Nat):R:=ifB (Nat.ble (Nat.succ i) j) (addOffF d (Nat.mul i 1) λ l=>onPtr l λ m=>onRow (hget h m.1) λ _ n _ _ _ o=>g289_5 rc k a b c o m e l f g h n)
def g289_7 (a b:V)(c:Value)(d e f:H)(g:Nat):R:=ifB (Nat.ble 1 g) (onRow (hget f d.1) λ _ h _ _ _ i=>ifB (Nat.ble 1 h) (onNat c none λ j=>onSl (getF i 0) none λ l m _=>g289_6 rc k a b i l c d e f j m))
def g289_8 (a:Value)(b c d:H):R:=onRow (hget d c.1) λ _ e _ _ _ f=>ifB (Nat.ble 3 e) (onRow (hget d b.1) λ _ g _ _ _ h=>g289_7 rc k f h a b c d g)
def g289_18 (a b:Value)(c d e:H):R:=onB b (@joinR [6,7] (λ _ f=>ifB (Nat.ble f.1 1000000000) (letH (H.mk f.1 f.2) λ g=>g289_8 rc k a c d g)) λ _=>k (.tuple ⟨[.int .u64 (.ofNat 0),.int .i64 (.ofNat 2)]⟩) e) (@joinR [6,7] (λ _ f=>ifB (Nat.ble f.1 1000000000) (letH (H.mk f.1 f.2) λ g=>g289_8 rc k a c d g)) λ f=>f (.int .u64 (.ofNat 0),(.int .i64 (.ofNat 0),())) e)
def g289_19 (a:Value)(b c d:H):R:=onRow (hget d b.1) λ _ e _ _ _ f=>ifB (Nat.ble 1 e) (rc 355 [.agg ⟨cellsF f 1 0⟩,a] d λ g h=>g289_18 rc k a g b c h)
def g289_20 (a:L)(b:Value)(c d:H):R:=ifB (allF (λ e=>cell1F e) a) (ifB (Nat.ble d.1 1000000000) (letH (hpush d (.row 78 (lenF a) false false 0 (T.ofList unk a))) λ e=>g289_19 rc k b c d e))
def g289_21 (a:L)(b c:Value)(d:H):R:=ifB (allF (λ e=>cell1F e) a) (ifB (Nat.ble d.1 1000000000) (letH (hpush d (.row 264 (lenF a) false false 0 (T.ofList unk a))) λ e=>onCells b λ f=>g289_20 rc k f c d e))
def g289 (E:Env)(rc:RC)(a0 a1 a2:Value)(h:H)(k:Value→H→R):R:=onCells a0 λ a=>g289_21 rc k a a1 a2 h
theorem g289_eq (t:ExtT)(rc:RC)(a0 a1 a2:Value)(h:H)(k:Value→H→R):(funB (EX t) KK 289).run rc [a0,a1,a2] h k = g289 (EX t) rc a0 a1 a2 h k:=by kernel_rfl
def g268_0 (a:Value→R)(b:V)(c:H):R:=onNat (getF b 3) (bindO (convV E c 3 25 (getF b 3)) a) λ d=>@Bool.rec (λ _=>R) (bindO (convV E c 3 25 (getF b 3)) a) (a (.int .u64 (.ofNat d))) (Nat.ble d 18446744073709551615)
def g268_1 (a b c:V)(d e:Value)(f g:H)(h:Nat):R:=ifB (Nat.ble 4 h) (ifB (sameW (getF c 3) (getF b 3)) (joinL (λ i=>ifB (sameW i d) (rc 343 [e,.agg ⟨cellsF a 3 0⟩,.slice (some (Addr.mk f.1 0 none)) 4 8] g λ j l=>k j l)) λ i=>g268_0 E i b g))
def g268_2 (a b c d:V)(e f:Value)(g h i:H)(j:Nat):R:=ifB (Nat.ble 3 j) (ifB (sameW (getF d 2) (getF b 2)) (ifB (sameW (.pointer (some (Addr.mk g.1 3 none))) (.pointer (some (Addr.mk g.1 3 none)))) (onRow (hget i g.1) λ _ l _ _ _ m=>g268_1 E rc k a c m e f h i l)))
def g268_3 (a b c:V)(d e f g:Value)(h i j:H):R:=ifB (sameW g d) (ifB (sameW (.pointer (some (Addr.mk h.1 2 none))) (.pointer (some (Addr.mk h.1 2 none)))) (onRow (hget j h.1) λ _ l _ _ _ m=>g268_2 E rc k a b c m e f h i j l))
def g268_4 (a:Value→R)(b:V)(c:H):R:=onNat (getF b 1) (bindO (convV E c 3 25 (getF b 1)) a) λ d=>@Bool.rec (λ _=>R) (bindO (convV E c 3 25 (getF b 1)) a) (a (.int .u64 (.ofNat d))) (Nat.ble d 18446744073709551615)
def g268_5 (a b c d e:V)(f g h:Value)(i j l:H)(m:Nat):R:=ifB (Nat.ble 2 m) (ifB (sameW (getF e 1) (getF b 1)) (joinL (λ n=>g268_3 E rc k a c d f g h n i j l) λ n=>g268_4 E n b l))
def g268_6 (a b c d e:V)(f g h:Value)(i j l:H)(m:Nat):R:=ifB (Nat.ble 3 m) (ifB (sameW (.agg ⟨cellsF e 3 0⟩) (.agg ⟨cellsF a 3 0⟩)) (ifB (sameW (.pointer (some (Addr.mk i.1 1 none))) (.pointer (some (Addr.mk i.1 1 none)))) (onRow (hget l i.1) λ _ n _ _ _ o=>g268_5 E rc k a b c d o f g h i j l n)))
def g268_7 (a:L)(b c d e:V)(f g:Value)(h i j l:H):R:=letH (hset l j.1 (.row 25 4 false false 0 (T.ofList unk a))) λ m=>rc 200 [] m λ n o=>onRow (hget o i.1) λ _ p _ _ _ q=>g268_6 E rc k b c d e q f g n h j o p
def g268_8 (a b c d:V)(e f:Value)(g h i j:H):R:=@Option.rec (List Value) (λ _=>R) none (λ l=>g268_7 E rc k l a b c d e f g h i j) (fillV (λ l=>some (Nat.mul l 1,1)) (List.flatten (List.replicate 4 (cellsOfV (.int .u64 (.ofNat 0))))) [(0,.int .u64 (.ofNat 1263421507)),(1,e),(2,getF c 2),(3,f)])
def g268_10 (a b c:V)(d:Value)(e f g h:H)(i:Nat):R:=ifB (Nat.ble 3 i) (onRow (hget h e.1) λ _ j _ _ _ l=>ifB (Nat.ble 4 j) (joinL (λ m=>g268_8 E rc k a b c l d m e f g h) λ m=>g268_0 E m l h))
def g268_12 (a b:V)(c d e f:H)(g:Nat):R:=ifB (Nat.ble 2 g) (joinL (λ h=>onRow (hget f c.1) λ _ i _ _ _ j=>g268_10 E rc k a b j h c d e f i) λ h=>g268_4 E h b f)
def g268_13 (a b c d:H):R:=onRow (hget d b.1) λ _ e _ _ _ f=>ifB (Nat.ble 3 e) (onRow (hget d a.1) λ _ g _ _ _ h=>g268_12 E rc k f h a b c d g)
def g268_14 (a:FEnv [4])(b c:Value)(d e f:H):R:=@joinR [4] (λ _ g=>ifB (Nat.ble g.1 1000000000) (letH (H.mk (Nat.add g.1 1) g.2) λ h=>g268_13 E rc k d e g h)) λ g=>onB c (g (a.1,()) f) (k b f)
def g268_15 (a:FEnv [4])(b:L)(c:V)(d e:Bool)(f:TypeId)(g:Value)(h i j:H)(l m:Nat):R:=ifB (notB e) (ifB (Nat.beq (lenF b) 3) (ifB (Nat.ble m 0) (ifB (Nat.ble 3 l) (ifB (Nat.ble l 1000000000) (ifB (allF (λ n=>cell1F n) b) (letH (hset j i.1 (.row f l d false m (putF c 0 b))) λ n=>binR (binC E .neq 41 false true) g (.int .i64 (.ofNat 0)) λ o=>g268_14 E rc k a g o h i n))))))
def g268_16 (a:FEnv [4])(b c:Value)(d e:H):R:=ifB (Nat.ble e.1 1000000000) (letH (hpush e (.row 78 3 false false 0 (T.ofList unk [.pointer none,.int .i64 (.ofNat 0),.int .i64 (.ofNat 0)]))) λ f=>onCells b λ g=>onRow (hget f e.1) λ h i j l m n=>g268_15 E rc k a g n j l h c d e f i m)
def g268_17 (a:FEnv [4])(b:V)(c:Value)(d e:H)(f:Nat):R:=ifB (Nat.ble 1 f) (rc 87 [c,getF b 0,.int .i64 (.ofNat 32)] e λ g h=>onTup g λ i=>nthF 0 i λ j=>onTup g λ l=>nthF 1 l λ m=>g268_16 E rc k a j m d h)
def g268_20 (a:(FEnv [4])→H→R)(b c:Value)(d:H):R:=joinV (λ e f=>joinV (λ g h=>g79_24 k a b g h) λ g=>g110_20 E g b e f) λ e=>onG b (rc 202 [c] d e) (e undef d) (e undef d)
def g268_22 (a:(FEnv [4])→H→R)(b:H):R:=joinV (λ _ c=>joinV (λ _ d=>@joinR [4] (λ e f=>a (e.1,()) f) λ _=>k (.int .i64 (.ofNat 2)) d) λ d=>d undef c) λ c=>c undef b
def g268_23 (a:(FEnv [4])→H→R)(b c:Value)(d e:H):R:=onB b (joinV (λ f g=>joinV (λ h i=>g268_20 E rc k a c h i) λ h=>g110_12 h c f g) λ f=>onG c (f (.pointer (some (Addr.mk d.1 1 none))) e) (f undef e) (f undef e)) (joinV (λ _ f=>joinV (λ _ g=>g268_22 k a g) λ g=>g undef f) λ f=>f undef e)
def g268_27 (a:(FEnv [4])→H→R)(b:H):R:=joinV (λ _ c=>joinV (λ _ d=>joinV (λ _ e=>g268_22 k a e) λ e=>e undef d) λ d=>d undef c) λ c=>c undef b
def g268_28 (a:(FEnv [4])→H→R)(b c:Value)(d e:H):R:=onB b (joinV (λ f g=>joinV (λ h i=>joinV (λ j l=>g268_23 E rc k a c j d l) λ j=>g110_11 E j c h i) λ h=>g110_12 h c f g) λ f=>onG c (f (.pointer (some (Addr.mk d.1 3 none))) e) (f undef e) (f undef e)) (joinV (λ _ f=>joinV (λ _ g=>g268_27 k a g) λ g=>g undef f) λ f=>f undef e)
def g268_32 (a:(FEnv [4])→H→R)(b c:Value)(d e:H):R:=joinV (λ f g=>joinV (λ h i=>joinV (λ j l=>g268_28 E rc k a b j d l) λ j=>g110_32 E j b h i) λ h=>g110_33 E h b f g) λ f=>g110_12 f b c e
def g268_33 (a:(FEnv [4])→H→R)(b:V)(c d:H)(e:Nat):R:=ifB (Nat.ble 1 e) (binR (binC E .lss 3 false true) (getF b 0) (.int .i64 (.ofNat 0)) λ f=>joinV (λ g h=>g268_32 E rc k a f g c h) λ g=>onG f (g (.pointer (some (Addr.mk c.1 0 none))) d) (g undef d) (g undef d))
def g268_34 (a:(FEnv [4])→H→R)(b:Value)(c d:H):R:=@joinR [4] (λ e f=>a (e.1,()) f) λ e=>onB b (onRow (hget d c.1) λ _ f _ _ _ g=>g268_33 E rc k e g c d f) (k (.int .i64 (.ofNat 1)) d)
def g268_35 (a:Value)(b c:H):R:=@joinR [4] (λ d e=>onRow (hget e b.1) λ _ f _ _ _ g=>g268_17 E rc k d g a b e f) λ d=>binR (binC E .eql 44 false true) a (.pointer none) λ e=>g268_34 E rc k d e b c
def g268_36 (a:L)(b:Value)(c:H):R:=ifB (allF (λ d=>cell1F d) a) (ifB (Nat.ble c.1 1000000000) (letH (hpush c (.row 169 (lenF a) false false 0 (T.ofList unk a))) λ d=>g268_35 E rc k b c d))
def g268 (E:Env)(rc:RC)(a0 a1:Value)(h:H)(k:Value→H→R):R:=onCells a1 λ a=>g268_36 E rc k a a0 h
theorem g268_eq (t:ExtT)(rc:RC)(a0 a1:Value)(h:H)(k:Value→H→R):(funB (EX t) KK 268).run rc [a0,a1] h k = g268 (EX t) rc a0 a1 h k:=by kernel_rfl
def g359_1 (a:(FEnv [])→H→R)(b c d:Value)(e f:H):R:=onB d (a () f) (onRow (hget f e.1) λ _ g _ _ _ h=>ifB (Nat.ble 12 g) (joinL (λ i=>rc 99 [.agg ⟨cellsF h 12 0⟩,b,i] f λ _ j=>a () j) λ i=>g79_9 E i c f))
def g359_2 (a b c:Value)(d e:H):R:=binR (binC E .eql 41 false true) c (.int .i64 (.ofNat 0)) λ f=>@joinR [] (λ _ g=>k (.tuple ⟨[]⟩) g) λ g=>g359_1 E rc g a b f d e
def g359_3 (a:L)(b:V)(c d:Bool)(e:TypeId)(f g h:Value)(i j:H)(l m:Nat):R:=ifB (notB d) (ifB (Nat.beq (lenF a) 12) (ifB (Nat.ble m 0) (ifB (Nat.ble 12 l) (ifB (Nat.ble l 1000000000) (ifB (allF (λ n=>cell1F n) a) (letH (hset j i.1 (.row e l c false m (putF b 0 a))) λ n=>g359_2 E rc k f g h i n))))))
def g359_4 (a b c d:Value)(e:H):R:=ifB (Nat.ble e.1 1000000000) (letH (hpush e (.row 112 12 false false 0 (T.ofList unk [.pointer none,.pointer none,.int .i64 (.ofNat 0),.int .i64 (.ofNat 0),.int .u64 (.ofNat 0),.pointer none,.int .i64 (.ofNat 0),.int .i64 (.ofNat 0),.int .i64 (.ofNat 0),.pointer none,.int .i64 (.ofNat 0),.int .i64 (.ofNat 0)]))) λ f=>onCells c λ g=>onRow (hget f e.1) λ h i j l m n=>g359_3 E rc k g n j l h a b d e f i m)
def g359_5 (a:V)(b c d:Value)(e:H)(f:Nat):R:=ifB (Nat.ble 1 f) (rc 50 [getF a 0,b] e λ g h=>onTup g λ i=>nthF 0 i λ j=>onTup g λ l=>nthF 1 l λ m=>g359_4 E rc k c d j m h)
def g359_6 (a:L)(b c d:Value)(e:H):R:=ifB (allF (λ f=>cell1F f) a) (ifB (Nat.ble e.1 1000000000) (letH (hpush e (.row 88 (lenF a) false false 0 (T.ofList unk a))) λ f=>onRow (hget f e.1) λ _ g _ _ _ h=>g359_5 E rc k h b c d f g))
def g359 (E:Env)(rc:RC)(a0 a1 a2 a3:Value)(h:H)(k:Value→H→R):R:=onCells a0 λ a=>g359_6 E rc k a a1 a2 a3 h
theorem g359_eq (t:ExtT)(rc:RC)(a0 a1 a2 a3:Value)(h:H)(k:Value→H→R):(funB (EX t) KK 359).run rc [a0,a1,a2,a3] h k = g359 (EX t) rc a0 a1 a2 a3 h k:=by kernel_rfl
def g427_1 (a b c:Value)(d:H):R:=joinV (λ e f=>joinV (λ g h=>onB a (k g h) (k (.bool true) h)) λ g=>g211_11 E g a e f) λ e=>onG a (binR (binC E .shr 25 false false) b c λ f=>e f d) (e undef d) (e undef d)
def g427_2 (a:Value→H→R)(b c:Value)(d:H):R:=onG b (binR (binC E .mul 3 true false) (.int .i64 (.ofNat 8)) c λ e=>a e d) (a undef d) (a undef d)
def g427_4 (a:Value→H→R)(b c d:Value)(e:H):R:=onG b (onNat d none λ f=>onSl c none λ g h _=>ifB (Nat.ble (Nat.succ f) h) (addOffF g (Nat.mul f 1) λ i=>a i e)) (a undef e) (a undef e)
def g427_5 (a b c d:Value)(e:H):R:=joinV (λ f g=>joinV (λ h i=>joinV (λ j l=>g427_1 E k a b j l) λ j=>g427_2 E j a h i) λ h=>g110_12 h a f g) λ f=>g427_4 f a c d e
def g427_7 (a b c:Value)(d e:H):R:=joinV (λ f g=>joinV (λ h i=>joinV (λ j l=>g427_5 E k b c h j l) λ j=>onG b (j a i) (j undef i) (j undef i)) λ h=>g110_12 h b f g) λ f=>onG b (f (.pointer (some (Addr.mk d.1 0 none))) e) (f undef e) (f undef e)
def g427_8 (a:V)(b:Addr)(c d:Value)(e f:H)(g:Nat):R:=ifB (Nat.ble (Nat.succ b.2) g) (binR (binC E .eql 3 false true) (getF a b.2) (.int .i64 (.ofNat 8)) λ h=>joinV (λ i j=>g427_7 E k c h i e j) λ i=>onG h (i d f) (i undef f) (i undef f))
def g427_9 (a:Addr)(b c:Value)(d e:H)(f g:Nat):R:=ifB (Nat.ble (Nat.succ f) g) (addOffF a (Nat.mul f 1) λ h=>onPtr h λ i=>onRow (hget e i.1) λ _ j _ _ _ l=>g427_8 E k l i b c d e j)
def g427_10 (a b:Value)(c d:H):R:=onRow (hget d c.1) λ _ e _ _ _ f=>ifB (Nat.ble 1 e) (onNat a none λ g=>onSl (getF f 0) none λ h i _=>g427_9 E k h a b c d g i)
def g427_11 (a:L)(b c:Value)(d:H):R:=ifB (allF (λ e=>cell1F e) a) (ifB (Nat.ble d.1 1000000000) (letH (hpush d (.row 264 (lenF a) false false 0 (T.ofList unk a))) λ e=>g427_10 E k b c d e))
def g427 (E:Env)(rc:RC)(a0 a1 a2:Value)(h:H)(k:Value→H→R):R:=onCells a0 λ a=>g427_11 E k a a1 a2 h
theorem g427_eq (t:ExtT)(rc:RC)(a0 a1 a2:Value)(h:H)(k:Value→H→R):(funB (EX t) KK 427).run rc [a0,a1,a2] h k = g427 (EX t) rc a0 a1 a2 h k:=by kernel_rfl
def g428_0 (a b c:V)(d e:Addr)(f g:Value)(h:H)(i:Nat):R:=ifB (Nat.ble (Nat.succ e.2) i) (ifB (sameW (getF c e.2) (getF b d.2)) (ifB (sameW f f) (rc 42 [.agg ⟨cellsF a 3 0⟩,g,getF b d.2,f] h λ j l=>k j l)))
def g428_1 (a b:V)(c d:Addr)(e f g:Value)(h:H)(i j:Nat):R:=ifB (Nat.ble (Nat.succ i) j) (addOffF d (Nat.mul i 1) λ l=>ifB (sameW l f) (onPtr f λ m=>onRow (hget h m.1) λ _ n _ _ _ o=>g428_0 rc k a b o c m e g h n))
def g428_2 (a b c d:V)(e:Addr)(f g h i:Value)(j:H)(l:Nat):R:=ifB (Nat.ble 1 l) (ifB (sameW (getF d 0) (getF b 0)) (ifB (sameW f f) (onNat f none λ m=>onSl (getF b 0) none λ n o _=>g428_1 rc k a c e n g h i j m o)))
def g428_3 (a b c d:V)(e:Addr)(f g h i:Value)(j l:H)(m:Nat):R:=ifB (Nat.ble 3 m) (ifB (sameW (.agg ⟨cellsF d 3 0⟩) (.agg ⟨cellsF a 3 0⟩)) (ifB (sameW (.pointer (some (Addr.mk j.1 0 none))) (.pointer (some (Addr.mk j.1 0 none)))) (onRow (hget l j.1) λ _ n _ _ _ o=>g428_2 rc k a b c o e f g h i l n)))
def g428_4 (a b c d:V)(e:Addr)(f g h:Value)(i j l:H)(m:Nat):R:=ifB (Nat.ble (Nat.succ e.2) m) (rc 356 [.agg ⟨cellsF b 1 0⟩,f] l λ n o=>onRow (hget o j.1) λ _ p _ _ _ q=>g428_3 rc k a c d q e f g h n i o p)
def g428_5 (a b c:V)(d:Addr)(e f:Value)(g h i:H)(j l:Nat):R:=ifB (Nat.ble (Nat.succ j) l) (addOffF d (Nat.mul j 1) λ m=>onPtr m λ n=>onRow (hget i n.1) λ _ o _ _ _ p=>g428_4 rc k a b c p n e f m g h i o)
def g428_6 (a b:V)(c d:Value)(e f g:H)(h:Nat):R:=ifB (Nat.ble 1 h) (onRow (hget g e.1) λ _ i _ _ _ j=>ifB (Nat.ble 1 i) (onNat c none λ l=>onSl (getF j 0) none λ m n _=>g428_5 rc k a b j m c d e f g l n))
def g428_7 (a b:Value)(c d e:H):R:=onRow (hget e d.1) λ _ f _ _ _ g=>ifB (Nat.ble 3 f) (onRow (hget e c.1) λ _ h _ _ _ i=>g428_6 rc k g i a b c d e h)
def g428_8 (a:(FEnv [8])→H→R)(b:Value)(c:H):R:=onB b (@joinR [8] (λ d e=>a (d.1,()) e) λ _=>k (.int .i64 (.ofNat 16)) c) (@joinR [8] (λ d e=>a (d.1,()) e) λ d=>d (.int .i64 (.ofNat 0),()) c)
def g428_9 (a:(FEnv [8])→H→R)(b c:Value)(d e:H):R:=onRow (hget e d.1) λ _ f _ _ _ g=>ifB (Nat.ble 1 f) (rc 427 [.agg ⟨cellsF g 1 0⟩,b,c] e λ h i=>g428_8 k a h i)
def g428_10 (a:(FEnv [8])→H→R)(b c d:Value)(e f:H):R:=onB d (@joinR [8] (λ g h=>a (g.1,()) h) λ _=>k (.int .i64 (.ofNat 2)) f) (@joinR [8] (λ g h=>a (g.1,()) h) λ g=>g428_9 rc k g b c e f)
def g428_11 (a:(FEnv [8])→H→R)(b c:Value)(d e:H):R:=onRow (hget e d.1) λ _ f _ _ _ g=>ifB (Nat.ble 1 f) (rc 355 [.agg ⟨cellsF g 1 0⟩,b] e λ h i=>g428_10 rc k a b c h d i)
def g428_12 (a:L)(b c:Value)(d e:H):R:=ifB (allF (λ f=>cell1F f) a) (ifB (Nat.ble e.1 1000000000) (letH (hpush e (.row 78 (lenF a) false false 0 (T.ofList unk a))) λ f=>@joinR [8] (λ _ g=>ifB (Nat.ble g.1 1000000000) (letH (H.mk g.1 g.2) λ h=>g428_7 rc k b c d e h)) λ g=>g428_11 rc k g b c d f))
def g428_13 (a:L)(b c d:Value)(e:H):R:=ifB (allF (λ f=>cell1F f) a) (ifB (Nat.ble e.1 1000000000) (letH (hpush e (.row 264 (lenF a) false false 0 (T.ofList unk a))) λ f=>onCells b λ g=>g428_12 rc k g c d e f))
def g428 (E:Env)(rc:RC)(a0 a1 a2 a3:Value)(h:H)(k:Value→H→R):R:=onCells a0 λ a=>g428_13 rc k a a1 a2 a3 h
theorem g428_eq (t:ExtT)(rc:RC)(a0 a1 a2 a3:Value)(h:H)(k:Value→H→R):(funB (EX t) KK 428).run rc [a0,a1,a2,a3] h k = g428 (EX t) rc a0 a1 a2 a3 h k:=by kernel_rfl
def g252_0 (a b:H):R:=bindO (loadV E b 99 (Addr.mk a.1 0 none)) λ c=>ifB (nT [c,.int .i64 (.ofNat 0)]) (k (.tuple ⟨[c,.int .i64 (.ofNat 0)]⟩) b)
def g252_1 (a b:V)(c d:Bool)(e:TypeId)(f g:H)(h i:Nat):R:=ifB (notB d) (ifB (Nat.beq (lenF (cellsF a 2 0)) 2) (ifB (Nat.ble i 0) (ifB (Nat.ble 2 h) (ifB (Nat.ble h 1000000000) (ifB (allF (λ j=>cell1F j) (cellsF a 2 0)) (letH (hset g f.1 (.row e h c false i (putF b 0 (cellsF a 2 0)))) λ j=>g252_0 E k f j))))))
def g252_2 (a b c:H):R:=onRow (hget c a.1) λ _ d _ _ _ e=>ifB (Nat.ble 2 d) (onRow (hget c b.1) λ f g h i j l=>g252_1 E k e l h i f b c g j)
def g252_4 (a:(FEnv [1,2])→H→R)(b:FEnv [1,2])(c:L)(d:V)(e f:Bool)(g:Addr)(h:TypeId)(i:Value)(j:H)(l m:Nat):R:=ifB (notB f) (ifB (Nat.beq (lenF c) 1) (ifB (Nat.ble m g.2) (ifB (Nat.ble (Nat.add g.2 1) l) (ifB (Nat.ble l 1000000000) (ifB (allF (λ n=>cell1F n) c) (letH (hset j g.1 (.row h l e false m (putF d g.2 c))) λ n=>g85_0 E a b i n))))))
def g252_5 (a:(FEnv [1,2])→H→R)(b:FEnv [1,2])(c d e:Value)(f:H):R:=onPtr e λ g=>onCells d λ h=>onRow (hget f g.1) λ i j l m n o=>g252_4 E a b h o l m g i c f j n
def g252_6 (a:(FEnv [1,2])→H→R)(b:FEnv [1,2])(c:V)(d e f g:Value)(h:H):R:=ifB (sameW g e) (onNat e none λ i=>onSl (getF c 1) none λ j l _=>ifB (Nat.ble (Nat.succ i) l) (addOffF j (Nat.mul i 1) λ m=>g252_5 E a b d f m h))
def g252_7 (a:(FEnv [1,2])→H→R)(b:FEnv [1,2])(c d:V)(e f g:Value)(h:H)(i:Nat):R:=ifB (Nat.ble 2 i) (ifB (sameW (getF d 1) (getF c 1)) (ifB (sameW b.1 b.1) (binR (binC E .quo 3 false true) b.1 (.int .i64 (.ofNat 64)) λ j=>g252_6 E a b c e f g j h)))
def g252_8 (a:(FEnv [1,2])→H→R)(b:FEnv [1,2])(c:V)(d e f:Value)(g h:H):R:=ifB (sameW (.pointer (some (Addr.mk g.1 1 none))) (.pointer (some (Addr.mk g.1 1 none)))) (onRow (hget h g.1) λ _ i _ _ _ j=>g252_7 E a b c j d e f h i)
def g252_9 (a:(FEnv [1,2])→H→R)(b:FEnv [1,2])(c d:V)(e:Addr)(f g h i:Value)(j l:H)(m:Nat):R:=ifB (Nat.ble (Nat.succ e.2) m) (onF f λ n o p=>rc n (catV o p [getF d e.2,g]) l λ q r=>g252_8 E a b c h i q j r)
def g252_10 (a:(FEnv [1,2])→H→R)(b:FEnv [1,2])(c:V)(d:Addr)(e f g h:Value)(i j:H)(l m:Nat):R:=ifB (Nat.ble (Nat.succ l) m) (addOffF d (Nat.mul l 1) λ n=>onPtr n λ o=>onRow (hget j o.1) λ _ p _ _ _ q=>g252_9 E rc a b c q o e f g h i j p)
def g252_11 (a:(FEnv [1,2])→H→R)(b:FEnv [1,2])(c d:V)(e f g h:Value)(i j:H)(l:Nat):R:=ifB (Nat.ble 2 l) (binR (binC E .quo 3 false true) b.1 (.int .i64 (.ofNat 64)) λ m=>onNat m none λ n=>onSl (getF d 1) none λ o p _=>g252_10 E rc a b c o e f g h i j n p)
def g252_12 (a:(FEnv [1,2])→H→R)(b:FEnv [1,2])(c:V)(d e f:Value)(g h:H)(i:Nat):R:=ifB (Nat.ble 2 i) (binR (binC E .quo 3 false true) b.1 (.int .i64 (.ofNat 64)) λ j=>onRow (hget h g.1) λ _ l _ _ _ m=>g252_11 E rc a b c m d e f j g h l)
def g252_13 (a:(FEnv [1,2])→H→R)(b:FEnv [1,2])(c d e:Value)(f g:H):R:=ifB (Nat.ble g.1 1000000000) (letH (H.mk g.1 g.2) λ h=>onRow (hget h f.1) λ _ i _ _ _ j=>g252_12 E rc a b j c d e f h i)
def g252_14 (a:(FEnv [1,2])→H→R)(b:FEnv [1,2])(c:Value)(d e:H):R:=@joinR [1,2] (λ f g=>a (f.1,(f.2.1,())) g) λ f=>rc 262 [b.1,b.2.1] e λ g h=>onTup g λ i=>nthF 0 i λ j=>onTup g λ l=>nthF 1 l λ m=>g252_13 E rc f b c j m d h
def g252_15 (a:(FEnv [1,2])→H→R)(b:(FEnv [])→H→R)(c:FEnv [1,2])(d:Value)(e f:H):R:=binR (binC E .gtr 3 false true) c.2.1 (.int .i64 (.ofNat 0)) λ g=>@joinR [] (λ _ h=>g252_14 E rc a c d e h) λ h=>onB g (b () f) (h () f)
def g252_16 (a:L)(b:V)(c d:Bool)(e:TypeId)(f g h:Value)(i j l:H)(m n:Nat):R:=ifB (notB d) (ifB (Nat.beq (lenF a) 1) (ifB (Nat.ble n 1) (ifB (Nat.ble 2 m) (ifB (Nat.ble m 1000000000) (ifB (allF (λ o=>cell1F o) a) (letH (hset l i.1 (.row e m c false n (putF b 1 a))) λ o=>@joinR [] (λ _ p=>g252_2 E k i j p) λ p=>@loopF [1,2] (λ q r s=>g252_15 E rc q p r h i s) 1000000 (f,(g,())) o))))))
def g252_17 (a:V)(b c d:Value)(e f g:H)(h:Nat):R:=ifB (Nat.ble 2 h) (rc 341 [getF a 1] g λ i j=>onCells i λ l=>onRow (hget j e.1) λ m n o p q r=>g252_16 E rc k l r o p m b c d e f j n q)
def g252_18 (a b:H):R:=bindO (loadV E b 99 (Addr.mk a.1 0 none)) λ c=>ifB (nT [c,.int .i64 (.ofNat 3)]) (k (.tuple ⟨[c,.int .i64 (.ofNat 3)]⟩) b)
def g252_19 (a b:V)(c d:Bool)(e:TypeId)(f g:H)(h i:Nat):R:=ifB (notB d) (ifB (Nat.beq (lenF (cellsF a 2 0)) 2) (ifB (Nat.ble i 0) (ifB (Nat.ble 2 h) (ifB (Nat.ble h 1000000000) (ifB (allF (λ j=>cell1F j) (cellsF a 2 0)) (letH (hset g f.1 (.row e h c false i (putF b 0 (cellsF a 2 0)))) λ j=>g252_18 E k f j))))))
def g252_20 (a b c:H):R:=onRow (hget c a.1) λ _ d _ _ _ e=>ifB (Nat.ble 2 d) (onRow (hget c b.1) λ f g h i j l=>g252_19 E k e l h i f b c g j)
def g252_39 (a b c d:Value)(e f g:H):R:=onB d (@joinR [9] (λ _ h=>onRow (hget h e.1) λ _ i _ _ _ j=>g252_17 E rc k j a b c e f h i) λ _=>g252_20 E k e f g) (@joinR [9] (λ _ h=>onRow (hget h e.1) λ _ i _ _ _ j=>g252_17 E rc k j a b c e f h i) λ h=>h (.int .i64 (.ofNat 0),()) g)
def g252_40 (a b c:Value)(d e f:H):R:=onRow (hget f d.1) λ _ g _ _ _ h=>ifB (Nat.ble 2 g) (rc 261 [.agg ⟨cellsF h 2 0⟩,a,b] f λ i j=>g252_39 E rc k a b c i d e j)
def g252_41 (a b c:Value)(d e:H):R:=ifB (Nat.ble e.1 1000000000) (letH (hpush e (.row 99 2 false false 0 (T.ofList unk [.int .i64 (.ofNat 0),.slice none 0 0]))) λ f=>g252_40 E rc k a b c d e f)
def g252_42 (a:L)(b c d:Value)(e:H):R:=ifB (allF (λ f=>cell1F f) a) (ifB (Nat.ble e.1 1000000000) (letH (hpush e (.row 99 (lenF a) false false 0 (T.ofList unk a))) λ f=>g252_41 E rc k b c d e f))
def g252 (E:Env)(rc:RC)(a0 a1 a2 a3:Value)(h:H)(k:Value→H→R):R:=onCells a0 λ a=>g252_42 E rc k a a1 a2 a3 h
theorem g252_eq (t:ExtT)(rc:RC)(a0 a1 a2 a3:Value)(h:H)(k:Value→H→R):(funB (EX t) KK 252).run rc [a0,a1,a2,a3] h k = g252 (EX t) rc a0 a1 a2 a3 h k:=by kernel_rfl
def g253 (E:Env)(rc:RC)(a0 a1:Value)(h:H)(k:Value→H→R):R:=binR (binC E .or 25 false false) a0 a1 λ a=>k a h
theorem g253_eq (t:ExtT)(rc:RC)(a0 a1:Value)(h:H)(k:Value→H→R):(funB (EX t) KK 253).run rc [a0,a1] h k = g253 (EX t) rc a0 a1 h k:=by kernel_rfl
def g258_0 (a:V)(b:H)(c:Nat):R:=ifB (Nat.ble 3 c) (rc 180 [.agg ⟨cellsF a 3 0⟩] b λ d e=>binR (binC E .quo 3 false true) d (.int .i64 (.ofNat 8)) λ f=>k f e)
def g258_1 (a:L)(b:H):R:=ifB (allF (λ c=>cell1F c) a) (ifB (Nat.ble b.1 1000000000) (letH (hpush b (.row 80 (lenF a) false false 0 (T.ofList unk a))) λ c=>onRow (hget c b.1) λ _ d _ _ _ e=>g258_0 E rc k e c d))
def g258 (E:Env)(rc:RC)(a0:Value)(h:H)(k:Value→H→R):R:=onCells a0 λ a=>g258_1 E rc k a h
theorem g258_eq (t:ExtT)(rc:RC)(a0:Value)(h:H)(k:Value→H→R):(funB (EX t) KK 258).run rc [a0] h k = g258 (EX t) rc a0 h k:=by kernel_rfl
def g290_0 (a b:H):R:=bindO (loadV E b 106 (Addr.mk a.1 0 none)) λ c=>ifB (nT [c,.int .i64 (.ofNat 0)]) (k (.tuple ⟨[c,.int .i64 (.ofNat 0)]⟩) b)
def g290_1 (a:L)(b:V)(c d:Bool)(e:TypeId)(f g:H)(h i:Nat):R:=ifB (notB d) (ifB (Nat.beq (lenF a) 5) (ifB (Nat.ble i 0) (ifB (Nat.ble 5 h) (ifB (Nat.ble h 1000000000) (ifB (allF (λ j=>cell1F j) a) (letH (hset g f.1 (.row e h c false i (putF b 0 a))) λ j=>g290_0 E k f j))))))
def g290_2 (a:V)(b c:Value)(d e:H)(f:Nat):R:=ifB (Nat.ble 3 f) (bindO (buildV E 106 [(0,b),(1,.agg ⟨cellsF a 3 0⟩),(2,c)]) λ g=>onCells g λ h=>onRow (hget e d.1) λ i j l m n o=>g290_1 E k h o l m i d e j n)
def g290_3 (a b:H):R:=bindO (loadV E b 106 (Addr.mk a.1 0 none)) λ c=>ifB (nT [c,.int .i64 (.ofNat 2)]) (k (.tuple ⟨[c,.int .i64 (.ofNat 2)]⟩) b)
def g290_4 (a:V)(b c:Bool)(d:TypeId)(e f:H)(g h:Nat):R:=ifB (notB c) (ifB (Nat.beq (lenF (cellsOfV (.agg (@List.toArray Value [.pointer none,.pointer none,.int .i64 (.ofNat 0),.int .i64 (.ofNat 0),.int .u64 (.ofNat 0)])))) 5) (ifB (Nat.ble h 0) (ifB (Nat.ble 5 g) (ifB (Nat.ble g 1000000000) (ifB (allF (λ i=>cell1F i) (cellsOfV (.agg (@List.toArray Value [.pointer none,.pointer none,.int .i64 (.ofNat 0),.int .i64 (.ofNat 0),.int .u64 (.ofNat 0)])))) (letH (hset f e.1 (.row d g b false h (putF a 0 (cellsOfV (.agg (@List.toArray Value [.pointer none,.pointer none,.int .i64 (.ofNat 0),.int .i64 (.ofNat 0),.int .u64 (.ofNat 0)])))))) λ i=>g290_3 E k e i))))))
def g290_5 (a:(FEnv [7])→H→R)(b:Value)(c d:H):R:=onB b (a (.int .i64 (.ofNat 0),()) d) (onRow (hget d c.1) λ e f g h i j=>g290_4 E k j g h e c d f i)
def g290_6 (a b:H):R:=bindO (loadV E b 106 (Addr.mk a.1 0 none)) λ c=>ifB (nT [c,.int .i64 (.ofNat 3)]) (k (.tuple ⟨[c,.int .i64 (.ofNat 3)]⟩) b)
def g290_7 (a:V)(b c:Bool)(d:TypeId)(e f:H)(g h:Nat):R:=ifB (notB c) (ifB (Nat.beq (lenF (cellsOfV (.agg (@List.toArray Value [.pointer none,.pointer none,.int .i64 (.ofNat 0),.int .i64 (.ofNat 0),.int .u64 (.ofNat 0)])))) 5) (ifB (Nat.ble h 0) (ifB (Nat.ble 5 g) (ifB (Nat.ble g 1000000000) (ifB (allF (λ i=>cell1F i) (cellsOfV (.agg (@List.toArray Value [.pointer none,.pointer none,.int .i64 (.ofNat 0),.int .i64 (.ofNat 0),.int .u64 (.ofNat 0)])))) (letH (hset f e.1 (.row d g b false h (putF a 0 (cellsOfV (.agg (@List.toArray Value [.pointer none,.pointer none,.int .i64 (.ofNat 0),.int .i64 (.ofNat 0),.int .u64 (.ofNat 0)])))))) λ i=>g290_6 E k e i))))))
def g290_8 (a:(FEnv [7])→H→R)(b c:Value)(d e:H):R:=onB c (binR (binC E .eql 25 false true) b (.int .u64 (.ofNat 0)) λ f=>@joinR [7] (λ g h=>a (g.1,()) h) λ g=>g290_5 E k g f d e) (onRow (hget e d.1) λ f g h i j l=>g290_7 E k l h i f d e g j)
def g290_9 (a:(FEnv [7])→H→R)(b c:Value)(d e:H):R:=binR (binC E .lss 3 false true) c (.int .i64 (.ofNat 8)) λ f=>@joinR [7] (λ g h=>a (g.1,()) h) λ g=>g290_8 E k g b f d e
def g290_10 (a b:H):R:=bindO (loadV E b 106 (Addr.mk a.1 0 none)) λ c=>ifB (nT [c,.int .i64 (.ofNat 1)]) (k (.tuple ⟨[c,.int .i64 (.ofNat 1)]⟩) b)
def g290_11 (a:V)(b c:Bool)(d:TypeId)(e f:H)(g h:Nat):R:=ifB (notB c) (ifB (Nat.beq (lenF (cellsOfV (.agg (@List.toArray Value [.pointer none,.pointer none,.int .i64 (.ofNat 0),.int .i64 (.ofNat 0),.int .u64 (.ofNat 0)])))) 5) (ifB (Nat.ble h 0) (ifB (Nat.ble 5 g) (ifB (Nat.ble g 1000000000) (ifB (allF (λ i=>cell1F i) (cellsOfV (.agg (@List.toArray Value [.pointer none,.pointer none,.int .i64 (.ofNat 0),.int .i64 (.ofNat 0),.int .u64 (.ofNat 0)])))) (letH (hset f e.1 (.row d g b false h (putF a 0 (cellsOfV (.agg (@List.toArray Value [.pointer none,.pointer none,.int .i64 (.ofNat 0),.int .i64 (.ofNat 0),.int .u64 (.ofNat 0)])))))) λ i=>g290_10 E k e i))))))
def g290_12 (a:(FEnv [7])→H→R)(b:FEnv [8])(c:Value)(d e f:H):R:=onB b.1 (onRow (hget f d.1) λ _ g _ _ _ h=>ifB (Nat.ble 3 g) (rc 180 [.agg ⟨cellsF h 3 0⟩] f λ i j=>g290_9 E k a c i e j)) (onRow (hget f e.1) λ g h i j l m=>g290_11 E k m i j g e f h l)
def g290_13 (a:(FEnv [8])→H→R)(b:V)(c:H)(d:Nat):R:=ifB (Nat.ble 1 d) (binR (binC E .eql 44 false true) (getF b 0) (.pointer none) λ e=>a (e,()) c)
def g290_14 (a:(FEnv [7])→H→R)(b c:Value)(d e f:H):R:=@joinR [8] (λ g h=>@joinR [7] (λ i j=>a (i.1,()) j) λ i=>g290_12 E rc k i g b d e h) λ g=>onB c (onRow (hget f d.1) λ _ h _ _ _ i=>g290_13 E g i f h) (g (c,()) f)
def g290_15 (a b:Value)(c d e:H):R:=@joinR [7] (λ _ f=>onRow (hget f c.1) λ _ g _ _ _ h=>g290_2 E k h a b d f g) λ f=>binR (binC E .eql 86 false true) a (.pointer none) λ g=>g290_14 E rc k f b g c d e
def g290_16 (a b:Value)(c d:H):R:=ifB (Nat.ble d.1 1000000000) (letH (hpush d (.row 106 5 false false 0 (T.ofList unk [.pointer none,.pointer none,.int .i64 (.ofNat 0),.int .i64 (.ofNat 0),.int .u64 (.ofNat 0)]))) λ e=>g290_15 E rc k a b c d e)
def g290_17 (a:L)(b c:Value)(d:H):R:=ifB (allF (λ e=>cell1F e) a) (ifB (Nat.ble d.1 1000000000) (letH (hpush d (.row 78 (lenF a) false false 0 (T.ofList unk a))) λ e=>g290_16 E rc k b c d e))
def g290 (E:Env)(rc:RC)(a0 a1 a2:Value)(h:H)(k:Value→H→R):R:=onCells a1 λ a=>g290_17 E rc k a a0 a2 h
theorem g290_eq (t:ExtT)(rc:RC)(a0 a1 a2:Value)(h:H)(k:Value→H→R):(funB (EX t) KK 290).run rc [a0,a1,a2] h k = g290 (EX t) rc a0 a1 a2 h k:=by kernel_rfl
def g353_0 (a:Value)(b:H):R:=ifB (Nat.ble b.1 1000000000) (letH (hpush b (.row 3 0 false false 0 (T.ofList unk (List.flatten (List.replicate 0 (cellsOfV (.int .i64 (.ofNat 0)))))))) λ c=>bindP (heavyB E c Builtin.append [.slice (some (Addr.mk b.1 0 none)) 0 0,a] [50,50]) λ d e=>k d e)
def g353 (E:Env)(rc:RC)(a0:Value)(h:H)(k:Value→H→R):R:=binR (binC E .eql 50 false true) a0 (.slice none 0 0) λ a=>@joinR [2] (λ _ b=>g353_0 E k a0 b) λ b=>onB a (b (.slice none 0 0,()) h) (k (.slice none 0 0) h)
theorem g353_eq (t:ExtT)(rc:RC)(a0:Value)(h:H)(k:Value→H→R):(funB (EX t) KK 353).run rc [a0] h k = g353 (EX t) rc a0 h k:=by kernel_rfl
def g354_0 (a:(FEnv [5])→H→R)(b:FEnv [5,13])(c:Addr)(d:H):R:=onRow (hget d c.1) λ _ e _ _ _ f=>ifB (Nat.ble (Nat.succ c.2) e) (binR (binC E .add 3 false false) b.1 (getF f c.2) λ g=>a (g,()) d)
def g354_1 (a:(FEnv [5])→H→R)(b:FEnv [5,13])(c:Value)(d:H):R:=onNat b.2.1 none λ e=>onSl c none λ f g _=>ifB (Nat.ble (Nat.succ e) g) (addOffF f (Nat.mul e 1) λ h=>onPtr h λ i=>g354_0 E a b i d)
def g354_2 (a:(FEnv [5,13])→H→R)(b:FEnv [5,13])(c:Value)(d:H):R:=@joinR [5] (λ e f=>binR (binC E .add 3 false true) b.2.1 (.int .i64 (.ofNat 1)) λ g=>a (e.1,(g,())) f) λ e=>g354_1 E e b c d
def g354_3 (a:(FEnv [5,13])→H→R)(b:(FEnv [5])→H→R)(c:FEnv [5,13])(d e:Value)(f:H):R:=binR (binC E .lss 3 false false) c.2.1 e λ g=>@joinR [] (λ _ h=>g354_2 E a c d h) λ h=>onB g (b (c.1,()) f) (h () f)
def g354_4 (a b:Value)(c:H):R:=@joinR [5] (λ d e=>k d.1 e) λ d=>@loopF [5,13] (λ e f g=>g354_3 E e d f a b g) 1000000 (.int .i64 (.ofNat 0),(.int .i64 (.ofNat 0),())) c
def g354_5 (a:V)(b:Value)(c:H)(d:Nat):R:=ifB (Nat.ble 1 d) (bindO (sliceV E 50 (getF a 0) none (some b) none) λ e=>joinL (λ f=>g354_4 E k e f c) λ f=>onSl e (bindO (lenV E c 50 e) f) λ _ g _=>f (.int .i64 (.ofNat g)))
def g354_6 (a:L)(b:Value)(c:H):R:=ifB (allF (λ d=>cell1F d) a) (ifB (Nat.ble c.1 1000000000) (letH (hpush c (.row 264 (lenF a) false false 0 (T.ofList unk a))) λ d=>onRow (hget d c.1) λ _ e _ _ _ f=>g354_5 E k f b d e))
def g354 (E:Env)(rc:RC)(a0 a1:Value)(h:H)(k:Value→H→R):R:=onCells a0 λ a=>g354_6 E k a a1 h
theorem g354_eq (t:ExtT)(rc:RC)(a0 a1:Value)(h:H)(k:Value→H→R):(funB (EX t) KK 354).run rc [a0,a1] h k = g354 (EX t) rc a0 a1 h k:=by kernel_rfl
def g355_0 (a b c:Value)(d:H):R:=joinV (λ e f=>onB a (k (.bool false) f) (k e f)) λ e=>onG a (e undef d) (binR (binC E .lss 3 false false) b c λ f=>e f d) (e undef d)
def g355_1 (a:Value→H→R)(b c:Value)(d:H):R:=onG b (a undef d) (joinL (λ e=>a e d) λ e=>onSl c (bindO (lenV E d 50 c) e) λ _ f _=>e (.int .i64 (.ofNat f))) (a undef d)
def g355_3 (a b:Value)(c d:H):R:=joinV (λ e f=>joinV (λ g h=>joinV (λ i j=>g355_0 E k a b i j) λ i=>g355_1 E i a g h) λ g=>g261_5 g a e f) λ e=>onG a (e undef d) (e (.pointer (some (Addr.mk c.1 0 none))) d) (e undef d)
def g355_4 (a:Value)(b c:H):R:=binR (binC E .geq 3 false true) a (.int .i64 (.ofNat 0)) λ d=>joinV (λ e f=>g355_3 E k d e b f) λ e=>onG d (e undef c) (e a c) (e undef c)
def g355_5 (a:L)(b:Value)(c:H):R:=ifB (allF (λ d=>cell1F d) a) (ifB (Nat.ble c.1 1000000000) (letH (hpush c (.row 264 (lenF a) false false 0 (T.ofList unk a))) λ d=>g355_4 E k b c d))
def g355 (E:Env)(rc:RC)(a0 a1:Value)(h:H)(k:Value→H→R):R:=onCells a0 λ a=>g355_5 E k a a1 h
theorem g355_eq (t:ExtT)(rc:RC)(a0 a1:Value)(h:H)(k:Value→H→R):(funB (EX t) KK 355).run rc [a0,a1] h k = g355 (EX t) rc a0 a1 h k:=by kernel_rfl
def g356_0 (a:Value)(b c:H):R:=onRow (hget c b.1) λ _ d _ _ _ e=>ifB (Nat.ble 1 d) (rc 354 [.agg ⟨cellsF e 1 0⟩,a] c λ f g=>k f g)
def g356_2 (a b:Value)(c d:H):R:=onB b (@joinR [4] (λ _ e=>g356_0 rc k a c e) λ _=>k (.int .i64 (.ofNat 0)) d) (@joinR [4] (λ _ e=>g356_0 rc k a c e) λ e=>e (.int .i64 (.ofNat 0),()) d)
def g356_3 (a:Value)(b c:H):R:=onRow (hget c b.1) λ _ d _ _ _ e=>ifB (Nat.ble 1 d) (rc 355 [.agg ⟨cellsF e 1 0⟩,a] c λ f g=>g356_2 rc k a f b g)
def g356_4 (a:L)(b:Value)(c:H):R:=ifB (allF (λ d=>cell1F d) a) (ifB (Nat.ble c.1 1000000000) (letH (hpush c (.row 264 (lenF a) false false 0 (T.ofList unk a))) λ d=>g356_3 rc k b c d))
def g356 (E:Env)(rc:RC)(a0 a1:Value)(h:H)(k:Value→H→R):R:=onCells a0 λ a=>g356_4 rc k a a1 h
theorem g356_eq (t:ExtT)(rc:RC)(a0 a1:Value)(h:H)(k:Value→H→R):(funB (EX t) KK 356).run rc [a0,a1] h k = g356 (EX t) rc a0 a1 h k:=by kernel_rfl
def g341_0 (a:Value)(b:H):R:=ifB (Nat.ble b.1 1000000000) (letH (hpush b (.row 25 0 false false 0 (T.ofList unk (List.flatten (List.replicate 0 (cellsOfV (.int .u64 (.ofNat 0)))))))) λ c=>bindP (heavyB E c Builtin.append [.slice (some (Addr.mk b.1 0 none)) 0 0,a] [97,97]) λ d e=>k d e)
def g341 (E:Env)(rc:RC)(a0:Value)(h:H)(k:Value→H→R):R:=binR (binC E .eql 97 false true) a0 (.slice none 0 0) λ a=>@joinR [2] (λ _ b=>g341_0 E k a0 b) λ b=>onB a (b (.slice none 0 0,()) h) (k (.slice none 0 0) h)
theorem g341_eq (t:ExtT)(rc:RC)(a0:Value)(h:H)(k:Value→H→R):(funB (EX t) KK 341).run rc [a0] h k = g341 (EX t) rc a0 h k:=by kernel_rfl
def g298_0 (a:V)(b:H)(c:Nat):R:=ifB (Nat.ble 3 c) (rc 180 [.agg ⟨cellsF a 3 0⟩] b λ d e=>binR (binC E .quo 3 false true) d (.int .i64 (.ofNat 24)) λ f=>k f e)
def g298_1 (a:L)(b:H):R:=ifB (allF (λ c=>cell1F c) a) (ifB (Nat.ble b.1 1000000000) (letH (hpush b (.row 276 (lenF a) false false 0 (T.ofList unk a))) λ c=>onRow (hget c b.1) λ _ d _ _ _ e=>g298_0 E rc k e c d))
def g298 (E:Env)(rc:RC)(a0:Value)(h:H)(k:Value→H→R):R:=onCells a0 λ a=>g298_1 E rc k a h
theorem g298_eq (t:ExtT)(rc:RC)(a0:Value)(h:H)(k:Value→H→R):(funB (EX t) KK 298).run rc [a0] h k = g298 (EX t) rc a0 h k:=by kernel_rfl
def g299_0 (a b:H):R:=bindO (loadV E b 344 (Addr.mk a.1 0 none)) λ c=>ifB (nT [c,.bool true]) (k (.tuple ⟨[c,.bool true]⟩) b)
def g299_1 (a:L)(b:V)(c d:Bool)(e:TypeId)(f g:H)(h i:Nat):R:=ifB (notB d) (ifB (Nat.beq (lenF a) 4) (ifB (Nat.ble i 0) (ifB (Nat.ble 4 h) (ifB (Nat.ble h 1000000000) (ifB (allF (λ j=>cell1F j) a) (letH (hset g f.1 (.row e h c false i (putF b 0 a))) λ j=>g299_0 E k f j))))))
def g299_2 (a:V)(b:Addr)(c d e:Value)(f g:H)(h:Nat):R:=ifB (Nat.ble (Nat.succ b.2) h) (bindO (buildV E 344 [(0,c),(1,d),(2,e),(3,getF a b.2)]) λ i=>onCells i λ j=>onRow (hget g f.1) λ l m n o p q=>g299_1 E k j q n o l f g m p)
def g299_3 (a:Addr)(b c d:Value)(e f:H)(g:Nat):R:=ifB (Nat.ble 2 g) (addOffF a 1 λ h=>onPtr h λ i=>onRow (hget f i.1) λ _ j _ _ _ l=>g299_2 E k l i b c d e f j)
def g299_4 (a:Value→R)(b:Value)(c:H):R:=onNat b (bindO (convV E c 25 5 b) a) λ d=>@Bool.rec (λ _=>R) (bindO (convV E c 25 5 b) a) (a (.int .u8 (.ofNat d))) (Nat.ble d 255)
def g299_5 (a:V)(b:Addr)(c d e:Value)(f g:H)(h:Nat):R:=ifB (Nat.ble (Nat.succ b.2) h) (binR (binC E .shr 25 false true) (getF a b.2) (.int .u64 (.ofNat 8)) λ i=>joinL (λ j=>onSl c none λ l m _=>g299_3 E k l d e j f g m) λ j=>g299_4 E j i g)
def g299_6 (a b c:Value)(d e:H):R:=onSl a none λ f g _=>ifB (Nat.ble 1 g) (onRow (hget e f.1) λ _ h _ _ _ i=>g299_5 E k i f a b c d e h)
def g299_7 (a:Value→R)(b:V)(c:Addr)(d:H):R:=onNat (getF b c.2) (bindO (convV E d 25 5 (getF b c.2)) a) λ e=>@Bool.rec (λ _=>R) (bindO (convV E d 25 5 (getF b c.2)) a) (a (.int .u8 (.ofNat e))) (Nat.ble e 255)
def g299_8 (a:Addr)(b c:Value)(d e:H)(f:Nat):R:=ifB (Nat.ble 1 f) (onRow (hget e a.1) λ _ g _ _ _ h=>ifB (Nat.ble (Nat.succ a.2) g) (joinL (λ i=>g299_6 E k b c i d e) λ i=>g299_7 E i h a e))
def g299_9 (a:V)(b:Addr)(c:Value)(d e:H)(f:Nat):R:=ifB (Nat.ble (Nat.succ b.2) f) (binR (binC E .shr 25 false true) (getF a b.2) (.int .u64 (.ofNat 16)) λ g=>onSl c none λ h i _=>g299_8 E k h c g d e i)
def g299_10 (a:Value)(b c:H):R:=onSl a none λ d e _=>ifB (Nat.ble 1 e) (onRow (hget c d.1) λ _ f _ _ _ g=>g299_9 E k g d a b c f)
def g299_11 (a b:H):R:=bindO (loadV E b 344 (Addr.mk a.1 0 none)) λ c=>ifB (nT [c,.bool false]) (k (.tuple ⟨[c,.bool false]⟩) b)
def g299_12 (a:V)(b c:Bool)(d:TypeId)(e f:H)(g h:Nat):R:=ifB (notB c) (ifB (Nat.beq (lenF (cellsOfV (.agg (@List.toArray Value [.int .u64 (.ofNat 0),.int .u8 (.ofNat 0),.int .u8 (.ofNat 0),.int .u64 (.ofNat 0)])))) 4) (ifB (Nat.ble h 0) (ifB (Nat.ble 4 g) (ifB (Nat.ble g 1000000000) (ifB (allF (λ i=>cell1F i) (cellsOfV (.agg (@List.toArray Value [.int .u64 (.ofNat 0),.int .u8 (.ofNat 0),.int .u8 (.ofNat 0),.int .u64 (.ofNat 0)])))) (letH (hset f e.1 (.row d g b false h (putF a 0 (cellsOfV (.agg (@List.toArray Value [.int .u64 (.ofNat 0),.int .u8 (.ofNat 0),.int .u8 (.ofNat 0),.int .u64 (.ofNat 0)])))))) λ i=>g299_11 E k e i))))))
def g299_26 (a b c:Value)(d e:H):R:=onB b (@joinR [5] (λ _ f=>ifB (Nat.ble f.1 1000000000) (letH (H.mk f.1 f.2) λ g=>g299_10 E k a d g)) λ f=>onB c (f (.bool false,()) e) (onRow (hget e d.1) λ g h i j l m=>g299_12 E k m i j g d e h l)) (@joinR [5] (λ _ f=>ifB (Nat.ble f.1 1000000000) (letH (H.mk f.1 f.2) λ g=>g299_10 E k a d g)) λ _=>onRow (hget e d.1) λ f g h i j l=>g299_12 E k l h i f d e g j)
def g299_28 (a:Value→H→R)(b c:Value)(d:H):R:=onG b (binR (binC E .shr 25 false true) c (.int .u64 (.ofNat 16)) λ e=>a e d) (a undef d) (a undef d)
def g299_30 (a b c:Value)(d e:H):R:=joinV (λ f g=>joinV (λ h i=>joinV (λ j l=>g299_26 E k a b j d l) λ j=>g211_11 E j b h i) λ h=>g299_28 E h b f g) λ f=>g110_12 f b c e
def g299_31 (a b c:Value)(d e:H):R:=joinV (λ f g=>g299_30 E k a b f d g) λ f=>onG b (onSl c none λ g h _=>ifB (Nat.ble 1 h) (f (.pointer (some g)) e)) (f undef e) (f undef e)
def g299_32 (a b:Value)(c d:H):R:=binR (binC E .neq 41 false true) b (.int .i64 (.ofNat 0)) λ e=>joinV (λ f g=>g299_31 E k a e f c g) λ f=>onG e (f a d) (f undef d) (f undef d)
def g299_33 (a b:V)(c d:Value)(e f:H)(g:Nat):R:=ifB (Nat.ble 3 g) (ifB (sameW (.agg ⟨cellsF b 3 0⟩) (.agg ⟨cellsF a 3 0⟩)) (ifB (sameW c c) (rc 358 [.agg ⟨cellsF a 3 0⟩,c] f λ h i=>rc 201 [d,h] i λ j l=>onTup j λ m=>nthF 0 m λ n=>onTup j λ o=>nthF 1 o λ p=>g299_32 E k n p e l)))
def g299_34 (a:V)(b:Value)(c d e:H)(f:Nat):R:=ifB (Nat.ble 3 f) (rc 357 [] e λ g h=>onRow (hget h c.1) λ _ i _ _ _ j=>g299_33 E rc k a j b g d h i)
def g299_35 (a:Value)(b c d:H):R:=ifB (Nat.ble d.1 1000000000) (letH (H.mk d.1 d.2) λ e=>onRow (hget e b.1) λ _ f _ _ _ g=>g299_34 E rc k g a b c e f)
def g299_36 (a:Value)(b c:H):R:=ifB (Nat.ble c.1 1000000000) (letH (hpush c (.row 344 4 false false 0 (T.ofList unk [.int .u64 (.ofNat 0),.int .u8 (.ofNat 0),.int .u8 (.ofNat 0),.int .u64 (.ofNat 0)]))) λ d=>g299_35 E rc k a b c d)
def g299_37 (a:L)(b:Value)(c:H):R:=ifB (allF (λ d=>cell1F d) a) (ifB (Nat.ble c.1 1000000000) (letH (hpush c (.row 276 (lenF a) false false 0 (T.ofList unk a))) λ d=>g299_36 E rc k b c d))
def g299 (E:Env)(rc:RC)(a0 a1:Value)(h:H)(k:Value→H→R):R:=onCells a0 λ a=>g299_37 E rc k a a1 h
theorem g299_eq (t:ExtT)(rc:RC)(a0 a1:Value)(h:H)(k:Value→H→R):(funB (EX t) KK 299).run rc [a0,a1] h k = g299 (EX t) rc a0 a1 h k:=by kernel_rfl
def g357 (E:Env)(rc:RC)(h:H)(k:Value→H→R):R:=ifB (Nat.ble h.1 1000000000) (letH (hpush h (.row 264 1 false false 0 (T.ofList unk [.slice none 0 0]))) λ a=>g296_5 E rc k h a)
theorem g357_eq (t:ExtT)(rc:RC)(h:H)(k:Value→H→R):(funB (EX t) KK 357).run rc [] h k = g357 (EX t) rc  h k:=by kernel_rfl
def g358_4 (a:V)(b:Value)(c d:H):R:=rc 88 [.agg ⟨cellsF a 3 0⟩,b,.int .i64 (.ofNat 24)] d λ e f=>onTup e λ g=>nthF 0 g λ h=>onTup e λ i=>nthF 1 i λ _=>g210_4 E k h c f
def g358_5 (a:V)(b:Value)(c d:H)(e:Nat):R:=ifB (Nat.ble 3 e) (binR (binC E .mul 3 false true) b (.int .i64 (.ofNat 24)) λ f=>g358_4 E rc k a f c d)
def g358_6 (a:Value)(b c:H):R:=ifB (Nat.ble c.1 1000000000) (letH (hpush c (.row 78 3 false false 0 (T.ofList unk [.pointer none,.int .i64 (.ofNat 0),.int .i64 (.ofNat 0)]))) λ d=>onRow (hget d b.1) λ _ e _ _ _ f=>g358_5 E rc k f a c d e)
def g358_7 (a:L)(b:Value)(c:H):R:=ifB (allF (λ d=>cell1F d) a) (ifB (Nat.ble c.1 1000000000) (letH (hpush c (.row 276 (lenF a) false false 0 (T.ofList unk a))) λ d=>g358_6 E rc k b c d))
def g358 (E:Env)(rc:RC)(a0 a1:Value)(h:H)(k:Value→H→R):R:=onCells a0 λ a=>g358_7 E rc k a a1 h
theorem g358_eq (t:ExtT)(rc:RC)(a0 a1:Value)(h:H)(k:Value→H→R):(funB (EX t) KK 358).run rc [a0,a1] h k = g358 (EX t) rc a0 a1 h k:=by kernel_rfl
def g21_0 (a:L)(b c:H):R:=ifB (allF (λ d=>cell1F d) a) (letH (hset c (Nat.add b.1 1) (.row 104 (lenF a) false false 0 (T.ofList unk a))) λ d=>k (.pointer (some (Addr.mk (Nat.add b.1 1) 0 none))) d)
def g21_1 (a:Nat→Value)(b:V)(c:AO)(d e:H):R:=letH (hset e d.1 c) λ f=>bindO (buildV E 104 [(0,a d.1),(1,.agg ⟨cellsF b 2 0⟩)]) λ g=>onCells g λ h=>g21_0 k h d f
def g21_2 (a b : V) (c : Value) (d e : H) (f : Nat) : R := ifB (Nat.ble 2 f) (ifB (sameW (.agg ⟨cellsF b 2 0⟩) (.agg ⟨cellsF a 2 0⟩)) (bindA (allocs E (@T.n Value (@T.c Value undef) c (@T.n Value (@T.c Value undef) c (@T.c Value undef))) (Oper.mk none (Op.makeSlice 101 (.tmp 0) (.tmp 2)) 0 " " #[] none)) fun g h => g21_1 E k h a g d e))
def g21_3 (a b:V)(c d e:H)(f:Nat):R:=ifB (Nat.ble 2 f) (rc 45 [.agg ⟨cellsF a 2 0⟩] e λ g h=>onRow (hget h c.1) λ _ i _ _ _ j=>g21_2 E k b j g d h i)
def g21_4 (a b c:H):R:=onRow (hget c a.1) λ _ d _ _ _ e=>ifB (Nat.ble 2 d) (onRow (hget c a.1) λ _ f _ _ _ g=>g21_3 E rc k e g a b c f)
def g21_5 (a:L)(b:V)(c d:Bool)(e:TypeId)(f g:H)(h i:Nat):R:=ifB (notB d) (ifB (Nat.beq (lenF a) 2) (ifB (Nat.ble i 0) (ifB (Nat.ble 2 h) (ifB (Nat.ble h 1000000000) (ifB (allF (λ j=>cell1F j) a) (letH (hset g f.1 (.row e h c false i (putF b 0 a))) λ j=>ifB (Nat.ble j.1 1000000000) (letH (H.mk (Nat.add j.1 2) j.2) λ l=>g21_4 E rc k f j l)))))))
def g21_6 (a:Value)(b:H):R:=ifB (Nat.ble b.1 1000000000) (letH (hpush b (.row 99 2 false false 0 (T.ofList unk [.int .i64 (.ofNat 0),.slice none 0 0]))) λ c=>onCells a λ d=>onRow (hget c b.1) λ e f g h i j=>g21_5 E rc k d j g h e b c f i)
def g21 (E:Env)(rc:RC)(a0:Value)(h:H)(k:Value→H→R):R:=rc 44 [a0] h λ a b=>g21_6 E rc k a b
theorem g21_eq (t:ExtT)(rc:RC)(a0:Value)(h:H)(k:Value→H→R):(funB (EX t) KK 21).run rc [a0] h k = g21 (EX t) rc a0 h k:=by kernel_rfl
def g23_0 (a:V)(b:Addr)(c:H)(d:Nat):R:=ifB (Nat.ble (Nat.add (Nat.add b.2 4) 3) d) (rc 52 [.agg ⟨cellsF a 3 (Nat.add b.2 4)⟩,.int .i64 (.ofNat 64),.int .i64 (.ofNat 8)] c λ e f=>onTup e λ g=>nthF 0 g λ h=>onTup e λ i=>nthF 1 i λ _=>k h f)
def g23_1 (a b:Value)(c:H):R:=@joinR [2] (λ _ d=>bindO (nilV a) λ e=>onPtr e λ f=>onRow (hget d f.1) λ _ g _ _ _ h=>g23_0 rc k h f d g) λ d=>onB b (d (.int .u64 (.ofNat 0),()) c) (k (.int .u64 (.ofNat 0)) c)
def g23 (E:Env)(rc:RC)(a0:Value)(h:H)(k:Value→H→R):R:=binR (binC E .eql 40 false true) a0 (.pointer none) λ a=>g23_1 rc k a0 a h
theorem g23_eq (t:ExtT)(rc:RC)(a0:Value)(h:H)(k:Value→H→R):(funB (EX t) KK 23).run rc [a0] h k = g23 (EX t) rc a0 h k:=by kernel_rfl
def g47_0 (a:(FEnv [5,6])→H→R)(b:FEnv [5,6])(c:FEnv [5])(d:Value)(e f:H):R:=onRow (hget f e.1) λ _ g _ _ _ h=>ifB (Nat.ble 1 g) (rc 107 [.agg ⟨cellsF h 1 0⟩,b.2.1,d] f λ i j=>a (c.1,(i,())) j)
def g47_1 (a:(FEnv [5])→H→R)(b:FEnv [5,6])(c:L)(d:H):R:=ifB (Nat.ble d.1 1000000000) (letH (hpush d (.row 3 1 false false 0 (T.ofList unk c))) λ e=>bindP (heavyB E e Builtin.append [b.1,.slice (some (Addr.mk d.1 0 none)) 1 2] [50,50]) λ f g=>a (f,()) g)
def g47_2 (a:(FEnv [5])→H→R)(b:FEnv [5,6])(c:H):R:=@Option.rec (List Value) (λ _=>R) none (λ d=>g47_1 E a b d c) (fillV (λ d=>some (Nat.mul d 1,1)) (List.flatten (List.replicate 1 (cellsOfV (.int .i64 (.ofNat 0))))) [(0,b.2.1)])
def g47_3 (a:(FEnv [5,6])→H→R)(b:(FEnv [5])→H→R)(c:FEnv [5,6])(d:Value)(e f:H):R:=binR (binC E .neq 3 false true) c.2.1 (.int .i64 (.ofNat 0)) λ g=>@joinR [] (λ _ h=>@joinR [5] (λ i j=>g47_0 rc a c i d e j) λ i=>g47_2 E i c h) λ h=>onB g (b (c.1,()) f) (h () f)
def g47_4 (a b:Value)(c d:H):R:=@joinR [4] (λ _ e=>@joinR [5] (λ f g=>k f.1 g) λ f=>@loopF [5,6] (λ g h i=>g47_3 E rc g f h a c i) 1000000 (.slice none 0 0,(a,())) e) λ e=>onB b (e (.slice none 0 0,()) d) (k (.slice none 0 0) d)
def g47_5 (a:V)(b:Value)(c d:H)(e:Nat):R:=ifB (Nat.ble 1 e) (rc 106 [.agg ⟨cellsF a 1 0⟩,b] d λ f g=>binR (binC E .neq 41 false true) f (.int .i64 (.ofNat 0)) λ h=>g47_4 E rc k b h c g)
def g47_6 (a:L)(b:Value)(c:H):R:=ifB (allF (λ d=>cell1F d) a) (ifB (Nat.ble c.1 1000000000) (letH (hpush c (.row 88 (lenF a) false false 0 (T.ofList unk a))) λ d=>onRow (hget d c.1) λ _ e _ _ _ f=>g47_5 E rc k f b c d e))
def g47 (E:Env)(rc:RC)(a0 a1:Value)(h:H)(k:Value→H→R):R:=onCells a0 λ a=>g47_6 E rc k a a1 h
theorem g47_eq (t:ExtT)(rc:RC)(a0 a1:Value)(h:H)(k:Value→H→R):(funB (EX t) KK 47).run rc [a0,a1] h k = g47 (EX t) rc a0 a1 h k:=by kernel_rfl
def g44_0 (a:L)(b:V)(c d:Bool)(e:TypeId)(f g:H)(h i:Nat):R:=ifB (notB d) (ifB (Nat.beq (lenF a) 2) (ifB (Nat.ble i 0) (ifB (Nat.ble 2 h) (ifB (Nat.ble h 1000000000) (ifB (allF (λ j=>cell1F j) a) (letH (hset g f.1 (.row e h c false i (putF b 0 a))) λ j=>bindO (loadV E j 99 (Addr.mk f.1 0 none)) λ l=>k l j))))))
def g44_1 (a:Nat→Value)(b:Value)(c d e:H):R:=bindO (buildV E 99 [(0,b),(1,a d.1)]) λ f=>onCells f λ g=>onRow (hget e c.1) λ h i j l m n=>g44_0 E k g n j l h c e i m
def g44_2 (a b : Value) (c d : H) : R := bindA (allocs E (@T.n Value (@T.c Value undef) b (@T.n Value (@T.c Value undef) b (@T.c Value undef))) (Oper.mk none (Op.makeSlice 97 (.tmp 0) (.tmp 2)) 0 " " #[] none)) fun e f => ifB (Nat.ble d.1 1000000000) (letH (hpush d e) fun g => g44_1 E k f a c d g)
def g44_3 (a b:Value)(c d:H):R:=binR (binC E .sub 3 false true) b (.int .i64 (.ofNat 1)) λ e=>binR (binC E .quo 3 false true) e (.int .i64 (.ofNat 64)) λ f=>g44_2 E k a f c d
def g44_4 (a:Value)(b c:H):R:=bindO (builtinV E c Builtin.max [.int .i64 (.ofNat 0),a] [3,3]) λ d=>binR (binC E .add 3 false true) d (.int .i64 (.ofNat 64)) λ e=>g44_3 E k d e b c
def g44 (E:Env)(rc:RC)(a0:Value)(h:H)(k:Value→H→R):R:=ifB (Nat.ble h.1 1000000000) (letH (hpush h (.row 99 2 false false 0 (T.ofList unk [.int .i64 (.ofNat 0),.slice none 0 0]))) λ a=>bindO (builtinV E a Builtin.min [a0,.int .i64 (.ofNat 1048576)] [3,3]) λ b=>g44_4 E k b h a)
theorem g44_eq (t:ExtT)(rc:RC)(a0:Value)(h:H)(k:Value→H→R):(funB (EX t) KK 44).run rc [a0] h k = g44 (EX t) rc a0 h k:=by kernel_rfl
def g236_0 (a b:H):R:=onRow (hget b a.1) λ _ c _ _ _ d=>ifB (Nat.ble 9 c) (rc 291 [.agg ⟨cellsF d 9 0⟩,.int .i64 (.ofNat 24)] b λ e f=>k e f)
def g236_1 (a:L)(b:H):R:=ifB (allF (λ c=>cell1F c) a) (ifB (Nat.ble b.1 1000000000) (letH (hpush b (.row 108 (lenF a) false false 0 (T.ofList unk a))) λ c=>g236_0 rc k b c))
def g236 (E:Env)(rc:RC)(a0:Value)(h:H)(k:Value→H→R):R:=onCells a0 λ a=>g236_1 rc k a h
theorem g236_eq (t:ExtT)(rc:RC)(a0:Value)(h:H)(k:Value→H→R):(funB (EX t) KK 236).run rc [a0] h k = g236 (EX t) rc a0 h k:=by kernel_rfl
def g237_0 (a:(FEnv [6,7])→H→R)(b:FEnv [6,7,11])(c:Value)(d:H):R:=onB c (a (b.1,(b.2.1,())) d) (ifB (nT [b.2.2.1,.bool true]) (k (.tuple ⟨[b.2.2.1,.bool true]⟩) d))
def g237_1 (a:(FEnv [6,7])→H→R)(b:FEnv [6,7,11])(c:Value)(d:H):R:=onTup c λ e=>nthF 0 e λ _=>onTup c λ f=>nthF 1 f λ g=>@joinR [6,7] (λ h i=>a (h.1,(h.2.1,())) i) λ h=>g237_0 k h b g d
def g237_2 (a:(FEnv [6,7])→H→R)(b:FEnv [6,7,11])(c d e:Value)(f:H):R:=bindO (buildV E 169 [(1,b.2.2.1)]) λ g=>bindO (builtinV E f Builtin.max [c,.int .i64 (.ofNat 32)] [3,3]) λ h=>rc 318 [g,h,d,e] f λ i j=>g237_1 k a b i j
def g237_3 (a:(FEnv [6,7,11])→H→R)(b:FEnv [6,7,11])(c d e:Value)(f:H):R:=@joinR [6,7] (λ g h=>binR (binC E .add 3 false true) b.2.2.1 (.int .i64 (.ofNat 1)) λ i=>a (g.1,(g.2.1,(i,()))) h) λ g=>g237_2 E rc k g b c d e f
def g237_4 (a:(FEnv [6,7,11])→H→R)(b:(FEnv [6,7])→H→R)(c:FEnv [6,7,11])(d e f:Value)(g:H):R:=binR (binC E .lss 3 false true) c.2.2.1 (.int .i64 (.ofNat 11)) λ h=>@joinR [] (λ _ i=>g237_3 E rc k a c d e f i) λ i=>onB h (b (c.1,(c.2.1,())) g) (i () g)
def g237 (E:Env)(rc:RC)(a0 a1 a2:Value)(h:H)(k:Value→H→R):R:=@joinR [6,7] (λ _ a=>k (.tuple ⟨[.int .i64 (.ofNat 0),.bool false]⟩) a) λ a=>@loopF [6,7,11] (λ b c d=>g237_4 E rc k b a c a0 a1 a2 d) 1000000 (.int .i64 (.ofNat 0),(.bool false,(.int .i64 (.ofNat 0),()))) h
theorem g237_eq (t:ExtT)(rc:RC)(a0 a1 a2:Value)(h:H)(k:Value→H→R):(funB (EX t) KK 237).run rc [a0,a1,a2] h k = g237 (EX t) rc a0 a1 a2 h k:=by kernel_rfl
def g103_0 (a b:Value)(c d:H):R:=onRow (hget d c.1) λ _ e _ _ _ f=>ifB (Nat.ble 1 e) (rc 196 [.agg ⟨cellsF f 1 0⟩,a,b] d λ _ g=>k (.int .i64 (.ofNat 0)) g)
def g103_2 (a:V)(b c d:Value)(e f:H):R:=joinL (λ g=>rc 99 [.agg ⟨cellsF a 12 0⟩,.int .i64 (.ofNat 7),g] f λ _ h=>g103_0 rc k b c e h) λ g=>g79_9 E g d f
def g103_3 (a b:V)(c d e:Value)(f g:H)(h:Nat):R:=ifB (Nat.ble 12 h) (ifB (sameW (.agg ⟨cellsF b 12 0⟩) (.agg ⟨cellsF a 12 0⟩)) (ifB (sameW d d) (binR (binC E .add 3 false false) e d λ i=>g103_2 E rc k a c d i f g)))
def g103_4 (a b:V)(c d:Value)(e f g:H)(h:Nat):R:=ifB (Nat.ble 1 h) (rc 194 [.agg ⟨cellsF b 1 0⟩,c] g λ i j=>onRow (hget j f.1) λ _ l _ _ _ m=>g103_3 E rc k a m c d i e j l)
def g103_5 (a b:Value)(c d e:H):R:=onRow (hget e d.1) λ _ f _ _ _ g=>ifB (Nat.ble 12 f) (onRow (hget e c.1) λ _ h _ _ _ i=>g103_4 E rc k g i a b c d e h)
def g103_6 (a:(FEnv [6])→H→R)(b c:Value)(d:H):R:=onB b (@joinR [6] (λ e f=>a (e.1,()) f) λ e=>e (.int .i64 (.ofNat 0),()) d) (@joinR [6] (λ e f=>a (e.1,()) f) λ e=>onB c (e (.int .i64 (.ofNat 0),()) d) (k (.int .i64 (.ofNat 5)) d))
def g103_7 (a:(FEnv [6])→H→R)(b c d e:Value)(f:H):R:=joinV (λ g h=>joinV (λ i j=>g103_6 k a b i j) λ i=>onG b (i undef h) (onB g (i (.bool true) h) (i (.bool false) h)) (i undef h)) λ g=>onG b (g undef f) (rc 195 [c,d,e] f g) (g undef f)
def g103_8 (a:(FEnv [6])→H→R)(b c d e:Value)(f:H):R:=joinV (λ g h=>joinV (λ i j=>g103_7 rc k a d e g i j) λ i=>onG d (i undef h) (i c h) (i undef h)) λ g=>onG d (g undef f) (g b f) (g undef f)
def g103_9 (a:Value→H→R)(b:Value)(c d:H):R:=onG b (a undef d) (onRow (hget d c.1) λ _ e _ _ _ f=>ifB (Nat.ble 1 e) (a (.agg ⟨cellsF f 1 0⟩) d)) (a undef d)
def g103_10 (a:(FEnv [6])→H→R)(b c d:Value)(e f:H):R:=onB d (binR (binC E .gtr 3 false true) c (.int .i64 (.ofNat 0)) λ g=>joinV (λ h i=>g103_8 rc k a b c g h i) λ h=>g103_9 h g e f) (k (.int .i64 (.ofNat 2)) f)
def g103_11 (a:(FEnv [6])→H→R)(b c d e:Value)(f g:H):R:=onB d (@joinR [6] (λ h i=>a (h.1,()) i) λ h=>g103_10 E rc k h b c e f g) (@joinR [6] (λ h i=>a (h.1,()) i) λ _=>k (.int .i64 (.ofNat 2)) g)
def g103_12 (a:(FEnv [6])→H→R)(b c d e f:Value)(g h:H):R:=joinV (λ i j=>g103_11 E rc k a b c d i g j) λ i=>onG d (binR (binC E .lss 3 false false) e f λ j=>i j h) (i undef h) (i undef h)
def g103_13 (a:(FEnv [6])→H→R)(b c d e f g:Value)(h i:H):R:=joinV (λ j l=>joinV (λ m n=>g103_12 E rc k a b c d e m h n) λ m=>onG d (bindO (unV .neg j) λ n=>m n l) (m undef l) (m undef l)) λ j=>onG d (rc 194 [f,g] i j) (j undef i) (j undef i)
def g103_15 (a:(FEnv [6])→H→R)(b c d e:Value)(f g:H):R:=joinV (λ h i=>joinV (λ j l=>g103_13 E rc k a b c d e h j f l) λ j=>onG d (j b i) (j undef i) (j undef i)) λ h=>g302_15 h d f g
def g103_16 (a:(FEnv [6])→H→R)(b c d e:Value)(f g:H):R:=onB e (binR (binC E .gtr 3 false true) c (.int .i64 (.ofNat 4294967296)) λ h=>joinV (λ i j=>g103_15 E rc k a b c h i f j) λ i=>onG h (i c g) (i undef g) (i undef g)) (k d g)
def g103_17 (a:(FEnv [6])→H→R)(b c d:Value)(e f:H):R:=binR (binC E .neq 41 false true) d (.int .i64 (.ofNat 0)) λ g=>@joinR [6] (λ h i=>a (h.1,()) i) λ h=>g103_16 E rc k h b c d g e f
def g103_18 (a:L)(b:V)(c d:Bool)(e:TypeId)(f g h:Value)(i j l:H)(m n:Nat):R:=ifB (notB d) (ifB (Nat.beq (lenF a) 12) (ifB (Nat.ble n 0) (ifB (Nat.ble 12 m) (ifB (Nat.ble m 1000000000) (ifB (allF (λ o=>cell1F o) a) (letH (hset l j.1 (.row e m c false n (putF b 0 a))) λ o=>@joinR [6] (λ _ p=>ifB (Nat.ble p.1 1000000000) (letH (H.mk p.1 p.2) λ q=>g103_5 E rc k f g i j q)) λ p=>g103_17 E rc k p f g h i o))))))
def g103_19 (a b c d:Value)(e f:H):R:=ifB (Nat.ble f.1 1000000000) (letH (hpush f (.row 112 12 false false 0 (T.ofList unk [.pointer none,.pointer none,.int .i64 (.ofNat 0),.int .i64 (.ofNat 0),.int .u64 (.ofNat 0),.pointer none,.int .i64 (.ofNat 0),.int .i64 (.ofNat 0),.int .i64 (.ofNat 0),.pointer none,.int .i64 (.ofNat 0),.int .i64 (.ofNat 0)]))) λ g=>onCells c λ h=>onRow (hget g f.1) λ i j l m n o=>g103_18 E rc k h o l m i a b d e f g j n)
def g103_20 (a:V)(b c:Value)(d e:H)(f:Nat):R:=ifB (Nat.ble 1 f) (rc 50 [getF a 0,b] e λ g h=>onTup g λ i=>nthF 0 i λ j=>onTup g λ l=>nthF 1 l λ m=>g103_19 E rc k b c j m d h)
def g103_21 (a:L)(b c:Value)(d:H):R:=ifB (allF (λ e=>cell1F e) a) (ifB (Nat.ble d.1 1000000000) (letH (hpush d (.row 90 (lenF a) false false 0 (T.ofList unk a))) λ e=>onRow (hget e d.1) λ _ f _ _ _ g=>g103_20 E rc k g b c d e f))
def g103 (E:Env)(rc:RC)(a0 a1 a2:Value)(h:H)(k:Value→H→R):R:=onCells a0 λ a=>g103_21 E rc k a a1 a2 h
theorem g103_eq (t:ExtT)(rc:RC)(a0 a1 a2:Value)(h:H)(k:Value→H→R):(funB (EX t) KK 103).run rc [a0,a1,a2] h k = g103 (EX t) rc a0 a1 a2 h k:=by kernel_rfl
def g37_0 (a:V)(b:Addr)(c:Value)(d:H)(e:Nat):R:=ifB (Nat.ble (Nat.add (Nat.add b.2 3) 3) e) (rc 42 [.agg ⟨cellsF a 3 (Nat.add b.2 3)⟩,.int .i64 (.ofNat 104),.int .i64 (.ofNat 8),.int .u64 (.ofNat 6432341300767115597)] d λ _ f=>ifB (nT [c,.int .i64 (.ofNat 0)]) (k (.tuple ⟨[c,.int .i64 (.ofNat 0)]⟩) f))
def g37_1 (a:L)(b:Value)(c:H):R:=nthF 1 a λ _=>bindO (nilV b) λ d=>onPtr d λ e=>onRow (hget c e.1) λ _ f _ _ _ g=>g37_0 rc k g e b c f
def g37_2 (a:FEnv [2,3])(b c d:Value)(e:H):R:=@joinR [2,3] (λ _ f=>rc 77 [b] f λ g h=>onTup g λ i=>nthF 0 i λ j=>onTup g λ l=>g37_1 rc k l j h) λ f=>onB d (f (a.1,(a.2.1,())) e) (ifB (nT [.pointer none,c]) (k (.tuple ⟨[.pointer none,c]⟩) e))
def g37_3 (a:FEnv [2,3])(b c:Value)(d:H):R:=rc 76 [b,.int .i64 (.ofNat 0),c] d λ e f=>binR (binC E .neq 41 false true) e (.int .i64 (.ofNat 0)) λ g=>g37_2 rc k a b e g f
def g37_4 (a:FEnv [2,3])(b c d:Value)(e:H):R:=@joinR [2,3] (λ f g=>g37_3 E rc k f b c g) λ f=>onB d (f (a.1,(a.2.1,())) e) (k (.tuple ⟨[.pointer none,.int .i64 (.ofNat 3)]⟩) e)
def g37_5 (a:FEnv [2,3])(b c:Value)(d:H):R:=rc 74 [c] d λ e f=>rc 75 [b] f λ g h=>binR (binC E .leq 3 false false) g e λ i=>g37_4 E rc k a b e i h
def g37_6 (a b:Value)(c:H):R:=@joinR [2,3] (λ d e=>rc 75 [a] e λ f g=>g37_5 E rc k d a f g) λ d=>onB b (d (.pointer none,(.int .i64 (.ofNat 0),())) c) (k (.tuple ⟨[.pointer none,.int .i64 (.ofNat 1)]⟩) c)
def g37 (E:Env)(rc:RC)(a0:Value)(h:H)(k:Value→H→R):R:=binR (binC E .eql 44 false true) a0 (.pointer none) λ a=>g37_6 E rc k a0 a h
theorem g37_eq (t:ExtT)(rc:RC)(a0:Value)(h:H)(k:Value→H→R):(funB (EX t) KK 37).run rc [a0] h k = g37 (EX t) rc a0 h k:=by kernel_rfl
def g40_0 (a:L)(b c:H):R:=ifB (allF (λ d=>cell1F d) a) (letH (hset c b.1 (.row 93 (lenF a) false false 0 (T.ofList unk a))) λ d=>k (.tuple ⟨[.pointer (some (Addr.mk b.1 0 none)),.int .i64 (.ofNat 0)]⟩) d)
def g40_1 (a b:V)(c d:Value)(e f:H)(g:Nat):R:=ifB (Nat.ble 3 g) (ifB (sameW (.agg ⟨cellsF b 3 0⟩) (.agg ⟨cellsF a 3 0⟩)) (bindO (buildV E 93 [(0,c),(1,d),(2,.agg ⟨cellsF a 3 0⟩)]) λ h=>onCells h λ i=>g40_0 k i e f))
def g40_2 (a b c:V)(d:Value)(e f g:H)(h:Nat):R:=ifB (Nat.ble 3 h) (ifB (sameW (.agg ⟨cellsF c 3 0⟩) (.agg ⟨cellsF b 3 0⟩)) (rc 91 [.agg ⟨cellsF a 3 0⟩] g λ i j=>onRow (hget j e.1) λ _ l _ _ _ m=>g40_1 E k b m d i f j l))
def g40_3 (a b c:V)(d:Value)(e f g:H)(h:Nat):R:=ifB (Nat.ble 3 h) (ifB (sameW (.agg ⟨cellsF c 3 0⟩) (.agg ⟨cellsF a 3 0⟩)) (onRow (hget g e.1) λ _ i _ _ _ j=>g40_2 E rc k a b j d e f g i))
def g40_4 (a b c:V)(d:Value)(e f g h:H)(i:Nat):R:=ifB (Nat.ble 3 i) (ifB (sameW (.agg ⟨cellsF c 3 0⟩) (.agg ⟨cellsF b 3 0⟩)) (rc 89 [d] h λ j l=>onRow (hget l f.1) λ _ m _ _ _ n=>g40_3 E rc k a b n j e g l m))
def g40_5 (a b c:V)(d:Value)(e f g h:H)(i:Nat):R:=ifB (Nat.ble 3 i) (ifB (sameW (.agg ⟨cellsF c 3 0⟩) (.agg ⟨cellsF a 3 0⟩)) (onRow (hget h e.1) λ _ j _ _ _ l=>g40_4 E rc k a b l d e f g h j))
def g40_6 (a b:V)(c:Value)(d e f g:H)(h:Nat):R:=ifB (Nat.ble 3 h) (rc 90 [c] g λ i j=>onRow (hget j e.1) λ _ l _ _ _ m=>g40_5 E rc k a b m i d e f j l)
def g40_7 (a:Value)(b c d e:H):R:=onRow (hget e c.1) λ _ f _ _ _ g=>ifB (Nat.ble 3 f) (onRow (hget e b.1) λ _ h _ _ _ i=>g40_6 E rc k g i a b c d e h)
def g40_8 (a:FEnv [6,7])(b c d:Value)(e f g:H):R:=@joinR [6,7] (λ _ h=>ifB (Nat.ble h.1 1000000000) (letH (H.mk (Nat.add h.1 1) h.2) λ i=>g40_7 E rc k b e f h i)) λ h=>onB d (h (a.1,(a.2.1,())) g) (ifB (nT [.pointer none,c]) (k (.tuple ⟨[.pointer none,c]⟩) g))
def g40_9 (a:FEnv [6,7])(b c:Value)(d e f:H):R:=binR (binC E .neq 41 false true) c (.int .i64 (.ofNat 0)) λ g=>g40_8 E rc k a b c g d e f
def g40_10 (a b:Array Value)(c:FEnv [6,7])(d:V)(e:FuncId)(f:Value)(g h i:H):R:=rc e (catV a b [f,.agg ⟨cellsF d 3 0⟩]) i λ j l=>onTup j λ m=>nthF 0 m λ n=>onTup j λ o=>nthF 1 o λ p=>g40_9 E rc k c n p g h l
def g40_11 (a:FEnv [6,7])(b c:Value)(d e f g:H):R:=onRow (hget g e.1) λ _ h _ _ _ i=>ifB (Nat.ble 3 h) (onF c λ j l m=>g40_10 E rc k l m a i j b d f g)
def g40_12 (a:FEnv [6,7])(b:L)(c:V)(d e:Bool)(f:TypeId)(g h:Value)(i j l m:H)(n o:Nat):R:=ifB (notB e) (ifB (Nat.beq (lenF b) 3) (ifB (Nat.ble o 0) (ifB (Nat.ble 3 n) (ifB (Nat.ble n 1000000000) (ifB (allF (λ p=>cell1F p) b) (letH (hset m l.1 (.row f n d false o (putF c 0 b))) λ p=>g40_11 E rc k a g h i j l p))))))
def g40_13 (a:FEnv [6,7])(b c d:Value)(e f g:H):R:=ifB (Nat.ble g.1 1000000000) (letH (hpush g (.row 78 3 false false 0 (T.ofList unk [.pointer none,.int .i64 (.ofNat 0),.int .i64 (.ofNat 0)]))) λ h=>onCells d λ i=>onRow (hget h g.1) λ j l m n o p=>g40_12 E rc k a i p m n j b c e f g h l o)
def g40_14 (a:FEnv [6,7])(b:V)(c d:Value)(e f g:H)(h:Nat):R:=ifB (Nat.ble 3 h) (rc 88 [.agg ⟨cellsF b 3 0⟩,.int .i64 (.ofNat 4096),.int .i64 (.ofNat 4096)] g λ i j=>onTup i λ l=>nthF 0 l λ m=>onTup i λ n=>nthF 1 n λ _=>g40_13 E rc k a c d m e f j)
def g40_15 (a:FEnv [6,7])(b:L)(c:V)(d e:Bool)(f:TypeId)(g h:Value)(i j l:H)(m n:Nat):R:=ifB (notB e) (ifB (Nat.beq (lenF b) 3) (ifB (Nat.ble n 0) (ifB (Nat.ble 3 m) (ifB (Nat.ble m 1000000000) (ifB (allF (λ o=>cell1F o) b) (letH (hset l j.1 (.row f m d false n (putF c 0 b))) λ o=>onRow (hget o i.1) λ _ p _ _ _ q=>g40_14 E rc k a q g h i j o p))))))
def g40_16 (a:FEnv [6,7])(b c d:Value)(e f:H):R:=ifB (Nat.ble f.1 1000000000) (letH (hpush f (.row 78 3 false false 0 (T.ofList unk [.pointer none,.int .i64 (.ofNat 0),.int .i64 (.ofNat 0)]))) λ g=>onCells d λ h=>onRow (hget g f.1) λ i j l m n o=>g40_15 E rc k a h o l m i b c e f g j n)
def g40_17 (a:FEnv [6,7])(b:V)(c d:Value)(e f:H)(g:Nat):R:=ifB (Nat.ble 3 g) (rc 88 [.agg ⟨cellsF b 3 0⟩,.int .i64 (.ofNat 0),.int .i64 (.ofNat 64)] f λ h i=>onTup h λ j=>nthF 0 j λ l=>onTup h λ m=>nthF 1 m λ _=>g40_16 E rc k a c d l e i)
def g40_18 (a b c:Value)(d e:H):R:=@joinR [6,7] (λ f g=>onRow (hget g d.1) λ _ h _ _ _ i=>g40_17 E rc k f i a b d g h) λ f=>onB c (f (.pointer none,(.int .i64 (.ofNat 0),())) e) (k (.tuple ⟨[.pointer none,.int .i64 (.ofNat 7)]⟩) e)
def g40_19 (a:L)(b:V)(c d:Bool)(e:TypeId)(f g h:Value)(i j:H)(l m:Nat):R:=ifB (notB d) (ifB (Nat.beq (lenF a) 3) (ifB (Nat.ble m 0) (ifB (Nat.ble 3 l) (ifB (Nat.ble l 1000000000) (ifB (allF (λ n=>cell1F n) a) (letH (hset j i.1 (.row e l c false m (putF b 0 a))) λ n=>binR (binC E .neq 41 false true) h (.int .i64 (.ofNat 0)) λ o=>g40_18 E rc k f g o i n))))))
def g40_20 (a b c d:Value)(e:H):R:=ifB (Nat.ble e.1 1000000000) (letH (hpush e (.row 78 3 false false 0 (T.ofList unk [.pointer none,.int .i64 (.ofNat 0),.int .i64 (.ofNat 0)]))) λ f=>onCells c λ g=>onRow (hget f e.1) λ h i j l m n=>g40_19 E rc k g n j l h a b d e f i m)
def g40_21 (a:V)(b:Addr)(c d e:Value)(f:H)(g:Nat):R:=ifB (Nat.ble (Nat.succ b.2) g) (rc 87 [getF a b.2,d,.int .i64 (.ofNat 8192)] f λ h i=>onTup h λ j=>nthF 0 j λ l=>onTup h λ m=>nthF 1 m λ n=>g40_20 E rc k c e l n i)
def g40 (E:Env)(rc:RC)(a0 a1 a2:Value)(h:H)(k:Value→H→R):R:=bindO (nilV a0) λ a=>onPtr a λ _=>onPtr a λ b=>onRow (hget h b.1) λ _ c _ _ _ d=>g40_21 E rc k d b a0 a1 a2 h c
theorem g40_eq (t:ExtT)(rc:RC)(a0 a1 a2:Value)(h:H)(k:Value→H→R):(funB (EX t) KK 40).run rc [a0,a1,a2] h k = g40 (EX t) rc a0 a1 a2 h k:=by kernel_rfl
def g41_0 (a:V)(b:Value)(c:H)(d:Nat):R:=ifB (Nat.ble 3 d) (rc 42 [.agg ⟨cellsF a 3 0⟩,.int .i64 (.ofNat 40),.int .i64 (.ofNat 8),.int .u64 (.ofNat 16)] c λ _ e=>ifB (nT [b,.int .i64 (.ofNat 0)]) (k (.tuple ⟨[b,.int .i64 (.ofNat 0)]⟩) e))
def g41_1 (a:V)(b:Value)(c d:H)(e:Nat):R:=ifB (Nat.ble 3 e) (rc 93 [.agg ⟨cellsF a 3 0⟩,.int .i64 (.ofNat 0),.int .i64 (.ofNat 64),.int .u8 (.ofNat 0)] d λ _ f=>onRow (hget f c.1) λ _ g _ _ _ h=>g41_0 rc k h b f g)
def g41_2 (a:(FEnv [4,5])→H→R)(b c:Value)(d:H):R:=onB c (a (.pointer none,(.int .i64 (.ofNat 0),())) d) (ifB (nT [.pointer none,b]) (k (.tuple ⟨[.pointer none,b]⟩) d))
def g41_3 (a b:Value)(c d:H):R:=binR (binC E .neq 41 false true) b (.int .i64 (.ofNat 0)) λ e=>@joinR [4,5] (λ _ f=>onRow (hget f c.1) λ _ g _ _ _ h=>g41_1 rc k h a c f g) λ f=>g41_2 k f b e d
def g41_4 (a:V)(b:Value)(c d:H)(e:Nat):R:=ifB (Nat.ble 3 e) (rc 92 [b,.agg ⟨cellsF a 3 0⟩] d λ f g=>onTup f λ h=>nthF 0 h λ i=>onTup f λ j=>nthF 1 j λ l=>g41_3 E rc k i l c g)
def g41_5 (a:L)(b:Value)(c:H):R:=ifB (allF (λ d=>cell1F d) a) (ifB (Nat.ble c.1 1000000000) (letH (hpush c (.row 78 (lenF a) false false 0 (T.ofList unk a))) λ d=>onRow (hget d c.1) λ _ e _ _ _ f=>g41_4 E rc k f b c d e))
def g41 (E:Env)(rc:RC)(a0 a1:Value)(h:H)(k:Value→H→R):R:=onCells a1 λ a=>g41_5 E rc k a a0 h
theorem g41_eq (t:ExtT)(rc:RC)(a0 a1:Value)(h:H)(k:Value→H→R):(funB (EX t) KK 41).run rc [a0,a1] h k = g41 (EX t) rc a0 a1 h k:=by kernel_rfl
def g107_0 (a:(FEnv [6,1])→H→R)(b:FEnv [6,1])(c:FEnv [6])(d e:H):R:=onRow (hget e d.1) λ _ f _ _ _ g=>ifB (Nat.ble 1 f) (rc 49 [.agg ⟨cellsF g 1 0⟩,b.2.1] e λ h i=>a (c.1,(h,())) i)
def g107_1 (a:(FEnv [6,1])→H→R)(b:FEnv [6,1])(c:Value)(d e:H):R:=binR (binC E .neq 3 false true) c (.int .i64 (.ofNat 0)) λ f=>@joinR [6] (λ g h=>g107_0 rc a b g d h) λ g=>onB f (g (b.1,()) e) (k c e)
def g107_2 (a:(FEnv [6,1])→H→R)(b:FEnv [6,1])(c d:H):R:=onRow (hget d c.1) λ _ e _ _ _ f=>ifB (Nat.ble 1 e) (rc 109 [.agg ⟨cellsF f 1 0⟩,b.2.1,.int .i64 (.ofNat 4)] d λ g h=>g107_1 E rc k a b g c h)
def g107_3 (a:(FEnv [6,1])→H→R)(b:(FEnv [6])→H→R)(c:FEnv [6,1])(d:Value)(e f:H):R:=binR (binC E .neq 3 false false) c.2.1 d λ g=>@joinR [] (λ _ h=>@joinR [6,1] (λ i j=>a (i.1,(i.2.1,())) j) λ i=>g107_2 E rc k i c e h) λ h=>onB g (b (c.1,()) f) (h () f)
def g107_4 (a b c d:Value)(e f:H):R:=@joinR [6] (λ g h=>@joinR [6] (λ _ i=>k (.int .i64 (.ofNat 0)) i) λ i=>@loopF [6,1] (λ j l m=>g107_3 E rc k j i l b e m) 1000000 (g.1,(a,())) h) λ g=>onB d (g (.int .i64 (.ofNat 0),()) f) (k c f)
def g107_5 (a:V)(b c:Value)(d e:H)(f:Nat):R:=ifB (Nat.ble 1 f) (rc 109 [.agg ⟨cellsF a 1 0⟩,b,.int .i64 (.ofNat 2)] e λ g h=>binR (binC E .neq 3 false true) g (.int .i64 (.ofNat 0)) λ i=>g107_4 E rc k b c g i d h)
def g107_6 (a:L)(b c:Value)(d:H):R:=ifB (allF (λ e=>cell1F e) a) (ifB (Nat.ble d.1 1000000000) (letH (hpush d (.row 88 (lenF a) false false 0 (T.ofList unk a))) λ e=>onRow (hget e d.1) λ _ f _ _ _ g=>g107_5 E rc k g b c d e f))
def g107 (E:Env)(rc:RC)(a0 a1 a2:Value)(h:H)(k:Value→H→R):R:=onCells a0 λ a=>g107_6 E rc k a a1 a2 h
theorem g107_eq (t:ExtT)(rc:RC)(a0 a1 a2:Value)(h:H)(k:Value→H→R):(funB (EX t) KK 107).run rc [a0,a1,a2] h k = g107 (EX t) rc a0 a1 a2 h k:=by kernel_rfl
def g194_0 (a:Value)(b c:H):R:=onRow (hget c b.1) λ _ d _ _ _ e=>ifB (Nat.ble 1 d) (rc 206 [.agg ⟨cellsF e 1 0⟩,a,.int .i64 (.ofNat 7)] c λ f g=>k f g)
def g194_1 (a:L)(b:Value)(c:H):R:=ifB (allF (λ d=>cell1F d) a) (ifB (Nat.ble c.1 1000000000) (letH (hpush c (.row 90 (lenF a) false false 0 (T.ofList unk a))) λ d=>g194_0 rc k b c d))
def g194 (E:Env)(rc:RC)(a0 a1:Value)(h:H)(k:Value→H→R):R:=onCells a0 λ a=>g194_1 rc k a a1 h
theorem g194_eq (t:ExtT)(rc:RC)(a0 a1:Value)(h:H)(k:Value→H→R):(funB (EX t) KK 194).run rc [a0,a1] h k = g194 (EX t) rc a0 a1 h k:=by kernel_rfl
def g285_0 (a b:Value)(c:H):R:=binR (binC E .gtr 3 false true) a (.int .i64 (.ofNat 0)) λ d=>ifB (nT [b,d]) (k (.tuple ⟨[b,d]⟩) c)
def g285_1 (a:Value)(b:H):R:=binR (binC E .sub 3 false true) a (.int .i64 (.ofNat 1)) λ c=>bindO (builtinV E b Builtin.max [.int .i64 (.ofNat 0),c] [3,3]) λ d=>g285_0 E k a d b
def g285_2 (a:Value)(b c:H):R:=onRow (hget c b.1) λ _ d _ _ _ e=>ifB (Nat.ble 1 d) (rc 206 [.agg ⟨cellsF e 1 0⟩,a,.int .i64 (.ofNat 6)] c λ f g=>g285_1 E k f g)
def g285_3 (a:L)(b:Value)(c:H):R:=ifB (allF (λ d=>cell1F d) a) (ifB (Nat.ble c.1 1000000000) (letH (hpush c (.row 90 (lenF a) false false 0 (T.ofList unk a))) λ d=>g285_2 E rc k b c d))
def g285 (E:Env)(rc:RC)(a0 a1:Value)(h:H)(k:Value→H→R):R:=onCells a0 λ a=>g285_3 E rc k a a1 h
theorem g285_eq (t:ExtT)(rc:RC)(a0 a1:Value)(h:H)(k:Value→H→R):(funB (EX t) KK 285).run rc [a0,a1] h k = g285 (EX t) rc a0 a1 h k:=by kernel_rfl
def g461_0 (a:V)(b:H)(c:Nat):R:=ifB (Nat.ble 12 c) (rc 210 [.agg ⟨cellsF a 12 0⟩,.int .i64 (.ofNat 4)] b λ d e=>rc 209 [d] e λ f g=>rc 211 [f] g λ h i=>k h i)
def g461_1 (a:L)(b:H):R:=ifB (allF (λ c=>cell1F c) a) (ifB (Nat.ble b.1 1000000000) (letH (hpush b (.row 112 (lenF a) false false 0 (T.ofList unk a))) λ c=>onRow (hget c b.1) λ _ d _ _ _ e=>g461_0 rc k e c d))
def g461 (E:Env)(rc:RC)(a0:Value)(h:H)(k:Value→H→R):R:=onCells a0 λ a=>g461_1 rc k a h
theorem g461_eq (t:ExtT)(rc:RC)(a0:Value)(h:H)(k:Value→H→R):(funB (EX t) KK 461).run rc [a0] h k = g461 (EX t) rc a0 h k:=by kernel_rfl
def g207_0 (a b:H):R:=onRow (hget b a.1) λ _ c _ _ _ d=>ifB (Nat.ble 9 c) (rc 291 [.agg ⟨cellsF d 9 0⟩,.int .i64 (.ofNat 8)] b λ e f=>k e f)
def g207_1 (a:L)(b:H):R:=ifB (allF (λ c=>cell1F c) a) (ifB (Nat.ble b.1 1000000000) (letH (hpush b (.row 108 (lenF a) false false 0 (T.ofList unk a))) λ c=>g207_0 rc k b c))
def g207 (E:Env)(rc:RC)(a0:Value)(h:H)(k:Value→H→R):R:=onCells a0 λ a=>g207_1 rc k a h
theorem g207_eq (t:ExtT)(rc:RC)(a0:Value)(h:H)(k:Value→H→R):(funB (EX t) KK 207).run rc [a0] h k = g207 (EX t) rc a0 h k:=by kernel_rfl
def g214_0 (a:Value→H→R)(b c:Value)(d:H):R:=onG b (a undef d) (binR (binC E .eql 3 false true) c (.int .i64 (.ofNat 0)) λ e=>a e d) (a undef d)
def g214_1 (a b:Value)(c:H):R:=joinV (λ d e=>joinV (λ f g=>onB b (k (.bool false) g) (k f g)) λ f=>g214_0 E f b d e) λ d=>onG b (d undef c) (d a c) (d undef c)
def g214_2 (a:(FEnv [4])→H→R)(b c:Value)(d:H):R:=onB c (a (.bool false,()) d) (rc 237 [.int .i64 (.ofNat 32),b,.int .i64 (.ofNat 16)] d λ e f=>onTup e λ g=>nthF 0 g λ _=>onTup e λ h=>nthF 1 h λ i=>k i f)
def g214_3 (a b c:Value)(d:H):R:=@joinR [4] (λ _ e=>binR (binC E .eql 25 false true) a (.int .u64 (.ofNat 1)) λ f=>g214_1 E k b f e) λ e=>g214_2 rc k e b c d
def g214 (E:Env)(rc:RC)(a0 a1:Value)(h:H)(k:Value→H→R):R:=binR (binC E .eql 25 false true) a0 (.int .u64 (.ofNat 2)) λ a=>g214_3 E rc k a0 a1 a h
theorem g214_eq (t:ExtT)(rc:RC)(a0 a1:Value)(h:H)(k:Value→H→R):(funB (EX t) KK 214).run rc [a0,a1] h k = g214 (EX t) rc a0 a1 h k:=by kernel_rfl
def g195_1 (a:(FEnv [6])→H→R)(b:FEnv [6,1])(c d:Value)(e:H):R:=onB c (@joinR [6] (λ f g=>a (f.1,()) g) λ f=>f (b.1,()) e) (@joinR [6] (λ f g=>a (f.1,()) g) λ f=>onB d (f (b.1,()) e) (k (.bool false) e))
def g195_2 (a:(FEnv [6])→H→R)(b:FEnv [6,1])(c d e:Value)(f:H):R:=joinV (λ g h=>g195_1 k a b c g h) λ g=>onG c (g undef f) (binR (binC E .gtr 3 false false) d e λ h=>g h f) (g undef f)
def g195_3 (a:(FEnv [6])→H→R)(b:FEnv [6,1])(c d e f:Value)(g:H):R:=joinV (λ h i=>joinV (λ j l=>g195_2 E k a b d h j l) λ j=>onG d (j undef i) (j c i) (j undef i)) λ h=>onG d (h undef g) (binR (binC E .add 3 false false) e f λ i=>h i g) (h undef g)
def g195_4 (a:(FEnv [6])→H→R)(b:FEnv [6,1])(c d e f g:Value)(h:H):R:=joinV (λ i j=>joinV (λ l m=>g195_3 E k a b d e i l m) λ l=>onG e (l undef j) (l c j) (l undef j)) λ i=>onG e (i undef h) (rc 114 [f,g] h i) (i undef h)
def g195_6 (a:(FEnv [6])→H→R)(b:FEnv [6,1])(c d e:Value)(f g:H):R:=joinV (λ h i=>joinV (λ j l=>g195_4 E rc k a b c d e h j l) λ j=>onG e (j undef i) (j b.2.1 i) (j undef i)) λ h=>g103_9 h e f g
def g195_7 (a:(FEnv [6])→H→R)(b:FEnv [6,1])(c:V)(d:Value)(e f:H)(g:Nat):R:=ifB (Nat.ble 1 g) (rc 285 [.agg ⟨cellsF c 1 0⟩,b.2.1] f λ h i=>onTup h λ j=>nthF 0 j λ l=>onTup h λ m=>nthF 1 m λ n=>g195_6 E rc k a b d l n e i)
def g195_8 (a:(FEnv [6,1])→H→R)(b:FEnv [6,1])(c:Value)(d e:H):R:=@joinR [6] (λ f g=>g107_0 rc a b f d g) λ f=>onRow (hget e d.1) λ _ g _ _ _ h=>g195_7 E rc k f b h c d e g
def g195_9 (a:(FEnv [6,1])→H→R)(b:(FEnv [6])→H→R)(c:FEnv [6,1])(d:Value)(e f:H):R:=binR (binC E .neq 3 false true) c.2.1 (.int .i64 (.ofNat 0)) λ g=>@joinR [] (λ _ h=>g195_8 E rc k a c d e h) λ h=>onB g (b (c.1,()) f) (h () f)
def g195_20 (a b c d:Value)(e f:H):R:=onB c (@joinR [6] (λ g h=>@joinR [6] (λ _ i=>k (.bool true) i) λ i=>@loopF [6,1] (λ j l m=>g195_9 E rc k j i l b e m) 1000000 (g.1,(a,())) h) λ g=>onB d (g (.bool false,()) f) (k (.bool false) f)) (@joinR [6] (λ g h=>@joinR [6] (λ _ i=>k (.bool true) i) λ i=>@loopF [6,1] (λ j l m=>g195_9 E rc k j i l b e m) 1000000 (g.1,(a,())) h) λ _=>k (.bool false) f)
def g195_21 (a:Value→H→R)(b c:Value)(d:H):R:=onG b (binR (binC E .gtr 3 false true) c (.int .i64 (.ofNat 4294967296)) λ e=>a e d) (a undef d) (a undef d)
def g195_32 (a b:Value)(c d:H):R:=@joinR [6] (λ e f=>@joinR [6] (λ _ g=>k (.bool true) g) λ g=>@loopF [6,1] (λ h i j=>g195_9 E rc k h g i b c j) 1000000 (e.1,(a,())) f) λ _=>k (.bool false) d
def g195_33 (a b c d:Value)(e f:H):R:=onB c (joinV (λ g h=>joinV (λ i j=>g195_20 E rc k a b d i e j) λ i=>g195_21 E i d g h) λ g=>onG d (g b f) (g undef f) (g undef f)) (joinV (λ _ g=>joinV (λ _ h=>g195_32 E rc k a b e h) λ h=>h undef g) λ g=>g undef f)
def g195_35 (a b c:Value)(d e:H):R:=joinV (λ f g=>joinV (λ h i=>g195_33 E rc k a b c h d i) λ h=>g110_11 E h c f g) λ f=>onG c (f b e) (f undef e) (f undef e)
def g195_36 (a:L)(b:V)(c d:Bool)(e:TypeId)(f g h:Value)(i j l:H)(m n:Nat):R:=ifB (notB d) (ifB (Nat.beq (lenF a) 12) (ifB (Nat.ble n 0) (ifB (Nat.ble 12 m) (ifB (Nat.ble m 1000000000) (ifB (allF (λ o=>cell1F o) a) (letH (hset l j.1 (.row e m c false n (putF b 0 a))) λ o=>binR (binC E .neq 41 false true) h (.int .i64 (.ofNat 0)) λ p=>g195_35 E rc k f g p i o))))))
def g195_37 (a b c d:Value)(e f:H):R:=ifB (Nat.ble f.1 1000000000) (letH (hpush f (.row 112 12 false false 0 (T.ofList unk [.pointer none,.pointer none,.int .i64 (.ofNat 0),.int .i64 (.ofNat 0),.int .u64 (.ofNat 0),.pointer none,.int .i64 (.ofNat 0),.int .i64 (.ofNat 0),.int .i64 (.ofNat 0),.pointer none,.int .i64 (.ofNat 0),.int .i64 (.ofNat 0)]))) λ g=>onCells c λ h=>onRow (hget g f.1) λ i j l m n o=>g195_36 E rc k h o l m i a b d e f g j n)
def g195_38 (a:V)(b c:Value)(d e:H)(f:Nat):R:=ifB (Nat.ble 1 f) (rc 50 [getF a 0,b] e λ g h=>onTup g λ i=>nthF 0 i λ j=>onTup g λ l=>nthF 1 l λ m=>g195_37 E rc k b c j m d h)
def g195_39 (a:L)(b c:Value)(d:H):R:=ifB (allF (λ e=>cell1F e) a) (ifB (Nat.ble d.1 1000000000) (letH (hpush d (.row 90 (lenF a) false false 0 (T.ofList unk a))) λ e=>onRow (hget e d.1) λ _ f _ _ _ g=>g195_38 E rc k g b c d e f))
def g195 (E:Env)(rc:RC)(a0 a1 a2:Value)(h:H)(k:Value→H→R):R:=onCells a0 λ a=>g195_39 E rc k a a1 a2 h
theorem g195_eq (t:ExtT)(rc:RC)(a0 a1 a2:Value)(h:H)(k:Value→H→R):(funB (EX t) KK 195).run rc [a0,a1,a2] h k = g195 (EX t) rc a0 a1 a2 h k:=by kernel_rfl
def g215_2 (a:(FEnv [6])→H→R)(b:FEnv [6])(c d:Value)(e f:H):R:=onB d (a (b.1,()) f) (onRow (hget f e.1) λ _ g _ _ _ h=>ifB (Nat.ble 1 g) (rc 301 [.agg ⟨cellsF h 1 0⟩,c] f λ _ i=>k (.int .i64 (.ofNat 5)) i))
def g215_3 (a:FEnv [6])(b c d e f:Value)(g h:H):R:=onB e (@joinR [6] (λ _ i=>g103_0 rc k b d g i) λ i=>i (a.1,()) h) (@joinR [6] (λ _ i=>g103_0 rc k b d g i) λ i=>g215_2 rc k i a c f g h)
def g215_4 (a:FEnv [6])(b c d e f g h:Value)(i j:H):R:=joinV (λ l m=>joinV (λ n o=>g215_3 rc k a b c d e n i o) λ n=>onG e (n undef m) (onB l (n (.bool true) m) (n (.bool false) m)) (n undef m)) λ l=>onG e (l undef j) (rc 195 [f,g,h] j l) (l undef j)
def g215_5 (a:FEnv [6])(b c d e f:Value)(g h:H):R:=joinV (λ i j=>joinV (λ l m=>g215_4 rc k a b c d e f i l g m) λ l=>onG e (l undef j) (l d j) (l undef j)) λ i=>onG e (i undef h) (i b h) (i undef h)
def g215_7 (a:FEnv [6])(b c d:Value)(e f:H):R:=binR (binC E .gtr 3 false true) d (.int .i64 (.ofNat 0)) λ g=>joinV (λ h i=>g215_5 rc k a b c d g h e i) λ h=>g103_9 h g e f
def g215_8 (a:FEnv [6])(b c:Value)(d e:H):R:=onRow (hget e d.1) λ _ f _ _ _ g=>ifB (Nat.ble 1 f) (rc 114 [.agg ⟨cellsF g 1 0⟩,c] e λ h i=>g215_7 E rc k a b c h d i)
def g215_9 (a b c:Value)(d e:H):R:=binR (binC E .neq 41 false true) c (.int .i64 (.ofNat 0)) λ f=>@joinR [6] (λ g h=>g215_8 E rc k g a b d h) λ g=>onB f (g (.int .i64 (.ofNat 0),()) e) (k c e)
def g215_10 (a b:Value)(c d:H):R:=onRow (hget d c.1) λ _ e _ _ _ f=>ifB (Nat.ble 1 e) (rc 300 [.agg ⟨cellsF f 1 0⟩,a,b] d λ g h=>g215_9 E rc k a b g c h)
def g215_11 (a:L)(b c:Value)(d:H):R:=ifB (allF (λ e=>cell1F e) a) (ifB (Nat.ble d.1 1000000000) (letH (hpush d (.row 90 (lenF a) false false 0 (T.ofList unk a))) λ e=>g215_10 E rc k b c d e))
def g215 (E:Env)(rc:RC)(a0 a1 a2:Value)(h:H)(k:Value→H→R):R:=onCells a0 λ a=>g215_11 E rc k a a1 a2 h
theorem g215_eq (t:ExtT)(rc:RC)(a0 a1 a2:Value)(h:H)(k:Value→H→R):(funB (EX t) KK 215).run rc [a0,a1,a2] h k = g215 (EX t) rc a0 a1 a2 h k:=by kernel_rfl
def g318_0 (a:FEnv [8,9])(b c:Value)(d:H):R:=onB c (@joinR [8,9] (λ _ e=>ifB (nT [b,.bool true]) (k (.tuple ⟨[b,.bool true]⟩) e)) λ _=>k (.tuple ⟨[.int .i64 (.ofNat 0),.bool false]⟩) d) (@joinR [8,9] (λ _ e=>ifB (nT [b,.bool true]) (k (.tuple ⟨[b,.bool true]⟩) e)) λ e=>e (a.1,(a.2.1,())) d)
def g318_1 (a:FEnv [8,9])(b c:Value)(d e:H):R:=onRow (hget e d.1) λ _ f _ _ _ g=>ifB (Nat.ble 4 f) (rc 375 [.agg ⟨cellsF g 4 0⟩,c,b] e λ h i=>g318_0 k a c h i)
def g318_2 (a:FEnv [8,9])(b c d:Value)(e f:H):R:=binR (binC E .sub 3 false true) c (.int .i64 (.ofNat 1)) λ g=>binR (binC E .andNot 3 false false) d g λ h=>g318_1 rc k a b h e f
def g318_3 (a:FEnv [8,9])(b c d:Value)(e f:H):R:=binR (binC E .add 3 false false) d c λ g=>binR (binC E .sub 3 false true) g (.int .i64 (.ofNat 1)) λ h=>g318_2 E rc k a b c h e f
def g318_4 (a b c:Value)(d e:H):R:=@joinR [8,9] (λ f g=>binR (binC E .add 3 false true) a (.int .i64 (.ofNat 16)) λ h=>g318_3 E rc k f b c h d g) λ _=>k (.tuple ⟨[.int .i64 (.ofNat 0),.bool false]⟩) e
def g318_5 (a b c:Value)(d e:H):R:=joinV (λ _ f=>joinV (λ _ g=>joinV (λ _ h=>g318_4 E rc k a b c d h) λ h=>h undef g) λ g=>g undef f) λ f=>f undef e
def g318_6 (a b c:Value)(d e:H):R:=joinV (λ _ f=>joinV (λ _ g=>joinV (λ _ h=>g318_5 E rc k a b c d h) λ h=>h undef g) λ g=>g undef f) λ f=>f undef e
def g318_15 (a b c d e:Value)(f g:H):R:=onB d (@joinR [8,9] (λ h i=>binR (binC E .add 3 false true) a (.int .i64 (.ofNat 16)) λ j=>g318_3 E rc k h b c j f i) λ h=>onB e (h (.int .i64 (.ofNat 0),(.bool false,())) g) (k (.tuple ⟨[.int .i64 (.ofNat 0),.bool false]⟩) g)) (@joinR [8,9] (λ h i=>binR (binC E .add 3 false true) a (.int .i64 (.ofNat 16)) λ j=>g318_3 E rc k h b c j f i) λ _=>k (.tuple ⟨[.int .i64 (.ofNat 0),.bool false]⟩) g)
def g318_16 (a b c d e f:Value)(g h:H):R:=joinV (λ i j=>g318_15 E rc k a b c d i g j) λ i=>onG d (binR (binC E .gtr 3 false false) e f λ j=>i j h) (i undef h) (i undef h)
def g318_17 (a:Value→H→R)(b:Value)(c d:H):R:=onG b (onRow (hget d c.1) λ _ e _ _ _ f=>ifB (Nat.ble 4 e) (a (.agg ⟨cellsF f 4 0⟩) d)) (a undef d) (a undef d)
def g318_18 (a b c d e:Value)(f g:H):R:=joinV (λ h i=>joinV (λ j l=>g318_16 E rc k a b c d e j f l) λ j=>onG d (rc 374 [h] i j) (j undef i) (j undef i)) λ h=>g318_17 h d f g
def g318_19 (a b c d e:Value)(f g:H):R:=joinV (λ h i=>joinV (λ j l=>g318_18 E rc k a b c h j f l) λ j=>onG h (j a i) (j undef i) (j undef i)) λ h=>binR (binC E .lss 3 false false) d e λ i=>h i g
def g318_20 (a b c d e:Value)(f g:H):R:=joinV (λ h i=>g318_19 E rc k a b c d h f i) λ h=>binR (binC E .add 3 false true) e (.int .i64 (.ofNat 32)) λ i=>h i g
def g318_21 (a b c d e:Value)(f g:H):R:=joinV (λ h i=>g318_20 E rc k a b c d h f i) λ h=>onPtr e λ i=>onRow (hget g i.1) λ _ j _ _ _ l=>ifB (Nat.ble (Nat.succ i.2) j) (h (getF l i.2) g)
def g318_22 (a b c d:Value)(e f:H):R:=onB d (joinV (λ _ g=>joinV (λ _ h=>joinV (λ _ i=>g318_6 E rc k a b c e i) λ i=>i undef h) λ h=>h undef g) λ g=>g undef f) (joinV (λ g h=>joinV (λ i j=>g318_21 E rc k a b c g i e j) λ i=>i (.pointer (some (Addr.mk e.1 0 none))) h) λ g=>g a f)
def g318_23 (a:L)(b c d:Value)(e:H):R:=ifB (allF (λ f=>cell1F f) a) (ifB (Nat.ble e.1 1000000000) (letH (hpush e (.row 169 (lenF a) false false 0 (T.ofList unk a))) λ f=>rc 373 [d] f λ g h=>g318_22 E rc k b c d g e h))
def g318 (E:Env)(rc:RC)(a0 a1 a2 a3:Value)(h:H)(k:Value→H→R):R:=onCells a0 λ a=>g318_23 E rc k a a1 a2 a3 h
theorem g318_eq (t:ExtT)(rc:RC)(a0 a1 a2 a3:Value)(h:H)(k:Value→H→R):(funB (EX t) KK 318).run rc [a0,a1,a2,a3] h k = g318 (EX t) rc a0 a1 a2 a3 h k:=by kernel_rfl
def g275_0 (a:(FEnv [2])→H→R)(b:Value)(c:H):R:=binR (binC E .neq 3 false true) b (.int .i64 (.ofNat 0)) λ d=>@joinR [2] (λ e f=>a (e.1,()) f) λ e=>onB d (e (.int .i64 (.ofNat 0),()) c) (k (.int .i64 (.ofNat 18)) c)
def g275_1 (a:(FEnv [2])→H→R)(b:Value)(c d:H):R:=onB b (onRow (hget d c.1) λ _ e _ _ _ f=>ifB (Nat.ble 9 e) (rc 236 [.agg ⟨cellsF f 9 0⟩] d λ g h=>g275_0 E k a g h)) (k (.int .i64 (.ofNat 1)) d)
def g275_2 (a:(FEnv [2])→H→R)(b:V)(c d:H)(e:Nat):R:=ifB (Nat.ble 1 e) (binR (binC E .eql 86 false true) (getF b 0) (.pointer none) λ f=>@joinR [2] (λ g h=>a (g.1,()) h) λ g=>g275_1 E rc k g f c d)
def g275_3 (a b:H):R:=@joinR [2] (λ _ c=>k (.int .i64 (.ofNat 0)) c) λ c=>onRow (hget b a.1) λ _ d _ _ _ e=>g275_2 E rc k c e a b d
def g275_4 (a:L)(b:H):R:=ifB (allF (λ c=>cell1F c) a) (ifB (Nat.ble b.1 1000000000) (letH (hpush b (.row 108 (lenF a) false false 0 (T.ofList unk a))) λ c=>g275_3 E rc k b c))
def g275 (E:Env)(rc:RC)(a0:Value)(h:H)(k:Value→H→R):R:=onCells a0 λ a=>g275_4 E rc k a h
theorem g275_eq (t:ExtT)(rc:RC)(a0:Value)(h:H)(k:Value→H→R):(funB (EX t) KK 275).run rc [a0] h k = g275 (EX t) rc a0 h k:=by kernel_rfl
def g276_1 (a b:Value)(c d:H):R:=onRow (hget d c.1) λ _ e _ _ _ f=>ifB (Nat.ble 9 e) (rc 347 [.agg ⟨cellsF f 9 0⟩,a,b] d λ g h=>onTup g λ i=>g43_0 k i g h)
def g276_2 (a:(FEnv [6,7])→H→R)(b c:Value)(d:H):R:=onB c (a (.int .i64 (.ofNat 0),(.int .i64 (.ofNat 0),())) d) (ifB (nT [b,.int .i64 (.ofNat 0)]) (k (.tuple ⟨[b,.int .i64 (.ofNat 0)]⟩) d))
def g276_3 (a:(FEnv [6,7])→H→R)(b:Value)(c:H):R:=onTup b λ d=>nthF 0 d λ e=>onTup b λ f=>nthF 1 f λ g=>@joinR [6,7] (λ h i=>a (h.1,(h.2.1,())) i) λ h=>g276_2 k h e g c
def g276_4 (a:(FEnv [6,7])→H→R)(b c:V)(d e f:Value)(g:H)(h:Nat):R:=ifB (Nat.ble 4 h) (ifB (sameW (.agg ⟨cellsF c 4 0⟩) (.agg ⟨cellsF b 4 0⟩)) (ifB (sameW d d) (ifB (sameW e e) (rc 318 [.agg ⟨cellsF b 4 0⟩,f,d,e] g λ i j=>g276_3 k a i j))))
def g276_5 (a:(FEnv [6,7])→H→R)(b c d:V)(e f:Value)(g h:H)(i:Nat):R:=ifB (Nat.ble 4 i) (rc 346 [.agg ⟨cellsF c 9 0⟩,.agg ⟨cellsF d 4 0⟩] h λ j l=>onRow (hget l g.1) λ _ m _ _ _ n=>g276_4 rc k a b n e f j l m)
def g276_6 (a:(FEnv [6,7])→H→R)(b:V)(c d:Value)(e f g:H)(h:Nat):R:=ifB (Nat.ble 4 h) (onRow (hget g e.1) λ _ i _ _ _ j=>ifB (Nat.ble 9 i) (onRow (hget g f.1) λ _ l _ _ _ m=>g276_5 rc k a b j m c d f g l))
def g276_7 (a:(FEnv [6,7])→H→R)(b c d:Value)(e f g:H):R:=onB d (a (.int .i64 (.ofNat 0),(.int .i64 (.ofNat 0),())) g) (ifB (Nat.ble g.1 1000000000) (letH (H.mk g.1 g.2) λ h=>onRow (hget h f.1) λ _ i _ _ _ j=>g276_6 rc k a j b c e f h i))
def g276_8 (a:L)(b:V)(c d:Bool)(e:TypeId)(f g h:Value)(i j l:H)(m n:Nat):R:=ifB (notB d) (ifB (Nat.beq (lenF a) 4) (ifB (Nat.ble n 0) (ifB (Nat.ble 4 m) (ifB (Nat.ble m 1000000000) (ifB (allF (λ o=>cell1F o) a) (letH (hset l j.1 (.row e m c false n (putF b 0 a))) λ o=>@joinR [6,7] (λ _ p=>g276_1 rc k f g i p) λ p=>g276_7 rc k p f g h i j o))))))
def g276_9 (a b c d:Value)(e f:H):R:=ifB (Nat.ble f.1 1000000000) (letH (hpush f (.row 169 4 false false 0 (T.ofList unk [.int .i64 (.ofNat 0),.int .i64 (.ofNat 0),.int .u64 (.ofNat 0),.int .i64 (.ofNat 0)]))) λ g=>onCells c λ h=>onRow (hget g f.1) λ i j l m n o=>g276_8 rc k h o l m i a b d e f g j n)
def g276_10 (a:V)(b c:Value)(d e:H)(f:Nat):R:=ifB (Nat.ble 5 f) (rc 345 [.agg ⟨cellsF a 5 0⟩] e λ g h=>onTup g λ i=>nthF 0 i λ j=>onTup g λ l=>nthF 1 l λ m=>g276_9 rc k b c j m d h)
def g276_11 (a:L)(b c:Value)(d:H):R:=ifB (allF (λ e=>cell1F e) a) (ifB (Nat.ble d.1 1000000000) (letH (hpush d (.row 108 (lenF a) false false 0 (T.ofList unk a))) λ e=>onRow (hget e d.1) λ _ f _ _ _ g=>g276_10 rc k g b c d e f))
def g276 (E:Env)(rc:RC)(a0 a1 a2:Value)(h:H)(k:Value→H→R):R:=onCells a0 λ a=>g276_11 rc k a a1 a2 h
theorem g276_eq (t:ExtT)(rc:RC)(a0 a1 a2:Value)(h:H)(k:Value→H→R):(funB (EX t) KK 276).run rc [a0,a1,a2] h k = g276 (EX t) rc a0 a1 a2 h k:=by kernel_rfl
def g277_0 (a:Value→R)(b:V)(c:H):R:=onNat (getF b 2) (bindO (convV E c 3 25 (getF b 2)) a) λ d=>@Bool.rec (λ _=>R) (bindO (convV E c 3 25 (getF b 2)) a) (a (.int .u64 (.ofNat d))) (Nat.ble d 18446744073709551615)
def g277_1 (a b c:V)(d e:Value)(f g:H)(h:Nat):R:=ifB (Nat.ble 3 h) (ifB (sameW (getF c 2) (getF b 2)) (joinL (λ i=>ifB (sameW i d) (rc 343 [e,.agg ⟨cellsF a 3 0⟩,.slice (some (Addr.mk f.1 0 none)) 2 4] g λ j l=>k j l)) λ i=>g277_0 E i b g))
def g277_2 (a b:V)(c d e f:Value)(g h i:H):R:=ifB (sameW f c) (ifB (sameW (.pointer (some (Addr.mk g.1 2 none))) (.pointer (some (Addr.mk g.1 2 none)))) (onRow (hget i g.1) λ _ j _ _ _ l=>g277_1 E rc k a b l d e h i j))
def g277_4 (a b c d:V)(e f g:Value)(h i j:H)(l:Nat):R:=ifB (Nat.ble 2 l) (ifB (sameW (getF d 1) (getF b 1)) (joinL (λ m=>g277_2 E rc k a c e f g m h i j) λ m=>g268_4 E m b j))
def g277_5 (a b c d:V)(e f g:Value)(h i j:H)(l:Nat):R:=ifB (Nat.ble 3 l) (ifB (sameW (.agg ⟨cellsF d 3 0⟩) (.agg ⟨cellsF a 3 0⟩)) (ifB (sameW (.pointer (some (Addr.mk h.1 1 none))) (.pointer (some (Addr.mk h.1 1 none)))) (onRow (hget j h.1) λ _ m _ _ _ n=>g277_4 E rc k a b c n e f g h i j m)))
def g277_6 (a:L)(b c d:V)(e f:Value)(g h i j:H):R:=letH (hset j i.1 (.row 25 2 false false 0 (T.ofList unk a))) λ l=>rc 293 [] l λ m n=>onRow (hget n h.1) λ _ o _ _ _ p=>g277_5 E rc k b c d p e f m g i n o
def g277_7 (a b c:V)(d e:Value)(f g h i:H):R:=@Option.rec (List Value) (λ _=>R) none (λ j=>g277_6 E rc k j a b c d e f g h i) (fillV (λ j=>some (Nat.mul j 1,1)) (List.flatten (List.replicate 2 (cellsOfV (.int .u64 (.ofNat 0))))) [(0,d),(1,e)])
def g277_9 (a b:V)(c:Value)(d e f g:H):R:=onRow (hget g d.1) λ _ h _ _ _ i=>ifB (Nat.ble 3 h) (joinL (λ j=>g277_7 E rc k a b i c j d e f g) λ j=>g277_0 E j i g)
def g277_11 (a:V)(b c d e:H)(f:Nat):R:=ifB (Nat.ble 3 f) (onRow (hget e b.1) λ _ g _ _ _ h=>ifB (Nat.ble 2 g) (joinL (λ i=>g277_9 E rc k a h i b c d e) λ i=>g268_4 E i h e))
def g277_12 (a b c:H):R:=ifB (Nat.ble c.1 1000000000) (letH (H.mk (Nat.add c.1 1) c.2) λ d=>onRow (hget d b.1) λ _ e _ _ _ f=>g277_11 E rc k f a b c d e)
def g277_13 (a:FEnv [4])(b:Value)(c d e:H):R:=binR (binC E .neq 41 false true) b (.int .i64 (.ofNat 0)) λ f=>@joinR [4] (λ _ g=>g277_12 E rc k c d g) λ g=>onB f (g (a.1,()) e) (k b e)
def g277_14 (a:FEnv [4])(b:L)(c:V)(d e:Bool)(f:TypeId)(g:Value)(h i j:H)(l m:Nat):R:=ifB (notB e) (ifB (Nat.beq (lenF b) 3) (ifB (Nat.ble m 0) (ifB (Nat.ble 3 l) (ifB (Nat.ble l 1000000000) (ifB (allF (λ n=>cell1F n) b) (letH (hset j i.1 (.row f l d false m (putF c 0 b))) λ n=>g277_13 E rc k a g h i n))))))
def g277_15 (a:FEnv [4])(b c:Value)(d e:H):R:=ifB (Nat.ble e.1 1000000000) (letH (hpush e (.row 78 3 false false 0 (T.ofList unk [.pointer none,.int .i64 (.ofNat 0),.int .i64 (.ofNat 0)]))) λ f=>onCells b λ g=>onRow (hget f e.1) λ h i j l m n=>g277_14 E rc k a g n j l h c d e f i m)
def g277_16 (a:FEnv [4])(b:V)(c:Value)(d e:H)(f:Nat):R:=ifB (Nat.ble 1 f) (rc 292 [c,getF b 0] e λ g h=>onTup g λ i=>nthF 0 i λ j=>onTup g λ l=>nthF 1 l λ m=>g277_15 E rc k a j m d h)
def g277_34 (a b c:Value)(d e:H):R:=onB b (@joinR [4] (λ f g=>onRow (hget g d.1) λ _ h _ _ _ i=>g277_16 E rc k f i a d g h) λ f=>f (.int .i64 (.ofNat 0),()) e) (@joinR [4] (λ f g=>onRow (hget g d.1) λ _ h _ _ _ i=>g277_16 E rc k f i a d g h) λ f=>onB c (f (.int .i64 (.ofNat 0),()) e) (k (.int .i64 (.ofNat 2)) e))
def g277_36 (a b c d:Value)(e f:H):R:=joinV (λ g h=>joinV (λ i j=>g277_34 E rc k a b i e j) λ i=>onG b (i undef h) (onB c (i g h) (i (.bool true) h)) (i undef h)) λ g=>g110_11 E g c d f
def g277_38 (a b c:Value)(d e:H):R:=joinV (λ f g=>joinV (λ h i=>g277_36 E rc k a b c h d i) λ h=>g110_12 h c f g) λ f=>onG c (f (.pointer (some (Addr.mk d.1 2 none))) e) (f undef e) (f undef e)
def g277_39 (a:Value→H→R)(b c:Value)(d:H):R:=onG b (a undef d) (binR (binC E .lss 3 false true) c (.int .i64 (.ofNat 0)) λ e=>a e d) (a undef d)
def g277_40 (a b c:Value)(d e:H):R:=joinV (λ f g=>joinV (λ h i=>g277_38 E rc k a b h d i) λ h=>onG b (h undef g) (h f g) (h undef g)) λ f=>g277_39 E f b c e
def g277_42 (a b:Value)(c d:H):R:=joinV (λ e f=>joinV (λ g h=>g277_40 E rc k a b g c h) λ g=>g261_5 g b e f) λ e=>onG b (e undef d) (e (.pointer (some (Addr.mk c.1 1 none))) d) (e undef d)
def g277_43 (a:L)(b:Value)(c:H):R:=ifB (allF (λ d=>cell1F d) a) (ifB (Nat.ble c.1 1000000000) (letH (hpush c (.row 255 (lenF a) false false 0 (T.ofList unk a))) λ d=>binR (binC E .neq 44 false true) b (.pointer none) λ e=>g277_42 E rc k b e c d))
def g277 (E:Env)(rc:RC)(a0 a1:Value)(h:H)(k:Value→H→R):R:=onCells a1 λ a=>g277_43 E rc k a a0 h
theorem g277_eq (t:ExtT)(rc:RC)(a0 a1:Value)(h:H)(k:Value→H→R):(funB (EX t) KK 277).run rc [a0,a1] h k = g277 (EX t) rc a0 a1 h k:=by kernel_rfl
def g278_1 (a:V)(b c:Value)(d:H)(e:Nat):R:=ifB (Nat.ble 8 e) (joinL (λ f=>rc 42 [.agg ⟨cellsF a 3 5⟩,b,.int .i64 (.ofNat 8),f] d λ _ g=>k (.tuple ⟨[]⟩) g) λ f=>g79_9 E f c d)
def g278_2 (a:L)(b c:Value)(d:H):R:=ifB (allF (λ e=>cell1F e) a) (ifB (Nat.ble d.1 1000000000) (letH (hpush d (.row 108 (lenF a) false false 0 (T.ofList unk a))) λ e=>onRow (hget e d.1) λ _ f _ _ _ g=>g278_1 E rc k g b c e f))
def g278 (E:Env)(rc:RC)(a0 a1 a2:Value)(h:H)(k:Value→H→R):R:=onCells a0 λ a=>g278_2 E rc k a a1 a2 h
theorem g278_eq (t:ExtT)(rc:RC)(a0 a1 a2:Value)(h:H)(k:Value→H→R):(funB (EX t) KK 278).run rc [a0,a1,a2] h k = g278 (EX t) rc a0 a1 a2 h k:=by kernel_rfl
end
end Go.Ev
