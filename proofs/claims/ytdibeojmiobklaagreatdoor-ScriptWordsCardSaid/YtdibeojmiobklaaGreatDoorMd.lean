/-
  Functions of a program as plain Lean, for any table of functions that are answered for; printed by a program.
-/
import Derived.Test.YtdibeojmiobklaaGreatDoorMc
set_option linter.unusedVariables false
set_option linter.unusedSimpArgs false
namespace Go.Ev
open Go F Go.Proofs
set_option maxRecDepth 100000
set_option linter.unusedVariables false
noncomputable section
variable (E : Env) (rc : RC) (k : Value → H → R)
def g196_2 (a:(FEnv [])→H→R)(b c:V)(d e:Value)(f:H)(g:Nat):R:=ifB (Nat.ble 12 g) (ifB (sameW (.agg ⟨cellsF c 12 0⟩) (.agg ⟨cellsF b 12 0⟩)) (ifB (sameW d d) (binR (binC E .add 3 false false) e d λ h=>joinL (λ i=>rc 99 [.agg ⟨cellsF b 12 0⟩,.int .i64 (.ofNat 8),i] f λ _ j=>a () j) λ i=>g79_9 E i h f)))
def g196_3 (a:(FEnv [])→H→R)(b:FEnv [1])(c d:V)(e:Value)(f g:H)(h:Nat):R:=ifB (Nat.ble 1 h) (rc 114 [.agg ⟨cellsF d 1 0⟩,b.1] g λ i j=>onRow (hget j f.1) λ _ l _ _ _ m=>g196_2 E rc a c m e i j l)
def g196_4 (a:(FEnv [])→H→R)(b:FEnv [1])(c:Value)(d e f:H):R:=onRow (hget f e.1) λ _ g _ _ _ h=>ifB (Nat.ble 12 g) (onRow (hget f d.1) λ _ i _ _ _ j=>g196_3 E rc a b h j c e f i)
def g196_5 (a:(FEnv [])→H→R)(b:FEnv [1])(c:L)(d:V)(e f:Bool)(g:TypeId)(h:Value)(i j l:H)(m n:Nat):R:=ifB (notB f) (ifB (Nat.beq (lenF c) 12) (ifB (Nat.ble n 0) (ifB (Nat.ble 12 m) (ifB (Nat.ble m 1000000000) (ifB (allF (λ o=>cell1F o) c) (letH (hset l j.1 (.row g m e false n (putF d 0 c))) λ o=>ifB (Nat.ble o.1 1000000000) (letH (H.mk o.1 o.2) λ p=>g196_4 E rc a b h i j p)))))))
def g196_6 (a:(FEnv [])→H→R)(b:FEnv [1])(c d:Value)(e f:H):R:=ifB (Nat.ble f.1 1000000000) (letH (hpush f (.row 112 12 false false 0 (T.ofList unk [.pointer none,.pointer none,.int .i64 (.ofNat 0),.int .i64 (.ofNat 0),.int .u64 (.ofNat 0),.pointer none,.int .i64 (.ofNat 0),.int .i64 (.ofNat 0),.int .i64 (.ofNat 0),.pointer none,.int .i64 (.ofNat 0),.int .i64 (.ofNat 0)]))) λ g=>onCells d λ h=>onRow (hget g f.1) λ i j l m n o=>g196_5 E rc a b h o l m i c e f g j n)
def g196_7 (a:(FEnv [])→H→R)(b:FEnv [1])(c:V)(d:Value)(e f:H)(g:Nat):R:=ifB (Nat.ble 1 g) (rc 50 [getF c 0,b.1] f λ h i=>onTup h λ j=>nthF 0 j λ l=>onTup h λ m=>nthF 1 m λ _=>g196_6 E rc a b d l e i)
def g196_8 (a:(FEnv [1])→H→R)(b:(FEnv [])→H→R)(c:FEnv [1])(d e:Value)(f g:H):R:=@joinR [] (λ _ h=>@joinR [] (λ _ i=>g302_0 rc a c f i) λ i=>onRow (hget h f.1) λ _ j _ _ _ l=>g196_7 E rc i c l d f h j) λ h=>onB e (b () g) (h () g)
def g196_9 (a:(FEnv [])→H→R)(b c:Value)(d e:H):R:=@loopF [1] (λ f g h=>binR (binC E .neq 3 false true) g.1 (.int .i64 (.ofNat 0)) λ i=>g196_8 E rc f a g c i d h) 1000000 (b,()) e
def g196_10 (a:L)(b c:Value)(d:H):R:=ifB (allF (λ e=>cell1F e) a) (ifB (Nat.ble d.1 1000000000) (letH (hpush d (.row 90 (lenF a) false false 0 (T.ofList unk a))) λ e=>@joinR [] (λ _ f=>k (.tuple ⟨[]⟩) f) λ f=>g196_9 E rc f b c d e))
def g196 (E:Env)(rc:RC)(a0 a1 a2:Value)(h:H)(k:Value→H→R):R:=onCells a0 λ a=>g196_10 E rc k a a1 a2 h
theorem g196_eq (t:ExtT)(rc:RC)(a0 a1 a2:Value)(h:H)(k:Value→H→R):(funB (EX t) KK 196).run rc [a0,a1,a2] h k = g196 (EX t) rc a0 a1 a2 h k:=by kernel_rfl
def g218_0 (a b:V)(c d:Value)(e:H)(f:Nat):R:=ifB (Nat.ble 1 f) (ifB (sameW (.agg ⟨cellsF b 1 0⟩) (.agg ⟨cellsF a 1 0⟩)) (ifB (sameW c c) (rc 196 [.agg ⟨cellsF a 1 0⟩,c,d] e λ _ g=>k (.int .i64 (.ofNat 0)) g)))
def g218_1 (a b:V)(c d:Value)(e f:H)(g:Nat):R:=ifB (Nat.ble 1 g) (rc 114 [.agg ⟨cellsF b 1 0⟩,c] f λ h i=>onRow (hget i e.1) λ _ j _ _ _ l=>g218_0 rc k a l d h i j)
def g218_2 (a b:Value)(c d:H):R:=onRow (hget d c.1) λ _ e _ _ _ f=>ifB (Nat.ble 1 e) (onRow (hget d c.1) λ _ g _ _ _ h=>g218_1 rc k f h a b c d g)
def g218_3 (a:FEnv [6])(b c d e:Value)(f g:H):R:=@joinR [6] (λ _ h=>ifB (Nat.ble h.1 1000000000) (letH (H.mk h.1 h.2) λ i=>g218_2 rc k b c f i)) λ h=>onB e (h (a.1,()) g) (k d g)
def g218_4 (a:FEnv [6])(b:V)(c d:Value)(e f:H)(g:Nat):R:=ifB (Nat.ble 1 g) (rc 300 [.agg ⟨cellsF b 1 0⟩,d,c] f λ h i=>binR (binC E .neq 41 false true) h (.int .i64 (.ofNat 0)) λ j=>g218_3 rc k a c d h j e i)
def g218_5 (a:FEnv [6])(b:V)(c d:Value)(e f:H)(g:Nat):R:=ifB (Nat.ble 1 g) (rc 304 [.agg ⟨cellsF b 1 0⟩,c] f λ _ h=>onRow (hget h e.1) λ _ i _ _ _ j=>g218_4 E rc k a j c d e h i)
def g218_6 (a:(FEnv [6])→H→R)(b:FEnv [6])(c:Value)(d:H):R:=onB c (@joinR [6] (λ e f=>a (e.1,()) f) λ _=>k (.int .i64 (.ofNat 5)) d) (@joinR [6] (λ e f=>a (e.1,()) f) λ e=>e (b.1,()) d)
def g218_7 (a:(FEnv [6])→H→R)(b:FEnv [6])(c d e:Value)(f g:H):R:=onB e (onRow (hget g f.1) λ _ h _ _ _ i=>ifB (Nat.ble 1 h) (rc 303 [.agg ⟨cellsF i 1 0⟩,d,c] g λ j l=>g218_6 k a b j l)) (k (.int .i64 (.ofNat 12)) g)
def g218_8 (a:(FEnv [6])→H→R)(b:FEnv [6])(c:V)(d e:Value)(f g:H)(h:Nat):R:=ifB (Nat.ble 1 h) (rc 302 [.agg ⟨cellsF c 1 0⟩,e,d] g λ i j=>@joinR [6] (λ l m=>a (l.1,()) m) λ l=>g218_7 rc k l b d e i f j)
def g218_9 (a:(FEnv [6])→H→R)(b:FEnv [6])(c d e:Value)(f g:H):R:=@joinR [6] (λ h i=>a (h.1,()) i) λ h=>onB e (onRow (hget g f.1) λ _ i _ _ _ j=>g218_8 rc k h b j c d f g i) (k (.int .i64 (.ofNat 8)) g)
def g218_10 (a:(FEnv [6])→H→R)(b:FEnv [6])(c:V)(d e:Value)(f g:H)(h:Nat):R:=ifB (Nat.ble 1 h) (rc 49 [.agg ⟨cellsF c 1 0⟩,d] g λ i j=>binR (binC E .eql 3 false true) i (.int .i64 (.ofNat 0)) λ l=>g218_9 rc k a b d e l f j)
def g218_11 (a:FEnv [6])(b c:Value)(d e:H):R:=@joinR [6] (λ f g=>onRow (hget g d.1) λ _ h _ _ _ i=>g218_5 E rc k f i b c d g h) λ f=>onRow (hget e d.1) λ _ g _ _ _ h=>g218_10 E rc k f a h b c d e g
def g218_12 (a:(FEnv [6])→H→R)(b:FEnv [6,16])(c:Value)(d:H):R:=binR (binC E .neq 41 false true) c (.int .i64 (.ofNat 0)) λ e=>@joinR [6] (λ f g=>a (f.1,()) g) λ f=>onB e (f (b.1,()) d) (k c d)
def g218_13 (a:(FEnv [6])→H→R)(b:FEnv [6,16])(c:L)(d:V)(e f:Bool)(g:TypeId)(h:Value)(i j:H)(l m:Nat):R:=ifB (notB f) (ifB (Nat.beq (lenF c) 12) (ifB (Nat.ble m 0) (ifB (Nat.ble 12 l) (ifB (Nat.ble l 1000000000) (ifB (allF (λ n=>cell1F n) c) (letH (hset j i.1 (.row g l e false m (putF d 0 c))) λ n=>g218_12 E k a b h n))))))
def g218_14 (a:(FEnv [6])→H→R)(b:FEnv [6,16])(c d:Value)(e:H):R:=ifB (Nat.ble e.1 1000000000) (letH (hpush e (.row 112 12 false false 0 (T.ofList unk [.pointer none,.pointer none,.int .i64 (.ofNat 0),.int .i64 (.ofNat 0),.int .u64 (.ofNat 0),.pointer none,.int .i64 (.ofNat 0),.int .i64 (.ofNat 0),.int .i64 (.ofNat 0),.pointer none,.int .i64 (.ofNat 0),.int .i64 (.ofNat 0)]))) λ f=>onCells c λ g=>onRow (hget f e.1) λ h i j l m n=>g218_13 E k a b g n j l h d e f i m)
def g218_15 (a:(FEnv [6])→H→R)(b:FEnv [6,16])(c d:V)(e:Addr)(f:H)(g:Nat):R:=ifB (Nat.ble 1 g) (rc 50 [getF d 0,getF c e.2] f λ h i=>onTup h λ j=>nthF 0 j λ l=>onTup h λ m=>nthF 1 m λ n=>g218_14 E k a b l n i)
def g218_16 (a:(FEnv [6])→H→R)(b:FEnv [6,16])(c:Addr)(d e:H):R:=onRow (hget e c.1) λ _ f _ _ _ g=>ifB (Nat.ble (Nat.succ c.2) f) (onRow (hget e d.1) λ _ h _ _ _ i=>g218_15 E rc k a b g i c e h)
def g218_17 (a:(FEnv [6,16])→H→R)(b:FEnv [6,16])(c d e:H):R:=@joinR [6] (λ f g=>binR (binC E .add 3 false true) b.2.1 (.int .i64 (.ofNat 1)) λ h=>a (f.1,(h,())) g) λ f=>onNat b.2.1 none λ g=>ifB (Nat.ble (Nat.succ g) 2) (addOffF (Addr.mk d.1 0 none) (Nat.mul g 1) λ h=>onPtr h λ i=>g218_16 E rc k f b i c e)
def g218_18 (a:(FEnv [6,16])→H→R)(b:(FEnv [6])→H→R)(c:FEnv [6,16])(d:Value)(e f g:H):R:=binR (binC E .lss 3 false false) c.2.1 d λ h=>@joinR [] (λ _ i=>g218_17 E rc k a c e f i) λ i=>onB h (b (c.1,()) g) (i () g)
def g218_19 (a b c:Value)(d e f:H):R:=@joinR [6] (λ g h=>g218_11 E rc k g a b d h) λ g=>@loopF [6,16] (λ h i j=>g218_18 E rc k h g i c d e j) 1000000 (.int .i64 (.ofNat 0),(.int .i64 (.ofNat 0),())) f
def g218_20 (a:L)(b c:Value)(d e:H):R:=ifB (Nat.ble e.1 1000000000) (letH (hpush e (.row 3 2 false false 0 (T.ofList unk a))) λ f=>joinL (λ g=>g218_19 E rc k b c g d e f) λ g=>g (.int .i64 (.ofNat 2)))
def g218_21 (a b:Value)(c d:H):R:=@Option.rec (List Value) (λ _=>R) none (λ e=>g218_20 E rc k e a b c d) (fillV (λ e=>some (Nat.mul e 1,1)) (List.flatten (List.replicate 2 (cellsOfV (.int .i64 (.ofNat 0))))) [(0,a),(1,b)])
def g218_22 (a:L)(b c:Value)(d:H):R:=ifB (allF (λ e=>cell1F e) a) (ifB (Nat.ble d.1 1000000000) (letH (hpush d (.row 90 (lenF a) false false 0 (T.ofList unk a))) λ e=>g218_21 E rc k b c d e))
def g218 (E:Env)(rc:RC)(a0 a1 a2:Value)(h:H)(k:Value→H→R):R:=onCells a0 λ a=>g218_22 E rc k a a1 a2 h
theorem g218_eq (t:ExtT)(rc:RC)(a0 a1 a2:Value)(h:H)(k:Value→H→R):(funB (EX t) KK 218).run rc [a0,a1,a2] h k = g218 (EX t) rc a0 a1 a2 h k:=by kernel_rfl
def g74 (E:Env)(rc:RC)(a0:Value)(h:H)(k:Value→H→R):R:=binR (binC E .add 3 true false) (.int .i64 (.ofNat 256)) a0 λ a=>rc 162 [a] h λ b c=>onTup b λ d=>nthF 0 d λ e=>onTup b λ f=>nthF 1 f λ _=>k e c
theorem g74_eq (t:ExtT)(rc:RC)(a0:Value)(h:H)(k:Value→H→R):(funB (EX t) KK 74).run rc [a0] h k = g74 (EX t) rc a0 h k:=by kernel_rfl
def g89_0 (a:L)(b:V)(c d:Bool)(e:TypeId)(f g:H)(h i:Nat):R:=ifB (notB d) (ifB (Nat.beq (lenF a) 1) (ifB (Nat.ble i 0) (ifB (Nat.ble 1 h) (ifB (Nat.ble h 1000000000) (ifB (allF (λ j=>cell1F j) a) (letH (hset g f.1 (.row e h c false i (putF b 0 a))) λ j=>bindO (loadV E j 90 (Addr.mk f.1 0 none)) λ l=>k l j))))))
def g89_1 (a:V)(b c:H)(d:Nat):R:=ifB (Nat.ble 1 d) (bindO (buildV E 90 [(0,.agg ⟨cellsF a 1 0⟩)]) λ e=>onCells e λ f=>onRow (hget c b.1) λ g h i j l m=>g89_0 E k f m i j g b c h l)
def g89_2 (a b:H):R:=ifB (Nat.ble b.1 1000000000) (letH (hpush b (.row 90 1 false false 0 (T.ofList unk [.pointer none]))) λ c=>onRow (hget c a.1) λ _ d _ _ _ e=>g89_1 E k e b c d)
def g89_3 (a:L)(b:H):R:=ifB (allF (λ c=>cell1F c) a) (ifB (Nat.ble b.1 1000000000) (letH (hpush b (.row 88 (lenF a) false false 0 (T.ofList unk a))) λ c=>g89_2 E k b c))
def g89 (E:Env)(rc:RC)(a0:Value)(h:H)(k:Value→H→R):R:=onCells a0 λ a=>g89_3 E k a h
theorem g89_eq (t:ExtT)(rc:RC)(a0:Value)(h:H)(k:Value→H→R):(funB (EX t) KK 89).run rc [a0] h k = g89 (EX t) rc a0 h k:=by kernel_rfl
def g90_0 (a:L)(b:V)(c d:Bool)(e:TypeId)(f g:H)(h i:Nat):R:=ifB (notB d) (ifB (Nat.beq (lenF a) 1) (ifB (Nat.ble i 0) (ifB (Nat.ble 1 h) (ifB (Nat.ble h 1000000000) (ifB (allF (λ j=>cell1F j) a) (letH (hset g f.1 (.row e h c false i (putF b 0 a))) λ j=>bindO (loadV E j 88 (Addr.mk f.1 0 none)) λ l=>k l j))))))
def g90_1 (a:Value)(b c:H):R:=bindO (buildV E 88 [(0,a)]) λ d=>onCells d λ e=>onRow (hget c b.1) λ f g h i j l=>g90_0 E k e l h i f b c g j
def g90 (E:Env)(rc:RC)(a0:Value)(h:H)(k:Value→H→R):R:=ifB (Nat.ble h.1 1000000000) (letH (hpush h (.row 88 1 false false 0 (T.ofList unk [.pointer none]))) λ a=>g90_1 E k a0 h a)
theorem g90_eq (t:ExtT)(rc:RC)(a0:Value)(h:H)(k:Value→H→R):(funB (EX t) KK 90).run rc [a0] h k = g90 (EX t) rc a0 h k:=by kernel_rfl
def g98_3 (a:V)(b:Value)(c d e:H)(f:Nat):R:=ifB (Nat.ble 12 f) (rc 188 [.agg ⟨cellsF a 3 9⟩,.int .i64 (.ofNat 160),.int .i64 (.ofNat 16),b] e λ _ g=>g50_2 E k c d g)
def g98_4 (a:V)(b c:Value)(d e f:H)(g:Nat):R:=ifB (Nat.ble 12 g) (rc 99 [.agg ⟨cellsF a 12 0⟩,.int .i64 (.ofNat 0),b] f λ _ h=>onRow (hget h e.1) λ _ i _ _ _ j=>g98_3 E rc k j c d e h i)
def g98_5 (a b:V)(c d:Value)(e f g:H)(h:Nat):R:=ifB (Nat.ble 1 h) (rc 187 [.agg ⟨cellsF a 5 0⟩,getF b 0] g λ _ i=>onRow (hget i f.1) λ _ j _ _ _ l=>g98_4 E rc k l c d e f i j)
def g98_6 (a b:Value)(c d e f:H):R:=onRow (hget f e.1) λ _ g _ _ _ h=>ifB (Nat.ble 5 g) (onRow (hget f d.1) λ _ i _ _ _ j=>g98_5 E rc k h j a b c e f i)
def g98_7 (a:V)(b c:Value)(d e f g:H)(h:Nat):R:=ifB (Nat.ble 12 h) (rc 42 [.agg ⟨cellsF a 3 9⟩,.int .i64 (.ofNat 104),.int .i64 (.ofNat 8),.int .u64 (.ofNat 1162104654)] g λ _ i=>g98_6 E rc k b c d e f i)
def g98_8 (a:V)(b c:Value)(d e f g:H)(h:Nat):R:=ifB (Nat.ble 12 h) (rc 93 [.agg ⟨cellsF a 3 9⟩,.int .i64 (.ofNat 0),.int .i64 (.ofNat 992),.int .u8 (.ofNat 0)] g λ _ i=>onRow (hget i f.1) λ _ j _ _ _ l=>g98_7 E rc k l b c d e f i j)
def g98_9 (a:L)(b:V)(c d:Bool)(e:TypeId)(f g:Value)(h i j l:H)(m n:Nat):R:=ifB (notB d) (ifB (Nat.beq (lenF a) 12) (ifB (Nat.ble n 0) (ifB (Nat.ble 12 m) (ifB (Nat.ble m 1000000000) (ifB (allF (λ o=>cell1F o) a) (letH (hset l j.1 (.row e m c false n (putF b 0 a))) λ o=>onRow (hget o j.1) λ _ p _ _ _ q=>g98_8 E rc k q f g h i j o p))))))
def g98_10 (a b c:Value)(d e f:H):R:=ifB (Nat.ble f.1 1000000000) (letH (hpush f (.row 112 12 false false 0 (T.ofList unk [.pointer none,.pointer none,.int .i64 (.ofNat 0),.int .i64 (.ofNat 0),.int .u64 (.ofNat 0),.pointer none,.int .i64 (.ofNat 0),.int .i64 (.ofNat 0),.int .i64 (.ofNat 0),.pointer none,.int .i64 (.ofNat 0),.int .i64 (.ofNat 0)]))) λ g=>onCells c λ h=>onRow (hget g f.1) λ i j l m n o=>g98_9 E rc k h o l m i a b d e f g j n)
def g98_11 (a:V)(b c d:Value)(e f g:H)(h:Nat):R:=ifB (Nat.ble 4 h) (rc 111 [b,.agg ⟨cellsF a 4 0⟩] g λ i j=>onTup i λ l=>nthF 0 l λ m=>onTup i λ n=>nthF 1 n λ _=>g98_10 E rc k c d m e f j)
def g98_13 (a:FEnv [9])(b c d e f:Value)(g h i:H):R:=@joinR [9] (λ _ j=>onRow (hget j h.1) λ _ l _ _ _ m=>g98_11 E rc k m b c d g h j l) λ j=>onB f (j (a.1,()) i) (onRow (hget i g.1) λ l m n o p q=>g46_3 E k q n o l e g i m p)
def g98_14 (a:FEnv [9])(b c d e:Value)(f g h:H):R:=binR (binC E .neq 41 false true) e (.int .i64 (.ofNat 0)) λ i=>g98_13 E rc k a b c d e i f g h
def g98_15 (a:FEnv [9])(b:L)(c:V)(d e:Bool)(f:TypeId)(g h i j:Value)(l m n:H)(o p:Nat):R:=ifB (notB e) (ifB (Nat.beq (lenF b) 4) (ifB (Nat.ble p 0) (ifB (Nat.ble 4 o) (ifB (Nat.ble o 1000000000) (ifB (allF (λ q=>cell1F q) b) (letH (hset n m.1 (.row f o d false p (putF c 0 b))) λ q=>g98_14 E rc k a g h i j l m q))))))
def g98_16 (a:FEnv [9])(b c d e f:Value)(g h:H):R:=ifB (Nat.ble h.1 1000000000) (letH (hpush h (.row 169 4 false false 0 (T.ofList unk [.int .i64 (.ofNat 0),.int .i64 (.ofNat 0),.int .u64 (.ofNat 0),.int .i64 (.ofNat 0)]))) λ i=>onCells e λ j=>onRow (hget i h.1) λ l m n o p q=>g98_15 E rc k a j q n o l b c d f g h i m p)
def g98_17 (a b:H):R:=bindO (loadV E b 112 (Addr.mk a.1 0 none)) λ c=>ifB (nT [c,.int .i64 (.ofNat 16)]) (k (.tuple ⟨[c,.int .i64 (.ofNat 16)]⟩) b)
def g98_18 (a:V)(b c:Bool)(d:TypeId)(e f:H)(g h:Nat):R:=ifB (notB c) (ifB (Nat.beq (lenF (cellsOfV (.agg (@List.toArray Value [.pointer none,.pointer none,.int .i64 (.ofNat 0),.int .i64 (.ofNat 0),.int .u64 (.ofNat 0),.pointer none,.int .i64 (.ofNat 0),.int .i64 (.ofNat 0),.int .i64 (.ofNat 0),.pointer none,.int .i64 (.ofNat 0),.int .i64 (.ofNat 0)])))) 12) (ifB (Nat.ble h 0) (ifB (Nat.ble 12 g) (ifB (Nat.ble g 1000000000) (ifB (allF (λ i=>cell1F i) (cellsOfV (.agg (@List.toArray Value [.pointer none,.pointer none,.int .i64 (.ofNat 0),.int .i64 (.ofNat 0),.int .u64 (.ofNat 0),.pointer none,.int .i64 (.ofNat 0),.int .i64 (.ofNat 0),.int .i64 (.ofNat 0),.pointer none,.int .i64 (.ofNat 0),.int .i64 (.ofNat 0)])))) (letH (hset f e.1 (.row d g b false h (putF a 0 (cellsOfV (.agg (@List.toArray Value [.pointer none,.pointer none,.int .i64 (.ofNat 0),.int .i64 (.ofNat 0),.int .u64 (.ofNat 0),.pointer none,.int .i64 (.ofNat 0),.int .i64 (.ofNat 0),.int .i64 (.ofNat 0),.pointer none,.int .i64 (.ofNat 0),.int .i64 (.ofNat 0)])))))) λ i=>g98_17 E k e i))))))
def g98_19 (a:(FEnv [9])→H→R)(b:Value)(c d:H):R:=@joinR [9] (λ e f=>a (e.1,()) f) λ e=>onB b (e (.int .i64 (.ofNat 0),()) d) (onRow (hget d c.1) λ f g h i j l=>g98_18 E k l h i f c d g j)
def g98_20 (a b:H):R:=bindO (loadV E b 112 (Addr.mk a.1 0 none)) λ c=>ifB (nT [c,.int .i64 (.ofNat 2)]) (k (.tuple ⟨[c,.int .i64 (.ofNat 2)]⟩) b)
def g98_21 (a:V)(b c:Bool)(d:TypeId)(e f:H)(g h:Nat):R:=ifB (notB c) (ifB (Nat.beq (lenF (cellsOfV (.agg (@List.toArray Value [.pointer none,.pointer none,.int .i64 (.ofNat 0),.int .i64 (.ofNat 0),.int .u64 (.ofNat 0),.pointer none,.int .i64 (.ofNat 0),.int .i64 (.ofNat 0),.int .i64 (.ofNat 0),.pointer none,.int .i64 (.ofNat 0),.int .i64 (.ofNat 0)])))) 12) (ifB (Nat.ble h 0) (ifB (Nat.ble 12 g) (ifB (Nat.ble g 1000000000) (ifB (allF (λ i=>cell1F i) (cellsOfV (.agg (@List.toArray Value [.pointer none,.pointer none,.int .i64 (.ofNat 0),.int .i64 (.ofNat 0),.int .u64 (.ofNat 0),.pointer none,.int .i64 (.ofNat 0),.int .i64 (.ofNat 0),.int .i64 (.ofNat 0),.pointer none,.int .i64 (.ofNat 0),.int .i64 (.ofNat 0)])))) (letH (hset f e.1 (.row d g b false h (putF a 0 (cellsOfV (.agg (@List.toArray Value [.pointer none,.pointer none,.int .i64 (.ofNat 0),.int .i64 (.ofNat 0),.int .u64 (.ofNat 0),.pointer none,.int .i64 (.ofNat 0),.int .i64 (.ofNat 0),.int .i64 (.ofNat 0),.pointer none,.int .i64 (.ofNat 0),.int .i64 (.ofNat 0)])))))) λ i=>g98_20 E k e i))))))
def g98_22 (a:(FEnv [9])→H→R)(b c:Value)(d e:H):R:=onB c (bindO (lenV E e 9 b) λ f=>binR (binC E .gtr 3 false true) f (.int .i64 (.ofNat 16)) λ g=>g98_19 E k a g d e) (onRow (hget e d.1) λ f g h i j l=>g98_21 E k l h i f d e g j)
def g98_25 (a:(FEnv [9])→H→R)(b c d:Value)(e f:H):R:=onB d (binR (binC E .eql 26 false true) b (.int .u64 (.ofNat 0)) λ g=>@joinR [9] (λ h i=>a (h.1,()) i) λ h=>g98_22 E k h c g e f) (onRow (hget f e.1) λ g h i j l m=>g46_8 E k m i j g e f h l)
def g98_26 (a:(FEnv [9])→H→R)(b c d:Value)(e f:H):R:=binR (binC E .eql 86 false true) b (.pointer none) λ g=>@joinR [9] (λ h i=>a (h.1,()) i) λ h=>g98_25 E k h c d g e f
def g98_27 (a b c d:Value)(e f:H):R:=@joinR [9] (λ g h=>rc 186 [a,b,c] h λ i j=>onTup i λ l=>nthF 0 l λ m=>onTup i λ n=>nthF 1 n λ o=>g98_16 E rc k g a c d m o e j) λ g=>g98_26 E k g a c d e f
def g98 (E:Env)(rc:RC)(a0 a1 a2 a3:Value)(h:H)(k:Value→H→R):R:=ifB (Nat.ble h.1 1000000000) (letH (hpush h (.row 112 12 false false 0 (T.ofList unk [.pointer none,.pointer none,.int .i64 (.ofNat 0),.int .i64 (.ofNat 0),.int .u64 (.ofNat 0),.pointer none,.int .i64 (.ofNat 0),.int .i64 (.ofNat 0),.int .i64 (.ofNat 0),.pointer none,.int .i64 (.ofNat 0),.int .i64 (.ofNat 0)]))) λ a=>g98_27 E rc k a0 a1 a2 a3 h a)
theorem g98_eq (t:ExtT)(rc:RC)(a0 a1 a2 a3:Value)(h:H)(k:Value→H→R):(funB (EX t) KK 98).run rc [a0,a1,a2,a3] h k = g98 (EX t) rc a0 a1 a2 a3 h k:=by kernel_rfl
def g101_0 (a:V)(b:Value)(c:H)(d:Nat):R:=ifB (Nat.ble 9 d) (rc 190 [.agg ⟨cellsF a 9 0⟩,b,.int .i64 (.ofNat 16)] c λ e f=>onTup e λ g=>nthF 0 g λ _=>onTup e λ h=>nthF 1 h λ i=>k i f)
def g101_1 (a:(FEnv [4])→H→R)(b c:Value)(d:H):R:=onB c (binR (binC E .eql 41 false true) b (.int .i64 (.ofNat 0)) λ e=>@joinR [4] (λ f g=>a (f.1,()) g) λ f=>onB e (f (.int .i64 (.ofNat 0),()) d) (k (.int .i64 (.ofNat 9)) d)) (k b d)
def g101_2 (a:(FEnv [4])→H→R)(b:Value)(c:H):R:=binR (binC E .eql 41 false true) b (.int .i64 (.ofNat 1)) λ d=>@joinR [4] (λ e f=>a (e.1,()) f) λ e=>g101_1 E k e b d c
def g101_3 (a:L)(b:V)(c d:Bool)(e:TypeId)(f g:Value)(h i j:H)(l m:Nat):R:=ifB (notB d) (ifB (Nat.beq (lenF a) 3) (ifB (Nat.ble m 0) (ifB (Nat.ble 3 l) (ifB (Nat.ble l 1000000000) (ifB (allF (λ n=>cell1F n) a) (letH (hset j i.1 (.row e l c false m (putF b 0 a))) λ n=>@joinR [4] (λ _ o=>onRow (hget o h.1) λ _ p _ _ _ q=>g101_0 rc k q f o p) λ o=>g101_2 E k o g n))))))
def g101_4 (a b c:Value)(d e:H):R:=ifB (Nat.ble e.1 1000000000) (letH (hpush e (.row 255 3 false false 0 (T.ofList unk [.int .i64 (.ofNat 0),.int .i64 (.ofNat 0),.int .i64 (.ofNat 0)]))) λ f=>onCells b λ g=>onRow (hget f e.1) λ h i j l m n=>g101_3 E rc k g n j l h a c d e f i m)
def g101_5 (a:V)(b:Value)(c d:H)(e:Nat):R:=ifB (Nat.ble 12 e) (rc 189 [.agg ⟨cellsF a 12 0⟩] d λ f g=>onTup f λ h=>nthF 0 h λ i=>onTup f λ j=>nthF 1 j λ l=>g101_4 E rc k b i l c g)
def g101_6 (a:L)(b:Value)(c:H):R:=ifB (allF (λ d=>cell1F d) a) (ifB (Nat.ble c.1 1000000000) (letH (hpush c (.row 163 (lenF a) false false 0 (T.ofList unk a))) λ d=>onRow (hget d c.1) λ _ e _ _ _ f=>g101_5 E rc k f b c d e))
def g101 (E:Env)(rc:RC)(a0 a1:Value)(h:H)(k:Value→H→R):R:=onCells a0 λ a=>g101_6 E rc k a a1 h
theorem g101_eq (t:ExtT)(rc:RC)(a0 a1:Value)(h:H)(k:Value→H→R):(funB (EX t) KK 101).run rc [a0,a1] h k = g101 (EX t) rc a0 a1 h k:=by kernel_rfl
def g104_0 (a:V)(b c d:Value)(e:H):R:=rc 42 [.agg ⟨cellsF a 3 0⟩,c,.int .i64 (.ofNat 8),d] e λ _ f=>ifB (nT [b,.int .i64 (.ofNat 0)]) (k (.tuple ⟨[b,.int .i64 (.ofNat 0)]⟩) f)
def g104_1 (a:V)(b c:Value)(d:H):R:=binR (binC E .add 3 false true) c (.int .i64 (.ofNat 8)) λ e=>binR (binC E .quo 25 false true) b (.int .u64 (.ofNat 256)) λ f=>g104_0 rc k a b e f d
def g104_2 (a:V)(b c:Value)(d:H)(e:Nat):R:=ifB (Nat.ble 3 e) (binR (binC E .mul 3 false true) c (.int .i64 (.ofNat 16)) λ f=>g104_1 E rc k a b f d)
def g104_3 (a:V)(b c d:Value)(e f:H)(g:Nat):R:=ifB (Nat.ble 3 g) (rc 198 [.agg ⟨cellsF a 3 0⟩,d,b] f λ _ h=>onRow (hget h e.1) λ _ i _ _ _ j=>g104_2 E rc k j c d h i)
def g104_5 (a b:Value)(c d:H):R:=binR (binC E .rem 26 false true) b (.int .u64 (.ofNat 256)) λ e=>joinL (λ f=>onRow (hget d c.1) λ _ g _ _ _ h=>g104_3 E rc k h a b f c d g) λ f=>g199_8 E f e d
def g104_6 (a:(FEnv [4,5])→H→R)(b:FEnv [4,5])(c d:Value)(e:H):R:=onB d (a (b.1,(b.2.1,())) e) (ifB (nT [.int .u64 (.ofNat 0),c]) (k (.tuple ⟨[.int .u64 (.ofNat 0),c]⟩) e))
def g104_7 (a:FEnv [4,5])(b c d:Value)(e f:H):R:=binR (binC E .neq 41 false true) d (.int .i64 (.ofNat 0)) λ g=>@joinR [4,5] (λ _ h=>g104_5 E rc k b c e h) λ h=>g104_6 k h a d g f
def g104_8 (a:FEnv [4,5])(b:V)(c:Value)(d e:H)(f:Nat):R:=ifB (Nat.ble 3 f) (rc 97 [.agg ⟨cellsF b 3 0⟩] e λ g h=>onTup g λ i=>nthF 0 i λ j=>onTup g λ l=>nthF 1 l λ m=>g104_7 E rc k a c j m d h)
def g104_9 (a:(FEnv [4,5])→H→R)(b c:Value)(d:H):R:=onB c (a (.int .u64 (.ofNat 0),(.int .i64 (.ofNat 0),())) d) (ifB (nT [.int .u64 (.ofNat 0),b]) (k (.tuple ⟨[.int .u64 (.ofNat 0),b]⟩) d))
def g104_10 (a b c:Value)(d e:H):R:=@joinR [4,5] (λ f g=>onRow (hget g d.1) λ _ h _ _ _ i=>g104_8 E rc k f i a d g h) λ f=>g104_9 k f b c e
def g104_11 (a:V)(b:Value)(c d:H)(e:Nat):R:=ifB (Nat.ble 3 e) (rc 197 [.agg ⟨cellsF a 3 0⟩,b] d λ f g=>binR (binC E .neq 41 false true) f (.int .i64 (.ofNat 0)) λ h=>g104_10 E rc k b f h c g)
def g104_12 (a:L)(b:Value)(c:H):R:=ifB (allF (λ d=>cell1F d) a) (ifB (Nat.ble c.1 1000000000) (letH (hpush c (.row 91 (lenF a) false false 0 (T.ofList unk a))) λ d=>onRow (hget d c.1) λ _ e _ _ _ f=>g104_11 E rc k f b c d e))
def g104 (E:Env)(rc:RC)(a0 a1:Value)(h:H)(k:Value→H→R):R:=onCells a0 λ a=>g104_12 E rc k a a1 h
theorem g104_eq (t:ExtT)(rc:RC)(a0 a1:Value)(h:H)(k:Value→H→R):(funB (EX t) KK 104).run rc [a0,a1] h k = g104 (EX t) rc a0 a1 h k:=by kernel_rfl
def g374_0 (a b:V)(c:Value)(d:H)(e:Nat):R:=ifB (Nat.ble 1 e) (ifB (sameW (getF b 0) (getF a 0)) (binR (binC E .add 3 false false) (getF a 0) c λ f=>k f d))
def g374_1 (a:V)(b:Value)(c d:H):R:=ifB (sameW (.pointer (some (Addr.mk c.1 0 none))) (.pointer (some (Addr.mk c.1 0 none)))) (onRow (hget d c.1) λ _ e _ _ _ f=>g374_0 E k a f b d e)
def g374_2 (a:V)(b c:H)(d:Nat):R:=ifB (Nat.ble 1 d) (onRow (hget c b.1) λ _ e _ _ _ f=>ifB (Nat.ble 2 e) (rc 202 [getF f 1] c λ g h=>g374_1 E k a g b h))
def g374_3 (a:L)(b:H):R:=ifB (allF (λ c=>cell1F c) a) (ifB (Nat.ble b.1 1000000000) (letH (hpush b (.row 169 (lenF a) false false 0 (T.ofList unk a))) λ c=>ifB (Nat.ble c.1 1000000000) (letH (H.mk c.1 c.2) λ d=>onRow (hget d b.1) λ _ e _ _ _ f=>g374_2 E rc k f b d e)))
def g374 (E:Env)(rc:RC)(a0:Value)(h:H)(k:Value→H→R):R:=onCells a0 λ a=>g374_3 E rc k a h
theorem g374_eq (t:ExtT)(rc:RC)(a0:Value)(h:H)(k:Value→H→R):(funB (EX t) KK 374).run rc [a0] h k = g374 (EX t) rc a0 h k:=by kernel_rfl
def g209_0 (a:L)(b:V)(c d:Bool)(e:TypeId)(f g:H)(h i:Nat):R:=ifB (notB d) (ifB (Nat.beq (lenF a) 3) (ifB (Nat.ble i 0) (ifB (Nat.ble 3 h) (ifB (Nat.ble h 1000000000) (ifB (allF (λ j=>cell1F j) a) (letH (hset g f.1 (.row e h c false i (putF b 0 a))) λ j=>bindO (loadV E j 272 (Addr.mk f.1 0 none)) λ l=>k l j))))))
def g209_1 (a:V)(b c:H)(d:Nat):R:=ifB (Nat.ble 3 d) (bindO (buildV E 272 [(0,.agg ⟨cellsF a 3 0⟩)]) λ e=>onCells e λ f=>onRow (hget c b.1) λ g h i j l m=>g209_0 E k f m i j g b c h l)
def g209_2 (a b:H):R:=ifB (Nat.ble b.1 1000000000) (letH (hpush b (.row 272 3 false false 0 (T.ofList unk [.pointer none,.int .i64 (.ofNat 0),.int .i64 (.ofNat 0)]))) λ c=>onRow (hget c a.1) λ _ d _ _ _ e=>g209_1 E k e b c d)
def g209_3 (a:L)(b:H):R:=ifB (allF (λ c=>cell1F c) a) (ifB (Nat.ble b.1 1000000000) (letH (hpush b (.row 78 (lenF a) false false 0 (T.ofList unk a))) λ c=>g209_2 E k b c))
def g209 (E:Env)(rc:RC)(a0:Value)(h:H)(k:Value→H→R):R:=onCells a0 λ a=>g209_3 E k a h
theorem g209_eq (t:ExtT)(rc:RC)(a0:Value)(h:H)(k:Value→H→R):(funB (EX t) KK 209).run rc [a0] h k = g209 (EX t) rc a0 h k:=by kernel_rfl
def g265_0 (a:(FEnv [4,5])→H→R)(b:FEnv [4,5,6])(c:Value)(d:H):R:=onB c (a (b.1,(b.2.1,())) d) (ifB (nT [b.2.2.1,.bool true]) (k (.tuple ⟨[b.2.2.1,.bool true]⟩) d))
def g265_1 (a:(FEnv [4,5])→H→R)(b:FEnv [4,5,6])(c:Value)(d:H):R:=binR (binC E .neq 3 false true) c (.int .i64 (.ofNat 0)) λ e=>@joinR [4,5] (λ f g=>a (f.1,(f.2.1,())) g) λ f=>g265_0 k f b e d
def g265_2 (a:(FEnv [4,5])→H→R)(b:FEnv [4,5,6])(c d:H):R:=onRow (hget d c.1) λ _ e _ _ _ f=>ifB (Nat.ble 3 e) (rc 342 [.agg ⟨cellsF f 3 0⟩,b.2.2.1] d λ g h=>g265_1 E k a b g h)
def g265_3 (a:(FEnv [4,5,6])→H→R)(b:FEnv [4,5,6])(c d:H):R:=@joinR [4,5] (λ e f=>binR (binC E .add 3 false true) b.2.2.1 (.int .i64 (.ofNat 1)) λ g=>a (e.1,(e.2.1,(g,()))) f) λ e=>g265_2 E rc k e b c d
def g265_4 (a:(FEnv [4,5,6])→H→R)(b:(FEnv [4,5])→H→R)(c:FEnv [4,5,6])(d e:H):R:=binR (binC E .leq 3 false true) c.2.2.1 (.int .i64 (.ofNat 4)) λ f=>@joinR [] (λ _ g=>g265_3 E rc k a c d g) λ g=>onB f (b (c.1,(c.2.1,())) e) (g () e)
def g265_5 (a:Value)(b c:H):R:=@joinR [4,5] (λ _ d=>k (.tuple ⟨[.int .i64 (.ofNat 0),.bool false]⟩) d) λ d=>@loopF [4,5,6] (λ e f g=>g265_4 E rc k e d f b g) 1000000 (.int .i64 (.ofNat 0),(.bool false,(a,()))) c
def g265_6 (a:L)(b:Value)(c:H):R:=ifB (allF (λ d=>cell1F d) a) (ifB (Nat.ble c.1 1000000000) (letH (hpush c (.row 172 (lenF a) false false 0 (T.ofList unk a))) λ d=>bindO (builtinV E d Builtin.max [.int .i64 (.ofNat 0),b] [3,3]) λ e=>g265_5 E rc k e c d))
def g265 (E:Env)(rc:RC)(a0 a1:Value)(h:H)(k:Value→H→R):R:=onCells a0 λ a=>g265_6 E rc k a a1 h
theorem g265_eq (t:ExtT)(rc:RC)(a0 a1:Value)(h:H)(k:Value→H→R):(funB (EX t) KK 265).run rc [a0,a1] h k = g265 (EX t) rc a0 a1 h k:=by kernel_rfl
def g300_0 (a:(FEnv [])→H→R)(b c d e:Value)(f g:H):R:=onB e (onRow (hget g f.1) λ _ h _ _ _ i=>ifB (Nat.ble 1 h) (rc 359 [.agg ⟨cellsF i 1 0⟩,d,.int .i64 (.ofNat 4),c] g λ _ j=>a () j)) (onRow (hget g f.1) λ _ h _ _ _ i=>ifB (Nat.ble 1 h) (rc 359 [.agg ⟨cellsF i 1 0⟩,b,.int .i64 (.ofNat 2),c] g λ _ j=>a () j))
def g300_1 (a b c:Value)(d e:H):R:=binR (binC E .eql 3 false true) c (.int .i64 (.ofNat 0)) λ f=>@joinR [] (λ _ g=>k (.int .i64 (.ofNat 0)) g) λ g=>g300_0 rc g a b c f d e
def g300_2 (a b c:Value)(d e:H):R:=onRow (hget e d.1) λ _ f _ _ _ g=>ifB (Nat.ble 1 f) (rc 359 [.agg ⟨cellsF g 1 0⟩,a,.int .i64 (.ofNat 3),b] e λ _ h=>g300_1 E rc k a b c d h)
def g300_3 (a:V)(b c d:Value)(e f:H)(g:Nat):R:=ifB (Nat.ble 1 g) (rc 359 [.agg ⟨cellsF a 1 0⟩,c,.int .i64 (.ofNat 4),.int .i64 (.ofNat 0)] f λ _ h=>g300_2 E rc k b c d e h)
def g300_4 (a:V)(b c d:Value)(e f:H)(g:Nat):R:=ifB (Nat.ble 1 g) (rc 359 [.agg ⟨cellsF a 1 0⟩,c,.int .i64 (.ofNat 5),d] f λ _ h=>onRow (hget h e.1) λ _ i _ _ _ j=>g300_3 E rc k j b c d e h i)
def g300_5 (a:V)(b c d:Value)(e f:H)(g:Nat):R:=ifB (Nat.ble 1 g) (rc 359 [.agg ⟨cellsF a 1 0⟩,c,.int .i64 (.ofNat 1),b] f λ _ h=>onRow (hget h e.1) λ _ i _ _ _ j=>g300_4 E rc k j b c d e h i)
def g300_6 (a:V)(b c:Value)(d e:H)(f:Nat):R:=ifB (Nat.ble 1 f) (rc 109 [.agg ⟨cellsF a 1 0⟩,b,.int .i64 (.ofNat 3)] e λ g h=>onRow (hget h d.1) λ _ i _ _ _ j=>g300_5 E rc k j b c g d h i)
def g300_7 (a:(FEnv [6])→H→R)(b:FEnv [6])(c:V)(d e:Value)(f:H)(g:Nat):R:=ifB (Nat.ble 1 g) (rc 302 [.agg ⟨cellsF c 1 0⟩,d,e] f λ h i=>@joinR [6] (λ j l=>a (j.1,()) l) λ j=>onB h (j (b.1,()) i) (k (.int .i64 (.ofNat 12)) i))
def g300_8 (a:(FEnv [6])→H→R)(b:FEnv [6])(c d e:Value)(f g:H):R:=@joinR [6] (λ h i=>a (h.1,()) i) λ h=>onB e (onRow (hget g f.1) λ _ i _ _ _ j=>g300_7 rc k h b j c d g i) (k (.int .i64 (.ofNat 9)) g)
def g300_9 (a:(FEnv [6])→H→R)(b:FEnv [6])(c:V)(d e:Value)(f g:H)(h:Nat):R:=ifB (Nat.ble 1 h) (rc 49 [.agg ⟨cellsF c 1 0⟩,e] g λ i j=>binR (binC E .neq 3 false true) i (.int .i64 (.ofNat 0)) λ l=>g300_8 rc k a b d e l f j)
def g300_10 (a:(FEnv [6])→H→R)(b:FEnv [6])(c d e f:Value)(g h:H):R:=@joinR [6] (λ i j=>a (i.1,()) j) λ i=>onB f (onRow (hget h g.1) λ _ j _ _ _ l=>g300_9 E rc k i b l c d g h j) (k e h)
def g300_11 (a:(FEnv [6])→H→R)(b:FEnv [6])(c d e:Value)(f g:H):R:=binR (binC E .neq 41 false true) e (.int .i64 (.ofNat 0)) λ h=>g300_10 E rc k a b c d e h f g
def g300_12 (a:FEnv [6])(b c d:Value)(e f:H):R:=@joinR [6] (λ _ g=>onRow (hget g e.1) λ _ h _ _ _ i=>g300_6 E rc k i b c e g h) λ g=>g300_11 E rc k g a b c d e f
def g300_13 (a:FEnv [6])(b c:Value)(d e:H):R:=onRow (hget e d.1) λ _ f _ _ _ g=>ifB (Nat.ble 1 f) (rc 106 [.agg ⟨cellsF g 1 0⟩,c] e λ h i=>g300_12 E rc k a b c h d i)
def g300_14 (a b c:Value)(d e:H):R:=binR (binC E .neq 41 false true) c (.int .i64 (.ofNat 0)) λ f=>@joinR [6] (λ g h=>g300_13 E rc k g a b d h) λ g=>onB f (g (.int .i64 (.ofNat 0),()) e) (k c e)
def g300_15 (a b:Value)(c d:H):R:=onRow (hget d c.1) λ _ e _ _ _ f=>ifB (Nat.ble 1 e) (rc 106 [.agg ⟨cellsF f 1 0⟩,a] d λ g h=>g300_14 E rc k a b g c h)
def g300_16 (a:L)(b c:Value)(d:H):R:=ifB (allF (λ e=>cell1F e) a) (ifB (Nat.ble d.1 1000000000) (letH (hpush d (.row 88 (lenF a) false false 0 (T.ofList unk a))) λ e=>g300_15 E rc k b c d e))
def g300 (E:Env)(rc:RC)(a0 a1 a2:Value)(h:H)(k:Value→H→R):R:=onCells a0 λ a=>g300_16 E rc k a a1 a2 h
theorem g300_eq (t:ExtT)(rc:RC)(a0 a1 a2:Value)(h:H)(k:Value→H→R):(funB (EX t) KK 300).run rc [a0,a1,a2] h k = g300 (EX t) rc a0 a1 a2 h k:=by kernel_rfl
def g373_0 (a b:Value)(c:H):R:=joinV (λ d e=>joinV (λ f g=>onB b (k (.bool false) g) (k f g)) λ f=>onG b (f undef e) (rc 340 [d] e f) (f undef e)) λ d=>onG b (d undef c) (d a c) (d undef c)
def g373 (E:Env)(rc:RC)(a0:Value)(h:H)(k:Value→H→R):R:=binR (binC E .leq 3 false true) a0 (.int .i64 (.ofNat 64)) λ a=>g373_0 rc k a0 a h
theorem g373_eq (t:ExtT)(rc:RC)(a0:Value)(h:H)(k:Value→H→R):(funB (EX t) KK 373).run rc [a0] h k = g373 (EX t) rc a0 h k:=by kernel_rfl
def g375_5 (a b c d:Value)(e:H):R:=joinV (λ f g=>joinV (λ h i=>g261_4 E k b c f h i) λ h=>onG b (h undef g) (h a g) (h undef g)) λ f=>onG b (f undef e) (rc 374 [d] e f) (f undef e)
def g375_6 (a:Value→H→R)(b:Value)(c d:H):R:=onG b (a undef d) (onRow (hget d c.1) λ _ e _ _ _ f=>ifB (Nat.ble 4 e) (a (.agg ⟨cellsF f 4 0⟩) d)) (a undef d)
def g375_7 (a b c d:Value)(e f:H):R:=onB c (joinV (λ _ g=>joinV (λ _ h=>joinV (λ _ i=>g261_0 k i) λ i=>i undef h) λ h=>h undef g) λ g=>g undef f) (joinV (λ g h=>joinV (λ i j=>g375_5 E rc k b d g i j) λ i=>g375_6 i d e h) λ g=>onG d (g undef f) (g a f) (g undef f))
def g375_8 (a b c d e:Value)(f g:H):R:=joinV (λ h i=>g375_7 E rc k a b c h f i) λ h=>onG c (h undef g) (binR (binC E .geq 3 false false) d e λ i=>h i g) (h undef g)
def g375_9 (a:Value→H→R)(b c:Value)(d:H):R:=onG b (a undef d) (binR (binC E .add 3 false true) c (.int .i64 (.ofNat 32)) λ e=>a e d) (a undef d)
def g375_11 (a b c d:Value)(e f:H):R:=joinV (λ g h=>joinV (λ i j=>joinV (λ l m=>g375_8 E rc k a b c d l e m) λ l=>g375_9 E l c i j) λ i=>g261_5 i c g h) λ g=>onG c (g undef f) (g (.pointer (some (Addr.mk e.1 0 none))) f) (g undef f)
def g375_12 (a b c d:Value)(e f:H):R:=onB c (joinV (λ _ g=>joinV (λ _ h=>joinV (λ _ i=>joinV (λ _ j=>g261_1 k j) λ j=>j undef i) λ i=>i undef h) λ h=>h undef g) λ g=>g undef f) (joinV (λ g h=>g375_11 E rc k a b d g e h) λ g=>onG d (g undef f) (g a f) (g undef f))
def g375_13 (a b c d e:Value)(f g:H):R:=joinV (λ h i=>g375_12 E rc k a b c h f i) λ h=>onG c (h undef g) (binR (binC E .leq 3 false false) d e λ i=>h i g) (h undef g)
def g375_15 (a b c d e:Value)(f g:H):R:=joinV (λ h i=>joinV (λ j l=>g375_13 E rc k a b c d j f l) λ j=>onG c (j undef i) (rc 202 [h] i j) (j undef i)) λ h=>g261_5 h c e g
def g375_16 (a b c:Value)(d e:H):R:=joinV (λ f g=>joinV (λ h i=>g375_15 E rc k a b c f h d i) λ h=>onG c (h undef g) (h (.pointer (some (Addr.mk d.1 1 none))) g) (h undef g)) λ f=>onG c (f undef e) (f b e) (f undef e)
def g375_17 (a:L)(b c:Value)(d:H):R:=ifB (allF (λ e=>cell1F e) a) (ifB (Nat.ble d.1 1000000000) (letH (hpush d (.row 169 (lenF a) false false 0 (T.ofList unk a))) λ e=>binR (binC E .geq 3 false true) c (.int .i64 (.ofNat 0)) λ f=>g375_16 E rc k b c f d e))
def g375 (E:Env)(rc:RC)(a0 a1 a2:Value)(h:H)(k:Value→H→R):R:=onCells a0 λ a=>g375_17 E rc k a a1 a2 h
theorem g375_eq (t:ExtT)(rc:RC)(a0 a1 a2:Value)(h:H)(k:Value→H→R):(funB (EX t) KK 375).run rc [a0,a1,a2] h k = g375 (EX t) rc a0 a1 a2 h k:=by kernel_rfl
def g345_0 (a b:H):R:=bindO (loadV E b 169 (Addr.mk a.1 0 none)) λ c=>ifB (nT [c,.bool true]) (k (.tuple ⟨[c,.bool true]⟩) b)
def g345_1 (a b:V)(c d:Bool)(e:TypeId)(f g:H)(h i:Nat):R:=ifB (notB d) (ifB (Nat.beq (lenF (cellsF a 4 0)) 4) (ifB (Nat.ble i 0) (ifB (Nat.ble 4 h) (ifB (Nat.ble h 1000000000) (ifB (allF (λ j=>cell1F j) (cellsF a 4 0)) (letH (hset g f.1 (.row e h c false i (putF b 0 (cellsF a 4 0)))) λ j=>g345_0 E k f j))))))
def g345_2 (a b c:H):R:=onRow (hget c b.1) λ _ d _ _ _ e=>ifB (Nat.ble 4 d) (onRow (hget c a.1) λ f g h i j l=>g345_1 E k e l h i f a c g j)
def g345_3 (a:L)(b:V)(c d:Bool)(e:TypeId)(f g h:H)(i j:Nat):R:=ifB (notB d) (ifB (Nat.beq (lenF a) 4) (ifB (Nat.ble j 0) (ifB (Nat.ble 4 i) (ifB (Nat.ble i 1000000000) (ifB (allF (λ l=>cell1F l) a) (letH (hset h g.1 (.row e i c false j (putF b 0 a))) λ l=>g345_2 E k f g l))))))
def g345_4 (a:Value)(b c:H):R:=ifB (Nat.ble c.1 1000000000) (letH (hpush c (.row 169 4 false false 0 (T.ofList unk [.int .i64 (.ofNat 0),.int .i64 (.ofNat 0),.int .u64 (.ofNat 0),.int .i64 (.ofNat 0)]))) λ d=>onCells a λ e=>onRow (hget d c.1) λ f g h i j l=>g345_3 E k e l h i f b c d g j)
def g345_5 (a:V)(b:Addr)(c:Value)(d e:H)(f:Nat):R:=ifB (Nat.ble (Nat.succ b.2) f) (rc 110 [getF a b.2,c] e λ g h=>onTup g λ i=>nthF 0 i λ j=>onTup g λ l=>nthF 1 l λ _=>g345_4 E k j d h)
def g345_6 (a:V)(b:Addr)(c:Value)(d e:H)(f:Nat):R:=ifB (Nat.ble (Nat.succ b.2) f) (bindO (nilV (getF a b.2)) λ g=>onPtr g λ _=>onPtr g λ h=>onRow (hget e h.1) λ _ i _ _ _ j=>g345_5 E rc k j h c d e i)
def g345_7 (a:V)(b:Value)(c d:H)(e:Nat):R:=ifB (Nat.ble 1 e) (bindO (nilV (getF a 0)) λ f=>onPtr f λ _=>onPtr f λ g=>onRow (hget d g.1) λ _ h _ _ _ i=>g345_6 E rc k i g b c d h)
def g345_8 (a b:H):R:=bindO (loadV E b 169 (Addr.mk a.1 0 none)) λ c=>ifB (nT [c,.bool false]) (k (.tuple ⟨[c,.bool false]⟩) b)
def g345_9 (a:V)(b c:Bool)(d:TypeId)(e f:H)(g h:Nat):R:=ifB (notB c) (ifB (Nat.beq (lenF (cellsOfV (.agg (@List.toArray Value [.int .i64 (.ofNat 0),.int .i64 (.ofNat 0),.int .u64 (.ofNat 0),.int .i64 (.ofNat 0)])))) 4) (ifB (Nat.ble h 0) (ifB (Nat.ble 4 g) (ifB (Nat.ble g 1000000000) (ifB (allF (λ i=>cell1F i) (cellsOfV (.agg (@List.toArray Value [.int .i64 (.ofNat 0),.int .i64 (.ofNat 0),.int .u64 (.ofNat 0),.int .i64 (.ofNat 0)])))) (letH (hset f e.1 (.row d g b false h (putF a 0 (cellsOfV (.agg (@List.toArray Value [.int .i64 (.ofNat 0),.int .i64 (.ofNat 0),.int .u64 (.ofNat 0),.int .i64 (.ofNat 0)])))))) λ i=>g345_8 E k e i))))))
def g345_10 (a b:Value)(c d e:H):R:=@joinR [3] (λ _ f=>onRow (hget f c.1) λ _ g _ _ _ h=>g345_7 E rc k h a d f g) λ f=>onB b (f (.bool false,()) e) (onRow (hget e d.1) λ g h i j l m=>g345_9 E k m i j g d e h l)
def g345_11 (a:V)(b c d:H)(e:Nat):R:=ifB (Nat.ble 5 e) (rc 280 [.agg ⟨cellsF a 5 0⟩] d λ f g=>binR (binC E .eql 3 false true) f (.int .i64 (.ofNat 0)) λ h=>g345_10 E rc k f h b c g)
def g345_12 (a b:H):R:=ifB (Nat.ble b.1 1000000000) (letH (hpush b (.row 169 4 false false 0 (T.ofList unk [.int .i64 (.ofNat 0),.int .i64 (.ofNat 0),.int .u64 (.ofNat 0),.int .i64 (.ofNat 0)]))) λ c=>onRow (hget c a.1) λ _ d _ _ _ e=>g345_11 E rc k e a b c d)
def g345_13 (a:L)(b:H):R:=ifB (allF (λ c=>cell1F c) a) (ifB (Nat.ble b.1 1000000000) (letH (hpush b (.row 106 (lenF a) false false 0 (T.ofList unk a))) λ c=>g345_12 E rc k b c))
def g345 (E:Env)(rc:RC)(a0:Value)(h:H)(k:Value→H→R):R:=onCells a0 λ a=>g345_13 E rc k a h
theorem g345_eq (t:ExtT)(rc:RC)(a0:Value)(h:H)(k:Value→H→R):(funB (EX t) KK 345).run rc [a0] h k = g345 (EX t) rc a0 h k:=by kernel_rfl
def g162_0 (a b:Value)(c:H):R:=binR (binC E .quo 3 false true) a (.int .i64 (.ofNat 4096)) λ d=>ifB (nT [d,b]) (k (.tuple ⟨[d,b]⟩) c)
def g162 (E:Env)(rc:RC)(a0:Value)(h:H)(k:Value→H→R):R:=rc 251 [a0,.int .i64 (.ofNat 4096)] h λ a b=>onTup a λ c=>nthF 0 c λ d=>onTup a λ e=>nthF 1 e λ f=>g162_0 E k d f b
theorem g162_eq (t:ExtT)(rc:RC)(a0:Value)(h:H)(k:Value→H→R):(funB (EX t) KK 162).run rc [a0] h k = g162 (EX t) rc a0 h k:=by kernel_rfl
def g166_0 (a:L)(b:V)(c d:Bool)(e:TypeId)(f g:H)(h i:Nat):R:=ifB (notB d) (ifB (Nat.beq (lenF a) 3) (ifB (Nat.ble i 0) (ifB (Nat.ble 3 h) (ifB (Nat.ble h 1000000000) (ifB (allF (λ j=>cell1F j) a) (letH (hset g f.1 (.row e h c false i (putF b 0 a))) λ j=>bindO (loadV E j 81 (Addr.mk f.1 0 none)) λ l=>k l j))))))
def g166_1 (a:V)(b c:H)(d:Nat):R:=ifB (Nat.ble 3 d) (bindO (buildV E 81 [(0,.agg ⟨cellsF a 3 0⟩)]) λ e=>onCells e λ f=>onRow (hget c b.1) λ g h i j l m=>g166_0 E k f m i j g b c h l)
def g166_2 (a b:H):R:=ifB (Nat.ble b.1 1000000000) (letH (hpush b (.row 81 3 false false 0 (T.ofList unk [.pointer none,.int .i64 (.ofNat 0),.int .i64 (.ofNat 0)]))) λ c=>onRow (hget c a.1) λ _ d _ _ _ e=>g166_1 E k e b c d)
def g166_3 (a:L)(b:H):R:=ifB (allF (λ c=>cell1F c) a) (ifB (Nat.ble b.1 1000000000) (letH (hpush b (.row 78 (lenF a) false false 0 (T.ofList unk a))) λ c=>g166_2 E k b c))
def g166 (E:Env)(rc:RC)(a0:Value)(h:H)(k:Value→H→R):R:=onCells a0 λ a=>g166_3 E k a h
theorem g166_eq (t:ExtT)(rc:RC)(a0:Value)(h:H)(k:Value→H→R):(funB (EX t) KK 166).run rc [a0] h k = g166 (EX t) rc a0 h k:=by kernel_rfl
def g186_3 (a:V)(b:Addr)(c d e:H)(f:Nat):R:=ifB (Nat.ble (Nat.succ b.2) f) (onRow (hget e d.1) λ _ g _ _ _ h=>ifB (Nat.ble 4 g) (rc 268 [getF a b.2,.agg ⟨cellsF h 4 0⟩] e λ _ i=>g110_2 E k c d i))
def g186_4 (a:V)(b:Addr)(c d e:H)(f:Nat):R:=ifB (Nat.ble (Nat.succ b.2) f) (bindO (nilV (getF a b.2)) λ g=>onPtr g λ _=>onPtr g λ h=>onRow (hget e h.1) λ _ i _ _ _ j=>g186_3 E rc k j h c d e i)
def g186_5 (a:Value)(b c d:H):R:=bindO (nilV a) λ e=>onPtr e λ _=>onPtr e λ f=>onRow (hget d f.1) λ _ g _ _ _ h=>g186_4 E rc k h f b c d g
def g186_6 (a:L)(b:V)(c d:Bool)(e:TypeId)(f:Value)(g h i:H)(j l:Nat):R:=ifB (notB d) (ifB (Nat.beq (lenF a) 1) (ifB (Nat.ble l 2) (ifB (Nat.ble 3 j) (ifB (Nat.ble j 1000000000) (ifB (allF (λ m=>cell1F m) a) (letH (hset i h.1 (.row e j c false l (putF b 2 a))) λ m=>ifB (Nat.ble m.1 1000000000) (letH (H.mk m.1 m.2) λ n=>g186_5 E rc k f g h n)))))))
def g186_7 (a:(FEnv [7])→H→R)(b:FEnv [7])(c:L)(d:V)(e f:Bool)(g:TypeId)(h i:H)(j l:Nat):R:=ifB (notB f) (ifB (Nat.beq (lenF c) 4) (ifB (Nat.ble l 0) (ifB (Nat.ble 4 j) (ifB (Nat.ble j 1000000000) (ifB (allF (λ m=>cell1F m) c) (letH (hset i h.1 (.row g j e false l (putF d 0 c))) λ m=>a (b.1,()) m))))))
def g186_8 (a:(FEnv [7])→H→R)(b:FEnv [7])(c d:Value)(e f:H):R:=bindO (buildV E 169 [(0,d),(1,c)]) λ g=>onCells g λ h=>onRow (hget f e.1) λ i j l m n o=>g186_7 a b h o l m i e f j n
def g186_10 (a:(FEnv [7])→H→R)(b:FEnv [7])(c d e f:Value)(g h i:H):R:=@joinR [7] (λ j l=>g186_8 E a j c d h l) λ j=>onB f (j (b.1,()) i) (onRow (hget i g.1) λ l m n o p q=>g110_50 E k q n o l e g i m p)
def g186_11 (a:(FEnv [7])→H→R)(b:FEnv [7])(c d e:Value)(f g h:H):R:=binR (binC E .neq 41 false true) e (.int .i64 (.ofNat 0)) λ i=>g186_10 E k a b c d e i f g h
def g186_13 (a:(FEnv [7])→H→R)(b:FEnv [7])(c:L)(d:Value)(e f:H):R:=nthF 1 c λ _=>onCells d λ g=>onRow (hget f e.1) λ h i j l m n=>g186_7 a b g n j l h e f i m
def g186_14 (a:(FEnv [7])→H→R)(b:FEnv [7])(c:V)(d:Addr)(e:Value)(f g:H)(h:Nat):R:=ifB (Nat.ble (Nat.add (Nat.add d.2 4) 3) h) (rc 266 [.agg ⟨cellsF c 3 (Nat.add d.2 4)⟩,e] g λ i j=>onTup i λ l=>nthF 0 l λ m=>onTup i λ n=>g186_13 a b n m f j)
def g186_15 (a:(FEnv [7])→H→R)(b:FEnv [7])(c d e f:Value)(g h i:H):R:=onB f (rc 267 [c,d] i λ j l=>onTup j λ m=>nthF 0 m λ n=>onTup j λ o=>nthF 1 o λ p=>g186_11 E k a b d n p g h l) (bindO (nilV c) λ j=>onPtr j λ l=>onRow (hget i l.1) λ _ m _ _ _ n=>g186_14 rc a b n l e h i m)
def g186_16 (a:FEnv [7])(b c d e f:Value)(g h i:H):R:=@joinR [7] (λ _ j=>onCells d λ l=>onRow (hget j h.1) λ m n o p q r=>g186_6 E rc k l r o p m b g h j n q) λ j=>g186_15 E rc k j a b c e f g h i
def g186_17 (a:FEnv [7])(b:V)(c:Addr)(d e f:Value)(g h i:H)(j:Nat):R:=ifB (Nat.ble (Nat.add (Nat.add c.2 4) 3) j) (rc 265 [.agg ⟨cellsF b 3 (Nat.add c.2 4)⟩,e] i λ l m=>onTup l λ n=>nthF 0 n λ o=>onTup l λ p=>nthF 1 p λ q=>g186_16 E rc k a d e f o q g h m)
def g186_18 (a:FEnv [7])(b c d:Value)(e f g:H):R:=bindO (nilV b) λ h=>onPtr h λ i=>onRow (hget g i.1) λ _ j _ _ _ l=>g186_17 E rc k a l i b c d e f g j
def g186_19 (a:FEnv [7])(b c d:Value)(e f:H):R:=ifB (Nat.ble f.1 1000000000) (letH (hpush f (.row 169 4 false false 0 (T.ofList unk [.int .i64 (.ofNat 0),.int .i64 (.ofNat 0),.int .u64 (.ofNat 0),.int .i64 (.ofNat 0)]))) λ g=>g186_18 E rc k a b c d e f g)
def g186_20 (a b:H):R:=bindO (loadV E b 169 (Addr.mk a.1 0 none)) λ c=>ifB (nT [c,.int .i64 (.ofNat 2)]) (k (.tuple ⟨[c,.int .i64 (.ofNat 2)]⟩) b)
def g186_21 (a:V)(b c:Bool)(d:TypeId)(e f:H)(g h:Nat):R:=ifB (notB c) (ifB (Nat.beq (lenF (cellsOfV (.agg (@List.toArray Value [.int .i64 (.ofNat 0),.int .i64 (.ofNat 0),.int .u64 (.ofNat 0),.int .i64 (.ofNat 0)])))) 4) (ifB (Nat.ble h 0) (ifB (Nat.ble 4 g) (ifB (Nat.ble g 1000000000) (ifB (allF (λ i=>cell1F i) (cellsOfV (.agg (@List.toArray Value [.int .i64 (.ofNat 0),.int .i64 (.ofNat 0),.int .u64 (.ofNat 0),.int .i64 (.ofNat 0)])))) (letH (hset f e.1 (.row d g b false h (putF a 0 (cellsOfV (.agg (@List.toArray Value [.int .i64 (.ofNat 0),.int .i64 (.ofNat 0),.int .u64 (.ofNat 0),.int .i64 (.ofNat 0)])))))) λ i=>g186_20 E k e i))))))
def g186_24 (a:(FEnv [7])→H→R)(b c:Value)(d e:H):R:=onB b (@joinR [7] (λ f g=>a (f.1,()) g) λ f=>onB c (f (.int .i64 (.ofNat 0),()) e) (onRow (hget e d.1) λ g h i j l m=>g186_21 E k m i j g d e h l)) (@joinR [7] (λ f g=>a (f.1,()) g) λ _=>onRow (hget e d.1) λ f g h i j l=>g186_21 E k l h i f d e g j)
def g186_28 (a:(FEnv [7])→H→R)(b c:H):R:=@joinR [7] (λ d e=>a (d.1,()) e) λ _=>onRow (hget c b.1) λ d e f g h i=>g186_21 E k i f g d b c e h
def g186_29 (a:(FEnv [7])→H→R)(b c d:Value)(e f:H):R:=onB c (joinV (λ g h=>joinV (λ i j=>g186_24 E k a d i e j) λ i=>g211_11 E i d g h) λ g=>onG d (g b f) (g undef f) (g undef f)) (joinV (λ _ g=>joinV (λ _ h=>g186_28 E k a e h) λ h=>h undef g) λ g=>g undef f)
def g186_31 (a:(FEnv [7])→H→R)(b c d:Value)(e f:H):R:=joinV (λ g h=>joinV (λ i j=>g186_29 E k a c d i e j) λ i=>g38_41 E i d g h) λ g=>onG d (g b f) (g undef f) (g undef f)
def g186_32 (a b:H):R:=bindO (loadV E b 169 (Addr.mk a.1 0 none)) λ c=>ifB (nT [c,.int .i64 (.ofNat 1)]) (k (.tuple ⟨[c,.int .i64 (.ofNat 1)]⟩) b)
def g186_33 (a:V)(b c:Bool)(d:TypeId)(e f:H)(g h:Nat):R:=ifB (notB c) (ifB (Nat.beq (lenF (cellsOfV (.agg (@List.toArray Value [.int .i64 (.ofNat 0),.int .i64 (.ofNat 0),.int .u64 (.ofNat 0),.int .i64 (.ofNat 0)])))) 4) (ifB (Nat.ble h 0) (ifB (Nat.ble 4 g) (ifB (Nat.ble g 1000000000) (ifB (allF (λ i=>cell1F i) (cellsOfV (.agg (@List.toArray Value [.int .i64 (.ofNat 0),.int .i64 (.ofNat 0),.int .u64 (.ofNat 0),.int .i64 (.ofNat 0)])))) (letH (hset f e.1 (.row d g b false h (putF a 0 (cellsOfV (.agg (@List.toArray Value [.int .i64 (.ofNat 0),.int .i64 (.ofNat 0),.int .u64 (.ofNat 0),.int .i64 (.ofNat 0)])))))) λ i=>g186_32 E k e i))))))
def g186_34 (a:(FEnv [7])→H→R)(b c d:Value)(e f:H):R:=onB d (binR (binC E .lss 3 false true) b (.int .i64 (.ofNat 0)) λ g=>g186_31 E k a b c g e f) (onRow (hget f e.1) λ g h i j l m=>g186_33 E k m i j g e f h l)
def g186_35 (a:(FEnv [7])→H→R)(b c d:Value)(e f:H):R:=binR (binC E .eql 86 false true) b (.pointer none) λ g=>@joinR [7] (λ h i=>a (h.1,()) i) λ h=>g186_34 E k h c d g e f
def g186 (E:Env)(rc:RC)(a0 a1 a2:Value)(h:H)(k:Value→H→R):R:=ifB (Nat.ble h.1 1000000000) (letH (hpush h (.row 169 4 false false 0 (T.ofList unk [.int .i64 (.ofNat 0),.int .i64 (.ofNat 0),.int .u64 (.ofNat 0),.int .i64 (.ofNat 0)]))) λ a=>@joinR [7] (λ b c=>g186_19 E rc k b a0 a1 a2 h c) λ b=>g186_35 E k b a0 a1 a2 h a)
theorem g186_eq (t:ExtT)(rc:RC)(a0 a1 a2:Value)(h:H)(k:Value→H→R):(funB (EX t) KK 186).run rc [a0,a1,a2] h k = g186 (EX t) rc a0 a1 a2 h k:=by kernel_rfl
def g187_0 (a:V)(b c:H)(d:Nat):R:=ifB (Nat.ble 5 d) (onRow (hget c b.1) λ _ e _ _ _ f=>ifB (Nat.ble 4 e) (rc 271 [.agg ⟨cellsF a 5 0⟩,.agg ⟨cellsF f 4 0⟩] c λ _ g=>k (.int .i64 (.ofNat 0)) g))
def g187_1 (a:(FEnv [4])→H→R)(b:FEnv [4])(c:Value)(d e:H):R:=ifB (andB (allF (λ f=>isS0F f) []) (allF (λ f=>isS0F f) [.pointer (some (Addr.mk d.1 0 none))])) (rc 269 [c,.func (.func 270) ⟨[]⟩ ⟨[.pointer (some (Addr.mk d.1 0 none))]⟩] e λ f g=>@joinR [4] (λ h i=>a (h.1,()) i) λ h=>onB f (h (b.1,()) g) (k (.int .i64 (.ofNat 9)) g))
def g187_2 (a:(FEnv [4])→H→R)(b:FEnv [4])(c:Value)(d e f:H):R:=onB c (onRow (hget f d.1) λ _ g _ _ _ h=>ifB (Nat.ble 5 g) (rc 191 [.agg ⟨cellsF h 5 0⟩] f λ i j=>g187_1 rc k a b i e j)) (k (.int .i64 (.ofNat 11)) f)
def g187_3 (a:(FEnv [4])→H→R)(b:FEnv [4])(c d:V)(e f g:H)(h:Nat):R:=ifB (Nat.ble 5 h) (binR (binC E .neq 25 false false) (getF c 2) (getF d 4) λ i=>@joinR [4] (λ j l=>a (j.1,()) l) λ j=>g187_2 rc k j b i e f g)
def g187_4 (a:(FEnv [4])→H→R)(b:FEnv [4])(c d:Value)(e f g h:H):R:=onB d (onRow (hget h g.1) λ _ i _ _ _ j=>ifB (Nat.ble 3 i) (onRow (hget h e.1) λ _ l _ _ _ m=>g187_3 E rc k a b j m e f h l)) (k c h)
def g187_5 (a:(FEnv [4])→H→R)(b:FEnv [4])(c:Value)(d e f g:H):R:=binR (binC E .neq 41 false true) c (.int .i64 (.ofNat 0)) λ h=>@joinR [4] (λ i j=>a (i.1,()) j) λ i=>g187_4 E rc k i b c h d e f g
def g187_6 (a:FEnv [4])(b c:Value)(d e f g:H):R:=ifB (sameW c b) (@joinR [4] (λ _ h=>onRow (hget h d.1) λ _ i _ _ _ j=>g187_0 rc k j f h i) λ h=>g187_5 E rc k h a b d e f g)
def g187_7 (a:FEnv [4])(b:L)(c:V)(d e:Bool)(f:TypeId)(g h:Value)(i j l m:H)(n o:Nat):R:=ifB (notB e) (ifB (Nat.beq (lenF b) 4) (ifB (Nat.ble o 0) (ifB (Nat.ble 4 n) (ifB (Nat.ble n 1000000000) (ifB (allF (λ p=>cell1F p) b) (letH (hset m l.1 (.row f n d false o (putF c 0 b))) λ p=>onTup g λ q=>nthF 1 q λ r=>g187_6 E rc k a h r i j l p))))))
def g187_8 (a:FEnv [4])(b:L)(c d:Value)(e f g h:H):R:=nthF 1 b λ i=>onCells d λ j=>onRow (hget h g.1) λ l m n o p q=>g187_7 E rc k a j q n o l c i e f g h m p
def g187_9 (a:FEnv [4])(b c:V)(d:Addr)(e f g h:H):R:=rc 110 [getF b d.2,getF c 0] h λ i j=>onTup i λ l=>nthF 0 l λ m=>onTup i λ n=>g187_8 E rc k a n i m e f g j
def g187_10 (a:FEnv [4])(b c:V)(d:Addr)(e f g h:H)(i:Nat):R:=ifB (Nat.ble 1 i) (letH (hset h g.1 (.row 169 4 false false 0 (T.ofList unk [.int .i64 (.ofNat 0),.int .i64 (.ofNat 0),.int .u64 (.ofNat 0),.int .i64 (.ofNat 0)]))) λ j=>g187_9 E rc k a b c d e f g j)
def g187_11 (a:FEnv [4])(b:Addr)(c d e f:H):R:=onRow (hget f b.1) λ _ g _ _ _ h=>ifB (Nat.ble (Nat.succ b.2) g) (onRow (hget f d.1) λ _ i _ _ _ j=>g187_10 E rc k a h j b c d e f i)
def g187_12 (a:FEnv [4])(b:Addr)(c d e f:H):R:=onRow (hget f b.1) λ _ g _ _ _ h=>ifB (Nat.ble (Nat.succ b.2) g) (bindO (nilV (getF h b.2)) λ i=>onPtr i λ _=>onPtr i λ j=>g187_11 E rc k a j c d e f)
def g187_13 (a:FEnv [4])(b c d e:H):R:=onRow (hget e b.1) λ _ f _ _ _ g=>ifB (Nat.ble 1 f) (bindO (nilV (getF g 0)) λ h=>onPtr h λ _=>onPtr h λ i=>g187_12 E rc k a i b c d e)
def g187_14 (a:Value)(b c d:H):R:=@joinR [4] (λ e f=>ifB (Nat.ble f.1 1000000000) (letH (H.mk (Nat.add f.1 1) f.2) λ g=>g187_13 E rc k e b c f g)) λ e=>onB a (e (.int .i64 (.ofNat 0),()) d) (k (.int .i64 (.ofNat 1)) d)
def g187_15 (a:V)(b c d:H)(e:Nat):R:=ifB (Nat.ble 1 e) (binR (binC E .eql 86 false true) (getF a 0) (.pointer none) λ f=>g187_14 E rc k f b c d)
def g187_16 (a:L)(b c:H):R:=ifB (allF (λ d=>cell1F d) a) (ifB (Nat.ble c.1 1000000000) (letH (hpush c (.row 3 (lenF a) false false 0 (T.ofList unk a))) λ d=>onRow (hget d b.1) λ _ e _ _ _ f=>g187_15 E rc k f b c d e))
def g187_17 (a:L)(b:Value)(c:H):R:=ifB (allF (λ d=>cell1F d) a) (ifB (Nat.ble c.1 1000000000) (letH (hpush c (.row 106 (lenF a) false false 0 (T.ofList unk a))) λ d=>onCells b λ e=>g187_16 E rc k e c d))
def g187 (E:Env)(rc:RC)(a0 a1:Value)(h:H)(k:Value→H→R):R:=onCells a0 λ a=>g187_17 E rc k a a1 h
theorem g187_eq (t:ExtT)(rc:RC)(a0 a1:Value)(h:H)(k:Value→H→R):(funB (EX t) KK 187).run rc [a0,a1] h k = g187 (EX t) rc a0 a1 h k:=by kernel_rfl
def g188_0 (a:V)(b c d:Value)(e:H):R:=binR (binC E .add 9 false false) d c λ f=>rc 177 [.agg ⟨cellsF a 3 0⟩,b,f] e λ g h=>k g h
def g188_1 (a:L)(b:V)(c d:Value)(e:H):R:=ifB (Nat.ble e.1 1000000000) (letH (hpush e (.row 5 1 false false 0 (T.ofList unk a))) λ f=>bindO (convV E f 60 9 (.slice (some (Addr.mk e.1 0 none)) 1 2)) λ g=>g188_0 E rc k b c d g f)
def g188_2 (a:V)(b c d:Value)(e:H):R:=@Option.rec (List Value) (λ _=>R) none (λ f=>g188_1 E rc k f a b c e) (fillV (λ f=>some (Nat.mul f 1,1)) (List.flatten (List.replicate 1 (cellsOfV (.int .u8 (.ofNat 0))))) [(0,d)])
def g188_3 (a:V)(b c d:Value)(e:H):R:=joinL (λ f=>g188_2 E rc k a b c f e) λ f=>onNat d (bindO (convV E e 3 5 d) f) λ g=>@Bool.rec (λ _=>R) (bindO (convV E e 3 5 d) f) (f (.int .u8 (.ofNat g))) (Nat.ble g 255)
def g188_4 (a:FEnv [8])(b c d e:Value)(f g:H):R:=@joinR [8] (λ _ h=>onRow (hget h f.1) λ _ i _ _ _ j=>ifB (Nat.ble 3 i) (bindO (lenV E h 9 c) λ l=>g188_3 E rc k j b c l h)) λ h=>onB e (h (a.1,()) g) (k d g)
def g188_5 (a:FEnv [8])(b:V)(c d e:Value)(f g:H)(h:Nat):R:=ifB (Nat.ble 3 h) (rc 273 [.agg ⟨cellsF b 3 0⟩,c,d] g λ i j=>binR (binC E .neq 41 false true) i (.int .i64 (.ofNat 0)) λ l=>g188_4 E rc k a c e i l f j)
def g188_6 (a:(FEnv [8])→H→R)(b c:Value)(d:H):R:=binR (binC E .gtr 3 false false) c b λ e=>@joinR [8] (λ f g=>a (f.1,()) g) λ f=>onB e (f (.int .i64 (.ofNat 0),()) d) (k (.int .i64 (.ofNat 16)) d)
def g188_7 (a:(FEnv [8])→H→R)(b c d:Value)(e:H):R:=onB d (@joinR [8] (λ f g=>a (f.1,()) g) λ _=>k (.int .i64 (.ofNat 2)) e) (@joinR [8] (λ f g=>a (f.1,()) g) λ f=>bindO (lenV E e 9 c) λ g=>g188_6 E k f b g e)
def g188_8 (a b c:Value)(d e:H):R:=@joinR [8] (λ f g=>onRow (hget g d.1) λ _ h _ _ _ i=>g188_5 E rc k f i a b c d g h) λ f=>rc 272 [b] e λ g h=>g188_7 E k f b c g h
def g188_9 (a:L)(b c d:Value)(e:H):R:=ifB (allF (λ f=>cell1F f) a) (ifB (Nat.ble e.1 1000000000) (letH (hpush e (.row 78 (lenF a) false false 0 (T.ofList unk a))) λ f=>g188_8 E rc k b c d e f))
def g188 (E:Env)(rc:RC)(a0 a1 a2 a3:Value)(h:H)(k:Value→H→R):R:=onCells a0 λ a=>g188_9 E rc k a a1 a2 a3 h
theorem g188_eq (t:ExtT)(rc:RC)(a0 a1 a2 a3:Value)(h:H)(k:Value→H→R):(funB (EX t) KK 188).run rc [a0,a1,a2,a3] h k = g188 (EX t) rc a0 a1 a2 a3 h k:=by kernel_rfl
def g197_0 (a:(FEnv [4])→H→R)(b c:Value)(d:H):R:=onB c (binR (binC E .lss 3 false true) b (.int .i64 (.ofNat 1)) λ e=>@joinR [4] (λ f g=>a (f.1,()) g) λ f=>onB e (f (.int .i64 (.ofNat 0),()) d) (k (.int .i64 (.ofNat 2)) d)) (k (.int .i64 (.ofNat 1)) d)
def g197_1 (a:(FEnv [4])→H→R)(b:V)(c:Value)(d:H)(e:Nat):R:=ifB (Nat.ble 1 e) (binR (binC E .eql 44 false true) (getF b 0) (.pointer none) λ f=>@joinR [4] (λ g h=>a (g.1,()) h) λ g=>g197_0 E k g c f d)
def g197_2 (a:Value)(b c:H):R:=@joinR [4] (λ _ d=>k (.int .i64 (.ofNat 0)) d) λ d=>onRow (hget c b.1) λ _ e _ _ _ f=>g197_1 E k d f a c e
def g197_3 (a:L)(b:Value)(c:H):R:=ifB (allF (λ d=>cell1F d) a) (ifB (Nat.ble c.1 1000000000) (letH (hpush c (.row 91 (lenF a) false false 0 (T.ofList unk a))) λ d=>g197_2 E k b c d))
def g197 (E:Env)(rc:RC)(a0 a1:Value)(h:H)(k:Value→H→R):R:=onCells a0 λ a=>g197_3 E k a a1 h
theorem g197_eq (t:ExtT)(rc:RC)(a0 a1:Value)(h:H)(k:Value→H→R):(funB (EX t) KK 197).run rc [a0,a1] h k = g197 (EX t) rc a0 a1 h k:=by kernel_rfl
def g198_1 (a:V)(b c:Value)(d:H):R:=joinL (λ e=>rc 42 [.agg ⟨cellsF a 3 0⟩,c,.int .i64 (.ofNat 8),e] d λ _ f=>k (.tuple ⟨[]⟩) f) λ e=>g79_9 E e b d
def g198_2 (a:V)(b c:Value)(d:H)(e:Nat):R:=ifB (Nat.ble 3 e) (binR (binC E .mul 3 false true) b (.int .i64 (.ofNat 16)) λ f=>g198_1 E rc k a c f d)
def g198_3 (a:L)(b c:Value)(d:H):R:=ifB (allF (λ e=>cell1F e) a) (ifB (Nat.ble d.1 1000000000) (letH (hpush d (.row 91 (lenF a) false false 0 (T.ofList unk a))) λ e=>onRow (hget e d.1) λ _ f _ _ _ g=>g198_2 E rc k g b c e f))
def g198 (E:Env)(rc:RC)(a0 a1 a2:Value)(h:H)(k:Value→H→R):R:=onCells a0 λ a=>g198_3 E rc k a a1 a2 h
theorem g198_eq (t:ExtT)(rc:RC)(a0 a1 a2:Value)(h:H)(k:Value→H→R):(funB (EX t) KK 198).run rc [a0,a1,a2] h k = g198 (EX t) rc a0 a1 a2 h k:=by kernel_rfl
def g274_0 (a b:H):R:=bindO (loadV E b 255 (Addr.mk a.1 0 none)) λ c=>ifB (nT [c,.bool true]) (k (.tuple ⟨[c,.bool true]⟩) b)
def g274_1 (a b:V)(c d:Bool)(e:TypeId)(f g:H)(h i:Nat):R:=ifB (notB d) (ifB (Nat.beq (lenF (cellsF a 3 0)) 3) (ifB (Nat.ble i 0) (ifB (Nat.ble 3 h) (ifB (Nat.ble h 1000000000) (ifB (allF (λ j=>cell1F j) (cellsF a 3 0)) (letH (hset g f.1 (.row e h c false i (putF b 0 (cellsF a 3 0)))) λ j=>g274_0 E k f j))))))
def g274_2 (a b c:H):R:=onRow (hget c b.1) λ _ d _ _ _ e=>ifB (Nat.ble 3 d) (onRow (hget c a.1) λ f g h i j l=>g274_1 E k e l h i f a c g j)
def g274_3 (a:L)(b:V)(c d:Bool)(e:TypeId)(f g h:H)(i j:Nat):R:=ifB (notB d) (ifB (Nat.beq (lenF a) 3) (ifB (Nat.ble j 0) (ifB (Nat.ble 3 i) (ifB (Nat.ble i 1000000000) (ifB (allF (λ l=>cell1F l) a) (letH (hset h g.1 (.row e i c false j (putF b 0 a))) λ l=>g274_2 E k f g l))))))
def g274_4 (a:Value)(b c:H):R:=ifB (Nat.ble c.1 1000000000) (letH (hpush c (.row 255 3 false false 0 (T.ofList unk [.int .i64 (.ofNat 0),.int .i64 (.ofNat 0),.int .i64 (.ofNat 0)]))) λ d=>onCells a λ e=>onRow (hget d c.1) λ f g h i j l=>g274_3 E k e l h i f b c d g j)
def g274_5 (a:V)(b:Addr)(c:Value)(d e:H)(f:Nat):R:=ifB (Nat.ble (Nat.succ b.2) f) (rc 208 [getF a b.2,c] e λ g h=>onTup g λ i=>nthF 0 i λ j=>onTup g λ l=>nthF 1 l λ _=>g274_4 E k j d h)
def g274_6 (a:V)(b:Addr)(c:Value)(d e:H)(f:Nat):R:=ifB (Nat.ble (Nat.succ b.2) f) (bindO (nilV (getF a b.2)) λ g=>onPtr g λ _=>onPtr g λ h=>onRow (hget e h.1) λ _ i _ _ _ j=>g274_5 E rc k j h c d e i)
def g274_7 (a:V)(b:Value)(c d:H)(e:Nat):R:=ifB (Nat.ble 1 e) (bindO (nilV (getF a 0)) λ f=>onPtr f λ _=>onPtr f λ g=>onRow (hget d g.1) λ _ h _ _ _ i=>g274_6 E rc k i g b c d h)
def g274_8 (a b:H):R:=bindO (loadV E b 255 (Addr.mk a.1 0 none)) λ c=>ifB (nT [c,.bool false]) (k (.tuple ⟨[c,.bool false]⟩) b)
def g274_9 (a:V)(b c:Bool)(d:TypeId)(e f:H)(g h:Nat):R:=ifB (notB c) (ifB (Nat.beq (lenF (cellsOfV (.agg (@List.toArray Value [.int .i64 (.ofNat 0),.int .i64 (.ofNat 0),.int .i64 (.ofNat 0)])))) 3) (ifB (Nat.ble h 0) (ifB (Nat.ble 3 g) (ifB (Nat.ble g 1000000000) (ifB (allF (λ i=>cell1F i) (cellsOfV (.agg (@List.toArray Value [.int .i64 (.ofNat 0),.int .i64 (.ofNat 0),.int .i64 (.ofNat 0)])))) (letH (hset f e.1 (.row d g b false h (putF a 0 (cellsOfV (.agg (@List.toArray Value [.int .i64 (.ofNat 0),.int .i64 (.ofNat 0),.int .i64 (.ofNat 0)])))))) λ i=>g274_8 E k e i))))))
def g274_10 (a b:Value)(c d e:H):R:=@joinR [3] (λ _ f=>onRow (hget f c.1) λ _ g _ _ _ h=>g274_7 E rc k h a d f g) λ f=>onB b (f (.bool false,()) e) (onRow (hget e d.1) λ g h i j l m=>g274_9 E k m i j g d e h l)
def g274_11 (a:V)(b c d:H)(e:Nat):R:=ifB (Nat.ble 9 e) (rc 207 [.agg ⟨cellsF a 9 0⟩] d λ f g=>binR (binC E .eql 3 false true) f (.int .i64 (.ofNat 0)) λ h=>g274_10 E rc k f h b c g)
def g274_12 (a b:H):R:=ifB (Nat.ble b.1 1000000000) (letH (hpush b (.row 255 3 false false 0 (T.ofList unk [.int .i64 (.ofNat 0),.int .i64 (.ofNat 0),.int .i64 (.ofNat 0)]))) λ c=>onRow (hget c a.1) λ _ d _ _ _ e=>g274_11 E rc k e a b c d)
def g274_13 (a:L)(b:H):R:=ifB (allF (λ c=>cell1F c) a) (ifB (Nat.ble b.1 1000000000) (letH (hpush b (.row 108 (lenF a) false false 0 (T.ofList unk a))) λ c=>g274_12 E rc k b c))
def g274 (E:Env)(rc:RC)(a0:Value)(h:H)(k:Value→H→R):R:=onCells a0 λ a=>g274_13 E rc k a h
theorem g274_eq (t:ExtT)(rc:RC)(a0:Value)(h:H)(k:Value→H→R):(funB (EX t) KK 274).run rc [a0] h k = g274 (EX t) rc a0 h k:=by kernel_rfl
def g340_0 (a:H):R:=joinV (λ _ b=>joinV (λ _ c=>joinV (λ _ d=>joinV (λ _ e=>k (.bool false) e) λ e=>e undef d) λ d=>d undef c) λ c=>c undef b) λ b=>b undef a
def g340_2 (a b c:Value)(d:H):R:=joinV (λ e f=>joinV (λ g h=>onB a (k (.bool false) h) (k g h)) λ g=>g214_0 E g a e f) λ e=>onG a (e undef d) (binR (binC E .and 3 false false) b c λ f=>e f d) (e undef d)
def g340_3 (a:Value→H→R)(b c:Value)(d:H):R:=onG b (a undef d) (binR (binC E .sub 3 false true) c (.int .i64 (.ofNat 1)) λ e=>a e d) (a undef d)
def g340_4 (a b c:Value)(d:H):R:=onB b (joinV (λ _ e=>g340_0 k e) λ e=>e undef d) (joinV (λ e f=>joinV (λ g h=>joinV (λ i j=>g340_2 E k c e i j) λ i=>g340_3 E i c g h) λ g=>onG c (g undef f) (g a f) (g undef f)) λ e=>onG c (e undef d) (e a d) (e undef d))
def g340_5 (a:Value→H→R)(b c:Value)(d:H):R:=onG b (a undef d) (binR (binC E .leq 3 false true) c (.int .i64 (.ofNat 4096)) λ e=>a e d) (a undef d)
def g340 (E:Env)(rc:RC)(a0:Value)(h:H)(k:Value→H→R):R:=binR (binC E .geq 3 false true) a0 (.int .i64 (.ofNat 1)) λ a=>joinV (λ b c=>joinV (λ d e=>g340_4 E k a0 a d e) λ d=>g340_5 E d a b c) λ b=>onG a (b undef h) (b a0 h) (b undef h)
theorem g340_eq (t:ExtT)(rc:RC)(a0:Value)(h:H)(k:Value→H→R):(funB (EX t) KK 340).run rc [a0] h k = g340 (EX t) rc a0 h k:=by kernel_rfl
def g272_0 (a:Value→H→R)(b c:Value)(d:H):R:=onG b (a undef d) (binR (binC E .leq 3 false true) c (.int .i64 (.ofNat 255)) λ e=>a e d) (a undef d)
def g272_1 (a b:Value)(c:H):R:=joinV (λ d e=>joinV (λ f g=>onB b (k (.bool false) g) (k f g)) λ f=>g272_0 E f b d e) λ d=>onG b (d undef c) (d a c) (d undef c)
def g272 (E:Env)(rc:RC)(a0:Value)(h:H)(k:Value→H→R):R:=binR (binC E .geq 3 false true) a0 (.int .i64 (.ofNat 0)) λ a=>g272_1 E k a0 a h
theorem g272_eq (t:ExtT)(rc:RC)(a0:Value)(h:H)(k:Value→H→R):(funB (EX t) KK 272).run rc [a0] h k = g272 (EX t) rc a0 h k:=by kernel_rfl
def g273_0 (a:V)(b c:Value)(d:H):R:=rc 287 [.agg ⟨cellsF a 3 0⟩,b,c] d λ e f=>onTup e λ g=>nthF 0 g λ _=>onTup e λ h=>nthF 1 h λ i=>k i f
def g273_1 (a:V)(b c:Value)(d:H)(e:Nat):R:=ifB (Nat.ble 3 e) (binR (binC E .add 3 false true) c (.int .i64 (.ofNat 1)) λ f=>g273_0 rc k a b f d)
def g273_2 (a:L)(b c:Value)(d:H):R:=ifB (allF (λ e=>cell1F e) a) (ifB (Nat.ble d.1 1000000000) (letH (hpush d (.row 78 (lenF a) false false 0 (T.ofList unk a))) λ e=>onRow (hget e d.1) λ _ f _ _ _ g=>g273_1 E rc k g b c e f))
def g273 (E:Env)(rc:RC)(a0 a1 a2:Value)(h:H)(k:Value→H→R):R:=onCells a0 λ a=>g273_2 E rc k a a1 a2 h
theorem g273_eq (t:ExtT)(rc:RC)(a0 a1 a2:Value)(h:H)(k:Value→H→R):(funB (EX t) KK 273).run rc [a0,a1,a2] h k = g273 (EX t) rc a0 a1 a2 h k:=by kernel_rfl
def g251_0 (a b:Value)(c:H):R:=binR (binC E .andNot 3 false false) a b λ d=>ifB (nT [d,.bool true]) (k (.tuple ⟨[d,.bool true]⟩) c)
def g251_1 (a b:Value)(c:H):R:=binR (binC E .sub 3 false true) b (.int .i64 (.ofNat 1)) λ d=>binR (binC E .sub 3 false true) a (.int .i64 (.ofNat 1)) λ e=>g251_0 E k d e c
def g251_2 (a b:Value)(c:H):R:=@joinR [4,5] (λ _ d=>binR (binC E .add 3 false false) a b λ e=>g251_1 E k b e d) λ _=>k (.tuple ⟨[.int .i64 (.ofNat 0),.bool false]⟩) c
def g251_5 (a b c:Value)(d:H):R:=@joinR [4,5] (λ _ e=>binR (binC E .add 3 false false) a b λ f=>g251_1 E k b f e) λ e=>onB c (e (.int .i64 (.ofNat 0),(.bool false,())) d) (k (.tuple ⟨[.int .i64 (.ofNat 0),.bool false]⟩) d)
def g251_6 (a b c:Value)(d:H):R:=onB c (joinV (λ _ e=>joinV (λ _ f=>joinV (λ _ g=>g251_2 E k a b g) λ g=>g undef f) λ f=>f undef e) λ e=>e undef d) (joinV (λ e f=>joinV (λ g h=>joinV (λ i j=>g251_5 E k a b i j) λ i=>onB g (i (.bool true) h) (i (.bool false) h)) λ g=>rc 340 [e] f g) λ e=>e b d)
def g251 (E:Env)(rc:RC)(a0 a1:Value)(h:H)(k:Value→H→R):R:=rc 339 [a0] h λ a b=>g251_6 E rc k a0 a1 a b
theorem g251_eq (t:ExtT)(rc:RC)(a0 a1:Value)(h:H)(k:Value→H→R):(funB (EX t) KK 251).run rc [a0,a1] h k = g251 (EX t) rc a0 a1 h k:=by kernel_rfl
def g267_1 (a:Addr)(b:Value)(c:H):R:=onRow (hget c a.1) λ _ d _ _ _ e=>ifB (Nat.ble (Nat.succ a.2) d) (rc 38 [getF e a.2,b] c λ f g=>g163_0 k f g)
def g267_2 (a:(FEnv [4,5])→H→R)(b c d:Value)(e:H):R:=onB d (a (.int .i64 (.ofNat 0),(.int .i64 (.ofNat 0),())) e) (bindO (nilV b) λ f=>onPtr f λ _=>onPtr f λ g=>g267_1 rc k g c e)
def g267_3 (a b c d e f:Value)(g:H):R:=onB e (@joinR [4,5] (λ _ h=>ifB (nT [c,d]) (k (.tuple ⟨[c,d]⟩) h)) λ h=>h (.int .i64 (.ofNat 0),(.int .i64 (.ofNat 0),())) g) (@joinR [4,5] (λ _ h=>ifB (nT [c,d]) (k (.tuple ⟨[c,d]⟩) h)) λ h=>g267_2 rc k h a b f g)
def g267_4 (a:Value→H→R)(b c:Value)(d:H):R:=onG b (a undef d) (binR (binC E .gtr 3 false true) c (.int .i64 (.ofNat 0)) λ e=>a e d) (a undef d)
def g267_5 (a b c d e f:Value)(g:H):R:=joinV (λ h i=>joinV (λ j l=>g267_3 rc k a b c d e j l) λ j=>g267_4 E j e h i) λ h=>onG e (h undef g) (rc 317 [f] g h) (h undef g)
def g267_6 (a b c d:Value)(e:H):R:=binR (binC E .eql 41 false true) d (.int .i64 (.ofNat 4)) λ f=>joinV (λ g h=>g267_5 E rc k a b c d f g h) λ g=>onG f (g undef e) (g a e) (g undef e)
def g267_7 (a:V)(b:Addr)(c d:Value)(e:H)(f:Nat):R:=ifB (Nat.ble (Nat.succ b.2) f) (rc 38 [getF a b.2,d] e λ g h=>onTup g λ i=>nthF 0 i λ j=>onTup g λ l=>nthF 1 l λ m=>g267_6 E rc k c d j m h)
def g267 (E:Env)(rc:RC)(a0 a1:Value)(h:H)(k:Value→H→R):R:=bindO (nilV a0) λ a=>onPtr a λ _=>onPtr a λ b=>onRow (hget h b.1) λ _ c _ _ _ d=>g267_7 E rc k d b a0 a1 h c
theorem g267_eq (t:ExtT)(rc:RC)(a0 a1:Value)(h:H)(k:Value→H→R):(funB (EX t) KK 267).run rc [a0,a1] h k = g267 (EX t) rc a0 a1 h k:=by kernel_rfl
def g269 (E:Env)(rc:RC)(a0 a1:Value)(h:H)(k:Value→H→R):R:=rc 344 [a0,a1] h λ a b=>binR (binC E .geq 3 false true) a (.int .i64 (.ofNat 0)) λ c=>k c b
theorem g269_eq (t:ExtT)(rc:RC)(a0 a1:Value)(h:H)(k:Value→H→R):(funB (EX t) KK 269).run rc [a0,a1] h k = g269 (EX t) rc a0 a1 h k:=by kernel_rfl
def g271_0 (a b:V)(c d:Bool)(e:TypeId)(f g:H)(h i:Nat):R:=ifB (notB d) (ifB (Nat.beq (lenF (cellsF a 4 0)) 4) (ifB (Nat.ble i 0) (ifB (Nat.ble 4 h) (ifB (Nat.ble h 1000000000) (ifB (allF (λ j=>cell1F j) (cellsF a 4 0)) (letH (hset g f.1 (.row e h c false i (putF b 0 (cellsF a 4 0)))) λ j=>bindO (loadV E j 169 (Addr.mk f.1 0 none)) λ l=>k l j))))))
def g271_1 (a b c:H):R:=onRow (hget c a.1) λ _ d _ _ _ e=>ifB (Nat.ble 4 d) (onRow (hget c b.1) λ f g h i j l=>g271_0 E k e l h i f b c g j)
def g271_2 (a:V)(b c d:H)(e:Nat):R:=ifB (Nat.ble 5 e) (onRow (hget d b.1) λ _ f _ _ _ g=>ifB (Nat.ble 1 f) (rc 192 [.agg ⟨cellsF a 5 0⟩,getF g 0] d λ _ h=>g271_1 E k b c h))
def g271_3 (a b:V)(c:Addr)(d e f g:H)(h:Nat):R:=ifB (Nat.ble 4 h) (rc 268 [getF a c.2,.agg ⟨cellsF b 4 0⟩] g λ _ i=>onRow (hget i d.1) λ _ j _ _ _ l=>g271_2 E rc k l e f i j)
def g271_4 (a:Addr)(b c d e:H):R:=onRow (hget e a.1) λ _ f _ _ _ g=>ifB (Nat.ble (Nat.succ a.2) f) (onRow (hget e c.1) λ _ h _ _ _ i=>g271_3 E rc k g i a b c d e h)
def g271_5 (a:Addr)(b c d e:H):R:=onRow (hget e a.1) λ _ f _ _ _ g=>ifB (Nat.ble (Nat.succ a.2) f) (bindO (nilV (getF g a.2)) λ h=>onPtr h λ _=>onPtr h λ i=>g271_4 E rc k i b c d e)
def g271_6 (a b c d:H):R:=onRow (hget d a.1) λ _ e _ _ _ f=>ifB (Nat.ble 1 e) (bindO (nilV (getF f 0)) λ g=>onPtr g λ _=>onPtr g λ h=>g271_5 E rc k h a b c d)
def g271_7 (a:L)(b:V)(c d:Bool)(e:TypeId)(f g h i:H)(j l:Nat):R:=ifB (notB d) (ifB (Nat.beq (lenF a) 1) (ifB (Nat.ble l 3) (ifB (Nat.ble 4 j) (ifB (Nat.ble j 1000000000) (ifB (allF (λ m=>cell1F m) a) (letH (hset i g.1 (.row e j c false l (putF b 3 a))) λ m=>ifB (Nat.ble m.1 1000000000) (letH (H.mk m.1 m.2) λ n=>g271_6 E rc k f g h n)))))))
def g271_8 (a:V)(b c d e:H)(f:Nat):R:=ifB (Nat.ble 5 f) (rc 280 [.agg ⟨cellsF a 5 0⟩] e λ g h=>onCells g λ i=>onRow (hget h c.1) λ j l m n o p=>g271_7 E rc k i p m n j b c d h l o)
def g271_9 (a b c:H):R:=ifB (Nat.ble c.1 1000000000) (letH (hpush c (.row 169 4 false false 0 (T.ofList unk [.int .i64 (.ofNat 0),.int .i64 (.ofNat 0),.int .u64 (.ofNat 0),.int .i64 (.ofNat 0)]))) λ d=>onRow (hget d a.1) λ _ e _ _ _ f=>g271_8 E rc k f a b c d e)
def g271_10 (a:L)(b c:H):R:=ifB (allF (λ d=>cell1F d) a) (ifB (Nat.ble c.1 1000000000) (letH (hpush c (.row 169 (lenF a) false false 0 (T.ofList unk a))) λ d=>g271_9 E rc k b c d))
def g271_11 (a:L)(b:Value)(c:H):R:=ifB (allF (λ d=>cell1F d) a) (ifB (Nat.ble c.1 1000000000) (letH (hpush c (.row 106 (lenF a) false false 0 (T.ofList unk a))) λ d=>onCells b λ e=>g271_10 E rc k e c d))
def g271 (E:Env)(rc:RC)(a0 a1:Value)(h:H)(k:Value→H→R):R:=onCells a0 λ a=>g271_11 E rc k a a1 h
theorem g271_eq (t:ExtT)(rc:RC)(a0 a1:Value)(h:H)(k:Value→H→R):(funB (EX t) KK 271).run rc [a0,a1] h k = g271 (EX t) rc a0 a1 h k:=by kernel_rfl
def g526_0 (a b:H):R:=bindO (loadV E b 446 (Addr.mk a.1 0 none)) λ c=>ifB (nT [c,.bool false]) (k (.tuple ⟨[c,.bool false]⟩) b)
def g526_1 (a:V)(b c:Bool)(d:TypeId)(e f:H)(g h:Nat):R:=ifB (notB c) (ifB (Nat.beq (lenF (cellsOfV (.agg (@List.toArray Value [.int .u64 (.ofNat 0),.int .u64 (.ofNat 0)])))) 2) (ifB (Nat.ble h 0) (ifB (Nat.ble 2 g) (ifB (Nat.ble g 1000000000) (ifB (allF (λ i=>cell1F i) (cellsOfV (.agg (@List.toArray Value [.int .u64 (.ofNat 0),.int .u64 (.ofNat 0)])))) (letH (hset f e.1 (.row d g b false h (putF a 0 (cellsOfV (.agg (@List.toArray Value [.int .u64 (.ofNat 0),.int .u64 (.ofNat 0)])))))) λ i=>g526_0 E k e i))))))
def g526_2 (a b:H):R:=bindO (loadV E b 446 (Addr.mk a.1 0 none)) λ c=>ifB (nT [c,.bool true]) (k (.tuple ⟨[c,.bool true]⟩) b)
def g526_3 (a:L)(b:V)(c d:Bool)(e:TypeId)(f g:H)(h i:Nat):R:=ifB (notB d) (ifB (Nat.beq (lenF a) 2) (ifB (Nat.ble i 0) (ifB (Nat.ble 2 h) (ifB (Nat.ble h 1000000000) (ifB (allF (λ j=>cell1F j) a) (letH (hset g f.1 (.row e h c false i (putF b 0 a))) λ j=>g526_2 E k f j))))))
def g526_4 (a:(FEnv [7])→H→R)(b:FEnv [7,20])(c:V)(d:Addr)(e f:Value)(g h:H):R:=onB f (a (b.1,()) h) (bindO (buildV E 446 [(0,e),(1,getF c d.2)]) λ i=>onCells i λ j=>onRow (hget h g.1) λ l m n o p q=>g526_3 E k j q n o l g h m p)
def g526_5 (a:(FEnv [7])→H→R)(b:FEnv [7,20])(c:V)(d:Addr)(e f:Value)(g h:H):R:=binR (binC E .eql 41 false true) f (.int .i64 (.ofNat 0)) λ i=>@joinR [7] (λ j l=>a (j.1,()) l) λ j=>g526_4 E k j b c d e i g h
def g526_6 (a:(FEnv [7])→H→R)(b:FEnv [7,20])(c d e:V)(f g h:Addr)(i j l:Value)(m n:H)(o:Nat):R:=ifB (Nat.ble (Nat.add h.2 1) o) (ifB (sameW (.agg ⟨cellsF e 1 h.2⟩) (.agg ⟨cellsF d 1 g.2⟩)) (rc 218 [.agg ⟨cellsF d 1 g.2⟩,j,l] n λ p q=>g526_5 E k a b c f i p m q))
def g526_7 (a:(FEnv [7])→H→R)(b:FEnv [7,20])(c d:V)(e f:Addr)(g h i j:Value)(l m:H):R:=ifB (sameW h h) (onPtr h λ n=>onRow (hget m n.1) λ _ o _ _ _ p=>g526_6 E rc k a b c d p e f n g i j l m o)
def g526_8 (a:(FEnv [7])→H→R)(b:FEnv [7,20])(c d e f:V)(g h:Addr)(i j l m:Value)(n o:H)(p:Nat):R:=ifB (Nat.ble 12 p) (ifB (sameW (.agg ⟨cellsF f 12 0⟩) (.agg ⟨cellsF e 12 0⟩)) (rc 48 [.agg ⟨cellsF e 12 0⟩] o λ q r=>ifB (sameW i i) (bindO (nilV i) λ s=>ifB (sameW s l) (onPtr l λ _=>g526_7 E rc k a b c d g h j l m q n r))))
def g526_9 (a:(FEnv [7])→H→R)(b:FEnv [7,20])(c d e f:V)(g h i:Addr)(j l m n:Value)(o p q:H)(r:Nat):R:=ifB (Nat.ble (Nat.add i.2 1) r) (ifB (sameW (.agg ⟨cellsF f 1 i.2⟩) (.agg ⟨cellsF d 1 h.2⟩)) (onRow (hget q p.1) λ _ s _ _ _ t=>g526_8 E rc k a b c d e t g h j l m n o q s))
def g526_10 (a:(FEnv [7])→H→R)(b:FEnv [7,20])(c d e:V)(f g:Addr)(h i j l:Value)(m n o:H):R:=ifB (sameW j j) (onPtr j λ p=>onRow (hget o p.1) λ _ q _ _ _ r=>g526_9 E rc k a b c d e r f g p h i j l m n o q)
def g526_11 (a:(FEnv [7])→H→R)(b:FEnv [7,20])(c d e f:V)(g h:Addr)(i j l:Value)(m n o:H)(p:Nat):R:=ifB (Nat.ble 12 p) (rc 48 [.agg ⟨cellsF e 12 0⟩] o λ q r=>ifB (sameW i i) (bindO (nilV i) λ s=>ifB (sameW s l) (onPtr l λ _=>g526_10 E rc k a b c d f g h i j l q m n r)))
def g526_12 (a:(FEnv [7])→H→R)(b:FEnv [7,20])(c d e:V)(f g:Addr)(h i j:Value)(l m n:H)(o:Nat):R:=ifB (Nat.ble 12 o) (onRow (hget n m.1) λ _ p _ _ _ q=>g526_11 E rc k a b c d e q f g h i j l m n p)
def g526_13 (a:(FEnv [7])→H→R)(b:FEnv [7,20])(c:V)(d e:Addr)(f g h:Value)(i j l m:H):R:=onRow (hget m e.1) λ _ n _ _ _ o=>ifB (Nat.ble (Nat.add e.2 1) n) (onRow (hget m i.1) λ _ p _ _ _ q=>g526_12 E rc k a b c o q d e f g h j l m p)
def g526_14 (a:(FEnv [7])→H→R)(b:FEnv [7,20])(c:V)(d:Addr)(e f:Value)(g h i j:H):R:=ifB (Nat.ble j.1 1000000000) (letH (H.mk j.1 j.2) λ l=>bindO (nilV e) λ m=>onPtr m λ _=>onPtr m λ n=>g526_13 E rc k a b c d n e f m g h i l)
def g526_15 (a:(FEnv [7])→H→R)(b:FEnv [7,20])(c:L)(d e:V)(f g:Bool)(h:Addr)(i:TypeId)(j l:Value)(m n o p:H)(q r:Nat):R:=ifB (notB g) (ifB (Nat.beq (lenF c) 12) (ifB (Nat.ble r 0) (ifB (Nat.ble 12 q) (ifB (Nat.ble q 1000000000) (ifB (allF (λ s=>cell1F s) c) (letH (hset p o.1 (.row i q f false r (putF e 0 c))) λ s=>g526_14 E rc k a b d h j l m n o s))))))
def g526_16 (a:(FEnv [7])→H→R)(b:FEnv [7,20])(c:V)(d:Addr)(e f g:Value)(h i j l:H):R:=onCells g λ m=>onRow (hget l j.1) λ n o p q r s=>g526_15 E rc k a b m c s p q d n e f h i j l o r
def g526_17 (a:(FEnv [7])→H→R)(b:FEnv [7,20])(c:V)(d:Addr)(e f g:Value)(h i j:H):R:=ifB (Nat.ble j.1 1000000000) (letH (hpush j (.row 112 12 false false 0 (T.ofList unk [.pointer none,.pointer none,.int .i64 (.ofNat 0),.int .i64 (.ofNat 0),.int .u64 (.ofNat 0),.pointer none,.int .i64 (.ofNat 0),.int .i64 (.ofNat 0),.int .i64 (.ofNat 0),.pointer none,.int .i64 (.ofNat 0),.int .i64 (.ofNat 0)]))) λ l=>g526_16 E rc k a b c d e f g h i j l)
def g526_18 (a:(FEnv [7])→H→R)(b:FEnv [7,20])(c:V)(d:Addr)(e f:Value)(g h i:H)(j:Nat):R:=ifB (Nat.ble (Nat.succ d.2) j) (rc 46 [e,getF c d.2] i λ l m=>onTup l λ n=>nthF 0 n λ o=>onTup l λ p=>nthF 1 p λ _=>g526_17 E rc k a b c d e f o g h m)
def g526_19 (a:(FEnv [7])→H→R)(b:FEnv [7,20])(c:Addr)(d e:Value)(f g h:H)(i j:Nat):R:=ifB (Nat.ble (Nat.succ i) j) (addOffF c (Nat.mul i 1) λ l=>onPtr l λ m=>onRow (hget h m.1) λ _ n _ _ _ o=>g526_18 E rc k a b o m d e f g h n)
def g526_20 (a:(FEnv [7,20])→H→R)(b:FEnv [7,20])(c d e:Value)(f g h:H):R:=@joinR [7] (λ i j=>binR (binC E .add 3 false true) b.2.1 (.int .i64 (.ofNat 1)) λ l=>a (i.1,(l,())) j) λ i=>onNat b.2.1 none λ j=>onSl e none λ l m _=>g526_19 E rc k i b l c d f g h j m
def g526_21 (a:(FEnv [7,20])→H→R)(b:(FEnv [7])→H→R)(c:FEnv [7,20])(d e f g:Value)(h i j:H):R:=binR (binC E .lss 3 false false) c.2.1 g λ l=>@joinR [] (λ _ m=>g526_20 E rc k a c d e f h i m) λ m=>onB l (b (c.1,()) j) (m () j)
def g526_22 (a b c d:Value)(e f g:H):R:=@joinR [7] (λ _ h=>onRow (hget h f.1) λ i j l m n o=>g526_1 E k o l m i f h j n) λ h=>@loopF [7,20] (λ i j l=>g526_21 E rc k i h j a b c d e f l) 1000000 (.bool false,(.int .i64 (.ofNat 0),())) g
def g526_23 (a b c:Value)(d e f:H):R:=joinL (λ g=>g526_22 E rc k a b c g d e f) λ g=>onSl c (bindO (lenV E f 347 c) g) λ _ h _=>g (.int .i64 (.ofNat h))
def g526_24 (a:V)(b c:Value)(d e f:H)(g:Nat):R:=ifB (Nat.ble 12 g) (rc 112 [.agg ⟨cellsF a 12 0⟩,.int .i64 (.ofNat 0)] f λ h i=>rc 546 [b,h,c] i λ j l=>g526_23 E rc k b h j d e l)
def g526_25 (a b:Value)(c d:H):R:=ifB (Nat.ble d.1 1000000000) (letH (hpush d (.row 446 2 false false 0 (T.ofList unk [.int .u64 (.ofNat 0),.int .u64 (.ofNat 0)]))) λ e=>onRow (hget e c.1) λ _ f _ _ _ g=>g526_24 E rc k g a b c d e f)
def g526_26 (a:L)(b c:Value)(d:H):R:=ifB (allF (λ e=>cell1F e) a) (ifB (Nat.ble d.1 1000000000) (letH (hpush d (.row 112 (lenF a) false false 0 (T.ofList unk a))) λ e=>g526_25 E rc k b c d e))
def g526 (E:Env)(rc:RC)(a0 a1 a2:Value)(h:H)(k:Value→H→R):R:=onCells a1 λ a=>g526_26 E rc k a a0 a2 h
theorem g526_eq (t:ExtT)(rc:RC)(a0 a1 a2:Value)(h:H)(k:Value→H→R):(funB (EX t) KK 526).run rc [a0,a1,a2] h k = g526 (EX t) rc a0 a1 a2 h k:=by kernel_rfl
def g344_0 (a:(FEnv [4])→H→R)(b c:Array Value)(d:FEnv [4,8])(e:V)(f:Addr)(g:FuncId)(h:H):R:=rc g (catV b c [.agg ⟨cellsF e 4 f.2⟩]) h λ i j=>@joinR [4] (λ l m=>a (l.1,()) m) λ l=>onB i (l (d.1,()) j) (k d.2.1 j)
def g344_1 (a:(FEnv [4])→H→R)(b:FEnv [4,8])(c:Addr)(d:Value)(e:H):R:=onRow (hget e c.1) λ _ f _ _ _ g=>ifB (Nat.ble (Nat.add c.2 4) f) (onF d λ h i j=>g344_0 rc k a i j b g c h e)
def g344_2 (a:(FEnv [4])→H→R)(b:FEnv [4,8])(c d:Value)(e:H):R:=onNat b.2.1 none λ f=>onSl c none λ g h _=>ifB (Nat.ble (Nat.succ f) h) (addOffF g (Nat.mul f 4) λ i=>onPtr i λ j=>g344_1 rc k a b j d e)
def g344_3 (a:(FEnv [4,8])→H→R)(b:FEnv [4,8])(c d:Value)(e:H):R:=@joinR [4] (λ f g=>binR (binC E .add 3 false true) b.2.1 (.int .i64 (.ofNat 1)) λ h=>a (f.1,(h,())) g) λ f=>g344_2 rc k f b c d e
def g344_4 (a:(FEnv [4,8])→H→R)(b:(FEnv [4])→H→R)(c:FEnv [4,8])(d e f:Value)(g:H):R:=binR (binC E .lss 3 false false) c.2.1 f λ h=>@joinR [] (λ _ i=>g344_3 E rc k a c d e i) λ i=>onB h (b (c.1,()) g) (i () g)
def g344_5 (a b c:Value)(d:H):R:=@joinR [4] (λ _ e=>k (.int .i64 (.negSucc 0)) e) λ e=>@loopF [4,8] (λ f g h=>g344_4 E rc k f e g a b c h) 1000000 (.int .i64 (.ofNat 0),(.int .i64 (.ofNat 0),())) d
def g344 (E:Env)(rc:RC)(a0 a1:Value)(h:H)(k:Value→H→R):R:=joinL (λ a=>g344_5 E rc k a0 a1 a h) λ a=>onSl a0 (bindO (lenV E h 258 a0) a) λ _ b _=>a (.int .i64 (.ofNat b))
theorem g344_eq (t:ExtT)(rc:RC)(a0 a1:Value)(h:H)(k:Value→H→R):(funB (EX t) KK 344).run rc [a0,a1] h k = g344 (EX t) rc a0 a1 h k:=by kernel_rfl
def g502_0 (a b c:H):R:=bindO (loadV E c 272 (Addr.mk a.1 0 none)) λ d=>bindO (loadV E c 272 (Addr.mk b.1 0 none)) λ e=>ifB (nT [d,e]) (k (.tuple ⟨[d,e]⟩) c)
def g502_1 (a:L)(b:V)(c d:Bool)(e:TypeId)(f g h:H)(i j:Nat):R:=ifB (notB d) (ifB (Nat.beq (lenF a) 3) (ifB (Nat.ble j 0) (ifB (Nat.ble 3 i) (ifB (Nat.ble i 1000000000) (ifB (allF (λ l=>cell1F l) a) (letH (hset h g.1 (.row e i c false j (putF b 0 a))) λ l=>g502_0 E k f g l))))))
def g502_2 (a:L)(b:V)(c d:Bool)(e:TypeId)(f:Value)(g h i:H)(j l:Nat):R:=ifB (notB d) (ifB (Nat.beq (lenF a) 3) (ifB (Nat.ble l 0) (ifB (Nat.ble 3 j) (ifB (Nat.ble j 1000000000) (ifB (allF (λ m=>cell1F m) a) (letH (hset i g.1 (.row e j c false l (putF b 0 a))) λ m=>onCells f λ n=>onRow (hget m h.1) λ o p q r s t=>g502_1 E k n t q r o g h m p s))))))
def g502_3 (a b:Value)(c d e:H):R:=rc 209 [b] e λ f g=>onCells a λ h=>onRow (hget g c.1) λ i j l m n o=>g502_2 E k h o l m i f c d g j n
def g502_4 (a b:V)(c:Value)(d e f:H)(g:Nat):R:=ifB (Nat.ble 12 g) (ifB (sameW (.agg ⟨cellsF b 12 0⟩) (.agg ⟨cellsF a 12 0⟩)) (rc 210 [.agg ⟨cellsF a 12 0⟩,.int .i64 (.ofNat 4)] f λ h i=>g502_3 E rc k c h d e i))
def g502_5 (a b:V)(c:Value)(d e f g:H)(h:Nat):R:=ifB (Nat.ble 12 h) (ifB (sameW (.agg ⟨cellsF b 12 0⟩) (.agg ⟨cellsF a 12 0⟩)) (rc 209 [c] g λ i j=>onRow (hget j d.1) λ _ l _ _ _ m=>g502_4 E rc k a m i e f j l))
def g502_6 (a b:V)(c d e f:H)(g:Nat):R:=ifB (Nat.ble 12 g) (rc 210 [.agg ⟨cellsF a 12 0⟩,.int .i64 (.ofNat 3)] f λ h i=>onRow (hget i c.1) λ _ j _ _ _ l=>g502_5 E rc k b l h c d e i j)
def g502_7 (a b c d e:H):R:=onRow (hget e a.1) λ _ f _ _ _ g=>ifB (Nat.ble 12 f) (onRow (hget e b.1) λ _ h _ _ _ i=>g502_6 E rc k g i b c d e h)
def g502_8 (a b c d:H):R:=ifB (Nat.ble d.1 1000000000) (letH (hpush d (.row 272 3 false false 0 (T.ofList unk [.pointer none,.int .i64 (.ofNat 0),.int .i64 (.ofNat 0)]))) λ e=>ifB (Nat.ble e.1 1000000000) (letH (H.mk e.1 e.2) λ f=>g502_7 E rc k a b c d f))
def g502_9 (a b c:H):R:=ifB (Nat.ble c.1 1000000000) (letH (hpush c (.row 272 3 false false 0 (T.ofList unk [.pointer none,.int .i64 (.ofNat 0),.int .i64 (.ofNat 0)]))) λ d=>g502_8 E rc k a b c d)
def g502_10 (a:L)(b c:H):R:=ifB (allF (λ d=>cell1F d) a) (ifB (Nat.ble c.1 1000000000) (letH (hpush c (.row 112 (lenF a) false false 0 (T.ofList unk a))) λ d=>g502_9 E rc k b c d))
def g502_11 (a:L)(b:Value)(c:H):R:=ifB (allF (λ d=>cell1F d) a) (ifB (Nat.ble c.1 1000000000) (letH (hpush c (.row 112 (lenF a) false false 0 (T.ofList unk a))) λ d=>onCells b λ e=>g502_10 E rc k e c d))
def g502 (E:Env)(rc:RC)(a0 a1:Value)(h:H)(k:Value→H→R):R:=onCells a0 λ a=>g502_11 E rc k a a1 h
theorem g502_eq (t:ExtT)(rc:RC)(a0 a1:Value)(h:H)(k:Value→H→R):(funB (EX t) KK 502).run rc [a0,a1] h k = g502 (EX t) rc a0 a1 h k:=by kernel_rfl
def g547_0 (a:Value)(b c:H):R:=ifB (andB (allF (λ d=>isS0F d) []) (allF (λ d=>isS0F d) [.pointer (some (Addr.mk b.1 0 none))])) (rc 561 [a,.func (.func 562) ⟨[]⟩ ⟨[.pointer (some (Addr.mk b.1 0 none))]⟩] c λ d e=>k d e)
def g547_1 (a:L)(b:Value)(c:H):R:=ifB (allF (λ d=>cell1F d) a) (ifB (Nat.ble c.1 1000000000) (letH (hpush c (.row 25 (lenF a) false false 0 (T.ofList unk a))) λ d=>g547_0 rc k b c d))
def g547 (E:Env)(rc:RC)(a0 a1:Value)(h:H)(k:Value→H→R):R:=onCells a1 λ a=>g547_1 rc k a a0 h
theorem g547_eq (t:ExtT)(rc:RC)(a0 a1:Value)(h:H)(k:Value→H→R):(funB (EX t) KK 547).run rc [a0,a1] h k = g547 (EX t) rc a0 a1 h k:=by kernel_rfl
def g561_0 (a:(FEnv [4])→H→R)(b c:Array Value)(d:FEnv [4,8])(e:V)(f:Addr)(g:FuncId)(h:H):R:=rc g (catV b c [.agg ⟨cellsF e 2 f.2⟩]) h λ i j=>@joinR [4] (λ l m=>a (l.1,()) m) λ l=>onB i (l (d.1,()) j) (k d.2.1 j)
def g561_1 (a:(FEnv [4])→H→R)(b:FEnv [4,8])(c:Addr)(d:Value)(e:H):R:=onRow (hget e c.1) λ _ f _ _ _ g=>ifB (Nat.ble (Nat.add c.2 2) f) (onF d λ h i j=>g561_0 rc k a i j b g c h e)
def g561_2 (a:(FEnv [4])→H→R)(b:FEnv [4,8])(c d:Value)(e:H):R:=onNat b.2.1 none λ f=>onSl c none λ g h _=>ifB (Nat.ble (Nat.succ f) h) (addOffF g (Nat.mul f 2) λ i=>onPtr i λ j=>g561_1 rc k a b j d e)
def g561_3 (a:(FEnv [4,8])→H→R)(b:FEnv [4,8])(c d:Value)(e:H):R:=@joinR [4] (λ f g=>binR (binC E .add 3 false true) b.2.1 (.int .i64 (.ofNat 1)) λ h=>a (f.1,(h,())) g) λ f=>g561_2 rc k f b c d e
def g561_4 (a:(FEnv [4,8])→H→R)(b:(FEnv [4])→H→R)(c:FEnv [4,8])(d e f:Value)(g:H):R:=binR (binC E .lss 3 false false) c.2.1 f λ h=>@joinR [] (λ _ i=>g561_3 E rc k a c d e i) λ i=>onB h (b (c.1,()) g) (i () g)
def g561_5 (a b c:Value)(d:H):R:=@joinR [4] (λ _ e=>k (.int .i64 (.negSucc 0)) e) λ e=>@loopF [4,8] (λ f g h=>g561_4 E rc k f e g a b c h) 1000000 (.int .i64 (.ofNat 0),(.int .i64 (.ofNat 0),())) d
def g561 (E:Env)(rc:RC)(a0 a1:Value)(h:H)(k:Value→H→R):R:=joinL (λ a=>g561_5 E rc k a0 a1 a h) λ a=>onSl a0 (bindO (lenV E h 179 a0) a) λ _ b _=>a (.int .i64 (.ofNat b))
theorem g561_eq (t:ExtT)(rc:RC)(a0 a1:Value)(h:H)(k:Value→H→R):(funB (EX t) KK 561).run rc [a0,a1] h k = g561 (EX t) rc a0 a1 h k:=by kernel_rfl
def g503_0 (a:(FEnv [4])→H→R)(b c d:Value)(e:H):R:=ifB (sameW d b) (binR (binC E .geq 3 false false) b c λ f=>@joinR [4] (λ g h=>a (g.1,()) h) λ g=>onB f (g (.int .i64 (.ofNat 0),()) e) (k (.int .i64 (.ofNat 10)) e))
def g503_1 (a:(FEnv [4])→H→R)(b:V)(c d:Value)(e:H):R:=rc 295 [.agg ⟨cellsF b 3 0⟩] e λ f g=>joinL (λ h=>g503_0 E k a d f h g) λ h=>onSl c (bindO (lenV E g 179 c) h) λ _ i _=>h (.int .i64 (.ofNat i))
def g503_2 (a:(FEnv [4])→H→R)(b c:V)(d:Value)(e:H)(f:Nat):R:=ifB (Nat.ble 3 f) (ifB (sameW (.agg ⟨cellsF c 3 0⟩) (.agg ⟨cellsF b 3 0⟩)) (joinL (λ g=>g503_1 E rc k a b d g e) λ g=>onSl d (bindO (lenV E e 179 d) g) λ _ h _=>g (.int .i64 (.ofNat h))))
def g503_3 (a:(FEnv [4])→H→R)(b c:V)(d e:H)(f:Nat):R:=ifB (Nat.ble 3 f) (rc 211 [.agg ⟨cellsF b 3 0⟩] e λ g h=>onRow (hget h d.1) λ _ i _ _ _ j=>g503_2 E rc k a c j g h i)
def g503_4 (a:(FEnv [4])→H→R)(b c:H):R:=onRow (hget c b.1) λ _ d _ _ _ e=>ifB (Nat.ble 3 d) (onRow (hget c b.1) λ _ f _ _ _ g=>g503_3 E rc k a e g b c f)
def g503_5 (a:(FEnv [4])→H→R)(b:Value)(c d:H):R:=@joinR [4] (λ e f=>a (e.1,()) f) λ e=>onB b (ifB (Nat.ble d.1 1000000000) (letH (H.mk d.1 d.2) λ f=>g503_4 E rc k e c f)) (k (.int .i64 (.ofNat 9)) d)
def g503_6 (a:(FEnv [4])→H→R)(b:V)(c d e:H)(f:Nat):R:=ifB (Nat.ble 3 f) (onRow (hget e d.1) λ _ g _ _ _ h=>ifB (Nat.ble 1 g) (rc 527 [.agg ⟨cellsF b 3 0⟩,getF h 0] e λ i j=>g503_5 E rc k a i c j))
def g503_7 (a:(FEnv [4])→H→R)(b c:Value)(d e f:H):R:=onB b (@joinR [4] (λ g h=>a (g.1,()) h) λ g=>onB c (onRow (hget f d.1) λ _ h _ _ _ i=>g503_6 E rc k g i d e f h) (k (.int .i64 (.ofNat 2)) f)) (@joinR [4] (λ g h=>a (g.1,()) h) λ _=>k (.int .i64 (.ofNat 2)) f)
def g503_10 (a:(FEnv [4])→H→R)(b:Value)(c d e:H):R:=joinV (λ f g=>joinV (λ h i=>joinV (λ j l=>g503_7 E rc k a b j c d l) λ j=>g211_11 E j b h i) λ h=>g110_12 h b f g) λ f=>onG b (f (.pointer (some (Addr.mk d.1 1 none))) e) (f undef e) (f undef e)
def g503_11 (a:(FEnv [4])→H→R)(b:V)(c d e:H)(f:Nat):R:=ifB (Nat.ble 1 f) (binR (binC E .eql 25 false true) (getF b 0) (.int .u64 (.ofNat 0)) λ g=>g503_10 E rc k a g c d e)
def g503_12 (a:(FEnv [4])→H→R)(b:Value)(c d e:H):R:=@joinR [4] (λ f g=>a (f.1,()) g) λ f=>onB b (onRow (hget e d.1) λ _ g _ _ _ h=>g503_11 E rc k f h c d e g) (k (.int .i64 (.ofNat 1)) e)
def g503_13 (a:(FEnv [4])→H→R)(b:V)(c d e:H)(f:Nat):R:=ifB (Nat.ble 1 f) (binR (binC E .eql 44 false true) (getF b 0) (.pointer none) λ g=>g503_12 E rc k a g c d e)
def g503_14 (a b c:H):R:=@joinR [4] (λ _ d=>k (.int .i64 (.ofNat 0)) d) λ d=>onRow (hget c a.1) λ _ e _ _ _ f=>g503_13 E rc k d f a b c e
def g503_15 (a:L)(b c:H):R:=ifB (allF (λ d=>cell1F d) a) (ifB (Nat.ble c.1 1000000000) (letH (hpush c (.row 341 (lenF a) false false 0 (T.ofList unk a))) λ d=>g503_14 E rc k b c d))
def g503_16 (a:L)(b:Value)(c:H):R:=ifB (allF (λ d=>cell1F d) a) (ifB (Nat.ble c.1 1000000000) (letH (hpush c (.row 272 (lenF a) false false 0 (T.ofList unk a))) λ d=>onCells b λ e=>g503_15 E rc k e c d))
def g503 (E:Env)(rc:RC)(a0 a1:Value)(h:H)(k:Value→H→R):R:=onCells a0 λ a=>g503_16 E rc k a a1 h
theorem g503_eq (t:ExtT)(rc:RC)(a0 a1:Value)(h:H)(k:Value→H→R):(funB (EX t) KK 503).run rc [a0,a1] h k = g503 (EX t) rc a0 a1 h k:=by kernel_rfl
def g504_0 (a b:V)(c:Value)(d:H)(e:Nat):R:=ifB (Nat.ble 3 e) (ifB (sameW (.agg ⟨cellsF b 3 0⟩) (.agg ⟨cellsF a 3 0⟩)) (rc 528 [.agg ⟨cellsF a 3 0⟩,c] d λ _ f=>k (.int .i64 (.ofNat 0)) f))
def g504_1 (a:FEnv [7])(b:V)(c:Value)(d e f:H):R:=rc 529 [c,a.1,.slice (some (Addr.mk e.1 0 none)) 1 2] f λ g h=>onRow (hget h d.1) λ _ i _ _ _ j=>g504_0 rc k b j g h i
def g504_2 (a:FEnv [7])(b c:V)(d:Value)(e f g:H)(h:Nat):R:=ifB (Nat.ble 2 h) (@Option.rec (List Value) (λ _=>R) none (λ i=>letH (hset g f.1 (.row 341 2 false false 0 (T.ofList unk i))) λ j=>g504_1 rc k a b d e f j) (fillV (λ i=>some (Nat.mul i 2,2)) (List.flatten (List.replicate 1 (cellsOfV (.agg (@List.toArray Value [.int .u64 (.ofNat 0),.int .u64 (.ofNat 0)]))))) [(0,.agg ⟨cellsF c 2 0⟩)]))
def g504_3 (a:FEnv [7])(b:Value)(c d e f:H):R:=onRow (hget f c.1) λ _ g _ _ _ h=>ifB (Nat.ble 3 g) (onRow (hget f d.1) λ _ i _ _ _ j=>g504_2 rc k a h j b c e f i)
def g504_4 (a:(FEnv [7])→H→R)(b:FEnv [7])(c:H):R:=@joinR [7] (λ d e=>a (d.1,()) e) λ d=>binR (binC E .add 3 false true) b.1 (.int .i64 (.ofNat 1)) λ e=>d (e,()) c
def g504_6 (a b:(FEnv [7])→H→R)(c:FEnv [7])(d e:Value)(f:H):R:=onB d (@joinR [] (λ _ g=>g504_4 E b c g) λ _=>a (c.1,()) f) (@joinR [] (λ _ g=>g504_4 E b c g) λ g=>onB e (a (c.1,()) f) (g () f))
def g504_7 (a b:(FEnv [7])→H→R)(c:FEnv [7])(d e f:Value)(g:H):R:=joinL (λ h=>g504_6 E a b c d h g) λ h=>onG d (h undef) (binR (binC E .leq 25 false false) e f h) (h undef)
def g504_8 (a:Value→R)(b c:Value)(d:H):R:=onG b (a undef) (onPtr c λ e=>onRow (hget d e.1) λ _ f _ _ _ g=>ifB (Nat.ble (Nat.succ e.2) f) (a (getF g e.2))) (a undef)
def g504_9 (a b:(FEnv [7])→H→R)(c:FEnv [7])(d e:Value)(f g:H):R:=joinL (λ h=>joinL (λ i=>g504_7 E a b c d e i g) λ i=>g504_8 i d h g) λ h=>onG d (h undef) (h (.pointer (some (Addr.mk f.1 1 none)))) (h undef)
def g504_11 (a b:(FEnv [7])→H→R)(c:FEnv [7])(d e:Value)(f g:H):R:=joinL (λ h=>joinL (λ i=>g504_9 E a b c d i f g) λ i=>g504_8 i d h g) λ h=>onG d (h undef) (onPtr e λ i=>h (.pointer (some (Addr.mk i.1 (Nat.add i.2 1) none)))) (h undef)
def g504_12 (a b:(FEnv [7])→H→R)(c:FEnv [7])(d e f:Value)(g h:H):R:=joinL (λ i=>g504_11 E a b c d i g h) λ i=>onG d (i undef) (onNat f none λ j=>onSl e none λ l m _=>ifB (Nat.ble (Nat.succ j) m) (addOffF l (Nat.mul j 2) i)) (i undef)
def g504_13 (a b:(FEnv [7])→H→R)(c:FEnv [7])(d e:Value)(f g:H):R:=joinL (λ h=>joinL (λ i=>g504_12 E a b c e h i f g) λ i=>onG e (i undef) (i c.1) (i undef)) λ h=>onG e (h undef) (h d) (h undef)
def g504_14 (a b:(FEnv [7])→H→R)(c:FEnv [7])(d:Value)(e f:H):R:=joinL (λ g=>binR (binC E .lss 3 false false) c.1 g λ h=>g504_13 E a b c d h e f) λ g=>onSl d (bindO (lenV E f 179 d) g) λ _ h _=>g (.int .i64 (.ofNat h))
def g504_15 (a:(FEnv [7])→H→R)(b:Value)(c d:H):R:=@loopF [7] (λ e f g=>ifB (Nat.ble g.1 1000000000) (letH (H.mk g.1 g.2) λ h=>g504_14 E a e f b c h)) 1000000 (.int .i64 (.ofNat 0),()) d
def g504_16 (a:V)(b c d:H)(e:Nat):R:=ifB (Nat.ble 3 e) (rc 211 [.agg ⟨cellsF a 3 0⟩] d λ f g=>@joinR [7] (λ h i=>ifB (Nat.ble i.1 1000000000) (letH (H.mk (Nat.add i.1 1) i.2) λ j=>g504_3 rc k h f b c i j)) λ h=>g504_15 E h f c g)
def g504_17 (a b:Value)(c d e:H):R:=@joinR [4] (λ _ f=>onRow (hget f c.1) λ _ g _ _ _ h=>g504_16 E rc k h c d f g) λ f=>onB b (f (.int .i64 (.ofNat 0),()) e) (k a e)
def g504_18 (a b:V)(c d e:H)(f:Nat):R:=ifB (Nat.ble 2 f) (rc 503 [.agg ⟨cellsF a 3 0⟩,.agg ⟨cellsF b 2 0⟩] e λ g h=>binR (binC E .neq 41 false true) g (.int .i64 (.ofNat 0)) λ i=>g504_17 E rc k g i c d h)
def g504_19 (a b c:H):R:=onRow (hget c a.1) λ _ d _ _ _ e=>ifB (Nat.ble 3 d) (onRow (hget c b.1) λ _ f _ _ _ g=>g504_18 E rc k e g a b c f)
def g504_20 (a:L)(b c:H):R:=ifB (allF (λ d=>cell1F d) a) (ifB (Nat.ble c.1 1000000000) (letH (hpush c (.row 341 (lenF a) false false 0 (T.ofList unk a))) λ d=>g504_19 E rc k b c d))
def g504_21 (a:L)(b:Value)(c:H):R:=ifB (allF (λ d=>cell1F d) a) (ifB (Nat.ble c.1 1000000000) (letH (hpush c (.row 272 (lenF a) false false 0 (T.ofList unk a))) λ d=>onCells b λ e=>g504_20 E rc k e c d))
def g504 (E:Env)(rc:RC)(a0 a1:Value)(h:H)(k:Value→H→R):R:=onCells a0 λ a=>g504_21 E rc k a a1 h
theorem g504_eq (t:ExtT)(rc:RC)(a0 a1:Value)(h:H)(k:Value→H→R):(funB (EX t) KK 504).run rc [a0,a1] h k = g504 (EX t) rc a0 a1 h k:=by kernel_rfl
def g527_0 (a b:Value)(c:H):R:=rc 547 [b,a] c λ d e=>binR (binC E .geq 3 false true) d (.int .i64 (.ofNat 0)) λ f=>k f e
def g527_1 (a:Value)(b c:H):R:=onRow (hget c b.1) λ _ d _ _ _ e=>ifB (Nat.ble 3 d) (rc 211 [.agg ⟨cellsF e 3 0⟩] c λ f g=>g527_0 E rc k a f g)
def g527_2 (a:L)(b:Value)(c:H):R:=ifB (allF (λ d=>cell1F d) a) (ifB (Nat.ble c.1 1000000000) (letH (hpush c (.row 272 (lenF a) false false 0 (T.ofList unk a))) λ d=>g527_1 E rc k b c d))
def g527 (E:Env)(rc:RC)(a0 a1:Value)(h:H)(k:Value→H→R):R:=onCells a0 λ a=>g527_2 E rc k a a1 h
theorem g527_eq (t:ExtT)(rc:RC)(a0 a1:Value)(h:H)(k:Value→H→R):(funB (EX t) KK 527).run rc [a0,a1] h k = g527 (EX t) rc a0 a1 h k:=by kernel_rfl
end
end Go.Ev
