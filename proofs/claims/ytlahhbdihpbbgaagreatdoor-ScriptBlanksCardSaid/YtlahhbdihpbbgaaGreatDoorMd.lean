/-
  Functions of a program as plain Lean, for any table of functions that are answered for; printed by a program.
-/
import Derived.Test.YtlahhbdihpbbgaaGreatDoorMc
set_option linter.unusedVariables false
set_option linter.unusedSimpArgs false
namespace Go.Ev
open Go F Go.Proofs
set_option maxRecDepth 100000
set_option linter.unusedVariables false
noncomputable section
variable (E : Env) (rc : RC) (k : Value → H → R)
def ahl (a:(aa [])→H→R)(b c:V)(d e:Value)(f:H)(g:Nat):R:=ifB (Nat.ble 12 g) (ifB (aj (.agg ⟨ac c 12 0⟩) (.agg ⟨ac b 12 0⟩)) (ifB (aj d d) (binR (binC E .add 3 false false) e d λ h=>joinL (λ i=>rc 128 [.agg ⟨ac b 12 0⟩,.int .i64 (.ofNat 8),i] f λ _ j=>a () j) λ i=>js E i h f)))
def akb (a:(aa [])→H→R)(b:aa [1])(c d:V)(e:Value)(f g:H)(h:Nat):R:=ifB (Nat.ble 1 h) (rc 187 [.agg ⟨ac d 1 0⟩,b.1] g λ i j=>onRow (hget j f.1) λ _ l _ _ _ m=>ahl E rc a c m e i j l)
def Z8 (a:(aa [])→H→R)(b:aa [1])(c:Value)(d e f:H):R:=onRow (hget f e.1) λ _ g _ _ _ h=>ifB (Nat.ble 12 g) (onRow (hget f d.1) λ _ i _ _ _ j=>akb E rc a b h j c e f i)
def aau (a:(aa [])→H→R)(b:aa [1])(c:L)(d:V)(e f:Bool)(g:TypeId)(h:Value)(i j l:H)(m n:Nat):R:=ifB (notB f) (ifB (Nat.beq (lenF c) 12) (ifB (Nat.ble n 0) (ifB (Nat.ble 12 m) (ifB (Nat.ble m 1000000000) (ifB (allF (λ o=>cell1F o) c) (letH (hset l j.1 (.row g m e false n (putF d 0 c))) λ o=>ifB (Nat.ble o.1 1000000000) (letH (H.mk o.1 o.2) λ p=>Z8 E rc a b h i j p)))))))
def aaw (a:(aa [])→H→R)(b:aa [1])(c d:Value)(e f:H):R:=ifB (Nat.ble f.1 1000000000) (letH (ag f (.row 148 12 false false 0 (T.ofList unk [.pointer none,.pointer none,.int .i64 (.ofNat 0),.int .i64 (.ofNat 0),.int .u64 (.ofNat 0),.pointer none,.int .i64 (.ofNat 0),.int .i64 (.ofNat 0),.int .i64 (.ofNat 0),.pointer none,.int .i64 (.ofNat 0),.int .i64 (.ofNat 0)]))) λ g=>onCells d λ h=>onRow (hget g f.1) λ i j l m n o=>aau E rc a b h o l m i c e f g j n)
def Vv (a:(aa [])→H→R)(b:aa [1])(c:V)(d:Value)(e f:H)(g:Nat):R:=ifB (Nat.ble 1 g) (rc 126 [getF c 0,b.1] f λ h i=>onTup h λ j=>nthF 0 j λ l=>onTup h λ m=>nthF 1 m λ _=>aaw E rc a b d l e i)
def adv (a:(aa [1])→H→R)(b:(aa [])→H→R)(c:aa [1])(d e:Value)(f g:H):R:=@joinR [] (λ _ h=>@joinR [] (λ _ i=>uB rc a c f i) λ i=>onRow (hget h f.1) λ _ j _ _ _ l=>Vv E rc i c l d f h j) λ h=>onB e (b () g) (h () g)
def YW (a:(aa [])→H→R)(b c:Value)(d e:H):R:=@loopF [1] (λ f g h=>binR (binC E .neq 3 false true) g.1 (.int .i64 (.ofNat 0)) λ i=>adv E rc f a g c i d h) 1000000 (b,()) e
def Ki (a:L)(b c:Value)(d:H):R:=ifB (allF (λ e=>cell1F e) a) (ifB (Nat.ble d.1 1000000000) (letH (ag d (.row 129 (lenF a) false false 0 (T.ofList unk a))) λ e=>@joinR [] (λ _ f=>k (.tuple ⟨[]⟩) f) λ f=>YW E rc f b c d e))
def acN (E:Env)(rc:RC)(a0 a1 a2:Value)(h:H)(k:Value→H→R):R:=onCells a0 λ a=>Ki E rc k a a1 a2 h
theorem GQ (t:ak)(rc:RC)(a0 a1 a2:Value)(h:H)(k:Value→H→R):(ax (EX t) KK 129).run rc [a0,a1,a2] h k = acN (EX t) rc a0 a1 a2 h k:=by kernel_rfl
def UD (a b:V)(c d:Value)(e:H)(f:Nat):R:=ifB (Nat.ble 1 f) (ifB (aj (.agg ⟨ac b 1 0⟩) (.agg ⟨ac a 1 0⟩)) (ifB (aj c c) (rc 129 [.agg ⟨ac a 1 0⟩,c,d] e λ _ g=>k (.int .i64 (.ofNat 0)) g)))
def UM (a b:V)(c d:Value)(e f:H)(g:Nat):R:=ifB (Nat.ble 1 g) (rc 187 [.agg ⟨ac b 1 0⟩,c] f λ h i=>onRow (hget i e.1) λ _ j _ _ _ l=>UD rc k a l d h i j)
def TN (a b:Value)(c d:H):R:=onRow (hget d c.1) λ _ e _ _ _ f=>ifB (Nat.ble 1 e) (onRow (hget d c.1) λ _ g _ _ _ h=>UM rc k f h a b c d g)
def aj5 (a:aa [6])(b c d e:Value)(f g:H):R:=@joinR [6] (λ _ h=>ifB (Nat.ble h.1 1000000000) (letH (H.mk h.1 h.2) λ i=>TN rc k b c f i)) λ h=>onB e (h (a.1,()) g) (k d g)
def Zl (a:aa [6])(b:V)(c d:Value)(e f:H)(g:Nat):R:=ifB (Nat.ble 1 g) (rc 188 [.agg ⟨ac b 1 0⟩,d,c] f λ h i=>binR (binC E .neq 24 false true) h (.int .i64 (.ofNat 0)) λ j=>aj5 rc k a c d h j e i)
def ZG (a:aa [6])(b:V)(c d:Value)(e f:H)(g:Nat):R:=ifB (Nat.ble 1 g) (rc 396 [.agg ⟨ac b 1 0⟩,c] f λ _ h=>onRow (hget h e.1) λ _ i _ _ _ j=>Zl E rc k a j c d e h i)
def Rs (a:(aa [6])→H→R)(b:aa [6])(c:Value)(d:H):R:=onB c (@joinR [6] (λ e f=>a (e.1,()) f) λ _=>k (.int .i64 (.ofNat 5)) d) (@joinR [6] (λ e f=>a (e.1,()) f) λ e=>e (b.1,()) d)
def ajN (a:(aa [6])→H→R)(b:aa [6])(c d e:Value)(f g:H):R:=onB e (onRow (hget g f.1) λ _ h _ _ _ i=>ifB (Nat.ble 1 h) (rc 395 [.agg ⟨ac i 1 0⟩,d,c] g λ j l=>Rs k a b j l)) (k (.int .i64 (.ofNat 12)) g)
def aj6 (a:(aa [6])→H→R)(b:aa [6])(c:V)(d e:Value)(f g:H)(h:Nat):R:=ifB (Nat.ble 1 h) (rc 268 [.agg ⟨ac c 1 0⟩,e,d] g λ i j=>@joinR [6] (λ l m=>a (l.1,()) m) λ l=>ajN rc k l b d e i f j)
def V5 (a:(aa [6])→H→R)(b:aa [6])(c d e:Value)(f g:H):R:=@joinR [6] (λ h i=>a (h.1,()) i) λ h=>onB e (onRow (hget g f.1) λ _ i _ _ _ j=>aj6 rc k h b j c d f g i) (k (.int .i64 (.ofNat 8)) g)
def Hu (a:(aa [6])→H→R)(b:aa [6])(c:V)(d e:Value)(f g:H)(h:Nat):R:=ifB (Nat.ble 1 h) (rc 185 [.agg ⟨ac c 1 0⟩,d] g λ i j=>binR (binC E .eql 3 false true) i (.int .i64 (.ofNat 0)) λ l=>V5 rc k a b d e l f j)
def FT (a:aa [6])(b c:Value)(d e:H):R:=@joinR [6] (λ f g=>onRow (hget g d.1) λ _ h _ _ _ i=>ZG E rc k f i b c d g h) λ f=>onRow (hget e d.1) λ _ g _ _ _ h=>Hu E rc k f a h b c d e g
def E5 (a:(aa [6])→H→R)(b:aa [6,16])(c:Value)(d:H):R:=binR (binC E .neq 24 false true) c (.int .i64 (.ofNat 0)) λ e=>@joinR [6] (λ f g=>a (f.1,()) g) λ f=>onB e (f (b.1,()) d) (k c d)
def EF (a:(aa [6])→H→R)(b:aa [6,16])(c:L)(d:V)(e f:Bool)(g:TypeId)(h:Value)(i j:H)(l m:Nat):R:=ifB (notB f) (ifB (Nat.beq (lenF c) 12) (ifB (Nat.ble m 0) (ifB (Nat.ble 12 l) (ifB (Nat.ble l 1000000000) (ifB (allF (λ n=>cell1F n) c) (letH (hset j i.1 (.row g l e false m (putF d 0 c))) λ n=>E5 E k a b h n))))))
def Jr (a:(aa [6])→H→R)(b:aa [6,16])(c d:Value)(e:H):R:=ifB (Nat.ble e.1 1000000000) (letH (ag e (.row 148 12 false false 0 (T.ofList unk [.pointer none,.pointer none,.int .i64 (.ofNat 0),.int .i64 (.ofNat 0),.int .u64 (.ofNat 0),.pointer none,.int .i64 (.ofNat 0),.int .i64 (.ofNat 0),.int .i64 (.ofNat 0),.pointer none,.int .i64 (.ofNat 0),.int .i64 (.ofNat 0)]))) λ f=>onCells c λ g=>onRow (hget f e.1) λ h i j l m n=>EF E k a b g n j l h d e f i m)
def MU (a:(aa [6])→H→R)(b:aa [6,16])(c d:V)(e:Addr)(f:H)(g:Nat):R:=ifB (Nat.ble 1 g) (rc 126 [getF d 0,getF c e.2] f λ h i=>onTup h λ j=>nthF 0 j λ l=>onTup h λ m=>nthF 1 m λ n=>Jr E k a b l n i)
def NO (a:(aa [6])→H→R)(b:aa [6,16])(c:Addr)(d e:H):R:=onRow (hget e c.1) λ _ f _ _ _ g=>ifB (Nat.ble (Nat.succ c.2) f) (onRow (hget e d.1) λ _ h _ _ _ i=>MU E rc k a b g i c e h)
def FI (a:(aa [6,16])→H→R)(b:aa [6,16])(c d e:H):R:=@joinR [6] (λ f g=>binR (binC E .add 3 false true) b.2.1 (.int .i64 (.ofNat 1)) λ h=>a (f.1,(h,())) g) λ f=>onNat b.2.1 none λ g=>ifB (Nat.ble (Nat.succ g) 2) (addOffF (Addr.mk d.1 0 none) (Nat.mul g 1) λ h=>onPtr h λ i=>NO E rc k f b i c e)
def Jx (a:(aa [6,16])→H→R)(b:(aa [6])→H→R)(c:aa [6,16])(d:Value)(e f g:H):R:=binR (binC E .lss 3 false false) c.2.1 d λ h=>@joinR [] (λ _ i=>FI E rc k a c e f i) λ i=>onB h (b (c.1,()) g) (i () g)
def Ht (a b c:Value)(d e f:H):R:=@joinR [6] (λ g h=>FT E rc k g a b d h) λ g=>@loopF [6,16] (λ h i j=>Jx E rc k h g i c d e j) 1000000 (.int .i64 (.ofNat 0),(.int .i64 (.ofNat 0),())) f
def Cy (a:L)(b c:Value)(d e:H):R:=ifB (Nat.ble e.1 1000000000) (letH (ag e (.row 3 2 false false 0 (T.ofList unk a))) λ f=>joinL (λ g=>Ht E rc k b c g d e f) λ g=>g (.int .i64 (.ofNat 2)))
def Gy (a b:Value)(c d:H):R:=@Option.rec (List Value) (λ _=>R) none (λ e=>Cy E rc k e a b c d) (cG (λ e=>some (Nat.mul e 1,1)) (List.flatten (List.replicate 2 (cellsOfV (.int .i64 (.ofNat 0))))) [(0,a),(1,b)])
def EJ (a:L)(b c:Value)(d:H):R:=ifB (allF (λ e=>cell1F e) a) (ifB (Nat.ble d.1 1000000000) (letH (ag d (.row 129 (lenF a) false false 0 (T.ofList unk a))) λ e=>Gy E rc k b c d e))
def abb (E:Env)(rc:RC)(a0 a1 a2:Value)(h:H)(k:Value→H→R):R:=onCells a0 λ a=>EJ E rc k a a1 a2 h
theorem Mj (t:ak)(rc:RC)(a0 a1 a2:Value)(h:H)(k:Value→H→R):(ax (EX t) KK 382).run rc [a0,a1,a2] h k = abb (EX t) rc a0 a1 a2 h k:=by kernel_rfl
def g74 (E:Env)(rc:RC)(a0:Value)(h:H)(k:Value→H→R):R:=binR (binC E .add 3 true false) (.int .i64 (.ofNat 256)) a0 λ a=>rc 227 [a] h λ b c=>onTup b λ d=>nthF 0 d λ e=>onTup b λ f=>nthF 1 f λ _=>k e c
theorem aaG (t:ak)(rc:RC)(a0:Value)(h:H)(k:Value→H→R):(ax (EX t) KK 149).run rc [a0] h k = g74 (EX t) rc a0 h k:=by kernel_rfl
def aq4 (a:L)(b:V)(c d:Bool)(e:TypeId)(f g:H)(h i:Nat):R:=ifB (notB d) (ifB (Nat.beq (lenF a) 1) (ifB (Nat.ble i 0) (ifB (Nat.ble 1 h) (ifB (Nat.ble h 1000000000) (ifB (allF (λ j=>cell1F j) a) (letH (hset g f.1 (.row e h c false i (putF b 0 a))) λ j=>bindO (aU E j 129 (Addr.mk f.1 0 none)) λ l=>k l j))))))
def alw (a:V)(b c:H)(d:Nat):R:=ifB (Nat.ble 1 d) (bindO (cg E 129 [(0,.agg ⟨ac a 1 0⟩)]) λ e=>onCells e λ f=>onRow (hget c b.1) λ g h i j l m=>aq4 E k f m i j g b c h l)
def apj (a b:H):R:=ifB (Nat.ble b.1 1000000000) (letH (ag b (.row 129 1 false false 0 (T.ofList unk [.pointer none]))) λ c=>onRow (hget c a.1) λ _ d _ _ _ e=>alw E k e b c d)
def alx (a:L)(b:H):R:=ifB (allF (λ c=>cell1F c) a) (ifB (Nat.ble b.1 1000000000) (letH (ag b (.row 127 (lenF a) false false 0 (T.ofList unk a))) λ c=>apj E k b c))
def g89 (E:Env)(rc:RC)(a0:Value)(h:H)(k:Value→H→R):R:=onCells a0 λ a=>alx E k a h
theorem ah3 (t:ak)(rc:RC)(a0:Value)(h:H)(k:Value→H→R):(ax (EX t) KK 164).run rc [a0] h k = g89 (EX t) rc a0 h k:=by kernel_rfl
def amG (a:L)(b:V)(c d:Bool)(e:TypeId)(f g:H)(h i:Nat):R:=ifB (notB d) (ifB (Nat.beq (lenF a) 1) (ifB (Nat.ble i 0) (ifB (Nat.ble 1 h) (ifB (Nat.ble h 1000000000) (ifB (allF (λ j=>cell1F j) a) (letH (hset g f.1 (.row e h c false i (putF b 0 a))) λ j=>bindO (aU E j 127 (Addr.mk f.1 0 none)) λ l=>k l j))))))
def aoD (a:Value)(b c:H):R:=bindO (cg E 127 [(0,a)]) λ d=>onCells d λ e=>onRow (hget c b.1) λ f g h i j l=>amG E k e l h i f b c g j
def g90 (E:Env)(rc:RC)(a0:Value)(h:H)(k:Value→H→R):R:=ifB (Nat.ble h.1 1000000000) (letH (ag h (.row 127 1 false false 0 (T.ofList unk [.pointer none]))) λ a=>aoD E k a0 h a)
theorem afA (t:ak)(rc:RC)(a0:Value)(h:H)(k:Value→H→R):(ax (EX t) KK 165).run rc [a0] h k = g90 (EX t) rc a0 h k:=by kernel_rfl
def akE (a:V)(b:Value)(c d e:H)(f:Nat):R:=ifB (Nat.ble 12 f) (rc 253 [.agg ⟨ac a 3 9⟩,.int .i64 (.ofNat 160),.int .i64 (.ofNat 16),b] e λ _ g=>uO E k c d g)
def am4 (a:V)(b c:Value)(d e f:H)(g:Nat):R:=ifB (Nat.ble 12 g) (rc 128 [.agg ⟨ac a 12 0⟩,.int .i64 (.ofNat 0),b] f λ _ h=>onRow (hget h e.1) λ _ i _ _ _ j=>akE E rc k j c d e h i)
def amk (a b:V)(c d:Value)(e f g:H)(h:Nat):R:=ifB (Nat.ble 1 h) (rc 252 [.agg ⟨ac a 5 0⟩,getF b 0] g λ _ i=>onRow (hget i f.1) λ _ j _ _ _ l=>am4 E rc k l c d e f i j)
def ak9 (a b:Value)(c d e f:H):R:=onRow (hget f e.1) λ _ g _ _ _ h=>ifB (Nat.ble 5 g) (onRow (hget f d.1) λ _ i _ _ _ j=>amk E rc k h j a b c e f i)
def apc (a:V)(b c:Value)(d e f g:H)(h:Nat):R:=ifB (Nat.ble 12 h) (rc 105 [.agg ⟨ac a 3 9⟩,.int .i64 (.ofNat 104),.int .i64 (.ofNat 8),.int .u64 (.ofNat 1162104654)] g λ _ i=>ak9 E rc k b c d e f i)
def aog (a:V)(b c:Value)(d e f g:H)(h:Nat):R:=ifB (Nat.ble 12 h) (rc 168 [.agg ⟨ac a 3 9⟩,.int .i64 (.ofNat 0),.int .i64 (.ofNat 992),.int .u8 (.ofNat 0)] g λ _ i=>onRow (hget i f.1) λ _ j _ _ _ l=>apc E rc k l b c d e f i j)
def amz (a:L)(b:V)(c d:Bool)(e:TypeId)(f g:Value)(h i j l:H)(m n:Nat):R:=ifB (notB d) (ifB (Nat.beq (lenF a) 12) (ifB (Nat.ble n 0) (ifB (Nat.ble 12 m) (ifB (Nat.ble m 1000000000) (ifB (allF (λ o=>cell1F o) a) (letH (hset l j.1 (.row e m c false n (putF b 0 a))) λ o=>onRow (hget o j.1) λ _ p _ _ _ q=>aog E rc k q f g h i j o p))))))
def Tf (a b c:Value)(d e f:H):R:=ifB (Nat.ble f.1 1000000000) (letH (ag f (.row 148 12 false false 0 (T.ofList unk [.pointer none,.pointer none,.int .i64 (.ofNat 0),.int .i64 (.ofNat 0),.int .u64 (.ofNat 0),.pointer none,.int .i64 (.ofNat 0),.int .i64 (.ofNat 0),.int .i64 (.ofNat 0),.pointer none,.int .i64 (.ofNat 0),.int .i64 (.ofNat 0)]))) λ g=>onCells c λ h=>onRow (hget g f.1) λ i j l m n o=>amz E rc k h o l m i a b d e f g j n)
def Uq (a:V)(b c d:Value)(e f g:H)(h:Nat):R:=ifB (Nat.ble 4 h) (rc 201 [b,.agg ⟨ac a 4 0⟩] g λ i j=>onTup i λ l=>nthF 0 l λ m=>onTup i λ n=>nthF 1 n λ _=>Tf E rc k c d m e f j)
def acS (a:aa [9])(b c d e f:Value)(g h i:H):R:=@joinR [9] (λ _ j=>onRow (hget j h.1) λ _ l _ _ _ m=>Uq E rc k m b c d g h j l) λ j=>onB f (j (a.1,()) i) (onRow (hget i g.1) λ l m n o p q=>qY E k q n o l e g i m p)
def Xy (a:aa [9])(b c d e:Value)(f g h:H):R:=binR (binC E .neq 24 false true) e (.int .i64 (.ofNat 0)) λ i=>acS E rc k a b c d e i f g h
def TT (a:aa [9])(b:L)(c:V)(d e:Bool)(f:TypeId)(g h i j:Value)(l m n:H)(o p:Nat):R:=ifB (notB e) (ifB (Nat.beq (lenF b) 4) (ifB (Nat.ble p 0) (ifB (Nat.ble 4 o) (ifB (Nat.ble o 1000000000) (ifB (allF (λ q=>cell1F q) b) (letH (hset n m.1 (.row f o d false p (putF c 0 b))) λ q=>Xy E rc k a g h i j l m q))))))
def agh (a:aa [9])(b c d e f:Value)(g h:H):R:=ifB (Nat.ble h.1 1000000000) (letH (ag h (.row 199 4 false false 0 (T.ofList unk [.int .i64 (.ofNat 0),.int .i64 (.ofNat 0),.int .u64 (.ofNat 0),.int .i64 (.ofNat 0)]))) λ i=>onCells e λ j=>onRow (hget i h.1) λ l m n o p q=>TT E rc k a j q n o l b c d f g h i m p)
def RE (a b:H):R:=bindO (aU E b 148 (Addr.mk a.1 0 none)) λ c=>ifB (nT [c,.int .i64 (.ofNat 16)]) (k (.tuple ⟨[c,.int .i64 (.ofNat 16)]⟩) b)
def agt (a:V)(b c:Bool)(d:TypeId)(e f:H)(g h:Nat):R:=ifB (notB c) (ifB (Nat.beq (lenF (cellsOfV (.agg (@List.toArray Value [.pointer none,.pointer none,.int .i64 (.ofNat 0),.int .i64 (.ofNat 0),.int .u64 (.ofNat 0),.pointer none,.int .i64 (.ofNat 0),.int .i64 (.ofNat 0),.int .i64 (.ofNat 0),.pointer none,.int .i64 (.ofNat 0),.int .i64 (.ofNat 0)])))) 12) (ifB (Nat.ble h 0) (ifB (Nat.ble 12 g) (ifB (Nat.ble g 1000000000) (ifB (allF (λ i=>cell1F i) (cellsOfV (.agg (@List.toArray Value [.pointer none,.pointer none,.int .i64 (.ofNat 0),.int .i64 (.ofNat 0),.int .u64 (.ofNat 0),.pointer none,.int .i64 (.ofNat 0),.int .i64 (.ofNat 0),.int .i64 (.ofNat 0),.pointer none,.int .i64 (.ofNat 0),.int .i64 (.ofNat 0)])))) (letH (hset f e.1 (.row d g b false h (putF a 0 (cellsOfV (.agg (@List.toArray Value [.pointer none,.pointer none,.int .i64 (.ofNat 0),.int .i64 (.ofNat 0),.int .u64 (.ofNat 0),.pointer none,.int .i64 (.ofNat 0),.int .i64 (.ofNat 0),.int .i64 (.ofNat 0),.pointer none,.int .i64 (.ofNat 0),.int .i64 (.ofNat 0)])))))) λ i=>RE E k e i))))))
def Xw (a:(aa [9])→H→R)(b:Value)(c d:H):R:=@joinR [9] (λ e f=>a (e.1,()) f) λ e=>onB b (e (.int .i64 (.ofNat 0),()) d) (onRow (hget d c.1) λ f g h i j l=>agt E k l h i f c d g j)
def Ss (a b:H):R:=bindO (aU E b 148 (Addr.mk a.1 0 none)) λ c=>ifB (nT [c,.int .i64 (.ofNat 2)]) (k (.tuple ⟨[c,.int .i64 (.ofNat 2)]⟩) b)
def acR (a:V)(b c:Bool)(d:TypeId)(e f:H)(g h:Nat):R:=ifB (notB c) (ifB (Nat.beq (lenF (cellsOfV (.agg (@List.toArray Value [.pointer none,.pointer none,.int .i64 (.ofNat 0),.int .i64 (.ofNat 0),.int .u64 (.ofNat 0),.pointer none,.int .i64 (.ofNat 0),.int .i64 (.ofNat 0),.int .i64 (.ofNat 0),.pointer none,.int .i64 (.ofNat 0),.int .i64 (.ofNat 0)])))) 12) (ifB (Nat.ble h 0) (ifB (Nat.ble 12 g) (ifB (Nat.ble g 1000000000) (ifB (allF (λ i=>cell1F i) (cellsOfV (.agg (@List.toArray Value [.pointer none,.pointer none,.int .i64 (.ofNat 0),.int .i64 (.ofNat 0),.int .u64 (.ofNat 0),.pointer none,.int .i64 (.ofNat 0),.int .i64 (.ofNat 0),.int .i64 (.ofNat 0),.pointer none,.int .i64 (.ofNat 0),.int .i64 (.ofNat 0)])))) (letH (hset f e.1 (.row d g b false h (putF a 0 (cellsOfV (.agg (@List.toArray Value [.pointer none,.pointer none,.int .i64 (.ofNat 0),.int .i64 (.ofNat 0),.int .u64 (.ofNat 0),.pointer none,.int .i64 (.ofNat 0),.int .i64 (.ofNat 0),.int .i64 (.ofNat 0),.pointer none,.int .i64 (.ofNat 0),.int .i64 (.ofNat 0)])))))) λ i=>Ss E k e i))))))
def ajT (a:(aa [9])→H→R)(b c:Value)(d e:H):R:=onB c (bindO (bv E e 9 b) λ f=>binR (binC E .gtr 3 false true) f (.int .i64 (.ofNat 16)) λ g=>Xw E k a g d e) (onRow (hget e d.1) λ f g h i j l=>acR E k l h i f d e g j)
def aa7 (a:(aa [9])→H→R)(b c d:Value)(e f:H):R:=onB d (binR (binC E .eql 102 false true) b (.int .u64 (.ofNat 0)) λ g=>@joinR [9] (λ h i=>a (h.1,()) i) λ h=>ajT E k h c g e f) (onRow (hget f e.1) λ g h i j l m=>zq E k m i j g e f h l)
def Qe (a:(aa [9])→H→R)(b c d:Value)(e f:H):R:=binR (binC E .eql 125 false true) b (.pointer none) λ g=>@joinR [9] (λ h i=>a (h.1,()) i) λ h=>aa7 E k h c d g e f
def Zp (a b c d:Value)(e f:H):R:=@joinR [9] (λ g h=>rc 251 [a,b,c] h λ i j=>onTup i λ l=>nthF 0 l λ m=>onTup i λ n=>nthF 1 n λ o=>agh E rc k g a c d m o e j) λ g=>Qe E k g a c d e f
def g98 (E:Env)(rc:RC)(a0 a1 a2 a3:Value)(h:H)(k:Value→H→R):R:=ifB (Nat.ble h.1 1000000000) (letH (ag h (.row 148 12 false false 0 (T.ofList unk [.pointer none,.pointer none,.int .i64 (.ofNat 0),.int .i64 (.ofNat 0),.int .u64 (.ofNat 0),.pointer none,.int .i64 (.ofNat 0),.int .i64 (.ofNat 0),.int .i64 (.ofNat 0),.pointer none,.int .i64 (.ofNat 0),.int .i64 (.ofNat 0)]))) λ a=>Zp E rc k a0 a1 a2 a3 h a)
theorem ac4 (t:ak)(rc:RC)(a0 a1 a2 a3:Value)(h:H)(k:Value→H→R):(ax (EX t) KK 173).run rc [a0,a1,a2,a3] h k = g98 (EX t) rc a0 a1 a2 a3 h k:=by kernel_rfl
def ajB (a:V)(b:Value)(c:H)(d:Nat):R:=ifB (Nat.ble 9 d) (rc 84 [.agg ⟨ac a 9 0⟩,b,.int .i64 (.ofNat 16)] c λ e f=>onTup e λ g=>nthF 0 g λ _=>onTup e λ h=>nthF 1 h λ i=>k i f)
def ZC (a:(aa [4])→H→R)(b c:Value)(d:H):R:=onB c (binR (binC E .eql 24 false true) b (.int .i64 (.ofNat 0)) λ e=>@joinR [4] (λ f g=>a (f.1,()) g) λ f=>onB e (f (.int .i64 (.ofNat 0),()) d) (k (.int .i64 (.ofNat 9)) d)) (k b d)
def abV (a:(aa [4])→H→R)(b:Value)(c:H):R:=binR (binC E .eql 24 false true) b (.int .i64 (.ofNat 1)) λ d=>@joinR [4] (λ e f=>a (e.1,()) f) λ e=>ZC E k e b d c
def RX (a:L)(b:V)(c d:Bool)(e:TypeId)(f g:Value)(h i j:H)(l m:Nat):R:=ifB (notB d) (ifB (Nat.beq (lenF a) 3) (ifB (Nat.ble m 0) (ifB (Nat.ble 3 l) (ifB (Nat.ble l 1000000000) (ifB (allF (λ n=>cell1F n) a) (letH (hset j i.1 (.row e l c false m (putF b 0 a))) λ n=>@joinR [4] (λ _ o=>onRow (hget o h.1) λ _ p _ _ _ q=>ajB rc k q f o p) λ o=>abV E k o g n))))))
def Ti (a b c:Value)(d e:H):R:=ifB (Nat.ble e.1 1000000000) (letH (ag e (.row 159 3 false false 0 (T.ofList unk [.int .i64 (.ofNat 0),.int .i64 (.ofNat 0),.int .i64 (.ofNat 0)]))) λ f=>onCells b λ g=>onRow (hget f e.1) λ h i j l m n=>RX E rc k g n j l h a c d e f i m)
def aeF (a:V)(b:Value)(c d:H)(e:Nat):R:=ifB (Nat.ble 12 e) (rc 254 [.agg ⟨ac a 12 0⟩] d λ f g=>onTup f λ h=>nthF 0 h λ i=>onTup f λ j=>nthF 1 j λ l=>Ti E rc k b i l c g)
def aaF (a:L)(b:Value)(c:H):R:=ifB (allF (λ d=>cell1F d) a) (ifB (Nat.ble c.1 1000000000) (letH (ag c (.row 243 (lenF a) false false 0 (T.ofList unk a))) λ d=>onRow (hget d c.1) λ _ e _ _ _ f=>aeF E rc k f b c d e))
def aa3 (E:Env)(rc:RC)(a0 a1:Value)(h:H)(k:Value→H→R):R:=onCells a0 λ a=>aaF E rc k a a1 h
theorem Gk (t:ak)(rc:RC)(a0 a1:Value)(h:H)(k:Value→H→R):(ax (EX t) KK 175).run rc [a0,a1] h k = aa3 (EX t) rc a0 a1 h k:=by kernel_rfl
def Uw (a:V)(b c d:Value)(e:H):R:=rc 105 [.agg ⟨ac a 3 0⟩,c,.int .i64 (.ofNat 8),d] e λ _ f=>ifB (nT [b,.int .i64 (.ofNat 0)]) (k (.tuple ⟨[b,.int .i64 (.ofNat 0)]⟩) f)
def UA (a:V)(b c:Value)(d:H):R:=binR (binC E .add 3 false true) c (.int .i64 (.ofNat 8)) λ e=>binR (binC E .quo 92 false true) b (.int .u64 (.ofNat 256)) λ f=>Uw rc k a b e f d
def QS (a:V)(b c:Value)(d:H)(e:Nat):R:=ifB (Nat.ble 3 e) (binR (binC E .mul 3 false true) c (.int .i64 (.ofNat 16)) λ f=>UA E rc k a b f d)
def aby (a:V)(b c d:Value)(e f:H)(g:Nat):R:=ifB (Nat.ble 3 g) (rc 258 [.agg ⟨ac a 3 0⟩,d,b] f λ _ h=>onRow (hget h e.1) λ _ i _ _ _ j=>QS E rc k j c d h i)
def X3 (a b:Value)(c d:H):R:=binR (binC E .rem 102 false true) b (.int .u64 (.ofNat 256)) λ e=>joinL (λ f=>onRow (hget d c.1) λ _ g _ _ _ h=>aby E rc k h a b f c d g) λ f=>zW E f e d
def QP (a:(aa [4,5])→H→R)(b:aa [4,5])(c d:Value)(e:H):R:=onB d (a (b.1,(b.2.1,())) e) (ifB (nT [.int .u64 (.ofNat 0),c]) (k (.tuple ⟨[.int .u64 (.ofNat 0),c]⟩) e))
def afJ (a:aa [4,5])(b c d:Value)(e f:H):R:=binR (binC E .neq 24 false true) d (.int .i64 (.ofNat 0)) λ g=>@joinR [4,5] (λ _ h=>X3 E rc k b c e h) λ h=>QP k h a d g f
def agY (a:aa [4,5])(b:V)(c:Value)(d e:H)(f:Nat):R:=ifB (Nat.ble 3 f) (rc 172 [.agg ⟨ac b 3 0⟩] e λ g h=>onTup g λ i=>nthF 0 i λ j=>onTup g λ l=>nthF 1 l λ m=>afJ E rc k a c j m d h)
def aeA (a:(aa [4,5])→H→R)(b c:Value)(d:H):R:=onB c (a (.int .u64 (.ofNat 0),(.int .i64 (.ofNat 0),())) d) (ifB (nT [.int .u64 (.ofNat 0),b]) (k (.tuple ⟨[.int .u64 (.ofNat 0),b]⟩) d))
def Ns (a b c:Value)(d e:H):R:=@joinR [4,5] (λ f g=>onRow (hget g d.1) λ _ h _ _ _ i=>agY E rc k f i a d g h) λ f=>aeA k f b c e
def E0 (a:V)(b:Value)(c d:H)(e:Nat):R:=ifB (Nat.ble 3 e) (rc 257 [.agg ⟨ac a 3 0⟩,b] d λ f g=>binR (binC E .neq 24 false true) f (.int .i64 (.ofNat 0)) λ h=>Ns E rc k b f h c g)
def JL (a:L)(b:Value)(c:H):R:=ifB (allF (λ d=>cell1F d) a) (ifB (Nat.ble c.1 1000000000) (letH (ag c (.row 133 (lenF a) false false 0 (T.ofList unk a))) λ d=>onRow (hget d c.1) λ _ e _ _ _ f=>E0 E rc k f b c d e))
def YT (E:Env)(rc:RC)(a0 a1:Value)(h:H)(k:Value→H→R):R:=onCells a0 λ a=>JL E rc k a a1 h
theorem Hm (t:ak)(rc:RC)(a0 a1:Value)(h:H)(k:Value→H→R):(ax (EX t) KK 177).run rc [a0,a1] h k = YT (EX t) rc a0 a1 h k:=by kernel_rfl
def aaH (a b:V)(c:Value)(d:H)(e:Nat):R:=ifB (Nat.ble 1 e) (ifB (aj (getF b 0) (getF a 0)) (binR (binC E .add 3 false false) (getF a 0) c λ f=>k f d))
def Yo (a:V)(b:Value)(c d:H):R:=ifB (aj (.pointer (some (Addr.mk c.1 0 none))) (.pointer (some (Addr.mk c.1 0 none)))) (onRow (hget d c.1) λ _ e _ _ _ f=>aaH E k a f b d e)
def ahr (a:V)(b c:H)(d:Nat):R:=ifB (Nat.ble 1 d) (onRow (hget c b.1) λ _ e _ _ _ f=>ifB (Nat.ble 2 e) (rc 271 [getF f 1] c λ g h=>Yo E k a g b h))
def Vr (a:L)(b:H):R:=ifB (allF (λ c=>cell1F c) a) (ifB (Nat.ble b.1 1000000000) (letH (ag b (.row 199 (lenF a) false false 0 (T.ofList unk a))) λ c=>ifB (Nat.ble c.1 1000000000) (letH (H.mk c.1 c.2) λ d=>onRow (hget d b.1) λ _ e _ _ _ f=>ahr E rc k f b d e)))
def ahh (E:Env)(rc:RC)(a0:Value)(h:H)(k:Value→H→R):R:=onCells a0 λ a=>Vr E rc k a h
theorem GG (t:ak)(rc:RC)(a0:Value)(h:H)(k:Value→H→R):(ax (EX t) KK 191).run rc [a0] h k = ahh (EX t) rc a0 h k:=by kernel_rfl
def P1 (a:L)(b:V)(c d:Bool)(e:TypeId)(f g:H)(h i:Nat):R:=ifB (notB d) (ifB (Nat.beq (lenF a) 3) (ifB (Nat.ble i 0) (ifB (Nat.ble 3 h) (ifB (Nat.ble h 1000000000) (ifB (allF (λ j=>cell1F j) a) (letH (hset g f.1 (.row e h c false i (putF b 0 a))) λ j=>bindO (aU E j 383 (Addr.mk f.1 0 none)) λ l=>k l j))))))
def TH (a:V)(b c:H)(d:Nat):R:=ifB (Nat.ble 3 d) (bindO (cg E 383 [(0,.agg ⟨ac a 3 0⟩)]) λ e=>onCells e λ f=>onRow (hget c b.1) λ g h i j l m=>P1 E k f m i j g b c h l)
def aaW (a b:H):R:=ifB (Nat.ble b.1 1000000000) (letH (ag b (.row 383 3 false false 0 (T.ofList unk [.pointer none,.int .i64 (.ofNat 0),.int .i64 (.ofNat 0)]))) λ c=>onRow (hget c a.1) λ _ d _ _ _ e=>TH E k e b c d)
def ZJ (a:L)(b:H):R:=ifB (allF (λ c=>cell1F c) a) (ifB (Nat.ble b.1 1000000000) (letH (ag b (.row 131 (lenF a) false false 0 (T.ofList unk a))) λ c=>aaW E k b c))
def QQ (E:Env)(rc:RC)(a0:Value)(h:H)(k:Value→H→R):R:=onCells a0 λ a=>ZJ E k a h
theorem Kt (t:ak)(rc:RC)(a0:Value)(h:H)(k:Value→H→R):(ax (EX t) KK 345).run rc [a0] h k = QQ (EX t) rc a0 h k:=by kernel_rfl
def adI (a:(aa [4,5])→H→R)(b:aa [4,5,6])(c:Value)(d:H):R:=onB c (a (b.1,(b.2.1,())) d) (ifB (nT [b.2.2.1,.bool true]) (k (.tuple ⟨[b.2.2.1,.bool true]⟩) d))
def acv (a:(aa [4,5])→H→R)(b:aa [4,5,6])(c:Value)(d:H):R:=binR (binC E .neq 3 false true) c (.int .i64 (.ofNat 0)) λ e=>@joinR [4,5] (λ f g=>a (f.1,(f.2.1,())) g) λ f=>adI k f b e d
def ahd (a:(aa [4,5])→H→R)(b:aa [4,5,6])(c d:H):R:=onRow (hget d c.1) λ _ e _ _ _ f=>ifB (Nat.ble 3 e) (rc 261 [.agg ⟨ac f 3 0⟩,b.2.2.1] d λ g h=>acv E k a b g h)
def Rr (a:(aa [4,5,6])→H→R)(b:aa [4,5,6])(c d:H):R:=@joinR [4,5] (λ e f=>binR (binC E .add 3 false true) b.2.2.1 (.int .i64 (.ofNat 1)) λ g=>a (e.1,(e.2.1,(g,()))) f) λ e=>ahd E rc k e b c d
def af0 (a:(aa [4,5,6])→H→R)(b:(aa [4,5])→H→R)(c:aa [4,5,6])(d e:H):R:=binR (binC E .leq 3 false true) c.2.2.1 (.int .i64 (.ofNat 4)) λ f=>@joinR [] (λ _ g=>Rr E rc k a c d g) λ g=>onB f (b (c.1,(c.2.1,())) e) (g () e)
def R6 (a:Value)(b c:H):R:=@joinR [4,5] (λ _ d=>k (.tuple ⟨[.int .i64 (.ofNat 0),.bool false]⟩) d) λ d=>@loopF [4,5,6] (λ e f g=>af0 E rc k e d f b g) 1000000 (.int .i64 (.ofNat 0),(.bool false,(a,()))) c
def Sy (a:L)(b:Value)(c:H):R:=ifB (allF (λ d=>cell1F d) a) (ifB (Nat.ble c.1 1000000000) (letH (ag c (.row 190 (lenF a) false false 0 (T.ofList unk a))) λ d=>bindO (bn E d Builtin.max [.int .i64 (.ofNat 0),b] [3,3]) λ e=>R6 E rc k e c d))
def abk (E:Env)(rc:RC)(a0 a1:Value)(h:H)(k:Value→H→R):R:=onCells a0 λ a=>Sy E rc k a a1 h
theorem LZ (t:ak)(rc:RC)(a0 a1:Value)(h:H)(k:Value→H→R):(ax (EX t) KK 181).run rc [a0,a1] h k = abk (EX t) rc a0 a1 h k:=by kernel_rfl
def aay (a:(aa [])→H→R)(b c d e:Value)(f g:H):R:=onB e (onRow (hget g f.1) λ _ h _ _ _ i=>ifB (Nat.ble 1 h) (rc 269 [.agg ⟨ac i 1 0⟩,d,.int .i64 (.ofNat 4),c] g λ _ j=>a () j)) (onRow (hget g f.1) λ _ h _ _ _ i=>ifB (Nat.ble 1 h) (rc 269 [.agg ⟨ac i 1 0⟩,b,.int .i64 (.ofNat 2),c] g λ _ j=>a () j))
def Tn (a b c:Value)(d e:H):R:=binR (binC E .eql 3 false true) c (.int .i64 (.ofNat 0)) λ f=>@joinR [] (λ _ g=>k (.int .i64 (.ofNat 0)) g) λ g=>aay rc g a b c f d e
def abf (a b c:Value)(d e:H):R:=onRow (hget e d.1) λ _ f _ _ _ g=>ifB (Nat.ble 1 f) (rc 269 [.agg ⟨ac g 1 0⟩,a,.int .i64 (.ofNat 3),b] e λ _ h=>Tn E rc k a b c d h)
def adM (a:V)(b c d:Value)(e f:H)(g:Nat):R:=ifB (Nat.ble 1 g) (rc 269 [.agg ⟨ac a 1 0⟩,c,.int .i64 (.ofNat 4),.int .i64 (.ofNat 0)] f λ _ h=>abf E rc k b c d e h)
def RF (a:V)(b c d:Value)(e f:H)(g:Nat):R:=ifB (Nat.ble 1 g) (rc 269 [.agg ⟨ac a 1 0⟩,c,.int .i64 (.ofNat 5),d] f λ _ h=>onRow (hget h e.1) λ _ i _ _ _ j=>adM E rc k j b c d e h i)
def aiS (a:V)(b c d:Value)(e f:H)(g:Nat):R:=ifB (Nat.ble 1 g) (rc 269 [.agg ⟨ac a 1 0⟩,c,.int .i64 (.ofNat 1),b] f λ _ h=>onRow (hget h e.1) λ _ i _ _ _ j=>RF E rc k j b c d e h i)
def aaz (a:V)(b c:Value)(d e:H)(f:Nat):R:=ifB (Nat.ble 1 f) (rc 266 [.agg ⟨ac a 1 0⟩,b,.int .i64 (.ofNat 3)] e λ g h=>onRow (hget h d.1) λ _ i _ _ _ j=>aiS E rc k j b c g d h i)
def ah1 (a:(aa [6])→H→R)(b:aa [6])(c:V)(d e:Value)(f:H)(g:Nat):R:=ifB (Nat.ble 1 g) (rc 268 [.agg ⟨ac c 1 0⟩,d,e] f λ h i=>@joinR [6] (λ j l=>a (j.1,()) l) λ j=>onB h (j (b.1,()) i) (k (.int .i64 (.ofNat 12)) i))
def Rx (a:(aa [6])→H→R)(b:aa [6])(c d e:Value)(f g:H):R:=@joinR [6] (λ h i=>a (h.1,()) i) λ h=>onB e (onRow (hget g f.1) λ _ i _ _ _ j=>ah1 rc k h b j c d g i) (k (.int .i64 (.ofNat 9)) g)
def acO (a:(aa [6])→H→R)(b:aa [6])(c:V)(d e:Value)(f g:H)(h:Nat):R:=ifB (Nat.ble 1 h) (rc 185 [.agg ⟨ac c 1 0⟩,e] g λ i j=>binR (binC E .neq 3 false true) i (.int .i64 (.ofNat 0)) λ l=>Rx rc k a b d e l f j)
def CY (a:(aa [6])→H→R)(b:aa [6])(c d e f:Value)(g h:H):R:=@joinR [6] (λ i j=>a (i.1,()) j) λ i=>onB f (onRow (hget h g.1) λ _ j _ _ _ l=>acO E rc k i b l c d g h j) (k e h)
def Nz (a:(aa [6])→H→R)(b:aa [6])(c d e:Value)(f g:H):R:=binR (binC E .neq 24 false true) e (.int .i64 (.ofNat 0)) λ h=>CY E rc k a b c d e h f g
def F4 (a:aa [6])(b c d:Value)(e f:H):R:=@joinR [6] (λ _ g=>onRow (hget g e.1) λ _ h _ _ _ i=>aaz E rc k i b c e g h) λ g=>Nz E rc k g a b c d e f
def Ox (a:aa [6])(b c:Value)(d e:H):R:=onRow (hget e d.1) λ _ f _ _ _ g=>ifB (Nat.ble 1 f) (rc 267 [.agg ⟨ac g 1 0⟩,c] e λ h i=>F4 E rc k a b c h d i)
def Lq (a b c:Value)(d e:H):R:=binR (binC E .neq 24 false true) c (.int .i64 (.ofNat 0)) λ f=>@joinR [6] (λ g h=>Ox E rc k g a b d h) λ g=>onB f (g (.int .i64 (.ofNat 0),()) e) (k c e)
def NQ (a b:Value)(c d:H):R:=onRow (hget d c.1) λ _ e _ _ _ f=>ifB (Nat.ble 1 e) (rc 267 [.agg ⟨ac f 1 0⟩,a] d λ g h=>Lq E rc k a b g c h)
def Nh (a:L)(b c:Value)(d:H):R:=ifB (allF (λ e=>cell1F e) a) (ifB (Nat.ble d.1 1000000000) (letH (ag d (.row 127 (lenF a) false false 0 (T.ofList unk a))) λ e=>NQ E rc k b c d e))
def Qu (E:Env)(rc:RC)(a0 a1 a2:Value)(h:H)(k:Value→H→R):R:=onCells a0 λ a=>Nh E rc k a a1 a2 h
theorem Gg (t:ak)(rc:RC)(a0 a1 a2:Value)(h:H)(k:Value→H→R):(ax (EX t) KK 188).run rc [a0,a1,a2] h k = Qu (EX t) rc a0 a1 a2 h k:=by kernel_rfl
def ag1 (a b:Value)(c:H):R:=ae (λ d e=>ae (λ f g=>onB b (k (.bool false) g) (k f g)) λ f=>aB b (f undef e) (rc 270 [d] e f) (f undef e)) λ d=>aB b (d undef c) (d a c) (d undef c)
def Qb (E:Env)(rc:RC)(a0:Value)(h:H)(k:Value→H→R):R:=binR (binC E .leq 3 false true) a0 (.int .i64 (.ofNat 64)) λ a=>ag1 rc k a0 a h
theorem Lm (t:ak)(rc:RC)(a0:Value)(h:H)(k:Value→H→R):(ax (EX t) KK 190).run rc [a0] h k = Qb (EX t) rc a0 h k:=by kernel_rfl
def ab8 (a b c d:Value)(e:H):R:=ae (λ f g=>ae (λ h i=>A5 E k b c f h i) λ h=>aB b (h undef g) (h a g) (h undef g)) λ f=>aB b (f undef e) (rc 191 [d] e f) (f undef e)
def Qh (a:Value→H→R)(b:Value)(c d:H):R:=aB b (a undef d) (onRow (hget d c.1) λ _ e _ _ _ f=>ifB (Nat.ble 4 e) (a (.agg ⟨ac f 4 0⟩) d)) (a undef d)
def ado (a b c d:Value)(e f:H):R:=onB c (ae (λ _ g=>ae (λ _ h=>ae (λ _ i=>uf k i) λ i=>i undef h) λ h=>h undef g) λ g=>g undef f) (ae (λ g h=>ae (λ i j=>ab8 E rc k b d g i j) λ i=>Qh i d e h) λ g=>aB d (g undef f) (g a f) (g undef f))
def Vz (a b c d e:Value)(f g:H):R:=ae (λ h i=>ado E rc k a b c h f i) λ h=>aB c (h undef g) (binR (binC E .geq 3 false false) d e λ i=>h i g) (h undef g)
def aet (a:Value→H→R)(b c:Value)(d:H):R:=aB b (a undef d) (binR (binC E .add 3 false true) c (.int .i64 (.ofNat 32)) λ e=>a e d) (a undef d)
def Hd (a b c d:Value)(e f:H):R:=ae (λ g h=>ae (λ i j=>ae (λ l m=>Vz E rc k a b c d l e m) λ l=>aet E l c i j) λ i=>lr i c g h) λ g=>aB c (g undef f) (g (.pointer (some (Addr.mk e.1 0 none))) f) (g undef f)
def HH (a b c d:Value)(e f:H):R:=onB c (ae (λ _ g=>ae (λ _ h=>ae (λ _ i=>ae (λ _ j=>AP k j) λ j=>j undef i) λ i=>i undef h) λ h=>h undef g) λ g=>g undef f) (ae (λ g h=>Hd E rc k a b d g e h) λ g=>aB d (g undef f) (g a f) (g undef f))
def Ee (a b c d e:Value)(f g:H):R:=ae (λ h i=>HH E rc k a b c h f i) λ h=>aB c (h undef g) (binR (binC E .leq 3 false false) d e λ i=>h i g) (h undef g)
def OT (a b c d e:Value)(f g:H):R:=ae (λ h i=>ae (λ j l=>Ee E rc k a b c d j f l) λ j=>aB c (j undef i) (rc 271 [h] i j) (j undef i)) λ h=>lr h c e g
def EI (a b c:Value)(d e:H):R:=ae (λ f g=>ae (λ h i=>OT E rc k a b c f h d i) λ h=>aB c (h undef g) (h (.pointer (some (Addr.mk d.1 1 none))) g) (h undef g)) λ f=>aB c (f undef e) (f b e) (f undef e)
def N6 (a:L)(b c:Value)(d:H):R:=ifB (allF (λ e=>cell1F e) a) (ifB (Nat.ble d.1 1000000000) (letH (ag d (.row 199 (lenF a) false false 0 (T.ofList unk a))) λ e=>binR (binC E .geq 3 false true) c (.int .i64 (.ofNat 0)) λ f=>EI E rc k b c f d e))
def acV (E:Env)(rc:RC)(a0 a1 a2:Value)(h:H)(k:Value→H→R):R:=onCells a0 λ a=>N6 E rc k a a1 a2 h
theorem HI (t:ak)(rc:RC)(a0 a1 a2:Value)(h:H)(k:Value→H→R):(ax (EX t) KK 192).run rc [a0,a1,a2] h k = acV (EX t) rc a0 a1 a2 h k:=by kernel_rfl
def WF (a b:H):R:=bindO (aU E b 199 (Addr.mk a.1 0 none)) λ c=>ifB (nT [c,.bool true]) (k (.tuple ⟨[c,.bool true]⟩) b)
def QI (a b:V)(c d:Bool)(e:TypeId)(f g:H)(h i:Nat):R:=ifB (notB d) (ifB (Nat.beq (lenF (ac a 4 0)) 4) (ifB (Nat.ble i 0) (ifB (Nat.ble 4 h) (ifB (Nat.ble h 1000000000) (ifB (allF (λ j=>cell1F j) (ac a 4 0)) (letH (hset g f.1 (.row e h c false i (putF b 0 (ac a 4 0)))) λ j=>WF E k f j))))))
def V6 (a b c:H):R:=onRow (hget c b.1) λ _ d _ _ _ e=>ifB (Nat.ble 4 d) (onRow (hget c a.1) λ f g h i j l=>QI E k e l h i f a c g j)
def agl (a:L)(b:V)(c d:Bool)(e:TypeId)(f g h:H)(i j:Nat):R:=ifB (notB d) (ifB (Nat.beq (lenF a) 4) (ifB (Nat.ble j 0) (ifB (Nat.ble 4 i) (ifB (Nat.ble i 1000000000) (ifB (allF (λ l=>cell1F l) a) (letH (hset h g.1 (.row e i c false j (putF b 0 a))) λ l=>V6 E k f g l))))))
def abi (a:Value)(b c:H):R:=ifB (Nat.ble c.1 1000000000) (letH (ag c (.row 199 4 false false 0 (T.ofList unk [.int .i64 (.ofNat 0),.int .i64 (.ofNat 0),.int .u64 (.ofNat 0),.int .i64 (.ofNat 0)]))) λ d=>onCells a λ e=>onRow (hget d c.1) λ f g h i j l=>agl E k e l h i f b c d g j)
def Yq (a:V)(b:Addr)(c:Value)(d e:H)(f:Nat):R:=ifB (Nat.ble (Nat.succ b.2) f) (rc 200 [getF a b.2,c] e λ g h=>onTup g λ i=>nthF 0 i λ j=>onTup g λ l=>nthF 1 l λ _=>abi E k j d h)
def aif (a:V)(b:Addr)(c:Value)(d e:H)(f:Nat):R:=ifB (Nat.ble (Nat.succ b.2) f) (bindO (aT (getF a b.2)) λ g=>onPtr g λ _=>onPtr g λ h=>onRow (hget e h.1) λ _ i _ _ _ j=>Yq E rc k j h c d e i)
def YK (a:V)(b:Value)(c d:H)(e:Nat):R:=ifB (Nat.ble 1 e) (bindO (aT (getF a 0)) λ f=>onPtr f λ _=>onPtr f λ g=>onRow (hget d g.1) λ _ h _ _ _ i=>aif E rc k i g b c d h)
def ab9 (a b:H):R:=bindO (aU E b 199 (Addr.mk a.1 0 none)) λ c=>ifB (nT [c,.bool false]) (k (.tuple ⟨[c,.bool false]⟩) b)
def TY (a:V)(b c:Bool)(d:TypeId)(e f:H)(g h:Nat):R:=ifB (notB c) (ifB (Nat.beq (lenF (cellsOfV (.agg (@List.toArray Value [.int .i64 (.ofNat 0),.int .i64 (.ofNat 0),.int .u64 (.ofNat 0),.int .i64 (.ofNat 0)])))) 4) (ifB (Nat.ble h 0) (ifB (Nat.ble 4 g) (ifB (Nat.ble g 1000000000) (ifB (allF (λ i=>cell1F i) (cellsOfV (.agg (@List.toArray Value [.int .i64 (.ofNat 0),.int .i64 (.ofNat 0),.int .u64 (.ofNat 0),.int .i64 (.ofNat 0)])))) (letH (hset f e.1 (.row d g b false h (putF a 0 (cellsOfV (.agg (@List.toArray Value [.int .i64 (.ofNat 0),.int .i64 (.ofNat 0),.int .u64 (.ofNat 0),.int .i64 (.ofNat 0)])))))) λ i=>ab9 E k e i))))))
def LI (a b:Value)(c d e:H):R:=@joinR [3] (λ _ f=>onRow (hget f c.1) λ _ g _ _ _ h=>YK E rc k h a d f g) λ f=>onB b (f (.bool false,()) e) (onRow (hget e d.1) λ g h i j l m=>TY E k m i j g d e h l)
def Cs (a:V)(b c d:H)(e:Nat):R:=ifB (Nat.ble 5 e) (rc 272 [.agg ⟨ac a 5 0⟩] d λ f g=>binR (binC E .eql 3 false true) f (.int .i64 (.ofNat 0)) λ h=>LI E rc k f h b c g)
def Om (a b:H):R:=ifB (Nat.ble b.1 1000000000) (letH (ag b (.row 199 4 false false 0 (T.ofList unk [.int .i64 (.ofNat 0),.int .i64 (.ofNat 0),.int .u64 (.ofNat 0),.int .i64 (.ofNat 0)]))) λ c=>onRow (hget c a.1) λ _ d _ _ _ e=>Cs E rc k e a b c d)
def Kc (a:L)(b:H):R:=ifB (allF (λ c=>cell1F c) a) (ifB (Nat.ble b.1 1000000000) (letH (ag b (.row 142 (lenF a) false false 0 (T.ofList unk a))) λ c=>Om E rc k b c))
def ajZ (E:Env)(rc:RC)(a0:Value)(h:H)(k:Value→H→R):R:=onCells a0 λ a=>Kc E rc k a h
theorem Lj (t:ak)(rc:RC)(a0:Value)(h:H)(k:Value→H→R):(ax (EX t) KK 193).run rc [a0] h k = ajZ (EX t) rc a0 h k:=by kernel_rfl
def ag9 (a b:Value)(c:H):R:=binR (binC E .quo 3 false true) a (.int .i64 (.ofNat 4096)) λ d=>ifB (nT [d,b]) (k (.tuple ⟨[d,b]⟩) c)
def adg (E:Env)(rc:RC)(a0:Value)(h:H)(k:Value→H→R):R:=rc 312 [a0,.int .i64 (.ofNat 4096)] h λ a b=>onTup a λ c=>nthF 0 c λ d=>onTup a λ e=>nthF 1 e λ f=>ag9 E k d f b
theorem M9 (t:ak)(rc:RC)(a0:Value)(h:H)(k:Value→H→R):(ax (EX t) KK 227).run rc [a0] h k = adg (EX t) rc a0 h k:=by kernel_rfl
def Ws (a:L)(b:V)(c d:Bool)(e:TypeId)(f g:H)(h i:Nat):R:=ifB (notB d) (ifB (Nat.beq (lenF a) 3) (ifB (Nat.ble i 0) (ifB (Nat.ble 3 h) (ifB (Nat.ble h 1000000000) (ifB (allF (λ j=>cell1F j) a) (letH (hset g f.1 (.row e h c false i (putF b 0 a))) λ j=>bindO (aU E j 176 (Addr.mk f.1 0 none)) λ l=>k l j))))))
def TU (a:V)(b c:H)(d:Nat):R:=ifB (Nat.ble 3 d) (bindO (cg E 176 [(0,.agg ⟨ac a 3 0⟩)]) λ e=>onCells e λ f=>onRow (hget c b.1) λ g h i j l m=>Ws E k f m i j g b c h l)
def QV (a b:H):R:=ifB (Nat.ble b.1 1000000000) (letH (ag b (.row 176 3 false false 0 (T.ofList unk [.pointer none,.int .i64 (.ofNat 0),.int .i64 (.ofNat 0)]))) λ c=>onRow (hget c a.1) λ _ d _ _ _ e=>TU E k e b c d)
def U3 (a:L)(b:H):R:=ifB (allF (λ c=>cell1F c) a) (ifB (Nat.ble b.1 1000000000) (letH (ag b (.row 131 (lenF a) false false 0 (T.ofList unk a))) λ c=>QV E k b c))
def aca (E:Env)(rc:RC)(a0:Value)(h:H)(k:Value→H→R):R:=onCells a0 λ a=>U3 E k a h
theorem Dy (t:ak)(rc:RC)(a0:Value)(h:H)(k:Value→H→R):(ax (EX t) KK 231).run rc [a0] h k = aca (EX t) rc a0 h k:=by kernel_rfl
def air (a:V)(b:Addr)(c d e:H)(f:Nat):R:=ifB (Nat.ble (Nat.succ b.2) f) (onRow (hget e d.1) λ _ g _ _ _ h=>ifB (Nat.ble 4 g) (rc 262 [getF a b.2,.agg ⟨ac h 4 0⟩] e λ _ i=>pU E k c d i))
def ajS (a:V)(b:Addr)(c d e:H)(f:Nat):R:=ifB (Nat.ble (Nat.succ b.2) f) (bindO (aT (getF a b.2)) λ g=>onPtr g λ _=>onPtr g λ h=>onRow (hget e h.1) λ _ i _ _ _ j=>air E rc k j h c d e i)
def adn (a:Value)(b c d:H):R:=bindO (aT a) λ e=>onPtr e λ _=>onPtr e λ f=>onRow (hget d f.1) λ _ g _ _ _ h=>ajS E rc k h f b c d g
def abv (a:L)(b:V)(c d:Bool)(e:TypeId)(f:Value)(g h i:H)(j l:Nat):R:=ifB (notB d) (ifB (Nat.beq (lenF a) 1) (ifB (Nat.ble l 2) (ifB (Nat.ble 3 j) (ifB (Nat.ble j 1000000000) (ifB (allF (λ m=>cell1F m) a) (letH (hset i h.1 (.row e j c false l (putF b 2 a))) λ m=>ifB (Nat.ble m.1 1000000000) (letH (H.mk m.1 m.2) λ n=>adn E rc k f g h n)))))))
def Be (a:(aa [7])→H→R)(b:aa [7])(c:L)(d:V)(e f:Bool)(g:TypeId)(h i:H)(j l:Nat):R:=ifB (notB f) (ifB (Nat.beq (lenF c) 4) (ifB (Nat.ble l 0) (ifB (Nat.ble 4 j) (ifB (Nat.ble j 1000000000) (ifB (allF (λ m=>cell1F m) c) (letH (hset i h.1 (.row g j e false l (putF d 0 c))) λ m=>a (b.1,()) m))))))
def Ux (a:(aa [7])→H→R)(b:aa [7])(c d:Value)(e f:H):R:=bindO (cg E 199 [(0,d),(1,c)]) λ g=>onCells g λ h=>onRow (hget f e.1) λ i j l m n o=>Be a b h o l m i e f j n
def JF (a:(aa [7])→H→R)(b:aa [7])(c d e f:Value)(g h i:H):R:=@joinR [7] (λ j l=>Ux E a j c d h l) λ j=>onB f (j (b.1,()) i) (onRow (hget i g.1) λ l m n o p q=>xl E k q n o l e g i m p)
def Li (a:(aa [7])→H→R)(b:aa [7])(c d e:Value)(f g h:H):R:=binR (binC E .neq 24 false true) e (.int .i64 (.ofNat 0)) λ i=>JF E k a b c d e i f g h
def Fx (a:(aa [7])→H→R)(b:aa [7])(c:L)(d:Value)(e f:H):R:=nthF 1 c λ _=>onCells d λ g=>onRow (hget f e.1) λ h i j l m n=>Be a b g n j l h e f i m
def Eg (a:(aa [7])→H→R)(b:aa [7])(c:V)(d:Addr)(e:Value)(f g:H)(h:Nat):R:=ifB (Nat.ble (Nat.add (Nat.add d.2 4) 3) h) (rc 182 [.agg ⟨ac c 3 (Nat.add d.2 4)⟩,e] g λ i j=>onTup i λ l=>nthF 0 l λ m=>onTup i λ n=>Fx a b n m f j)
def J6 (a:(aa [7])→H→R)(b:aa [7])(c d e f:Value)(g h i:H):R:=onB f (rc 327 [c,d] i λ j l=>onTup j λ m=>nthF 0 m λ n=>onTup j λ o=>nthF 1 o λ p=>Li E k a b d n p g h l) (bindO (aT c) λ j=>onPtr j λ l=>onRow (hget i l.1) λ _ m _ _ _ n=>Eg rc a b n l e h i m)
def OV (a:aa [7])(b c d e f:Value)(g h i:H):R:=@joinR [7] (λ _ j=>onCells d λ l=>onRow (hget j h.1) λ m n o p q r=>abv E rc k l r o p m b g h j n q) λ j=>J6 E rc k j a b c e f g h i
def C3 (a:aa [7])(b:V)(c:Addr)(d e f:Value)(g h i:H)(j:Nat):R:=ifB (Nat.ble (Nat.add (Nat.add c.2 4) 3) j) (rc 181 [.agg ⟨ac b 3 (Nat.add c.2 4)⟩,e] i λ l m=>onTup l λ n=>nthF 0 n λ o=>onTup l λ p=>nthF 1 p λ q=>OV E rc k a d e f o q g h m)
def Og (a:aa [7])(b c d:Value)(e f g:H):R:=bindO (aT b) λ h=>onPtr h λ i=>onRow (hget g i.1) λ _ j _ _ _ l=>C3 E rc k a l i b c d e f g j
def EQ (a:aa [7])(b c d:Value)(e f:H):R:=ifB (Nat.ble f.1 1000000000) (letH (ag f (.row 199 4 false false 0 (T.ofList unk [.int .i64 (.ofNat 0),.int .i64 (.ofNat 0),.int .u64 (.ofNat 0),.int .i64 (.ofNat 0)]))) λ g=>Og E rc k a b c d e f g)
def DO (a b:H):R:=bindO (aU E b 199 (Addr.mk a.1 0 none)) λ c=>ifB (nT [c,.int .i64 (.ofNat 2)]) (k (.tuple ⟨[c,.int .i64 (.ofNat 2)]⟩) b)
def oS (a:V)(b c:Bool)(d:TypeId)(e f:H)(g h:Nat):R:=ifB (notB c) (ifB (Nat.beq (lenF (cellsOfV (.agg (@List.toArray Value [.int .i64 (.ofNat 0),.int .i64 (.ofNat 0),.int .u64 (.ofNat 0),.int .i64 (.ofNat 0)])))) 4) (ifB (Nat.ble h 0) (ifB (Nat.ble 4 g) (ifB (Nat.ble g 1000000000) (ifB (allF (λ i=>cell1F i) (cellsOfV (.agg (@List.toArray Value [.int .i64 (.ofNat 0),.int .i64 (.ofNat 0),.int .u64 (.ofNat 0),.int .i64 (.ofNat 0)])))) (letH (hset f e.1 (.row d g b false h (putF a 0 (cellsOfV (.agg (@List.toArray Value [.int .i64 (.ofNat 0),.int .i64 (.ofNat 0),.int .u64 (.ofNat 0),.int .i64 (.ofNat 0)])))))) λ i=>DO E k e i))))))
def IJ (a:(aa [7])→H→R)(b c:Value)(d e:H):R:=onB b (@joinR [7] (λ f g=>a (f.1,()) g) λ f=>onB c (f (.int .i64 (.ofNat 0),()) e) (onRow (hget e d.1) λ g h i j l m=>oS E k m i j g d e h l)) (@joinR [7] (λ f g=>a (f.1,()) g) λ _=>onRow (hget e d.1) λ f g h i j l=>oS E k l h i f d e g j)
def OW (a:(aa [7])→H→R)(b c:H):R:=@joinR [7] (λ d e=>a (d.1,()) e) λ _=>onRow (hget c b.1) λ d e f g h i=>oS E k i f g d b c e h
def Fc (a:(aa [7])→H→R)(b c d:Value)(e f:H):R:=onB c (ae (λ g h=>ae (λ i j=>IJ E k a d i e j) λ i=>kK E i d g h) λ g=>aB d (g b f) (g undef f) (g undef f)) (ae (λ _ g=>ae (λ _ h=>OW E k a e h) λ h=>h undef g) λ g=>g undef f)
def L8 (a:(aa [7])→H→R)(b c d:Value)(e f:H):R:=ae (λ g h=>ae (λ i j=>Fc E k a c d i e j) λ i=>mS E i d g h) λ g=>aB d (g b f) (g undef f) (g undef f)
def Fa (a b:H):R:=bindO (aU E b 199 (Addr.mk a.1 0 none)) λ c=>ifB (nT [c,.int .i64 (.ofNat 1)]) (k (.tuple ⟨[c,.int .i64 (.ofNat 1)]⟩) b)
def E9 (a:V)(b c:Bool)(d:TypeId)(e f:H)(g h:Nat):R:=ifB (notB c) (ifB (Nat.beq (lenF (cellsOfV (.agg (@List.toArray Value [.int .i64 (.ofNat 0),.int .i64 (.ofNat 0),.int .u64 (.ofNat 0),.int .i64 (.ofNat 0)])))) 4) (ifB (Nat.ble h 0) (ifB (Nat.ble 4 g) (ifB (Nat.ble g 1000000000) (ifB (allF (λ i=>cell1F i) (cellsOfV (.agg (@List.toArray Value [.int .i64 (.ofNat 0),.int .i64 (.ofNat 0),.int .u64 (.ofNat 0),.int .i64 (.ofNat 0)])))) (letH (hset f e.1 (.row d g b false h (putF a 0 (cellsOfV (.agg (@List.toArray Value [.int .i64 (.ofNat 0),.int .i64 (.ofNat 0),.int .u64 (.ofNat 0),.int .i64 (.ofNat 0)])))))) λ i=>Fa E k e i))))))
def LQ (a:(aa [7])→H→R)(b c d:Value)(e f:H):R:=onB d (binR (binC E .lss 3 false true) b (.int .i64 (.ofNat 0)) λ g=>L8 E k a b c g e f) (onRow (hget f e.1) λ g h i j l m=>E9 E k m i j g e f h l)
def Fg (a:(aa [7])→H→R)(b c d:Value)(e f:H):R:=binR (binC E .eql 125 false true) b (.pointer none) λ g=>@joinR [7] (λ h i=>a (h.1,()) i) λ h=>LQ E k h c d g e f
def Sj (E:Env)(rc:RC)(a0 a1 a2:Value)(h:H)(k:Value→H→R):R:=ifB (Nat.ble h.1 1000000000) (letH (ag h (.row 199 4 false false 0 (T.ofList unk [.int .i64 (.ofNat 0),.int .i64 (.ofNat 0),.int .u64 (.ofNat 0),.int .i64 (.ofNat 0)]))) λ a=>@joinR [7] (λ b c=>EQ E rc k b a0 a1 a2 h c) λ b=>Fg E k b a0 a1 a2 h a)
theorem Dd (t:ak)(rc:RC)(a0 a1 a2:Value)(h:H)(k:Value→H→R):(ax (EX t) KK 251).run rc [a0,a1,a2] h k = Sj (EX t) rc a0 a1 a2 h k:=by kernel_rfl
def TS (a:V)(b c:H)(d:Nat):R:=ifB (Nat.ble 5 d) (onRow (hget c b.1) λ _ e _ _ _ f=>ifB (Nat.ble 4 e) (rc 330 [.agg ⟨ac a 5 0⟩,.agg ⟨ac f 4 0⟩] c λ _ g=>k (.int .i64 (.ofNat 0)) g))
def acb (a:(aa [4])→H→R)(b:aa [4])(c:Value)(d e:H):R:=ifB (fx (allF (λ f=>eG f) []) (allF (λ f=>eG f) [.pointer (some (Addr.mk d.1 0 none))])) (rc 328 [c,.func (.func 329) ⟨[]⟩ ⟨[.pointer (some (Addr.mk d.1 0 none))]⟩] e λ f g=>@joinR [4] (λ h i=>a (h.1,()) i) λ h=>onB f (h (b.1,()) g) (k (.int .i64 (.ofNat 9)) g))
def agZ (a:(aa [4])→H→R)(b:aa [4])(c:Value)(d e f:H):R:=onB c (onRow (hget f d.1) λ _ g _ _ _ h=>ifB (Nat.ble 5 g) (rc 208 [.agg ⟨ac h 5 0⟩] f λ i j=>acb rc k a b i e j)) (k (.int .i64 (.ofNat 11)) f)
def Se (a:(aa [4])→H→R)(b:aa [4])(c d:V)(e f g:H)(h:Nat):R:=ifB (Nat.ble 5 h) (binR (binC E .neq 92 false false) (getF c 2) (getF d 4) λ i=>@joinR [4] (λ j l=>a (j.1,()) l) λ j=>agZ rc k j b i e f g)
def ahG (a:(aa [4])→H→R)(b:aa [4])(c d:Value)(e f g h:H):R:=onB d (onRow (hget h g.1) λ _ i _ _ _ j=>ifB (Nat.ble 3 i) (onRow (hget h e.1) λ _ l _ _ _ m=>Se E rc k a b j m e f h l)) (k c h)
def Uf (a:(aa [4])→H→R)(b:aa [4])(c:Value)(d e f g:H):R:=binR (binC E .neq 24 false true) c (.int .i64 (.ofNat 0)) λ h=>@joinR [4] (λ i j=>a (i.1,()) j) λ i=>ahG E rc k i b c h d e f g
def Qr (a:aa [4])(b c:Value)(d e f g:H):R:=ifB (aj c b) (@joinR [4] (λ _ h=>onRow (hget h d.1) λ _ i _ _ _ j=>TS rc k j f h i) λ h=>Uf E rc k h a b d e f g)
def ahN (a:aa [4])(b:L)(c:V)(d e:Bool)(f:TypeId)(g h:Value)(i j l m:H)(n o:Nat):R:=ifB (notB e) (ifB (Nat.beq (lenF b) 4) (ifB (Nat.ble o 0) (ifB (Nat.ble 4 n) (ifB (Nat.ble n 1000000000) (ifB (allF (λ p=>cell1F p) b) (letH (hset m l.1 (.row f n d false o (putF c 0 b))) λ p=>onTup g λ q=>nthF 1 q λ r=>Qr E rc k a h r i j l p))))))
def R1 (a:aa [4])(b:L)(c d:Value)(e f g h:H):R:=nthF 1 b λ i=>onCells d λ j=>onRow (hget h g.1) λ l m n o p q=>ahN E rc k a j q n o l c i e f g h m p
def Xe (a:aa [4])(b c:V)(d:Addr)(e f g h:H):R:=rc 200 [getF b d.2,getF c 0] h λ i j=>onTup i λ l=>nthF 0 l λ m=>onTup i λ n=>R1 E rc k a n i m e f g j
def HK (a:aa [4])(b c:V)(d:Addr)(e f g h:H)(i:Nat):R:=ifB (Nat.ble 1 i) (letH (hset h g.1 (.row 199 4 false false 0 (T.ofList unk [.int .i64 (.ofNat 0),.int .i64 (.ofNat 0),.int .u64 (.ofNat 0),.int .i64 (.ofNat 0)]))) λ j=>Xe E rc k a b c d e f g j)
def Ks (a:aa [4])(b:Addr)(c d e f:H):R:=onRow (hget f b.1) λ _ g _ _ _ h=>ifB (Nat.ble (Nat.succ b.2) g) (onRow (hget f d.1) λ _ i _ _ _ j=>HK E rc k a h j b c d e f i)
def Is (a:aa [4])(b:Addr)(c d e f:H):R:=onRow (hget f b.1) λ _ g _ _ _ h=>ifB (Nat.ble (Nat.succ b.2) g) (bindO (aT (getF h b.2)) λ i=>onPtr i λ _=>onPtr i λ j=>Ks E rc k a j c d e f)
def Mk (a:aa [4])(b c d e:H):R:=onRow (hget e b.1) λ _ f _ _ _ g=>ifB (Nat.ble 1 f) (bindO (aT (getF g 0)) λ h=>onPtr h λ _=>onPtr h λ i=>Is E rc k a i b c d e)
def OP (a:Value)(b c d:H):R:=@joinR [4] (λ e f=>ifB (Nat.ble f.1 1000000000) (letH (H.mk (Nat.add f.1 1) f.2) λ g=>Mk E rc k e b c f g)) λ e=>onB a (e (.int .i64 (.ofNat 0),()) d) (k (.int .i64 (.ofNat 1)) d)
def Cj (a:V)(b c d:H)(e:Nat):R:=ifB (Nat.ble 1 e) (binR (binC E .eql 125 false true) (getF a 0) (.pointer none) λ f=>OP E rc k f b c d)
def ER (a:L)(b c:H):R:=ifB (allF (λ d=>cell1F d) a) (ifB (Nat.ble c.1 1000000000) (letH (ag c (.row 3 (lenF a) false false 0 (T.ofList unk a))) λ d=>onRow (hget d b.1) λ _ e _ _ _ f=>Cj E rc k f b c d e))
def HX (a:L)(b:Value)(c:H):R:=ifB (allF (λ d=>cell1F d) a) (ifB (Nat.ble c.1 1000000000) (letH (ag c (.row 142 (lenF a) false false 0 (T.ofList unk a))) λ d=>onCells b λ e=>ER E rc k e c d))
def acd (E:Env)(rc:RC)(a0 a1:Value)(h:H)(k:Value→H→R):R:=onCells a0 λ a=>HX E rc k a a1 h
theorem Jn (t:ak)(rc:RC)(a0 a1:Value)(h:H)(k:Value→H→R):(ax (EX t) KK 252).run rc [a0,a1] h k = acd (EX t) rc a0 a1 h k:=by kernel_rfl
def WS (a:V)(b c d:Value)(e:H):R:=binR (binC E .add 9 false false) d c λ f=>rc 242 [.agg ⟨ac a 3 0⟩,b,f] e λ g h=>k g h
def aiC (a:L)(b:V)(c d:Value)(e:H):R:=ifB (Nat.ble e.1 1000000000) (letH (ag e (.row 5 1 false false 0 (T.ofList unk a))) λ f=>bindO (aQ E f 57 9 (.slice (some (Addr.mk e.1 0 none)) 1 2)) λ g=>WS E rc k b c d g f)
def ajO (a:V)(b c d:Value)(e:H):R:=@Option.rec (List Value) (λ _=>R) none (λ f=>aiC E rc k f a b c e) (cG (λ f=>some (Nat.mul f 1,1)) (List.flatten (List.replicate 1 (cellsOfV (.int .u8 (.ofNat 0))))) [(0,d)])
def Z4 (a:V)(b c d:Value)(e:H):R:=joinL (λ f=>ajO E rc k a b c f e) λ f=>onNat d (bindO (aQ E e 3 5 d) f) λ g=>@Bool.rec (λ _=>R) (bindO (aQ E e 3 5 d) f) (f (.int .u8 (.ofNat g))) (Nat.ble g 255)
def agk (a:aa [8])(b c d e:Value)(f g:H):R:=@joinR [8] (λ _ h=>onRow (hget h f.1) λ _ i _ _ _ j=>ifB (Nat.ble 3 i) (bindO (bv E h 9 c) λ l=>Z4 E rc k j b c l h)) λ h=>onB e (h (a.1,()) g) (k d g)
def Xz (a:aa [8])(b:V)(c d e:Value)(f g:H)(h:Nat):R:=ifB (Nat.ble 3 h) (rc 308 [.agg ⟨ac b 3 0⟩,c,d] g λ i j=>binR (binC E .neq 24 false true) i (.int .i64 (.ofNat 0)) λ l=>agk E rc k a c e i l f j)
def aa8 (a:(aa [8])→H→R)(b c:Value)(d:H):R:=binR (binC E .gtr 3 false false) c b λ e=>@joinR [8] (λ f g=>a (f.1,()) g) λ f=>onB e (f (.int .i64 (.ofNat 0),()) d) (k (.int .i64 (.ofNat 16)) d)
def agT (a:(aa [8])→H→R)(b c d:Value)(e:H):R:=onB d (@joinR [8] (λ f g=>a (f.1,()) g) λ _=>k (.int .i64 (.ofNat 2)) e) (@joinR [8] (λ f g=>a (f.1,()) g) λ f=>bindO (bv E e 9 c) λ g=>aa8 E k f b g e)
def UU (a b c:Value)(d e:H):R:=@joinR [8] (λ f g=>onRow (hget g d.1) λ _ h _ _ _ i=>Xz E rc k f i a b c d g h) λ f=>rc 307 [b] e λ g h=>agT E k f b c g h
def abp (a:L)(b c d:Value)(e:H):R:=ifB (allF (λ f=>cell1F f) a) (ifB (Nat.ble e.1 1000000000) (letH (ag e (.row 131 (lenF a) false false 0 (T.ofList unk a))) λ f=>UU E rc k b c d e f))
def aji (E:Env)(rc:RC)(a0 a1 a2 a3:Value)(h:H)(k:Value→H→R):R:=onCells a0 λ a=>abp E rc k a a1 a2 a3 h
theorem JR (t:ak)(rc:RC)(a0 a1 a2 a3:Value)(h:H)(k:Value→H→R):(ax (EX t) KK 253).run rc [a0,a1,a2,a3] h k = aji (EX t) rc a0 a1 a2 a3 h k:=by kernel_rfl
def ajm (a:(aa [4])→H→R)(b c:Value)(d:H):R:=onB c (binR (binC E .lss 3 false true) b (.int .i64 (.ofNat 1)) λ e=>@joinR [4] (λ f g=>a (f.1,()) g) λ f=>onB e (f (.int .i64 (.ofNat 0),()) d) (k (.int .i64 (.ofNat 2)) d)) (k (.int .i64 (.ofNat 1)) d)
def aec (a:(aa [4])→H→R)(b:V)(c:Value)(d:H)(e:Nat):R:=ifB (Nat.ble 1 e) (binR (binC E .eql 123 false true) (getF b 0) (.pointer none) λ f=>@joinR [4] (λ g h=>a (g.1,()) h) λ g=>ajm E k g c f d)
def VA (a:Value)(b c:H):R:=@joinR [4] (λ _ d=>k (.int .i64 (.ofNat 0)) d) λ d=>onRow (hget c b.1) λ _ e _ _ _ f=>aec E k d f a c e
def afd (a:L)(b:Value)(c:H):R:=ifB (allF (λ d=>cell1F d) a) (ifB (Nat.ble c.1 1000000000) (letH (ag c (.row 133 (lenF a) false false 0 (T.ofList unk a))) λ d=>VA E k b c d))
def ac7 (E:Env)(rc:RC)(a0 a1:Value)(h:H)(k:Value→H→R):R:=onCells a0 λ a=>afd E k a a1 h
theorem Cl (t:ak)(rc:RC)(a0 a1:Value)(h:H)(k:Value→H→R):(ax (EX t) KK 257).run rc [a0,a1] h k = ac7 (EX t) rc a0 a1 h k:=by kernel_rfl
def ad3 (a:V)(b c:Value)(d:H):R:=joinL (λ e=>rc 105 [.agg ⟨ac a 3 0⟩,c,.int .i64 (.ofNat 8),e] d λ _ f=>k (.tuple ⟨[]⟩) f) λ e=>js E e b d
def Y1 (a:V)(b c:Value)(d:H)(e:Nat):R:=ifB (Nat.ble 3 e) (binR (binC E .mul 3 false true) b (.int .i64 (.ofNat 16)) λ f=>ad3 E rc k a c f d)
def acW (a:L)(b c:Value)(d:H):R:=ifB (allF (λ e=>cell1F e) a) (ifB (Nat.ble d.1 1000000000) (letH (ag d (.row 133 (lenF a) false false 0 (T.ofList unk a))) λ e=>onRow (hget e d.1) λ _ f _ _ _ g=>Y1 E rc k g b c e f))
def X0 (E:Env)(rc:RC)(a0 a1 a2:Value)(h:H)(k:Value→H→R):R:=onCells a0 λ a=>acW E rc k a a1 a2 h
theorem FL (t:ak)(rc:RC)(a0 a1 a2:Value)(h:H)(k:Value→H→R):(ax (EX t) KK 258).run rc [a0,a1,a2] h k = X0 (EX t) rc a0 a1 a2 h k:=by kernel_rfl
def abo (a b:H):R:=bindO (aU E b 159 (Addr.mk a.1 0 none)) λ c=>ifB (nT [c,.bool true]) (k (.tuple ⟨[c,.bool true]⟩) b)
def abH (a b:V)(c d:Bool)(e:TypeId)(f g:H)(h i:Nat):R:=ifB (notB d) (ifB (Nat.beq (lenF (ac a 3 0)) 3) (ifB (Nat.ble i 0) (ifB (Nat.ble 3 h) (ifB (Nat.ble h 1000000000) (ifB (allF (λ j=>cell1F j) (ac a 3 0)) (letH (hset g f.1 (.row e h c false i (putF b 0 (ac a 3 0)))) λ j=>abo E k f j))))))
def agr (a b c:H):R:=onRow (hget c b.1) λ _ d _ _ _ e=>ifB (Nat.ble 3 d) (onRow (hget c a.1) λ f g h i j l=>abH E k e l h i f a c g j)
def abW (a:L)(b:V)(c d:Bool)(e:TypeId)(f g h:H)(i j:Nat):R:=ifB (notB d) (ifB (Nat.beq (lenF a) 3) (ifB (Nat.ble j 0) (ifB (Nat.ble 3 i) (ifB (Nat.ble i 1000000000) (ifB (allF (λ l=>cell1F l) a) (letH (hset h g.1 (.row e i c false j (putF b 0 a))) λ l=>agr E k f g l))))))
def Yb (a:Value)(b c:H):R:=ifB (Nat.ble c.1 1000000000) (letH (ag c (.row 159 3 false false 0 (T.ofList unk [.int .i64 (.ofNat 0),.int .i64 (.ofNat 0),.int .i64 (.ofNat 0)]))) λ d=>onCells a λ e=>onRow (hget d c.1) λ f g h i j l=>abW E k e l h i f b c d g j)
def Wk (a:V)(b:Addr)(c:Value)(d e:H)(f:Nat):R:=ifB (Nat.ble (Nat.succ b.2) f) (rc 125 [getF a b.2,c] e λ g h=>onTup g λ i=>nthF 0 i λ j=>onTup g λ l=>nthF 1 l λ _=>Yb E k j d h)
def Xn (a:V)(b:Addr)(c:Value)(d e:H)(f:Nat):R:=ifB (Nat.ble (Nat.succ b.2) f) (bindO (aT (getF a b.2)) λ g=>onPtr g λ _=>onPtr g λ h=>onRow (hget e h.1) λ _ i _ _ _ j=>Wk E rc k j h c d e i)
def XD (a:V)(b:Value)(c d:H)(e:Nat):R:=ifB (Nat.ble 1 e) (bindO (aT (getF a 0)) λ f=>onPtr f λ _=>onPtr f λ g=>onRow (hget d g.1) λ _ h _ _ _ i=>Xn E rc k i g b c d h)
def Uh (a b:H):R:=bindO (aU E b 159 (Addr.mk a.1 0 none)) λ c=>ifB (nT [c,.bool false]) (k (.tuple ⟨[c,.bool false]⟩) b)
def Qs (a:V)(b c:Bool)(d:TypeId)(e f:H)(g h:Nat):R:=ifB (notB c) (ifB (Nat.beq (lenF (cellsOfV (.agg (@List.toArray Value [.int .i64 (.ofNat 0),.int .i64 (.ofNat 0),.int .i64 (.ofNat 0)])))) 3) (ifB (Nat.ble h 0) (ifB (Nat.ble 3 g) (ifB (Nat.ble g 1000000000) (ifB (allF (λ i=>cell1F i) (cellsOfV (.agg (@List.toArray Value [.int .i64 (.ofNat 0),.int .i64 (.ofNat 0),.int .i64 (.ofNat 0)])))) (letH (hset f e.1 (.row d g b false h (putF a 0 (cellsOfV (.agg (@List.toArray Value [.int .i64 (.ofNat 0),.int .i64 (.ofNat 0),.int .i64 (.ofNat 0)])))))) λ i=>Uh E k e i))))))
def IA (a b:Value)(c d e:H):R:=@joinR [3] (λ _ f=>onRow (hget f c.1) λ _ g _ _ _ h=>XD E rc k h a d f g) λ f=>onB b (f (.bool false,()) e) (onRow (hget e d.1) λ g h i j l m=>Qs E k m i j g d e h l)
def Mb (a:V)(b c d:H)(e:Nat):R:=ifB (Nat.ble 9 e) (rc 122 [.agg ⟨ac a 9 0⟩] d λ f g=>binR (binC E .eql 3 false true) f (.int .i64 (.ofNat 0)) λ h=>IA E rc k f h b c g)
def LU (a b:H):R:=ifB (Nat.ble b.1 1000000000) (letH (ag b (.row 159 3 false false 0 (T.ofList unk [.int .i64 (.ofNat 0),.int .i64 (.ofNat 0),.int .i64 (.ofNat 0)]))) λ c=>onRow (hget c a.1) λ _ d _ _ _ e=>Mb E rc k e a b c d)
def OD (a:L)(b:H):R:=ifB (allF (λ c=>cell1F c) a) (ifB (Nat.ble b.1 1000000000) (letH (ag b (.row 144 (lenF a) false false 0 (T.ofList unk a))) λ c=>LU E rc k b c))
def QK (E:Env)(rc:RC)(a0:Value)(h:H)(k:Value→H→R):R:=onCells a0 λ a=>OD E rc k a h
theorem Db (t:ak)(rc:RC)(a0:Value)(h:H)(k:Value→H→R):(ax (EX t) KK 273).run rc [a0] h k = QK (EX t) rc a0 h k:=by kernel_rfl
def agi (a:H):R:=ae (λ _ b=>ae (λ _ c=>ae (λ _ d=>ae (λ _ e=>k (.bool false) e) λ e=>e undef d) λ d=>d undef c) λ c=>c undef b) λ b=>b undef a
def QT (a b c:Value)(d:H):R:=ae (λ e f=>ae (λ g h=>onB a (k (.bool false) h) (k g h)) λ g=>BM E g a e f) λ e=>aB a (e undef d) (binR (binC E .and 3 false false) b c λ f=>e f d) (e undef d)
def WG (a:Value→H→R)(b c:Value)(d:H):R:=aB b (a undef d) (binR (binC E .sub 3 false true) c (.int .i64 (.ofNat 1)) λ e=>a e d) (a undef d)
def R4 (a b c:Value)(d:H):R:=onB b (ae (λ _ e=>agi k e) λ e=>e undef d) (ae (λ e f=>ae (λ g h=>ae (λ i j=>QT E k c e i j) λ i=>WG E i c g h) λ g=>aB c (g undef f) (g a f) (g undef f)) λ e=>aB c (e undef d) (e a d) (e undef d))
def ab6 (a:Value→H→R)(b c:Value)(d:H):R:=aB b (a undef d) (binR (binC E .leq 3 false true) c (.int .i64 (.ofNat 4096)) λ e=>a e d) (a undef d)
def ae2 (E:Env)(rc:RC)(a0:Value)(h:H)(k:Value→H→R):R:=binR (binC E .geq 3 false true) a0 (.int .i64 (.ofNat 1)) λ a=>ae (λ b c=>ae (λ d e=>R4 E k a0 a d e) λ d=>ab6 E d a b c) λ b=>aB a (b undef h) (b a0 h) (b undef h)
theorem Ef (t:ak)(rc:RC)(a0:Value)(h:H)(k:Value→H→R):(ax (EX t) KK 270).run rc [a0] h k = ae2 (EX t) rc a0 h k:=by kernel_rfl
def ag4 (a:Value→H→R)(b c:Value)(d:H):R:=aB b (a undef d) (binR (binC E .leq 3 false true) c (.int .i64 (.ofNat 255)) λ e=>a e d) (a undef d)
def agO (a b:Value)(c:H):R:=ae (λ d e=>ae (λ f g=>onB b (k (.bool false) g) (k f g)) λ f=>ag4 E f b d e) λ d=>aB b (d undef c) (d a c) (d undef c)
def agc (E:Env)(rc:RC)(a0:Value)(h:H)(k:Value→H→R):R:=binR (binC E .geq 3 false true) a0 (.int .i64 (.ofNat 0)) λ a=>agO E k a0 a h
theorem OQ (t:ak)(rc:RC)(a0:Value)(h:H)(k:Value→H→R):(ax (EX t) KK 307).run rc [a0] h k = agc (EX t) rc a0 h k:=by kernel_rfl
def aa0 (a:V)(b c:Value)(d:H):R:=rc 277 [.agg ⟨ac a 3 0⟩,b,c] d λ e f=>onTup e λ g=>nthF 0 g λ _=>onTup e λ h=>nthF 1 h λ i=>k i f
def TZ (a:V)(b c:Value)(d:H)(e:Nat):R:=ifB (Nat.ble 3 e) (binR (binC E .add 3 false true) c (.int .i64 (.ofNat 1)) λ f=>aa0 rc k a b f d)
def ZL (a:L)(b c:Value)(d:H):R:=ifB (allF (λ e=>cell1F e) a) (ifB (Nat.ble d.1 1000000000) (letH (ag d (.row 131 (lenF a) false false 0 (T.ofList unk a))) λ e=>onRow (hget e d.1) λ _ f _ _ _ g=>TZ E rc k g b c e f))
def S6 (E:Env)(rc:RC)(a0 a1 a2:Value)(h:H)(k:Value→H→R):R:=onCells a0 λ a=>ZL E rc k a a1 a2 h
theorem Hf (t:ak)(rc:RC)(a0 a1 a2:Value)(h:H)(k:Value→H→R):(ax (EX t) KK 308).run rc [a0,a1,a2] h k = S6 (EX t) rc a0 a1 a2 h k:=by kernel_rfl
def acP (a b:Value)(c:H):R:=binR (binC E .andNot 3 false false) a b λ d=>ifB (nT [d,.bool true]) (k (.tuple ⟨[d,.bool true]⟩) c)
def zE (a b:Value)(c:H):R:=binR (binC E .sub 3 false true) b (.int .i64 (.ofNat 1)) λ d=>binR (binC E .sub 3 false true) a (.int .i64 (.ofNat 1)) λ e=>acP E k d e c
def W7 (a b:Value)(c:H):R:=@joinR [4,5] (λ _ d=>binR (binC E .add 3 false false) a b λ e=>zE E k b e d) λ _=>k (.tuple ⟨[.int .i64 (.ofNat 0),.bool false]⟩) c
def XB (a b c:Value)(d:H):R:=@joinR [4,5] (λ _ e=>binR (binC E .add 3 false false) a b λ f=>zE E k b f e) λ e=>onB c (e (.int .i64 (.ofNat 0),(.bool false,())) d) (k (.tuple ⟨[.int .i64 (.ofNat 0),.bool false]⟩) d)
def V7 (a b c:Value)(d:H):R:=onB c (ae (λ _ e=>ae (λ _ f=>ae (λ _ g=>W7 E k a b g) λ g=>g undef f) λ f=>f undef e) λ e=>e undef d) (ae (λ e f=>ae (λ g h=>ae (λ i j=>XB E k a b i j) λ i=>onB g (i (.bool true) h) (i (.bool false) h)) λ g=>rc 270 [e] f g) λ e=>e b d)
def R9 (E:Env)(rc:RC)(a0 a1:Value)(h:H)(k:Value→H→R):R:=rc 354 [a0] h λ a b=>V7 E rc k a0 a1 a b
theorem Ir (t:ak)(rc:RC)(a0 a1:Value)(h:H)(k:Value→H→R):(ax (EX t) KK 312).run rc [a0,a1] h k = R9 (EX t) rc a0 a1 h k:=by kernel_rfl
def V8 (a:Addr)(b:Value)(c:H):R:=onRow (hget c a.1) λ _ d _ _ _ e=>ifB (Nat.ble (Nat.succ a.2) d) (rc 101 [getF e a.2,b] c λ f g=>tp k f g)
def Q2 (a:(aa [4,5])→H→R)(b c d:Value)(e:H):R:=onB d (a (.int .i64 (.ofNat 0),(.int .i64 (.ofNat 0),())) e) (bindO (aT b) λ f=>onPtr f λ _=>onPtr f λ g=>V8 rc k g c e)
def ah5 (a b c d e f:Value)(g:H):R:=onB e (@joinR [4,5] (λ _ h=>ifB (nT [c,d]) (k (.tuple ⟨[c,d]⟩) h)) λ h=>h (.int .i64 (.ofNat 0),(.int .i64 (.ofNat 0),())) g) (@joinR [4,5] (λ _ h=>ifB (nT [c,d]) (k (.tuple ⟨[c,d]⟩) h)) λ h=>Q2 rc k h a b f g)
def Qa (a:Value→H→R)(b c:Value)(d:H):R:=aB b (a undef d) (binR (binC E .gtr 3 false true) c (.int .i64 (.ofNat 0)) λ e=>a e d) (a undef d)
def Vm (a b c d e f:Value)(g:H):R:=ae (λ h i=>ae (λ j l=>ah5 rc k a b c d e j l) λ j=>Qa E j e h i) λ h=>aB e (h undef g) (rc 111 [f] g h) (h undef g)
def Xx (a b c d:Value)(e:H):R:=binR (binC E .eql 24 false true) d (.int .i64 (.ofNat 4)) λ f=>ae (λ g h=>Vm E rc k a b c d f g h) λ g=>aB f (g undef e) (g a e) (g undef e)
def afB (a:V)(b:Addr)(c d:Value)(e:H)(f:Nat):R:=ifB (Nat.ble (Nat.succ b.2) f) (rc 101 [getF a b.2,d] e λ g h=>onTup g λ i=>nthF 0 i λ j=>onTup g λ l=>nthF 1 l λ m=>Xx E rc k c d j m h)
def Rz (E:Env)(rc:RC)(a0 a1:Value)(h:H)(k:Value→H→R):R:=bindO (aT a0) λ a=>onPtr a λ _=>onPtr a λ b=>onRow (hget h b.1) λ _ c _ _ _ d=>afB E rc k d b a0 a1 h c
theorem NJ (t:ak)(rc:RC)(a0 a1:Value)(h:H)(k:Value→H→R):(ax (EX t) KK 327).run rc [a0,a1] h k = Rz (EX t) rc a0 a1 h k:=by kernel_rfl
def acD (E:Env)(rc:RC)(a0 a1:Value)(h:H)(k:Value→H→R):R:=rc 356 [a0,a1] h λ a b=>binR (binC E .geq 3 false true) a (.int .i64 (.ofNat 0)) λ c=>k c b
theorem K2 (t:ak)(rc:RC)(a0 a1:Value)(h:H)(k:Value→H→R):(ax (EX t) KK 328).run rc [a0,a1] h k = acD (EX t) rc a0 a1 h k:=by kernel_rfl
def abU (a b:V)(c d:Bool)(e:TypeId)(f g:H)(h i:Nat):R:=ifB (notB d) (ifB (Nat.beq (lenF (ac a 4 0)) 4) (ifB (Nat.ble i 0) (ifB (Nat.ble 4 h) (ifB (Nat.ble h 1000000000) (ifB (allF (λ j=>cell1F j) (ac a 4 0)) (letH (hset g f.1 (.row e h c false i (putF b 0 (ac a 4 0)))) λ j=>bindO (aU E j 199 (Addr.mk f.1 0 none)) λ l=>k l j))))))
def ZF (a b c:H):R:=onRow (hget c a.1) λ _ d _ _ _ e=>ifB (Nat.ble 4 d) (onRow (hget c b.1) λ f g h i j l=>abU E k e l h i f b c g j)
def ai8 (a:V)(b c d:H)(e:Nat):R:=ifB (Nat.ble 5 e) (onRow (hget d b.1) λ _ f _ _ _ g=>ifB (Nat.ble 1 f) (rc 255 [.agg ⟨ac a 5 0⟩,getF g 0] d λ _ h=>ZF E k b c h))
def acj (a b:V)(c:Addr)(d e f g:H)(h:Nat):R:=ifB (Nat.ble 4 h) (rc 262 [getF a c.2,.agg ⟨ac b 4 0⟩] g λ _ i=>onRow (hget i d.1) λ _ j _ _ _ l=>ai8 E rc k l e f i j)
def Tl (a:Addr)(b c d e:H):R:=onRow (hget e a.1) λ _ f _ _ _ g=>ifB (Nat.ble (Nat.succ a.2) f) (onRow (hget e c.1) λ _ h _ _ _ i=>acj E rc k g i a b c d e h)
def acB (a:Addr)(b c d e:H):R:=onRow (hget e a.1) λ _ f _ _ _ g=>ifB (Nat.ble (Nat.succ a.2) f) (bindO (aT (getF g a.2)) λ h=>onPtr h λ _=>onPtr h λ i=>Tl E rc k i b c d e)
def ahM (a b c d:H):R:=onRow (hget d a.1) λ _ e _ _ _ f=>ifB (Nat.ble 1 e) (bindO (aT (getF f 0)) λ g=>onPtr g λ _=>onPtr g λ h=>acB E rc k h a b c d)
def X4 (a:L)(b:V)(c d:Bool)(e:TypeId)(f g h i:H)(j l:Nat):R:=ifB (notB d) (ifB (Nat.beq (lenF a) 1) (ifB (Nat.ble l 3) (ifB (Nat.ble 4 j) (ifB (Nat.ble j 1000000000) (ifB (allF (λ m=>cell1F m) a) (letH (hset i g.1 (.row e j c false l (putF b 3 a))) λ m=>ifB (Nat.ble m.1 1000000000) (letH (H.mk m.1 m.2) λ n=>ahM E rc k f g h n)))))))
def Vy (a:V)(b c d e:H)(f:Nat):R:=ifB (Nat.ble 5 f) (rc 272 [.agg ⟨ac a 5 0⟩] e λ g h=>onCells g λ i=>onRow (hget h c.1) λ j l m n o p=>X4 E rc k i p m n j b c d h l o)
def Qo (a b c:H):R:=ifB (Nat.ble c.1 1000000000) (letH (ag c (.row 199 4 false false 0 (T.ofList unk [.int .i64 (.ofNat 0),.int .i64 (.ofNat 0),.int .u64 (.ofNat 0),.int .i64 (.ofNat 0)]))) λ d=>onRow (hget d a.1) λ _ e _ _ _ f=>Vy E rc k f a b c d e)
def Mg (a:L)(b c:H):R:=ifB (allF (λ d=>cell1F d) a) (ifB (Nat.ble c.1 1000000000) (letH (ag c (.row 199 (lenF a) false false 0 (T.ofList unk a))) λ d=>Qo E rc k b c d))
def HP (a:L)(b:Value)(c:H):R:=ifB (allF (λ d=>cell1F d) a) (ifB (Nat.ble c.1 1000000000) (letH (ag c (.row 142 (lenF a) false false 0 (T.ofList unk a))) λ d=>onCells b λ e=>Mg E rc k e c d))
def Yu (E:Env)(rc:RC)(a0 a1:Value)(h:H)(k:Value→H→R):R:=onCells a0 λ a=>HP E rc k a a1 h
theorem H9 (t:ak)(rc:RC)(a0 a1:Value)(h:H)(k:Value→H→R):(ax (EX t) KK 330).run rc [a0,a1] h k = Yu (EX t) rc a0 a1 h k:=by kernel_rfl
def ahI (a b:H):R:=bindO (aU E b 447 (Addr.mk a.1 0 none)) λ c=>ifB (nT [c,.bool false]) (k (.tuple ⟨[c,.bool false]⟩) b)
def Xa (a:V)(b c:Bool)(d:TypeId)(e f:H)(g h:Nat):R:=ifB (notB c) (ifB (Nat.beq (lenF (cellsOfV (.agg (@List.toArray Value [.int .u64 (.ofNat 0),.int .u64 (.ofNat 0)])))) 2) (ifB (Nat.ble h 0) (ifB (Nat.ble 2 g) (ifB (Nat.ble g 1000000000) (ifB (allF (λ i=>cell1F i) (cellsOfV (.agg (@List.toArray Value [.int .u64 (.ofNat 0),.int .u64 (.ofNat 0)])))) (letH (hset f e.1 (.row d g b false h (putF a 0 (cellsOfV (.agg (@List.toArray Value [.int .u64 (.ofNat 0),.int .u64 (.ofNat 0)])))))) λ i=>ahI E k e i))))))
def aaO (a b:H):R:=bindO (aU E b 447 (Addr.mk a.1 0 none)) λ c=>ifB (nT [c,.bool true]) (k (.tuple ⟨[c,.bool true]⟩) b)
def SY (a:L)(b:V)(c d:Bool)(e:TypeId)(f g:H)(h i:Nat):R:=ifB (notB d) (ifB (Nat.beq (lenF a) 2) (ifB (Nat.ble i 0) (ifB (Nat.ble 2 h) (ifB (Nat.ble h 1000000000) (ifB (allF (λ j=>cell1F j) a) (letH (hset g f.1 (.row e h c false i (putF b 0 a))) λ j=>aaO E k f j))))))
def aaB (a:(aa [7])→H→R)(b:aa [7,20])(c:V)(d:Addr)(e f:Value)(g h:H):R:=onB f (a (b.1,()) h) (bindO (cg E 447 [(0,e),(1,getF c d.2)]) λ i=>onCells i λ j=>onRow (hget h g.1) λ l m n o p q=>SY E k j q n o l g h m p)
def Up (a:(aa [7])→H→R)(b:aa [7,20])(c:V)(d:Addr)(e f:Value)(g h:H):R:=binR (binC E .eql 24 false true) f (.int .i64 (.ofNat 0)) λ i=>@joinR [7] (λ j l=>a (j.1,()) l) λ j=>aaB E k j b c d e i g h
def Ya (a:(aa [7])→H→R)(b:aa [7,20])(c d e:V)(f g h:Addr)(i j l:Value)(m n:H)(o:Nat):R:=ifB (Nat.ble (Nat.add h.2 1) o) (ifB (aj (.agg ⟨ac e 1 h.2⟩) (.agg ⟨ac d 1 g.2⟩)) (rc 382 [.agg ⟨ac d 1 g.2⟩,j,l] n λ p q=>Up E k a b c f i p m q))
def U6 (a:(aa [7])→H→R)(b:aa [7,20])(c d:V)(e f:Addr)(g h i j:Value)(l m:H):R:=ifB (aj h h) (onPtr h λ n=>onRow (hget m n.1) λ _ o _ _ _ p=>Ya E rc k a b c d p e f n g i j l m o)
def Y9 (a:(aa [7])→H→R)(b:aa [7,20])(c d e f:V)(g h:Addr)(i j l m:Value)(n o:H)(p:Nat):R:=ifB (Nat.ble 12 p) (ifB (aj (.agg ⟨ac f 12 0⟩) (.agg ⟨ac e 12 0⟩)) (rc 87 [.agg ⟨ac e 12 0⟩] o λ q r=>ifB (aj i i) (bindO (aT i) λ s=>ifB (aj s l) (onPtr l λ _=>U6 E rc k a b c d g h j l m q n r))))
def U8 (a:(aa [7])→H→R)(b:aa [7,20])(c d e f:V)(g h i:Addr)(j l m n:Value)(o p q:H)(r:Nat):R:=ifB (Nat.ble (Nat.add i.2 1) r) (ifB (aj (.agg ⟨ac f 1 i.2⟩) (.agg ⟨ac d 1 h.2⟩)) (onRow (hget q p.1) λ _ s _ _ _ t=>Y9 E rc k a b c d e t g h j l m n o q s))
def G6 (a:(aa [7])→H→R)(b:aa [7,20])(c d e:V)(f g:Addr)(h i j l:Value)(m n o:H):R:=ifB (aj j j) (onPtr j λ p=>onRow (hget o p.1) λ _ q _ _ _ r=>U8 E rc k a b c d e r f g p h i j l m n o q)
def Jj (a:(aa [7])→H→R)(b:aa [7,20])(c d e f:V)(g h:Addr)(i j l:Value)(m n o:H)(p:Nat):R:=ifB (Nat.ble 12 p) (rc 87 [.agg ⟨ac e 12 0⟩] o λ q r=>ifB (aj i i) (bindO (aT i) λ s=>ifB (aj s l) (onPtr l λ _=>G6 E rc k a b c d f g h i j l q m n r)))
def OB (a:(aa [7])→H→R)(b:aa [7,20])(c d e:V)(f g:Addr)(h i j:Value)(l m n:H)(o:Nat):R:=ifB (Nat.ble 12 o) (onRow (hget n m.1) λ _ p _ _ _ q=>Jj E rc k a b c d e q f g h i j l m n p)
def FZ (a:(aa [7])→H→R)(b:aa [7,20])(c:V)(d e:Addr)(f g h:Value)(i j l m:H):R:=onRow (hget m e.1) λ _ n _ _ _ o=>ifB (Nat.ble (Nat.add e.2 1) n) (onRow (hget m i.1) λ _ p _ _ _ q=>OB E rc k a b c o q d e f g h j l m p)
def Mn (a:(aa [7])→H→R)(b:aa [7,20])(c:V)(d:Addr)(e f:Value)(g h i j:H):R:=ifB (Nat.ble j.1 1000000000) (letH (H.mk j.1 j.2) λ l=>bindO (aT e) λ m=>onPtr m λ _=>onPtr m λ n=>FZ E rc k a b c d n e f m g h i l)
def KS (a:(aa [7])→H→R)(b:aa [7,20])(c:L)(d e:V)(f g:Bool)(h:Addr)(i:TypeId)(j l:Value)(m n o p:H)(q r:Nat):R:=ifB (notB g) (ifB (Nat.beq (lenF c) 12) (ifB (Nat.ble r 0) (ifB (Nat.ble 12 q) (ifB (Nat.ble q 1000000000) (ifB (allF (λ s=>cell1F s) c) (letH (hset p o.1 (.row i q f false r (putF e 0 c))) λ s=>Mn E rc k a b d h j l m n o s))))))
def Nl (a:(aa [7])→H→R)(b:aa [7,20])(c:V)(d:Addr)(e f g:Value)(h i j l:H):R:=onCells g λ m=>onRow (hget l j.1) λ n o p q r s=>KS E rc k a b m c s p q d n e f h i j l o r
def GH (a:(aa [7])→H→R)(b:aa [7,20])(c:V)(d:Addr)(e f g:Value)(h i j:H):R:=ifB (Nat.ble j.1 1000000000) (letH (ag j (.row 148 12 false false 0 (T.ofList unk [.pointer none,.pointer none,.int .i64 (.ofNat 0),.int .i64 (.ofNat 0),.int .u64 (.ofNat 0),.pointer none,.int .i64 (.ofNat 0),.int .i64 (.ofNat 0),.int .i64 (.ofNat 0),.pointer none,.int .i64 (.ofNat 0),.int .i64 (.ofNat 0)]))) λ l=>Nl E rc k a b c d e f g h i j l)
def Ly (a:(aa [7])→H→R)(b:aa [7,20])(c:V)(d:Addr)(e f:Value)(g h i:H)(j:Nat):R:=ifB (Nat.ble (Nat.succ d.2) j) (rc 112 [e,getF c d.2] i λ l m=>onTup l λ n=>nthF 0 n λ o=>onTup l λ p=>nthF 1 p λ _=>GH E rc k a b c d e f o g h m)
def FP (a:(aa [7])→H→R)(b:aa [7,20])(c:Addr)(d e:Value)(f g h:H)(i j:Nat):R:=ifB (Nat.ble (Nat.succ i) j) (addOffF c (Nat.mul i 1) λ l=>onPtr l λ m=>onRow (hget h m.1) λ _ n _ _ _ o=>Ly E rc k a b o m d e f g h n)
def DI (a:(aa [7,20])→H→R)(b:aa [7,20])(c d e:Value)(f g h:H):R:=@joinR [7] (λ i j=>binR (binC E .add 3 false true) b.2.1 (.int .i64 (.ofNat 1)) λ l=>a (i.1,(l,())) j) λ i=>onNat b.2.1 none λ j=>onSl e none λ l m _=>FP E rc k i b l c d f g h j m
def Ik (a:(aa [7,20])→H→R)(b:(aa [7])→H→R)(c:aa [7,20])(d e f g:Value)(h i j:H):R:=binR (binC E .lss 3 false false) c.2.1 g λ l=>@joinR [] (λ _ m=>DI E rc k a c d e f h i m) λ m=>onB l (b (c.1,()) j) (m () j)
def OO (a b c d:Value)(e f g:H):R:=@joinR [7] (λ _ h=>onRow (hget h f.1) λ i j l m n o=>Xa E k o l m i f h j n) λ h=>@loopF [7,20] (λ i j l=>Ik E rc k i h j a b c d e f l) 1000000 (.bool false,(.int .i64 (.ofNat 0),())) g
def IY (a b c:Value)(d e f:H):R:=joinL (λ g=>OO E rc k a b c g d e f) λ g=>onSl c (bindO (bv E f 276 c) g) λ _ h _=>g (.int .i64 (.ofNat h))
def Dn (a:V)(b c:Value)(d e f:H)(g:Nat):R:=ifB (Nat.ble 12 g) (rc 114 [.agg ⟨ac a 12 0⟩,.int .i64 (.ofNat 0)] f λ h i=>rc 453 [b,h,c] i λ j l=>IY E rc k b h j d e l)
def L0 (a b:Value)(c d:H):R:=ifB (Nat.ble d.1 1000000000) (letH (ag d (.row 447 2 false false 0 (T.ofList unk [.int .u64 (.ofNat 0),.int .u64 (.ofNat 0)]))) λ e=>onRow (hget e c.1) λ _ f _ _ _ g=>Dn E rc k g a b c d e f)
def KE (a:L)(b c:Value)(d:H):R:=ifB (allF (λ e=>cell1F e) a) (ifB (Nat.ble d.1 1000000000) (letH (ag d (.row 148 (lenF a) false false 0 (T.ofList unk a))) λ e=>L0 E rc k b c d e))
def PZ (E:Env)(rc:RC)(a0 a1 a2:Value)(h:H)(k:Value→H→R):R:=onCells a1 λ a=>KE E rc k a a0 a2 h
theorem CF (t:ak)(rc:RC)(a0 a1 a2:Value)(h:H)(k:Value→H→R):(ax (EX t) KK 441).run rc [a0,a1,a2] h k = PZ (EX t) rc a0 a1 a2 h k:=by kernel_rfl
def Wg (a:(aa [4])→H→R)(b c:Array Value)(d:aa [4,8])(e:V)(f:Addr)(g:FuncId)(h:H):R:=rc g (ny b c [.agg ⟨ac e 4 f.2⟩]) h λ i j=>@joinR [4] (λ l m=>a (l.1,()) m) λ l=>onB i (l (d.1,()) j) (k d.2.1 j)
def XL (a:(aa [4])→H→R)(b:aa [4,8])(c:Addr)(d:Value)(e:H):R:=onRow (hget e c.1) λ _ f _ _ _ g=>ifB (Nat.ble (Nat.add c.2 4) f) (yu d λ h i j=>Wg rc k a i j b g c h e)
def abX (a:(aa [4])→H→R)(b:aa [4,8])(c d:Value)(e:H):R:=onNat b.2.1 none λ f=>onSl c none λ g h _=>ifB (Nat.ble (Nat.succ f) h) (addOffF g (Nat.mul f 4) λ i=>onPtr i λ j=>XL rc k a b j d e)
def adR (a:(aa [4,8])→H→R)(b:aa [4,8])(c d:Value)(e:H):R:=@joinR [4] (λ f g=>binR (binC E .add 3 false true) b.2.1 (.int .i64 (.ofNat 1)) λ h=>a (f.1,(h,())) g) λ f=>abX rc k f b c d e
def SX (a:(aa [4,8])→H→R)(b:(aa [4])→H→R)(c:aa [4,8])(d e f:Value)(g:H):R:=binR (binC E .lss 3 false false) c.2.1 f λ h=>@joinR [] (λ _ i=>adR E rc k a c d e i) λ i=>onB h (b (c.1,()) g) (i () g)
def Va (a b c:Value)(d:H):R:=@joinR [4] (λ _ e=>k (.int .i64 (.negSucc 0)) e) λ e=>@loopF [4,8] (λ f g h=>SX E rc k f e g a b c h) 1000000 (.int .i64 (.ofNat 0),(.int .i64 (.ofNat 0),())) d
def aar (E:Env)(rc:RC)(a0 a1:Value)(h:H)(k:Value→H→R):R:=joinL (λ a=>Va E rc k a0 a1 a h) λ a=>onSl a0 (bindO (bv E h 268 a0) a) λ _ b _=>a (.int .i64 (.ofNat b))
theorem K9 (t:ak)(rc:RC)(a0 a1:Value)(h:H)(k:Value→H→R):(ax (EX t) KK 356).run rc [a0,a1] h k = aar (EX t) rc a0 a1 h k:=by kernel_rfl
def WP (a b c:H):R:=bindO (aU E c 383 (Addr.mk a.1 0 none)) λ d=>bindO (aU E c 383 (Addr.mk b.1 0 none)) λ e=>ifB (nT [d,e]) (k (.tuple ⟨[d,e]⟩) c)
def XG (a:L)(b:V)(c d:Bool)(e:TypeId)(f g h:H)(i j:Nat):R:=ifB (notB d) (ifB (Nat.beq (lenF a) 3) (ifB (Nat.ble j 0) (ifB (Nat.ble 3 i) (ifB (Nat.ble i 1000000000) (ifB (allF (λ l=>cell1F l) a) (letH (hset h g.1 (.row e i c false j (putF b 0 a))) λ l=>WP E k f g l))))))
def ahA (a:L)(b:V)(c d:Bool)(e:TypeId)(f:Value)(g h i:H)(j l:Nat):R:=ifB (notB d) (ifB (Nat.beq (lenF a) 3) (ifB (Nat.ble l 0) (ifB (Nat.ble 3 j) (ifB (Nat.ble j 1000000000) (ifB (allF (λ m=>cell1F m) a) (letH (hset i g.1 (.row e j c false l (putF b 0 a))) λ m=>onCells f λ n=>onRow (hget m h.1) λ o p q r s t=>XG E k n t q r o g h m p s))))))
def ac2 (a b:Value)(c d e:H):R:=rc 345 [b] e λ f g=>onCells a λ h=>onRow (hget g c.1) λ i j l m n o=>ahA E k h o l m i f c d g j n
def Rl (a b:V)(c:Value)(d e f:H)(g:Nat):R:=ifB (Nat.ble 12 g) (ifB (aj (.agg ⟨ac b 12 0⟩) (.agg ⟨ac a 12 0⟩)) (rc 346 [.agg ⟨ac a 12 0⟩,.int .i64 (.ofNat 4)] f λ h i=>ac2 E rc k c h d e i))
def Uv (a b:V)(c:Value)(d e f g:H)(h:Nat):R:=ifB (Nat.ble 12 h) (ifB (aj (.agg ⟨ac b 12 0⟩) (.agg ⟨ac a 12 0⟩)) (rc 345 [c] g λ i j=>onRow (hget j d.1) λ _ l _ _ _ m=>Rl E rc k a m i e f j l))
def agd (a b:V)(c d e f:H)(g:Nat):R:=ifB (Nat.ble 12 g) (rc 346 [.agg ⟨ac a 12 0⟩,.int .i64 (.ofNat 3)] f λ h i=>onRow (hget i c.1) λ _ j _ _ _ l=>Uv E rc k b l h c d e i j)
def P7 (a b c d e:H):R:=onRow (hget e a.1) λ _ f _ _ _ g=>ifB (Nat.ble 12 f) (onRow (hget e b.1) λ _ h _ _ _ i=>agd E rc k g i b c d e h)
def Sn (a b c d:H):R:=ifB (Nat.ble d.1 1000000000) (letH (ag d (.row 383 3 false false 0 (T.ofList unk [.pointer none,.int .i64 (.ofNat 0),.int .i64 (.ofNat 0)]))) λ e=>ifB (Nat.ble e.1 1000000000) (letH (H.mk e.1 e.2) λ f=>P7 E rc k a b c d f))
def afh (a b c:H):R:=ifB (Nat.ble c.1 1000000000) (letH (ag c (.row 383 3 false false 0 (T.ofList unk [.pointer none,.int .i64 (.ofNat 0),.int .i64 (.ofNat 0)]))) λ d=>Sn E rc k a b c d)
def JY (a:L)(b c:H):R:=ifB (allF (λ d=>cell1F d) a) (ifB (Nat.ble c.1 1000000000) (letH (ag c (.row 148 (lenF a) false false 0 (T.ofList unk a))) λ d=>afh E rc k b c d))
def F6 (a:L)(b:Value)(c:H):R:=ifB (allF (λ d=>cell1F d) a) (ifB (Nat.ble c.1 1000000000) (letH (ag c (.row 148 (lenF a) false false 0 (T.ofList unk a))) λ d=>onCells b λ e=>JY E rc k e c d))
def af9 (E:Env)(rc:RC)(a0 a1:Value)(h:H)(k:Value→H→R):R:=onCells a0 λ a=>F6 E rc k a a1 h
theorem Ju (t:ak)(rc:RC)(a0 a1:Value)(h:H)(k:Value→H→R):(ax (EX t) KK 435).run rc [a0,a1] h k = af9 (EX t) rc a0 a1 h k:=by kernel_rfl
def VB (a:Value)(b c:H):R:=ifB (fx (allF (λ d=>eG d) []) (allF (λ d=>eG d) [.pointer (some (Addr.mk b.1 0 none))])) (rc 465 [a,.func (.func 466) ⟨[]⟩ ⟨[.pointer (some (Addr.mk b.1 0 none))]⟩] c λ d e=>k d e)
def Zo (a:L)(b:Value)(c:H):R:=ifB (allF (λ d=>cell1F d) a) (ifB (Nat.ble c.1 1000000000) (letH (ag c (.row 92 (lenF a) false false 0 (T.ofList unk a))) λ d=>VB rc k b c d))
def ahK (E:Env)(rc:RC)(a0 a1:Value)(h:H)(k:Value→H→R):R:=onCells a1 λ a=>Zo rc k a a0 h
theorem MV (t:ak)(rc:RC)(a0 a1:Value)(h:H)(k:Value→H→R):(ax (EX t) KK 457).run rc [a0,a1] h k = ahK (EX t) rc a0 a1 h k:=by kernel_rfl
def WY (a:(aa [4])→H→R)(b c:Array Value)(d:aa [4,8])(e:V)(f:Addr)(g:FuncId)(h:H):R:=rc g (ny b c [.agg ⟨ac e 2 f.2⟩]) h λ i j=>@joinR [4] (λ l m=>a (l.1,()) m) λ l=>onB i (l (d.1,()) j) (k d.2.1 j)
def Rk (a:(aa [4])→H→R)(b:aa [4,8])(c:Addr)(d:Value)(e:H):R:=onRow (hget e c.1) λ _ f _ _ _ g=>ifB (Nat.ble (Nat.add c.2 2) f) (yu d λ h i j=>WY rc k a i j b g c h e)
def Tz (a:(aa [4])→H→R)(b:aa [4,8])(c d:Value)(e:H):R:=onNat b.2.1 none λ f=>onSl c none λ g h _=>ifB (Nat.ble (Nat.succ f) h) (addOffF g (Nat.mul f 2) λ i=>onPtr i λ j=>Rk rc k a b j d e)
def T4 (a:(aa [4,8])→H→R)(b:aa [4,8])(c d:Value)(e:H):R:=@joinR [4] (λ f g=>binR (binC E .add 3 false true) b.2.1 (.int .i64 (.ofNat 1)) λ h=>a (f.1,(h,())) g) λ f=>Tz rc k f b c d e
def W0 (a:(aa [4,8])→H→R)(b:(aa [4])→H→R)(c:aa [4,8])(d e f:Value)(g:H):R:=binR (binC E .lss 3 false false) c.2.1 f λ h=>@joinR [] (λ _ i=>T4 E rc k a c d e i) λ i=>onB h (b (c.1,()) g) (i () g)
def ajo (a b c:Value)(d:H):R:=@joinR [4] (λ _ e=>k (.int .i64 (.negSucc 0)) e) λ e=>@loopF [4,8] (λ f g h=>W0 E rc k f e g a b c h) 1000000 (.int .i64 (.ofNat 0),(.int .i64 (.ofNat 0),())) d
def ail (E:Env)(rc:RC)(a0 a1:Value)(h:H)(k:Value→H→R):R:=joinL (λ a=>ajo E rc k a0 a1 a h) λ a=>onSl a0 (bindO (bv E h 340 a0) a) λ _ b _=>a (.int .i64 (.ofNat b))
theorem Iy (t:ak)(rc:RC)(a0 a1:Value)(h:H)(k:Value→H→R):(ax (EX t) KK 465).run rc [a0,a1] h k = ail (EX t) rc a0 a1 h k:=by kernel_rfl
def aid (a:(aa [4])→H→R)(b c d:Value)(e:H):R:=ifB (aj d b) (binR (binC E .geq 3 false false) b c λ f=>@joinR [4] (λ g h=>a (g.1,()) h) λ g=>onB f (g (.int .i64 (.ofNat 0),()) e) (k (.int .i64 (.ofNat 10)) e))
def YG (a:(aa [4])→H→R)(b:V)(c d:Value)(e:H):R:=rc 366 [.agg ⟨ac b 3 0⟩] e λ f g=>joinL (λ h=>aid E k a d f h g) λ h=>onSl c (bindO (bv E g 340 c) h) λ _ i _=>h (.int .i64 (.ofNat i))
def Yc (a:(aa [4])→H→R)(b c:V)(d:Value)(e:H)(f:Nat):R:=ifB (Nat.ble 3 f) (ifB (aj (.agg ⟨ac c 3 0⟩) (.agg ⟨ac b 3 0⟩)) (joinL (λ g=>YG E rc k a b d g e) λ g=>onSl d (bindO (bv E e 340 d) g) λ _ h _=>g (.int .i64 (.ofNat h))))
def ahQ (a:(aa [4])→H→R)(b c:V)(d e:H)(f:Nat):R:=ifB (Nat.ble 3 f) (rc 347 [.agg ⟨ac b 3 0⟩] e λ g h=>onRow (hget h d.1) λ _ i _ _ _ j=>Yc E rc k a c j g h i)
def adb (a:(aa [4])→H→R)(b c:H):R:=onRow (hget c b.1) λ _ d _ _ _ e=>ifB (Nat.ble 3 d) (onRow (hget c b.1) λ _ f _ _ _ g=>ahQ E rc k a e g b c f)
def aei (a:(aa [4])→H→R)(b:Value)(c d:H):R:=@joinR [4] (λ e f=>a (e.1,()) f) λ e=>onB b (ifB (Nat.ble d.1 1000000000) (letH (H.mk d.1 d.2) λ f=>adb E rc k e c f)) (k (.int .i64 (.ofNat 9)) d)
def aki (a:(aa [4])→H→R)(b:V)(c d e:H)(f:Nat):R:=ifB (Nat.ble 3 f) (onRow (hget e d.1) λ _ g _ _ _ h=>ifB (Nat.ble 1 g) (rc 444 [.agg ⟨ac b 3 0⟩,getF h 0] e λ i j=>aei E rc k a i c j))
def aa5 (a:(aa [4])→H→R)(b c:Value)(d e f:H):R:=onB b (@joinR [4] (λ g h=>a (g.1,()) h) λ g=>onB c (onRow (hget f d.1) λ _ h _ _ _ i=>aki E rc k g i d e f h) (k (.int .i64 (.ofNat 2)) f)) (@joinR [4] (λ g h=>a (g.1,()) h) λ _=>k (.int .i64 (.ofNat 2)) f)
def Ii (a:(aa [4])→H→R)(b:Value)(c d e:H):R:=ae (λ f g=>ae (λ h i=>ae (λ j l=>aa5 E rc k a b j c d l) λ j=>kK E j b h i) λ h=>eL h b f g) λ f=>aB b (f (.pointer (some (Addr.mk d.1 1 none))) e) (f undef e) (f undef e)
def NR (a:(aa [4])→H→R)(b:V)(c d e:H)(f:Nat):R:=ifB (Nat.ble 1 f) (binR (binC E .eql 92 false true) (getF b 0) (.int .u64 (.ofNat 0)) λ g=>Ii E rc k a g c d e)
def Cn (a:(aa [4])→H→R)(b:Value)(c d e:H):R:=@joinR [4] (λ f g=>a (f.1,()) g) λ f=>onB b (onRow (hget e d.1) λ _ g _ _ _ h=>NR E rc k f h c d e g) (k (.int .i64 (.ofNat 1)) e)
def OH (a:(aa [4])→H→R)(b:V)(c d e:H)(f:Nat):R:=ifB (Nat.ble 1 f) (binR (binC E .eql 123 false true) (getF b 0) (.pointer none) λ g=>Cn E rc k a g c d e)
def Cz (a b c:H):R:=@joinR [4] (λ _ d=>k (.int .i64 (.ofNat 0)) d) λ d=>onRow (hget c a.1) λ _ e _ _ _ f=>OH E rc k d f a b c e
def Fu (a:L)(b c:H):R:=ifB (allF (λ d=>cell1F d) a) (ifB (Nat.ble c.1 1000000000) (letH (ag c (.row 343 (lenF a) false false 0 (T.ofList unk a))) λ d=>Cz E rc k b c d))
def IL (a:L)(b:Value)(c:H):R:=ifB (allF (λ d=>cell1F d) a) (ifB (Nat.ble c.1 1000000000) (letH (ag c (.row 383 (lenF a) false false 0 (T.ofList unk a))) λ d=>onCells b λ e=>Fu E rc k e c d))
def aeM (E:Env)(rc:RC)(a0 a1:Value)(h:H)(k:Value→H→R):R:=onCells a0 λ a=>IL E rc k a a1 h
theorem J7 (t:ak)(rc:RC)(a0 a1:Value)(h:H)(k:Value→H→R):(ax (EX t) KK 436).run rc [a0,a1] h k = aeM (EX t) rc a0 a1 h k:=by kernel_rfl
def ahZ (a b:V)(c:Value)(d:H)(e:Nat):R:=ifB (Nat.ble 3 e) (ifB (aj (.agg ⟨ac b 3 0⟩) (.agg ⟨ac a 3 0⟩)) (rc 445 [.agg ⟨ac a 3 0⟩,c] d λ _ f=>k (.int .i64 (.ofNat 0)) f))
def aj0 (a:aa [7])(b:V)(c:Value)(d e f:H):R:=rc 446 [c,a.1,.slice (some (Addr.mk e.1 0 none)) 1 2] f λ g h=>onRow (hget h d.1) λ _ i _ _ _ j=>ahZ rc k b j g h i
def ahF (a:aa [7])(b c:V)(d:Value)(e f g:H)(h:Nat):R:=ifB (Nat.ble 2 h) (@Option.rec (List Value) (λ _=>R) none (λ i=>letH (hset g f.1 (.row 343 2 false false 0 (T.ofList unk i))) λ j=>aj0 rc k a b d e f j) (cG (λ i=>some (Nat.mul i 2,2)) (List.flatten (List.replicate 1 (cellsOfV (.agg (@List.toArray Value [.int .u64 (.ofNat 0),.int .u64 (.ofNat 0)]))))) [(0,.agg ⟨ac c 2 0⟩)]))
def Qf (a:aa [7])(b:Value)(c d e f:H):R:=onRow (hget f c.1) λ _ g _ _ _ h=>ifB (Nat.ble 3 g) (onRow (hget f d.1) λ _ i _ _ _ j=>ahF rc k a h j b c e f i)
def AX (a:(aa [7])→H→R)(b:aa [7])(c:H):R:=@joinR [7] (λ d e=>a (d.1,()) e) λ d=>binR (binC E .add 3 false true) b.1 (.int .i64 (.ofNat 1)) λ e=>d (e,()) c
def Qy (a b:(aa [7])→H→R)(c:aa [7])(d e:Value)(f:H):R:=onB d (@joinR [] (λ _ g=>AX E b c g) λ _=>a (c.1,()) f) (@joinR [] (λ _ g=>AX E b c g) λ g=>onB e (a (c.1,()) f) (g () f))
def afW (a b:(aa [7])→H→R)(c:aa [7])(d e f:Value)(g:H):R:=joinL (λ h=>Qy E a b c d h g) λ h=>aB d (h undef) (binR (binC E .leq 92 false false) e f h) (h undef)
def Bm (a:Value→R)(b c:Value)(d:H):R:=aB b (a undef) (onPtr c λ e=>onRow (hget d e.1) λ _ f _ _ _ g=>ifB (Nat.ble (Nat.succ e.2) f) (a (getF g e.2))) (a undef)
def UH (a b:(aa [7])→H→R)(c:aa [7])(d e:Value)(f g:H):R:=joinL (λ h=>joinL (λ i=>afW E a b c d e i g) λ i=>Bm i d h g) λ h=>aB d (h undef) (h (.pointer (some (Addr.mk f.1 1 none)))) (h undef)
def DR (a b:(aa [7])→H→R)(c:aa [7])(d e:Value)(f g:H):R:=joinL (λ h=>joinL (λ i=>UH E a b c d i f g) λ i=>Bm i d h g) λ h=>aB d (h undef) (onPtr e λ i=>h (.pointer (some (Addr.mk i.1 (Nat.add i.2 1) none)))) (h undef)
def Dc (a b:(aa [7])→H→R)(c:aa [7])(d e f:Value)(g h:H):R:=joinL (λ i=>DR E a b c d i g h) λ i=>aB d (i undef) (onNat f none λ j=>onSl e none λ l m _=>ifB (Nat.ble (Nat.succ j) m) (addOffF l (Nat.mul j 2) i)) (i undef)
def F7 (a b:(aa [7])→H→R)(c:aa [7])(d e:Value)(f g:H):R:=joinL (λ h=>joinL (λ i=>Dc E a b c e h i f g) λ i=>aB e (i undef) (i c.1) (i undef)) λ h=>aB e (h undef) (h d) (h undef)
def Gh (a b:(aa [7])→H→R)(c:aa [7])(d:Value)(e f:H):R:=joinL (λ g=>binR (binC E .lss 3 false false) c.1 g λ h=>F7 E a b c d h e f) λ g=>onSl d (bindO (bv E f 340 d) g) λ _ h _=>g (.int .i64 (.ofNat h))
def Jc (a:(aa [7])→H→R)(b:Value)(c d:H):R:=@loopF [7] (λ e f g=>ifB (Nat.ble g.1 1000000000) (letH (H.mk g.1 g.2) λ h=>Gh E a e f b c h)) 1000000 (.int .i64 (.ofNat 0),()) d
def H6 (a:V)(b c d:H)(e:Nat):R:=ifB (Nat.ble 3 e) (rc 347 [.agg ⟨ac a 3 0⟩] d λ f g=>@joinR [7] (λ h i=>ifB (Nat.ble i.1 1000000000) (letH (H.mk (Nat.add i.1 1) i.2) λ j=>Qf rc k h f b c i j)) λ h=>Jc E h f c g)
def Oy (a b:Value)(c d e:H):R:=@joinR [4] (λ _ f=>onRow (hget f c.1) λ _ g _ _ _ h=>H6 E rc k h c d f g) λ f=>onB b (f (.int .i64 (.ofNat 0),()) e) (k a e)
def EK (a b:V)(c d e:H)(f:Nat):R:=ifB (Nat.ble 2 f) (rc 436 [.agg ⟨ac a 3 0⟩,.agg ⟨ac b 2 0⟩] e λ g h=>binR (binC E .neq 24 false true) g (.int .i64 (.ofNat 0)) λ i=>Oy E rc k g i c d h)
def Di (a b c:H):R:=onRow (hget c a.1) λ _ d _ _ _ e=>ifB (Nat.ble 3 d) (onRow (hget c b.1) λ _ f _ _ _ g=>EK E rc k e g a b c f)
def Oz (a:L)(b c:H):R:=ifB (allF (λ d=>cell1F d) a) (ifB (Nat.ble c.1 1000000000) (letH (ag c (.row 343 (lenF a) false false 0 (T.ofList unk a))) λ d=>Di E rc k b c d))
def E7 (a:L)(b:Value)(c:H):R:=ifB (allF (λ d=>cell1F d) a) (ifB (Nat.ble c.1 1000000000) (letH (ag c (.row 383 (lenF a) false false 0 (T.ofList unk a))) λ d=>onCells b λ e=>Oz E rc k e c d))
def ahX (E:Env)(rc:RC)(a0 a1:Value)(h:H)(k:Value→H→R):R:=onCells a0 λ a=>E7 E rc k a a1 h
theorem NK (t:ak)(rc:RC)(a0 a1:Value)(h:H)(k:Value→H→R):(ax (EX t) KK 437).run rc [a0,a1] h k = ahX (EX t) rc a0 a1 h k:=by kernel_rfl
def afN (a b:Value)(c:H):R:=rc 457 [b,a] c λ d e=>binR (binC E .geq 3 false true) d (.int .i64 (.ofNat 0)) λ f=>k f e
def QY (a:Value)(b c:H):R:=onRow (hget c b.1) λ _ d _ _ _ e=>ifB (Nat.ble 3 d) (rc 347 [.agg ⟨ac e 3 0⟩] c λ f g=>afN E rc k a f g)
def akn (a:L)(b:Value)(c:H):R:=ifB (allF (λ d=>cell1F d) a) (ifB (Nat.ble c.1 1000000000) (letH (ag c (.row 383 (lenF a) false false 0 (T.ofList unk a))) λ d=>QY E rc k b c d))
def acY (E:Env)(rc:RC)(a0 a1:Value)(h:H)(k:Value→H→R):R:=onCells a0 λ a=>akn E rc k a a1 h
theorem MW (t:ak)(rc:RC)(a0 a1:Value)(h:H)(k:Value→H→R):(ax (EX t) KK 444).run rc [a0,a1] h k = acY (EX t) rc a0 a1 h k:=by kernel_rfl
end
end Go.Ev
