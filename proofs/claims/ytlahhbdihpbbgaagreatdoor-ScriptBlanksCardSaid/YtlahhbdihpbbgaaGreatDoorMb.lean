/-
  Functions of a program as plain Lean, for any table of functions that are answered for; printed by a program.
-/
import Derived.Test.YtlahhbdihpbbgaaGreatDoorMa
set_option linter.unusedVariables false
set_option linter.unusedSimpArgs false
namespace Go.Ev
open Go F Go.Proofs
set_option maxRecDepth 100000
set_option linter.unusedVariables false
noncomputable section
variable (E : Env) (rc : RC) (k : Value → H → R)
def aoG (a b c:Value)(d e:H):R:=onRow (hget e d.1) λ _ f _ _ _ g=>ifB (Nat.ble 3 f) (rc 240 [.agg ⟨ac g 3 0⟩,a,c,b] e λ _ h=>k (.int .i64 (.ofNat 0)) h)
def aqt (a b c d:Value)(e f:H):R:=onRow (hget f e.1) λ _ g _ _ _ h=>ifB (Nat.ble 3 g) (rc 240 [.agg ⟨ac h 3 0⟩,a,b,d] f λ _ i=>aoG rc k a b c e i)
def akT (a:aa [6])(b c d e:Value)(f g:H):R:=binR (binC E .eql 3 false false) e c λ h=>@joinR [6] (λ _ i=>aqt rc k b c d e f i) λ i=>onB h (i (a.1,()) g) (k (.int .i64 (.ofNat 9)) g)
def anJ (a:aa [6])(b c d:Value)(e f:H):R:=onRow (hget f e.1) λ _ g _ _ _ h=>ifB (Nat.ble 3 g) (rc 239 [.agg ⟨ac h 3 0⟩,b,d] f λ i j=>akT E rc k a b c d i e j)
def aq1 (a:aa [6])(b c:Value)(d e:H):R:=onRow (hget e d.1) λ _ f _ _ _ g=>ifB (Nat.ble 3 f) (rc 238 [.agg ⟨ac g 3 0⟩,b,c] e λ h i=>anJ E rc k a b c h d i)
def apA (a:aa [6])(b c d:Value)(e f:H):R:=binR (binC E .neq 24 false true) d (.int .i64 (.ofNat 0)) λ g=>@joinR [6] (λ h i=>aq1 E rc k h b c e i) λ h=>onB g (h (a.1,()) f) (k d f)
def aps (a:aa [6])(b:V)(c d:Value)(e f:H)(g:Nat):R:=ifB (Nat.ble 1 g) (rc 243 [getF b 0,d,.int .i64 (.ofNat 16)] f λ h i=>onTup h λ j=>nthF 0 j λ _=>onTup h λ l=>nthF 1 l λ m=>apA E rc k a c d m e i)
def ame (a:aa [6])(b c d:Value)(e f:H):R:=@joinR [6] (λ g h=>onRow (hget h e.1) λ _ i _ _ _ j=>aps E rc k g j b c e h i) λ g=>onB d (g (a.1,()) f) (k (.int .i64 (.ofNat 2)) f)
def an9 (a b c d:Value)(e f:H):R:=@joinR [6] (λ g h=>binR (binC E .lss 3 false true) b (.int .i64 (.ofNat 1)) λ i=>ame E rc k g a b i e h) λ g=>onB d (g (.int .i64 (.ofNat 0),()) f) (k c f)
def apT (a:V)(b c:Value)(d e:H)(f:Nat):R:=ifB (Nat.ble 3 f) (rc 237 [.agg ⟨ac a 3 0⟩,b] e λ g h=>binR (binC E .neq 24 false true) g (.int .i64 (.ofNat 0)) λ i=>an9 E rc k b c g i d h)
def aej (a:L)(b c:Value)(d:H):R:=ifB (allF (λ e=>cell1F e) a) (ifB (Nat.ble d.1 1000000000) (letH (ag d (.row 175 (lenF a) false false 0 (T.ofList unk a))) λ e=>onRow (hget e d.1) λ _ f _ _ _ g=>apT E rc k g b c d e f))
def g83 (E:Env)(rc:RC)(a0 a1 a2:Value)(h:H)(k:Value→H→R):R:=onCells a0 λ a=>aej E rc k a a1 a2 h
theorem ajD (t:ak)(rc:RC)(a0 a1 a2:Value)(h:H)(k:Value→H→R):(ax (EX t) KK 158).run rc [a0,a1,a2] h k = g83 (EX t) rc a0 a1 a2 h k:=by kernel_rfl
def PN (a:(aa [1,2])→H→R)(b:aa [1,2])(c:Value)(d:H):R:=binR (binC E .add 3 false false) b.1 c λ e=>binR (binC E .sub 3 false false) b.2.1 c λ f=>a (e,(f,())) d
def apr (a:(aa [1,2])→H→R)(b:aa [1,2])(c d e f:Value)(g:H):R:=bindO (dd E 290 e (some f) none none) λ h=>bindO (dd E 57 h none (some d) none) λ i=>yu c λ j l m=>rc j (ny l m [i]) g λ _ n=>PN E a b d n
def an6 (a:(aa [1,2])→H→R)(b:aa [1,2])(c:V)(d:Addr)(e f:Value)(g:H)(h:Nat):R:=ifB (Nat.ble (Nat.succ d.2) h) (bindO (aT (getF c d.2)) λ i=>binR (binC E .rem 3 false true) b.1 (.int .i64 (.ofNat 4096)) λ j=>apr E rc a b e f i j g)
def alK (a:(aa [1,2])→H→R)(b:aa [1,2])(c:Addr)(d e:Value)(f:H)(g h:Nat):R:=ifB (Nat.ble (Nat.succ g) h) (addOffF c (Nat.mul g 1) λ i=>onPtr i λ j=>onRow (hget f j.1) λ _ l _ _ _ m=>an6 E rc a b m j d e f l)
def aqC (a:(aa [1,2])→H→R)(b:aa [1,2])(c:V)(d:Addr)(e f:Value)(g:H)(h:Nat):R:=ifB (Nat.ble (Nat.succ d.2) h) (binR (binC E .quo 3 false true) b.1 (.int .i64 (.ofNat 4096)) λ i=>onNat i none λ j=>onSl (getF c d.2) none λ l m _=>alK E rc a b l e f g j m)
def am9 (a:(aa [1,2])→H→R)(b:aa [1,2])(c d e:Value)(f:H):R:=bindO (aT c) λ g=>onPtr g λ _=>onPtr g λ h=>onRow (hget f h.1) λ _ i _ _ _ j=>aqC E rc a b j h d e f i
def alM (a:(aa [1,2])→H→R)(b:aa [1,2])(c d e:Value)(f:H):R:=binR (binC E .sub 3 true false) (.int .i64 (.ofNat 4096)) e λ g=>bindO (bn E f Builtin.min [b.2.1,g] [3,3]) λ h=>am9 E rc a b c d h f
def ak7 (a:(aa [1,2])→H→R)(b:aa [1,2])(c d:Value)(e:H):R:=@joinR [1,2] (λ f g=>a (f.1,(f.2.1,())) g) λ f=>binR (binC E .rem 3 false true) b.1 (.int .i64 (.ofNat 4096)) λ g=>alM E rc f b c d g e
def aoK (a:(aa [1,2])→H→R)(b:(aa [])→H→R)(c:aa [1,2])(d e:Value)(f:H):R:=binR (binC E .gtr 3 false true) c.2.1 (.int .i64 (.ofNat 0)) λ g=>@joinR [] (λ _ h=>ak7 E rc a c d e h) λ h=>onB g (b () f) (h () f)
def g85 (E:Env)(rc:RC)(a0 a1 a2 a3:Value)(h:H)(k:Value→H→R):R:=@joinR [] (λ _ a=>k (.tuple ⟨[]⟩) a) λ a=>@loopF [1,2] (λ b c d=>aoK E rc b a c a0 a3 d) 1000000 (a1,(a2,())) h
theorem agA (t:ak)(rc:RC)(a0 a1 a2 a3:Value)(h:H)(k:Value→H→R):(ax (EX t) KK 160).run rc [a0,a1,a2,a3] h k = g85 (EX t) rc a0 a1 a2 a3 h k:=by kernel_rfl
def alu (a b:H):R:=bindO (aU E b 131 (Addr.mk a.1 0 none)) λ c=>ifB (nT [c,.int .i64 (.ofNat 0)]) (k (.tuple ⟨[c,.int .i64 (.ofNat 0)]⟩) b)
def an7 (a:L)(b:V)(c d:Bool)(e:TypeId)(f g:H)(h i:Nat):R:=ifB (notB d) (ifB (Nat.beq (lenF a) 3) (ifB (Nat.ble i 0) (ifB (Nat.ble 3 h) (ifB (Nat.ble h 1000000000) (ifB (allF (λ j=>cell1F j) a) (letH (hset g f.1 (.row e h c false i (putF b 0 a))) λ j=>alu E k f j))))))
def alR (a b c:Value)(d e:H):R:=bindO (cg E 131 [(0,a),(1,b),(2,c)]) λ f=>onCells f λ g=>onRow (hget e d.1) λ h i j l m n=>an7 E k g n j l h d e i m
def PL (a:V)(b c:Bool)(d:TypeId)(e:Value)(f g:H)(h i:Nat):R:=ifB (notB c) (ifB (Nat.beq (lenF (cellsOfV (.agg (@List.toArray Value [.pointer none,.int .i64 (.ofNat 0),.int .i64 (.ofNat 0)])))) 3) (ifB (Nat.ble i 0) (ifB (Nat.ble 3 h) (ifB (Nat.ble h 1000000000) (ifB (allF (λ j=>cell1F j) (cellsOfV (.agg (@List.toArray Value [.pointer none,.int .i64 (.ofNat 0),.int .i64 (.ofNat 0)])))) (letH (hset g f.1 (.row d h b false i (putF a 0 (cellsOfV (.agg (@List.toArray Value [.pointer none,.int .i64 (.ofNat 0),.int .i64 (.ofNat 0)])))))) λ j=>bindO (aU E j 131 (Addr.mk f.1 0 none)) λ l=>ifB (nT [l,e]) (k (.tuple ⟨[l,e]⟩) j)))))))
def apI (a b c d e:Value)(f g:H):R:=@joinR [7] (λ _ h=>alR E k a b c f h) λ h=>onB e (h (.int .i64 (.ofNat 0),()) g) (onRow (hget g f.1) λ i j l m n o=>PL E k o l m i d f g j n)
def apY (a:L)(b c d:Value)(e f:H):R:=nthF 1 a λ g=>binR (binC E .neq 24 false true) g (.int .i64 (.ofNat 0)) λ h=>apI E k b c d g h e f
def g87 (E:Env)(rc:RC)(a0 a1 a2:Value)(h:H)(k:Value→H→R):R:=ifB (Nat.ble h.1 1000000000) (letH (ag h (.row 131 3 false false 0 (T.ofList unk [.pointer none,.int .i64 (.ofNat 0),.int .i64 (.ofNat 0)]))) λ a=>rc 243 [a0,a1,a2] a λ b c=>onTup b λ d=>nthF 0 d λ _=>onTup b λ e=>apY E k e a0 a1 a2 h c)
theorem ag8 (t:ak)(rc:RC)(a0 a1 a2:Value)(h:H)(k:Value→H→R):(ax (EX t) KK 162).run rc [a0,a1,a2] h k = g87 (EX t) rc a0 a1 a2 h k:=by kernel_rfl
def aqB (a:L)(b:V)(c d:Bool)(e:TypeId)(f:Value)(g h:H)(i j:Nat):R:=ifB (notB d) (ifB (Nat.beq (lenF a) 3) (ifB (Nat.ble j 0) (ifB (Nat.ble 3 i) (ifB (Nat.ble i 1000000000) (ifB (allF (λ l=>cell1F l) a) (letH (hset h g.1 (.row e i c false j (putF b 0 a))) λ l=>bindO (aU E l 131 (Addr.mk g.1 0 none)) λ m=>ifB (nT [m,f]) (k (.tuple ⟨[m,f]⟩) l)))))))
def apJ (a b:Value)(c d:H):R:=onTup a λ e=>nthF 1 e λ f=>onCells b λ g=>onRow (hget d c.1) λ h i j l m n=>aqB E k g n j l h f c d i m
def an0 (a b:V)(c d:Value)(e f:H)(g:Nat):R:=ifB (Nat.ble 2 g) (binR (binC E .add 3 false false) (getF b 1) c λ h=>rc 162 [getF a 0,h,d] f λ i j=>onTup i λ l=>nthF 0 l λ m=>apJ E k i m e j)
def ami (a b:Value)(c d e:H):R:=onRow (hget e c.1) λ _ f _ _ _ g=>ifB (Nat.ble 1 f) (onRow (hget e c.1) λ _ h _ _ _ i=>an0 E rc k g i a b d e h)
def anq (a:(aa [7])→H→R)(b c:Value)(d e:H):R:=onB c (a (.int .i64 (.ofNat 0),()) e) (onRow (hget e d.1) λ f g h i j l=>PL E k l h i f b d e g j)
def al5 (a b c:Value)(d e f:H):R:=binR (binC E .neq 24 false true) c (.int .i64 (.ofNat 0)) λ g=>@joinR [7] (λ _ h=>ami E rc k a b d e h) λ h=>anq E k h c g e f
def amB (a b:Value)(c d e:H):R:=onRow (hget e c.1) λ _ f _ _ _ g=>ifB (Nat.ble 3 f) (rc 170 [.agg ⟨ac g 3 0⟩,a,b] e λ h i=>al5 E rc k a b h c d i)
def aoF (a b:Value)(c d:H):R:=ifB (Nat.ble d.1 1000000000) (letH (ag d (.row 131 3 false false 0 (T.ofList unk [.pointer none,.int .i64 (.ofNat 0),.int .i64 (.ofNat 0)]))) λ e=>amB E rc k a b c d e)
def aqh (a:L)(b c:Value)(d:H):R:=ifB (allF (λ e=>cell1F e) a) (ifB (Nat.ble d.1 1000000000) (letH (ag d (.row 131 (lenF a) false false 0 (T.ofList unk a))) λ e=>aoF E rc k b c d e))
def g88 (E:Env)(rc:RC)(a0 a1 a2:Value)(h:H)(k:Value→H→R):R:=onCells a0 λ a=>aqh E rc k a a1 a2 h
theorem ab0 (t:ak)(rc:RC)(a0 a1 a2:Value)(h:H)(k:Value→H→R):(ax (EX t) KK 163).run rc [a0,a1,a2] h k = g88 (EX t) rc a0 a1 a2 h k:=by kernel_rfl
def anM (a b:V)(c d e:Value)(f:H)(g:Nat):R:=ifB (Nat.ble 2 g) (binR (binC E .add 3 false false) (getF b 1) c λ h=>rc 102 [getF a 0,h,d,e] f λ i j=>k i j)
def alv (a b c:Value)(d e:H):R:=onRow (hget e d.1) λ _ f _ _ _ g=>ifB (Nat.ble 1 f) (onRow (hget e d.1) λ _ h _ _ _ i=>anM E rc k g i a b c e h)
def aoh (a b c d:Value)(e f:H):R:=binR (binC E .neq 24 false true) d (.int .i64 (.ofNat 0)) λ g=>@joinR [8] (λ _ h=>alv E rc k a b c e h) λ h=>onB g (h (.int .i64 (.ofNat 0),()) f) (k d f)
def apF (a b c:Value)(d e:H):R:=onRow (hget e d.1) λ _ f _ _ _ g=>ifB (Nat.ble 3 f) (rc 170 [.agg ⟨ac g 3 0⟩,a,b] e λ h i=>aoh E rc k a b c h d i)
def aoT (a:L)(b c d:Value)(e:H):R:=ifB (allF (λ f=>cell1F f) a) (ifB (Nat.ble e.1 1000000000) (letH (ag e (.row 131 (lenF a) false false 0 (T.ofList unk a))) λ f=>apF E rc k b c d e f))
def g93 (E:Env)(rc:RC)(a0 a1 a2 a3:Value)(h:H)(k:Value→H→R):R:=onCells a0 λ a=>aoT E rc k a a1 a2 a3 h
theorem ada (t:ak)(rc:RC)(a0 a1 a2 a3:Value)(h:H)(k:Value→H→R):(ax (EX t) KK 168).run rc [a0,a1,a2,a3] h k = g93 (EX t) rc a0 a1 a2 a3 h k:=by kernel_rfl
def akX (a b c:Value)(d e:H):R:=bindO (dd E 303 (.pointer (some (Addr.mk d.1 0 none))) none (some c) none) λ f=>bindO (aQ E e 57 9 f) λ g=>rc 248 [a,b,g] e λ h i=>k h i
def PM (a:(aa [])→H→R)(b:L)(c:V)(d e:Bool)(f:Addr)(g:TypeId)(h:H)(i j:Nat):R:=ifB (notB e) (ifB (Nat.beq (lenF b) 1) (ifB (Nat.ble j f.2) (ifB (Nat.ble (Nat.add f.2 1) i) (ifB (Nat.ble i 1000000000) (ifB (allF (λ l=>cell1F l) b) (letH (hset h f.1 (.row g i d false j (putF c f.2 b))) λ l=>a () l))))))
def aqM (a:(aa [])→H→R)(b:Value)(c d:H)(e:Nat):R:=ifB (Nat.ble (Nat.succ e) 8) (addOffF (Addr.mk c.1 0 none) (Nat.mul e 1) λ f=>onPtr f λ g=>onCells b λ h=>onRow (hget d g.1) λ i j l m n o=>PM a h o l m g i d j n)
def aop (a:(aa [])→H→R)(b:aa [18])(c:Value)(d e:H):R:=joinL (λ f=>onNat b.1 none λ g=>aqM a f d e g) λ f=>onNat c (bindO (aQ E e 92 5 c) f) λ g=>@Bool.rec (λ _=>R) (bindO (aQ E e 92 5 c) f) (f (.int .u8 (.ofNat g))) (Nat.ble g 255)
def aq9 (a:(aa [])→H→R)(b:aa [18])(c:Value)(d e:H):R:=binR (binC E .mul 3 true false) (.int .i64 (.ofNat 8)) b.1 λ f=>binR (binC E .shr 92 false false) c f λ g=>aop E a b g d e
def aqi (a:(aa [18])→H→R)(b:aa [18])(c:Value)(d e:H):R:=@joinR [] (λ _ f=>binR (binC E .add 3 false true) b.1 (.int .i64 (.ofNat 1)) λ g=>a (g,()) f) λ f=>aq9 E f b c d e
def alJ (a:(aa [18])→H→R)(b:(aa [])→H→R)(c:aa [18])(d:Value)(e f:H):R:=binR (binC E .lss 3 false true) c.1 (.int .i64 (.ofNat 8)) λ g=>@joinR [] (λ _ h=>aqi E a c d e h) λ h=>onB g (b () f) (h () f)
def aod (a b c d:Value)(e:H):R:=ifB (Nat.ble e.1 1000000000) (letH (ag e (.row 303 8 false false 0 (@T.c Value (.int .u8 (.ofNat 0))))) λ f=>@joinR [] (λ _ g=>akX E rc k a b c e g) λ g=>@loopF [18] (λ h i j=>alJ E h g i d e j) 1000000 (.int .i64 (.ofNat 0),()) f)
def aqS (a:(aa [8])→H→R)(b:Value)(c:H):R:=onB b (@joinR [8] (λ d e=>a (d.1,()) e) λ _=>k (.int .i64 (.ofNat 2)) c) (@joinR [8] (λ d e=>a (d.1,()) e) λ d=>d (.int .i64 (.ofNat 0),()) c)
def amF (a:(aa [8])→H→R)(b c:Value)(d:H):R:=binR (binC E .eql 123 false true) b (.pointer none) λ e=>@joinR [8] (λ f g=>a (f.1,()) g) λ f=>onB e (rc 247 [c] d λ g h=>aqS k f g h) (k (.int .i64 (.ofNat 1)) d)
def g96 (E:Env)(rc:RC)(a0 a1 a2 a3:Value)(h:H)(k:Value→H→R):R:=@joinR [8] (λ _ a=>aod E rc k a0 a1 a2 a3 a) λ a=>amF E rc k a a0 a2 h
theorem acr (t:ak)(rc:RC)(a0 a1 a2 a3:Value)(h:H)(k:Value→H→R):(ax (EX t) KK 171).run rc [a0,a1,a2,a3] h k = g96 (EX t) rc a0 a1 a2 a3 h k:=by kernel_rfl
def al1 (a b:Value)(c:H):R:=binR (binC E .add 92 false false) a b λ d=>ifB (nT [d,.int .i64 (.ofNat 0)]) (k (.tuple ⟨[d,.int .i64 (.ofNat 0)]⟩) c)
def apb (a:aa [2,3,13])(b:Value→R)(c:H):R:=onNat a.2.2.1 (bindO (aQ E c 3 92 a.2.2.1) b) λ d=>@Bool.rec (λ _=>R) (bindO (aQ E c 3 92 a.2.2.1) b) (b (.int .u64 (.ofNat d))) (Nat.ble d 18446744073709551615)
def amI (a:aa [2,3,13])(b:Value)(c:H):R:=binR (binC E .mul 92 false true) b (.int .u64 (.ofNat 256)) λ d=>joinL (λ e=>al1 E k d e c) λ e=>apb E a e c
def aqz (a:(aa [2,3])→H→R)(b:aa [2,3,13])(c d:Value)(e:H):R:=onB d (a (b.1,(b.2.1,())) e) (binR (binC E .add 92 false true) c (.int .u64 (.ofNat 1)) λ f=>amI E k b f e)
def ao8 (a:(aa [2,3])→H→R)(b:aa [2,3,13])(c d e:Value)(f:H):R:=onB d (@joinR [2,3] (λ g h=>a (g.1,(g.2.1,())) h) λ g=>g (b.1,(b.2.1,())) f) (@joinR [2,3] (λ g h=>a (g.1,(g.2.1,())) h) λ g=>aqz E k g b c e f)
def an3 (a:Value→H→R)(b c:Value)(d:H):R:=aB b (a undef d) (binR (binC E .lss 92 false true) c (.int .u64 (.ofNat 72057594037927935)) λ e=>a e d) (a undef d)
def akx (a:(aa [2,3])→H→R)(b:aa [2,3,13])(c d:Value)(e:H):R:=ae (λ f g=>ae (λ h i=>ao8 E k a b c d h i) λ h=>an3 E h d f g) λ f=>aB d (f undef e) (f c e) (f undef e)
def alm (a:(aa [2,3])→H→R)(b:aa [2,3,13])(c:L)(d:Value)(e:H):R:=nthF 1 c λ f=>binR (binC E .eql 3 false true) d (.int .i64 (.ofNat 0)) λ g=>akx E k a b f g e
def aoQ (a:(aa [2,3])→H→R)(b:aa [2,3,13])(c:V)(d:H)(e:Nat):R:=ifB (Nat.ble 3 e) (rc 250 [.agg ⟨ac c 3 0⟩,b.2.2.1] d λ f g=>onTup f λ h=>nthF 0 h λ i=>onTup f λ j=>alm E k a b j i g)
def amX (a:(aa [2,3,13])→H→R)(b:aa [2,3,13])(c d:H):R:=@joinR [2,3] (λ e f=>binR (binC E .add 3 false true) b.2.2.1 (.int .i64 (.ofNat 1)) λ g=>a (e.1,(e.2.1,(g,()))) f) λ e=>onRow (hget d c.1) λ _ f _ _ _ g=>aoQ E rc k e b g d f
def VF (a:(aa [2,3,13])→H→R)(b:(aa [2,3])→H→R)(c:aa [2,3,13])(d:Value)(e f:H):R:=binR (binC E .lss 3 false false) c.2.2.1 d λ g=>@joinR [] (λ _ h=>amX E rc k a c e h) λ h=>onB g (b (c.1,(c.2.1,())) f) (h () f)
def aip (a:aa [2,3])(b:Value)(c d:H):R:=@joinR [2,3] (λ _ e=>k (.tuple ⟨[.int .u64 (.ofNat 0),.int .i64 (.ofNat 10)]⟩) e) λ e=>@loopF [2,3,13] (λ f g h=>VF E rc k f e g b c h) 1000000 (a.1,(a.2.1,(.int .i64 (.ofNat 0),()))) d
def ahW (a:aa [2,3])(b c:H):R:=onRow (hget c b.1) λ _ d _ _ _ e=>ifB (Nat.ble 3 d) (rc 249 [.agg ⟨ac e 3 0⟩] c λ f g=>aip E rc k a f b g)
def VW (a:(aa [2,3])→H→R)(b:Value)(c:H):R:=onB b (a (.int .u64 (.ofNat 0),(.int .i64 (.ofNat 0),())) c) (k (.tuple ⟨[.int .u64 (.ofNat 0),.int .i64 (.ofNat 1)]⟩) c)
def Xu (a:V)(b c:H)(d:Nat):R:=ifB (Nat.ble 1 d) (binR (binC E .eql 123 false true) (getF a 0) (.pointer none) λ e=>@joinR [2,3] (λ f g=>ahW E rc k f b g) λ f=>VW k f e c)
def Uu (a:L)(b:H):R:=ifB (allF (λ c=>cell1F c) a) (ifB (Nat.ble b.1 1000000000) (letH (ag b (.row 133 (lenF a) false false 0 (T.ofList unk a))) λ c=>onRow (hget c b.1) λ _ d _ _ _ e=>Xu E rc k e b c d))
def g97 (E:Env)(rc:RC)(a0:Value)(h:H)(k:Value→H→R):R:=onCells a0 λ a=>Uu E rc k a h
theorem ahD (t:ak)(rc:RC)(a0:Value)(h:H)(k:Value→H→R):(ax (EX t) KK 172).run rc [a0] h k = g97 (EX t) rc a0 h k:=by kernel_rfl
def afL (a:aa [4,5,6])(b c d e:Value)(f:H):R:=onB d (@joinR [4,5,6] (λ _ g=>ifB (nT [b,c,.int .i64 (.ofNat 0)]) (k (.tuple ⟨[b,c,.int .i64 (.ofNat 0)]⟩) g)) λ g=>onB e (g (a.1,(a.2.1,(a.2.2.1,()))) f) (k (.tuple ⟨[.int .i64 (.ofNat 0),.int .i64 (.ofNat 0),.int .i64 (.ofNat 6)]⟩) f)) (@joinR [4,5,6] (λ _ g=>ifB (nT [b,c,.int .i64 (.ofNat 0)]) (k (.tuple ⟨[b,c,.int .i64 (.ofNat 0)]⟩) g)) λ _=>k (.tuple ⟨[.int .i64 (.ofNat 0),.int .i64 (.ofNat 0),.int .i64 (.ofNat 6)]⟩) f)
def Qm (a:aa [4,5,6])(b c d e f:Value)(g:H):R:=ae (λ h i=>afL k a b c d h i) λ h=>aB d (binR (binC E .neq 92 false false) e f λ i=>h i g) (h undef g) (h undef g)
def Tc (a:Value→H→R)(b c:Value)(d:H):R:=aB b (binR (binC E .quo 92 false true) c (.int .u64 (.ofNat 256)) λ e=>a e d) (a undef d) (a undef d)
def RV (a:aa [4,5,6])(b c d e f:Value)(g:H):R:=ae (λ h i=>ae (λ j l=>Qm E k a b c e h j l) λ j=>aB e (j d i) (j undef i) (j undef i)) λ h=>Tc E h e f g
def aa4 (a:aa [4,5,6])(b c d e:Value)(f:H):R:=binR (binC E .eql 3 false true) d (.int .i64 (.ofNat 0)) λ g=>ae (λ h i=>RV E k a c d e g h i) λ h=>aB g (h b f) (h undef f) (h undef f)
def ag0 (a:aa [4,5,6])(b:V)(c d:Value)(e:H)(f:Nat):R:=ifB (Nat.ble 3 f) (rc 250 [.agg ⟨ac b 3 0⟩,d] e λ g h=>onTup g λ i=>nthF 0 i λ j=>onTup g λ l=>nthF 1 l λ m=>aa4 E k a c d j m h)
def RI (a:aa [4,5,6])(b c d:Value)(e f:H):R:=@joinR [4,5,6] (λ g h=>onRow (hget h e.1) λ _ i _ _ _ j=>ag0 E rc k g j b c h i) λ g=>onB d (g (a.1,(a.2.1,(a.2.2.1,()))) f) (k (.tuple ⟨[.int .i64 (.ofNat 0),.int .i64 (.ofNat 0),.int .i64 (.ofNat 6)]⟩) f)
def aeN (a:aa [4,5,6])(b:V)(c d:Value)(e f:H)(g:Nat):R:=ifB (Nat.ble 3 g) (rc 249 [.agg ⟨ac b 3 0⟩] f λ h i=>binR (binC E .geq 3 false false) d h λ j=>RI E rc k a c d j e i)
def zW (a:Value→R)(b:Value)(c:H):R:=onNat b (bindO (aQ E c 102 3 b) a) λ d=>@Bool.rec (λ _=>R) (bindO (aQ E c 102 3 b) a) (a (.int .i64 (.ofNat d))) (Nat.ble d 9223372036854775807)
def P5 (a:aa [4,5,6])(b:Value)(c d:H):R:=binR (binC E .rem 102 false true) b (.int .u64 (.ofNat 256)) λ e=>joinL (λ f=>onRow (hget d c.1) λ _ g _ _ _ h=>aeN E rc k a h b f c d g) λ f=>zW E f e d
def FY (a:(aa [4,5,6])→H→R)(b:Value)(c:H):R:=onB b (a (.int .i64 (.ofNat 0),(.int .i64 (.ofNat 0),(.int .i64 (.ofNat 0),()))) c) (k (.tuple ⟨[.int .i64 (.ofNat 0),.int .i64 (.ofNat 0),.int .i64 (.ofNat 1)]⟩) c)
def LS (a:V)(b:Value)(c d:H)(e:Nat):R:=ifB (Nat.ble 1 e) (binR (binC E .eql 123 false true) (getF a 0) (.pointer none) λ f=>@joinR [4,5,6] (λ g h=>P5 E rc k g b c h) λ g=>FY k g f d)
def FB (a:L)(b:Value)(c:H):R:=ifB (allF (λ d=>cell1F d) a) (ifB (Nat.ble c.1 1000000000) (letH (ag c (.row 133 (lenF a) false false 0 (T.ofList unk a))) λ d=>onRow (hget d c.1) λ _ e _ _ _ f=>LS E rc k f b c d e))
def Qd (E:Env)(rc:RC)(a0 a1:Value)(h:H)(k:Value→H→R):R:=onCells a0 λ a=>FB E rc k a a1 h
theorem KR (t:ak)(rc:RC)(a0 a1:Value)(h:H)(k:Value→H→R):(ax (EX t) KK 265).run rc [a0,a1] h k = Qd (EX t) rc a0 a1 h k:=by kernel_rfl
def Vd (a:L)(b:V)(c d:Bool)(e:TypeId)(f g:H)(h i:Nat):R:=ifB (notB d) (ifB (Nat.beq (lenF a) 12) (ifB (Nat.ble i 0) (ifB (Nat.ble 12 h) (ifB (Nat.ble h 1000000000) (ifB (allF (λ j=>cell1F j) a) (letH (hset g f.1 (.row e h c false i (putF b 0 a))) λ j=>Pz E k f j))))))
def W9 (a b:V)(c:Value)(d e:H)(f:Nat):R:=ifB (Nat.ble 3 f) (ifB (aj (.agg ⟨ac b 3 0⟩) (.agg ⟨ac a 3 0⟩)) (bindO (cg E 148 [(0,c),(1,.agg ⟨ac a 3 0⟩)]) λ g=>onCells g λ h=>onRow (hget e d.1) λ i j l m n o=>Vd E k h o l m i d e j n))
def aeS (a b:V)(c d e:H)(f:Nat):R:=ifB (Nat.ble 3 f) (rc 283 [.agg ⟨ac a 9 0⟩] e λ g h=>onRow (hget h d.1) λ _ i _ _ _ j=>W9 E k b j g c h i)
def acz (a b c d:H):R:=onRow (hget d c.1) λ _ e _ _ _ f=>ifB (Nat.ble 9 e) (onRow (hget d b.1) λ _ g _ _ _ h=>aeS E rc k f h a b d g)
def RZ (a:aa [5])(b:Value)(c d e f:H):R:=@joinR [5] (λ _ g=>ifB (Nat.ble g.1 1000000000) (letH (H.mk g.1 g.2) λ h=>acz E rc k c d e h)) λ g=>onB b (g (a.1,()) f) (onRow (hget f c.1) λ h i j l m n=>wR E k n j l h c f i m)
def agj (a:aa [5])(b:L)(c:V)(d e:Bool)(f:TypeId)(g:Value)(h i j l:H)(m n:Nat):R:=ifB (notB e) (ifB (Nat.beq (lenF b) 9) (ifB (Nat.ble n 0) (ifB (Nat.ble 9 m) (ifB (Nat.ble m 1000000000) (ifB (allF (λ o=>cell1F o) b) (letH (hset l j.1 (.row f m d false n (putF c 0 b))) λ o=>binR (binC E .neq 24 false true) g (.int .i64 (.ofNat 0)) λ p=>RZ E rc k a p h i j o))))))
def adY (a:aa [5])(b c:Value)(d e f:H):R:=ifB (Nat.ble f.1 1000000000) (letH (ag f (.row 144 9 false false 0 (T.ofList unk [.pointer none,.pointer none,.int .i64 (.ofNat 0),.int .i64 (.ofNat 0),.int .u64 (.ofNat 0),.pointer none,.int .i64 (.ofNat 0),.int .i64 (.ofNat 0),.int .i64 (.ofNat 0)]))) λ g=>onCells b λ h=>onRow (hget g f.1) λ i j l m n o=>agj E rc k a h o l m i c d e f g j n)
def Jg (a:aa [5])(b c:V)(d:Value)(e f g:H)(h:Nat):R:=ifB (Nat.ble 3 h) (rc 282 [d,.agg ⟨ac b 3 0⟩,getF c 2,.int .i64 (.ofNat 1024)] g λ i j=>onTup i λ l=>nthF 0 l λ m=>onTup i λ n=>nthF 1 n λ o=>adY E rc k a m o e f j)
def J3 (a:aa [5])(b:Value)(c d e f g:H):R:=onRow (hget g f.1) λ _ h _ _ _ i=>ifB (Nat.ble 3 h) (onRow (hget g c.1) λ _ j _ _ _ l=>Jg E rc k a i l b d e g j)
def Dz (a:aa [5])(b:L)(c:V)(d e:Bool)(f:TypeId)(g:Value)(h i j l m:H)(n o:Nat):R:=ifB (notB e) (ifB (Nat.beq (lenF b) 3) (ifB (Nat.ble o 0) (ifB (Nat.ble 3 n) (ifB (Nat.ble n 1000000000) (ifB (allF (λ p=>cell1F p) b) (letH (hset m l.1 (.row f n d false o (putF c 0 b))) λ p=>J3 E rc k a g h i j l p))))))
def Gp (a:aa [5])(b c:Value)(d e f g:H):R:=ifB (Nat.ble g.1 1000000000) (letH (ag g (.row 131 3 false false 0 (T.ofList unk [.pointer none,.int .i64 (.ofNat 0),.int .i64 (.ofNat 0)]))) λ h=>onCells c λ i=>onRow (hget h g.1) λ j l m n o p=>Dz E rc k a i p m n j b d e f g h l o)
def IW (a:aa [5])(b:V)(c:Value)(d e f g:H)(h:Nat):R:=ifB (Nat.ble 3 h) (rc 163 [.agg ⟨ac b 3 0⟩,.int .i64 (.ofNat 128),.int .i64 (.ofNat 32)] g λ i j=>onTup i λ l=>nthF 0 l λ m=>onTup i λ n=>nthF 1 n λ _=>Gp E rc k a c m d e f j)
def J9 (a:(aa [5])→H→R)(b c:Value)(d e:H):R:=onB c (a (.int .i64 (.ofNat 0),()) e) (onRow (hget e d.1) λ f g h i j l=>qY E k l h i f b d e g j)
def Ga (a b c:Value)(d e f g:H):R:=@joinR [5] (λ h i=>onRow (hget i f.1) λ _ j _ _ _ l=>IW E rc k h l a d e f i j) λ h=>J9 E k h b c e g
def Eu (a b c:Value)(d e f g:H):R:=ifB (aj c b) (binR (binC E .neq 24 false true) b (.int .i64 (.ofNat 0)) λ h=>Ga E rc k a b h d e f g)
def C1 (a:L)(b:V)(c d:Bool)(e:TypeId)(f g h:Value)(i j l m:H)(n o:Nat):R:=ifB (notB d) (ifB (Nat.beq (lenF a) 3) (ifB (Nat.ble o 0) (ifB (Nat.ble 3 n) (ifB (Nat.ble n 1000000000) (ifB (allF (λ p=>cell1F p) a) (letH (hset m l.1 (.row e n c false o (putF b 0 a))) λ p=>onTup g λ q=>nthF 1 q λ r=>Eu E rc k f h r i j l p))))))
def I7 (a:L)(b c d:Value)(e f g h:H):R:=nthF 1 a λ i=>onCells d λ j=>onRow (hget h g.1) λ l m n o p q=>C1 E rc k j q n o l b c i e f g h m p
def IE (a:V)(b:Addr)(c d:Value)(e f g h:H):R:=rc 162 [getF a b.2,d,.int .i64 (.ofNat 992)] h λ i j=>onTup i λ l=>nthF 0 l λ m=>onTup i λ n=>I7 E rc k n c i m e f g j
def Ib (a:V)(b:Addr)(c d:Value)(e f g h:H):R:=letH (hset h g.1 (.row 131 3 false false 0 (T.ofList unk [.pointer none,.int .i64 (.ofNat 0),.int .i64 (.ofNat 0)]))) λ i=>IE E rc k a b c d e f g i
def G7 (a b:V)(c:Addr)(d:Value)(e f g h:H)(i:Nat):R:=ifB (Nat.ble 1 i) (binR (binC E .add 3 false true) (getF b 0) (.int .i64 (.ofNat 32)) λ j=>Ib E rc k a c d j e f g h)
def NC (a:Addr)(b:Value)(c d e f:H):R:=onRow (hget f a.1) λ _ g _ _ _ h=>ifB (Nat.ble (Nat.succ a.2) g) (onRow (hget f c.1) λ _ i _ _ _ j=>G7 E rc k h j a b c d e f i)
def Da (a:Addr)(b:Value)(c d e f:H):R:=onRow (hget f a.1) λ _ g _ _ _ h=>ifB (Nat.ble (Nat.succ a.2) g) (bindO (aT (getF h a.2)) λ i=>onPtr i λ _=>onPtr i λ j=>NC E rc k j b c d e f)
def EL (a:Value)(b c d:H):R:=ifB (Nat.ble d.1 1000000000) (letH (H.mk (Nat.add d.1 1) d.2) λ e=>bindO (aT a) λ f=>onPtr f λ _=>onPtr f λ g=>Da E rc k g a b c d e)
def MQ (a:Value)(b c:H):R:=ifB (Nat.ble c.1 1000000000) (letH (ag c (.row 148 12 false false 0 (T.ofList unk [.pointer none,.pointer none,.int .i64 (.ofNat 0),.int .i64 (.ofNat 0),.int .u64 (.ofNat 0),.pointer none,.int .i64 (.ofNat 0),.int .i64 (.ofNat 0),.int .i64 (.ofNat 0),.pointer none,.int .i64 (.ofNat 0),.int .i64 (.ofNat 0)]))) λ d=>EL E rc k a b c d)
def Em (a:L)(b:Value)(c:H):R:=ifB (allF (λ d=>cell1F d) a) (ifB (Nat.ble c.1 1000000000) (letH (ag c (.row 199 (lenF a) false false 0 (T.ofList unk a))) λ d=>MQ E rc k b c d))
def ahy (E:Env)(rc:RC)(a0 a1:Value)(h:H)(k:Value→H→R):R:=onCells a1 λ a=>Em E rc k a a0 h
theorem Gc (t:ak)(rc:RC)(a0 a1:Value)(h:H)(k:Value→H→R):(ax (EX t) KK 201).run rc [a0,a1] h k = ahy (EX t) rc a0 a1 h k:=by kernel_rfl
def SA (a:Value)(b c:H):R:=onRow (hget c b.1) λ _ d _ _ _ e=>ifB (Nat.ble 12 d) (rc 114 [.agg ⟨ac e 12 0⟩,a] c λ f g=>joinL (λ h=>k h g) λ h=>jA E h f g)
def T9 (a b:Value)(c d:H):R:=binR (binC E .neq 24 false true) b (.int .i64 (.ofNat 0)) λ e=>@joinR [6] (λ _ f=>SA E rc k a c f) λ f=>onB e (f (.int .i64 (.ofNat 0),()) d) (k (.int .i64 (.ofNat 0)) d)
def Tr (a:L)(b:V)(c d:Bool)(e:TypeId)(f g:Value)(h i:H)(j l:Nat):R:=ifB (notB d) (ifB (Nat.beq (lenF a) 12) (ifB (Nat.ble l 0) (ifB (Nat.ble 12 j) (ifB (Nat.ble j 1000000000) (ifB (allF (λ m=>cell1F m) a) (letH (hset i h.1 (.row e j c false l (putF b 0 a))) λ m=>T9 E rc k f g h m))))))
def Wh (a b c:Value)(d:H):R:=ifB (Nat.ble d.1 1000000000) (letH (ag d (.row 148 12 false false 0 (T.ofList unk [.pointer none,.pointer none,.int .i64 (.ofNat 0),.int .i64 (.ofNat 0),.int .u64 (.ofNat 0),.pointer none,.int .i64 (.ofNat 0),.int .i64 (.ofNat 0),.int .i64 (.ofNat 0),.pointer none,.int .i64 (.ofNat 0),.int .i64 (.ofNat 0)]))) λ e=>onCells b λ f=>onRow (hget e d.1) λ g h i j l m=>Tr E rc k f m i j g a c d e h l)
def yE (a:V)(b c:Value)(d:H)(e:Nat):R:=ifB (Nat.ble 1 e) (rc 126 [getF a 0,b] d λ f g=>onTup f λ h=>nthF 0 h λ i=>onTup f λ j=>nthF 1 j λ l=>Wh E rc k c i l g)
def abR (a:L)(b c:Value)(d:H):R:=ifB (allF (λ e=>cell1F e) a) (ifB (Nat.ble d.1 1000000000) (letH (ag d (.row 127 (lenF a) false false 0 (T.ofList unk a))) λ e=>onRow (hget e d.1) λ _ f _ _ _ g=>yE E rc k g b c e f))
def YP (E:Env)(rc:RC)(a0 a1 a2:Value)(h:H)(k:Value→H→R):R:=onCells a0 λ a=>abR E rc k a a1 a2 h
theorem Ln (t:ak)(rc:RC)(a0 a1 a2:Value)(h:H)(k:Value→H→R):(ax (EX t) KK 266).run rc [a0,a1,a2] h k = YP (EX t) rc a0 a1 a2 h k:=by kernel_rfl
def aqq (a:Value)(b c:H):R:=onRow (hget c b.1) λ _ d _ _ _ e=>ifB (Nat.ble 1 d) (rc 266 [.agg ⟨ac e 1 0⟩,a,.int .i64 (.ofNat 1)] c λ f g=>k f g)
def apn (a:L)(b:Value)(c:H):R:=ifB (allF (λ d=>cell1F d) a) (ifB (Nat.ble c.1 1000000000) (letH (ag c (.row 127 (lenF a) false false 0 (T.ofList unk a))) λ d=>aqq rc k b c d))
def g49 (E:Env)(rc:RC)(a0 a1:Value)(h:H)(k:Value→H→R):R:=onCells a0 λ a=>apn rc k a a1 h
theorem adC (t:ak)(rc:RC)(a0 a1:Value)(h:H)(k:Value→H→R):(ax (EX t) KK 185).run rc [a0,a1] h k = g49 (EX t) rc a0 a1 h k:=by kernel_rfl
def afq (a:Value)(b:H):R:=binR (binC E .quo 3 false true) a (.int .i64 (.ofNat 16)) λ c=>bindO (bn E b Builtin.min [c,.int .i64 (.ofNat 256)] [3,3]) λ d=>k d b
def ac9 (a b:H):R:=onRow (hget b a.1) λ _ c _ _ _ d=>ifB (Nat.ble 3 c) (rc 245 [.agg ⟨ac d 3 0⟩] b λ e f=>afq E k e f)
def Zj (a:L)(b:H):R:=ifB (allF (λ c=>cell1F c) a) (ifB (Nat.ble b.1 1000000000) (letH (ag b (.row 133 (lenF a) false false 0 (T.ofList unk a))) λ c=>ac9 E rc k b c))
def ae3 (E:Env)(rc:RC)(a0:Value)(h:H)(k:Value→H→R):R:=onCells a0 λ a=>Zj E rc k a h
theorem NS (t:ak)(rc:RC)(a0:Value)(h:H)(k:Value→H→R):(ax (EX t) KK 249).run rc [a0] h k = ae3 (EX t) rc a0 h k:=by kernel_rfl
def aiZ (a b c:Value)(d:H):R:=onTup b λ e=>nthF 1 e λ _=>joinL (λ f=>ifB (nT [f,c]) (k (.tuple ⟨[f,c]⟩) d)) λ f=>jA E f a d
def Y6 (a:V)(b c:Value)(d:H):R:=binR (binC E .add 3 false true) c (.int .i64 (.ofNat 8)) λ e=>rc 180 [.agg ⟨ac a 3 0⟩,e,.int .i64 (.ofNat 8)] d λ f g=>onTup f λ h=>nthF 0 h λ i=>aiZ E k b f i g
def UF (a:V)(b c:Value)(d:H)(e:Nat):R:=ifB (Nat.ble 3 e) (binR (binC E .mul 3 false true) b (.int .i64 (.ofNat 16)) λ f=>Y6 E rc k a c f d)
def X9 (a b:Value)(c d:H):R:=onTup b λ e=>nthF 0 e λ f=>onTup b λ g=>nthF 1 g λ _=>onRow (hget d c.1) λ _ h _ _ _ i=>UF E rc k i a f d h
def XY (a:V)(b:Value)(c d:H)(e:Nat):R:=ifB (Nat.ble 3 e) (binR (binC E .mul 3 false true) b (.int .i64 (.ofNat 16)) λ f=>rc 180 [.agg ⟨ac a 3 0⟩,f,.int .i64 (.ofNat 8)] d λ g h=>X9 E rc k b g c h)
def adq (a:L)(b:Value)(c:H):R:=ifB (allF (λ d=>cell1F d) a) (ifB (Nat.ble c.1 1000000000) (letH (ag c (.row 133 (lenF a) false false 0 (T.ofList unk a))) λ d=>onRow (hget d c.1) λ _ e _ _ _ f=>XY E rc k f b c d e))
def Vi (E:Env)(rc:RC)(a0 a1:Value)(h:H)(k:Value→H→R):R:=onCells a0 λ a=>adq E rc k a a1 h
theorem Co (t:ak)(rc:RC)(a0 a1:Value)(h:H)(k:Value→H→R):(ax (EX t) KK 250).run rc [a0,a1] h k = Vi (EX t) rc a0 a1 h k:=by kernel_rfl
def Y3 (a:L)(b:V)(c d:Bool)(e:TypeId)(f:Value)(g h:H)(i j:Nat):R:=ifB (notB d) (ifB (Nat.beq (lenF a) 2) (ifB (Nat.ble j 0) (ifB (Nat.ble 2 i) (ifB (Nat.ble i 1000000000) (ifB (allF (λ l=>cell1F l) a) (letH (hset h g.1 (.row e i c false j (putF b 0 a))) λ l=>bindO (aU E l 299 (Addr.mk g.1 0 none)) λ m=>ifB (nT [m,f]) (k (.tuple ⟨[m,f]⟩) l)))))))
def ag2 (a b c:Value)(d e:H):R:=bindO (cg E 299 [(0,b),(1,c)]) λ f=>onCells f λ g=>onRow (hget e d.1) λ h i j l m n=>Y3 E k g n j l h a d e i m
def XH (a b c:Value)(d e:H):R:=joinL (λ f=>binR (binC E .quo 5 false true) f (.int .u8 (.ofNat 4)) λ g=>ag2 E k b c g d e) λ f=>onNat a (bindO (aQ E e 92 5 a) f) λ g=>@Bool.rec (λ _=>R) (bindO (aQ E e 92 5 a) f) (f (.int .u8 (.ofNat g))) (Nat.ble g 255)
def ace (a b:Value)(c d:H):R:=joinL (λ e=>binR (binC E .rem 5 false true) e (.int .u8 (.ofNat 4)) λ f=>XH E k a b f c d) λ e=>onNat a (bindO (aQ E d 92 5 a) e) λ f=>@Bool.rec (λ _=>R) (bindO (aQ E d 92 5 a) e) (e (.int .u8 (.ofNat f))) (Nat.ble f 255)
def aiY (a:V)(b:Value)(c d:H)(e:Nat):R:=ifB (Nat.ble 3 e) (rc 180 [.agg ⟨ac a 3 0⟩,b,.int .i64 (.ofNat 1)] d λ f g=>onTup f λ h=>nthF 0 h λ i=>onTup f λ j=>nthF 1 j λ l=>ace E k i l c g)
def ajW (a:Value)(b c:H):R:=ifB (Nat.ble c.1 1000000000) (letH (ag c (.row 299 2 false false 0 (T.ofList unk [.int .u8 (.ofNat 0),.int .u8 (.ofNat 0)]))) λ d=>onRow (hget d b.1) λ _ e _ _ _ f=>aiY E rc k f a c d e)
def Ty (a:L)(b:Value)(c:H):R:=ifB (allF (λ d=>cell1F d) a) (ifB (Nat.ble c.1 1000000000) (letH (ag c (.row 176 (lenF a) false false 0 (T.ofList unk a))) λ d=>ajW E rc k b c d))
def SB (E:Env)(rc:RC)(a0 a1:Value)(h:H)(k:Value→H→R):R:=onCells a0 λ a=>Ty E rc k a a1 h
theorem Im (t:ak)(rc:RC)(a0 a1:Value)(h:H)(k:Value→H→R):(ax (EX t) KK 319).run rc [a0,a1] h k = SB (EX t) rc a0 a1 h k:=by kernel_rfl
def uf (a:H):R:=ae (λ _ b=>ae (λ _ c=>ae (λ _ d=>k (.bool false) d) λ d=>d undef c) λ c=>c undef b) λ b=>b undef a
def AP (a:H):R:=ae (λ _ b=>ae (λ _ c=>ae (λ _ d=>ae (λ _ e=>uf k e) λ e=>e undef d) λ d=>d undef c) λ c=>c undef b) λ b=>b undef a
def Wx (a b c:Value)(d:H):R:=ae (λ e f=>onB a (k (.bool false) f) (k e f)) λ e=>aB a (e undef d) (binR (binC E .leq 3 false false) b c λ f=>e f d) (e undef d)
def A5 (a b c d:Value)(e:H):R:=ae (λ f g=>Wx E k a b f g) λ f=>aB a (f undef e) (binR (binC E .sub 3 false false) c d λ g=>f g e) (f undef e)
def lr (a:Value→H→R)(b c:Value)(d:H):R:=aB b (a undef d) (onPtr c λ e=>onRow (hget d e.1) λ _ f _ _ _ g=>ifB (Nat.ble (Nat.succ e.2) f) (a (getF g e.2) d)) (a undef d)
def Tj (a b c d:Value)(e:H):R:=ae (λ f g=>ae (λ h i=>A5 E k b c f h i) λ h=>aB b (h undef g) (h a g) (h undef g)) λ f=>lr f b d e
def SH (a b c d:Value)(e f:H):R:=onB c (ae (λ _ g=>ae (λ _ h=>ae (λ _ i=>uf k i) λ i=>i undef h) λ h=>h undef g) λ g=>g undef f) (ae (λ g h=>ae (λ i j=>Tj E k b d g i j) λ i=>aB d (i undef h) (i (.pointer (some (Addr.mk e.1 0 none))) h) (i undef h)) λ g=>aB d (g undef f) (g a f) (g undef f))
def Vx (a b c d e:Value)(f g:H):R:=ae (λ h i=>SH E k a b c h f i) λ h=>aB c (h undef g) (binR (binC E .leq 3 false false) d e λ i=>h i g) (h undef g)
def JN (a b c d:Value)(e f:H):R:=ae (λ g h=>ae (λ i j=>Vx E k a b c d i e j) λ i=>lr i c g h) λ g=>aB c (g undef f) (g (.pointer (some (Addr.mk e.1 0 none))) f) (g undef f)
def NP (a b c d:Value)(e f:H):R:=onB c (ae (λ _ g=>ae (λ _ h=>ae (λ _ i=>AP k i) λ i=>i undef h) λ h=>h undef g) λ g=>g undef f) (ae (λ g h=>JN E k a b d g e h) λ g=>aB d (g undef f) (g b f) (g undef f))
def Ow (a:Value→H→R)(b c:Value)(d:H):R:=aB b (a undef d) (binR (binC E .geq 3 false true) c (.int .i64 (.ofNat 0)) λ e=>a e d) (a undef d)
def FE (a b c:Value)(d e:H):R:=ae (λ f g=>ae (λ h i=>NP E k a b c h d i) λ h=>Ow E h c f g) λ f=>aB c (f undef e) (f b e) (f undef e)
def DX (a:L)(b c:Value)(d:H):R:=ifB (allF (λ e=>cell1F e) a) (ifB (Nat.ble d.1 1000000000) (letH (ag d (.row 185 (lenF a) false false 0 (T.ofList unk a))) λ e=>binR (binC E .geq 3 false true) b (.int .i64 (.ofNat 0)) λ f=>FE E k b c f d e))
def Ui (E:Env)(rc:RC)(a0 a1 a2:Value)(h:H)(k:Value→H→R):R:=onCells a0 λ a=>DX E k a a1 a2 h
theorem Gn (t:ak)(rc:RC)(a0 a1 a2:Value)(h:H)(k:Value→H→R):(ax (EX t) KK 323).run rc [a0,a1,a2] h k = Ui (EX t) rc a0 a1 a2 h k:=by kernel_rfl
def X8 (a b c:Value)(d:H):R:=binR (binC E .shl 92 false false) b c λ e=>ifB (nT [e,a]) (k (.tuple ⟨[e,a]⟩) d)
def Qv (a b c:Value)(d:H):R:=binR (binC E .sub 92 false true) c (.int .u64 (.ofNat 1)) λ e=>binR (binC E .rem 3 false true) a (.int .i64 (.ofNat 64)) λ f=>X8 E k b e f d
def Ze (a b c:Value)(d:H):R:=bindO (bn E d Builtin.min [b,c] [3,3]) λ e=>binR (binC E .shl 92 true false) (.int .u64 (.ofNat 1)) e λ f=>Qv E k a e f d
def Ru (E:Env)(rc:RC)(a0 a1:Value)(h:H)(k:Value→H→R):R:=binR (binC E .rem 3 false true) a0 (.int .i64 (.ofNat 64)) λ a=>binR (binC E .sub 3 true false) (.int .i64 (.ofNat 64)) a λ b=>Ze E k a0 a1 b h
theorem Du (t:ak)(rc:RC)(a0 a1:Value)(h:H)(k:Value→H→R):(ax (EX t) KK 324).run rc [a0,a1] h k = Ru (EX t) rc a0 a1 h k:=by kernel_rfl
def ai4 (a:Value)(b:H):R:=joinL (λ c=>binR (binC E .and 3 false true) c (.int .i64 (.ofNat 127)) λ d=>k d b) λ c=>jA E c a b
def aaE (a:Value)(b:H):R:=binR (binC E .shr 92 false true) a (.int .u64 (.ofNat 32)) λ c=>binR (binC E .add 92 false false) a c λ d=>ai4 E k d b
def ad9 (a:Value)(b:H):R:=binR (binC E .shr 92 false true) a (.int .u64 (.ofNat 16)) λ c=>binR (binC E .add 92 false false) a c λ d=>aaE E k d b
def aih (a:Value)(b:H):R:=binR (binC E .shr 92 false true) a (.int .u64 (.ofNat 8)) λ c=>binR (binC E .add 92 false false) a c λ d=>ad9 E k d b
def abh (a:Value)(b:H):R:=binR (binC E .and 92 false true) a (.int .u64 (.ofNat 1085102592571150095)) λ c=>aih E k c b
def aey (a:Value)(b:H):R:=binR (binC E .shr 92 false true) a (.int .u64 (.ofNat 4)) λ c=>binR (binC E .add 92 false false) c a λ d=>abh E k d b
def Uz (a b:Value)(c:H):R:=binR (binC E .and 92 false true) a (.int .u64 (.ofNat 3689348814741910323)) λ d=>binR (binC E .add 92 false false) b d λ e=>aey E k e c
def aiT (a b:Value)(c:H):R:=binR (binC E .and 92 false true) b (.int .u64 (.ofNat 3689348814741910323)) λ d=>Uz E k a d c
def Z1 (a b:Value)(c:H):R:=binR (binC E .add 92 false false) a b λ d=>binR (binC E .shr 92 false true) d (.int .u64 (.ofNat 2)) λ e=>aiT E k d e c
def Hq (a b:Value)(c:H):R:=binR (binC E .and 92 false true) a (.int .u64 (.ofNat 6148914691236517205)) λ d=>Z1 E k b d c
def G0 (a b:Value)(c:H):R:=binR (binC E .and 92 false true) b (.int .u64 (.ofNat 6148914691236517205)) λ d=>Hq E k a d c
def Qx (E:Env)(rc:RC)(a0:Value)(h:H)(k:Value→H→R):R:=binR (binC E .shr 92 false true) a0 (.int .u64 (.ofNat 1)) λ a=>G0 E k a0 a h
theorem NI (t:ak)(rc:RC)(a0:Value)(h:H)(k:Value→H→R):(ax (EX t) KK 325).run rc [a0] h k = Qx (EX t) rc a0 h k:=by kernel_rfl
def ZY (a:L)(b c:Value)(d:H):R:=ifB (allF (λ e=>cell1F e) a) (ifB (Nat.ble d.1 1000000000) (letH (ag d (.row 129 (lenF a) false false 0 (T.ofList unk a))) λ e=>onRow (hget e d.1) λ _ f _ _ _ g=>yE E rc k g b c e f))
def XM (E:Env)(rc:RC)(a0 a1 a2:Value)(h:H)(k:Value→H→R):R:=onCells a0 λ a=>ZY E rc k a a1 a2 h
theorem FK (t:ak)(rc:RC)(a0 a1 a2:Value)(h:H)(k:Value→H→R):(ax (EX t) KK 202).run rc [a0,a1,a2] h k = XM (EX t) rc a0 a1 a2 h k:=by kernel_rfl
def P8 (a:(aa [3])→H→R)(b:aa [3,11])(c:L)(d e:H):R:=letH (hset e d.1 (.row 343 2 false false 0 (T.ofList unk c))) λ f=>cT (bu E f Builtin.append [b.1,.slice (some (Addr.mk d.1 0 none)) 1 2] [340,340]) λ g h=>a (g,()) h
def agF (a:(aa [3])→H→R)(b:aa [3,11])(c:Value)(d e:H):R:=@Option.rec (List Value) (λ _=>R) none (λ f=>P8 E a b f d e) (cG (λ f=>some (Nat.mul f 2,2)) (List.flatten (List.replicate 1 (cellsOfV (.agg (@List.toArray Value [.int .u64 (.ofNat 0),.int .u64 (.ofNat 0)]))))) [(0,c)])
def YX (a:(aa [3])→H→R)(b:aa [3,11])(c:V)(d e:Addr)(f g:H):R:=onRow (hget g e.1) λ _ h _ _ _ i=>ifB (Nat.ble (Nat.succ e.2) h) (bindO (cg E 343 [(0,getF c d.2),(1,getF i e.2)]) λ j=>agF E a b j f g)
def ael (a:(aa [3])→H→R)(b:aa [3,11])(c:V)(d:Addr)(e:Value)(f g:H)(h:Nat):R:=ifB (Nat.ble (Nat.succ d.2) h) (onSl e none λ i j _=>ifB (Nat.ble 2 j) (addOffF i 1 λ l=>onPtr l λ m=>YX E a b c d m f g))
def Cd (a:(aa [3])→H→R)(b:aa [3,11])(c:Value)(d e:H):R:=onSl c none λ f g _=>ifB (Nat.ble 1 g) (onRow (hget e f.1) λ _ h _ _ _ i=>ael E a b i f c d e h)
def Lx (a b:(aa [3])→H→R)(c:aa [3,11])(d e f:Value)(g:H):R:=onB e (@joinR [] (λ _ h=>ifB (Nat.ble h.1 1000000000) (letH (H.mk (Nat.add h.1 1) h.2) λ i=>Cd E b c d h i)) λ h=>onB f (h () g) (a (c.1,()) g)) (@joinR [] (λ _ h=>ifB (Nat.ble h.1 1000000000) (letH (H.mk (Nat.add h.1 1) h.2) λ i=>Cd E b c d h i)) λ _=>a (c.1,()) g)
def kK (a:Value→H→R)(b c:Value)(d:H):R:=aB b (binR (binC E .eql 92 false true) c (.int .u64 (.ofNat 0)) λ e=>a e d) (a undef d) (a undef d)
def Mp (a b:(aa [3])→H→R)(c:aa [3,11])(d e f:Value)(g:H):R:=ae (λ h i=>ae (λ j l=>ae (λ m n=>Lx E a b c d e m n) λ m=>kK E m e j l) λ j=>eL j e h i) λ h=>aB e (onSl f none λ i j _=>ifB (Nat.ble 1 j) (h (.pointer (some i)) g)) (h undef g) (h undef g)
def Mm (a b:(aa [3])→H→R)(c:aa [3,11])(d e:Value)(f:H):R:=binR (binC E .neq 24 false true) e (.int .i64 (.ofNat 0)) λ g=>ae (λ h i=>Mp E a b c d g h i) λ h=>aB g (h d f) (h undef f) (h undef f)
def Ez (a b:(aa [3])→H→R)(c:aa [3,11])(d e:V)(f:Value)(g:H)(h:Nat):R:=ifB (Nat.ble 3 h) (ifB (aj (.agg ⟨ac e 3 0⟩) (.agg ⟨ac d 3 0⟩)) (rc 199 [f,.agg ⟨ac d 3 0⟩] g λ i j=>onTup i λ l=>nthF 0 l λ m=>onTup i λ n=>nthF 1 n λ o=>Mm E a b c m o j))
def I1 (a b:(aa [3])→H→R)(c:aa [3,11])(d:V)(e f:H)(g:Nat):R:=ifB (Nat.ble 3 g) (rc 367 [] f λ h i=>onRow (hget i e.1) λ _ j _ _ _ l=>Ez E rc a b c d l h i j)
def JH (a b:(aa [3])→H→R)(c:aa [3,11])(d e:H):R:=ifB (Nat.ble e.1 1000000000) (letH (H.mk e.1 e.2) λ f=>onRow (hget f d.1) λ _ g _ _ _ h=>I1 E rc a b c h d f g)
def Jq (a b:(aa [3])→H→R)(c:aa [3,11])(d:L)(e:V)(f g:Bool)(h:TypeId)(i j:H)(l m:Nat):R:=ifB (notB g) (ifB (Nat.beq (lenF d) 3) (ifB (Nat.ble m 0) (ifB (Nat.ble 3 l) (ifB (Nat.ble l 1000000000) (ifB (allF (λ n=>cell1F n) d) (letH (hset j i.1 (.row h l f false m (putF e 0 d))) λ n=>JH E rc a b c i n))))))
def He (a b:(aa [3])→H→R)(c:aa [3,11])(d:Value)(e:H):R:=ifB (Nat.ble e.1 1000000000) (letH (ag e (.row 131 3 false false 0 (T.ofList unk [.pointer none,.int .i64 (.ofNat 0),.int .i64 (.ofNat 0)]))) λ f=>onCells d λ g=>onRow (hget f e.1) λ h i j l m n=>Jq E rc a b c g n j l h e f i m)
def Kx (a b:(aa [3])→H→R)(c:aa [3,11])(d:V)(e:Value)(f:H):R:=rc 163 [.agg ⟨ac d 3 0⟩,e,.int .i64 (.ofNat 16)] f λ g h=>onTup g λ i=>nthF 0 i λ j=>onTup g λ l=>nthF 1 l λ _=>He E rc a b c j h
def C2 (a b:(aa [3])→H→R)(c:aa [3,11])(d:V)(e:H)(f:Nat):R:=ifB (Nat.ble 3 f) (binR (binC E .mul 3 false true) c.2.1 (.int .i64 (.ofNat 16)) λ g=>Kx E rc a b c d g e)
def LB (a:(aa [3,11])→H→R)(b:(aa [3])→H→R)(c:aa [3,11])(d e:H):R:=@joinR [3] (λ f g=>binR (binC E .add 3 false true) c.2.1 (.int .i64 (.ofNat 1)) λ h=>a (f.1,(h,())) g) λ f=>onRow (hget e d.1) λ _ g _ _ _ h=>C2 E rc b f c h e g
def MI (a:(aa [3,11])→H→R)(b:(aa [3])→H→R)(c:aa [3,11])(d:Value)(e f:H):R:=binR (binC E .lss 3 false false) c.2.1 d λ g=>@joinR [] (λ _ h=>LB E rc a b c e h) λ h=>onB g (b (c.1,()) f) (h () f)
def G8 (a:Value)(b c:H):R:=@joinR [3] (λ d e=>k d.1 e) λ d=>@loopF [3,11] (λ e f g=>MI E rc e d f a b g) 1000000 (.slice none 0 0,(.int .i64 (.ofNat 0),())) c
def Ms (a b:H):R:=onRow (hget b a.1) λ _ c _ _ _ d=>ifB (Nat.ble 3 c) (rc 366 [.agg ⟨ac d 3 0⟩] b λ e f=>G8 E rc k e a f)
def NF (a:L)(b:H):R:=ifB (allF (λ c=>cell1F c) a) (ifB (Nat.ble b.1 1000000000) (letH (ag b (.row 383 (lenF a) false false 0 (T.ofList unk a))) λ c=>Ms E rc k b c))
def aic (E:Env)(rc:RC)(a0:Value)(h:H)(k:Value→H→R):R:=onCells a0 λ a=>NF E rc k a h
theorem Jd (t:ak)(rc:RC)(a0:Value)(h:H)(k:Value→H→R):(ax (EX t) KK 347).run rc [a0] h k = aic (EX t) rc a0 h k:=by kernel_rfl
def agD (a:V)(b:Value)(c:H):R:=rc 180 [.agg ⟨ac a 3 0⟩,b,.int .i64 (.ofNat 8)] c λ d e=>onTup d λ f=>nthF 0 f λ g=>onTup d λ h=>nthF 1 h λ _=>joinL (λ i=>k i e) λ i=>jA E i g e
def tQ (a:V)(b:Value)(c:H)(d:Nat):R:=ifB (Nat.ble 3 d) (binR (binC E .mul 3 true false) (.int .i64 (.ofNat 8)) b λ e=>agD E rc k a e c)
def WQ (a b c:Value)(d e:H):R:=onB b (@joinR [4] (λ _ f=>onRow (hget f d.1) λ _ g _ _ _ h=>tQ E rc k h a f g) λ f=>onB c (f (.int .i64 (.ofNat 0),()) e) (k (.int .i64 (.ofNat 0)) e)) (@joinR [4] (λ _ f=>onRow (hget f d.1) λ _ g _ _ _ h=>tQ E rc k h a f g) λ _=>k (.int .i64 (.ofNat 0)) e)
def AU (a:Value→H→R)(b c:Value)(d:H):R:=aB b (binR (binC E .neq 24 false true) c (.int .i64 (.ofNat 0)) λ e=>a e d) (a undef d) (a undef d)
def ae7 (a b c:Value)(d e:H):R:=ae (λ f g=>ae (λ h i=>WQ E rc k a b h d i) λ h=>AU E h b f g) λ f=>aB b (rc 332 [c] e f) (f undef e) (f undef e)
def MX (a:Value)(b c:H):R:=@joinR [4] (λ _ d=>onRow (hget d b.1) λ _ e _ _ _ f=>tQ E rc k f a d e) λ _=>k (.int .i64 (.ofNat 0)) c
def HE (a b c:Value)(d e:H):R:=onB b (ae (λ f g=>ae7 E rc k a c f d g) λ f=>sY f c d e) (ae (λ _ f=>ae (λ _ g=>ae (λ _ h=>MX E rc k a d h) λ h=>h undef g) λ g=>g undef f) λ f=>f undef e)
def Kf (a:Value→H→R)(b c:Value)(d:H):R:=aB b (binR (binC E .gtr 3 false true) c (.int .i64 (.ofNat 4)) λ e=>a e d) (a undef d) (a undef d)
def Nn (a:Value)(b c:H):R:=binR (binC E .lss 3 false true) a (.int .i64 (.ofNat 0)) λ d=>ae (λ e f=>ae (λ g h=>HE E rc k a d g b h) λ g=>Kf E g d e f) λ e=>aB d (e a c) (e undef c) (e undef c)
def Ko (a:L)(b:Value)(c:H):R:=ifB (allF (λ d=>cell1F d) a) (ifB (Nat.ble c.1 1000000000) (letH (ag c (.row 190 (lenF a) false false 0 (T.ofList unk a))) λ d=>Nn E rc k b c d))
def ae1 (E:Env)(rc:RC)(a0 a1:Value)(h:H)(k:Value→H→R):R:=onCells a0 λ a=>Ko E rc k a a1 h
theorem Kv (t:ak)(rc:RC)(a0 a1:Value)(h:H)(k:Value→H→R):(ax (EX t) KK 261).run rc [a0,a1] h k = ae1 (EX t) rc a0 a1 h k:=by kernel_rfl
def WO (a b:V)(c d:Bool)(e:TypeId)(f g:H)(h i:Nat):R:=ifB (notB d) (ifB (Nat.beq (lenF (ac a 1 0)) 1) (ifB (Nat.ble i 0) (ifB (Nat.ble 1 h) (ifB (Nat.ble h 1000000000) (ifB (allF (λ j=>cell1F j) (ac a 1 0)) (letH (hset g f.1 (.row e h c false i (putF b 0 (ac a 1 0)))) λ j=>bindO (aU E j 258 (Addr.mk f.1 0 none)) λ l=>k l j))))))
def TX (a b c:H):R:=onRow (hget c b.1) λ _ d _ _ _ e=>ifB (Nat.ble 1 d) (onRow (hget c a.1) λ f g h i j l=>WO E k e l h i f a c g j)
def ajt (a:L)(b:V)(c d:Bool)(e:TypeId)(f g h:H)(i j:Nat):R:=ifB (notB d) (ifB (Nat.beq (lenF a) 1) (ifB (Nat.ble j 0) (ifB (Nat.ble 1 i) (ifB (Nat.ble i 1000000000) (ifB (allF (λ l=>cell1F l) a) (letH (hset h g.1 (.row e i c false j (putF b 0 a))) λ l=>TX E k f g l))))))
def B1 (a:Value)(b c:H):R:=ifB (Nat.ble c.1 1000000000) (letH (ag c (.row 258 1 false false 0 (T.ofList unk [.slice none 0 0]))) λ d=>onCells a λ e=>onRow (hget d c.1) λ f g h i j l=>ajt E k e l h i f b c d g j)
def X2 (a b c:H):R:=rc 275 [.slice (some (Addr.mk b.1 0 none)) 4 8] c λ d e=>onTup d λ f=>nthF 0 f λ g=>onTup d λ h=>nthF 1 h λ _=>B1 E k g a e
def U4 (a b:H):R:=ifB (Nat.ble b.1 1000000000) (letH (ag b (.row 3 4 false false 0 (T.ofList unk (lay (lay (lay (lay (List.flatten (List.replicate 4 (cellsOfV (.int .i64 (.ofNat 0))))) 0 (cellsOfV (.int .i64 (.ofNat 4)))) 1 (cellsOfV (.int .i64 (.ofNat 4)))) 2 (cellsOfV (.int .i64 (.ofNat 8)))) 3 (cellsOfV (.int .i64 (.ofNat 8))))))) λ c=>X2 E rc k a b c)
def T6 (E:Env)(rc:RC)(h:H)(k:Value→H→R):R:=ifB (Nat.ble h.1 1000000000) (letH (ag h (.row 258 1 false false 0 (T.ofList unk [.slice none 0 0]))) λ a=>U4 E rc k h a)
theorem Eh (t:ak)(rc:RC)(h:H)(k:Value→H→R):(ax (EX t) KK 281).run rc [] h k = T6 (EX t) rc  h k:=by kernel_rfl
def adr (a:(aa [8])→H→R)(b:aa [8,25])(c:L)(d:H):R:=ifB (Nat.ble d.1 1000000000) (letH (ag d (.row 92 1 false false 0 (T.ofList unk c))) λ e=>cT (bu E e Builtin.append [b.1,.slice (some (Addr.mk d.1 0 none)) 1 2] [183,183]) λ f g=>a (f,()) g)
def Zy (a:(aa [8])→H→R)(b:aa [8,25])(c:Value)(d:H):R:=@Option.rec (List Value) (λ _=>R) none (λ e=>adr E a b e d) (cG (λ e=>some (Nat.mul e 1,1)) (List.flatten (List.replicate 1 (cellsOfV (.int .u64 (.ofNat 0))))) [(0,c)])
def QE (a:(aa [8])→H→R)(b:aa [8,25])(c d:V)(e:H)(f:Nat):R:=ifB (Nat.ble 3 f) (rc 280 [.agg ⟨ac c 1 0⟩,.agg ⟨ac d 3 0⟩,b.2.1] e λ g h=>onTup g λ i=>nthF 0 i λ j=>onTup g λ l=>nthF 1 l λ _=>Zy E a b j h)
def agp (a:(aa [8])→H→R)(b:aa [8,25])(c d e:H):R:=onRow (hget e c.1) λ _ f _ _ _ g=>ifB (Nat.ble 1 f) (onRow (hget e d.1) λ _ h _ _ _ i=>QE E rc a b g i e h)
def aaL (a:(aa [8,25])→H→R)(b:aa [8,25])(c d e:H):R:=@joinR [8] (λ f g=>binR (binC E .add 3 false true) b.2.1 (.int .i64 (.ofNat 1)) λ h=>a (f.1,(h,())) g) λ f=>agp E rc f b c d e
def aaI (a:(aa [8,25])→H→R)(b:(aa [8])→H→R)(c:aa [8,25])(d:Value)(e f g:H):R:=binR (binC E .lss 3 false false) c.2.1 d λ h=>@joinR [] (λ _ i=>aaL E rc a c e f i) λ i=>onB h (b (c.1,()) g) (i () g)
def UJ (a:Value)(b c d:H):R:=@joinR [8] (λ e f=>ifB (nT [e.1,.int .i64 (.ofNat 0)]) (k (.tuple ⟨[e.1,.int .i64 (.ofNat 0)]⟩) f)) λ e=>@loopF [8,25] (λ f g h=>aaI E rc f e g a b c h) 1000000 (.slice none 0 0,(.int .i64 (.ofNat 0),())) d
def SU (a:V)(b c d:H)(e:Nat):R:=ifB (Nat.ble 1 e) (joinL (λ f=>UJ E rc k f b c d) λ f=>onSl (getF a 0) (bindO (bv E d 256 (getF a 0)) f) λ _ g _=>f (.int .i64 (.ofNat g)))
def aeQ (a:(aa [4,5])→H→R)(b c:Value)(d:H):R:=onB c (a (.slice none 0 0,(.int .i64 (.ofNat 0),())) d) (ifB (nT [.slice none 0 0,b]) (k (.tuple ⟨[.slice none 0 0,b]⟩) d))
def Zm (a b:Value)(c d e:H):R:=@joinR [4,5] (λ _ f=>onRow (hget f c.1) λ _ g _ _ _ h=>SU E rc k h c d f g) λ f=>aeQ k f a b e
def Gw (a:L)(b c d:H):R:=nthF 1 a λ e=>binR (binC E .neq 24 false true) e (.int .i64 (.ofNat 0)) λ f=>Zm E rc k e f b c d
def H3 (a b:V)(c:Value)(d e f:H)(g:Nat):R:=ifB (Nat.ble 3 g) (ifB (aj (.agg ⟨ac b 3 0⟩) (.agg ⟨ac a 3 0⟩)) (rc 277 [.agg ⟨ac a 3 0⟩,.int .i64 (.ofNat 0),c] f λ h i=>onTup h λ j=>nthF 0 j λ _=>onTup h λ l=>Gw E rc k l d e i))
def Lc (a b:V)(c d e:H)(f:Nat):R:=ifB (Nat.ble 1 f) (rc 278 [.agg ⟨ac b 1 0⟩] e λ g h=>onRow (hget h d.1) λ _ i _ _ _ j=>H3 E rc k a j g c d h i)
def IV (a b c:H):R:=onRow (hget c b.1) λ _ d _ _ _ e=>ifB (Nat.ble 3 d) (onRow (hget c a.1) λ _ f _ _ _ g=>Lc E rc k e g a b c f)
def N1 (a:L)(b c:H):R:=ifB (allF (λ d=>cell1F d) a) (ifB (Nat.ble c.1 1000000000) (letH (ag c (.row 131 (lenF a) false false 0 (T.ofList unk a))) λ d=>ifB (Nat.ble d.1 1000000000) (letH (H.mk d.1 d.2) λ e=>IV E rc k b c e)))
def KJ (a:L)(b:Value)(c:H):R:=ifB (allF (λ d=>cell1F d) a) (ifB (Nat.ble c.1 1000000000) (letH (ag c (.row 258 (lenF a) false false 0 (T.ofList unk a))) λ d=>onCells b λ e=>N1 E rc k e c d))
def VS (E:Env)(rc:RC)(a0 a1:Value)(h:H)(k:Value→H→R):R:=onCells a0 λ a=>KJ E rc k a a1 h
theorem De (t:ak)(rc:RC)(a0 a1:Value)(h:H)(k:Value→H→R):(ax (EX t) KK 199).run rc [a0,a1] h k = VS (EX t) rc a0 a1 h k:=by kernel_rfl
def afr (a:L)(b:H):R:=ifB (allF (λ c=>cell1F c) a) (ifB (Nat.ble b.1 1000000000) (letH (ag b (.row 131 (lenF a) false false 0 (T.ofList unk a))) λ c=>onRow (hget c b.1) λ _ d _ _ _ e=>ifB (Nat.ble 3 d) (k (getF e 2) c)))
def abS (E:Env)(rc:RC)(a0:Value)(h:H)(k:Value→H→R):R:=onCells a0 λ a=>afr k a h
theorem Ol (t:ak)(rc:RC)(a0:Value)(h:H)(k:Value→H→R):(ax (EX t) KK 245).run rc [a0] h k = abS (EX t) rc a0 h k:=by kernel_rfl
def ai2 (E:Env)(rc:RC)(a0 a1:Value)(h:H)(k:Value→H→R):R:=rc 322 [a1,a0] h λ _ a=>k (.tuple ⟨[]⟩) a
theorem Eo (t:ak)(rc:RC)(a0 a1:Value)(h:H)(k:Value→H→R):(ax (EX t) KK 321).run rc [a0,a1] h k = ai2 (EX t) rc a0 a1 h k:=by kernel_rfl
def YZ (a:Value)(b:H):R:=joinL (λ c=>ifB (nT [c,.nilIface]) (k (.tuple ⟨[c,.nilIface]⟩) b)) λ c=>onSl a (bindO (bv E b 57 a) c) λ _ d _=>c (.int .i64 (.ofNat d))
def aiJ (a:L)(b:V)(c d:Bool)(e:Addr)(f:TypeId)(g:Value)(h:H)(i j:Nat):R:=ifB (notB d) (ifB (Nat.beq (lenF a) 1) (ifB (Nat.ble j (Nat.add e.2 1)) (ifB (Nat.ble (Nat.add (Nat.add e.2 1) 1) i) (ifB (Nat.ble i 1000000000) (ifB (allF (λ l=>cell1F l) a) (letH (hset h e.1 (.row f i c false j (putF b (Nat.add e.2 1) a))) λ l=>YZ E k g l))))))
def VJ (a b c:Value)(d:H):R:=bindO (aT a) λ e=>onPtr e λ f=>onCells c λ g=>onRow (hget d f.1) λ h i j l m n=>aiJ E k g n j l f h b d i m
def Tx (a:Addr)(b c:Value)(d:H):R:=onRow (hget d a.1) λ _ e _ _ _ f=>ifB (Nat.ble (Nat.succ (Nat.add a.2 1)) e) (cT (bu E d Builtin.append [getF f (Nat.add a.2 1),c] [57,57]) λ g h=>VJ E k b c g h)
def Rj (E:Env)(rc:RC)(a0 a1:Value)(h:H)(k:Value→H→R):R:=rc 49 [a0] h λ _ a=>bindO (aT a0) λ b=>onPtr b λ c=>Tx E k c a0 a1 a
theorem GD (t:ak)(rc:RC)(a0 a1:Value)(h:H)(k:Value→H→R):(ax (EX t) KK 322).run rc [a0,a1] h k = Rj (EX t) rc a0 a1 h k:=by kernel_rfl
def aaU (a:(aa [])→H→R)(b:aa [44])(c d e:V)(f:Addr)(g:H)(h:Nat):R:=ifB (Nat.ble 3 h) (rc 279 [.agg ⟨ac d 1 0⟩,.agg ⟨ac e 3 0⟩,b.1,getF c f.2] g λ _ i=>a () i)
def aew (a:(aa [])→H→R)(b:aa [44])(c:V)(d:Addr)(e f g:H)(h:Nat):R:=ifB (Nat.ble (Nat.succ d.2) h) (onRow (hget g e.1) λ _ i _ _ _ j=>ifB (Nat.ble 1 i) (onRow (hget g f.1) λ _ l _ _ _ m=>aaU rc a b c j m d g l))
def aa6 (a:(aa [])→H→R)(b:aa [44])(c:Addr)(d e f:H)(g h:Nat):R:=ifB (Nat.ble (Nat.succ g) h) (addOffF c (Nat.mul g 1) λ i=>onPtr i λ j=>onRow (hget f j.1) λ _ l _ _ _ m=>aew rc a b m j d e f l)
def Xj (a:(aa [44])→H→R)(b:aa [44])(c:Value)(d e f:H):R:=@joinR [] (λ _ g=>binR (binC E .add 3 false true) b.1 (.int .i64 (.ofNat 1)) λ h=>a (h,()) g) λ g=>onNat b.1 none λ h=>onSl c none λ i j _=>aa6 rc g b i d e f h j
def aeg (a:(aa [44])→H→R)(b:(aa [])→H→R)(c:aa [44])(d e:Value)(f g h:H):R:=binR (binC E .lss 3 false false) c.1 e λ i=>@joinR [] (λ _ j=>Xj E rc a c d f g j) λ j=>onB i (b () h) (j () h)
def afR (a b:Value)(c d e:H):R:=@joinR [] (λ _ f=>k (.int .i64 (.ofNat 0)) f) λ f=>@loopF [44] (λ g h i=>aeg E rc g f h a b c d i) 1000000 (.int .i64 (.ofNat 0),()) e
def Wm (a:aa [6])(b c d:Value)(e f g:H):R:=@joinR [6] (λ _ h=>joinL (λ i=>afR E rc k b i e f h) λ i=>onSl b (bindO (bv E h 183 b) i) λ _ j _=>i (.int .i64 (.ofNat j))) λ h=>onB d (h (a.1,()) g) (k c g)
def QA (a:aa [6])(b:L)(c:Value)(d e f:H):R:=nthF 1 b λ g=>binR (binC E .neq 24 false true) g (.int .i64 (.ofNat 0)) λ h=>Wm E rc k a c g h d e f
def TE (a:aa [6])(b c:V)(d e:Value)(f g h:H)(i:Nat):R:=ifB (Nat.ble 3 i) (ifB (aj (.agg ⟨ac c 3 0⟩) (.agg ⟨ac b 3 0⟩)) (rc 277 [.agg ⟨ac b 3 0⟩,.int .i64 (.ofNat 0),e] h λ j l=>onTup j λ m=>nthF 0 m λ _=>onTup j λ n=>QA E rc k a n d f g l))
def Rc (a:aa [6])(b c:V)(d:Value)(e f g:H)(h:Nat):R:=ifB (Nat.ble 1 h) (rc 278 [.agg ⟨ac c 1 0⟩] g λ i j=>onRow (hget j f.1) λ _ l _ _ _ m=>TE E rc k a b m d i e f j l)
def Nx (a:aa [6])(b:Value)(c d e:H):R:=onRow (hget e d.1) λ _ f _ _ _ g=>ifB (Nat.ble 3 f) (onRow (hget e c.1) λ _ h _ _ _ i=>Rc E rc k a g i b c d e h)
def Ds (a:(aa [6])→H→R)(b:aa [6,21])(c:Value)(d:H):R:=onB c (@joinR [6] (λ e f=>a (e.1,()) f) λ _=>k (.int .i64 (.ofNat 16)) d) (@joinR [6] (λ e f=>a (e.1,()) f) λ e=>e (b.1,()) d)
def Hv (a:(aa [6])→H→R)(b:aa [6,21])(c:V)(d:Addr)(e f:H)(g:Nat):R:=ifB (Nat.ble (Nat.succ d.2) g) (onRow (hget f e.1) λ _ h _ _ _ i=>ifB (Nat.ble 1 h) (rc 276 [.agg ⟨ac i 1 0⟩,b.2.1,getF c d.2] f λ j l=>Ds k a b j l))
def LG (a:(aa [6])→H→R)(b:aa [6,21])(c:Addr)(d e:H)(f g:Nat):R:=ifB (Nat.ble (Nat.succ f) g) (addOffF c (Nat.mul f 1) λ h=>onPtr h λ i=>onRow (hget e i.1) λ _ j _ _ _ l=>Hv rc k a b l i d e j)
def ME (a:(aa [6,21])→H→R)(b:aa [6,21])(c:Value)(d e:H):R:=@joinR [6] (λ f g=>binR (binC E .add 3 false true) b.2.1 (.int .i64 (.ofNat 1)) λ h=>a (f.1,(h,())) g) λ f=>onNat b.2.1 none λ g=>onSl c none λ h i _=>LG rc k f b h d e g i
def NA (a:(aa [6,21])→H→R)(b:(aa [6])→H→R)(c:aa [6,21])(d e:Value)(f g:H):R:=binR (binC E .lss 3 false false) c.2.1 e λ h=>@joinR [] (λ _ i=>ME E rc k a c d f i) λ i=>onB h (b (c.1,()) g) (i () g)
def HQ (a:aa [6])(b c:Value)(d e f:H):R:=@joinR [6] (λ g h=>ifB (Nat.ble h.1 1000000000) (letH (H.mk h.1 h.2) λ i=>Nx E rc k g b d e i)) λ g=>@loopF [6,21] (λ h i j=>NA E rc k h g i b c d j) 1000000 (a.1,(.int .i64 (.ofNat 0),())) f
def EB (a b:Value)(c d e:H):R:=@joinR [6] (λ f g=>joinL (λ h=>HQ E rc k f a h c d g) λ h=>onSl a (bindO (bv E g 183 a) h) λ _ i _=>h (.int .i64 (.ofNat i))) λ f=>onB b (f (.int .i64 (.ofNat 0),()) e) (k (.int .i64 (.ofNat 2)) e)
def JJ (a:V)(b c:Value)(d e f:H)(g:Nat):R:=ifB (Nat.ble 1 g) (joinL (λ h=>binR (binC E .neq 3 false false) c h λ i=>EB E rc k b i d e f) λ h=>onSl (getF a 0) (bindO (bv E f 256 (getF a 0)) h) λ _ i _=>h (.int .i64 (.ofNat i)))
def MH (a:Value)(b c d:H):R:=joinL (λ e=>onRow (hget d b.1) λ _ f _ _ _ g=>JJ E rc k g a e b c d f) λ e=>onSl a (bindO (bv E d 183 a) e) λ _ f _=>e (.int .i64 (.ofNat f))
def GT (a:L)(b:Value)(c d:H):R:=ifB (allF (λ e=>cell1F e) a) (ifB (Nat.ble d.1 1000000000) (letH (ag d (.row 131 (lenF a) false false 0 (T.ofList unk a))) λ e=>MH E rc k b c d e))
def Et (a:L)(b c:Value)(d:H):R:=ifB (allF (λ e=>cell1F e) a) (ifB (Nat.ble d.1 1000000000) (letH (ag d (.row 258 (lenF a) false false 0 (T.ofList unk a))) λ e=>onCells b λ f=>GT E rc k f c d e))
def aiO (E:Env)(rc:RC)(a0 a1 a2:Value)(h:H)(k:Value→H→R):R:=onCells a0 λ a=>Et E rc k a a1 a2 h
theorem MA (t:ak)(rc:RC)(a0 a1 a2:Value)(h:H)(k:Value→H→R):(ax (EX t) KK 198).run rc [a0,a1,a2] h k = aiO (EX t) rc a0 a1 a2 h k:=by kernel_rfl
def abj (a:V)(b c:Bool)(d:TypeId)(e f:H)(g h:Nat):R:=ifB (notB c) (ifB (Nat.beq (lenF (lay (lay (lay (lay (lay (cellsOfV (.agg (@List.toArray Value [.int .i64 (.ofNat 0),.int .i64 (.ofNat 0),.int .i64 (.ofNat 0),.int .i64 (.ofNat 0),.int .i64 (.ofNat 0)]))) 0 (cellsOfV (.int .i64 (.ofNat 192)))) 1 (cellsOfV (.int .i64 (.ofNat 96)))) 2 (cellsOfV (.int .i64 (.ofNat 128)))) 3 (cellsOfV (.int .i64 (.ofNat 128)))) 4 (cellsOfV (.int .i64 (.ofNat 128))))) 5) (ifB (Nat.ble h 0) (ifB (Nat.ble 5 g) (ifB (Nat.ble g 1000000000) (ifB (allF (λ i=>cell1F i) (lay (lay (lay (lay (lay (cellsOfV (.agg (@List.toArray Value [.int .i64 (.ofNat 0),.int .i64 (.ofNat 0),.int .i64 (.ofNat 0),.int .i64 (.ofNat 0),.int .i64 (.ofNat 0)]))) 0 (cellsOfV (.int .i64 (.ofNat 192)))) 1 (cellsOfV (.int .i64 (.ofNat 96)))) 2 (cellsOfV (.int .i64 (.ofNat 128)))) 3 (cellsOfV (.int .i64 (.ofNat 128)))) 4 (cellsOfV (.int .i64 (.ofNat 128))))) (letH (hset f e.1 (.row d g b false h (putF a 0 (lay (lay (lay (lay (lay (cellsOfV (.agg (@List.toArray Value [.int .i64 (.ofNat 0),.int .i64 (.ofNat 0),.int .i64 (.ofNat 0),.int .i64 (.ofNat 0),.int .i64 (.ofNat 0)]))) 0 (cellsOfV (.int .i64 (.ofNat 192)))) 1 (cellsOfV (.int .i64 (.ofNat 96)))) 2 (cellsOfV (.int .i64 (.ofNat 128)))) 3 (cellsOfV (.int .i64 (.ofNat 128)))) 4 (cellsOfV (.int .i64 (.ofNat 128))))))) λ i=>bindO (aU E i 402 (Addr.mk e.1 0 none)) λ j=>k j i))))))
def afM (E:Env)(rc:RC)(h:H)(k:Value→H→R):R:=ifB (Nat.ble h.1 1000000000) (letH (ag h (.row 402 5 false false 0 (@T.c Value (.int .i64 (.ofNat 0))))) λ a=>onRow (hget a h.1) λ b c d e f g=>abj E k g d e b h a c f)
theorem GU (t:ak)(rc:RC)(h:H)(k:Value→H→R):(ax (EX t) KK 365).run rc [] h k = afM (EX t) rc  h k:=by kernel_rfl
def Uj (a:L)(b:V)(c d:Bool)(e:Addr)(f:TypeId)(g:H)(h i:Nat):R:=ifB (notB d) (ifB (Nat.beq (lenF a) 1) (ifB (Nat.ble i e.2) (ifB (Nat.ble (Nat.add e.2 1) h) (ifB (Nat.ble h 1000000000) (ifB (allF (λ j=>cell1F j) a) (letH (hset g e.1 (.row f h c false i (putF b e.2 a))) λ j=>k (.tuple ⟨[]⟩) j))))))
def Xi (a b:V)(c d:Addr)(e f:Value)(g:H)(h:Nat):R:=ifB (Nat.ble (Nat.succ d.2) h) (ifB (aj (getF b d.2) (getF a c.2)) (bindO (dd E 9 (getF a c.2) (some f) none none) λ i=>onPtr e λ j=>onCells i λ l=>onRow (hget g j.1) λ m n o p q r=>Uj k l r o p j m g n q))
def ajM (a b:V)(c d:Addr)(e f:Value)(g:H)(h:Nat):R:=ifB (Nat.ble (Nat.succ d.2) h) (cT (bu E g Builtin.copy [e,getF b d.2] [57,9]) λ i j=>onPtr f λ l=>onRow (hget j l.1) λ _ m _ _ _ n=>Xi E k a n c l f i j m)
def QW (a:Addr)(b c:Value)(d:H):R:=onRow (hget d a.1) λ _ e _ _ _ f=>ifB (Nat.ble (Nat.succ a.2) e) (onPtr c λ g=>onRow (hget d g.1) λ _ h _ _ _ i=>ajM E k f i a g b c d h)
def UG (E:Env)(rc:RC)(a0 a1:Value)(h:H)(k:Value→H→R):R:=ifB (Nat.ble h.1 1000000000) (letH (H.mk h.1 h.2) λ a=>onPtr a1 λ b=>QW E k b a0 a1 a)
theorem Jk (t:ak)(rc:RC)(a0 a1:Value)(h:H)(k:Value→H→R):(ax (EX t) KK 326).run rc [a0,a1] h k = UG (EX t) rc a0 a1 h k:=by kernel_rfl
def uB (a:(aa [1])→H→R)(b:aa [1])(c d:H):R:=onRow (hget d c.1) λ _ e _ _ _ f=>ifB (Nat.ble 1 e) (rc 185 [.agg ⟨ac f 1 0⟩,b.1] d λ g h=>a (g,()) h)
def aht (a b:(aa [1])→H→R)(c:aa [1])(d e:Value)(f g:H):R:=onB d (@joinR [] (λ _ h=>@joinR [1] (λ i j=>b (i.1,()) j) λ i=>uB rc i c f h) λ _=>a (c.1,()) g) (@joinR [] (λ _ h=>@joinR [1] (λ i j=>b (i.1,()) j) λ i=>uB rc i c f h) λ h=>onB e (a (c.1,()) g) (h () g))
def YU (a b:(aa [1])→H→R)(c:aa [1])(d e f:Value)(g h:H):R:=ae (λ i j=>aht rc a b c d i g j) λ i=>aB d (i undef h) (binR (binC E .neq 3 false false) e f λ j=>i j h) (i undef h)
def Yp (a b:(aa [1])→H→R)(c:aa [1])(d e:Value)(f g:H):R:=ae (λ h i=>ae (λ j l=>YU E rc a b c e h j f l) λ j=>aB e (j undef i) (j d i) (j undef i)) λ h=>aB e (h undef g) (h c.1 g) (h undef g)
def zP (a:(aa [1])→H→R)(b c:Value)(d e:H):R:=@loopF [1] (λ f g h=>binR (binC E .neq 3 false true) g.1 (.int .i64 (.ofNat 0)) λ i=>Yp E rc a f g c i d h) 1000000 (b,()) e
def Jz (a b c d:Value)(e f:H):R:=onB c (@joinR [6] (λ _ g=>@joinR [1] (λ h i=>binR (binC E .eql 3 false false) h.1 b λ j=>k j i) λ h=>zP E rc h a b e g) λ g=>onB d (g (.bool false,()) f) (k (.bool false) f)) (@joinR [6] (λ _ g=>@joinR [1] (λ h i=>binR (binC E .eql 3 false false) h.1 b λ j=>k j i) λ h=>zP E rc h a b e g) λ _=>k (.bool false) f)
def FS (a b c d e:Value)(f g:H):R:=ae (λ h i=>ae (λ j l=>Jz E rc k a b c j f l) λ j=>AU E j c h i) λ h=>aB c (rc 267 [d,e] g h) (h undef g) (h undef g)
def wD (a:Value→H→R)(b:Value)(c d:H):R:=aB b (onRow (hget d c.1) λ _ e _ _ _ f=>ifB (Nat.ble 1 e) (a (.agg ⟨ac f 1 0⟩) d)) (a undef d) (a undef d)
def HA (a b c:Value)(d e:H):R:=ae (λ f g=>ae (λ h i=>FS E rc k a b c f h d i) λ h=>aB c (h b g) (h undef g) (h undef g)) λ f=>wD f c d e
def Eb (a:V)(b c:Value)(d e:H)(f:Nat):R:=ifB (Nat.ble 1 f) (rc 267 [.agg ⟨ac a 1 0⟩,b] e λ g h=>binR (binC E .neq 24 false true) g (.int .i64 (.ofNat 0)) λ i=>HA E rc k b c i d h)
def Gs (a:L)(b c:Value)(d:H):R:=ifB (allF (λ e=>cell1F e) a) (ifB (Nat.ble d.1 1000000000) (letH (ag d (.row 127 (lenF a) false false 0 (T.ofList unk a))) λ e=>onRow (hget e d.1) λ _ f _ _ _ g=>Eb E rc k g b c d e f))
def TG (E:Env)(rc:RC)(a0 a1 a2:Value)(h:H)(k:Value→H→R):R:=onCells a0 λ a=>Gs E rc k a a1 a2 h
theorem D9 (t:ak)(rc:RC)(a0 a1 a2:Value)(h:H)(k:Value→H→R):(ax (EX t) KK 268).run rc [a0,a1,a2] h k = TG (EX t) rc a0 a1 a2 h k:=by kernel_rfl
def aoC (a:(aa [])→H→R)(b:V)(c:Addr)(d:Value)(e:H)(f:Nat):R:=ifB (Nat.ble (Nat.succ c.2) f) (binR (binC E .neq 56 false false) (getF b c.2) d λ g=>@joinR [] (λ _ h=>a () h) λ h=>onB g (h () e) none)
def aky (a:(aa [])→H→R)(b c:Value)(d:H):R:=onPtr c λ _=>onPtr c λ e=>onCells b λ f=>onRow (hget d e.1) λ g h i j l m=>PM a f m i j e g d h l
def am1 (a:(aa [])→H→R)(b c:Value)(d:H):R:=onB c (bindO (aT b) λ e=>onPtr e λ _=>onPtr e λ f=>onRow (hget d f.1) λ _ g _ _ _ h=>aoC E a h f b d g) (bindO (aQ E d 56 116 b) λ e=>rc 69 [e] d λ f g=>bindO (aQ E g 116 56 f) λ h=>bindO (aT b) λ i=>aky a h i g)
def alT (a:V)(b:Addr)(c:Value)(d:H)(e:Nat):R:=ifB (Nat.ble (Nat.succ b.2) e) (binR (binC E .eql 56 false true) (getF a b.2) (.pointer none) λ f=>@joinR [] (λ _ g=>k (.tuple ⟨[]⟩) g) λ g=>am1 E rc g c f d)
def g66 (E:Env)(rc:RC)(a0:Value)(h:H)(k:Value→H→R):R:=bindO (aT a0) λ a=>onPtr a λ _=>onPtr a λ b=>onRow (hget h b.1) λ _ c _ _ _ d=>alT E rc k d b a0 h c
theorem Z9 (t:ak)(rc:RC)(a0:Value)(h:H)(k:Value→H→R):(ax (EX t) KK 49).run rc [a0] h k = g66 (EX t) rc a0 h k:=by kernel_rfl
def tp (a:Value)(b:H):R:=onTup a λ c=>nthF 0 c λ d=>onTup a λ e=>nthF 1 e λ f=>ifB (nT [d,f]) (k (.tuple ⟨[d,f]⟩) b)
def R8 (a:Addr)(b c:Value)(d:H):R:=onRow (hget d a.1) λ _ e _ _ _ f=>ifB (Nat.ble (Nat.add (Nat.add a.2 1) 2) e) (rc 244 [.agg ⟨ac f 2 (Nat.add a.2 1)⟩,b,c] d λ g h=>tp k g h)
def aaR (a:(aa [6,7])→H→R)(b:Value)(c:H):R:=@joinR [6,7] (λ d e=>a (d.1,(d.2.1,())) e) λ d=>onB b (d (.int .i64 (.ofNat 0),(.int .i64 (.ofNat 0),())) c) (k (.tuple ⟨[.int .i64 (.ofNat 0),.int .i64 (.ofNat 2)]⟩) c)
def ajr (a:(aa [6,7])→H→R)(b c:Value)(d:H):R:=onB c (binR (binC E .lss 3 false true) b (.int .i64 (.ofNat 1)) λ e=>aaR k a e d) (k (.tuple ⟨[.int .i64 (.ofNat 0),.int .i64 (.ofNat 1)]⟩) d)
def abe (a:(aa [6,7])→H→R)(b c:Value)(d:H):R:=binR (binC E .eql 123 false true) b (.pointer none) λ e=>@joinR [6,7] (λ f g=>a (f.1,(f.2.1,())) g) λ f=>ajr E k f c e d
def aiH (E:Env)(rc:RC)(a0 a1 a2:Value)(h:H)(k:Value→H→R):R:=@joinR [6,7] (λ _ a=>bindO (aT a0) λ b=>onPtr b λ c=>R8 rc k c a1 a2 a) λ a=>abe E k a a0 a2 h
theorem NG (t:ak)(rc:RC)(a0 a1 a2:Value)(h:H)(k:Value→H→R):(ax (EX t) KK 228).run rc [a0,a1,a2] h k = aiH (EX t) rc a0 a1 a2 h k:=by kernel_rfl
def agx (a:L)(b:V)(c d:Bool)(e:TypeId)(f:Value)(g h:H)(i j:Nat):R:=ifB (notB d) (ifB (Nat.beq (lenF a) 2) (ifB (Nat.ble j 0) (ifB (Nat.ble 2 i) (ifB (Nat.ble i 1000000000) (ifB (allF (λ l=>cell1F l) a) (letH (hset h g.1 (.row e i c false j (putF b 0 a))) λ l=>bindO (aU E l 185 (Addr.mk g.1 0 none)) λ m=>ifB (nT [m,f]) (k (.tuple ⟨[m,f]⟩) l)))))))
def adN (a b:Value)(c d:H):R:=onTup a λ e=>nthF 1 e λ f=>onCells b λ g=>onRow (hget d c.1) λ h i j l m n=>agx E k g n j l h f c d i m
def Sm (a:V)(b c:Value)(d e:H)(f:Nat):R:=ifB (Nat.ble 2 f) (rc 313 [.agg ⟨ac a 2 0⟩,b,c,.func (.func 314) #[] #[]] e λ g h=>onTup g λ i=>nthF 0 i λ j=>adN E k g j d h)
def UZ (a b:Value)(c d:H):R:=ifB (Nat.ble d.1 1000000000) (letH (ag d (.row 185 2 false false 0 (T.ofList unk [.int .i64 (.ofNat 0),.slice none 0 0]))) λ e=>onRow (hget e c.1) λ _ f _ _ _ g=>Sm E rc k g a b d e f)
def aaj (a:L)(b c:Value)(d:H):R:=ifB (allF (λ e=>cell1F e) a) (ifB (Nat.ble d.1 1000000000) (letH (ag d (.row 185 (lenF a) false false 0 (T.ofList unk a))) λ e=>UZ E rc k b c d e))
def aaf (E:Env)(rc:RC)(a0 a1 a2:Value)(h:H)(k:Value→H→R):R:=onCells a0 λ a=>aaj E rc k a a1 a2 h
theorem K0 (t:ak)(rc:RC)(a0 a1 a2:Value)(h:H)(k:Value→H→R):(ax (EX t) KK 229).run rc [a0,a1,a2] h k = aaf (EX t) rc a0 a1 a2 h k:=by kernel_rfl
def Vk (a:Value)(b:H):R:=binR (binC E .neq 3 false true) a (.int .i64 (.ofNat 0)) λ c=>ifB (nT [a,c]) (k (.tuple ⟨[a,c]⟩) b)
def ahq (a:Value)(b c:H):R:=onRow (hget c b.1) λ _ d _ _ _ e=>ifB (Nat.ble 3 d) (rc 239 [.agg ⟨ac e 3 0⟩,a,.int .i64 (.ofNat 0)] c λ f g=>Vk E k f g)
def aff (a b:Value)(c d:H):R:=@joinR [4,5] (λ _ e=>ahq E rc k a c e) λ e=>onB b (e (.int .i64 (.ofNat 0),(.bool false,())) d) (k (.tuple ⟨[.int .i64 (.ofNat 0),.bool false]⟩) d)
def Q5 (a:V)(b:Value)(c d:H)(e:Nat):R:=ifB (Nat.ble 3 e) (rc 237 [.agg ⟨ac a 3 0⟩,b] d λ f g=>binR (binC E .neq 24 false true) f (.int .i64 (.ofNat 0)) λ h=>aff E rc k b h c g)
def Vn (a:L)(b:Value)(c:H):R:=ifB (allF (λ d=>cell1F d) a) (ifB (Nat.ble c.1 1000000000) (letH (ag c (.row 175 (lenF a) false false 0 (T.ofList unk a))) λ d=>onRow (hget d c.1) λ _ e _ _ _ f=>Q5 E rc k f b c d e))
def adF (E:Env)(rc:RC)(a0 a1:Value)(h:H)(k:Value→H→R):R:=onCells a0 λ a=>Vn E rc k a a1 h
theorem OU (t:ak)(rc:RC)(a0 a1:Value)(h:H)(k:Value→H→R):(ax (EX t) KK 232).run rc [a0,a1] h k = adF (EX t) rc a0 a1 h k:=by kernel_rfl
def Vl (a:aa [1,2])(b c:V)(d:Addr)(e:Value)(f:H)(g:Nat):R:=ifB (Nat.ble (Nat.add (Nat.add d.2 6) 3) g) (ifB (aj (.agg ⟨ac c 3 (Nat.add d.2 6)⟩) (.agg ⟨ac b 3 (Nat.add d.2 6)⟩)) (ifB (aj a.2.1 a.2.1) (rc 158 [.agg ⟨ac b 3 (Nat.add d.2 6)⟩,a.2.1,e] f λ _ h=>k (.tuple ⟨[]⟩) h)))
def afD (a:aa [1,2])(b:V)(c d:Addr)(e:Value)(f:H):R:=ifB (aj (.pointer (some (Addr.mk d.1 (Nat.add d.2 6) none))) (.pointer (some (Addr.mk c.1 (Nat.add c.2 6) none)))) (onRow (hget f c.1) λ _ g _ _ _ h=>Vl rc k a b h c e f g)
def Td (a:aa [1,2])(b:V)(c:Addr)(d e:Value)(f:H)(g:Nat):R:=ifB (Nat.ble (Nat.add (Nat.add c.2 6) 3) g) (rc 156 [d,a.1] f λ h i=>ifB (aj d d) (bindO (aT d) λ j=>ifB (aj j e) (onPtr e λ l=>afD rc k a b c l h i)))
def Wc (a:aa [1,2])(b:Value)(c:H):R:=ifB (Nat.ble c.1 1000000000) (letH (H.mk c.1 c.2) λ d=>bindO (aT b) λ e=>onPtr e λ f=>onRow (hget d f.1) λ _ g _ _ _ h=>Td rc k a h f b e d g)
def SD (a:aa [1,2])(b:V)(c:Addr)(d:Value)(e:H)(f:Nat):R:=ifB (Nat.ble (Nat.add (Nat.add c.2 9) 3) f) (rc 157 [.agg ⟨ac b 3 (Nat.add c.2 9)⟩,a.1,a.2.1,.int .u8 (.ofNat 2)] e λ _ g=>Wc rc k a d g)
def Sx (a:(aa [1])→H→R)(b:aa [1,2])(c:V)(d:Addr)(e:Value)(f:H)(g:Nat):R:=ifB (Nat.ble (Nat.add (Nat.add d.2 9) 3) g) (rc 157 [.agg ⟨ac c 3 (Nat.add d.2 9)⟩,e,b.2.1,.int .u8 (.ofNat 0)] f λ _ h=>bindO (bn E h Builtin.min [b.1,e] [3,3]) λ i=>a (i,()) h)
def adl (a:(aa [1])→H→R)(b:aa [1,2])(c d:V)(e:Addr)(f g h:Value)(i:H)(j:Nat):R:=ifB (Nat.ble (Nat.add (Nat.add e.2 6) 3) j) (ifB (aj (.agg ⟨ac d 3 (Nat.add e.2 6)⟩) (.agg ⟨ac c 3 (Nat.add e.2 6)⟩)) (ifB (aj b.2.1 b.2.1) (rc 155 [.agg ⟨ac c 3 (Nat.add e.2 6)⟩,b.2.1,h] i λ _ l=>bindO (aT f) λ m=>onPtr m λ n=>onRow (hget l n.1) λ _ o _ _ _ p=>Sx E rc a b p n g l o)))
def aiG (a:(aa [1])→H→R)(b:aa [1,2])(c:V)(d e:Addr)(f g h:Value)(i:H):R:=ifB (aj (.pointer (some (Addr.mk e.1 (Nat.add e.2 6) none))) (.pointer (some (Addr.mk d.1 (Nat.add d.2 6) none)))) (onRow (hget i d.1) λ _ j _ _ _ l=>adl E rc a b c l d f g h i j)
def Wi (a:(aa [1])→H→R)(b:aa [1,2])(c:V)(d:Addr)(e f g:Value)(h:H)(i:Nat):R:=ifB (Nat.ble (Nat.add (Nat.add d.2 6) 3) i) (rc 156 [e,f] h λ j l=>ifB (aj e e) (bindO (aT e) λ m=>ifB (aj m g) (onPtr g λ n=>aiG E rc a b c d n e f j l)))
def zn (a:(aa [1])→H→R)(b:aa [1,2])(c d:Value)(e:H):R:=bindO (aT c) λ f=>onPtr f λ g=>onRow (hget e g.1) λ _ h _ _ _ i=>Wi E rc a b i g c d f e h
def Dt (a:(aa [1,2])→H→R)(b:(aa [1])→H→R)(c:aa [1,2])(d e f g:Value)(h:H):R:=onB f (@joinR [] (λ _ i=>ifB (Nat.ble i.1 1000000000) (letH (H.mk i.1 i.2) λ j=>zn E rc b c d e j)) λ i=>onB g (i () h) (a (c.1,(c.2.1,())) h)) (@joinR [] (λ _ i=>ifB (Nat.ble i.1 1000000000) (letH (H.mk i.1 i.2) λ j=>zn E rc b c d e j)) λ _=>a (c.1,(c.2.1,())) h)
def FD (a:(aa [1,2])→H→R)(b:(aa [1])→H→R)(c:aa [1,2])(d e f g h:Value)(i:H):R:=ae (λ j l=>Dt E rc a b c d e f j l) λ j=>aB f (binR (binC E .neq 299 false false) g h λ l=>j l i) (j undef i) (j undef i)
def KM (a:(aa [1,2])→H→R)(b:(aa [1])→H→R)(c:aa [1,2])(d e f g h:Value)(i:H):R:=ae (λ j l=>FD E rc a b c d e f g j l) λ j=>aB f (bindO (cg E 299 [(0,.int .u8 (.ofNat 2)),(1,h)]) λ l=>j l i) (j undef i) (j undef i)
def H0 (a:Value→H→R)(b c:Value)(d:H):R:=aB b (joinL (λ e=>a e d) λ e=>onNat c (bindO (aQ E d 3 5 c) e) λ f=>@Bool.rec (λ _=>R) (bindO (aQ E d 3 5 c) e) (e (.int .u8 (.ofNat f))) (Nat.ble f 255)) (a undef d) (a undef d)
def LA (a:(aa [1,2])→H→R)(b:(aa [1])→H→R)(c:aa [1,2])(d e f g:Value)(h:H):R:=ae (λ i j=>ae (λ l m=>KM E rc a b c d e f g l m) λ l=>H0 E l f i j) λ i=>aB f (i c.2.1 h) (i undef h) (i undef h)
def FH (a:Value→H→R)(b:Value)(c d:H):R:=aB b (onRow (hget d c.1) λ _ e _ _ _ f=>ifB (Nat.ble 2 e) (a (.agg ⟨ac f 2 0⟩) d)) (a undef d) (a undef d)
def EU (a:(aa [1,2])→H→R)(b:(aa [1])→H→R)(c:aa [1,2])(d e f:Value)(g h:H):R:=binR (binC E .neq 24 false true) f (.int .i64 (.ofNat 0)) λ i=>ae (λ j l=>LA E rc a b c d e i j l) λ j=>FH j i g h
def LK (a:(aa [1,2])→H→R)(b:(aa [1])→H→R)(c:aa [1,2])(d:L)(e:V)(f g:Bool)(h:TypeId)(i j l:Value)(m n:H)(o p:Nat):R:=ifB (notB g) (ifB (Nat.beq (lenF d) 2) (ifB (Nat.ble p 0) (ifB (Nat.ble 2 o) (ifB (Nat.ble o 1000000000) (ifB (allF (λ q=>cell1F q) d) (letH (hset n m.1 (.row h o f false p (putF e 0 d))) λ q=>EU E rc a b c i j l m q))))))
def Jp (a:(aa [1,2])→H→R)(b:(aa [1])→H→R)(c:aa [1,2])(d e f g:Value)(h:H):R:=ifB (Nat.ble h.1 1000000000) (letH (ag h (.row 299 2 false false 0 (T.ofList unk [.int .u8 (.ofNat 0),.int .u8 (.ofNat 0)]))) λ i=>onCells f λ j=>onRow (hget i h.1) λ l m n o p q=>LK E rc a b c j q n o l d e g h i m p)
def KQ (a:(aa [1,2])→H→R)(b:(aa [1])→H→R)(c:aa [1,2])(d:V)(e:Addr)(f g:Value)(h:H)(i:Nat):R:=ifB (Nat.ble (Nat.add (Nat.add e.2 9) 3) i) (rc 319 [.agg ⟨ac d 3 (Nat.add e.2 9)⟩,g] h λ j l=>onTup j λ m=>nthF 0 m λ n=>onTup j λ o=>nthF 1 o λ p=>Jp E rc a b c f g n p l)
def Oe (a:(aa [1,2])→H→R)(b:(aa [1])→H→R)(c:aa [1,2])(d e:Value)(f:H):R:=bindO (aT d) λ g=>onPtr g λ h=>onRow (hget f h.1) λ _ i _ _ _ j=>KQ E rc a b c j h d e f i
def I6 (a:(aa [1,2])→H→R)(b:(aa [1])→H→R)(c:aa [1,2])(d:Value)(e:H):R:=binR (binC E .shl 3 true false) (.int .i64 (.ofNat 1)) c.2.1 λ f=>binR (binC E .xor 3 false false) c.1 f λ g=>Oe E rc a b c d g e
def Nb (a b:(aa [1,2])→H→R)(c:aa [1,2])(d:Value)(e:H):R:=@joinR [1] (λ f g=>binR (binC E .add 3 false true) c.2.1 (.int .i64 (.ofNat 1)) λ h=>b (f.1,(h,())) g) λ f=>I6 E rc a f c d e
def CI (a b:(aa [1,2])→H→R)(c:aa [1,2])(d:Value)(e:H):R:=binR (binC E .lss 3 false true) c.2.1 (.int .i64 (.ofNat 10)) λ f=>@joinR [] (λ _ g=>Nb E rc a b c d g) λ g=>onB f (a (c.1,(c.2.1,())) e) (g () e)
def akf (E:Env)(rc:RC)(a0 a1 a2:Value)(h:H)(k:Value→H→R):R:=@joinR [1,2] (λ a b=>bindO (aT a0) λ c=>onPtr c λ d=>onRow (hget b d.1) λ _ e _ _ _ f=>SD rc k a f d a0 b e) λ a=>@loopF [1,2] (λ b c d=>CI E rc a b c a0 d) 1000000 (a1,(a2,())) h
theorem Nk (t:ak)(rc:RC)(a0 a1 a2:Value)(h:H)(k:Value→H→R):(ax (EX t) KK 236).run rc [a0,a1,a2] h k = akf (EX t) rc a0 a1 a2 h k:=by kernel_rfl
def aad (a:(aa [4])→H→R)(b c:Value)(d:H):R:=onB b (@joinR [4] (λ e f=>a (e.1,()) f) λ e=>onB c (e (.int .i64 (.ofNat 0),()) d) (k (.int .i64 (.ofNat 3)) d)) (@joinR [4] (λ e f=>a (e.1,()) f) λ _=>k (.int .i64 (.ofNat 3)) d)
def age (a:(aa [4])→H→R)(b c d:Value)(e:H):R:=ae (λ f g=>aad k a b f g) λ f=>aB b (binR (binC E .geq 3 false false) c d λ g=>f g e) (f undef e) (f undef e)
def Zs (a:(aa [4])→H→R)(b c:Value)(d e:H):R:=ae (λ f g=>ae (λ h i=>ae (λ j l=>age E k a c f j l) λ j=>aB c (rc 320 [h] i j) (j undef i) (j undef i)) λ h=>sY h c d g) λ f=>aB c (f b e) (f undef e) (f undef e)
def afV (a:(aa [4])→H→R)(b c:Value)(d e:H):R:=onB c (binR (binC E .lss 3 false true) b (.int .i64 (.ofNat 0)) λ f=>Zs E rc k a b f d e) (k (.int .i64 (.ofNat 1)) e)
def aae (a:(aa [4])→H→R)(b:V)(c:Value)(d e:H)(f:Nat):R:=ifB (Nat.ble 1 f) (binR (binC E .eql 123 false true) (getF b 0) (.pointer none) λ g=>@joinR [4] (λ h i=>a (h.1,()) i) λ h=>afV E rc k h c g d e)
def Q0 (a:Value)(b c:H):R:=@joinR [4] (λ _ d=>k (.int .i64 (.ofNat 0)) d) λ d=>onRow (hget c b.1) λ _ e _ _ _ f=>aae E rc k d f a b c e
def T8 (a:L)(b:Value)(c:H):R:=ifB (allF (λ d=>cell1F d) a) (ifB (Nat.ble c.1 1000000000) (letH (ag c (.row 175 (lenF a) false false 0 (T.ofList unk a))) λ d=>Q0 E rc k b c d))
def ab7 (E:Env)(rc:RC)(a0 a1:Value)(h:H)(k:Value→H→R):R:=onCells a0 λ a=>T8 E rc k a a1 h
theorem Kw (t:ak)(rc:RC)(a0 a1:Value)(h:H)(k:Value→H→R):(ax (EX t) KK 237).run rc [a0,a1] h k = ab7 (EX t) rc a0 a1 h k:=by kernel_rfl
def A6 (a:(aa [7,8])→H→R)(b:aa [7,8])(c:aa [7])(d:Value)(e f:H):R:=onRow (hget f e.1) λ _ g _ _ _ h=>ifB (Nat.ble 3 g) (rc 239 [.agg ⟨ac h 3 0⟩,d,b.2.1] f λ i j=>a (c.1,(i,())) j)
def agR (a:(aa [7,8])→H→R)(b:(aa [7])→H→R)(c:aa [7,8])(d e f:Value)(g h:H):R:=onB e (@joinR [] (λ _ i=>@joinR [7] (λ j l=>A6 rc a c j d g l) λ j=>j (c.2.1,()) i) λ _=>b (c.1,()) h) (@joinR [] (λ _ i=>@joinR [7] (λ j l=>A6 rc a c j d g l) λ j=>j (c.2.1,()) i) λ i=>onB f (b (c.1,()) h) (i () h))
def aeL (a:(aa [7,8])→H→R)(b:(aa [7])→H→R)(c:aa [7,8])(d e f g:Value)(h i:H):R:=ae (λ j l=>agR rc a b c d e j h l) λ j=>aB e (j undef i) (binR (binC E .lss 3 false false) f g λ l=>j l i) (j undef i)
def aj7 (a:(aa [7,8])→H→R)(b:(aa [7])→H→R)(c:aa [7,8])(d e f:Value)(g h:H):R:=ae (λ i j=>ae (λ l m=>aeL E rc a b c d f i l g m) λ l=>aB f (l undef j) (l e j) (l undef j)) λ i=>aB f (i undef h) (i c.2.1 h) (i undef h)
def aij (a:(aa [7])→H→R)(b c d:Value)(e f:H):R:=@loopF [7,8] (λ g h i=>binR (binC E .neq 3 false true) h.2.1 (.int .i64 (.ofNat 0)) λ j=>aj7 E rc g a h b c j e i) 1000000 (.int .i64 (.ofNat 0),(d,())) f
def aii (a:V)(b c:Value)(d e:H)(f:Nat):R:=ifB (Nat.ble 3 f) (rc 239 [.agg ⟨ac a 3 0⟩,b,.int .i64 (.ofNat 0)] e λ g h=>@joinR [7] (λ i j=>k i.1 j) λ i=>aij E rc i b c g d h)
def aee (a:L)(b c:Value)(d:H):R:=ifB (allF (λ e=>cell1F e) a) (ifB (Nat.ble d.1 1000000000) (letH (ag d (.row 175 (lenF a) false false 0 (T.ofList unk a))) λ e=>onRow (hget e d.1) λ _ f _ _ _ g=>aii E rc k g b c d e f))
def Sv (E:Env)(rc:RC)(a0 a1 a2:Value)(h:H)(k:Value→H→R):R:=onCells a0 λ a=>aee E rc k a a1 a2 h
theorem M1 (t:ak)(rc:RC)(a0 a1 a2:Value)(h:H)(k:Value→H→R):(ax (EX t) KK 238).run rc [a0,a1,a2] h k = Sv (EX t) rc a0 a1 a2 h k:=by kernel_rfl
def aho (a:aa [7])(b:Value→R)(c:H):R:=onNat a.1 (bindO (aQ E c 92 3 a.1) b) λ d=>@Bool.rec (λ _=>R) (bindO (aQ E c 92 3 a.1) b) (b (.int .i64 (.ofNat d))) (Nat.ble d 9223372036854775807)
def ah8 (a:(aa [7])→H→R)(b:V)(c:Value)(d:H)(e:Nat):R:=ifB (Nat.ble 1 e) (rc 260 [getF b 0,c,.int .i64 (.ofNat 8)] d λ f g=>onTup f λ h=>nthF 0 h λ i=>onTup f λ j=>nthF 1 j λ _=>a (i,()) g)
def agJ (a:(aa [7])→H→R)(b:V)(c:Value)(d:H):R:=rc 180 [.agg ⟨ac b 3 0⟩,c,.int .i64 (.ofNat 8)] d λ e f=>onTup e λ g=>nthF 0 g λ h=>onTup e λ i=>nthF 1 i λ _=>a (h,()) f
def VX (a:(aa [7])→H→R)(b:V)(c:Value)(d:H)(e:Nat):R:=ifB (Nat.ble 3 e) (binR (binC E .mul 3 true false) (.int .i64 (.ofNat 8)) c λ f=>agJ rc a b f d)
def ads (a:(aa [7])→H→R)(b c d:Value)(e f:H):R:=onB d (onRow (hget f e.1) λ _ g _ _ _ h=>ah8 rc a h c f g) (onRow (hget f e.1) λ _ g _ _ _ h=>VX E rc a h b f g)
def abw (a b:Value)(c d:H):R:=binR (binC E .eql 3 false true) b (.int .i64 (.ofNat 0)) λ e=>@joinR [7] (λ f g=>joinL (λ h=>k h g) λ h=>aho E f h g) λ f=>ads E rc f a b e c d
def S9 (a:L)(b c:Value)(d:H):R:=ifB (allF (λ e=>cell1F e) a) (ifB (Nat.ble d.1 1000000000) (letH (ag d (.row 175 (lenF a) false false 0 (T.ofList unk a))) λ e=>abw E rc k b c d e))
def abP (E:Env)(rc:RC)(a0 a1 a2:Value)(h:H)(k:Value→H→R):R:=onCells a0 λ a=>S9 E rc k a a1 a2 h
theorem Kp (t:ak)(rc:RC)(a0 a1 a2:Value)(h:H)(k:Value→H→R):(ax (EX t) KK 239).run rc [a0,a1,a2] h k = abP (EX t) rc a0 a1 a2 h k:=by kernel_rfl
def acn (a:(aa [])→H→R)(b:V)(c d:Value)(e:H)(f:Nat):R:=ifB (Nat.ble 1 f) (binR (binC E .add 3 false true) d (.int .i64 (.ofNat 8)) λ g=>joinL (λ h=>rc 171 [getF b 0,g,.int .i64 (.ofNat 8),h] e λ _ i=>a () i) λ h=>js E h c e)
def ajX (a b c:Value)(d e:H):R:=@joinR [] (λ _ f=>k (.tuple ⟨[]⟩) f) λ f=>onB c (f () e) (onRow (hget e d.1) λ _ g _ _ _ h=>acn E rc f h a b e g)
def S0 (a:(aa [])→H→R)(b:V)(c d:Value)(e:H)(f:Nat):R:=ifB (Nat.ble 1 f) (joinL (λ g=>rc 171 [getF b 0,c,.int .i64 (.ofNat 8),g] e λ _ h=>a () h) λ g=>js E g d e)
def Sk (a:(aa [])→H→R)(b:V)(c d:Value)(e:H)(f:Nat):R:=ifB (Nat.ble 3 f) (binR (binC E .mul 3 true false) (.int .i64 (.ofNat 8)) c λ g=>joinL (λ h=>rc 105 [.agg ⟨ac b 3 0⟩,g,.int .i64 (.ofNat 8),h] e λ _ i=>a () i) λ h=>js E h d e)
def aha (a:(aa [])→H→R)(b c d e:Value)(f g:H):R:=onB e (onRow (hget g f.1) λ _ h _ _ _ i=>S0 E rc a i c d g h) (onRow (hget g f.1) λ _ h _ _ _ i=>Sk E rc a i b d g h)
def adA (a b c d:Value)(e f:H):R:=@joinR [] (λ _ g=>binR (binC E .neq 3 false true) c (.int .i64 (.ofNat 0)) λ h=>ajX E rc k b c h e g) λ g=>aha E rc g a b c d e f
def aaY (a:L)(b c d:Value)(e:H):R:=ifB (allF (λ f=>cell1F f) a) (ifB (Nat.ble e.1 1000000000) (letH (ag e (.row 175 (lenF a) false false 0 (T.ofList unk a))) λ f=>binR (binC E .eql 3 false true) c (.int .i64 (.ofNat 0)) λ g=>adA E rc k b c d g e f))
def V3 (E:Env)(rc:RC)(a0 a1 a2 a3:Value)(h:H)(k:Value→H→R):R:=onCells a0 λ a=>aaY E rc k a a1 a2 a3 h
theorem Gf (t:ak)(rc:RC)(a0 a1 a2 a3:Value)(h:H)(k:Value→H→R):(ax (EX t) KK 240).run rc [a0,a1,a2,a3] h k = V3 (EX t) rc a0 a1 a2 a3 h k:=by kernel_rfl
def ZX (a b:V)(c:H)(d:Nat):R:=ifB (Nat.ble 2 d) (binR (binC E .mul 5 true false) (.int .u8 (.ofNat 4)) (getF b 1) λ e=>binR (binC E .add 5 false false) (getF a 0) e λ f=>k f c)
def WR (a b:H):R:=onRow (hget b a.1) λ _ c _ _ _ d=>ifB (Nat.ble 1 c) (onRow (hget b a.1) λ _ e _ _ _ f=>ZX E k d f b e)
def S8 (a:L)(b:H):R:=ifB (allF (λ c=>cell1F c) a) (ifB (Nat.ble b.1 1000000000) (letH (ag b (.row 299 (lenF a) false false 0 (T.ofList unk a))) λ c=>WR E k b c))
def Yv (E:Env)(rc:RC)(a0:Value)(h:H)(k:Value→H→R):R:=onCells a0 λ a=>S8 E k a h
theorem Ih (t:ak)(rc:RC)(a0:Value)(h:H)(k:Value→H→R):(ax (EX t) KK 241).run rc [a0] h k = Yv (EX t) rc a0 h k:=by kernel_rfl
def ag7 (a b:V)(c d:Value)(e:H)(f:Nat):R:=ifB (Nat.ble 2 f) (binR (binC E .add 3 false false) (getF b 1) c λ g=>rc 248 [getF a 0,g,d] e λ h i=>k h i)
def aex (a b:Value)(c d:H):R:=onRow (hget d c.1) λ _ e _ _ _ f=>ifB (Nat.ble 1 e) (onRow (hget d c.1) λ _ g _ _ _ h=>ag7 E rc k f h a b d g)
def UB (a b c:Value)(d e:H):R:=binR (binC E .neq 24 false true) c (.int .i64 (.ofNat 0)) λ f=>@joinR [6] (λ _ g=>aex E rc k a b d g) λ g=>onB f (g (.int .i64 (.ofNat 0),()) e) (k c e)
def aaN (a b:Value)(c d:H):R:=onRow (hget d c.1) λ _ e _ _ _ f=>ifB (Nat.ble 3 e) (bindO (bv E d 9 b) λ g=>rc 170 [.agg ⟨ac f 3 0⟩,a,g] d λ h i=>UB E rc k a b h c i)
def ais (a:L)(b c:Value)(d:H):R:=ifB (allF (λ e=>cell1F e) a) (ifB (Nat.ble d.1 1000000000) (letH (ag d (.row 131 (lenF a) false false 0 (T.ofList unk a))) λ e=>aaN E rc k b c d e))
def UK (E:Env)(rc:RC)(a0 a1 a2:Value)(h:H)(k:Value→H→R):R:=onCells a0 λ a=>ais E rc k a a1 a2 h
theorem Cr (t:ak)(rc:RC)(a0 a1 a2:Value)(h:H)(k:Value→H→R):(ax (EX t) KK 242).run rc [a0,a1,a2] h k = UK (EX t) rc a0 a1 a2 h k:=by kernel_rfl
def UN (a:Value→H→R)(b c:Value)(d:H):R:=aB b (binR (binC E .eql 3 false true) c (.int .i64 (.ofNat 8)) λ e=>a e d) (a undef d) (a undef d)
def YY (a b c:Value)(d:H):R:=onB b (ae (λ e f=>ae (λ g h=>onB c (k g h) (k (.bool true) h)) λ g=>UN E g c e f) λ e=>aB c (e a d) (e undef d) (e undef d)) (ae (λ _ e=>ae (λ _ f=>k (.bool true) f) λ f=>f undef e) λ e=>e undef d)
def abu (a:Value→H→R)(b c:Value)(d:H):R:=aB b (binR (binC E .eql 3 false true) c (.int .i64 (.ofNat 4)) λ e=>a e d) (a undef d) (a undef d)
def ac3 (a b c:Value)(d:H):R:=onB b (ae (λ e f=>ae (λ g h=>YY E k a c g h) λ g=>abu E g c e f) λ e=>aB c (e a d) (e undef d) (e undef d)) (ae (λ _ e=>ae (λ _ f=>ae (λ _ g=>ae (λ _ h=>k (.bool true) h) λ h=>h undef g) λ g=>g undef f) λ f=>f undef e) λ e=>e undef d)
def Tt (a:Value→H→R)(b c:Value)(d:H):R:=aB b (binR (binC E .eql 3 false true) c (.int .i64 (.ofNat 2)) λ e=>a e d) (a undef d) (a undef d)
def Ta (E:Env)(rc:RC)(a0:Value)(h:H)(k:Value→H→R):R:=binR (binC E .eql 3 false true) a0 (.int .i64 (.ofNat 1)) λ a=>ae (λ b c=>ae (λ d e=>ac3 E k a0 a d e) λ d=>Tt E d a b c) λ b=>aB a (b a0 h) (b undef h) (b undef h)
theorem M8 (t:ak)(rc:RC)(a0:Value)(h:H)(k:Value→H→R):(ax (EX t) KK 247).run rc [a0] h k = Ta (EX t) rc a0 h k:=by kernel_rfl
def afa (a:V)(b:Value)(c:H)(d:Nat):R:=ifB (Nat.ble 4 d) (joinL (λ e=>rc 105 [.agg ⟨ac a 3 1⟩,.int .i64 (.ofNat 0),.int .i64 (.ofNat 8),e] c λ _ f=>k (.tuple ⟨[]⟩) f) λ e=>js E e b c)
def agQ (a:L)(b:Value)(c:H):R:=ifB (allF (λ d=>cell1F d) a) (ifB (Nat.ble c.1 1000000000) (letH (ag c (.row 142 (lenF a) false false 0 (T.ofList unk a))) λ d=>onRow (hget d c.1) λ _ e _ _ _ f=>afa E rc k f b d e))
def P3 (E:Env)(rc:RC)(a0 a1:Value)(h:H)(k:Value→H→R):R:=onCells a0 λ a=>agQ E rc k a a1 h
theorem Na (t:ak)(rc:RC)(a0 a1:Value)(h:H)(k:Value→H→R):(ax (EX t) KK 255).run rc [a0,a1] h k = P3 (EX t) rc a0 a1 h k:=by kernel_rfl
def Ud (a b:H):R:=bindO (aU E b 144 (Addr.mk a.1 0 none)) λ c=>ifB (nT [c,.int .i64 (.ofNat 0)]) (k (.tuple ⟨[c,.int .i64 (.ofNat 0)]⟩) b)
def ajk (a:L)(b:V)(c d:Bool)(e:TypeId)(f g:H)(h i:Nat):R:=ifB (notB d) (ifB (Nat.beq (lenF a) 9) (ifB (Nat.ble i 0) (ifB (Nat.ble 9 h) (ifB (Nat.ble h 1000000000) (ifB (allF (λ j=>cell1F j) a) (letH (hset g f.1 (.row e h c false i (putF b 0 a))) λ j=>Ud E k f j))))))
def WZ (a b:V)(c:Value)(d e:H)(f:Nat):R:=ifB (Nat.ble 3 f) (bindO (cg E 144 [(0,.agg ⟨ac a 5 0⟩),(1,.agg ⟨ac b 3 0⟩),(2,c)]) λ g=>onCells g λ h=>onRow (hget e d.1) λ i j l m n o=>ajk E k h o l m i d e j n)
def QR (a:Value)(b c d e:H):R:=onRow (hget e d.1) λ _ f _ _ _ g=>ifB (Nat.ble 5 f) (onRow (hget e b.1) λ _ h _ _ _ i=>WZ E k g i a c e h)
def ajq (a b:H):R:=bindO (aU E b 144 (Addr.mk a.1 0 none)) λ c=>ifB (nT [c,.int .i64 (.ofNat 2)]) (k (.tuple ⟨[c,.int .i64 (.ofNat 2)]⟩) b)
def Ab (a:V)(b c:Bool)(d:TypeId)(e f:H)(g h:Nat):R:=ifB (notB c) (ifB (Nat.beq (lenF (cellsOfV (.agg (@List.toArray Value [.pointer none,.pointer none,.int .i64 (.ofNat 0),.int .i64 (.ofNat 0),.int .u64 (.ofNat 0),.pointer none,.int .i64 (.ofNat 0),.int .i64 (.ofNat 0),.int .i64 (.ofNat 0)])))) 9) (ifB (Nat.ble h 0) (ifB (Nat.ble 9 g) (ifB (Nat.ble g 1000000000) (ifB (allF (λ i=>cell1F i) (cellsOfV (.agg (@List.toArray Value [.pointer none,.pointer none,.int .i64 (.ofNat 0),.int .i64 (.ofNat 0),.int .u64 (.ofNat 0),.pointer none,.int .i64 (.ofNat 0),.int .i64 (.ofNat 0),.int .i64 (.ofNat 0)])))) (letH (hset f e.1 (.row d g b false h (putF a 0 (cellsOfV (.agg (@List.toArray Value [.pointer none,.pointer none,.int .i64 (.ofNat 0),.int .i64 (.ofNat 0),.int .u64 (.ofNat 0),.pointer none,.int .i64 (.ofNat 0),.int .i64 (.ofNat 0),.int .i64 (.ofNat 0)])))))) λ i=>ajq E k e i))))))
def RO (a:(aa [9])→H→R)(b:Value)(c d:H):R:=onB b (a (.int .i64 (.ofNat 0),()) d) (onRow (hget d c.1) λ e f g h i j=>Ab E k j g h e c d f i)
def aa2 (a:(aa [9])→H→R)(b c:Value)(d e:H):R:=onB b (@joinR [9] (λ f g=>a (f.1,()) g) λ f=>RO E k f c d e) (@joinR [9] (λ f g=>a (f.1,()) g) λ _=>onRow (hget e d.1) λ f g h i j l=>Ab E k l h i f d e g j)
def ET (a:Value→H→R)(b c:Value)(d:H):R:=aB b (binR (binC E .gtr 3 false true) c (.int .i64 (.ofNat 4096)) λ e=>a e d) (a undef d) (a undef d)
def EN (a:(aa [9])→H→R)(b c:Value)(d e:H):R:=ae (λ f g=>ae (λ h i=>aa2 E k a c h d i) λ h=>ET E h c f g) λ f=>aB c (f b e) (f undef e) (f undef e)
def xb (a:V)(b c:Bool)(d:TypeId)(e:Value)(f g:H)(h i:Nat):R:=ifB (notB c) (ifB (Nat.beq (lenF (cellsOfV (.agg (@List.toArray Value [.pointer none,.pointer none,.int .i64 (.ofNat 0),.int .i64 (.ofNat 0),.int .u64 (.ofNat 0),.pointer none,.int .i64 (.ofNat 0),.int .i64 (.ofNat 0),.int .i64 (.ofNat 0)])))) 9) (ifB (Nat.ble i 0) (ifB (Nat.ble 9 h) (ifB (Nat.ble h 1000000000) (ifB (allF (λ j=>cell1F j) (cellsOfV (.agg (@List.toArray Value [.pointer none,.pointer none,.int .i64 (.ofNat 0),.int .i64 (.ofNat 0),.int .u64 (.ofNat 0),.pointer none,.int .i64 (.ofNat 0),.int .i64 (.ofNat 0),.int .i64 (.ofNat 0)])))) (letH (hset g f.1 (.row d h b false i (putF a 0 (cellsOfV (.agg (@List.toArray Value [.pointer none,.pointer none,.int .i64 (.ofNat 0),.int .i64 (.ofNat 0),.int .u64 (.ofNat 0),.pointer none,.int .i64 (.ofNat 0),.int .i64 (.ofNat 0),.int .i64 (.ofNat 0)])))))) λ j=>bindO (aU E j 144 (Addr.mk f.1 0 none)) λ l=>ifB (nT [l,e]) (k (.tuple ⟨[l,e]⟩) j)))))))
def Dv (a:(aa [9])→H→R)(b c d:Value)(e f:H):R:=onB d (binR (binC E .lss 3 false true) b (.int .i64 (.ofNat 32)) λ g=>EN E k a b g e f) (onRow (hget f e.1) λ g h i j l m=>xb E k m i j g c e f h l)
def Cq (a b:H):R:=bindO (aU E b 144 (Addr.mk a.1 0 none)) λ c=>ifB (nT [c,.int .i64 (.ofNat 3)]) (k (.tuple ⟨[c,.int .i64 (.ofNat 3)]⟩) b)
def EM (a:V)(b c:Bool)(d:TypeId)(e f:H)(g h:Nat):R:=ifB (notB c) (ifB (Nat.beq (lenF (cellsOfV (.agg (@List.toArray Value [.pointer none,.pointer none,.int .i64 (.ofNat 0),.int .i64 (.ofNat 0),.int .u64 (.ofNat 0),.pointer none,.int .i64 (.ofNat 0),.int .i64 (.ofNat 0),.int .i64 (.ofNat 0)])))) 9) (ifB (Nat.ble h 0) (ifB (Nat.ble 9 g) (ifB (Nat.ble g 1000000000) (ifB (allF (λ i=>cell1F i) (cellsOfV (.agg (@List.toArray Value [.pointer none,.pointer none,.int .i64 (.ofNat 0),.int .i64 (.ofNat 0),.int .u64 (.ofNat 0),.pointer none,.int .i64 (.ofNat 0),.int .i64 (.ofNat 0),.int .i64 (.ofNat 0)])))) (letH (hset f e.1 (.row d g b false h (putF a 0 (cellsOfV (.agg (@List.toArray Value [.pointer none,.pointer none,.int .i64 (.ofNat 0),.int .i64 (.ofNat 0),.int .u64 (.ofNat 0),.pointer none,.int .i64 (.ofNat 0),.int .i64 (.ofNat 0),.int .i64 (.ofNat 0)])))))) λ i=>Cq E k e i))))))
def Ek (a:(aa [9])→H→R)(b c d:Value)(e f:H):R:=onB d (binR (binC E .neq 24 false true) c (.int .i64 (.ofNat 0)) λ g=>@joinR [9] (λ h i=>a (h.1,()) i) λ h=>Dv E k h b c g e f) (onRow (hget f e.1) λ g h i j l m=>EM E k m i j g e f h l)
def Jf (a:(aa [9])→H→R)(b c d:Value)(e f:H):R:=binR (binC E .lss 3 false true) d (.int .i64 (.ofNat 32)) λ g=>@joinR [9] (λ h i=>a (h.1,()) i) λ h=>Ek E k h b c g e f
def N7 (a:(aa [9])→H→R)(b c d:Value)(e f g:H):R:=onB d (onRow (hget g e.1) λ _ h _ _ _ i=>ifB (Nat.ble 3 h) (rc 245 [.agg ⟨ac i 3 0⟩] g λ j l=>Jf E k a b c j f l)) (onRow (hget g f.1) λ h i j l m n=>xb E k n j l h c f g i m)
def IX (a:(aa [9])→H→R)(b c:Value)(d e f:H):R:=binR (binC E .eql 24 false true) c (.int .i64 (.ofNat 1)) λ g=>@joinR [9] (λ h i=>a (h.1,()) i) λ h=>N7 E rc k h b c g d e f
def EH (a:L)(b:V)(c d:Bool)(e:TypeId)(f g:Value)(h i j l:H)(m n:Nat):R:=ifB (notB d) (ifB (Nat.beq (lenF a) 5) (ifB (Nat.ble n 0) (ifB (Nat.ble 5 m) (ifB (Nat.ble m 1000000000) (ifB (allF (λ o=>cell1F o) a) (letH (hset l j.1 (.row e m c false n (putF b 0 a))) λ o=>@joinR [9] (λ _ p=>QR E k f h i j p) λ p=>IX E rc k p f g h i o))))))
def FF (a b c:Value)(d e f:H):R:=ifB (Nat.ble f.1 1000000000) (letH (ag f (.row 142 5 false false 0 (T.ofList unk [.pointer none,.pointer none,.int .i64 (.ofNat 0),.int .i64 (.ofNat 0),.int .u64 (.ofNat 0)]))) λ g=>onCells b λ h=>onRow (hget g f.1) λ i j l m n o=>EH E rc k h o l m i a c d e f g j n)
def GL (a:V)(b c d:Value)(e f g:H)(h:Nat):R:=ifB (Nat.ble 3 h) (rc 337 [b,.agg ⟨ac a 3 0⟩,c] g λ i j=>onTup i λ l=>nthF 0 l λ m=>onTup i λ n=>nthF 1 n λ o=>FF E rc k d m o e f j)
def Kq (a b c:Value)(d e:H):R:=ifB (Nat.ble e.1 1000000000) (letH (ag e (.row 144 9 false false 0 (T.ofList unk [.pointer none,.pointer none,.int .i64 (.ofNat 0),.int .i64 (.ofNat 0),.int .u64 (.ofNat 0),.pointer none,.int .i64 (.ofNat 0),.int .i64 (.ofNat 0),.int .i64 (.ofNat 0)]))) λ f=>onRow (hget f d.1) λ _ g _ _ _ h=>GL E rc k h a b c d e f g)
def Ml (a:L)(b c d:Value)(e:H):R:=ifB (allF (λ f=>cell1F f) a) (ifB (Nat.ble e.1 1000000000) (letH (ag e (.row 131 (lenF a) false false 0 (T.ofList unk a))) λ f=>Kq E rc k b c d e f))
def abF (E:Env)(rc:RC)(a0 a1 a2 a3:Value)(h:H)(k:Value→H→R):R:=onCells a1 λ a=>Ml E rc k a a0 a2 a3 h
theorem Cx (t:ak)(rc:RC)(a0 a1 a2 a3:Value)(h:H)(k:Value→H→R):(ax (EX t) KK 282).run rc [a0,a1,a2,a3] h k = abF (EX t) rc a0 a1 a2 a3 h k:=by kernel_rfl
def ai6 (a:L)(b:V)(c d:Bool)(e:TypeId)(f g:H)(h i:Nat):R:=ifB (notB d) (ifB (Nat.beq (lenF a) 9) (ifB (Nat.ble i 0) (ifB (Nat.ble 9 h) (ifB (Nat.ble h 1000000000) (ifB (allF (λ j=>cell1F j) a) (letH (hset g f.1 (.row e h c false i (putF b 0 a))) λ j=>bindO (aU E j 146 (Addr.mk f.1 0 none)) λ l=>k l j))))))
def adS (a:V)(b c:H)(d:Nat):R:=ifB (Nat.ble 9 d) (bindO (cg E 146 [(0,.agg ⟨ac a 9 0⟩)]) λ e=>onCells e λ f=>onRow (hget c b.1) λ g h i j l m=>ai6 E k f m i j g b c h l)
def SL (a b:H):R:=ifB (Nat.ble b.1 1000000000) (letH (ag b (.row 146 9 false false 0 (T.ofList unk [.pointer none,.pointer none,.int .i64 (.ofNat 0),.int .i64 (.ofNat 0),.int .u64 (.ofNat 0),.pointer none,.int .i64 (.ofNat 0),.int .i64 (.ofNat 0),.int .i64 (.ofNat 0)]))) λ c=>onRow (hget c a.1) λ _ d _ _ _ e=>adS E k e b c d)
def aaT (a:L)(b:H):R:=ifB (allF (λ c=>cell1F c) a) (ifB (Nat.ble b.1 1000000000) (letH (ag b (.row 144 (lenF a) false false 0 (T.ofList unk a))) λ c=>SL E k b c))
def ajE (E:Env)(rc:RC)(a0:Value)(h:H)(k:Value→H→R):R:=onCells a0 λ a=>aaT E k a h
theorem H2 (t:ak)(rc:RC)(a0:Value)(h:H)(k:Value→H→R):(ax (EX t) KK 283).run rc [a0] h k = ajE (EX t) rc a0 h k:=by kernel_rfl
def agN (a:V)(b:H)(c:Nat):R:=ifB (Nat.ble 3 c) (rc 245 [.agg ⟨ac a 3 0⟩] b λ d e=>binR (binC E .quo 3 false true) d (.int .i64 (.ofNat 16)) λ f=>k f e)
def Ql (a:L)(b:H):R:=ifB (allF (λ c=>cell1F c) a) (ifB (Nat.ble b.1 1000000000) (letH (ag b (.row 383 (lenF a) false false 0 (T.ofList unk a))) λ c=>onRow (hget c b.1) λ _ d _ _ _ e=>agN E rc k e c d))
def aj4 (E:Env)(rc:RC)(a0:Value)(h:H)(k:Value→H→R):R:=onCells a0 λ a=>Ql E rc k a h
theorem Nt (t:ak)(rc:RC)(a0:Value)(h:H)(k:Value→H→R):(ax (EX t) KK 366).run rc [a0] h k = aj4 (EX t) rc a0 h k:=by kernel_rfl
def aaK (a b c:H):R:=rc 275 [.slice (some (Addr.mk b.1 0 none)) 2 4] c λ d e=>onTup d λ f=>nthF 0 f λ g=>onTup d λ h=>nthF 1 h λ _=>B1 E k g a e
def Az (a b:H):R:=ifB (Nat.ble b.1 1000000000) (letH (ag b (.row 3 2 false false 0 (T.ofList unk (lay (lay (List.flatten (List.replicate 2 (cellsOfV (.int .i64 (.ofNat 0))))) 0 (cellsOfV (.int .i64 (.ofNat 8)))) 1 (cellsOfV (.int .i64 (.ofNat 8))))))) λ c=>aaK E rc k a b c)
def UW (E:Env)(rc:RC)(h:H)(k:Value→H→R):R:=ifB (Nat.ble h.1 1000000000) (letH (ag h (.row 258 1 false false 0 (T.ofList unk [.slice none 0 0]))) λ a=>Az E rc k h a)
theorem Lu (t:ak)(rc:RC)(h:H)(k:Value→H→R):(ax (EX t) KK 367).run rc [] h k = UW (EX t) rc  h k:=by kernel_rfl
def aeW (a:(aa [2])→H→R)(b:Value)(c:H):R:=binR (binC E .lss 3 false true) b (.int .i64 (.ofNat 40)) λ d=>@joinR [2] (λ e f=>a (e.1,()) f) λ e=>onB d (e (.int .i64 (.ofNat 0),()) c) (k (.int .i64 (.ofNat 3)) c)
def Ue (a:(aa [2])→H→R)(b:Value)(c d:H):R:=onB b (onRow (hget d c.1) λ _ e _ _ _ f=>ifB (Nat.ble 3 e) (rc 245 [.agg ⟨ac f 3 0⟩] d λ g h=>aeW E k a g h)) (k (.int .i64 (.ofNat 1)) d)
def ahj (a:(aa [2])→H→R)(b:V)(c d:H)(e:Nat):R:=ifB (Nat.ble 1 e) (binR (binC E .eql 123 false true) (getF b 0) (.pointer none) λ f=>@joinR [2] (λ g h=>a (g.1,()) h) λ g=>Ue E rc k g f c d)
def agf (a b:H):R:=@joinR [2] (λ _ c=>k (.int .i64 (.ofNat 0)) c) λ c=>onRow (hget b a.1) λ _ d _ _ _ e=>ahj E rc k c e a b d
def afn (a:L)(b:H):R:=ifB (allF (λ c=>cell1F c) a) (ifB (Nat.ble b.1 1000000000) (letH (ag b (.row 190 (lenF a) false false 0 (T.ofList unk a))) λ c=>agf E rc k b c))
def aeT (E:Env)(rc:RC)(a0:Value)(h:H)(k:Value→H→R):R:=onCells a0 λ a=>afn E rc k a h
theorem NT (t:ak)(rc:RC)(a0:Value)(h:H)(k:Value→H→R):(ax (EX t) KK 332).run rc [a0] h k = aeT (EX t) rc a0 h k:=by kernel_rfl
def ahz (a b:H):R:=bindO (aU E b 258 (Addr.mk a.1 0 none)) λ c=>ifB (nT [c,.int .i64 (.ofNat 0)]) (k (.tuple ⟨[c,.int .i64 (.ofNat 0)]⟩) b)
def ajG (a:L)(b:V)(c d:Bool)(e:TypeId)(f g:H)(h i:Nat):R:=ifB (notB d) (ifB (Nat.beq (lenF a) 1) (ifB (Nat.ble i 0) (ifB (Nat.ble 1 h) (ifB (Nat.ble h 1000000000) (ifB (allF (λ j=>cell1F j) a) (letH (hset g f.1 (.row e h c false i (putF b 0 a))) λ j=>ahz E k f j))))))
def acF (a:Value)(b c:H):R:=bindO (cg E 258 [(0,a)]) λ d=>onCells d λ e=>onRow (hget c b.1) λ f g h i j l=>ajG E k e l h i f b c g j
def abZ (a:(aa [3])→H→R)(b:aa [3,18])(c:H):R:=ae (λ _ d=>ae (λ _ e=>@joinR [3] (λ f g=>a (f.1,()) g) λ f=>f (b.1,()) e) λ e=>e undef d) λ d=>d undef c
def YJ (a b:H):R:=bindO (aU E b 258 (Addr.mk a.1 0 none)) λ c=>ifB (nT [c,.int .i64 (.ofNat 2)]) (k (.tuple ⟨[c,.int .i64 (.ofNat 2)]⟩) b)
def ahk (a:V)(b c:Bool)(d:TypeId)(e f:H)(g h:Nat):R:=ifB (notB c) (ifB (Nat.beq (lenF (cellsOfV (.agg (@List.toArray Value [.slice none 0 0])))) 1) (ifB (Nat.ble h 0) (ifB (Nat.ble 1 g) (ifB (Nat.ble g 1000000000) (ifB (allF (λ i=>cell1F i) (cellsOfV (.agg (@List.toArray Value [.slice none 0 0])))) (letH (hset f e.1 (.row d g b false h (putF a 0 (cellsOfV (.agg (@List.toArray Value [.slice none 0 0])))))) λ i=>YJ E k e i))))))
def YE (a:(aa [3])→H→R)(b:aa [3,18])(c d:Value)(e f:H):R:=onB c (@joinR [3] (λ g h=>a (g.1,()) h) λ g=>g (b.1,()) f) (@joinR [3] (λ g h=>a (g.1,()) h) λ g=>onB d (g (b.1,()) f) (onRow (hget f e.1) λ h i j l m n=>ahk E k n j l h e f i m))
def Tg (a:Value→H→R)(b c:Value)(d:H):R:=aB b (a undef d) (binR (binC E .neq 3 false true) c (.int .i64 (.ofNat 8)) λ e=>a e d) (a undef d)
def WE (a:(aa [3])→H→R)(b:aa [3,18])(c:V)(d:Addr)(e f:Value)(g h:H):R:=onB e (ae (λ _ i=>ae (λ _ j=>@joinR [3] (λ l m=>a (l.1,()) m) λ l=>l (b.1,()) j) λ j=>j undef i) λ i=>i undef h) (ae (λ i j=>ae (λ l m=>YE E k a b f l g m) λ l=>Tg E l f i j) λ i=>aB f (i undef h) (i (getF c d.2) h) (i undef h))
def aaS (a:Value→H→R)(b c:Value)(d:H):R:=aB b (a undef d) (binR (binC E .neq 3 false true) c (.int .i64 (.ofNat 4)) λ e=>a e d) (a undef d)
def Ij (a:(aa [3])→H→R)(b:aa [3,18])(c:V)(d:Addr)(e f:Value)(g h:H):R:=onB e (ae (λ _ i=>ae (λ _ j=>abZ a b j) λ j=>j undef i) λ i=>i undef h) (ae (λ i j=>ae (λ l m=>WE E k a b c d f l g m) λ l=>aaS E l f i j) λ i=>aB f (i undef h) (i (getF c d.2) h) (i undef h))
def Ld (a:Value→H→R)(b c:Value)(d:H):R:=aB b (a undef d) (binR (binC E .neq 3 false true) c (.int .i64 (.ofNat 2)) λ e=>a e d) (a undef d)
def FU (a:(aa [3])→H→R)(b:aa [3,18])(c:V)(d:Addr)(e:Value)(f g:H):R:=ae (λ h i=>ae (λ j l=>Ij E k a b c d e j f l) λ j=>Ld E j e h i) λ h=>aB e (h undef g) (h (getF c d.2) g) (h undef g)
def HG (a:(aa [3])→H→R)(b:aa [3,18])(c:V)(d:Addr)(e f:H)(g:Nat):R:=ifB (Nat.ble (Nat.succ d.2) g) (binR (binC E .neq 3 false true) (getF c d.2) (.int .i64 (.ofNat 1)) λ h=>FU E k a b c d h e f)
def KN (a:(aa [3])→H→R)(b:aa [3,18])(c:Addr)(d e:H)(f g:Nat):R:=ifB (Nat.ble (Nat.succ f) g) (addOffF c (Nat.mul f 1) λ h=>onPtr h λ i=>onRow (hget e i.1) λ _ j _ _ _ l=>HG E k a b l i d e j)
def Oj (a:(aa [3,18])→H→R)(b:aa [3,18])(c:Value)(d e:H):R:=@joinR [3] (λ f g=>binR (binC E .add 3 false true) b.2.1 (.int .i64 (.ofNat 1)) λ h=>a (f.1,(h,())) g) λ f=>onNat b.2.1 none λ g=>onSl c none λ h i _=>KN E k f b h d e g i
def D1 (a:(aa [3,18])→H→R)(b:(aa [3])→H→R)(c:aa [3,18])(d e:Value)(f g:H):R:=binR (binC E .lss 3 false false) c.2.1 e λ h=>@joinR [] (λ _ i=>Oj E k a c d f i) λ i=>onB h (b (c.1,()) g) (i () g)
def Md (a:aa [3])(b c:Value)(d e:H):R:=@joinR [3] (λ _ f=>rc 334 [b] f λ g h=>acF E k g d h) λ f=>@loopF [3,18] (λ g h i=>D1 E k g f h b c d i) 1000000 (a.1,(.int .i64 (.ofNat 0),())) e
def Fb (a b:H):R:=bindO (aU E b 258 (Addr.mk a.1 0 none)) λ c=>ifB (nT [c,.int .i64 (.ofNat 15)]) (k (.tuple ⟨[c,.int .i64 (.ofNat 15)]⟩) b)
def NW (a:V)(b c:Bool)(d:TypeId)(e f:H)(g h:Nat):R:=ifB (notB c) (ifB (Nat.beq (lenF (cellsOfV (.agg (@List.toArray Value [.slice none 0 0])))) 1) (ifB (Nat.ble h 0) (ifB (Nat.ble 1 g) (ifB (Nat.ble g 1000000000) (ifB (allF (λ i=>cell1F i) (cellsOfV (.agg (@List.toArray Value [.slice none 0 0])))) (letH (hset f e.1 (.row d g b false h (putF a 0 (cellsOfV (.agg (@List.toArray Value [.slice none 0 0])))))) λ i=>Fb E k e i))))))
def M6 (a:(aa [3])→H→R)(b:Value)(c d:H):R:=@joinR [3] (λ e f=>a (e.1,()) f) λ e=>onB b (e (.int .i64 (.ofNat 0),()) d) (onRow (hget d c.1) λ f g h i j l=>NW E k l h i f c d g j)
def Il (a b:H):R:=bindO (aU E b 258 (Addr.mk a.1 0 none)) λ c=>ifB (nT [c,.int .i64 (.ofNat 17)]) (k (.tuple ⟨[c,.int .i64 (.ofNat 17)]⟩) b)
def K8 (a:V)(b c:Bool)(d:TypeId)(e f:H)(g h:Nat):R:=ifB (notB c) (ifB (Nat.beq (lenF (cellsOfV (.agg (@List.toArray Value [.slice none 0 0])))) 1) (ifB (Nat.ble h 0) (ifB (Nat.ble 1 g) (ifB (Nat.ble g 1000000000) (ifB (allF (λ i=>cell1F i) (cellsOfV (.agg (@List.toArray Value [.slice none 0 0])))) (letH (hset f e.1 (.row d g b false h (putF a 0 (cellsOfV (.agg (@List.toArray Value [.slice none 0 0])))))) λ i=>Il E k e i))))))
def GJ (a:(aa [3])→H→R)(b c:Value)(d e:H):R:=onB c (joinL (λ f=>binR (binC E .gtr 3 false true) f (.int .i64 (.ofNat 32)) λ g=>M6 E k a g d e) λ f=>onSl b (bindO (bv E e 256 b) f) λ _ g _=>f (.int .i64 (.ofNat g))) (onRow (hget e d.1) λ f g h i j l=>K8 E k l h i f d e g j)
def EY (a:(aa [3])→H→R)(b c:Value)(d e:H):R:=binR (binC E .eql 3 false true) c (.int .i64 (.ofNat 0)) λ f=>@joinR [3] (λ g h=>a (g.1,()) h) λ g=>GJ E k g b f d e
def ID (a:Value)(b c:H):R:=@joinR [3] (λ d e=>joinL (λ f=>Md E rc k d a f b e) λ f=>onSl a (bindO (bv E e 256 a) f) λ _ g _=>f (.int .i64 (.ofNat g))) λ d=>joinL (λ e=>EY E k d a e b c) λ e=>onSl a (bindO (bv E c 256 a) e) λ _ f _=>e (.int .i64 (.ofNat f))
def Rq (E:Env)(rc:RC)(a0:Value)(h:H)(k:Value→H→R):R:=ifB (Nat.ble h.1 1000000000) (letH (ag h (.row 258 1 false false 0 (T.ofList unk [.slice none 0 0]))) λ a=>ID E rc k a0 h a)
theorem Oa (t:ak)(rc:RC)(a0:Value)(h:H)(k:Value→H→R):(ax (EX t) KK 275).run rc [a0] h k = Rq (EX t) rc a0 h k:=by kernel_rfl
end
end Go.Ev
