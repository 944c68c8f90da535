/-
  Functions of a program as plain Lean, for any table of functions that are answered for; printed by a program.
-/
import Derived.Test.YtdibeojmiobklaaGreatDoorMa
set_option linter.unusedVariables false
set_option linter.unusedSimpArgs false
namespace Go.Ev
open Go F Go.Proofs
set_option maxRecDepth 100000
set_option linter.unusedVariables false
noncomputable section
variable (E : Env) (rc : RC) (k : Value → H → R)
def g83_0 (a b c:Value)(d e:H):R:=onRow (hget e d.1) λ _ f _ _ _ g=>ifB (Nat.ble 3 f) (rc 175 [.agg ⟨cellsF g 3 0⟩,a,c,b] e λ _ h=>k (.int .i64 (.ofNat 0)) h)
def g83_1 (a b c d:Value)(e f:H):R:=onRow (hget f e.1) λ _ g _ _ _ h=>ifB (Nat.ble 3 g) (rc 175 [.agg ⟨cellsF h 3 0⟩,a,b,d] f λ _ i=>g83_0 rc k a b c e i)
def g83_2 (a:FEnv [6])(b c d e:Value)(f g:H):R:=binR (binC E .eql 3 false false) e c λ h=>@joinR [6] (λ _ i=>g83_1 rc k b c d e f i) λ i=>onB h (i (a.1,()) g) (k (.int .i64 (.ofNat 9)) g)
def g83_3 (a:FEnv [6])(b c d:Value)(e f:H):R:=onRow (hget f e.1) λ _ g _ _ _ h=>ifB (Nat.ble 3 g) (rc 174 [.agg ⟨cellsF h 3 0⟩,b,d] f λ i j=>g83_2 E rc k a b c d i e j)
def g83_4 (a:FEnv [6])(b c:Value)(d e:H):R:=onRow (hget e d.1) λ _ f _ _ _ g=>ifB (Nat.ble 3 f) (rc 173 [.agg ⟨cellsF g 3 0⟩,b,c] e λ h i=>g83_3 E rc k a b c h d i)
def g83_5 (a:FEnv [6])(b c d:Value)(e f:H):R:=binR (binC E .neq 41 false true) d (.int .i64 (.ofNat 0)) λ g=>@joinR [6] (λ h i=>g83_4 E rc k h b c e i) λ h=>onB g (h (a.1,()) f) (k d f)
def g83_6 (a:FEnv [6])(b:V)(c d:Value)(e f:H)(g:Nat):R:=ifB (Nat.ble 1 g) (rc 178 [getF b 0,d,.int .i64 (.ofNat 16)] f λ h i=>onTup h λ j=>nthF 0 j λ _=>onTup h λ l=>nthF 1 l λ m=>g83_5 E rc k a c d m e i)
def g83_7 (a:FEnv [6])(b c d:Value)(e f:H):R:=@joinR [6] (λ g h=>onRow (hget h e.1) λ _ i _ _ _ j=>g83_6 E rc k g j b c e h i) λ g=>onB d (g (a.1,()) f) (k (.int .i64 (.ofNat 2)) f)
def g83_8 (a b c d:Value)(e f:H):R:=@joinR [6] (λ g h=>binR (binC E .lss 3 false true) b (.int .i64 (.ofNat 1)) λ i=>g83_7 E rc k g a b i e h) λ g=>onB d (g (.int .i64 (.ofNat 0),()) f) (k c f)
def g83_9 (a:V)(b c:Value)(d e:H)(f:Nat):R:=ifB (Nat.ble 3 f) (rc 172 [.agg ⟨cellsF a 3 0⟩,b] e λ g h=>binR (binC E .neq 41 false true) g (.int .i64 (.ofNat 0)) λ i=>g83_8 E rc k b c g i d h)
def g83_10 (a:L)(b c:Value)(d:H):R:=ifB (allF (λ e=>cell1F e) a) (ifB (Nat.ble d.1 1000000000) (letH (hpush d (.row 80 (lenF a) false false 0 (T.ofList unk a))) λ e=>onRow (hget e d.1) λ _ f _ _ _ g=>g83_9 E rc k g b c d e f))
def g83 (E:Env)(rc:RC)(a0 a1 a2:Value)(h:H)(k:Value→H→R):R:=onCells a0 λ a=>g83_10 E rc k a a1 a2 h
theorem g83_eq (t:ExtT)(rc:RC)(a0 a1 a2:Value)(h:H)(k:Value→H→R):(funB (EX t) KK 83).run rc [a0,a1,a2] h k = g83 (EX t) rc a0 a1 a2 h k:=by kernel_rfl
def g85_0 (a:(FEnv [1,2])→H→R)(b:FEnv [1,2])(c:Value)(d:H):R:=binR (binC E .add 3 false false) b.1 c λ e=>binR (binC E .sub 3 false false) b.2.1 c λ f=>a (e,(f,())) d
def g85_1 (a:(FEnv [1,2])→H→R)(b:FEnv [1,2])(c d e f:Value)(g:H):R:=bindO (sliceV E 235 e (some f) none none) λ h=>bindO (sliceV E 60 h none (some d) none) λ i=>onF c λ j l m=>rc j (catV l m [i]) g λ _ n=>g85_0 E a b d n
def g85_2 (a:(FEnv [1,2])→H→R)(b:FEnv [1,2])(c:V)(d:Addr)(e f:Value)(g:H)(h:Nat):R:=ifB (Nat.ble (Nat.succ d.2) h) (bindO (nilV (getF c d.2)) λ i=>binR (binC E .rem 3 false true) b.1 (.int .i64 (.ofNat 4096)) λ j=>g85_1 E rc a b e f i j g)
def g85_3 (a:(FEnv [1,2])→H→R)(b:FEnv [1,2])(c:Addr)(d e:Value)(f:H)(g h:Nat):R:=ifB (Nat.ble (Nat.succ g) h) (addOffF c (Nat.mul g 1) λ i=>onPtr i λ j=>onRow (hget f j.1) λ _ l _ _ _ m=>g85_2 E rc a b m j d e f l)
def g85_4 (a:(FEnv [1,2])→H→R)(b:FEnv [1,2])(c:V)(d:Addr)(e f:Value)(g:H)(h:Nat):R:=ifB (Nat.ble (Nat.succ d.2) h) (binR (binC E .quo 3 false true) b.1 (.int .i64 (.ofNat 4096)) λ i=>onNat i none λ j=>onSl (getF c d.2) none λ l m _=>g85_3 E rc a b l e f g j m)
def g85_5 (a:(FEnv [1,2])→H→R)(b:FEnv [1,2])(c d e:Value)(f:H):R:=bindO (nilV c) λ g=>onPtr g λ _=>onPtr g λ h=>onRow (hget f h.1) λ _ i _ _ _ j=>g85_4 E rc a b j h d e f i
def g85_6 (a:(FEnv [1,2])→H→R)(b:FEnv [1,2])(c d e:Value)(f:H):R:=binR (binC E .sub 3 true false) (.int .i64 (.ofNat 4096)) e λ g=>bindO (builtinV E f Builtin.min [b.2.1,g] [3,3]) λ h=>g85_5 E rc a b c d h f
def g85_7 (a:(FEnv [1,2])→H→R)(b:FEnv [1,2])(c d:Value)(e:H):R:=@joinR [1,2] (λ f g=>a (f.1,(f.2.1,())) g) λ f=>binR (binC E .rem 3 false true) b.1 (.int .i64 (.ofNat 4096)) λ g=>g85_6 E rc f b c d g e
def g85_8 (a:(FEnv [1,2])→H→R)(b:(FEnv [])→H→R)(c:FEnv [1,2])(d e:Value)(f:H):R:=binR (binC E .gtr 3 false true) c.2.1 (.int .i64 (.ofNat 0)) λ g=>@joinR [] (λ _ h=>g85_7 E rc a c d e h) λ h=>onB g (b () f) (h () f)
def g85 (E:Env)(rc:RC)(a0 a1 a2 a3:Value)(h:H)(k:Value→H→R):R:=@joinR [] (λ _ a=>k (.tuple ⟨[]⟩) a) λ a=>@loopF [1,2] (λ b c d=>g85_8 E rc b a c a0 a3 d) 1000000 (a1,(a2,())) h
theorem g85_eq (t:ExtT)(rc:RC)(a0 a1 a2 a3:Value)(h:H)(k:Value→H→R):(funB (EX t) KK 85).run rc [a0,a1,a2,a3] h k = g85 (EX t) rc a0 a1 a2 a3 h k:=by kernel_rfl
def g87_0 (a b:H):R:=bindO (loadV E b 78 (Addr.mk a.1 0 none)) λ c=>ifB (nT [c,.int .i64 (.ofNat 0)]) (k (.tuple ⟨[c,.int .i64 (.ofNat 0)]⟩) b)
def g87_1 (a:L)(b:V)(c d:Bool)(e:TypeId)(f g:H)(h i:Nat):R:=ifB (notB d) (ifB (Nat.beq (lenF a) 3) (ifB (Nat.ble i 0) (ifB (Nat.ble 3 h) (ifB (Nat.ble h 1000000000) (ifB (allF (λ j=>cell1F j) a) (letH (hset g f.1 (.row e h c false i (putF b 0 a))) λ j=>g87_0 E k f j))))))
def g87_2 (a b c:Value)(d e:H):R:=bindO (buildV E 78 [(0,a),(1,b),(2,c)]) λ f=>onCells f λ g=>onRow (hget e d.1) λ h i j l m n=>g87_1 E k g n j l h d e i m
def g87_3 (a:V)(b c:Bool)(d:TypeId)(e:Value)(f g:H)(h i:Nat):R:=ifB (notB c) (ifB (Nat.beq (lenF (cellsOfV (.agg (@List.toArray Value [.pointer none,.int .i64 (.ofNat 0),.int .i64 (.ofNat 0)])))) 3) (ifB (Nat.ble i 0) (ifB (Nat.ble 3 h) (ifB (Nat.ble h 1000000000) (ifB (allF (λ j=>cell1F j) (cellsOfV (.agg (@List.toArray Value [.pointer none,.int .i64 (.ofNat 0),.int .i64 (.ofNat 0)])))) (letH (hset g f.1 (.row d h b false i (putF a 0 (cellsOfV (.agg (@List.toArray Value [.pointer none,.int .i64 (.ofNat 0),.int .i64 (.ofNat 0)])))))) λ j=>bindO (loadV E j 78 (Addr.mk f.1 0 none)) λ l=>ifB (nT [l,e]) (k (.tuple ⟨[l,e]⟩) j)))))))
def g87_4 (a b c d e:Value)(f g:H):R:=@joinR [7] (λ _ h=>g87_2 E k a b c f h) λ h=>onB e (h (.int .i64 (.ofNat 0),()) g) (onRow (hget g f.1) λ i j l m n o=>g87_3 E k o l m i d f g j n)
def g87_5 (a:L)(b c d:Value)(e f:H):R:=nthF 1 a λ g=>binR (binC E .neq 41 false true) g (.int .i64 (.ofNat 0)) λ h=>g87_4 E k b c d g h e f
def g87 (E:Env)(rc:RC)(a0 a1 a2:Value)(h:H)(k:Value→H→R):R:=ifB (Nat.ble h.1 1000000000) (letH (hpush h (.row 78 3 false false 0 (T.ofList unk [.pointer none,.int .i64 (.ofNat 0),.int .i64 (.ofNat 0)]))) λ a=>rc 178 [a0,a1,a2] a λ b c=>onTup b λ d=>nthF 0 d λ _=>onTup b λ e=>g87_5 E k e a0 a1 a2 h c)
theorem g87_eq (t:ExtT)(rc:RC)(a0 a1 a2:Value)(h:H)(k:Value→H→R):(funB (EX t) KK 87).run rc [a0,a1,a2] h k = g87 (EX t) rc a0 a1 a2 h k:=by kernel_rfl
def g88_0 (a:L)(b:V)(c d:Bool)(e:TypeId)(f:Value)(g h:H)(i j:Nat):R:=ifB (notB d) (ifB (Nat.beq (lenF a) 3) (ifB (Nat.ble j 0) (ifB (Nat.ble 3 i) (ifB (Nat.ble i 1000000000) (ifB (allF (λ l=>cell1F l) a) (letH (hset h g.1 (.row e i c false j (putF b 0 a))) λ l=>bindO (loadV E l 78 (Addr.mk g.1 0 none)) λ m=>ifB (nT [m,f]) (k (.tuple ⟨[m,f]⟩) l)))))))
def g88_1 (a b:Value)(c d:H):R:=onTup a λ e=>nthF 1 e λ f=>onCells b λ g=>onRow (hget d c.1) λ h i j l m n=>g88_0 E k g n j l h f c d i m
def g88_2 (a b:V)(c d:Value)(e f:H)(g:Nat):R:=ifB (Nat.ble 2 g) (binR (binC E .add 3 false false) (getF b 1) c λ h=>rc 87 [getF a 0,h,d] f λ i j=>onTup i λ l=>nthF 0 l λ m=>g88_1 E k i m e j)
def g88_3 (a b:Value)(c d e:H):R:=onRow (hget e c.1) λ _ f _ _ _ g=>ifB (Nat.ble 1 f) (onRow (hget e c.1) λ _ h _ _ _ i=>g88_2 E rc k g i a b d e h)
def g88_5 (a:(FEnv [7])→H→R)(b c:Value)(d e:H):R:=onB c (a (.int .i64 (.ofNat 0),()) e) (onRow (hget e d.1) λ f g h i j l=>g87_3 E k l h i f b d e g j)
def g88_6 (a b c:Value)(d e f:H):R:=binR (binC E .neq 41 false true) c (.int .i64 (.ofNat 0)) λ g=>@joinR [7] (λ _ h=>g88_3 E rc k a b d e h) λ h=>g88_5 E k h c g e f
def g88_7 (a b:Value)(c d e:H):R:=onRow (hget e c.1) λ _ f _ _ _ g=>ifB (Nat.ble 3 f) (rc 95 [.agg ⟨cellsF g 3 0⟩,a,b] e λ h i=>g88_6 E rc k a b h c d i)
def g88_8 (a b:Value)(c d:H):R:=ifB (Nat.ble d.1 1000000000) (letH (hpush d (.row 78 3 false false 0 (T.ofList unk [.pointer none,.int .i64 (.ofNat 0),.int .i64 (.ofNat 0)]))) λ e=>g88_7 E rc k a b c d e)
def g88_9 (a:L)(b c:Value)(d:H):R:=ifB (allF (λ e=>cell1F e) a) (ifB (Nat.ble d.1 1000000000) (letH (hpush d (.row 78 (lenF a) false false 0 (T.ofList unk a))) λ e=>g88_8 E rc k b c d e))
def g88 (E:Env)(rc:RC)(a0 a1 a2:Value)(h:H)(k:Value→H→R):R:=onCells a0 λ a=>g88_9 E rc k a a1 a2 h
theorem g88_eq (t:ExtT)(rc:RC)(a0 a1 a2:Value)(h:H)(k:Value→H→R):(funB (EX t) KK 88).run rc [a0,a1,a2] h k = g88 (EX t) rc a0 a1 a2 h k:=by kernel_rfl
def g93_0 (a b:V)(c d e:Value)(f:H)(g:Nat):R:=ifB (Nat.ble 2 g) (binR (binC E .add 3 false false) (getF b 1) c λ h=>rc 39 [getF a 0,h,d,e] f λ i j=>k i j)
def g93_1 (a b c:Value)(d e:H):R:=onRow (hget e d.1) λ _ f _ _ _ g=>ifB (Nat.ble 1 f) (onRow (hget e d.1) λ _ h _ _ _ i=>g93_0 E rc k g i a b c e h)
def g93_2 (a b c d:Value)(e f:H):R:=binR (binC E .neq 41 false true) d (.int .i64 (.ofNat 0)) λ g=>@joinR [8] (λ _ h=>g93_1 E rc k a b c e h) λ h=>onB g (h (.int .i64 (.ofNat 0),()) f) (k d f)
def g93_3 (a b c:Value)(d e:H):R:=onRow (hget e d.1) λ _ f _ _ _ g=>ifB (Nat.ble 3 f) (rc 95 [.agg ⟨cellsF g 3 0⟩,a,b] e λ h i=>g93_2 E rc k a b c h d i)
def g93_4 (a:L)(b c d:Value)(e:H):R:=ifB (allF (λ f=>cell1F f) a) (ifB (Nat.ble e.1 1000000000) (letH (hpush e (.row 78 (lenF a) false false 0 (T.ofList unk a))) λ f=>g93_3 E rc k b c d e f))
def g93 (E:Env)(rc:RC)(a0 a1 a2 a3:Value)(h:H)(k:Value→H→R):R:=onCells a0 λ a=>g93_4 E rc k a a1 a2 a3 h
theorem g93_eq (t:ExtT)(rc:RC)(a0 a1 a2 a3:Value)(h:H)(k:Value→H→R):(funB (EX t) KK 93).run rc [a0,a1,a2,a3] h k = g93 (EX t) rc a0 a1 a2 a3 h k:=by kernel_rfl
def g96_0 (a b c:Value)(d e:H):R:=bindO (sliceV E 249 (.pointer (some (Addr.mk d.1 0 none))) none (some c) none) λ f=>bindO (convV E e 60 9 f) λ g=>rc 183 [a,b,g] e λ h i=>k h i
def g96_1 (a:(FEnv [])→H→R)(b:L)(c:V)(d e:Bool)(f:Addr)(g:TypeId)(h:H)(i j:Nat):R:=ifB (notB e) (ifB (Nat.beq (lenF b) 1) (ifB (Nat.ble j f.2) (ifB (Nat.ble (Nat.add f.2 1) i) (ifB (Nat.ble i 1000000000) (ifB (allF (λ l=>cell1F l) b) (letH (hset h f.1 (.row g i d false j (putF c f.2 b))) λ l=>a () l))))))
def g96_2 (a:(FEnv [])→H→R)(b:Value)(c d:H)(e:Nat):R:=ifB (Nat.ble (Nat.succ e) 8) (addOffF (Addr.mk c.1 0 none) (Nat.mul e 1) λ f=>onPtr f λ g=>onCells b λ h=>onRow (hget d g.1) λ i j l m n o=>g96_1 a h o l m g i d j n)
def g96_3 (a:(FEnv [])→H→R)(b:FEnv [18])(c:Value)(d e:H):R:=joinL (λ f=>onNat b.1 none λ g=>g96_2 a f d e g) λ f=>onNat c (bindO (convV E e 25 5 c) f) λ g=>@Bool.rec (λ _=>R) (bindO (convV E e 25 5 c) f) (f (.int .u8 (.ofNat g))) (Nat.ble g 255)
def g96_4 (a:(FEnv [])→H→R)(b:FEnv [18])(c:Value)(d e:H):R:=binR (binC E .mul 3 true false) (.int .i64 (.ofNat 8)) b.1 λ f=>binR (binC E .shr 25 false false) c f λ g=>g96_3 E a b g d e
def g96_5 (a:(FEnv [18])→H→R)(b:FEnv [18])(c:Value)(d e:H):R:=@joinR [] (λ _ f=>binR (binC E .add 3 false true) b.1 (.int .i64 (.ofNat 1)) λ g=>a (g,()) f) λ f=>g96_4 E f b c d e
def g96_6 (a:(FEnv [18])→H→R)(b:(FEnv [])→H→R)(c:FEnv [18])(d:Value)(e f:H):R:=binR (binC E .lss 3 false true) c.1 (.int .i64 (.ofNat 8)) λ g=>@joinR [] (λ _ h=>g96_5 E a c d e h) λ h=>onB g (b () f) (h () f)
def g96_7 (a b c d:Value)(e:H):R:=ifB (Nat.ble e.1 1000000000) (letH (hpush e (.row 249 8 false false 0 (@T.c Value (.int .u8 (.ofNat 0))))) λ f=>@joinR [] (λ _ g=>g96_0 E rc k a b c e g) λ g=>@loopF [18] (λ h i j=>g96_6 E h g i d e j) 1000000 (.int .i64 (.ofNat 0),()) f)
def g96_8 (a:(FEnv [8])→H→R)(b:Value)(c:H):R:=onB b (@joinR [8] (λ d e=>a (d.1,()) e) λ _=>k (.int .i64 (.ofNat 2)) c) (@joinR [8] (λ d e=>a (d.1,()) e) λ d=>d (.int .i64 (.ofNat 0),()) c)
def g96_9 (a:(FEnv [8])→H→R)(b c:Value)(d:H):R:=binR (binC E .eql 44 false true) b (.pointer none) λ e=>@joinR [8] (λ f g=>a (f.1,()) g) λ f=>onB e (rc 182 [c] d λ g h=>g96_8 k f g h) (k (.int .i64 (.ofNat 1)) d)
def g96 (E:Env)(rc:RC)(a0 a1 a2 a3:Value)(h:H)(k:Value→H→R):R:=@joinR [8] (λ _ a=>g96_7 E rc k a0 a1 a2 a3 a) λ a=>g96_9 E rc k a a0 a2 h
theorem g96_eq (t:ExtT)(rc:RC)(a0 a1 a2 a3:Value)(h:H)(k:Value→H→R):(funB (EX t) KK 96).run rc [a0,a1,a2,a3] h k = g96 (EX t) rc a0 a1 a2 a3 h k:=by kernel_rfl
def g97_0 (a b:Value)(c:H):R:=binR (binC E .add 25 false false) a b λ d=>ifB (nT [d,.int .i64 (.ofNat 0)]) (k (.tuple ⟨[d,.int .i64 (.ofNat 0)]⟩) c)
def g97_1 (a:FEnv [2,3,13])(b:Value→R)(c:H):R:=onNat a.2.2.1 (bindO (convV E c 3 25 a.2.2.1) b) λ d=>@Bool.rec (λ _=>R) (bindO (convV E c 3 25 a.2.2.1) b) (b (.int .u64 (.ofNat d))) (Nat.ble d 18446744073709551615)
def g97_2 (a:FEnv [2,3,13])(b:Value)(c:H):R:=binR (binC E .mul 25 false true) b (.int .u64 (.ofNat 256)) λ d=>joinL (λ e=>g97_0 E k d e c) λ e=>g97_1 E a e c
def g97_3 (a:(FEnv [2,3])→H→R)(b:FEnv [2,3,13])(c d:Value)(e:H):R:=onB d (a (b.1,(b.2.1,())) e) (binR (binC E .add 25 false true) c (.int .u64 (.ofNat 1)) λ f=>g97_2 E k b f e)
def g97_4 (a:(FEnv [2,3])→H→R)(b:FEnv [2,3,13])(c d e:Value)(f:H):R:=onB d (@joinR [2,3] (λ g h=>a (g.1,(g.2.1,())) h) λ g=>g (b.1,(b.2.1,())) f) (@joinR [2,3] (λ g h=>a (g.1,(g.2.1,())) h) λ g=>g97_3 E k g b c e f)
def g97_5 (a:Value→H→R)(b c:Value)(d:H):R:=onG b (a undef d) (binR (binC E .lss 25 false true) c (.int .u64 (.ofNat 72057594037927935)) λ e=>a e d) (a undef d)
def g97_6 (a:(FEnv [2,3])→H→R)(b:FEnv [2,3,13])(c d:Value)(e:H):R:=joinV (λ f g=>joinV (λ h i=>g97_4 E k a b c d h i) λ h=>g97_5 E h d f g) λ f=>onG d (f undef e) (f c e) (f undef e)
def g97_7 (a:(FEnv [2,3])→H→R)(b:FEnv [2,3,13])(c:L)(d:Value)(e:H):R:=nthF 1 c λ f=>binR (binC E .eql 3 false true) d (.int .i64 (.ofNat 0)) λ g=>g97_6 E k a b f g e
def g97_8 (a:(FEnv [2,3])→H→R)(b:FEnv [2,3,13])(c:V)(d:H)(e:Nat):R:=ifB (Nat.ble 3 e) (rc 185 [.agg ⟨cellsF c 3 0⟩,b.2.2.1] d λ f g=>onTup f λ h=>nthF 0 h λ i=>onTup f λ j=>g97_7 E k a b j i g)
def g97_9 (a:(FEnv [2,3,13])→H→R)(b:FEnv [2,3,13])(c d:H):R:=@joinR [2,3] (λ e f=>binR (binC E .add 3 false true) b.2.2.1 (.int .i64 (.ofNat 1)) λ g=>a (e.1,(e.2.1,(g,()))) f) λ e=>onRow (hget d c.1) λ _ f _ _ _ g=>g97_8 E rc k e b g d f
def g97_10 (a:(FEnv [2,3,13])→H→R)(b:(FEnv [2,3])→H→R)(c:FEnv [2,3,13])(d:Value)(e f:H):R:=binR (binC E .lss 3 false false) c.2.2.1 d λ g=>@joinR [] (λ _ h=>g97_9 E rc k a c e h) λ h=>onB g (b (c.1,(c.2.1,())) f) (h () f)
def g97_11 (a:FEnv [2,3])(b:Value)(c d:H):R:=@joinR [2,3] (λ _ e=>k (.tuple ⟨[.int .u64 (.ofNat 0),.int .i64 (.ofNat 10)]⟩) e) λ e=>@loopF [2,3,13] (λ f g h=>g97_10 E rc k f e g b c h) 1000000 (a.1,(a.2.1,(.int .i64 (.ofNat 0),()))) d
def g97_12 (a:FEnv [2,3])(b c:H):R:=onRow (hget c b.1) λ _ d _ _ _ e=>ifB (Nat.ble 3 d) (rc 184 [.agg ⟨cellsF e 3 0⟩] c λ f g=>g97_11 E rc k a f b g)
def g97_13 (a:(FEnv [2,3])→H→R)(b:Value)(c:H):R:=onB b (a (.int .u64 (.ofNat 0),(.int .i64 (.ofNat 0),())) c) (k (.tuple ⟨[.int .u64 (.ofNat 0),.int .i64 (.ofNat 1)]⟩) c)
def g97_14 (a:V)(b c:H)(d:Nat):R:=ifB (Nat.ble 1 d) (binR (binC E .eql 44 false true) (getF a 0) (.pointer none) λ e=>@joinR [2,3] (λ f g=>g97_12 E rc k f b g) λ f=>g97_13 k f e c)
def g97_15 (a:L)(b:H):R:=ifB (allF (λ c=>cell1F c) a) (ifB (Nat.ble b.1 1000000000) (letH (hpush b (.row 91 (lenF a) false false 0 (T.ofList unk a))) λ c=>onRow (hget c b.1) λ _ d _ _ _ e=>g97_14 E rc k e b c d))
def g97 (E:Env)(rc:RC)(a0:Value)(h:H)(k:Value→H→R):R:=onCells a0 λ a=>g97_15 E rc k a h
theorem g97_eq (t:ExtT)(rc:RC)(a0:Value)(h:H)(k:Value→H→R):(funB (EX t) KK 97).run rc [a0] h k = g97 (EX t) rc a0 h k:=by kernel_rfl
def g199_0 (a:FEnv [4,5,6])(b c d e:Value)(f:H):R:=onB d (@joinR [4,5,6] (λ _ g=>ifB (nT [b,c,.int .i64 (.ofNat 0)]) (k (.tuple ⟨[b,c,.int .i64 (.ofNat 0)]⟩) g)) λ g=>onB e (g (a.1,(a.2.1,(a.2.2.1,()))) f) (k (.tuple ⟨[.int .i64 (.ofNat 0),.int .i64 (.ofNat 0),.int .i64 (.ofNat 6)]⟩) f)) (@joinR [4,5,6] (λ _ g=>ifB (nT [b,c,.int .i64 (.ofNat 0)]) (k (.tuple ⟨[b,c,.int .i64 (.ofNat 0)]⟩) g)) λ _=>k (.tuple ⟨[.int .i64 (.ofNat 0),.int .i64 (.ofNat 0),.int .i64 (.ofNat 6)]⟩) f)
def g199_1 (a:FEnv [4,5,6])(b c d e f:Value)(g:H):R:=joinV (λ h i=>g199_0 k a b c d h i) λ h=>onG d (binR (binC E .neq 25 false false) e f λ i=>h i g) (h undef g) (h undef g)
def g199_2 (a:Value→H→R)(b c:Value)(d:H):R:=onG b (binR (binC E .quo 25 false true) c (.int .u64 (.ofNat 256)) λ e=>a e d) (a undef d) (a undef d)
def g199_3 (a:FEnv [4,5,6])(b c d e f:Value)(g:H):R:=joinV (λ h i=>joinV (λ j l=>g199_1 E k a b c e h j l) λ j=>onG e (j d i) (j undef i) (j undef i)) λ h=>g199_2 E h e f g
def g199_4 (a:FEnv [4,5,6])(b c d e:Value)(f:H):R:=binR (binC E .eql 3 false true) d (.int .i64 (.ofNat 0)) λ g=>joinV (λ h i=>g199_3 E k a c d e g h i) λ h=>onG g (h b f) (h undef f) (h undef f)
def g199_5 (a:FEnv [4,5,6])(b:V)(c d:Value)(e:H)(f:Nat):R:=ifB (Nat.ble 3 f) (rc 185 [.agg ⟨cellsF b 3 0⟩,d] e λ g h=>onTup g λ i=>nthF 0 i λ j=>onTup g λ l=>nthF 1 l λ m=>g199_4 E k a c d j m h)
def g199_6 (a:FEnv [4,5,6])(b c d:Value)(e f:H):R:=@joinR [4,5,6] (λ g h=>onRow (hget h e.1) λ _ i _ _ _ j=>g199_5 E rc k g j b c h i) λ g=>onB d (g (a.1,(a.2.1,(a.2.2.1,()))) f) (k (.tuple ⟨[.int .i64 (.ofNat 0),.int .i64 (.ofNat 0),.int .i64 (.ofNat 6)]⟩) f)
def g199_7 (a:FEnv [4,5,6])(b:V)(c d:Value)(e f:H)(g:Nat):R:=ifB (Nat.ble 3 g) (rc 184 [.agg ⟨cellsF b 3 0⟩] f λ h i=>binR (binC E .geq 3 false false) d h λ j=>g199_6 E rc k a c d j e i)
def g199_8 (a:Value→R)(b:Value)(c:H):R:=onNat b (bindO (convV E c 26 3 b) a) λ d=>@Bool.rec (λ _=>R) (bindO (convV E c 26 3 b) a) (a (.int .i64 (.ofNat d))) (Nat.ble d 9223372036854775807)
def g199_9 (a:FEnv [4,5,6])(b:Value)(c d:H):R:=binR (binC E .rem 26 false true) b (.int .u64 (.ofNat 256)) λ e=>joinL (λ f=>onRow (hget d c.1) λ _ g _ _ _ h=>g199_7 E rc k a h b f c d g) λ f=>g199_8 E f e d
def g199_10 (a:(FEnv [4,5,6])→H→R)(b:Value)(c:H):R:=onB b (a (.int .i64 (.ofNat 0),(.int .i64 (.ofNat 0),(.int .i64 (.ofNat 0),()))) c) (k (.tuple ⟨[.int .i64 (.ofNat 0),.int .i64 (.ofNat 0),.int .i64 (.ofNat 1)]⟩) c)
def g199_11 (a:V)(b:Value)(c d:H)(e:Nat):R:=ifB (Nat.ble 1 e) (binR (binC E .eql 44 false true) (getF a 0) (.pointer none) λ f=>@joinR [4,5,6] (λ g h=>g199_9 E rc k g b c h) λ g=>g199_10 k g f d)
def g199_12 (a:L)(b:Value)(c:H):R:=ifB (allF (λ d=>cell1F d) a) (ifB (Nat.ble c.1 1000000000) (letH (hpush c (.row 91 (lenF a) false false 0 (T.ofList unk a))) λ d=>onRow (hget d c.1) λ _ e _ _ _ f=>g199_11 E rc k f b c d e))
def g199 (E:Env)(rc:RC)(a0 a1:Value)(h:H)(k:Value→H→R):R:=onCells a0 λ a=>g199_12 E rc k a a1 h
theorem g199_eq (t:ExtT)(rc:RC)(a0 a1:Value)(h:H)(k:Value→H→R):(funB (EX t) KK 199).run rc [a0,a1] h k = g199 (EX t) rc a0 a1 h k:=by kernel_rfl
def g111_1 (a:L)(b:V)(c d:Bool)(e:TypeId)(f g:H)(h i:Nat):R:=ifB (notB d) (ifB (Nat.beq (lenF a) 12) (ifB (Nat.ble i 0) (ifB (Nat.ble 12 h) (ifB (Nat.ble h 1000000000) (ifB (allF (λ j=>cell1F j) a) (letH (hset g f.1 (.row e h c false i (putF b 0 a))) λ j=>g50_0 E k f j))))))
def g111_2 (a b:V)(c:Value)(d e:H)(f:Nat):R:=ifB (Nat.ble 3 f) (ifB (sameW (.agg ⟨cellsF b 3 0⟩) (.agg ⟨cellsF a 3 0⟩)) (bindO (buildV E 112 [(0,c),(1,.agg ⟨cellsF a 3 0⟩)]) λ g=>onCells g λ h=>onRow (hget e d.1) λ i j l m n o=>g111_1 E k h o l m i d e j n))
def g111_3 (a b:V)(c d e:H)(f:Nat):R:=ifB (Nat.ble 3 f) (rc 204 [.agg ⟨cellsF a 9 0⟩] e λ g h=>onRow (hget h d.1) λ _ i _ _ _ j=>g111_2 E k b j g c h i)
def g111_4 (a b c d:H):R:=onRow (hget d c.1) λ _ e _ _ _ f=>ifB (Nat.ble 9 e) (onRow (hget d b.1) λ _ g _ _ _ h=>g111_3 E rc k f h a b d g)
def g111_7 (a:FEnv [5])(b:Value)(c d e f:H):R:=@joinR [5] (λ _ g=>ifB (Nat.ble g.1 1000000000) (letH (H.mk g.1 g.2) λ h=>g111_4 E rc k c d e h)) λ g=>onB b (g (a.1,()) f) (onRow (hget f c.1) λ h i j l m n=>g50_4 E k n j l h c f i m)
def g111_8 (a:FEnv [5])(b:L)(c:V)(d e:Bool)(f:TypeId)(g:Value)(h i j l:H)(m n:Nat):R:=ifB (notB e) (ifB (Nat.beq (lenF b) 9) (ifB (Nat.ble n 0) (ifB (Nat.ble 9 m) (ifB (Nat.ble m 1000000000) (ifB (allF (λ o=>cell1F o) b) (letH (hset l j.1 (.row f m d false n (putF c 0 b))) λ o=>binR (binC E .neq 41 false true) g (.int .i64 (.ofNat 0)) λ p=>g111_7 E rc k a p h i j o))))))
def g111_9 (a:FEnv [5])(b c:Value)(d e f:H):R:=ifB (Nat.ble f.1 1000000000) (letH (hpush f (.row 108 9 false false 0 (T.ofList unk [.pointer none,.pointer none,.int .i64 (.ofNat 0),.int .i64 (.ofNat 0),.int .u64 (.ofNat 0),.pointer none,.int .i64 (.ofNat 0),.int .i64 (.ofNat 0),.int .i64 (.ofNat 0)]))) λ g=>onCells b λ h=>onRow (hget g f.1) λ i j l m n o=>g111_8 E rc k a h o l m i c d e f g j n)
def g111_10 (a:FEnv [5])(b c:V)(d:Value)(e f g:H)(h:Nat):R:=ifB (Nat.ble 3 h) (rc 203 [d,.agg ⟨cellsF b 3 0⟩,getF c 2,.int .i64 (.ofNat 1024)] g λ i j=>onTup i λ l=>nthF 0 l λ m=>onTup i λ n=>nthF 1 n λ o=>g111_9 E rc k a m o e f j)
def g111_11 (a:FEnv [5])(b:Value)(c d e f g:H):R:=onRow (hget g f.1) λ _ h _ _ _ i=>ifB (Nat.ble 3 h) (onRow (hget g c.1) λ _ j _ _ _ l=>g111_10 E rc k a i l b d e g j)
def g111_12 (a:FEnv [5])(b:L)(c:V)(d e:Bool)(f:TypeId)(g:Value)(h i j l m:H)(n o:Nat):R:=ifB (notB e) (ifB (Nat.beq (lenF b) 3) (ifB (Nat.ble o 0) (ifB (Nat.ble 3 n) (ifB (Nat.ble n 1000000000) (ifB (allF (λ p=>cell1F p) b) (letH (hset m l.1 (.row f n d false o (putF c 0 b))) λ p=>g111_11 E rc k a g h i j l p))))))
def g111_13 (a:FEnv [5])(b c:Value)(d e f g:H):R:=ifB (Nat.ble g.1 1000000000) (letH (hpush g (.row 78 3 false false 0 (T.ofList unk [.pointer none,.int .i64 (.ofNat 0),.int .i64 (.ofNat 0)]))) λ h=>onCells c λ i=>onRow (hget h g.1) λ j l m n o p=>g111_12 E rc k a i p m n j b d e f g h l o)
def g111_14 (a:FEnv [5])(b:V)(c:Value)(d e f g:H)(h:Nat):R:=ifB (Nat.ble 3 h) (rc 88 [.agg ⟨cellsF b 3 0⟩,.int .i64 (.ofNat 128),.int .i64 (.ofNat 32)] g λ i j=>onTup i λ l=>nthF 0 l λ m=>onTup i λ n=>nthF 1 n λ _=>g111_13 E rc k a c m d e f j)
def g111_16 (a:(FEnv [5])→H→R)(b c:Value)(d e:H):R:=onB c (a (.int .i64 (.ofNat 0),()) e) (onRow (hget e d.1) λ f g h i j l=>g46_3 E k l h i f b d e g j)
def g111_17 (a b c:Value)(d e f g:H):R:=@joinR [5] (λ h i=>onRow (hget i f.1) λ _ j _ _ _ l=>g111_14 E rc k h l a d e f i j) λ h=>g111_16 E k h b c e g
def g111_18 (a b c:Value)(d e f g:H):R:=ifB (sameW c b) (binR (binC E .neq 41 false true) b (.int .i64 (.ofNat 0)) λ h=>g111_17 E rc k a b h d e f g)
def g111_19 (a:L)(b:V)(c d:Bool)(e:TypeId)(f g h:Value)(i j l m:H)(n o:Nat):R:=ifB (notB d) (ifB (Nat.beq (lenF a) 3) (ifB (Nat.ble o 0) (ifB (Nat.ble 3 n) (ifB (Nat.ble n 1000000000) (ifB (allF (λ p=>cell1F p) a) (letH (hset m l.1 (.row e n c false o (putF b 0 a))) λ p=>onTup g λ q=>nthF 1 q λ r=>g111_18 E rc k f h r i j l p))))))
def g111_20 (a:L)(b c d:Value)(e f g h:H):R:=nthF 1 a λ i=>onCells d λ j=>onRow (hget h g.1) λ l m n o p q=>g111_19 E rc k j q n o l b c i e f g h m p
def g111_21 (a:V)(b:Addr)(c d:Value)(e f g h:H):R:=rc 87 [getF a b.2,d,.int .i64 (.ofNat 992)] h λ i j=>onTup i λ l=>nthF 0 l λ m=>onTup i λ n=>g111_20 E rc k n c i m e f g j
def g111_22 (a:V)(b:Addr)(c d:Value)(e f g h:H):R:=letH (hset h g.1 (.row 78 3 false false 0 (T.ofList unk [.pointer none,.int .i64 (.ofNat 0),.int .i64 (.ofNat 0)]))) λ i=>g111_21 E rc k a b c d e f g i
def g111_23 (a b:V)(c:Addr)(d:Value)(e f g h:H)(i:Nat):R:=ifB (Nat.ble 1 i) (binR (binC E .add 3 false true) (getF b 0) (.int .i64 (.ofNat 32)) λ j=>g111_22 E rc k a c d j e f g h)
def g111_24 (a:Addr)(b:Value)(c d e f:H):R:=onRow (hget f a.1) λ _ g _ _ _ h=>ifB (Nat.ble (Nat.succ a.2) g) (onRow (hget f c.1) λ _ i _ _ _ j=>g111_23 E rc k h j a b c d e f i)
def g111_25 (a:Addr)(b:Value)(c d e f:H):R:=onRow (hget f a.1) λ _ g _ _ _ h=>ifB (Nat.ble (Nat.succ a.2) g) (bindO (nilV (getF h a.2)) λ i=>onPtr i λ _=>onPtr i λ j=>g111_24 E rc k j b c d e f)
def g111_26 (a:Value)(b c d:H):R:=ifB (Nat.ble d.1 1000000000) (letH (H.mk (Nat.add d.1 1) d.2) λ e=>bindO (nilV a) λ f=>onPtr f λ _=>onPtr f λ g=>g111_25 E rc k g a b c d e)
def g111_27 (a:Value)(b c:H):R:=ifB (Nat.ble c.1 1000000000) (letH (hpush c (.row 112 12 false false 0 (T.ofList unk [.pointer none,.pointer none,.int .i64 (.ofNat 0),.int .i64 (.ofNat 0),.int .u64 (.ofNat 0),.pointer none,.int .i64 (.ofNat 0),.int .i64 (.ofNat 0),.int .i64 (.ofNat 0),.pointer none,.int .i64 (.ofNat 0),.int .i64 (.ofNat 0)]))) λ d=>g111_26 E rc k a b c d)
def g111_28 (a:L)(b:Value)(c:H):R:=ifB (allF (λ d=>cell1F d) a) (ifB (Nat.ble c.1 1000000000) (letH (hpush c (.row 169 (lenF a) false false 0 (T.ofList unk a))) λ d=>g111_27 E rc k b c d))
def g111 (E:Env)(rc:RC)(a0 a1:Value)(h:H)(k:Value→H→R):R:=onCells a1 λ a=>g111_28 E rc k a a0 h
theorem g111_eq (t:ExtT)(rc:RC)(a0 a1:Value)(h:H)(k:Value→H→R):(funB (EX t) KK 111).run rc [a0,a1] h k = g111 (EX t) rc a0 a1 h k:=by kernel_rfl
def g109_1 (a:Value)(b c:H):R:=onRow (hget c b.1) λ _ d _ _ _ e=>ifB (Nat.ble 12 d) (rc 112 [.agg ⟨cellsF e 12 0⟩,a] c λ f g=>joinL (λ h=>k h g) λ h=>g168_0 E h f g)
def g109_2 (a b:Value)(c d:H):R:=binR (binC E .neq 41 false true) b (.int .i64 (.ofNat 0)) λ e=>@joinR [6] (λ _ f=>g109_1 E rc k a c f) λ f=>onB e (f (.int .i64 (.ofNat 0),()) d) (k (.int .i64 (.ofNat 0)) d)
def g109_3 (a:L)(b:V)(c d:Bool)(e:TypeId)(f g:Value)(h i:H)(j l:Nat):R:=ifB (notB d) (ifB (Nat.beq (lenF a) 12) (ifB (Nat.ble l 0) (ifB (Nat.ble 12 j) (ifB (Nat.ble j 1000000000) (ifB (allF (λ m=>cell1F m) a) (letH (hset i h.1 (.row e j c false l (putF b 0 a))) λ m=>g109_2 E rc k f g h m))))))
def g109_4 (a b c:Value)(d:H):R:=ifB (Nat.ble d.1 1000000000) (letH (hpush d (.row 112 12 false false 0 (T.ofList unk [.pointer none,.pointer none,.int .i64 (.ofNat 0),.int .i64 (.ofNat 0),.int .u64 (.ofNat 0),.pointer none,.int .i64 (.ofNat 0),.int .i64 (.ofNat 0),.int .i64 (.ofNat 0),.pointer none,.int .i64 (.ofNat 0),.int .i64 (.ofNat 0)]))) λ e=>onCells b λ f=>onRow (hget e d.1) λ g h i j l m=>g109_3 E rc k f m i j g a c d e h l)
def g109_5 (a:V)(b c:Value)(d:H)(e:Nat):R:=ifB (Nat.ble 1 e) (rc 50 [getF a 0,b] d λ f g=>onTup f λ h=>nthF 0 h λ i=>onTup f λ j=>nthF 1 j λ l=>g109_4 E rc k c i l g)
def g109_6 (a:L)(b c:Value)(d:H):R:=ifB (allF (λ e=>cell1F e) a) (ifB (Nat.ble d.1 1000000000) (letH (hpush d (.row 88 (lenF a) false false 0 (T.ofList unk a))) λ e=>onRow (hget e d.1) λ _ f _ _ _ g=>g109_5 E rc k g b c e f))
def g109 (E:Env)(rc:RC)(a0 a1 a2:Value)(h:H)(k:Value→H→R):R:=onCells a0 λ a=>g109_6 E rc k a a1 a2 h
theorem g109_eq (t:ExtT)(rc:RC)(a0 a1 a2:Value)(h:H)(k:Value→H→R):(funB (EX t) KK 109).run rc [a0,a1,a2] h k = g109 (EX t) rc a0 a1 a2 h k:=by kernel_rfl
def g49_0 (a:Value)(b c:H):R:=onRow (hget c b.1) λ _ d _ _ _ e=>ifB (Nat.ble 1 d) (rc 109 [.agg ⟨cellsF e 1 0⟩,a,.int .i64 (.ofNat 1)] c λ f g=>k f g)
def g49_1 (a:L)(b:Value)(c:H):R:=ifB (allF (λ d=>cell1F d) a) (ifB (Nat.ble c.1 1000000000) (letH (hpush c (.row 88 (lenF a) false false 0 (T.ofList unk a))) λ d=>g49_0 rc k b c d))
def g49 (E:Env)(rc:RC)(a0 a1:Value)(h:H)(k:Value→H→R):R:=onCells a0 λ a=>g49_1 rc k a a1 h
theorem g49_eq (t:ExtT)(rc:RC)(a0 a1:Value)(h:H)(k:Value→H→R):(funB (EX t) KK 49).run rc [a0,a1] h k = g49 (EX t) rc a0 a1 h k:=by kernel_rfl
def g184_0 (a:Value)(b:H):R:=binR (binC E .quo 3 false true) a (.int .i64 (.ofNat 16)) λ c=>bindO (builtinV E b Builtin.min [c,.int .i64 (.ofNat 256)] [3,3]) λ d=>k d b
def g184_1 (a b:H):R:=onRow (hget b a.1) λ _ c _ _ _ d=>ifB (Nat.ble 3 c) (rc 180 [.agg ⟨cellsF d 3 0⟩] b λ e f=>g184_0 E k e f)
def g184_2 (a:L)(b:H):R:=ifB (allF (λ c=>cell1F c) a) (ifB (Nat.ble b.1 1000000000) (letH (hpush b (.row 91 (lenF a) false false 0 (T.ofList unk a))) λ c=>g184_1 E rc k b c))
def g184 (E:Env)(rc:RC)(a0:Value)(h:H)(k:Value→H→R):R:=onCells a0 λ a=>g184_2 E rc k a h
theorem g184_eq (t:ExtT)(rc:RC)(a0:Value)(h:H)(k:Value→H→R):(funB (EX t) KK 184).run rc [a0] h k = g184 (EX t) rc a0 h k:=by kernel_rfl
def g185_1 (a b c:Value)(d:H):R:=onTup b λ e=>nthF 1 e λ _=>joinL (λ f=>ifB (nT [f,c]) (k (.tuple ⟨[f,c]⟩) d)) λ f=>g168_0 E f a d
def g185_2 (a:V)(b c:Value)(d:H):R:=binR (binC E .add 3 false true) c (.int .i64 (.ofNat 8)) λ e=>rc 52 [.agg ⟨cellsF a 3 0⟩,e,.int .i64 (.ofNat 8)] d λ f g=>onTup f λ h=>nthF 0 h λ i=>g185_1 E k b f i g
def g185_3 (a:V)(b c:Value)(d:H)(e:Nat):R:=ifB (Nat.ble 3 e) (binR (binC E .mul 3 false true) b (.int .i64 (.ofNat 16)) λ f=>g185_2 E rc k a c f d)
def g185_4 (a b:Value)(c d:H):R:=onTup b λ e=>nthF 0 e λ f=>onTup b λ g=>nthF 1 g λ _=>onRow (hget d c.1) λ _ h _ _ _ i=>g185_3 E rc k i a f d h
def g185_5 (a:V)(b:Value)(c d:H)(e:Nat):R:=ifB (Nat.ble 3 e) (binR (binC E .mul 3 false true) b (.int .i64 (.ofNat 16)) λ f=>rc 52 [.agg ⟨cellsF a 3 0⟩,f,.int .i64 (.ofNat 8)] d λ g h=>g185_4 E rc k b g c h)
def g185_6 (a:L)(b:Value)(c:H):R:=ifB (allF (λ d=>cell1F d) a) (ifB (Nat.ble c.1 1000000000) (letH (hpush c (.row 91 (lenF a) false false 0 (T.ofList unk a))) λ d=>onRow (hget d c.1) λ _ e _ _ _ f=>g185_5 E rc k f b c d e))
def g185 (E:Env)(rc:RC)(a0 a1:Value)(h:H)(k:Value→H→R):R:=onCells a0 λ a=>g185_6 E rc k a a1 h
theorem g185_eq (t:ExtT)(rc:RC)(a0 a1:Value)(h:H)(k:Value→H→R):(funB (EX t) KK 185).run rc [a0,a1] h k = g185 (EX t) rc a0 a1 h k:=by kernel_rfl
def g257_0 (a:L)(b:V)(c d:Bool)(e:TypeId)(f:Value)(g h:H)(i j:Nat):R:=ifB (notB d) (ifB (Nat.beq (lenF a) 2) (ifB (Nat.ble j 0) (ifB (Nat.ble 2 i) (ifB (Nat.ble i 1000000000) (ifB (allF (λ l=>cell1F l) a) (letH (hset h g.1 (.row e i c false j (putF b 0 a))) λ l=>bindO (loadV E l 245 (Addr.mk g.1 0 none)) λ m=>ifB (nT [m,f]) (k (.tuple ⟨[m,f]⟩) l)))))))
def g257_1 (a b c:Value)(d e:H):R:=bindO (buildV E 245 [(0,b),(1,c)]) λ f=>onCells f λ g=>onRow (hget e d.1) λ h i j l m n=>g257_0 E k g n j l h a d e i m
def g257_2 (a b c:Value)(d e:H):R:=joinL (λ f=>binR (binC E .quo 5 false true) f (.int .u8 (.ofNat 4)) λ g=>g257_1 E k b c g d e) λ f=>onNat a (bindO (convV E e 25 5 a) f) λ g=>@Bool.rec (λ _=>R) (bindO (convV E e 25 5 a) f) (f (.int .u8 (.ofNat g))) (Nat.ble g 255)
def g257_3 (a b:Value)(c d:H):R:=joinL (λ e=>binR (binC E .rem 5 false true) e (.int .u8 (.ofNat 4)) λ f=>g257_2 E k a b f c d) λ e=>onNat a (bindO (convV E d 25 5 a) e) λ f=>@Bool.rec (λ _=>R) (bindO (convV E d 25 5 a) e) (e (.int .u8 (.ofNat f))) (Nat.ble f 255)
def g257_4 (a:V)(b:Value)(c d:H)(e:Nat):R:=ifB (Nat.ble 3 e) (rc 52 [.agg ⟨cellsF a 3 0⟩,b,.int .i64 (.ofNat 1)] d λ f g=>onTup f λ h=>nthF 0 h λ i=>onTup f λ j=>nthF 1 j λ l=>g257_3 E k i l c g)
def g257_5 (a:Value)(b c:H):R:=ifB (Nat.ble c.1 1000000000) (letH (hpush c (.row 245 2 false false 0 (T.ofList unk [.int .u8 (.ofNat 0),.int .u8 (.ofNat 0)]))) λ d=>onRow (hget d b.1) λ _ e _ _ _ f=>g257_4 E rc k f a c d e)
def g257_6 (a:L)(b:Value)(c:H):R:=ifB (allF (λ d=>cell1F d) a) (ifB (Nat.ble c.1 1000000000) (letH (hpush c (.row 81 (lenF a) false false 0 (T.ofList unk a))) λ d=>g257_5 E rc k b c d))
def g257 (E:Env)(rc:RC)(a0 a1:Value)(h:H)(k:Value→H→R):R:=onCells a0 λ a=>g257_6 E rc k a a1 h
theorem g257_eq (t:ExtT)(rc:RC)(a0 a1:Value)(h:H)(k:Value→H→R):(funB (EX t) KK 257).run rc [a0,a1] h k = g257 (EX t) rc a0 a1 h k:=by kernel_rfl
def g261_0 (a:H):R:=joinV (λ _ b=>joinV (λ _ c=>joinV (λ _ d=>k (.bool false) d) λ d=>d undef c) λ c=>c undef b) λ b=>b undef a
def g261_1 (a:H):R:=joinV (λ _ b=>joinV (λ _ c=>joinV (λ _ d=>joinV (λ _ e=>g261_0 k e) λ e=>e undef d) λ d=>d undef c) λ c=>c undef b) λ b=>b undef a
def g261_3 (a b c:Value)(d:H):R:=joinV (λ e f=>onB a (k (.bool false) f) (k e f)) λ e=>onG a (e undef d) (binR (binC E .leq 3 false false) b c λ f=>e f d) (e undef d)
def g261_4 (a b c d:Value)(e:H):R:=joinV (λ f g=>g261_3 E k a b f g) λ f=>onG a (f undef e) (binR (binC E .sub 3 false false) c d λ g=>f g e) (f undef e)
def g261_5 (a:Value→H→R)(b c:Value)(d:H):R:=onG b (a undef d) (onPtr c λ e=>onRow (hget d e.1) λ _ f _ _ _ g=>ifB (Nat.ble (Nat.succ e.2) f) (a (getF g e.2) d)) (a undef d)
def g261_6 (a b c d:Value)(e:H):R:=joinV (λ f g=>joinV (λ h i=>g261_4 E k b c f h i) λ h=>onG b (h undef g) (h a g) (h undef g)) λ f=>g261_5 f b d e
def g261_7 (a b c d:Value)(e f:H):R:=onB c (joinV (λ _ g=>joinV (λ _ h=>joinV (λ _ i=>g261_0 k i) λ i=>i undef h) λ h=>h undef g) λ g=>g undef f) (joinV (λ g h=>joinV (λ i j=>g261_6 E k b d g i j) λ i=>onG d (i undef h) (i (.pointer (some (Addr.mk e.1 0 none))) h) (i undef h)) λ g=>onG d (g undef f) (g a f) (g undef f))
def g261_8 (a b c d e:Value)(f g:H):R:=joinV (λ h i=>g261_7 E k a b c h f i) λ h=>onG c (h undef g) (binR (binC E .leq 3 false false) d e λ i=>h i g) (h undef g)
def g261_10 (a b c d:Value)(e f:H):R:=joinV (λ g h=>joinV (λ i j=>g261_8 E k a b c d i e j) λ i=>g261_5 i c g h) λ g=>onG c (g undef f) (g (.pointer (some (Addr.mk e.1 0 none))) f) (g undef f)
def g261_11 (a b c d:Value)(e f:H):R:=onB c (joinV (λ _ g=>joinV (λ _ h=>joinV (λ _ i=>g261_1 k i) λ i=>i undef h) λ h=>h undef g) λ g=>g undef f) (joinV (λ g h=>g261_10 E k a b d g e h) λ g=>onG d (g undef f) (g b f) (g undef f))
def g261_12 (a:Value→H→R)(b c:Value)(d:H):R:=onG b (a undef d) (binR (binC E .geq 3 false true) c (.int .i64 (.ofNat 0)) λ e=>a e d) (a undef d)
def g261_13 (a b c:Value)(d e:H):R:=joinV (λ f g=>joinV (λ h i=>g261_11 E k a b c h d i) λ h=>g261_12 E h c f g) λ f=>onG c (f undef e) (f b e) (f undef e)
def g261_14 (a:L)(b c:Value)(d:H):R:=ifB (allF (λ e=>cell1F e) a) (ifB (Nat.ble d.1 1000000000) (letH (hpush d (.row 99 (lenF a) false false 0 (T.ofList unk a))) λ e=>binR (binC E .geq 3 false true) b (.int .i64 (.ofNat 0)) λ f=>g261_13 E k b c f d e))
def g261 (E:Env)(rc:RC)(a0 a1 a2:Value)(h:H)(k:Value→H→R):R:=onCells a0 λ a=>g261_14 E k a a1 a2 h
theorem g261_eq (t:ExtT)(rc:RC)(a0 a1 a2:Value)(h:H)(k:Value→H→R):(funB (EX t) KK 261).run rc [a0,a1,a2] h k = g261 (EX t) rc a0 a1 a2 h k:=by kernel_rfl
def g262_0 (a b c:Value)(d:H):R:=binR (binC E .shl 25 false false) b c λ e=>ifB (nT [e,a]) (k (.tuple ⟨[e,a]⟩) d)
def g262_1 (a b c:Value)(d:H):R:=binR (binC E .sub 25 false true) c (.int .u64 (.ofNat 1)) λ e=>binR (binC E .rem 3 false true) a (.int .i64 (.ofNat 64)) λ f=>g262_0 E k b e f d
def g262_2 (a b c:Value)(d:H):R:=bindO (builtinV E d Builtin.min [b,c] [3,3]) λ e=>binR (binC E .shl 25 true false) (.int .u64 (.ofNat 1)) e λ f=>g262_1 E k a e f d
def g262 (E:Env)(rc:RC)(a0 a1:Value)(h:H)(k:Value→H→R):R:=binR (binC E .rem 3 false true) a0 (.int .i64 (.ofNat 64)) λ a=>binR (binC E .sub 3 true false) (.int .i64 (.ofNat 64)) a λ b=>g262_2 E k a0 a1 b h
theorem g262_eq (t:ExtT)(rc:RC)(a0 a1:Value)(h:H)(k:Value→H→R):(funB (EX t) KK 262).run rc [a0,a1] h k = g262 (EX t) rc a0 a1 h k:=by kernel_rfl
def g263_1 (a:Value)(b:H):R:=joinL (λ c=>binR (binC E .and 3 false true) c (.int .i64 (.ofNat 127)) λ d=>k d b) λ c=>g168_0 E c a b
def g263_2 (a:Value)(b:H):R:=binR (binC E .shr 25 false true) a (.int .u64 (.ofNat 32)) λ c=>binR (binC E .add 25 false false) a c λ d=>g263_1 E k d b
def g263_3 (a:Value)(b:H):R:=binR (binC E .shr 25 false true) a (.int .u64 (.ofNat 16)) λ c=>binR (binC E .add 25 false false) a c λ d=>g263_2 E k d b
def g263_4 (a:Value)(b:H):R:=binR (binC E .shr 25 false true) a (.int .u64 (.ofNat 8)) λ c=>binR (binC E .add 25 false false) a c λ d=>g263_3 E k d b
def g263_5 (a:Value)(b:H):R:=binR (binC E .and 25 false true) a (.int .u64 (.ofNat 1085102592571150095)) λ c=>g263_4 E k c b
def g263_6 (a:Value)(b:H):R:=binR (binC E .shr 25 false true) a (.int .u64 (.ofNat 4)) λ c=>binR (binC E .add 25 false false) c a λ d=>g263_5 E k d b
def g263_7 (a b:Value)(c:H):R:=binR (binC E .and 25 false true) a (.int .u64 (.ofNat 3689348814741910323)) λ d=>binR (binC E .add 25 false false) b d λ e=>g263_6 E k e c
def g263_8 (a b:Value)(c:H):R:=binR (binC E .and 25 false true) b (.int .u64 (.ofNat 3689348814741910323)) λ d=>g263_7 E k a d c
def g263_9 (a b:Value)(c:H):R:=binR (binC E .add 25 false false) a b λ d=>binR (binC E .shr 25 false true) d (.int .u64 (.ofNat 2)) λ e=>g263_8 E k d e c
def g263_10 (a b:Value)(c:H):R:=binR (binC E .and 25 false true) a (.int .u64 (.ofNat 6148914691236517205)) λ d=>g263_9 E k b d c
def g263_11 (a b:Value)(c:H):R:=binR (binC E .and 25 false true) b (.int .u64 (.ofNat 6148914691236517205)) λ d=>g263_10 E k a d c
def g263 (E:Env)(rc:RC)(a0:Value)(h:H)(k:Value→H→R):R:=binR (binC E .shr 25 false true) a0 (.int .u64 (.ofNat 1)) λ a=>g263_11 E k a0 a h
theorem g263_eq (t:ExtT)(rc:RC)(a0:Value)(h:H)(k:Value→H→R):(funB (EX t) KK 263).run rc [a0] h k = g263 (EX t) rc a0 h k:=by kernel_rfl
def g206_6 (a:L)(b c:Value)(d:H):R:=ifB (allF (λ e=>cell1F e) a) (ifB (Nat.ble d.1 1000000000) (letH (hpush d (.row 90 (lenF a) false false 0 (T.ofList unk a))) λ e=>onRow (hget e d.1) λ _ f _ _ _ g=>g109_5 E rc k g b c e f))
def g206 (E:Env)(rc:RC)(a0 a1 a2:Value)(h:H)(k:Value→H→R):R:=onCells a0 λ a=>g206_6 E rc k a a1 a2 h
theorem g206_eq (t:ExtT)(rc:RC)(a0 a1 a2:Value)(h:H)(k:Value→H→R):(funB (EX t) KK 206).run rc [a0,a1,a2] h k = g206 (EX t) rc a0 a1 a2 h k:=by kernel_rfl
def g211_0 (a:(FEnv [3])→H→R)(b:FEnv [3,11])(c:L)(d e:H):R:=letH (hset e d.1 (.row 341 2 false false 0 (T.ofList unk c))) λ f=>bindP (heavyB E f Builtin.append [b.1,.slice (some (Addr.mk d.1 0 none)) 1 2] [179,179]) λ g h=>a (g,()) h
def g211_1 (a:(FEnv [3])→H→R)(b:FEnv [3,11])(c:Value)(d e:H):R:=@Option.rec (List Value) (λ _=>R) none (λ f=>g211_0 E a b f d e) (fillV (λ f=>some (Nat.mul f 2,2)) (List.flatten (List.replicate 1 (cellsOfV (.agg (@List.toArray Value [.int .u64 (.ofNat 0),.int .u64 (.ofNat 0)]))))) [(0,c)])
def g211_2 (a:(FEnv [3])→H→R)(b:FEnv [3,11])(c:V)(d e:Addr)(f g:H):R:=onRow (hget g e.1) λ _ h _ _ _ i=>ifB (Nat.ble (Nat.succ e.2) h) (bindO (buildV E 341 [(0,getF c d.2),(1,getF i e.2)]) λ j=>g211_1 E a b j f g)
def g211_3 (a:(FEnv [3])→H→R)(b:FEnv [3,11])(c:V)(d:Addr)(e:Value)(f g:H)(h:Nat):R:=ifB (Nat.ble (Nat.succ d.2) h) (onSl e none λ i j _=>ifB (Nat.ble 2 j) (addOffF i 1 λ l=>onPtr l λ m=>g211_2 E a b c d m f g))
def g211_4 (a:(FEnv [3])→H→R)(b:FEnv [3,11])(c:Value)(d e:H):R:=onSl c none λ f g _=>ifB (Nat.ble 1 g) (onRow (hget e f.1) λ _ h _ _ _ i=>g211_3 E a b i f c d e h)
def g211_10 (a b:(FEnv [3])→H→R)(c:FEnv [3,11])(d e f:Value)(g:H):R:=onB e (@joinR [] (λ _ h=>ifB (Nat.ble h.1 1000000000) (letH (H.mk (Nat.add h.1 1) h.2) λ i=>g211_4 E b c d h i)) λ h=>onB f (h () g) (a (c.1,()) g)) (@joinR [] (λ _ h=>ifB (Nat.ble h.1 1000000000) (letH (H.mk (Nat.add h.1 1) h.2) λ i=>g211_4 E b c d h i)) λ _=>a (c.1,()) g)
def g211_11 (a:Value→H→R)(b c:Value)(d:H):R:=onG b (binR (binC E .eql 25 false true) c (.int .u64 (.ofNat 0)) λ e=>a e d) (a undef d) (a undef d)
def g211_13 (a b:(FEnv [3])→H→R)(c:FEnv [3,11])(d e f:Value)(g:H):R:=joinV (λ h i=>joinV (λ j l=>joinV (λ m n=>g211_10 E a b c d e m n) λ m=>g211_11 E m e j l) λ j=>g110_12 j e h i) λ h=>onG e (onSl f none λ i j _=>ifB (Nat.ble 1 j) (h (.pointer (some i)) g)) (h undef g) (h undef g)
def g211_14 (a b:(FEnv [3])→H→R)(c:FEnv [3,11])(d e:Value)(f:H):R:=binR (binC E .neq 41 false true) e (.int .i64 (.ofNat 0)) λ g=>joinV (λ h i=>g211_13 E a b c d g h i) λ h=>onG g (h d f) (h undef f) (h undef f)
def g211_15 (a b:(FEnv [3])→H→R)(c:FEnv [3,11])(d e:V)(f:Value)(g:H)(h:Nat):R:=ifB (Nat.ble 3 h) (ifB (sameW (.agg ⟨cellsF e 3 0⟩) (.agg ⟨cellsF d 3 0⟩)) (rc 201 [f,.agg ⟨cellsF d 3 0⟩] g λ i j=>onTup i λ l=>nthF 0 l λ m=>onTup i λ n=>nthF 1 n λ o=>g211_14 E a b c m o j))
def g211_16 (a b:(FEnv [3])→H→R)(c:FEnv [3,11])(d:V)(e f:H)(g:Nat):R:=ifB (Nat.ble 3 g) (rc 296 [] f λ h i=>onRow (hget i e.1) λ _ j _ _ _ l=>g211_15 E rc a b c d l h i j)
def g211_17 (a b:(FEnv [3])→H→R)(c:FEnv [3,11])(d e:H):R:=ifB (Nat.ble e.1 1000000000) (letH (H.mk e.1 e.2) λ f=>onRow (hget f d.1) λ _ g _ _ _ h=>g211_16 E rc a b c h d f g)
def g211_18 (a b:(FEnv [3])→H→R)(c:FEnv [3,11])(d:L)(e:V)(f g:Bool)(h:TypeId)(i j:H)(l m:Nat):R:=ifB (notB g) (ifB (Nat.beq (lenF d) 3) (ifB (Nat.ble m 0) (ifB (Nat.ble 3 l) (ifB (Nat.ble l 1000000000) (ifB (allF (λ n=>cell1F n) d) (letH (hset j i.1 (.row h l f false m (putF e 0 d))) λ n=>g211_17 E rc a b c i n))))))
def g211_19 (a b:(FEnv [3])→H→R)(c:FEnv [3,11])(d:Value)(e:H):R:=ifB (Nat.ble e.1 1000000000) (letH (hpush e (.row 78 3 false false 0 (T.ofList unk [.pointer none,.int .i64 (.ofNat 0),.int .i64 (.ofNat 0)]))) λ f=>onCells d λ g=>onRow (hget f e.1) λ h i j l m n=>g211_18 E rc a b c g n j l h e f i m)
def g211_20 (a b:(FEnv [3])→H→R)(c:FEnv [3,11])(d:V)(e:Value)(f:H):R:=rc 88 [.agg ⟨cellsF d 3 0⟩,e,.int .i64 (.ofNat 16)] f λ g h=>onTup g λ i=>nthF 0 i λ j=>onTup g λ l=>nthF 1 l λ _=>g211_19 E rc a b c j h
def g211_21 (a b:(FEnv [3])→H→R)(c:FEnv [3,11])(d:V)(e:H)(f:Nat):R:=ifB (Nat.ble 3 f) (binR (binC E .mul 3 false true) c.2.1 (.int .i64 (.ofNat 16)) λ g=>g211_20 E rc a b c d g e)
def g211_22 (a:(FEnv [3,11])→H→R)(b:(FEnv [3])→H→R)(c:FEnv [3,11])(d e:H):R:=@joinR [3] (λ f g=>binR (binC E .add 3 false true) c.2.1 (.int .i64 (.ofNat 1)) λ h=>a (f.1,(h,())) g) λ f=>onRow (hget e d.1) λ _ g _ _ _ h=>g211_21 E rc b f c h e g
def g211_23 (a:(FEnv [3,11])→H→R)(b:(FEnv [3])→H→R)(c:FEnv [3,11])(d:Value)(e f:H):R:=binR (binC E .lss 3 false false) c.2.1 d λ g=>@joinR [] (λ _ h=>g211_22 E rc a b c e h) λ h=>onB g (b (c.1,()) f) (h () f)
def g211_24 (a:Value)(b c:H):R:=@joinR [3] (λ d e=>k d.1 e) λ d=>@loopF [3,11] (λ e f g=>g211_23 E rc e d f a b g) 1000000 (.slice none 0 0,(.int .i64 (.ofNat 0),())) c
def g211_25 (a b:H):R:=onRow (hget b a.1) λ _ c _ _ _ d=>ifB (Nat.ble 3 c) (rc 295 [.agg ⟨cellsF d 3 0⟩] b λ e f=>g211_24 E rc k e a f)
def g211_26 (a:L)(b:H):R:=ifB (allF (λ c=>cell1F c) a) (ifB (Nat.ble b.1 1000000000) (letH (hpush b (.row 272 (lenF a) false false 0 (T.ofList unk a))) λ c=>g211_25 E rc k b c))
def g211 (E:Env)(rc:RC)(a0:Value)(h:H)(k:Value→H→R):R:=onCells a0 λ a=>g211_26 E rc k a h
theorem g211_eq (t:ExtT)(rc:RC)(a0:Value)(h:H)(k:Value→H→R):(funB (EX t) KK 211).run rc [a0] h k = g211 (EX t) rc a0 h k:=by kernel_rfl
def g342_1 (a:V)(b:Value)(c:H):R:=rc 52 [.agg ⟨cellsF a 3 0⟩,b,.int .i64 (.ofNat 8)] c λ d e=>onTup d λ f=>nthF 0 f λ g=>onTup d λ h=>nthF 1 h λ _=>joinL (λ i=>k i e) λ i=>g168_0 E i g e
def g342_2 (a:V)(b:Value)(c:H)(d:Nat):R:=ifB (Nat.ble 3 d) (binR (binC E .mul 3 true false) (.int .i64 (.ofNat 8)) b λ e=>g342_1 E rc k a e c)
def g342_6 (a b c:Value)(d e:H):R:=onB b (@joinR [4] (λ _ f=>onRow (hget f d.1) λ _ g _ _ _ h=>g342_2 E rc k h a f g) λ f=>onB c (f (.int .i64 (.ofNat 0),()) e) (k (.int .i64 (.ofNat 0)) e)) (@joinR [4] (λ _ f=>onRow (hget f d.1) λ _ g _ _ _ h=>g342_2 E rc k h a f g) λ _=>k (.int .i64 (.ofNat 0)) e)
def g342_7 (a:Value→H→R)(b c:Value)(d:H):R:=onG b (binR (binC E .neq 41 false true) c (.int .i64 (.ofNat 0)) λ e=>a e d) (a undef d) (a undef d)
def g342_8 (a b c:Value)(d e:H):R:=joinV (λ f g=>joinV (λ h i=>g342_6 E rc k a b h d i) λ h=>g342_7 E h b f g) λ f=>onG b (rc 352 [c] e f) (f undef e) (f undef e)
def g342_13 (a:Value)(b c:H):R:=@joinR [4] (λ _ d=>onRow (hget d b.1) λ _ e _ _ _ f=>g342_2 E rc k f a d e) λ _=>k (.int .i64 (.ofNat 0)) c
def g342_14 (a b c:Value)(d e:H):R:=onB b (joinV (λ f g=>g342_8 E rc k a c f d g) λ f=>g80_10 f c d e) (joinV (λ _ f=>joinV (λ _ g=>joinV (λ _ h=>g342_13 E rc k a d h) λ h=>h undef g) λ g=>g undef f) λ f=>f undef e)
def g342_15 (a:Value→H→R)(b c:Value)(d:H):R:=onG b (binR (binC E .gtr 3 false true) c (.int .i64 (.ofNat 4)) λ e=>a e d) (a undef d) (a undef d)
def g342_16 (a:Value)(b c:H):R:=binR (binC E .lss 3 false true) a (.int .i64 (.ofNat 0)) λ d=>joinV (λ e f=>joinV (λ g h=>g342_14 E rc k a d g b h) λ g=>g342_15 E g d e f) λ e=>onG d (e a c) (e undef c) (e undef c)
def g342_17 (a:L)(b:Value)(c:H):R:=ifB (allF (λ d=>cell1F d) a) (ifB (Nat.ble c.1 1000000000) (letH (hpush c (.row 172 (lenF a) false false 0 (T.ofList unk a))) λ d=>g342_16 E rc k b c d))
def g342 (E:Env)(rc:RC)(a0 a1:Value)(h:H)(k:Value→H→R):R:=onCells a0 λ a=>g342_17 E rc k a a1 h
theorem g342_eq (t:ExtT)(rc:RC)(a0 a1:Value)(h:H)(k:Value→H→R):(funB (EX t) KK 342).run rc [a0,a1] h k = g342 (EX t) rc a0 a1 h k:=by kernel_rfl
def g200_0 (a b:V)(c d:Bool)(e:TypeId)(f g:H)(h i:Nat):R:=ifB (notB d) (ifB (Nat.beq (lenF (cellsF a 1 0)) 1) (ifB (Nat.ble i 0) (ifB (Nat.ble 1 h) (ifB (Nat.ble h 1000000000) (ifB (allF (λ j=>cell1F j) (cellsF a 1 0)) (letH (hset g f.1 (.row e h c false i (putF b 0 (cellsF a 1 0)))) λ j=>bindO (loadV E j 264 (Addr.mk f.1 0 none)) λ l=>k l j))))))
def g200_1 (a b c:H):R:=onRow (hget c b.1) λ _ d _ _ _ e=>ifB (Nat.ble 1 d) (onRow (hget c a.1) λ f g h i j l=>g200_0 E k e l h i f a c g j)
def g200_2 (a:L)(b:V)(c d:Bool)(e:TypeId)(f g h:H)(i j:Nat):R:=ifB (notB d) (ifB (Nat.beq (lenF a) 1) (ifB (Nat.ble j 0) (ifB (Nat.ble 1 i) (ifB (Nat.ble i 1000000000) (ifB (allF (λ l=>cell1F l) a) (letH (hset h g.1 (.row e i c false j (putF b 0 a))) λ l=>g200_1 E k f g l))))))
def g200_3 (a:Value)(b c:H):R:=ifB (Nat.ble c.1 1000000000) (letH (hpush c (.row 264 1 false false 0 (T.ofList unk [.slice none 0 0]))) λ d=>onCells a λ e=>onRow (hget d c.1) λ f g h i j l=>g200_2 E k e l h i f b c d g j)
def g200_4 (a b c:H):R:=rc 286 [.slice (some (Addr.mk b.1 0 none)) 4 8] c λ d e=>onTup d λ f=>nthF 0 f λ g=>onTup d λ h=>nthF 1 h λ _=>g200_3 E k g a e
def g200_5 (a b:H):R:=ifB (Nat.ble b.1 1000000000) (letH (hpush b (.row 3 4 false false 0 (T.ofList unk (lay (lay (lay (lay (List.flatten (List.replicate 4 (cellsOfV (.int .i64 (.ofNat 0))))) 0 (cellsOfV (.int .i64 (.ofNat 4)))) 1 (cellsOfV (.int .i64 (.ofNat 4)))) 2 (cellsOfV (.int .i64 (.ofNat 8)))) 3 (cellsOfV (.int .i64 (.ofNat 8))))))) λ c=>g200_4 E rc k a b c)
def g200 (E:Env)(rc:RC)(h:H)(k:Value→H→R):R:=ifB (Nat.ble h.1 1000000000) (letH (hpush h (.row 264 1 false false 0 (T.ofList unk [.slice none 0 0]))) λ a=>g200_5 E rc k h a)
theorem g200_eq (t:ExtT)(rc:RC)(h:H)(k:Value→H→R):(funB (EX t) KK 200).run rc [] h k = g200 (EX t) rc  h k:=by kernel_rfl
def g201_0 (a:(FEnv [8])→H→R)(b:FEnv [8,25])(c:L)(d:H):R:=ifB (Nat.ble d.1 1000000000) (letH (hpush d (.row 25 1 false false 0 (T.ofList unk c))) λ e=>bindP (heavyB E e Builtin.append [b.1,.slice (some (Addr.mk d.1 0 none)) 1 2] [97,97]) λ f g=>a (f,()) g)
def g201_1 (a:(FEnv [8])→H→R)(b:FEnv [8,25])(c:Value)(d:H):R:=@Option.rec (List Value) (λ _=>R) none (λ e=>g201_0 E a b e d) (fillV (λ e=>some (Nat.mul e 1,1)) (List.flatten (List.replicate 1 (cellsOfV (.int .u64 (.ofNat 0))))) [(0,c)])
def g201_2 (a:(FEnv [8])→H→R)(b:FEnv [8,25])(c d:V)(e:H)(f:Nat):R:=ifB (Nat.ble 3 f) (rc 289 [.agg ⟨cellsF c 1 0⟩,.agg ⟨cellsF d 3 0⟩,b.2.1] e λ g h=>onTup g λ i=>nthF 0 i λ j=>onTup g λ l=>nthF 1 l λ _=>g201_1 E a b j h)
def g201_3 (a:(FEnv [8])→H→R)(b:FEnv [8,25])(c d e:H):R:=onRow (hget e c.1) λ _ f _ _ _ g=>ifB (Nat.ble 1 f) (onRow (hget e d.1) λ _ h _ _ _ i=>g201_2 E rc a b g i e h)
def g201_4 (a:(FEnv [8,25])→H→R)(b:FEnv [8,25])(c d e:H):R:=@joinR [8] (λ f g=>binR (binC E .add 3 false true) b.2.1 (.int .i64 (.ofNat 1)) λ h=>a (f.1,(h,())) g) λ f=>g201_3 E rc f b c d e
def g201_5 (a:(FEnv [8,25])→H→R)(b:(FEnv [8])→H→R)(c:FEnv [8,25])(d:Value)(e f g:H):R:=binR (binC E .lss 3 false false) c.2.1 d λ h=>@joinR [] (λ _ i=>g201_4 E rc a c e f i) λ i=>onB h (b (c.1,()) g) (i () g)
def g201_6 (a:Value)(b c d:H):R:=@joinR [8] (λ e f=>ifB (nT [e.1,.int .i64 (.ofNat 0)]) (k (.tuple ⟨[e.1,.int .i64 (.ofNat 0)]⟩) f)) λ e=>@loopF [8,25] (λ f g h=>g201_5 E rc f e g a b c h) 1000000 (.slice none 0 0,(.int .i64 (.ofNat 0),())) d
def g201_7 (a:V)(b c d:H)(e:Nat):R:=ifB (Nat.ble 1 e) (joinL (λ f=>g201_6 E rc k f b c d) λ f=>onSl (getF a 0) (bindO (lenV E d 50 (getF a 0)) f) λ _ g _=>f (.int .i64 (.ofNat g)))
def g201_8 (a:(FEnv [4,5])→H→R)(b c:Value)(d:H):R:=onB c (a (.slice none 0 0,(.int .i64 (.ofNat 0),())) d) (ifB (nT [.slice none 0 0,b]) (k (.tuple ⟨[.slice none 0 0,b]⟩) d))
def g201_9 (a b:Value)(c d e:H):R:=@joinR [4,5] (λ _ f=>onRow (hget f c.1) λ _ g _ _ _ h=>g201_7 E rc k h c d f g) λ f=>g201_8 k f a b e
def g201_10 (a:L)(b c d:H):R:=nthF 1 a λ e=>binR (binC E .neq 41 false true) e (.int .i64 (.ofNat 0)) λ f=>g201_9 E rc k e f b c d
def g201_11 (a b:V)(c:Value)(d e f:H)(g:Nat):R:=ifB (Nat.ble 3 g) (ifB (sameW (.agg ⟨cellsF b 3 0⟩) (.agg ⟨cellsF a 3 0⟩)) (rc 287 [.agg ⟨cellsF a 3 0⟩,.int .i64 (.ofNat 0),c] f λ h i=>onTup h λ j=>nthF 0 j λ _=>onTup h λ l=>g201_10 E rc k l d e i))
def g201_12 (a b:V)(c d e:H)(f:Nat):R:=ifB (Nat.ble 1 f) (rc 288 [.agg ⟨cellsF b 1 0⟩] e λ g h=>onRow (hget h d.1) λ _ i _ _ _ j=>g201_11 E rc k a j g c d h i)
def g201_13 (a b c:H):R:=onRow (hget c b.1) λ _ d _ _ _ e=>ifB (Nat.ble 3 d) (onRow (hget c a.1) λ _ f _ _ _ g=>g201_12 E rc k e g a b c f)
def g201_14 (a:L)(b c:H):R:=ifB (allF (λ d=>cell1F d) a) (ifB (Nat.ble c.1 1000000000) (letH (hpush c (.row 78 (lenF a) false false 0 (T.ofList unk a))) λ d=>ifB (Nat.ble d.1 1000000000) (letH (H.mk d.1 d.2) λ e=>g201_13 E rc k b c e)))
def g201_15 (a:L)(b:Value)(c:H):R:=ifB (allF (λ d=>cell1F d) a) (ifB (Nat.ble c.1 1000000000) (letH (hpush c (.row 264 (lenF a) false false 0 (T.ofList unk a))) λ d=>onCells b λ e=>g201_14 E rc k e c d))
def g201 (E:Env)(rc:RC)(a0 a1:Value)(h:H)(k:Value→H→R):R:=onCells a0 λ a=>g201_15 E rc k a a1 h
theorem g201_eq (t:ExtT)(rc:RC)(a0 a1:Value)(h:H)(k:Value→H→R):(funB (EX t) KK 201).run rc [a0,a1] h k = g201 (EX t) rc a0 a1 h k:=by kernel_rfl
def g180_0 (a:L)(b:H):R:=ifB (allF (λ c=>cell1F c) a) (ifB (Nat.ble b.1 1000000000) (letH (hpush b (.row 78 (lenF a) false false 0 (T.ofList unk a))) λ c=>onRow (hget c b.1) λ _ d _ _ _ e=>ifB (Nat.ble 3 d) (k (getF e 2) c)))
def g180 (E:Env)(rc:RC)(a0:Value)(h:H)(k:Value→H→R):R:=onCells a0 λ a=>g180_0 k a h
theorem g180_eq (t:ExtT)(rc:RC)(a0:Value)(h:H)(k:Value→H→R):(funB (EX t) KK 180).run rc [a0] h k = g180 (EX t) rc a0 h k:=by kernel_rfl
def g259 (E:Env)(rc:RC)(a0 a1:Value)(h:H)(k:Value→H→R):R:=rc 260 [a1,a0] h λ _ a=>k (.tuple ⟨[]⟩) a
theorem g259_eq (t:ExtT)(rc:RC)(a0 a1:Value)(h:H)(k:Value→H→R):(funB (EX t) KK 259).run rc [a0,a1] h k = g259 (EX t) rc a0 a1 h k:=by kernel_rfl
def g260_0 (a:Value)(b:H):R:=joinL (λ c=>ifB (nT [c,.nilIface]) (k (.tuple ⟨[c,.nilIface]⟩) b)) λ c=>onSl a (bindO (lenV E b 60 a) c) λ _ d _=>c (.int .i64 (.ofNat d))
def g260_1 (a:L)(b:V)(c d:Bool)(e:Addr)(f:TypeId)(g:Value)(h:H)(i j:Nat):R:=ifB (notB d) (ifB (Nat.beq (lenF a) 1) (ifB (Nat.ble j (Nat.add e.2 1)) (ifB (Nat.ble (Nat.add (Nat.add e.2 1) 1) i) (ifB (Nat.ble i 1000000000) (ifB (allF (λ l=>cell1F l) a) (letH (hset h e.1 (.row f i c false j (putF b (Nat.add e.2 1) a))) λ l=>g260_0 E k g l))))))
def g260_2 (a b c:Value)(d:H):R:=bindO (nilV a) λ e=>onPtr e λ f=>onCells c λ g=>onRow (hget d f.1) λ h i j l m n=>g260_1 E k g n j l f h b d i m
def g260_3 (a:Addr)(b c:Value)(d:H):R:=onRow (hget d a.1) λ _ e _ _ _ f=>ifB (Nat.ble (Nat.succ (Nat.add a.2 1)) e) (bindP (heavyB E d Builtin.append [getF f (Nat.add a.2 1),c] [60,60]) λ g h=>g260_2 E k b c g h)
def g260 (E:Env)(rc:RC)(a0 a1:Value)(h:H)(k:Value→H→R):R:=rc 66 [a0] h λ _ a=>bindO (nilV a0) λ b=>onPtr b λ c=>g260_3 E k c a0 a1 a
theorem g260_eq (t:ExtT)(rc:RC)(a0 a1:Value)(h:H)(k:Value→H→R):(funB (EX t) KK 260).run rc [a0,a1] h k = g260 (EX t) rc a0 a1 h k:=by kernel_rfl
def g343_0 (a:(FEnv [])→H→R)(b:FEnv [44])(c d e:V)(f:Addr)(g:H)(h:Nat):R:=ifB (Nat.ble 3 h) (rc 428 [.agg ⟨cellsF d 1 0⟩,.agg ⟨cellsF e 3 0⟩,b.1,getF c f.2] g λ _ i=>a () i)
def g343_1 (a:(FEnv [])→H→R)(b:FEnv [44])(c:V)(d:Addr)(e f g:H)(h:Nat):R:=ifB (Nat.ble (Nat.succ d.2) h) (onRow (hget g e.1) λ _ i _ _ _ j=>ifB (Nat.ble 1 i) (onRow (hget g f.1) λ _ l _ _ _ m=>g343_0 rc a b c j m d g l))
def g343_2 (a:(FEnv [])→H→R)(b:FEnv [44])(c:Addr)(d e f:H)(g h:Nat):R:=ifB (Nat.ble (Nat.succ g) h) (addOffF c (Nat.mul g 1) λ i=>onPtr i λ j=>onRow (hget f j.1) λ _ l _ _ _ m=>g343_1 rc a b m j d e f l)
def g343_3 (a:(FEnv [44])→H→R)(b:FEnv [44])(c:Value)(d e f:H):R:=@joinR [] (λ _ g=>binR (binC E .add 3 false true) b.1 (.int .i64 (.ofNat 1)) λ h=>a (h,()) g) λ g=>onNat b.1 none λ h=>onSl c none λ i j _=>g343_2 rc g b i d e f h j
def g343_4 (a:(FEnv [44])→H→R)(b:(FEnv [])→H→R)(c:FEnv [44])(d e:Value)(f g h:H):R:=binR (binC E .lss 3 false false) c.1 e λ i=>@joinR [] (λ _ j=>g343_3 E rc a c d f g j) λ j=>onB i (b () h) (j () h)
def g343_5 (a b:Value)(c d e:H):R:=@joinR [] (λ _ f=>k (.int .i64 (.ofNat 0)) f) λ f=>@loopF [44] (λ g h i=>g343_4 E rc g f h a b c d i) 1000000 (.int .i64 (.ofNat 0),()) e
def g343_6 (a:FEnv [6])(b c d:Value)(e f g:H):R:=@joinR [6] (λ _ h=>joinL (λ i=>g343_5 E rc k b i e f h) λ i=>onSl b (bindO (lenV E h 97 b) i) λ _ j _=>i (.int .i64 (.ofNat j))) λ h=>onB d (h (a.1,()) g) (k c g)
def g343_7 (a:FEnv [6])(b:L)(c:Value)(d e f:H):R:=nthF 1 b λ g=>binR (binC E .neq 41 false true) g (.int .i64 (.ofNat 0)) λ h=>g343_6 E rc k a c g h d e f
def g343_8 (a:FEnv [6])(b c:V)(d e:Value)(f g h:H)(i:Nat):R:=ifB (Nat.ble 3 i) (ifB (sameW (.agg ⟨cellsF c 3 0⟩) (.agg ⟨cellsF b 3 0⟩)) (rc 287 [.agg ⟨cellsF b 3 0⟩,.int .i64 (.ofNat 0),e] h λ j l=>onTup j λ m=>nthF 0 m λ _=>onTup j λ n=>g343_7 E rc k a n d f g l))
def g343_9 (a:FEnv [6])(b c:V)(d:Value)(e f g:H)(h:Nat):R:=ifB (Nat.ble 1 h) (rc 288 [.agg ⟨cellsF c 1 0⟩] g λ i j=>onRow (hget j f.1) λ _ l _ _ _ m=>g343_8 E rc k a b m d i e f j l)
def g343_10 (a:FEnv [6])(b:Value)(c d e:H):R:=onRow (hget e d.1) λ _ f _ _ _ g=>ifB (Nat.ble 3 f) (onRow (hget e c.1) λ _ h _ _ _ i=>g343_9 E rc k a g i b c d e h)
def g343_11 (a:(FEnv [6])→H→R)(b:FEnv [6,21])(c:Value)(d:H):R:=onB c (@joinR [6] (λ e f=>a (e.1,()) f) λ _=>k (.int .i64 (.ofNat 16)) d) (@joinR [6] (λ e f=>a (e.1,()) f) λ e=>e (b.1,()) d)
def g343_12 (a:(FEnv [6])→H→R)(b:FEnv [6,21])(c:V)(d:Addr)(e f:H)(g:Nat):R:=ifB (Nat.ble (Nat.succ d.2) g) (onRow (hget f e.1) λ _ h _ _ _ i=>ifB (Nat.ble 1 h) (rc 427 [.agg ⟨cellsF i 1 0⟩,b.2.1,getF c d.2] f λ j l=>g343_11 k a b j l))
def g343_13 (a:(FEnv [6])→H→R)(b:FEnv [6,21])(c:Addr)(d e:H)(f g:Nat):R:=ifB (Nat.ble (Nat.succ f) g) (addOffF c (Nat.mul f 1) λ h=>onPtr h λ i=>onRow (hget e i.1) λ _ j _ _ _ l=>g343_12 rc k a b l i d e j)
def g343_14 (a:(FEnv [6,21])→H→R)(b:FEnv [6,21])(c:Value)(d e:H):R:=@joinR [6] (λ f g=>binR (binC E .add 3 false true) b.2.1 (.int .i64 (.ofNat 1)) λ h=>a (f.1,(h,())) g) λ f=>onNat b.2.1 none λ g=>onSl c none λ h i _=>g343_13 rc k f b h d e g i
def g343_15 (a:(FEnv [6,21])→H→R)(b:(FEnv [6])→H→R)(c:FEnv [6,21])(d e:Value)(f g:H):R:=binR (binC E .lss 3 false false) c.2.1 e λ h=>@joinR [] (λ _ i=>g343_14 E rc k a c d f i) λ i=>onB h (b (c.1,()) g) (i () g)
def g343_16 (a:FEnv [6])(b c:Value)(d e f:H):R:=@joinR [6] (λ g h=>ifB (Nat.ble h.1 1000000000) (letH (H.mk h.1 h.2) λ i=>g343_10 E rc k g b d e i)) λ g=>@loopF [6,21] (λ h i j=>g343_15 E rc k h g i b c d j) 1000000 (a.1,(.int .i64 (.ofNat 0),())) f
def g343_17 (a b:Value)(c d e:H):R:=@joinR [6] (λ f g=>joinL (λ h=>g343_16 E rc k f a h c d g) λ h=>onSl a (bindO (lenV E g 97 a) h) λ _ i _=>h (.int .i64 (.ofNat i))) λ f=>onB b (f (.int .i64 (.ofNat 0),()) e) (k (.int .i64 (.ofNat 2)) e)
def g343_18 (a:V)(b c:Value)(d e f:H)(g:Nat):R:=ifB (Nat.ble 1 g) (joinL (λ h=>binR (binC E .neq 3 false false) c h λ i=>g343_17 E rc k b i d e f) λ h=>onSl (getF a 0) (bindO (lenV E f 50 (getF a 0)) h) λ _ i _=>h (.int .i64 (.ofNat i)))
def g343_19 (a:Value)(b c d:H):R:=joinL (λ e=>onRow (hget d b.1) λ _ f _ _ _ g=>g343_18 E rc k g a e b c d f) λ e=>onSl a (bindO (lenV E d 97 a) e) λ _ f _=>e (.int .i64 (.ofNat f))
def g343_20 (a:L)(b:Value)(c d:H):R:=ifB (allF (λ e=>cell1F e) a) (ifB (Nat.ble d.1 1000000000) (letH (hpush d (.row 78 (lenF a) false false 0 (T.ofList unk a))) λ e=>g343_19 E rc k b c d e))
def g343_21 (a:L)(b c:Value)(d:H):R:=ifB (allF (λ e=>cell1F e) a) (ifB (Nat.ble d.1 1000000000) (letH (hpush d (.row 264 (lenF a) false false 0 (T.ofList unk a))) λ e=>onCells b λ f=>g343_20 E rc k f c d e))
def g343 (E:Env)(rc:RC)(a0 a1 a2:Value)(h:H)(k:Value→H→R):R:=onCells a0 λ a=>g343_21 E rc k a a1 a2 h
theorem g343_eq (t:ExtT)(rc:RC)(a0 a1 a2:Value)(h:H)(k:Value→H→R):(funB (EX t) KK 343).run rc [a0,a1,a2] h k = g343 (EX t) rc a0 a1 a2 h k:=by kernel_rfl
def g294_0 (a:V)(b c:Bool)(d:TypeId)(e f:H)(g h:Nat):R:=ifB (notB c) (ifB (Nat.beq (lenF (lay (lay (lay (lay (lay (cellsOfV (.agg (@List.toArray Value [.int .i64 (.ofNat 0),.int .i64 (.ofNat 0),.int .i64 (.ofNat 0),.int .i64 (.ofNat 0),.int .i64 (.ofNat 0)]))) 0 (cellsOfV (.int .i64 (.ofNat 192)))) 1 (cellsOfV (.int .i64 (.ofNat 96)))) 2 (cellsOfV (.int .i64 (.ofNat 128)))) 3 (cellsOfV (.int .i64 (.ofNat 128)))) 4 (cellsOfV (.int .i64 (.ofNat 128))))) 5) (ifB (Nat.ble h 0) (ifB (Nat.ble 5 g) (ifB (Nat.ble g 1000000000) (ifB (allF (λ i=>cell1F i) (lay (lay (lay (lay (lay (cellsOfV (.agg (@List.toArray Value [.int .i64 (.ofNat 0),.int .i64 (.ofNat 0),.int .i64 (.ofNat 0),.int .i64 (.ofNat 0),.int .i64 (.ofNat 0)]))) 0 (cellsOfV (.int .i64 (.ofNat 192)))) 1 (cellsOfV (.int .i64 (.ofNat 96)))) 2 (cellsOfV (.int .i64 (.ofNat 128)))) 3 (cellsOfV (.int .i64 (.ofNat 128)))) 4 (cellsOfV (.int .i64 (.ofNat 128))))) (letH (hset f e.1 (.row d g b false h (putF a 0 (lay (lay (lay (lay (lay (cellsOfV (.agg (@List.toArray Value [.int .i64 (.ofNat 0),.int .i64 (.ofNat 0),.int .i64 (.ofNat 0),.int .i64 (.ofNat 0),.int .i64 (.ofNat 0)]))) 0 (cellsOfV (.int .i64 (.ofNat 192)))) 1 (cellsOfV (.int .i64 (.ofNat 96)))) 2 (cellsOfV (.int .i64 (.ofNat 128)))) 3 (cellsOfV (.int .i64 (.ofNat 128)))) 4 (cellsOfV (.int .i64 (.ofNat 128))))))) λ i=>bindO (loadV E i 338 (Addr.mk e.1 0 none)) λ j=>k j i))))))
def g294 (E:Env)(rc:RC)(h:H)(k:Value→H→R):R:=ifB (Nat.ble h.1 1000000000) (letH (hpush h (.row 338 5 false false 0 (@T.c Value (.int .i64 (.ofNat 0))))) λ a=>onRow (hget a h.1) λ b c d e f g=>g294_0 E k g d e b h a c f)
theorem g294_eq (t:ExtT)(rc:RC)(h:H)(k:Value→H→R):(funB (EX t) KK 294).run rc [] h k = g294 (EX t) rc  h k:=by kernel_rfl
def g264_0 (a:L)(b:V)(c d:Bool)(e:Addr)(f:TypeId)(g:H)(h i:Nat):R:=ifB (notB d) (ifB (Nat.beq (lenF a) 1) (ifB (Nat.ble i e.2) (ifB (Nat.ble (Nat.add e.2 1) h) (ifB (Nat.ble h 1000000000) (ifB (allF (λ j=>cell1F j) a) (letH (hset g e.1 (.row f h c false i (putF b e.2 a))) λ j=>k (.tuple ⟨[]⟩) j))))))
def g264_1 (a b:V)(c d:Addr)(e f:Value)(g:H)(h:Nat):R:=ifB (Nat.ble (Nat.succ d.2) h) (ifB (sameW (getF b d.2) (getF a c.2)) (bindO (sliceV E 9 (getF a c.2) (some f) none none) λ i=>onPtr e λ j=>onCells i λ l=>onRow (hget g j.1) λ m n o p q r=>g264_0 k l r o p j m g n q))
def g264_2 (a b:V)(c d:Addr)(e f:Value)(g:H)(h:Nat):R:=ifB (Nat.ble (Nat.succ d.2) h) (bindP (heavyB E g Builtin.copy [e,getF b d.2] [60,9]) λ i j=>onPtr f λ l=>onRow (hget j l.1) λ _ m _ _ _ n=>g264_1 E k a n c l f i j m)
def g264_3 (a:Addr)(b c:Value)(d:H):R:=onRow (hget d a.1) λ _ e _ _ _ f=>ifB (Nat.ble (Nat.succ a.2) e) (onPtr c λ g=>onRow (hget d g.1) λ _ h _ _ _ i=>g264_2 E k f i a g b c d h)
def g264 (E:Env)(rc:RC)(a0 a1:Value)(h:H)(k:Value→H→R):R:=ifB (Nat.ble h.1 1000000000) (letH (H.mk h.1 h.2) λ a=>onPtr a1 λ b=>g264_3 E k b a0 a1 a)
theorem g264_eq (t:ExtT)(rc:RC)(a0 a1:Value)(h:H)(k:Value→H→R):(funB (EX t) KK 264).run rc [a0,a1] h k = g264 (EX t) rc a0 a1 h k:=by kernel_rfl
def g302_0 (a:(FEnv [1])→H→R)(b:FEnv [1])(c d:H):R:=onRow (hget d c.1) λ _ e _ _ _ f=>ifB (Nat.ble 1 e) (rc 49 [.agg ⟨cellsF f 1 0⟩,b.1] d λ g h=>a (g,()) h)
def g302_2 (a b:(FEnv [1])→H→R)(c:FEnv [1])(d e:Value)(f g:H):R:=onB d (@joinR [] (λ _ h=>@joinR [1] (λ i j=>b (i.1,()) j) λ i=>g302_0 rc i c f h) λ _=>a (c.1,()) g) (@joinR [] (λ _ h=>@joinR [1] (λ i j=>b (i.1,()) j) λ i=>g302_0 rc i c f h) λ h=>onB e (a (c.1,()) g) (h () g))
def g302_3 (a b:(FEnv [1])→H→R)(c:FEnv [1])(d e f:Value)(g h:H):R:=joinV (λ i j=>g302_2 rc a b c d i g j) λ i=>onG d (i undef h) (binR (binC E .neq 3 false false) e f λ j=>i j h) (i undef h)
def g302_4 (a b:(FEnv [1])→H→R)(c:FEnv [1])(d e:Value)(f g:H):R:=joinV (λ h i=>joinV (λ j l=>g302_3 E rc a b c e h j f l) λ j=>onG e (j undef i) (j d i) (j undef i)) λ h=>onG e (h undef g) (h c.1 g) (h undef g)
def g302_5 (a:(FEnv [1])→H→R)(b c:Value)(d e:H):R:=@loopF [1] (λ f g h=>binR (binC E .neq 3 false true) g.1 (.int .i64 (.ofNat 0)) λ i=>g302_4 E rc a f g c i d h) 1000000 (b,()) e
def g302_12 (a b c d:Value)(e f:H):R:=onB c (@joinR [6] (λ _ g=>@joinR [1] (λ h i=>binR (binC E .eql 3 false false) h.1 b λ j=>k j i) λ h=>g302_5 E rc h a b e g) λ g=>onB d (g (.bool false,()) f) (k (.bool false) f)) (@joinR [6] (λ _ g=>@joinR [1] (λ h i=>binR (binC E .eql 3 false false) h.1 b λ j=>k j i) λ h=>g302_5 E rc h a b e g) λ _=>k (.bool false) f)
def g302_14 (a b c d e:Value)(f g:H):R:=joinV (λ h i=>joinV (λ j l=>g302_12 E rc k a b c j f l) λ j=>g342_7 E j c h i) λ h=>onG c (rc 106 [d,e] g h) (h undef g) (h undef g)
def g302_15 (a:Value→H→R)(b:Value)(c d:H):R:=onG b (onRow (hget d c.1) λ _ e _ _ _ f=>ifB (Nat.ble 1 e) (a (.agg ⟨cellsF f 1 0⟩) d)) (a undef d) (a undef d)
def g302_16 (a b c:Value)(d e:H):R:=joinV (λ f g=>joinV (λ h i=>g302_14 E rc k a b c f h d i) λ h=>onG c (h b g) (h undef g) (h undef g)) λ f=>g302_15 f c d e
def g302_17 (a:V)(b c:Value)(d e:H)(f:Nat):R:=ifB (Nat.ble 1 f) (rc 106 [.agg ⟨cellsF a 1 0⟩,b] e λ g h=>binR (binC E .neq 41 false true) g (.int .i64 (.ofNat 0)) λ i=>g302_16 E rc k b c i d h)
def g302_18 (a:L)(b c:Value)(d:H):R:=ifB (allF (λ e=>cell1F e) a) (ifB (Nat.ble d.1 1000000000) (letH (hpush d (.row 88 (lenF a) false false 0 (T.ofList unk a))) λ e=>onRow (hget e d.1) λ _ f _ _ _ g=>g302_17 E rc k g b c d e f))
def g302 (E:Env)(rc:RC)(a0 a1 a2:Value)(h:H)(k:Value→H→R):R:=onCells a0 λ a=>g302_18 E rc k a a1 a2 h
theorem g302_eq (t:ExtT)(rc:RC)(a0 a1 a2:Value)(h:H)(k:Value→H→R):(funB (EX t) KK 302).run rc [a0,a1,a2] h k = g302 (EX t) rc a0 a1 a2 h k:=by kernel_rfl
def g66_0 (a:(FEnv [])→H→R)(b:V)(c:Addr)(d:Value)(e:H)(f:Nat):R:=ifB (Nat.ble (Nat.succ c.2) f) (binR (binC E .neq 59 false false) (getF b c.2) d λ g=>@joinR [] (λ _ h=>a () h) λ h=>onB g (h () e) none)
def g66_2 (a:(FEnv [])→H→R)(b c:Value)(d:H):R:=onPtr c λ _=>onPtr c λ e=>onCells b λ f=>onRow (hget d e.1) λ g h i j l m=>g96_1 a f m i j e g d h l
def g66_3 (a:(FEnv [])→H→R)(b c:Value)(d:H):R:=onB c (bindO (nilV b) λ e=>onPtr e λ _=>onPtr e λ f=>onRow (hget d f.1) λ _ g _ _ _ h=>g66_0 E a h f b d g) (bindO (convV E d 59 214 b) λ e=>rc 148 [e] d λ f g=>bindO (convV E g 214 59 f) λ h=>bindO (nilV b) λ i=>g66_2 a h i g)
def g66_4 (a:V)(b:Addr)(c:Value)(d:H)(e:Nat):R:=ifB (Nat.ble (Nat.succ b.2) e) (binR (binC E .eql 59 false true) (getF a b.2) (.pointer none) λ f=>@joinR [] (λ _ g=>k (.tuple ⟨[]⟩) g) λ g=>g66_3 E rc g c f d)
def g66 (E:Env)(rc:RC)(a0:Value)(h:H)(k:Value→H→R):R:=bindO (nilV a0) λ a=>onPtr a λ _=>onPtr a λ b=>onRow (hget h b.1) λ _ c _ _ _ d=>g66_4 E rc k d b a0 h c
theorem g66_eq (t:ExtT)(rc:RC)(a0:Value)(h:H)(k:Value→H→R):(funB (EX t) KK 66).run rc [a0] h k = g66 (EX t) rc a0 h k:=by kernel_rfl
def g163_0 (a:Value)(b:H):R:=onTup a λ c=>nthF 0 c λ d=>onTup a λ e=>nthF 1 e λ f=>ifB (nT [d,f]) (k (.tuple ⟨[d,f]⟩) b)
def g163_1 (a:Addr)(b c:Value)(d:H):R:=onRow (hget d a.1) λ _ e _ _ _ f=>ifB (Nat.ble (Nat.add (Nat.add a.2 1) 2) e) (rc 179 [.agg ⟨cellsF f 2 (Nat.add a.2 1)⟩,b,c] d λ g h=>g163_0 k g h)
def g163_2 (a:(FEnv [6,7])→H→R)(b:Value)(c:H):R:=@joinR [6,7] (λ d e=>a (d.1,(d.2.1,())) e) λ d=>onB b (d (.int .i64 (.ofNat 0),(.int .i64 (.ofNat 0),())) c) (k (.tuple ⟨[.int .i64 (.ofNat 0),.int .i64 (.ofNat 2)]⟩) c)
def g163_3 (a:(FEnv [6,7])→H→R)(b c:Value)(d:H):R:=onB c (binR (binC E .lss 3 false true) b (.int .i64 (.ofNat 1)) λ e=>g163_2 k a e d) (k (.tuple ⟨[.int .i64 (.ofNat 0),.int .i64 (.ofNat 1)]⟩) d)
def g163_4 (a:(FEnv [6,7])→H→R)(b c:Value)(d:H):R:=binR (binC E .eql 44 false true) b (.pointer none) λ e=>@joinR [6,7] (λ f g=>a (f.1,(f.2.1,())) g) λ f=>g163_3 E k f c e d
def g163 (E:Env)(rc:RC)(a0 a1 a2:Value)(h:H)(k:Value→H→R):R:=@joinR [6,7] (λ _ a=>bindO (nilV a0) λ b=>onPtr b λ c=>g163_1 rc k c a1 a2 a) λ a=>g163_4 E k a a0 a2 h
theorem g163_eq (t:ExtT)(rc:RC)(a0 a1 a2:Value)(h:H)(k:Value→H→R):(funB (EX t) KK 163).run rc [a0,a1,a2] h k = g163 (EX t) rc a0 a1 a2 h k:=by kernel_rfl
def g164_0 (a:L)(b:V)(c d:Bool)(e:TypeId)(f:Value)(g h:H)(i j:Nat):R:=ifB (notB d) (ifB (Nat.beq (lenF a) 2) (ifB (Nat.ble j 0) (ifB (Nat.ble 2 i) (ifB (Nat.ble i 1000000000) (ifB (allF (λ l=>cell1F l) a) (letH (hset h g.1 (.row e i c false j (putF b 0 a))) λ l=>bindO (loadV E l 99 (Addr.mk g.1 0 none)) λ m=>ifB (nT [m,f]) (k (.tuple ⟨[m,f]⟩) l)))))))
def g164_1 (a b:Value)(c d:H):R:=onTup a λ e=>nthF 1 e λ f=>onCells b λ g=>onRow (hget d c.1) λ h i j l m n=>g164_0 E k g n j l h f c d i m
def g164_2 (a:V)(b c:Value)(d e:H)(f:Nat):R:=ifB (Nat.ble 2 f) (rc 252 [.agg ⟨cellsF a 2 0⟩,b,c,.func (.func 253) #[] #[]] e λ g h=>onTup g λ i=>nthF 0 i λ j=>g164_1 E k g j d h)
def g164_3 (a b:Value)(c d:H):R:=ifB (Nat.ble d.1 1000000000) (letH (hpush d (.row 99 2 false false 0 (T.ofList unk [.int .i64 (.ofNat 0),.slice none 0 0]))) λ e=>onRow (hget e c.1) λ _ f _ _ _ g=>g164_2 E rc k g a b d e f)
def g164_4 (a:L)(b c:Value)(d:H):R:=ifB (allF (λ e=>cell1F e) a) (ifB (Nat.ble d.1 1000000000) (letH (hpush d (.row 99 (lenF a) false false 0 (T.ofList unk a))) λ e=>g164_3 E rc k b c d e))
def g164 (E:Env)(rc:RC)(a0 a1 a2:Value)(h:H)(k:Value→H→R):R:=onCells a0 λ a=>g164_4 E rc k a a1 a2 h
theorem g164_eq (t:ExtT)(rc:RC)(a0 a1 a2:Value)(h:H)(k:Value→H→R):(funB (EX t) KK 164).run rc [a0,a1,a2] h k = g164 (EX t) rc a0 a1 a2 h k:=by kernel_rfl
def g167_0 (a:Value)(b:H):R:=binR (binC E .neq 3 false true) a (.int .i64 (.ofNat 0)) λ c=>ifB (nT [a,c]) (k (.tuple ⟨[a,c]⟩) b)
def g167_1 (a:Value)(b c:H):R:=onRow (hget c b.1) λ _ d _ _ _ e=>ifB (Nat.ble 3 d) (rc 174 [.agg ⟨cellsF e 3 0⟩,a,.int .i64 (.ofNat 0)] c λ f g=>g167_0 E k f g)
def g167_2 (a b:Value)(c d:H):R:=@joinR [4,5] (λ _ e=>g167_1 E rc k a c e) λ e=>onB b (e (.int .i64 (.ofNat 0),(.bool false,())) d) (k (.tuple ⟨[.int .i64 (.ofNat 0),.bool false]⟩) d)
def g167_3 (a:V)(b:Value)(c d:H)(e:Nat):R:=ifB (Nat.ble 3 e) (rc 172 [.agg ⟨cellsF a 3 0⟩,b] d λ f g=>binR (binC E .neq 41 false true) f (.int .i64 (.ofNat 0)) λ h=>g167_2 E rc k b h c g)
def g167_4 (a:L)(b:Value)(c:H):R:=ifB (allF (λ d=>cell1F d) a) (ifB (Nat.ble c.1 1000000000) (letH (hpush c (.row 80 (lenF a) false false 0 (T.ofList unk a))) λ d=>onRow (hget d c.1) λ _ e _ _ _ f=>g167_3 E rc k f b c d e))
def g167 (E:Env)(rc:RC)(a0 a1:Value)(h:H)(k:Value→H→R):R:=onCells a0 λ a=>g167_4 E rc k a a1 h
theorem g167_eq (t:ExtT)(rc:RC)(a0 a1:Value)(h:H)(k:Value→H→R):(funB (EX t) KK 167).run rc [a0,a1] h k = g167 (EX t) rc a0 a1 h k:=by kernel_rfl
def g171_0 (a:FEnv [1,2])(b c:V)(d:Addr)(e:Value)(f:H)(g:Nat):R:=ifB (Nat.ble (Nat.add (Nat.add d.2 6) 3) g) (ifB (sameW (.agg ⟨cellsF c 3 (Nat.add d.2 6)⟩) (.agg ⟨cellsF b 3 (Nat.add d.2 6)⟩)) (ifB (sameW a.2.1 a.2.1) (rc 83 [.agg ⟨cellsF b 3 (Nat.add d.2 6)⟩,a.2.1,e] f λ _ h=>k (.tuple ⟨[]⟩) h)))
def g171_1 (a:FEnv [1,2])(b:V)(c d:Addr)(e:Value)(f:H):R:=ifB (sameW (.pointer (some (Addr.mk d.1 (Nat.add d.2 6) none))) (.pointer (some (Addr.mk c.1 (Nat.add c.2 6) none)))) (onRow (hget f c.1) λ _ g _ _ _ h=>g171_0 rc k a b h c e f g)
def g171_2 (a:FEnv [1,2])(b:V)(c:Addr)(d e:Value)(f:H)(g:Nat):R:=ifB (Nat.ble (Nat.add (Nat.add c.2 6) 3) g) (rc 81 [d,a.1] f λ h i=>ifB (sameW d d) (bindO (nilV d) λ j=>ifB (sameW j e) (onPtr e λ l=>g171_1 rc k a b c l h i)))
def g171_3 (a:FEnv [1,2])(b:Value)(c:H):R:=ifB (Nat.ble c.1 1000000000) (letH (H.mk c.1 c.2) λ d=>bindO (nilV b) λ e=>onPtr e λ f=>onRow (hget d f.1) λ _ g _ _ _ h=>g171_2 rc k a h f b e d g)
def g171_4 (a:FEnv [1,2])(b:V)(c:Addr)(d:Value)(e:H)(f:Nat):R:=ifB (Nat.ble (Nat.add (Nat.add c.2 9) 3) f) (rc 82 [.agg ⟨cellsF b 3 (Nat.add c.2 9)⟩,a.1,a.2.1,.int .u8 (.ofNat 2)] e λ _ g=>g171_3 rc k a d g)
def g171_5 (a:(FEnv [1])→H→R)(b:FEnv [1,2])(c:V)(d:Addr)(e:Value)(f:H)(g:Nat):R:=ifB (Nat.ble (Nat.add (Nat.add d.2 9) 3) g) (rc 82 [.agg ⟨cellsF c 3 (Nat.add d.2 9)⟩,e,b.2.1,.int .u8 (.ofNat 0)] f λ _ h=>bindO (builtinV E h Builtin.min [b.1,e] [3,3]) λ i=>a (i,()) h)
def g171_6 (a:(FEnv [1])→H→R)(b:FEnv [1,2])(c d:V)(e:Addr)(f g h:Value)(i:H)(j:Nat):R:=ifB (Nat.ble (Nat.add (Nat.add e.2 6) 3) j) (ifB (sameW (.agg ⟨cellsF d 3 (Nat.add e.2 6)⟩) (.agg ⟨cellsF c 3 (Nat.add e.2 6)⟩)) (ifB (sameW b.2.1 b.2.1) (rc 80 [.agg ⟨cellsF c 3 (Nat.add e.2 6)⟩,b.2.1,h] i λ _ l=>bindO (nilV f) λ m=>onPtr m λ n=>onRow (hget l n.1) λ _ o _ _ _ p=>g171_5 E rc a b p n g l o)))
def g171_7 (a:(FEnv [1])→H→R)(b:FEnv [1,2])(c:V)(d e:Addr)(f g h:Value)(i:H):R:=ifB (sameW (.pointer (some (Addr.mk e.1 (Nat.add e.2 6) none))) (.pointer (some (Addr.mk d.1 (Nat.add d.2 6) none)))) (onRow (hget i d.1) λ _ j _ _ _ l=>g171_6 E rc a b c l d f g h i j)
def g171_8 (a:(FEnv [1])→H→R)(b:FEnv [1,2])(c:V)(d:Addr)(e f g:Value)(h:H)(i:Nat):R:=ifB (Nat.ble (Nat.add (Nat.add d.2 6) 3) i) (rc 81 [e,f] h λ j l=>ifB (sameW e e) (bindO (nilV e) λ m=>ifB (sameW m g) (onPtr g λ n=>g171_7 E rc a b c d n e f j l)))
def g171_9 (a:(FEnv [1])→H→R)(b:FEnv [1,2])(c d:Value)(e:H):R:=bindO (nilV c) λ f=>onPtr f λ g=>onRow (hget e g.1) λ _ h _ _ _ i=>g171_8 E rc a b i g c d f e h
def g171_15 (a:(FEnv [1,2])→H→R)(b:(FEnv [1])→H→R)(c:FEnv [1,2])(d e f g:Value)(h:H):R:=onB f (@joinR [] (λ _ i=>ifB (Nat.ble i.1 1000000000) (letH (H.mk i.1 i.2) λ j=>g171_9 E rc b c d e j)) λ i=>onB g (i () h) (a (c.1,(c.2.1,())) h)) (@joinR [] (λ _ i=>ifB (Nat.ble i.1 1000000000) (letH (H.mk i.1 i.2) λ j=>g171_9 E rc b c d e j)) λ _=>a (c.1,(c.2.1,())) h)
def g171_16 (a:(FEnv [1,2])→H→R)(b:(FEnv [1])→H→R)(c:FEnv [1,2])(d e f g h:Value)(i:H):R:=joinV (λ j l=>g171_15 E rc a b c d e f j l) λ j=>onG f (binR (binC E .neq 245 false false) g h λ l=>j l i) (j undef i) (j undef i)
def g171_17 (a:(FEnv [1,2])→H→R)(b:(FEnv [1])→H→R)(c:FEnv [1,2])(d e f g h:Value)(i:H):R:=joinV (λ j l=>g171_16 E rc a b c d e f g j l) λ j=>onG f (bindO (buildV E 245 [(0,.int .u8 (.ofNat 2)),(1,h)]) λ l=>j l i) (j undef i) (j undef i)
def g171_18 (a:Value→H→R)(b c:Value)(d:H):R:=onG b (joinL (λ e=>a e d) λ e=>onNat c (bindO (convV E d 3 5 c) e) λ f=>@Bool.rec (λ _=>R) (bindO (convV E d 3 5 c) e) (e (.int .u8 (.ofNat f))) (Nat.ble f 255)) (a undef d) (a undef d)
def g171_19 (a:(FEnv [1,2])→H→R)(b:(FEnv [1])→H→R)(c:FEnv [1,2])(d e f g:Value)(h:H):R:=joinV (λ i j=>joinV (λ l m=>g171_17 E rc a b c d e f g l m) λ l=>g171_18 E l f i j) λ i=>onG f (i c.2.1 h) (i undef h) (i undef h)
def g171_20 (a:Value→H→R)(b:Value)(c d:H):R:=onG b (onRow (hget d c.1) λ _ e _ _ _ f=>ifB (Nat.ble 2 e) (a (.agg ⟨cellsF f 2 0⟩) d)) (a undef d) (a undef d)
def g171_21 (a:(FEnv [1,2])→H→R)(b:(FEnv [1])→H→R)(c:FEnv [1,2])(d e f:Value)(g h:H):R:=binR (binC E .neq 41 false true) f (.int .i64 (.ofNat 0)) λ i=>joinV (λ j l=>g171_19 E rc a b c d e i j l) λ j=>g171_20 j i g h
def g171_22 (a:(FEnv [1,2])→H→R)(b:(FEnv [1])→H→R)(c:FEnv [1,2])(d:L)(e:V)(f g:Bool)(h:TypeId)(i j l:Value)(m n:H)(o p:Nat):R:=ifB (notB g) (ifB (Nat.beq (lenF d) 2) (ifB (Nat.ble p 0) (ifB (Nat.ble 2 o) (ifB (Nat.ble o 1000000000) (ifB (allF (λ q=>cell1F q) d) (letH (hset n m.1 (.row h o f false p (putF e 0 d))) λ q=>g171_21 E rc a b c i j l m q))))))
def g171_23 (a:(FEnv [1,2])→H→R)(b:(FEnv [1])→H→R)(c:FEnv [1,2])(d e f g:Value)(h:H):R:=ifB (Nat.ble h.1 1000000000) (letH (hpush h (.row 245 2 false false 0 (T.ofList unk [.int .u8 (.ofNat 0),.int .u8 (.ofNat 0)]))) λ i=>onCells f λ j=>onRow (hget i h.1) λ l m n o p q=>g171_22 E rc a b c j q n o l d e g h i m p)
def g171_24 (a:(FEnv [1,2])→H→R)(b:(FEnv [1])→H→R)(c:FEnv [1,2])(d:V)(e:Addr)(f g:Value)(h:H)(i:Nat):R:=ifB (Nat.ble (Nat.add (Nat.add e.2 9) 3) i) (rc 257 [.agg ⟨cellsF d 3 (Nat.add e.2 9)⟩,g] h λ j l=>onTup j λ m=>nthF 0 m λ n=>onTup j λ o=>nthF 1 o λ p=>g171_23 E rc a b c f g n p l)
def g171_25 (a:(FEnv [1,2])→H→R)(b:(FEnv [1])→H→R)(c:FEnv [1,2])(d e:Value)(f:H):R:=bindO (nilV d) λ g=>onPtr g λ h=>onRow (hget f h.1) λ _ i _ _ _ j=>g171_24 E rc a b c j h d e f i
def g171_26 (a:(FEnv [1,2])→H→R)(b:(FEnv [1])→H→R)(c:FEnv [1,2])(d:Value)(e:H):R:=binR (binC E .shl 3 true false) (.int .i64 (.ofNat 1)) c.2.1 λ f=>binR (binC E .xor 3 false false) c.1 f λ g=>g171_25 E rc a b c d g e
def g171_27 (a b:(FEnv [1,2])→H→R)(c:FEnv [1,2])(d:Value)(e:H):R:=@joinR [1] (λ f g=>binR (binC E .add 3 false true) c.2.1 (.int .i64 (.ofNat 1)) λ h=>b (f.1,(h,())) g) λ f=>g171_26 E rc a f c d e
def g171_28 (a b:(FEnv [1,2])→H→R)(c:FEnv [1,2])(d:Value)(e:H):R:=binR (binC E .lss 3 false true) c.2.1 (.int .i64 (.ofNat 10)) λ f=>@joinR [] (λ _ g=>g171_27 E rc a b c d g) λ g=>onB f (a (c.1,(c.2.1,())) e) (g () e)
def g171 (E:Env)(rc:RC)(a0 a1 a2:Value)(h:H)(k:Value→H→R):R:=@joinR [1,2] (λ a b=>bindO (nilV a0) λ c=>onPtr c λ d=>onRow (hget b d.1) λ _ e _ _ _ f=>g171_4 rc k a f d a0 b e) λ a=>@loopF [1,2] (λ b c d=>g171_28 E rc a b c a0 d) 1000000 (a1,(a2,())) h
theorem g171_eq (t:ExtT)(rc:RC)(a0 a1 a2:Value)(h:H)(k:Value→H→R):(funB (EX t) KK 171).run rc [a0,a1,a2] h k = g171 (EX t) rc a0 a1 a2 h k:=by kernel_rfl
def g172_0 (a:(FEnv [4])→H→R)(b c:Value)(d:H):R:=onB b (@joinR [4] (λ e f=>a (e.1,()) f) λ e=>onB c (e (.int .i64 (.ofNat 0),()) d) (k (.int .i64 (.ofNat 3)) d)) (@joinR [4] (λ e f=>a (e.1,()) f) λ _=>k (.int .i64 (.ofNat 3)) d)
def g172_1 (a:(FEnv [4])→H→R)(b c d:Value)(e:H):R:=joinV (λ f g=>g172_0 k a b f g) λ f=>onG b (binR (binC E .geq 3 false false) c d λ g=>f g e) (f undef e) (f undef e)
def g172_3 (a:(FEnv [4])→H→R)(b c:Value)(d e:H):R:=joinV (λ f g=>joinV (λ h i=>joinV (λ j l=>g172_1 E k a c f j l) λ j=>onG c (rc 258 [h] i j) (j undef i) (j undef i)) λ h=>g80_10 h c d g) λ f=>onG c (f b e) (f undef e) (f undef e)
def g172_4 (a:(FEnv [4])→H→R)(b c:Value)(d e:H):R:=onB c (binR (binC E .lss 3 false true) b (.int .i64 (.ofNat 0)) λ f=>g172_3 E rc k a b f d e) (k (.int .i64 (.ofNat 1)) e)
def g172_5 (a:(FEnv [4])→H→R)(b:V)(c:Value)(d e:H)(f:Nat):R:=ifB (Nat.ble 1 f) (binR (binC E .eql 44 false true) (getF b 0) (.pointer none) λ g=>@joinR [4] (λ h i=>a (h.1,()) i) λ h=>g172_4 E rc k h c g d e)
def g172_6 (a:Value)(b c:H):R:=@joinR [4] (λ _ d=>k (.int .i64 (.ofNat 0)) d) λ d=>onRow (hget c b.1) λ _ e _ _ _ f=>g172_5 E rc k d f a b c e
def g172_7 (a:L)(b:Value)(c:H):R:=ifB (allF (λ d=>cell1F d) a) (ifB (Nat.ble c.1 1000000000) (letH (hpush c (.row 80 (lenF a) false false 0 (T.ofList unk a))) λ d=>g172_6 E rc k b c d))
def g172 (E:Env)(rc:RC)(a0 a1:Value)(h:H)(k:Value→H→R):R:=onCells a0 λ a=>g172_7 E rc k a a1 h
theorem g172_eq (t:ExtT)(rc:RC)(a0 a1:Value)(h:H)(k:Value→H→R):(funB (EX t) KK 172).run rc [a0,a1] h k = g172 (EX t) rc a0 a1 h k:=by kernel_rfl
def g173_0 (a:(FEnv [7,8])→H→R)(b:FEnv [7,8])(c:FEnv [7])(d:Value)(e f:H):R:=onRow (hget f e.1) λ _ g _ _ _ h=>ifB (Nat.ble 3 g) (rc 174 [.agg ⟨cellsF h 3 0⟩,d,b.2.1] f λ i j=>a (c.1,(i,())) j)
def g173_2 (a:(FEnv [7,8])→H→R)(b:(FEnv [7])→H→R)(c:FEnv [7,8])(d e f:Value)(g h:H):R:=onB e (@joinR [] (λ _ i=>@joinR [7] (λ j l=>g173_0 rc a c j d g l) λ j=>j (c.2.1,()) i) λ _=>b (c.1,()) h) (@joinR [] (λ _ i=>@joinR [7] (λ j l=>g173_0 rc a c j d g l) λ j=>j (c.2.1,()) i) λ i=>onB f (b (c.1,()) h) (i () h))
def g173_3 (a:(FEnv [7,8])→H→R)(b:(FEnv [7])→H→R)(c:FEnv [7,8])(d e f g:Value)(h i:H):R:=joinV (λ j l=>g173_2 rc a b c d e j h l) λ j=>onG e (j undef i) (binR (binC E .lss 3 false false) f g λ l=>j l i) (j undef i)
def g173_4 (a:(FEnv [7,8])→H→R)(b:(FEnv [7])→H→R)(c:FEnv [7,8])(d e f:Value)(g h:H):R:=joinV (λ i j=>joinV (λ l m=>g173_3 E rc a b c d f i l g m) λ l=>onG f (l undef j) (l e j) (l undef j)) λ i=>onG f (i undef h) (i c.2.1 h) (i undef h)
def g173_5 (a:(FEnv [7])→H→R)(b c d:Value)(e f:H):R:=@loopF [7,8] (λ g h i=>binR (binC E .neq 3 false true) h.2.1 (.int .i64 (.ofNat 0)) λ j=>g173_4 E rc g a h b c j e i) 1000000 (.int .i64 (.ofNat 0),(d,())) f
def g173_6 (a:V)(b c:Value)(d e:H)(f:Nat):R:=ifB (Nat.ble 3 f) (rc 174 [.agg ⟨cellsF a 3 0⟩,b,.int .i64 (.ofNat 0)] e λ g h=>@joinR [7] (λ i j=>k i.1 j) λ i=>g173_5 E rc i b c g d h)
def g173_7 (a:L)(b c:Value)(d:H):R:=ifB (allF (λ e=>cell1F e) a) (ifB (Nat.ble d.1 1000000000) (letH (hpush d (.row 80 (lenF a) false false 0 (T.ofList unk a))) λ e=>onRow (hget e d.1) λ _ f _ _ _ g=>g173_6 E rc k g b c d e f))
def g173 (E:Env)(rc:RC)(a0 a1 a2:Value)(h:H)(k:Value→H→R):R:=onCells a0 λ a=>g173_7 E rc k a a1 a2 h
theorem g173_eq (t:ExtT)(rc:RC)(a0 a1 a2:Value)(h:H)(k:Value→H→R):(funB (EX t) KK 173).run rc [a0,a1,a2] h k = g173 (EX t) rc a0 a1 a2 h k:=by kernel_rfl
def g174_0 (a:FEnv [7])(b:Value→R)(c:H):R:=onNat a.1 (bindO (convV E c 25 3 a.1) b) λ d=>@Bool.rec (λ _=>R) (bindO (convV E c 25 3 a.1) b) (b (.int .i64 (.ofNat d))) (Nat.ble d 9223372036854775807)
def g174_1 (a:(FEnv [7])→H→R)(b:V)(c:Value)(d:H)(e:Nat):R:=ifB (Nat.ble 1 e) (rc 118 [getF b 0,c,.int .i64 (.ofNat 8)] d λ f g=>onTup f λ h=>nthF 0 h λ i=>onTup f λ j=>nthF 1 j λ _=>a (i,()) g)
def g174_2 (a:(FEnv [7])→H→R)(b:V)(c:Value)(d:H):R:=rc 52 [.agg ⟨cellsF b 3 0⟩,c,.int .i64 (.ofNat 8)] d λ e f=>onTup e λ g=>nthF 0 g λ h=>onTup e λ i=>nthF 1 i λ _=>a (h,()) f
def g174_3 (a:(FEnv [7])→H→R)(b:V)(c:Value)(d:H)(e:Nat):R:=ifB (Nat.ble 3 e) (binR (binC E .mul 3 true false) (.int .i64 (.ofNat 8)) c λ f=>g174_2 rc a b f d)
def g174_4 (a:(FEnv [7])→H→R)(b c d:Value)(e f:H):R:=onB d (onRow (hget f e.1) λ _ g _ _ _ h=>g174_1 rc a h c f g) (onRow (hget f e.1) λ _ g _ _ _ h=>g174_3 E rc a h b f g)
def g174_5 (a b:Value)(c d:H):R:=binR (binC E .eql 3 false true) b (.int .i64 (.ofNat 0)) λ e=>@joinR [7] (λ f g=>joinL (λ h=>k h g) λ h=>g174_0 E f h g) λ f=>g174_4 E rc f a b e c d
def g174_6 (a:L)(b c:Value)(d:H):R:=ifB (allF (λ e=>cell1F e) a) (ifB (Nat.ble d.1 1000000000) (letH (hpush d (.row 80 (lenF a) false false 0 (T.ofList unk a))) λ e=>g174_5 E rc k b c d e))
def g174 (E:Env)(rc:RC)(a0 a1 a2:Value)(h:H)(k:Value→H→R):R:=onCells a0 λ a=>g174_6 E rc k a a1 a2 h
theorem g174_eq (t:ExtT)(rc:RC)(a0 a1 a2:Value)(h:H)(k:Value→H→R):(funB (EX t) KK 174).run rc [a0,a1,a2] h k = g174 (EX t) rc a0 a1 a2 h k:=by kernel_rfl
def g175_1 (a:(FEnv [])→H→R)(b:V)(c d:Value)(e:H)(f:Nat):R:=ifB (Nat.ble 1 f) (binR (binC E .add 3 false true) d (.int .i64 (.ofNat 8)) λ g=>joinL (λ h=>rc 96 [getF b 0,g,.int .i64 (.ofNat 8),h] e λ _ i=>a () i) λ h=>g79_9 E h c e)
def g175_2 (a b c:Value)(d e:H):R:=@joinR [] (λ _ f=>k (.tuple ⟨[]⟩) f) λ f=>onB c (f () e) (onRow (hget e d.1) λ _ g _ _ _ h=>g175_1 E rc f h a b e g)
def g175_4 (a:(FEnv [])→H→R)(b:V)(c d:Value)(e:H)(f:Nat):R:=ifB (Nat.ble 1 f) (joinL (λ g=>rc 96 [getF b 0,c,.int .i64 (.ofNat 8),g] e λ _ h=>a () h) λ g=>g79_9 E g d e)
def g175_6 (a:(FEnv [])→H→R)(b:V)(c d:Value)(e:H)(f:Nat):R:=ifB (Nat.ble 3 f) (binR (binC E .mul 3 true false) (.int .i64 (.ofNat 8)) c λ g=>joinL (λ h=>rc 42 [.agg ⟨cellsF b 3 0⟩,g,.int .i64 (.ofNat 8),h] e λ _ i=>a () i) λ h=>g79_9 E h d e)
def g175_7 (a:(FEnv [])→H→R)(b c d e:Value)(f g:H):R:=onB e (onRow (hget g f.1) λ _ h _ _ _ i=>g175_4 E rc a i c d g h) (onRow (hget g f.1) λ _ h _ _ _ i=>g175_6 E rc a i b d g h)
def g175_8 (a b c d:Value)(e f:H):R:=@joinR [] (λ _ g=>binR (binC E .neq 3 false true) c (.int .i64 (.ofNat 0)) λ h=>g175_2 E rc k b c h e g) λ g=>g175_7 E rc g a b c d e f
def g175_9 (a:L)(b c d:Value)(e:H):R:=ifB (allF (λ f=>cell1F f) a) (ifB (Nat.ble e.1 1000000000) (letH (hpush e (.row 80 (lenF a) false false 0 (T.ofList unk a))) λ f=>binR (binC E .eql 3 false true) c (.int .i64 (.ofNat 0)) λ g=>g175_8 E rc k b c d g e f))
def g175 (E:Env)(rc:RC)(a0 a1 a2 a3:Value)(h:H)(k:Value→H→R):R:=onCells a0 λ a=>g175_9 E rc k a a1 a2 a3 h
theorem g175_eq (t:ExtT)(rc:RC)(a0 a1 a2 a3:Value)(h:H)(k:Value→H→R):(funB (EX t) KK 175).run rc [a0,a1,a2,a3] h k = g175 (EX t) rc a0 a1 a2 a3 h k:=by kernel_rfl
def g176_0 (a b:V)(c:H)(d:Nat):R:=ifB (Nat.ble 2 d) (binR (binC E .mul 5 true false) (.int .u8 (.ofNat 4)) (getF b 1) λ e=>binR (binC E .add 5 false false) (getF a 0) e λ f=>k f c)
def g176_1 (a b:H):R:=onRow (hget b a.1) λ _ c _ _ _ d=>ifB (Nat.ble 1 c) (onRow (hget b a.1) λ _ e _ _ _ f=>g176_0 E k d f b e)
def g176_2 (a:L)(b:H):R:=ifB (allF (λ c=>cell1F c) a) (ifB (Nat.ble b.1 1000000000) (letH (hpush b (.row 245 (lenF a) false false 0 (T.ofList unk a))) λ c=>g176_1 E k b c))
def g176 (E:Env)(rc:RC)(a0:Value)(h:H)(k:Value→H→R):R:=onCells a0 λ a=>g176_2 E k a h
theorem g176_eq (t:ExtT)(rc:RC)(a0:Value)(h:H)(k:Value→H→R):(funB (EX t) KK 176).run rc [a0] h k = g176 (EX t) rc a0 h k:=by kernel_rfl
def g177_0 (a b:V)(c d:Value)(e:H)(f:Nat):R:=ifB (Nat.ble 2 f) (binR (binC E .add 3 false false) (getF b 1) c λ g=>rc 183 [getF a 0,g,d] e λ h i=>k h i)
def g177_1 (a b:Value)(c d:H):R:=onRow (hget d c.1) λ _ e _ _ _ f=>ifB (Nat.ble 1 e) (onRow (hget d c.1) λ _ g _ _ _ h=>g177_0 E rc k f h a b d g)
def g177_2 (a b c:Value)(d e:H):R:=binR (binC E .neq 41 false true) c (.int .i64 (.ofNat 0)) λ f=>@joinR [6] (λ _ g=>g177_1 E rc k a b d g) λ g=>onB f (g (.int .i64 (.ofNat 0),()) e) (k c e)
def g177_3 (a b:Value)(c d:H):R:=onRow (hget d c.1) λ _ e _ _ _ f=>ifB (Nat.ble 3 e) (bindO (lenV E d 9 b) λ g=>rc 95 [.agg ⟨cellsF f 3 0⟩,a,g] d λ h i=>g177_2 E rc k a b h c i)
def g177_4 (a:L)(b c:Value)(d:H):R:=ifB (allF (λ e=>cell1F e) a) (ifB (Nat.ble d.1 1000000000) (letH (hpush d (.row 78 (lenF a) false false 0 (T.ofList unk a))) λ e=>g177_3 E rc k b c d e))
def g177 (E:Env)(rc:RC)(a0 a1 a2:Value)(h:H)(k:Value→H→R):R:=onCells a0 λ a=>g177_4 E rc k a a1 a2 h
theorem g177_eq (t:ExtT)(rc:RC)(a0 a1 a2:Value)(h:H)(k:Value→H→R):(funB (EX t) KK 177).run rc [a0,a1,a2] h k = g177 (EX t) rc a0 a1 a2 h k:=by kernel_rfl
def g182_0 (a:Value→H→R)(b c:Value)(d:H):R:=onG b (binR (binC E .eql 3 false true) c (.int .i64 (.ofNat 8)) λ e=>a e d) (a undef d) (a undef d)
def g182_1 (a b c:Value)(d:H):R:=onB b (joinV (λ e f=>joinV (λ g h=>onB c (k g h) (k (.bool true) h)) λ g=>g182_0 E g c e f) λ e=>onG c (e a d) (e undef d) (e undef d)) (joinV (λ _ e=>joinV (λ _ f=>k (.bool true) f) λ f=>f undef e) λ e=>e undef d)
def g182_2 (a:Value→H→R)(b c:Value)(d:H):R:=onG b (binR (binC E .eql 3 false true) c (.int .i64 (.ofNat 4)) λ e=>a e d) (a undef d) (a undef d)
def g182_3 (a b c:Value)(d:H):R:=onB b (joinV (λ e f=>joinV (λ g h=>g182_1 E k a c g h) λ g=>g182_2 E g c e f) λ e=>onG c (e a d) (e undef d) (e undef d)) (joinV (λ _ e=>joinV (λ _ f=>joinV (λ _ g=>joinV (λ _ h=>k (.bool true) h) λ h=>h undef g) λ g=>g undef f) λ f=>f undef e) λ e=>e undef d)
def g182_4 (a:Value→H→R)(b c:Value)(d:H):R:=onG b (binR (binC E .eql 3 false true) c (.int .i64 (.ofNat 2)) λ e=>a e d) (a undef d) (a undef d)
def g182 (E:Env)(rc:RC)(a0:Value)(h:H)(k:Value→H→R):R:=binR (binC E .eql 3 false true) a0 (.int .i64 (.ofNat 1)) λ a=>joinV (λ b c=>joinV (λ d e=>g182_3 E k a0 a d e) λ d=>g182_4 E d a b c) λ b=>onG a (b a0 h) (b undef h) (b undef h)
theorem g182_eq (t:ExtT)(rc:RC)(a0:Value)(h:H)(k:Value→H→R):(funB (EX t) KK 182).run rc [a0] h k = g182 (EX t) rc a0 h k:=by kernel_rfl
def g192_1 (a:V)(b:Value)(c:H)(d:Nat):R:=ifB (Nat.ble 4 d) (joinL (λ e=>rc 42 [.agg ⟨cellsF a 3 1⟩,.int .i64 (.ofNat 0),.int .i64 (.ofNat 8),e] c λ _ f=>k (.tuple ⟨[]⟩) f) λ e=>g79_9 E e b c)
def g192_2 (a:L)(b:Value)(c:H):R:=ifB (allF (λ d=>cell1F d) a) (ifB (Nat.ble c.1 1000000000) (letH (hpush c (.row 106 (lenF a) false false 0 (T.ofList unk a))) λ d=>onRow (hget d c.1) λ _ e _ _ _ f=>g192_1 E rc k f b d e))
def g192 (E:Env)(rc:RC)(a0 a1:Value)(h:H)(k:Value→H→R):R:=onCells a0 λ a=>g192_2 E rc k a a1 h
theorem g192_eq (t:ExtT)(rc:RC)(a0 a1:Value)(h:H)(k:Value→H→R):(funB (EX t) KK 192).run rc [a0,a1] h k = g192 (EX t) rc a0 a1 h k:=by kernel_rfl
def g203_0 (a b:H):R:=bindO (loadV E b 108 (Addr.mk a.1 0 none)) λ c=>ifB (nT [c,.int .i64 (.ofNat 0)]) (k (.tuple ⟨[c,.int .i64 (.ofNat 0)]⟩) b)
def g203_1 (a:L)(b:V)(c d:Bool)(e:TypeId)(f g:H)(h i:Nat):R:=ifB (notB d) (ifB (Nat.beq (lenF a) 9) (ifB (Nat.ble i 0) (ifB (Nat.ble 9 h) (ifB (Nat.ble h 1000000000) (ifB (allF (λ j=>cell1F j) a) (letH (hset g f.1 (.row e h c false i (putF b 0 a))) λ j=>g203_0 E k f j))))))
def g203_2 (a b:V)(c:Value)(d e:H)(f:Nat):R:=ifB (Nat.ble 3 f) (bindO (buildV E 108 [(0,.agg ⟨cellsF a 5 0⟩),(1,.agg ⟨cellsF b 3 0⟩),(2,c)]) λ g=>onCells g λ h=>onRow (hget e d.1) λ i j l m n o=>g203_1 E k h o l m i d e j n)
def g203_3 (a:Value)(b c d e:H):R:=onRow (hget e d.1) λ _ f _ _ _ g=>ifB (Nat.ble 5 f) (onRow (hget e b.1) λ _ h _ _ _ i=>g203_2 E k g i a c e h)
def g203_4 (a b:H):R:=bindO (loadV E b 108 (Addr.mk a.1 0 none)) λ c=>ifB (nT [c,.int .i64 (.ofNat 2)]) (k (.tuple ⟨[c,.int .i64 (.ofNat 2)]⟩) b)
def g203_5 (a:V)(b c:Bool)(d:TypeId)(e f:H)(g h:Nat):R:=ifB (notB c) (ifB (Nat.beq (lenF (cellsOfV (.agg (@List.toArray Value [.pointer none,.pointer none,.int .i64 (.ofNat 0),.int .i64 (.ofNat 0),.int .u64 (.ofNat 0),.pointer none,.int .i64 (.ofNat 0),.int .i64 (.ofNat 0),.int .i64 (.ofNat 0)])))) 9) (ifB (Nat.ble h 0) (ifB (Nat.ble 9 g) (ifB (Nat.ble g 1000000000) (ifB (allF (λ i=>cell1F i) (cellsOfV (.agg (@List.toArray Value [.pointer none,.pointer none,.int .i64 (.ofNat 0),.int .i64 (.ofNat 0),.int .u64 (.ofNat 0),.pointer none,.int .i64 (.ofNat 0),.int .i64 (.ofNat 0),.int .i64 (.ofNat 0)])))) (letH (hset f e.1 (.row d g b false h (putF a 0 (cellsOfV (.agg (@List.toArray Value [.pointer none,.pointer none,.int .i64 (.ofNat 0),.int .i64 (.ofNat 0),.int .u64 (.ofNat 0),.pointer none,.int .i64 (.ofNat 0),.int .i64 (.ofNat 0),.int .i64 (.ofNat 0)])))))) λ i=>g203_4 E k e i))))))
def g203_6 (a:(FEnv [9])→H→R)(b:Value)(c d:H):R:=onB b (a (.int .i64 (.ofNat 0),()) d) (onRow (hget d c.1) λ e f g h i j=>g203_5 E k j g h e c d f i)
def g203_9 (a:(FEnv [9])→H→R)(b c:Value)(d e:H):R:=onB b (@joinR [9] (λ f g=>a (f.1,()) g) λ f=>g203_6 E k f c d e) (@joinR [9] (λ f g=>a (f.1,()) g) λ _=>onRow (hget e d.1) λ f g h i j l=>g203_5 E k l h i f d e g j)
def g203_10 (a:Value→H→R)(b c:Value)(d:H):R:=onG b (binR (binC E .gtr 3 false true) c (.int .i64 (.ofNat 4096)) λ e=>a e d) (a undef d) (a undef d)
def g203_11 (a:(FEnv [9])→H→R)(b c:Value)(d e:H):R:=joinV (λ f g=>joinV (λ h i=>g203_9 E k a c h d i) λ h=>g203_10 E h c f g) λ f=>onG c (f b e) (f undef e) (f undef e)
def g203_12 (a:V)(b c:Bool)(d:TypeId)(e:Value)(f g:H)(h i:Nat):R:=ifB (notB c) (ifB (Nat.beq (lenF (cellsOfV (.agg (@List.toArray Value [.pointer none,.pointer none,.int .i64 (.ofNat 0),.int .i64 (.ofNat 0),.int .u64 (.ofNat 0),.pointer none,.int .i64 (.ofNat 0),.int .i64 (.ofNat 0),.int .i64 (.ofNat 0)])))) 9) (ifB (Nat.ble i 0) (ifB (Nat.ble 9 h) (ifB (Nat.ble h 1000000000) (ifB (allF (λ j=>cell1F j) (cellsOfV (.agg (@List.toArray Value [.pointer none,.pointer none,.int .i64 (.ofNat 0),.int .i64 (.ofNat 0),.int .u64 (.ofNat 0),.pointer none,.int .i64 (.ofNat 0),.int .i64 (.ofNat 0),.int .i64 (.ofNat 0)])))) (letH (hset g f.1 (.row d h b false i (putF a 0 (cellsOfV (.agg (@List.toArray Value [.pointer none,.pointer none,.int .i64 (.ofNat 0),.int .i64 (.ofNat 0),.int .u64 (.ofNat 0),.pointer none,.int .i64 (.ofNat 0),.int .i64 (.ofNat 0),.int .i64 (.ofNat 0)])))))) λ j=>bindO (loadV E j 108 (Addr.mk f.1 0 none)) λ l=>ifB (nT [l,e]) (k (.tuple ⟨[l,e]⟩) j)))))))
def g203_13 (a:(FEnv [9])→H→R)(b c d:Value)(e f:H):R:=onB d (binR (binC E .lss 3 false true) b (.int .i64 (.ofNat 32)) λ g=>g203_11 E k a b g e f) (onRow (hget f e.1) λ g h i j l m=>g203_12 E k m i j g c e f h l)
def g203_14 (a b:H):R:=bindO (loadV E b 108 (Addr.mk a.1 0 none)) λ c=>ifB (nT [c,.int .i64 (.ofNat 3)]) (k (.tuple ⟨[c,.int .i64 (.ofNat 3)]⟩) b)
def g203_15 (a:V)(b c:Bool)(d:TypeId)(e f:H)(g h:Nat):R:=ifB (notB c) (ifB (Nat.beq (lenF (cellsOfV (.agg (@List.toArray Value [.pointer none,.pointer none,.int .i64 (.ofNat 0),.int .i64 (.ofNat 0),.int .u64 (.ofNat 0),.pointer none,.int .i64 (.ofNat 0),.int .i64 (.ofNat 0),.int .i64 (.ofNat 0)])))) 9) (ifB (Nat.ble h 0) (ifB (Nat.ble 9 g) (ifB (Nat.ble g 1000000000) (ifB (allF (λ i=>cell1F i) (cellsOfV (.agg (@List.toArray Value [.pointer none,.pointer none,.int .i64 (.ofNat 0),.int .i64 (.ofNat 0),.int .u64 (.ofNat 0),.pointer none,.int .i64 (.ofNat 0),.int .i64 (.ofNat 0),.int .i64 (.ofNat 0)])))) (letH (hset f e.1 (.row d g b false h (putF a 0 (cellsOfV (.agg (@List.toArray Value [.pointer none,.pointer none,.int .i64 (.ofNat 0),.int .i64 (.ofNat 0),.int .u64 (.ofNat 0),.pointer none,.int .i64 (.ofNat 0),.int .i64 (.ofNat 0),.int .i64 (.ofNat 0)])))))) λ i=>g203_14 E k e i))))))
def g203_16 (a:(FEnv [9])→H→R)(b c d:Value)(e f:H):R:=onB d (binR (binC E .neq 41 false true) c (.int .i64 (.ofNat 0)) λ g=>@joinR [9] (λ h i=>a (h.1,()) i) λ h=>g203_13 E k h b c g e f) (onRow (hget f e.1) λ g h i j l m=>g203_15 E k m i j g e f h l)
def g203_17 (a:(FEnv [9])→H→R)(b c d:Value)(e f:H):R:=binR (binC E .lss 3 false true) d (.int .i64 (.ofNat 32)) λ g=>@joinR [9] (λ h i=>a (h.1,()) i) λ h=>g203_16 E k h b c g e f
def g203_19 (a:(FEnv [9])→H→R)(b c d:Value)(e f g:H):R:=onB d (onRow (hget g e.1) λ _ h _ _ _ i=>ifB (Nat.ble 3 h) (rc 180 [.agg ⟨cellsF i 3 0⟩] g λ j l=>g203_17 E k a b c j f l)) (onRow (hget g f.1) λ h i j l m n=>g203_12 E k n j l h c f g i m)
def g203_20 (a:(FEnv [9])→H→R)(b c:Value)(d e f:H):R:=binR (binC E .eql 41 false true) c (.int .i64 (.ofNat 1)) λ g=>@joinR [9] (λ h i=>a (h.1,()) i) λ h=>g203_19 E rc k h b c g d e f
def g203_21 (a:L)(b:V)(c d:Bool)(e:TypeId)(f g:Value)(h i j l:H)(m n:Nat):R:=ifB (notB d) (ifB (Nat.beq (lenF a) 5) (ifB (Nat.ble n 0) (ifB (Nat.ble 5 m) (ifB (Nat.ble m 1000000000) (ifB (allF (λ o=>cell1F o) a) (letH (hset l j.1 (.row e m c false n (putF b 0 a))) λ o=>@joinR [9] (λ _ p=>g203_3 E k f h i j p) λ p=>g203_20 E rc k p f g h i o))))))
def g203_22 (a b c:Value)(d e f:H):R:=ifB (Nat.ble f.1 1000000000) (letH (hpush f (.row 106 5 false false 0 (T.ofList unk [.pointer none,.pointer none,.int .i64 (.ofNat 0),.int .i64 (.ofNat 0),.int .u64 (.ofNat 0)]))) λ g=>onCells b λ h=>onRow (hget g f.1) λ i j l m n o=>g203_21 E rc k h o l m i a c d e f g j n)
def g203_23 (a:V)(b c d:Value)(e f g:H)(h:Nat):R:=ifB (Nat.ble 3 h) (rc 290 [b,.agg ⟨cellsF a 3 0⟩,c] g λ i j=>onTup i λ l=>nthF 0 l λ m=>onTup i λ n=>nthF 1 n λ o=>g203_22 E rc k d m o e f j)
def g203_24 (a b c:Value)(d e:H):R:=ifB (Nat.ble e.1 1000000000) (letH (hpush e (.row 108 9 false false 0 (T.ofList unk [.pointer none,.pointer none,.int .i64 (.ofNat 0),.int .i64 (.ofNat 0),.int .u64 (.ofNat 0),.pointer none,.int .i64 (.ofNat 0),.int .i64 (.ofNat 0),.int .i64 (.ofNat 0)]))) λ f=>onRow (hget f d.1) λ _ g _ _ _ h=>g203_23 E rc k h a b c d e f g)
def g203_25 (a:L)(b c d:Value)(e:H):R:=ifB (allF (λ f=>cell1F f) a) (ifB (Nat.ble e.1 1000000000) (letH (hpush e (.row 78 (lenF a) false false 0 (T.ofList unk a))) λ f=>g203_24 E rc k b c d e f))
def g203 (E:Env)(rc:RC)(a0 a1 a2 a3:Value)(h:H)(k:Value→H→R):R:=onCells a1 λ a=>g203_25 E rc k a a0 a2 a3 h
theorem g203_eq (t:ExtT)(rc:RC)(a0 a1 a2 a3:Value)(h:H)(k:Value→H→R):(funB (EX t) KK 203).run rc [a0,a1,a2,a3] h k = g203 (EX t) rc a0 a1 a2 a3 h k:=by kernel_rfl
def g204_0 (a:L)(b:V)(c d:Bool)(e:TypeId)(f g:H)(h i:Nat):R:=ifB (notB d) (ifB (Nat.beq (lenF a) 9) (ifB (Nat.ble i 0) (ifB (Nat.ble 9 h) (ifB (Nat.ble h 1000000000) (ifB (allF (λ j=>cell1F j) a) (letH (hset g f.1 (.row e h c false i (putF b 0 a))) λ j=>bindO (loadV E j 110 (Addr.mk f.1 0 none)) λ l=>k l j))))))
def g204_1 (a:V)(b c:H)(d:Nat):R:=ifB (Nat.ble 9 d) (bindO (buildV E 110 [(0,.agg ⟨cellsF a 9 0⟩)]) λ e=>onCells e λ f=>onRow (hget c b.1) λ g h i j l m=>g204_0 E k f m i j g b c h l)
def g204_2 (a b:H):R:=ifB (Nat.ble b.1 1000000000) (letH (hpush b (.row 110 9 false false 0 (T.ofList unk [.pointer none,.pointer none,.int .i64 (.ofNat 0),.int .i64 (.ofNat 0),.int .u64 (.ofNat 0),.pointer none,.int .i64 (.ofNat 0),.int .i64 (.ofNat 0),.int .i64 (.ofNat 0)]))) λ c=>onRow (hget c a.1) λ _ d _ _ _ e=>g204_1 E k e b c d)
def g204_3 (a:L)(b:H):R:=ifB (allF (λ c=>cell1F c) a) (ifB (Nat.ble b.1 1000000000) (letH (hpush b (.row 108 (lenF a) false false 0 (T.ofList unk a))) λ c=>g204_2 E k b c))
def g204 (E:Env)(rc:RC)(a0:Value)(h:H)(k:Value→H→R):R:=onCells a0 λ a=>g204_3 E k a h
theorem g204_eq (t:ExtT)(rc:RC)(a0:Value)(h:H)(k:Value→H→R):(funB (EX t) KK 204).run rc [a0] h k = g204 (EX t) rc a0 h k:=by kernel_rfl
def g295_0 (a:V)(b:H)(c:Nat):R:=ifB (Nat.ble 3 c) (rc 180 [.agg ⟨cellsF a 3 0⟩] b λ d e=>binR (binC E .quo 3 false true) d (.int .i64 (.ofNat 16)) λ f=>k f e)
def g295_1 (a:L)(b:H):R:=ifB (allF (λ c=>cell1F c) a) (ifB (Nat.ble b.1 1000000000) (letH (hpush b (.row 272 (lenF a) false false 0 (T.ofList unk a))) λ c=>onRow (hget c b.1) λ _ d _ _ _ e=>g295_0 E rc k e c d))
def g295 (E:Env)(rc:RC)(a0:Value)(h:H)(k:Value→H→R):R:=onCells a0 λ a=>g295_1 E rc k a h
theorem g295_eq (t:ExtT)(rc:RC)(a0:Value)(h:H)(k:Value→H→R):(funB (EX t) KK 295).run rc [a0] h k = g295 (EX t) rc a0 h k:=by kernel_rfl
def g296_4 (a b c:H):R:=rc 286 [.slice (some (Addr.mk b.1 0 none)) 2 4] c λ d e=>onTup d λ f=>nthF 0 f λ g=>onTup d λ h=>nthF 1 h λ _=>g200_3 E k g a e
def g296_5 (a b:H):R:=ifB (Nat.ble b.1 1000000000) (letH (hpush b (.row 3 2 false false 0 (T.ofList unk (lay (lay (List.flatten (List.replicate 2 (cellsOfV (.int .i64 (.ofNat 0))))) 0 (cellsOfV (.int .i64 (.ofNat 8)))) 1 (cellsOfV (.int .i64 (.ofNat 8))))))) λ c=>g296_4 E rc k a b c)
def g296 (E:Env)(rc:RC)(h:H)(k:Value→H→R):R:=ifB (Nat.ble h.1 1000000000) (letH (hpush h (.row 264 1 false false 0 (T.ofList unk [.slice none 0 0]))) λ a=>g296_5 E rc k h a)
theorem g296_eq (t:ExtT)(rc:RC)(h:H)(k:Value→H→R):(funB (EX t) KK 296).run rc [] h k = g296 (EX t) rc  h k:=by kernel_rfl
def g352_0 (a:(FEnv [2])→H→R)(b:Value)(c:H):R:=binR (binC E .lss 3 false true) b (.int .i64 (.ofNat 40)) λ d=>@joinR [2] (λ e f=>a (e.1,()) f) λ e=>onB d (e (.int .i64 (.ofNat 0),()) c) (k (.int .i64 (.ofNat 3)) c)
def g352_1 (a:(FEnv [2])→H→R)(b:Value)(c d:H):R:=onB b (onRow (hget d c.1) λ _ e _ _ _ f=>ifB (Nat.ble 3 e) (rc 180 [.agg ⟨cellsF f 3 0⟩] d λ g h=>g352_0 E k a g h)) (k (.int .i64 (.ofNat 1)) d)
def g352_2 (a:(FEnv [2])→H→R)(b:V)(c d:H)(e:Nat):R:=ifB (Nat.ble 1 e) (binR (binC E .eql 44 false true) (getF b 0) (.pointer none) λ f=>@joinR [2] (λ g h=>a (g.1,()) h) λ g=>g352_1 E rc k g f c d)
def g352_3 (a b:H):R:=@joinR [2] (λ _ c=>k (.int .i64 (.ofNat 0)) c) λ c=>onRow (hget b a.1) λ _ d _ _ _ e=>g352_2 E rc k c e a b d
def g352_4 (a:L)(b:H):R:=ifB (allF (λ c=>cell1F c) a) (ifB (Nat.ble b.1 1000000000) (letH (hpush b (.row 172 (lenF a) false false 0 (T.ofList unk a))) λ c=>g352_3 E rc k b c))
def g352 (E:Env)(rc:RC)(a0:Value)(h:H)(k:Value→H→R):R:=onCells a0 λ a=>g352_4 E rc k a h
theorem g352_eq (t:ExtT)(rc:RC)(a0:Value)(h:H)(k:Value→H→R):(funB (EX t) KK 352).run rc [a0] h k = g352 (EX t) rc a0 h k:=by kernel_rfl
def g286_0 (a b:H):R:=bindO (loadV E b 264 (Addr.mk a.1 0 none)) λ c=>ifB (nT [c,.int .i64 (.ofNat 0)]) (k (.tuple ⟨[c,.int .i64 (.ofNat 0)]⟩) b)
def g286_1 (a:L)(b:V)(c d:Bool)(e:TypeId)(f g:H)(h i:Nat):R:=ifB (notB d) (ifB (Nat.beq (lenF a) 1) (ifB (Nat.ble i 0) (ifB (Nat.ble 1 h) (ifB (Nat.ble h 1000000000) (ifB (allF (λ j=>cell1F j) a) (letH (hset g f.1 (.row e h c false i (putF b 0 a))) λ j=>g286_0 E k f j))))))
def g286_2 (a:Value)(b c:H):R:=bindO (buildV E 264 [(0,a)]) λ d=>onCells d λ e=>onRow (hget c b.1) λ f g h i j l=>g286_1 E k e l h i f b c g j
def g286_3 (a:(FEnv [3])→H→R)(b:FEnv [3,18])(c:H):R:=joinV (λ _ d=>joinV (λ _ e=>@joinR [3] (λ f g=>a (f.1,()) g) λ f=>f (b.1,()) e) λ e=>e undef d) λ d=>d undef c
def g286_4 (a b:H):R:=bindO (loadV E b 264 (Addr.mk a.1 0 none)) λ c=>ifB (nT [c,.int .i64 (.ofNat 2)]) (k (.tuple ⟨[c,.int .i64 (.ofNat 2)]⟩) b)
def g286_5 (a:V)(b c:Bool)(d:TypeId)(e f:H)(g h:Nat):R:=ifB (notB c) (ifB (Nat.beq (lenF (cellsOfV (.agg (@List.toArray Value [.slice none 0 0])))) 1) (ifB (Nat.ble h 0) (ifB (Nat.ble 1 g) (ifB (Nat.ble g 1000000000) (ifB (allF (λ i=>cell1F i) (cellsOfV (.agg (@List.toArray Value [.slice none 0 0])))) (letH (hset f e.1 (.row d g b false h (putF a 0 (cellsOfV (.agg (@List.toArray Value [.slice none 0 0])))))) λ i=>g286_4 E k e i))))))
def g286_6 (a:(FEnv [3])→H→R)(b:FEnv [3,18])(c d:Value)(e f:H):R:=onB c (@joinR [3] (λ g h=>a (g.1,()) h) λ g=>g (b.1,()) f) (@joinR [3] (λ g h=>a (g.1,()) h) λ g=>onB d (g (b.1,()) f) (onRow (hget f e.1) λ h i j l m n=>g286_5 E k n j l h e f i m))
def g286_7 (a:Value→H→R)(b c:Value)(d:H):R:=onG b (a undef d) (binR (binC E .neq 3 false true) c (.int .i64 (.ofNat 8)) λ e=>a e d) (a undef d)
def g286_8 (a:(FEnv [3])→H→R)(b:FEnv [3,18])(c:V)(d:Addr)(e f:Value)(g h:H):R:=onB e (joinV (λ _ i=>joinV (λ _ j=>@joinR [3] (λ l m=>a (l.1,()) m) λ l=>l (b.1,()) j) λ j=>j undef i) λ i=>i undef h) (joinV (λ i j=>joinV (λ l m=>g286_6 E k a b f l g m) λ l=>g286_7 E l f i j) λ i=>onG f (i undef h) (i (getF c d.2) h) (i undef h))
def g286_9 (a:Value→H→R)(b c:Value)(d:H):R:=onG b (a undef d) (binR (binC E .neq 3 false true) c (.int .i64 (.ofNat 4)) λ e=>a e d) (a undef d)
def g286_10 (a:(FEnv [3])→H→R)(b:FEnv [3,18])(c:V)(d:Addr)(e f:Value)(g h:H):R:=onB e (joinV (λ _ i=>joinV (λ _ j=>g286_3 a b j) λ j=>j undef i) λ i=>i undef h) (joinV (λ i j=>joinV (λ l m=>g286_8 E k a b c d f l g m) λ l=>g286_9 E l f i j) λ i=>onG f (i undef h) (i (getF c d.2) h) (i undef h))
def g286_11 (a:Value→H→R)(b c:Value)(d:H):R:=onG b (a undef d) (binR (binC E .neq 3 false true) c (.int .i64 (.ofNat 2)) λ e=>a e d) (a undef d)
def g286_12 (a:(FEnv [3])→H→R)(b:FEnv [3,18])(c:V)(d:Addr)(e:Value)(f g:H):R:=joinV (λ h i=>joinV (λ j l=>g286_10 E k a b c d e j f l) λ j=>g286_11 E j e h i) λ h=>onG e (h undef g) (h (getF c d.2) g) (h undef g)
def g286_13 (a:(FEnv [3])→H→R)(b:FEnv [3,18])(c:V)(d:Addr)(e f:H)(g:Nat):R:=ifB (Nat.ble (Nat.succ d.2) g) (binR (binC E .neq 3 false true) (getF c d.2) (.int .i64 (.ofNat 1)) λ h=>g286_12 E k a b c d h e f)
def g286_14 (a:(FEnv [3])→H→R)(b:FEnv [3,18])(c:Addr)(d e:H)(f g:Nat):R:=ifB (Nat.ble (Nat.succ f) g) (addOffF c (Nat.mul f 1) λ h=>onPtr h λ i=>onRow (hget e i.1) λ _ j _ _ _ l=>g286_13 E k a b l i d e j)
def g286_15 (a:(FEnv [3,18])→H→R)(b:FEnv [3,18])(c:Value)(d e:H):R:=@joinR [3] (λ f g=>binR (binC E .add 3 false true) b.2.1 (.int .i64 (.ofNat 1)) λ h=>a (f.1,(h,())) g) λ f=>onNat b.2.1 none λ g=>onSl c none λ h i _=>g286_14 E k f b h d e g i
def g286_16 (a:(FEnv [3,18])→H→R)(b:(FEnv [3])→H→R)(c:FEnv [3,18])(d e:Value)(f g:H):R:=binR (binC E .lss 3 false false) c.2.1 e λ h=>@joinR [] (λ _ i=>g286_15 E k a c d f i) λ i=>onB h (b (c.1,()) g) (i () g)
def g286_17 (a:FEnv [3])(b c:Value)(d e:H):R:=@joinR [3] (λ _ f=>rc 353 [b] f λ g h=>g286_2 E k g d h) λ f=>@loopF [3,18] (λ g h i=>g286_16 E k g f h b c d i) 1000000 (a.1,(.int .i64 (.ofNat 0),())) e
def g286_18 (a b:H):R:=bindO (loadV E b 264 (Addr.mk a.1 0 none)) λ c=>ifB (nT [c,.int .i64 (.ofNat 15)]) (k (.tuple ⟨[c,.int .i64 (.ofNat 15)]⟩) b)
def g286_19 (a:V)(b c:Bool)(d:TypeId)(e f:H)(g h:Nat):R:=ifB (notB c) (ifB (Nat.beq (lenF (cellsOfV (.agg (@List.toArray Value [.slice none 0 0])))) 1) (ifB (Nat.ble h 0) (ifB (Nat.ble 1 g) (ifB (Nat.ble g 1000000000) (ifB (allF (λ i=>cell1F i) (cellsOfV (.agg (@List.toArray Value [.slice none 0 0])))) (letH (hset f e.1 (.row d g b false h (putF a 0 (cellsOfV (.agg (@List.toArray Value [.slice none 0 0])))))) λ i=>g286_18 E k e i))))))
def g286_20 (a:(FEnv [3])→H→R)(b:Value)(c d:H):R:=@joinR [3] (λ e f=>a (e.1,()) f) λ e=>onB b (e (.int .i64 (.ofNat 0),()) d) (onRow (hget d c.1) λ f g h i j l=>g286_19 E k l h i f c d g j)
def g286_21 (a b:H):R:=bindO (loadV E b 264 (Addr.mk a.1 0 none)) λ c=>ifB (nT [c,.int .i64 (.ofNat 17)]) (k (.tuple ⟨[c,.int .i64 (.ofNat 17)]⟩) b)
def g286_22 (a:V)(b c:Bool)(d:TypeId)(e f:H)(g h:Nat):R:=ifB (notB c) (ifB (Nat.beq (lenF (cellsOfV (.agg (@List.toArray Value [.slice none 0 0])))) 1) (ifB (Nat.ble h 0) (ifB (Nat.ble 1 g) (ifB (Nat.ble g 1000000000) (ifB (allF (λ i=>cell1F i) (cellsOfV (.agg (@List.toArray Value [.slice none 0 0])))) (letH (hset f e.1 (.row d g b false h (putF a 0 (cellsOfV (.agg (@List.toArray Value [.slice none 0 0])))))) λ i=>g286_21 E k e i))))))
def g286_23 (a:(FEnv [3])→H→R)(b c:Value)(d e:H):R:=onB c (joinL (λ f=>binR (binC E .gtr 3 false true) f (.int .i64 (.ofNat 32)) λ g=>g286_20 E k a g d e) λ f=>onSl b (bindO (lenV E e 50 b) f) λ _ g _=>f (.int .i64 (.ofNat g))) (onRow (hget e d.1) λ f g h i j l=>g286_22 E k l h i f d e g j)
def g286_24 (a:(FEnv [3])→H→R)(b c:Value)(d e:H):R:=binR (binC E .eql 3 false true) c (.int .i64 (.ofNat 0)) λ f=>@joinR [3] (λ g h=>a (g.1,()) h) λ g=>g286_23 E k g b f d e
def g286_25 (a:Value)(b c:H):R:=@joinR [3] (λ d e=>joinL (λ f=>g286_17 E rc k d a f b e) λ f=>onSl a (bindO (lenV E e 50 a) f) λ _ g _=>f (.int .i64 (.ofNat g))) λ d=>joinL (λ e=>g286_24 E k d a e b c) λ e=>onSl a (bindO (lenV E c 50 a) e) λ _ f _=>e (.int .i64 (.ofNat f))
def g286 (E:Env)(rc:RC)(a0:Value)(h:H)(k:Value→H→R):R:=ifB (Nat.ble h.1 1000000000) (letH (hpush h (.row 264 1 false false 0 (T.ofList unk [.slice none 0 0]))) λ a=>g286_25 E rc k a0 h a)
theorem g286_eq (t:ExtT)(rc:RC)(a0:Value)(h:H)(k:Value→H→R):(funB (EX t) KK 286).run rc [a0] h k = g286 (EX t) rc a0 h k:=by kernel_rfl
end
end Go.Ev
