/-
  Functions of a program as plain Lean, for any table of functions that are answered for; printed by a program.
-/
import Derived.Test.YtlahhbdihpbbgaaGreatDoorKa
set_option linter.unusedVariables false
set_option linter.unusedSimpArgs false
namespace Go.Ev
open Go F Go.Proofs
set_option maxRecDepth 100000
set_option linter.unusedVariables false
noncomputable section
variable (E : Env) (rc : RC) (k : Value → H → R)
def akt (a:V)(b:Addr)(c d:Value)(e:H)(f:Nat):R:=ifB (Nat.ble (Nat.add (Nat.add b.2 4) 3) f) (rc 105 [.agg ⟨ac a 3 (Nat.add b.2 4)⟩,.int .i64 (.ofNat 64),.int .i64 (.ofNat 8),d] e λ _ g=>ifB (nT [c,.int .i64 (.ofNat 0)]) (k (.tuple ⟨[c,.int .i64 (.ofNat 0)]⟩) g))
def apy (a:aa [2,3])(b c d:Value)(e:H):R:=@joinR [2,3] (λ _ f=>bindO (aT b) λ g=>onPtr g λ h=>onRow (hget f h.1) λ _ i _ _ _ j=>akt rc k j h b c f i) λ f=>onB d (f (a.1,(a.2.1,())) e) (k (.tuple ⟨[.pointer none,.int .i64 (.ofNat 4)]⟩) e)
def aot (a:aa [2,3])(b:L)(c d:Value)(e:H):R:=nthF 1 b λ f=>binR (binC E .neq 24 false true) f (.int .i64 (.ofNat 0)) λ g=>apy rc k a c d g e
def aoR (a:aa [2,3])(b:Value)(c:H):R:=rc 106 [b,.string (ByteArray.mk #[]),.int .i64 (.negSucc 0)] c λ d e=>onTup d λ f=>nthF 0 f λ g=>onTup d λ h=>aot E rc k a h b g e
def aq6 (a:aa [2,3])(b:V)(c:Addr)(d:Value)(e:H)(f:Nat):R:=ifB (Nat.ble (Nat.add (Nat.add c.2 4) 3) f) (rc 105 [.agg ⟨ac b 3 (Nat.add c.2 4)⟩,.int .i64 (.ofNat 80),.int .i64 (.ofNat 8),.int .u64 (.ofNat 1414743378)] e λ _ g=>aoR E rc k a d g)
def akv (a:aa [2,3])(b:L)(c:Value)(d:H):R:=nthF 1 b λ _=>bindO (aT c) λ e=>onPtr e λ f=>onRow (hget d f.1) λ _ g _ _ _ h=>aq6 E rc k a h f c d g
def anb (a:aa [2,3])(b c:Value)(d:H):R:=rc 103 [b,c,.func (.func 104) #[] #[]] d λ e f=>onTup e λ g=>nthF 0 g λ h=>onTup e λ i=>akv E rc k a i h f
def amZ (a:aa [2,3])(b:V)(c:Addr)(d e:Value)(f:H)(g:Nat):R:=ifB (Nat.ble (Nat.succ c.2) g) (rc 102 [getF b c.2,e,.int .i64 (.ofNat 8192),.int .u8 (.ofNat 0)] f λ _ h=>anb E rc k a d e h)
def aqs (a:aa [2,3])(b c:Value)(d:H):R:=bindO (aT b) λ e=>onPtr e λ _=>onPtr e λ f=>onRow (hget d f.1) λ _ g _ _ _ h=>amZ E rc k a h f b c d g
def aoy (a:aa [2,3])(b c d:Value)(e:H):R:=@joinR [2,3] (λ f g=>aqs E rc k f b c g) λ f=>onB d (f (a.1,(a.2.1,())) e) (k (.tuple ⟨[.pointer none,.int .i64 (.ofNat 4)]⟩) e)
def Yt (a:aa [2,3])(b:L)(c d:Value)(e:H):R:=nthF 1 b λ f=>binR (binC E .neq 24 false true) f (.int .i64 (.ofNat 0)) λ g=>aoy E rc k a c d g e
def afv (a:(aa [2,3])→H→R)(b c:Value)(d:H):R:=onB c (a (.pointer none,(.int .i64 (.ofNat 0),())) d) (ifB (nT [.pointer none,b]) (k (.tuple ⟨[.pointer none,b]⟩) d))
def XN (a b c:Value)(d:H):R:=@joinR [2,3] (λ e f=>rc 101 [a,.int .i64 (.ofNat 1)] f λ g h=>onTup g λ i=>nthF 0 i λ j=>onTup g λ l=>Yt E rc k e l a j h) λ e=>afv k e b c d
def ajj (a:L)(b:Value)(c:H):R:=nthF 1 a λ d=>binR (binC E .neq 24 false true) d (.int .i64 (.ofNat 0)) λ e=>XN E rc k b d e c
def g20 (E:Env)(rc:RC)(a0:Value)(h:H)(k:Value→H→R):R:=rc 100 [a0] h λ a b=>onTup a λ c=>nthF 0 c λ d=>onTup a λ e=>ajj E rc k e d b
theorem Z3 (t:ak)(rc:RC)(a0:Value)(h:H)(k:Value→H→R):(ax (EX t) KK 75).run rc [a0] h k = g20 (EX t) rc a0 h k:=by kernel_rfl
def an4 (a:L)(b:V)(c d:Bool)(e:TypeId)(f:Value)(g h:H)(i j:Nat):R:=ifB (notB d) (ifB (Nat.beq (lenF a) 12) (ifB (Nat.ble j 0) (ifB (Nat.ble 12 i) (ifB (Nat.ble i 1000000000) (ifB (allF (λ l=>cell1F l) a) (letH (hset h g.1 (.row e i c false j (putF b 0 a))) λ l=>bindO (aU E l 148 (Addr.mk g.1 0 none)) λ m=>ifB (nT [m,f]) (k (.tuple ⟨[m,f]⟩) l)))))))
def aqR (a b:Value)(c d:H):R:=onTup a λ e=>nthF 1 e λ f=>onCells b λ g=>onRow (hget d c.1) λ h i j l m n=>an4 E k g n j l h f c d i m
def aku (a:Addr)(b:Value)(c d:H):R:=onRow (hget d a.1) λ _ e _ _ _ f=>ifB (Nat.ble (Nat.succ a.2) e) (rc 126 [getF f a.2,b] d λ g h=>onTup g λ i=>nthF 0 i λ j=>aqR E k g j c h)
def qY (a:V)(b c:Bool)(d:TypeId)(e:Value)(f g:H)(h i:Nat):R:=ifB (notB c) (ifB (Nat.beq (lenF (cellsOfV (.agg (@List.toArray Value [.pointer none,.pointer none,.int .i64 (.ofNat 0),.int .i64 (.ofNat 0),.int .u64 (.ofNat 0),.pointer none,.int .i64 (.ofNat 0),.int .i64 (.ofNat 0),.int .i64 (.ofNat 0),.pointer none,.int .i64 (.ofNat 0),.int .i64 (.ofNat 0)])))) 12) (ifB (Nat.ble i 0) (ifB (Nat.ble 12 h) (ifB (Nat.ble h 1000000000) (ifB (allF (λ j=>cell1F j) (cellsOfV (.agg (@List.toArray Value [.pointer none,.pointer none,.int .i64 (.ofNat 0),.int .i64 (.ofNat 0),.int .u64 (.ofNat 0),.pointer none,.int .i64 (.ofNat 0),.int .i64 (.ofNat 0),.int .i64 (.ofNat 0),.pointer none,.int .i64 (.ofNat 0),.int .i64 (.ofNat 0)])))) (letH (hset g f.1 (.row d h b false i (putF a 0 (cellsOfV (.agg (@List.toArray Value [.pointer none,.pointer none,.int .i64 (.ofNat 0),.int .i64 (.ofNat 0),.int .u64 (.ofNat 0),.pointer none,.int .i64 (.ofNat 0),.int .i64 (.ofNat 0),.int .i64 (.ofNat 0),.pointer none,.int .i64 (.ofNat 0),.int .i64 (.ofNat 0)])))))) λ j=>bindO (aU E j 148 (Addr.mk f.1 0 none)) λ l=>ifB (nT [l,e]) (k (.tuple ⟨[l,e]⟩) j)))))))
def aqv (a:aa [5])(b c d e:Value)(f g:H):R:=@joinR [5] (λ _ h=>bindO (aT b) λ i=>onPtr i λ _=>onPtr i λ _=>onPtr i λ _=>onPtr i λ j=>aku E rc k j c f h) λ h=>onB e (h (a.1,()) g) (onRow (hget g f.1) λ i j l m n o=>qY E k o l m i d f g j n)
def ao9 (a:aa [5])(b:L)(c d:Value)(e f:H):R:=nthF 1 b λ g=>binR (binC E .neq 24 false true) g (.int .i64 (.ofNat 0)) λ h=>aqv E rc k a c d g h e f
def aoq (a:aa [5])(b:V)(c:Addr)(d e:Value)(f g:H)(h:Nat):R:=ifB (Nat.ble (Nat.add (Nat.add c.2 1) 3) h) (rc 184 [.agg ⟨ac b 3 (Nat.add c.2 1)⟩,e] g λ i j=>onTup i λ l=>nthF 0 l λ m=>onTup i λ n=>ao9 E rc k a n d m f j)
def aqY (a b:H):R:=bindO (aU E b 148 (Addr.mk a.1 0 none)) λ c=>ifB (nT [c,.int .i64 (.ofNat 1)]) (k (.tuple ⟨[c,.int .i64 (.ofNat 1)]⟩) b)
def zq (a:V)(b c:Bool)(d:TypeId)(e f:H)(g h:Nat):R:=ifB (notB c) (ifB (Nat.beq (lenF (cellsOfV (.agg (@List.toArray Value [.pointer none,.pointer none,.int .i64 (.ofNat 0),.int .i64 (.ofNat 0),.int .u64 (.ofNat 0),.pointer none,.int .i64 (.ofNat 0),.int .i64 (.ofNat 0),.int .i64 (.ofNat 0),.pointer none,.int .i64 (.ofNat 0),.int .i64 (.ofNat 0)])))) 12) (ifB (Nat.ble h 0) (ifB (Nat.ble 12 g) (ifB (Nat.ble g 1000000000) (ifB (allF (λ i=>cell1F i) (cellsOfV (.agg (@List.toArray Value [.pointer none,.pointer none,.int .i64 (.ofNat 0),.int .i64 (.ofNat 0),.int .u64 (.ofNat 0),.pointer none,.int .i64 (.ofNat 0),.int .i64 (.ofNat 0),.int .i64 (.ofNat 0),.pointer none,.int .i64 (.ofNat 0),.int .i64 (.ofNat 0)])))) (letH (hset f e.1 (.row d g b false h (putF a 0 (cellsOfV (.agg (@List.toArray Value [.pointer none,.pointer none,.int .i64 (.ofNat 0),.int .i64 (.ofNat 0),.int .u64 (.ofNat 0),.pointer none,.int .i64 (.ofNat 0),.int .i64 (.ofNat 0),.int .i64 (.ofNat 0),.pointer none,.int .i64 (.ofNat 0),.int .i64 (.ofNat 0)])))))) λ i=>aqY E k e i))))))
def aqb (a b c:Value)(d e:H):R:=@joinR [5] (λ f g=>bindO (aT a) λ h=>onPtr h λ i=>onRow (hget g i.1) λ _ j _ _ _ l=>aoq E rc k f l i a b d g j) λ f=>onB c (f (.int .i64 (.ofNat 0),()) e) (onRow (hget e d.1) λ g h i j l m=>zq E k m i j g d e h l)
def g46 (E:Env)(rc:RC)(a0 a1:Value)(h:H)(k:Value→H→R):R:=ifB (Nat.ble h.1 1000000000) (letH (ag h (.row 148 12 false false 0 (T.ofList unk [.pointer none,.pointer none,.int .i64 (.ofNat 0),.int .i64 (.ofNat 0),.int .u64 (.ofNat 0),.pointer none,.int .i64 (.ofNat 0),.int .i64 (.ofNat 0),.int .i64 (.ofNat 0),.pointer none,.int .i64 (.ofNat 0),.int .i64 (.ofNat 0)]))) λ a=>binR (binC E .eql 120 false true) a0 (.pointer none) λ b=>aqb E rc k a0 a1 b h a)
theorem acq (t:ak)(rc:RC)(a0 a1:Value)(h:H)(k:Value→H→R):(ax (EX t) KK 112).run rc [a0,a1] h k = g46 (EX t) rc a0 a1 h k:=by kernel_rfl
def aqy (a:Value)(b:H):R:=binR (binC E .sub 3 false true) a (.int .i64 (.ofNat 32)) λ c=>bindO (bn E b Builtin.max [.int .i64 (.ofNat 0),c] [3,3]) λ d=>k d b
def apD (a b:H):R:=onRow (hget b a.1) λ _ c _ _ _ d=>ifB (Nat.ble 12 c) (rc 130 [.agg ⟨ac d 3 9⟩] b λ e f=>aqy E k e f)
def ana (a:L)(b:H):R:=ifB (allF (λ c=>cell1F c) a) (ifB (Nat.ble b.1 1000000000) (letH (ag b (.row 148 (lenF a) false false 0 (T.ofList unk a))) λ c=>apD E rc k b c))
def g48 (E:Env)(rc:RC)(a0:Value)(h:H)(k:Value→H→R):R:=onCells a0 λ a=>ana E rc k a h
theorem Xd (t:ak)(rc:RC)(a0:Value)(h:H)(k:Value→H→R):(ax (EX t) KK 87).run rc [a0] h k = g48 (EX t) rc a0 h k:=by kernel_rfl
def We (a:V)(b:Value)(c:H):R:=rc 180 [.agg ⟨ac a 3 9⟩,b,.int .i64 (.ofNat 8)] c λ d e=>onTup d λ f=>nthF 0 f λ g=>onTup d λ h=>nthF 1 h λ _=>k g e
def zg (a:V)(b:Value)(c:H)(d:Nat):R:=ifB (Nat.ble 12 d) (binR (binC E .mul 3 true false) (.int .i64 (.ofNat 8)) b λ e=>We rc k a e c)
def aeX (a b c:Value)(d e:H):R:=onB b (@joinR [4] (λ _ f=>onRow (hget f d.1) λ _ g _ _ _ h=>zg E rc k h a f g) λ f=>onB c (f (.int .u64 (.ofNat 0),()) e) (k (.int .u64 (.ofNat 0)) e)) (@joinR [4] (λ _ f=>onRow (hget f d.1) λ _ g _ _ _ h=>zg E rc k h a f g) λ _=>k (.int .u64 (.ofNat 0)) e)
def U7 (a:Value→H→R)(b c:Value)(d:H):R:=aB b (binR (binC E .geq 3 false true) c (.int .i64 (.ofNat 13)) λ e=>a e d) (a undef d) (a undef d)
def abg (a:Value)(b c:H):R:=binR (binC E .lss 3 false true) a (.int .i64 (.ofNat 0)) λ d=>ae (λ e f=>ae (λ g h=>aeX E rc k a d g b h) λ g=>U7 E g d e f) λ e=>aB d (e a c) (e undef c) (e undef c)
def VG (a:L)(b:Value)(c:H):R:=ifB (allF (λ d=>cell1F d) a) (ifB (Nat.ble c.1 1000000000) (letH (ag c (.row 148 (lenF a) false false 0 (T.ofList unk a))) λ d=>abg E rc k b c d))
def aab (E:Env)(rc:RC)(a0 a1:Value)(h:H)(k:Value→H→R):R:=onCells a0 λ a=>VG E rc k a a1 h
theorem Ff (t:ak)(rc:RC)(a0 a1:Value)(h:H)(k:Value→H→R):(ax (EX t) KK 114).run rc [a0,a1] h k = aab (EX t) rc a0 a1 h k:=by kernel_rfl
def Ww (a:(aa [3,4])→H→R)(b:aa [3,4])(c d e:H):R:=cT (bu E e Builtin.append [b.1,.slice (some (Addr.mk d.1 0 none)) 1 2] [268,268]) λ f g=>onRow (hget g c.1) λ _ h _ _ _ i=>ifB (Nat.ble 4 h) (a (f,(getF i 3,())) g)
def Zr (a:(aa [3,4])→H→R)(b:aa [3,4])(c:V)(d e:H)(f:Nat):R:=ifB (Nat.ble 4 f) (@Option.rec (List Value) (λ _=>R) none (λ g=>ifB (Nat.ble e.1 1000000000) (letH (ag e (.row 199 4 false false 0 (T.ofList unk g))) λ h=>Ww E a b d e h)) (cG (λ g=>some (Nat.mul g 4,4)) (List.flatten (List.replicate 1 (cellsOfV (.agg (@List.toArray Value [.int .i64 (.ofNat 0),.int .i64 (.ofNat 0),.int .u64 (.ofNat 0),.int .i64 (.ofNat 0)]))))) [(0,.agg ⟨ac c 4 0⟩)]))
def TP (a:(aa [3,4])→H→R)(b:aa [3,4])(c:L)(d:V)(e f:Bool)(g:TypeId)(h i:H)(j l:Nat):R:=ifB (notB f) (ifB (Nat.beq (lenF c) 4) (ifB (Nat.ble l 0) (ifB (Nat.ble 4 j) (ifB (Nat.ble j 1000000000) (ifB (allF (λ m=>cell1F m) c) (letH (hset i h.1 (.row g j e false l (putF d 0 c))) λ m=>onRow (hget m h.1) λ _ n _ _ _ o=>Zr E a b o h m n))))))
def QZ (a:(aa [3,4])→H→R)(b:aa [3,4])(c:Value)(d:H):R:=ifB (Nat.ble d.1 1000000000) (letH (ag d (.row 199 4 false false 0 (T.ofList unk [.int .i64 (.ofNat 0),.int .i64 (.ofNat 0),.int .u64 (.ofNat 0),.int .i64 (.ofNat 0)]))) λ e=>onCells c λ f=>onRow (hget e d.1) λ g h i j l m=>TP E a b f m i j g d e h l)
def Tq (a:(aa [3,4])→H→R)(b:aa [3,4])(c:V)(d:Addr)(e:H)(f:Nat):R:=ifB (Nat.ble (Nat.succ d.2) f) (rc 200 [getF c d.2,b.2.1] e λ g h=>onTup g λ i=>nthF 0 i λ j=>onTup g λ l=>nthF 1 l λ _=>QZ E a b j h)
def ZD (a:(aa [3,4])→H→R)(b:aa [3,4])(c:V)(d:Addr)(e:H)(f:Nat):R:=ifB (Nat.ble (Nat.succ d.2) f) (bindO (aT (getF c d.2)) λ g=>onPtr g λ _=>onPtr g λ h=>onRow (hget e h.1) λ _ i _ _ _ j=>Tq E rc a b j h e i)
def aiX (a:(aa [3,4])→H→R)(b:aa [3,4])(c:V)(d:H)(e:Nat):R:=ifB (Nat.ble 1 e) (bindO (aT (getF c 0)) λ f=>onPtr f λ _=>onPtr f λ g=>onRow (hget d g.1) λ _ h _ _ _ i=>ZD E rc a b i g d h)
def WA (a:(aa [3,4])→H→R)(b:aa [3,4])(c d:H):R:=@joinR [3,4] (λ e f=>a (e.1,(e.2.1,())) f) λ e=>onRow (hget d c.1) λ _ f _ _ _ g=>aiX E rc e b g d f
def Ym (a:(aa [3,4])→H→R)(b:(aa [3])→H→R)(c:aa [3,4])(d e:H):R:=binR (binC E .neq 3 false true) c.2.1 (.int .i64 (.ofNat 0)) λ f=>@joinR [] (λ _ g=>WA E rc a c d g) λ g=>onB f (b (c.1,()) e) (g () e)
def ac0 (a:V)(b c:H)(d:Nat):R:=ifB (Nat.ble 5 d) (rc 272 [.agg ⟨ac a 5 0⟩] c λ e f=>@joinR [3] (λ g h=>k g.1 h) λ g=>@loopF [3,4] (λ h i j=>Ym E rc h g i b j) 1000000 (.slice none 0 0,(e,())) f)
def MD (a:L)(b:H):R:=ifB (allF (λ c=>cell1F c) a) (ifB (Nat.ble b.1 1000000000) (letH (ag b (.row 142 (lenF a) false false 0 (T.ofList unk a))) λ c=>onRow (hget c b.1) λ _ d _ _ _ e=>ac0 E rc k e b c d))
def XW (E:Env)(rc:RC)(a0:Value)(h:H)(k:Value→H→R):R:=onCells a0 λ a=>MD E rc k a h
theorem KB (t:ak)(rc:RC)(a0:Value)(h:H)(k:Value→H→R):(ax (EX t) KK 208).run rc [a0] h k = XW (EX t) rc a0 h k:=by kernel_rfl
def TQ (a b:V)(c d:Addr)(e f g:Value)(h:H)(i:Nat):R:=ifB (Nat.ble (Nat.add d.2 1) i) (ifB (aj (.agg ⟨ac b 1 d.2⟩) (.agg ⟨ac a 1 c.2⟩)) (rc 116 [.agg ⟨ac a 1 c.2⟩,f,g] h λ _ j=>ifB (nT [e,.int .i64 (.ofNat 0)]) (k (.tuple ⟨[e,.int .i64 (.ofNat 0)]⟩) j)))
def T5 (a:V)(b:Addr)(c d e f:Value)(g:H):R:=ifB (aj d d) (onPtr d λ h=>onRow (hget g h.1) λ _ i _ _ _ j=>TQ rc k a j b h c e f g i)
def af4 (a b c:V)(d:Addr)(e f g h:Value)(i:H)(j:Nat):R:=ifB (Nat.ble 12 j) (ifB (aj (.agg ⟨ac c 12 0⟩) (.agg ⟨ac b 12 0⟩)) (rc 87 [.agg ⟨ac b 12 0⟩] i λ l m=>ifB (aj e e) (bindO (aT e) λ n=>ifB (aj n g) (onPtr g λ _=>T5 rc k a d f g h l m))))
def ajJ (a b c:V)(d e:Addr)(f g h i:Value)(j l:H)(m:Nat):R:=ifB (Nat.ble (Nat.add e.2 1) m) (ifB (aj (.agg ⟨ac c 1 e.2⟩) (.agg ⟨ac a 1 d.2⟩)) (onRow (hget l j.1) λ _ n _ _ _ o=>af4 rc k a b o d f g h i l n))
def Zf (a b:V)(c:Addr)(d e f g:Value)(h i:H):R:=ifB (aj f f) (onPtr f λ j=>onRow (hget i j.1) λ _ l _ _ _ m=>ajJ rc k a b m c j d e f g h i l)
def adZ (a b c:V)(d:Addr)(e f g:Value)(h i:H)(j:Nat):R:=ifB (Nat.ble 12 j) (rc 87 [.agg ⟨ac b 12 0⟩] i λ l m=>ifB (aj e e) (bindO (aT e) λ n=>ifB (aj n g) (onPtr g λ _=>Zf rc k a c d e f g l h m)))
def Vf (a:V)(b:Addr)(c d e:Value)(f g h:H)(i:Nat):R:=ifB (Nat.ble (Nat.add b.2 1) i) (onRow (hget h f.1) λ _ j _ _ _ l=>ifB (Nat.ble 12 j) (onRow (hget h g.1) λ _ m _ _ _ n=>adZ rc k a l n b c d e g h m))
def adz (a b:Value)(c d e:H):R:=bindO (aT a) λ f=>onPtr f λ _=>onPtr f λ g=>onRow (hget e g.1) λ _ h _ _ _ i=>Vf rc k i g a b f c d e h
def ajw (a:L)(b:V)(c d:Bool)(e:TypeId)(f g:Value)(h i j:H)(l m:Nat):R:=ifB (notB d) (ifB (Nat.beq (lenF a) 12) (ifB (Nat.ble m 0) (ifB (Nat.ble 12 l) (ifB (Nat.ble l 1000000000) (ifB (allF (λ n=>cell1F n) a) (letH (hset j i.1 (.row e l c false m (putF b 0 a))) λ n=>ifB (Nat.ble n.1 1000000000) (letH (H.mk n.1 n.2) λ o=>adz rc k f g h i o)))))))
def So (a b c:Value)(d e:H):R:=ifB (Nat.ble e.1 1000000000) (letH (ag e (.row 148 12 false false 0 (T.ofList unk [.pointer none,.pointer none,.int .i64 (.ofNat 0),.int .i64 (.ofNat 0),.int .u64 (.ofNat 0),.pointer none,.int .i64 (.ofNat 0),.int .i64 (.ofNat 0),.int .i64 (.ofNat 0),.pointer none,.int .i64 (.ofNat 0),.int .i64 (.ofNat 0)]))) λ f=>onCells c λ g=>onRow (hget f e.1) λ h i j l m n=>ajw rc k g n j l h a b d e f i m)
def DN (a:(aa [10,11])→H→R)(b:aa [10,11,4])(c d:Value)(e:H):R:=onB d (a (b.1,(b.2.1,())) e) (ifB (nT [.int .u64 (.ofNat 0),c]) (k (.tuple ⟨[.int .u64 (.ofNat 0),c]⟩) e))
def EC (a:aa [10,11,4])(b c d e:Value)(f g:H):R:=@joinR [10,11] (λ _ h=>rc 112 [b,c] h λ i j=>onTup i λ l=>nthF 0 l λ m=>onTup i λ n=>nthF 1 n λ _=>So rc k b c m f j) λ h=>DN k h a d e g
def JM (a:aa [10,11,4])(b c d:Value)(e f:H):R:=binR (binC E .neq 24 false true) d (.int .i64 (.ofNat 0)) λ g=>EC rc k a b c d g e f
def Iv (a:aa [10,11,4])(b c:Value)(d e:H):R:=rc 106 [b,c,a.2.2.1] e λ f g=>onTup f λ h=>nthF 0 h λ i=>onTup f λ j=>nthF 1 j λ l=>JM E rc k a b i l d g
def vw (a:(aa [10,11,4])→H→R)(b c:Value)(d:H):R:=@joinR [4] (λ e f=>a (.int .u64 (.ofNat 0),(.int .i64 (.ofNat 0),(e.1,()))) f) λ e=>onB c (e (b,()) d) (e (.int .i64 (.negSucc 0),()) d)
def Hw (a:(aa [10,11,4])→H→R)(b c d:Value)(e:H):R:=onB d (binR (binC E .eql 92 false true) b (.int .u64 (.ofNat 1)) λ f=>vw a c f e) (k (.tuple ⟨[.int .u64 (.ofNat 0),.int .i64 (.ofNat 5)]⟩) e)
def Jm (a:(aa [10,11,4])→H→R)(b c d e:Value)(f:H):R:=onB d (@joinR [10,11,4] (λ g h=>a (g.1,(g.2.1,(g.2.2.1,()))) h) λ g=>binR (binC E .eql 92 false true) b (.int .u64 (.ofNat 1)) λ h=>vw g c h f) (@joinR [10,11,4] (λ g h=>a (g.1,(g.2.1,(g.2.2.1,()))) h) λ g=>Hw E k g b c e f)
def Ip (a:(aa [10,11,4])→H→R)(b c d e f g h:Value)(i:H):R:=ifB (aj h f) (ae (λ j l=>joinL (λ m=>Jm E k a b c d m l) λ m=>aB d (m undef) (onB j (m (.bool true)) (m (.bool false))) (m undef)) λ j=>aB d (j undef i) (rc 115 [e,g,f] i j) (j undef i))
def v7 (a:Value→R)(b c:Value)(d:H):R:=aB b (a undef) (onPtr c λ e=>onRow (hget d e.1) λ _ f _ _ _ g=>ifB (Nat.ble (Nat.add e.2 1) f) (a (.agg ⟨ac g 1 e.2⟩))) (a undef)
def LM (a:(aa [10,11,4])→H→R)(b c d e f g h i:Value)(j:H):R:=ifB (aj i e) (joinL (λ l=>ifB (aj l f) (joinL (λ m=>Ip E rc k a b c d f g h m j) λ m=>aB d (m undef) (m c) (m undef))) λ l=>v7 l d e j)
def Hj (a:(aa [10,11,4])→H→R)(b c d e f g h i j l:Value)(m:H):R:=ifB (aj l e) (joinL (λ n=>ifB (aj n f) (joinL (λ o=>LM E rc k a b c d g h i j o m) λ o=>aB d (o undef) (onPtr f λ _=>o f) (o undef))) λ n=>aB d (n undef) (bindO (aT e) n) (n undef))
def Kr (a:(aa [10,11,4])→H→R)(b c d e f g h i j l:Value)(m:H):R:=ae (λ n o=>joinL (λ p=>Hj E rc k a c d e f g h i l n p o) λ p=>aB e (p undef) (p b) (p undef)) λ n=>aB e (n undef m) (rc 87 [j] m n) (n undef m)
def Fp (a:Value→R)(b:Value)(c d:H):R:=aB b (a undef) (onRow (hget d c.1) λ _ e _ _ _ f=>ifB (Nat.ble 12 e) (a (.agg ⟨ac f 12 0⟩))) (a undef)
def FW (a:(aa [10,11,4])→H→R)(b c d e f g h:Value)(i j:H):R:=joinL (λ l=>joinL (λ m=>joinL (λ n=>Kr E rc k a b c d e f g h l m n j) λ n=>aB e (n undef) (n d) (n undef)) λ m=>Fp m e i j) λ l=>v7 l e h j
def Nr (a:(aa [10,11,4])→H→R)(b c d e f:Value)(g h:H):R:=joinL (λ i=>joinL (λ j=>FW E rc k a b c d e f i j g h) λ j=>aB e (j undef) (onPtr i λ _=>j i) (j undef)) λ i=>aB e (i undef) (bindO (aT f) i) (i undef)
def ON (a:(aa [10,11,4])→H→R)(b c d:Value)(e f:H):R:=binR (binC E .gtr 3 false true) d (.int .i64 (.ofNat 0)) λ g=>joinL (λ h=>Nr E rc k a b c d g h e f) λ h=>aB g (h undef) (h b) (h undef)
def Mv (a:(aa [10,11,4])→H→R)(b c d e:Value)(f g:H):R:=onB e (ifB (Nat.ble g.1 1000000000) (letH (H.mk g.1 g.2) λ h=>ON E rc k a b c d f h)) (k (.tuple ⟨[.int .u64 (.ofNat 0),.int .i64 (.ofNat 13)]⟩) g)
def MY (a:(aa [10,11,4])→H→R)(b c d e:Value)(f g:H):R:=binR (binC E .neq 92 false true) e (.int .u64 (.ofNat 0)) λ h=>@joinR [10,11,4] (λ i j=>a (i.1,(i.2.1,(i.2.2.1,()))) j) λ i=>Mv E rc k i b c d h f g
def MG (a:(aa [10,11,4])→H→R)(b c d e:Value)(f g:H):R:=onB e (onRow (hget g f.1) λ _ h _ _ _ i=>ifB (Nat.ble 12 h) (rc 114 [.agg ⟨ac i 12 0⟩,.int .i64 (.ofNat 10)] g λ j l=>MY E rc k a b c d j f l)) (k (.tuple ⟨[.int .u64 (.ofNat 0),.int .i64 (.ofNat 16)]⟩) g)
def G2 (a:(aa [10,11,4])→H→R)(b c d e:Value)(f g:H):R:=binR (binC E .gtr 3 false true) e (.int .i64 (.ofNat 16)) λ h=>@joinR [10,11,4] (λ i j=>a (i.1,(i.2.1,(i.2.2.1,()))) j) λ i=>MG E rc k i b c d h f g
def HT (a:(aa [10,11,4])→H→R)(b c d e f:Value)(g h:H):R:=onB f (@joinR [10,11,4] (λ i j=>a (i.1,(i.2.1,(i.2.2.1,()))) j) λ _=>k (.tuple ⟨[.int .u64 (.ofNat 0),.int .i64 (.ofNat 2)]⟩) h) (@joinR [10,11,4] (λ i j=>a (i.1,(i.2.1,(i.2.2.1,()))) j) λ i=>bindO (bv E h 9 d) λ j=>G2 E rc k i b c e j g h)
def Fo (a:(aa [10,11,4])→H→R)(b c d e f g:Value)(h i:H):R:=onB g (rc 113 [c,e] i λ j l=>HT E rc k a b c d e j h l) (ifB (nT [.int .u64 (.ofNat 0),f]) (k (.tuple ⟨[.int .u64 (.ofNat 0),f]⟩) i))
def N2 (a:(aa [10,11,4])→H→R)(b c d e f:Value)(g h:H):R:=binR (binC E .neq 24 false true) f (.int .i64 (.ofNat 0)) λ i=>@joinR [10,11,4] (λ j l=>a (j.1,(j.2.1,(j.2.2.1,()))) l) λ j=>Fo E rc k j b c d e f i g h
def JO (a:L)(b:V)(c d:Bool)(e:TypeId)(f g h i j:Value)(l m:H)(n o:Nat):R:=ifB (notB d) (ifB (Nat.beq (lenF a) 12) (ifB (Nat.ble o 0) (ifB (Nat.ble 12 n) (ifB (Nat.ble n 1000000000) (ifB (allF (λ p=>cell1F p) a) (letH (hset m l.1 (.row e n c false o (putF b 0 a))) λ p=>@joinR [10,11,4] (λ q r=>Iv E rc k q f h l r) λ q=>N2 E rc k q f g h i j l p))))))
def Hi (a b c d e f:Value)(g:H):R:=ifB (Nat.ble g.1 1000000000) (letH (ag g (.row 148 12 false false 0 (T.ofList unk [.pointer none,.pointer none,.int .i64 (.ofNat 0),.int .i64 (.ofNat 0),.int .u64 (.ofNat 0),.pointer none,.int .i64 (.ofNat 0),.int .i64 (.ofNat 0),.int .i64 (.ofNat 0),.pointer none,.int .i64 (.ofNat 0),.int .i64 (.ofNat 0)]))) λ h=>onCells e λ i=>onRow (hget h g.1) λ j l m n o p=>JO E rc k i p m n j a b c d f g h l o)
def ahc (E:Env)(rc:RC)(a0 a1 a2 a3 a4:Value)(h:H)(k:Value→H→R):R:=rc 112 [a0,a1] h λ a b=>onTup a λ c=>nthF 0 c λ d=>onTup a λ e=>nthF 1 e λ f=>Hi E rc k a0 a2 a3 a4 d f b
theorem Jy (t:ak)(rc:RC)(a0 a1 a2 a3 a4:Value)(h:H)(k:Value→H→R):(ax (EX t) KK 79).run rc [a0,a1,a2,a3,a4] h k = ahc (EX t) rc a0 a1 a2 a3 a4 h k:=by kernel_rfl
def ann (a:aa [4,5,6,7])(b:Value)(c:H):R:=rc 156 [b,a.2.2.1] c λ d e=>ifB (nT [d,.int .i64 (.ofNat 0)]) (k (.tuple ⟨[d,.int .i64 (.ofNat 0)]⟩) e)
def aoI (a:aa [4,5,6,7])(b:V)(c:Addr)(d e:Value)(f:H)(g:Nat):R:=ifB (Nat.ble (Nat.add (Nat.add c.2 9) 3) g) (rc 157 [.agg ⟨ac b 3 (Nat.add c.2 9)⟩,a.2.2.1,e,.int .u8 (.ofNat 3)] f λ _ h=>ann rc k a d h)
def amP (a:(aa [7])→H→R)(b c:V)(d:Addr)(e f:Value)(g:H)(h:Nat):R:=ifB (Nat.ble (Nat.add (Nat.add d.2 6) 3) h) (ifB (aj (.agg ⟨ac c 3 (Nat.add d.2 6)⟩) (.agg ⟨ac b 3 (Nat.add d.2 6)⟩)) (ifB (aj e e) (rc 158 [.agg ⟨ac b 3 (Nat.add d.2 6)⟩,e,f] g λ _ i=>a (e,()) i)))
def aoX (a:(aa [7])→H→R)(b:V)(c d:Addr)(e f:Value)(g:H):R:=ifB (aj (.pointer (some (Addr.mk d.1 (Nat.add d.2 6) none))) (.pointer (some (Addr.mk c.1 (Nat.add c.2 6) none)))) (onRow (hget g c.1) λ _ h _ _ _ i=>amP rc a b i c e f g h)
def akF (a:(aa [7])→H→R)(b:V)(c:Addr)(d e f g:Value)(h:H):R:=rc 156 [d,g] h λ i j=>ifB (aj d d) (bindO (aT d) λ l=>ifB (aj l f) (onPtr f λ m=>aoX rc a b c m e i j))
def anz (a:(aa [7])→H→R)(b:aa [4,5,6,7])(c:V)(d:Addr)(e f g:Value)(h:H)(i:Nat):R:=ifB (Nat.ble (Nat.add (Nat.add d.2 6) 3) i) (binR (binC E .shl 3 true false) (.int .i64 (.ofNat 1)) f λ j=>binR (binC E .add 3 false false) b.2.2.1 j λ l=>akF rc a c d e f g l h)
def amV (a:(aa [7])→H→R)(b:aa [4,5,6,7])(c d:Value)(e:H):R:=bindO (aT c) λ f=>onPtr f λ g=>onRow (hget e g.1) λ _ h _ _ _ i=>anz E rc a b i g c d f e h
def akJ (a:(aa [7])→H→R)(b:aa [4,5,6,7])(c:V)(d:Addr)(e f g:Value)(h:H):R:=rc 157 [.agg ⟨ac c 3 (Nat.add d.2 9)⟩,g,f,.int .u8 (.ofNat 2)] h λ _ i=>ifB (Nat.ble i.1 1000000000) (letH (H.mk i.1 i.2) λ j=>amV E rc a b e f j)
def aqw (a:(aa [7])→H→R)(b:aa [4,5,6,7])(c:V)(d:Addr)(e f:Value)(g:H)(h:Nat):R:=ifB (Nat.ble (Nat.add (Nat.add d.2 9) 3) h) (binR (binC E .shl 3 true false) (.int .i64 (.ofNat 1)) f λ i=>binR (binC E .add 3 false false) b.2.2.1 i λ j=>akJ E rc a b c d e f j g)
def alU (a:(aa [7])→H→R)(b:aa [4,5,6,7])(c d:Value)(e:H):R:=bindO (aT c) λ f=>onPtr f λ g=>onRow (hget e g.1) λ _ h _ _ _ i=>aqw E rc a b i g c d e h
def adE (a:(aa [7])→H→R)(b:aa [4,5,6,7])(c:aa [7])(d:Value)(e:H):R:=binR (binC E .sub 3 false true) c.1 (.int .i64 (.ofNat 1)) λ f=>ifB (Nat.ble e.1 1000000000) (letH (H.mk e.1 e.2) λ g=>alU E rc a b d f g)
def adt (a:(aa [7])→H→R)(b:(aa [])→H→R)(c:aa [4,5,6,7])(d:aa [7])(e f:Value)(g:H):R:=binR (binC E .gtr 3 false false) d.1 f λ h=>@joinR [] (λ _ i=>@joinR [7] (λ j l=>a (j.1,()) l) λ j=>adE E rc j c d e i) λ i=>onB h (b () g) (i () g)
def abK (a:aa [4,5,6,7])(b c:Value)(d:H):R:=@joinR [] (λ _ e=>bindO (aT b) λ f=>onPtr f λ g=>onRow (hget e g.1) λ _ h _ _ _ i=>aoI rc k a i g b c e h) λ e=>@loopF [7] (λ f g h=>adt E rc f e a g b c h) 1000000 (a.2.2.2.1,()) d
def ahL (a:aa [4,5,6,7])(b c:V)(d:Addr)(e f g:Value)(h:H)(i:Nat):R:=ifB (Nat.ble (Nat.add (Nat.add d.2 6) 3) i) (ifB (aj (.agg ⟨ac c 3 (Nat.add d.2 6)⟩) (.agg ⟨ac b 3 (Nat.add d.2 6)⟩)) (ifB (aj a.2.2.2.1 a.2.2.2.1) (rc 155 [.agg ⟨ac b 3 (Nat.add d.2 6)⟩,a.2.2.2.1,g] h λ _ j=>abK E rc k a e f j)))
def ah2 (a:aa [4,5,6,7])(b:V)(c d:Addr)(e f g:Value)(h:H):R:=ifB (aj (.pointer (some (Addr.mk d.1 (Nat.add d.2 6) none))) (.pointer (some (Addr.mk c.1 (Nat.add c.2 6) none)))) (onRow (hget h c.1) λ _ i _ _ _ j=>ahL E rc k a b j c e f g h i)
def W8 (a:aa [4,5,6,7])(b:V)(c:Addr)(d e f:Value)(g:H)(h:Nat):R:=ifB (Nat.ble (Nat.add (Nat.add c.2 6) 3) h) (rc 156 [d,a.2.2.1] g λ i j=>ifB (aj d d) (bindO (aT d) λ l=>ifB (aj l f) (onPtr f λ m=>ah2 E rc k a b c m d e i j)))
def Bb (a:aa [4,5,6,7])(b c:Value)(d:H):R:=bindO (aT b) λ e=>onPtr e λ f=>onRow (hget d f.1) λ _ g _ _ _ h=>W8 E rc k a h f b c e d g
def ZW (a:(aa [4,5,6,7])→H→R)(b:aa [4,5])(c:Value)(d:H):R:=onTup c λ e=>nthF 0 e λ f=>onTup c λ g=>nthF 1 g λ h=>onTup c λ i=>nthF 2 i λ _=>a (b.1,(b.2.1,(f,(h,())))) d
def Tk (a:(aa [4,5])→H→R)(b:aa [4,5])(c d:Value)(e:H):R:=onB d (a (b.1,(b.2.1,())) e) (ifB (nT [.int .i64 (.ofNat 0),c]) (k (.tuple ⟨[.int .i64 (.ofNat 0),c]⟩) e))
def UQ (a:(aa [4,5,6,7])→H→R)(b:aa [4,5])(c d e:Value)(f:H):R:=binR (binC E .neq 24 false true) e (.int .i64 (.ofNat 0)) λ g=>@joinR [4,5] (λ h i=>rc 153 [c,d] i λ j l=>ZW a h j l) λ h=>Tk k h b e g f
def WN (a:aa [4,5])(b c d e f:Value)(g:H):R:=onB f (@joinR [4,5,6,7] (λ h i=>ifB (Nat.ble i.1 1000000000) (letH (H.mk i.1 i.2) λ j=>Bb E rc k h b c j)) λ h=>rc 154 [b,c] g λ i j=>UQ E rc k h a b c i j) (@joinR [4,5,6,7] (λ h i=>ifB (Nat.ble i.1 1000000000) (letH (H.mk i.1 i.2) λ j=>Bb E rc k h b c j)) λ h=>h (a.1,(a.2.1,(d,(e,())))) g)
def aeC (a:aa [4,5])(b c:Value)(d:H):R:=rc 153 [b,c] d λ e f=>onTup e λ g=>nthF 0 g λ h=>onTup e λ i=>nthF 1 i λ j=>onTup e λ l=>nthF 2 l λ m=>WN E rc k a b c h j m f
def ZS (a:(aa [4,5])→H→R)(b:Value)(c:H):R:=onB b (a (.int .i64 (.ofNat 0),(.int .i64 (.ofNat 0),())) c) (k (.tuple ⟨[.int .i64 (.ofNat 0),.int .i64 (.ofNat 2)]⟩) c)
def aiq (a:(aa [4,5])→H→R)(b c:Value)(d:H):R:=onB b (@joinR [4,5] (λ e f=>a (e.1,(e.2.1,())) f) λ e=>ZS k e c d) (@joinR [4,5] (λ e f=>a (e.1,(e.2.1,())) f) λ _=>k (.tuple ⟨[.int .i64 (.ofNat 0),.int .i64 (.ofNat 2)]⟩) d)
def mS (a:Value→H→R)(b c:Value)(d:H):R:=aB b (binR (binC E .gtr 3 false true) c (.int .i64 (.ofNat 10)) λ e=>a e d) (a undef d) (a undef d)
def ac8 (a:(aa [4,5])→H→R)(b c:Value)(d:H):R:=onB c (binR (binC E .lss 3 false true) b (.int .i64 (.ofNat 0)) λ e=>ae (λ f g=>ae (λ h i=>aiq k a e h i) λ h=>mS E h e f g) λ f=>aB e (f b d) (f undef d) (f undef d)) (k (.tuple ⟨[.int .i64 (.ofNat 0),.int .i64 (.ofNat 1)]⟩) d)
def adO (a:(aa [4,5])→H→R)(b c:Value)(d:H):R:=binR (binC E .eql 170 false true) b (.pointer none) λ e=>@joinR [4,5] (λ f g=>a (f.1,(f.2.1,())) g) λ f=>ac8 E k f c e d
def g38 (E:Env)(rc:RC)(a0 a1:Value)(h:H)(k:Value→H→R):R:=@joinR [4,5] (λ a b=>aeC E rc k a a0 a1 b) λ a=>adO E k a a0 a1 h
theorem ahf (t:ak)(rc:RC)(a0 a1:Value)(h:H)(k:Value→H→R):(ax (EX t) KK 101).run rc [a0,a1] h k = g38 (EX t) rc a0 a1 h k:=by kernel_rfl
def anA (a b c:Value)(d e:H):R:=ifB (fx (allF (λ f=>eG f) []) (allF (λ f=>eG f) [.pointer (some (Addr.mk d.1 0 none))])) (rc 160 [a,b,c,.func (.func 161) ⟨[]⟩ ⟨[.pointer (some (Addr.mk d.1 0 none))]⟩] e λ _ f=>k (.int .i64 (.ofNat 0)) f)
def aln (a b c d:Value)(e f:H):R:=binR (binC E .neq 24 false true) d (.int .i64 (.ofNat 0)) λ g=>@joinR [8] (λ _ h=>anA rc k a b c e h) λ h=>onB g (h (.int .i64 (.ofNat 0),()) f) (k d f)
def al6 (a:L)(b c d:Value)(e:H):R:=ifB (allF (λ f=>cell1F f) a) (ifB (Nat.ble e.1 1000000000) (letH (ag e (.row 5 (lenF a) false false 0 (T.ofList unk a))) λ f=>rc 159 [b,c,d] f λ g h=>aln E rc k b c d g e h))
def g39 (E:Env)(rc:RC)(a0 a1 a2 a3:Value)(h:H)(k:Value→H→R):R:=onCells a3 λ a=>al6 E rc k a a0 a1 a2 h
theorem acQ (t:ak)(rc:RC)(a0 a1 a2 a3:Value)(h:H)(k:Value→H→R):(ax (EX t) KK 102).run rc [a0,a1,a2,a3] h k = g39 (EX t) rc a0 a1 a2 a3 h k:=by kernel_rfl
def akU (a b:V)(c d e:Value)(f:H)(g:Nat):R:=ifB (Nat.ble 2 g) (binR (binC E .add 3 false false) (getF b 1) c λ h=>rc 171 [getF a 0,h,d,e] f λ i j=>k i j)
def am5 (a b c:Value)(d e:H):R:=onRow (hget e d.1) λ _ f _ _ _ g=>ifB (Nat.ble 1 f) (onRow (hget e d.1) λ _ h _ _ _ i=>akU E rc k g i a b c e h)
def aqJ (a:aa [8])(b c d e:Value)(f g:H):R:=binR (binC E .neq 24 false true) e (.int .i64 (.ofNat 0)) λ h=>@joinR [8] (λ _ i=>am5 E rc k b c d f i) λ i=>onB h (i (a.1,()) g) (k e g)
def aqd (a:aa [8])(b c d:Value)(e f:H):R:=onRow (hget f e.1) λ _ g _ _ _ h=>ifB (Nat.ble 3 g) (rc 170 [.agg ⟨ac h 3 0⟩,b,c] f λ i j=>aqJ E rc k a b c d i e j)
def aqp (a b c d:Value)(e f:H):R:=binR (binC E .neq 24 false true) d (.int .i64 (.ofNat 0)) λ g=>@joinR [8] (λ h i=>aqd E rc k h a b c e i) λ h=>onB g (h (.int .i64 (.ofNat 0),()) f) (k d f)
def ak5 (a b c:Value)(d e:H):R:=onRow (hget e d.1) λ _ f _ _ _ g=>ifB (Nat.ble 3 f) (rc 169 [.agg ⟨ac g 3 0⟩,b] e λ h i=>aqp E rc k a b c h d i)
def anL (a:L)(b c d:Value)(e:H):R:=ifB (allF (λ f=>cell1F f) a) (ifB (Nat.ble e.1 1000000000) (letH (ag e (.row 131 (lenF a) false false 0 (T.ofList unk a))) λ f=>ak5 E rc k b c d e f))
def g42 (E:Env)(rc:RC)(a0 a1 a2 a3:Value)(h:H)(k:Value→H→R):R:=onCells a0 λ a=>anL E rc k a a1 a2 a3 h
theorem adp (t:ak)(rc:RC)(a0 a1 a2 a3:Value)(h:H)(k:Value→H→R):(ax (EX t) KK 105).run rc [a0,a1,a2,a3] h k = g42 (EX t) rc a0 a1 a2 a3 h k:=by kernel_rfl
def zB (a:L)(b:Value)(c:H):R:=nthF 0 a λ d=>onTup b λ e=>nthF 1 e λ f=>ifB (nT [d,f]) (k (.tuple ⟨[d,f]⟩) c)
def alG (a b:V)(c:Addr)(d:Value)(e:H)(f:Nat):R:=ifB (Nat.ble (Nat.add (Nat.add c.2 1) 3) f) (ifB (aj (.agg ⟨ac b 3 (Nat.add c.2 1)⟩) (.agg ⟨ac a 3 (Nat.add c.2 1)⟩)) (rc 177 [.agg ⟨ac a 3 (Nat.add c.2 1)⟩,d] e λ g h=>onTup g λ i=>zB k i g h))
def ano (a:V)(b c:Addr)(d:Value)(e:H):R:=ifB (aj (.pointer (some (Addr.mk c.1 (Nat.add c.2 1) none))) (.pointer (some (Addr.mk b.1 (Nat.add b.2 1) none)))) (onRow (hget e b.1) λ _ f _ _ _ g=>alG rc k a g b d e f)
def apd (a b:V)(c:Addr)(d e:Value)(f:H)(g:Nat):R:=ifB (Nat.ble 12 g) (rc 87 [.agg ⟨ac b 12 0⟩] f λ h i=>ifB (aj d d) (bindO (aT d) λ j=>ifB (aj j e) (onPtr e λ l=>ano rc k a c l h i)))
def anP (a:Addr)(b c:Value)(d e:H):R:=onRow (hget e a.1) λ _ f _ _ _ g=>ifB (Nat.ble (Nat.add (Nat.add a.2 1) 3) f) (onRow (hget e d.1) λ _ h _ _ _ i=>apd rc k g i a b c e h)
def aoz (a:(aa [6,7])→H→R)(b:aa [6,7])(c d:V)(e f:Addr)(g h:Value)(i:H)(j:Nat):R:=ifB (Nat.ble (Nat.add f.2 1) j) (ifB (aj (.agg ⟨ac d 1 f.2⟩) (.agg ⟨ac c 1 e.2⟩)) (ifB (aj g g) (rc 86 [.agg ⟨ac c 1 e.2⟩,h,g] i λ _ l=>a (b.1,(b.2.1,())) l)))
def ap4 (a:(aa [6,7])→H→R)(b:aa [6,7])(c:V)(d:Addr)(e f g:Value)(h:H):R:=ifB (aj f f) (onPtr f λ i=>onRow (hget h i.1) λ _ j _ _ _ l=>aoz rc a b c l d i e g h j)
def amt (a:(aa [6,7])→H→R)(b:aa [6,7])(c d:V)(e:Addr)(f g h:Value)(i:H)(j:Nat):R:=ifB (Nat.ble 12 j) (rc 87 [.agg ⟨ac d 12 0⟩] i λ l m=>ifB (aj f f) (bindO (aT f) λ n=>ifB (aj n h) (onPtr h λ _=>ap4 rc a b c e g h l m)))
def amq (a:(aa [6,7])→H→R)(b:aa [6,7])(c:Addr)(d e f:Value)(g h:H):R:=onRow (hget h c.1) λ _ i _ _ _ j=>ifB (Nat.ble (Nat.add c.2 1) i) (onRow (hget h g.1) λ _ l _ _ _ m=>amt rc a b j m c d e f h l)
def aor (a:(aa [6,7])→H→R)(b:aa [6,7])(c d:Value)(e f:H):R:=ifB (Nat.ble f.1 1000000000) (letH (H.mk f.1 f.2) λ g=>bindO (aT c) λ h=>onPtr h λ _=>onPtr h λ i=>amq rc a b i c d h e g)
def Tv (a:(aa [6,7])→H→R)(b:aa [6,7])(c:V)(d e:Value)(f g:H)(h:Nat):R:=ifB (Nat.ble 12 h) (rc 128 [.agg ⟨ac c 12 0⟩,.int .i64 (.ofNat 9),.int .u64 (.ofNat 2)] g λ _ i=>aor rc a b d e f i)
def agw (a:V)(b:Value)(c:H)(d:Nat):R:=ifB (Nat.ble 5 d) (rc 176 [.agg ⟨ac a 5 0⟩] c λ _ e=>ifB (nT [.int .u64 (.ofNat 0),b]) (k (.tuple ⟨[.int .u64 (.ofNat 0),b]⟩) e))
def P4 (a:(aa [6,7])→H→R)(b:aa [6,7])(c d e f:Value)(g h:H):R:=@joinR [6,7] (λ i j=>onRow (hget j g.1) λ _ l _ _ _ m=>Tv rc a i m c d g j l) λ i=>onB f (i (b.1,(b.2.1,())) h) (onRow (hget h g.1) λ _ j _ _ _ l=>agw rc k l e h j)
def TI (a:(aa [6,7])→H→R)(b:aa [6,7])(c d e:Value)(f g:H):R:=binR (binC E .neq 24 false true) e (.int .i64 (.ofNat 0)) λ h=>P4 rc k a b c d e h f g
def aek (a:(aa [6,7])→H→R)(b:aa [6,7])(c d e:Value)(f g:H):R:=onB e (a (b.1,(b.2.1,())) g) (onRow (hget g f.1) λ _ h _ _ _ i=>ifB (Nat.ble 12 h) (rc 174 [.agg ⟨ac i 12 0⟩] g λ j l=>rc 175 [j,d] l λ m n=>TI E rc k a b c d m f n))
def agV (a:aa [6,7])(b c d:Value)(e f:H):R:=@joinR [6,7] (λ _ g=>ifB (Nat.ble g.1 1000000000) (letH (H.mk g.1 g.2) λ h=>bindO (aT b) λ i=>onPtr i λ j=>anP rc k j b i e h)) λ g=>aek E rc k g a b c d e f
def Sr (a:aa [6,7])(b:V)(c d:Value)(e f:H)(g:Nat):R:=ifB (Nat.ble 12 g) (rc 128 [.agg ⟨ac b 12 0⟩,.int .i64 (.ofNat 9),.int .u64 (.ofNat 1)] f λ _ h=>binR (binC E .geq 3 false true) d (.int .i64 (.ofNat 0)) λ i=>agV E rc k a c d i e h)
def Wj (a:(aa [6,7])→H→R)(b:aa [6,7])(c d:Value)(e:H):R:=onB d (a (b.1,(b.2.1,())) e) (ifB (nT [.int .u64 (.ofNat 0),c]) (k (.tuple ⟨[.int .u64 (.ofNat 0),c]⟩) e))
def aai (a:aa [6,7])(b c d e:Value)(f g:H):R:=@joinR [6,7] (λ h i=>onRow (hget i f.1) λ _ j _ _ _ l=>Sr E rc k h l b c f i j) λ h=>Wj k h a d e g
def Q4 (a:aa [6,7])(b:L)(c:V)(d e:Bool)(f:TypeId)(g h i:Value)(j l:H)(m n:Nat):R:=ifB (notB e) (ifB (Nat.beq (lenF b) 12) (ifB (Nat.ble n 0) (ifB (Nat.ble 12 m) (ifB (Nat.ble m 1000000000) (ifB (allF (λ o=>cell1F o) b) (letH (hset l j.1 (.row f m d false n (putF c 0 b))) λ o=>binR (binC E .neq 24 false true) i (.int .i64 (.ofNat 0)) λ p=>aai E rc k a g h i p j o))))))
def afi (a:aa [6,7])(b c d e:Value)(f:H):R:=ifB (Nat.ble f.1 1000000000) (letH (ag f (.row 148 12 false false 0 (T.ofList unk [.pointer none,.pointer none,.int .i64 (.ofNat 0),.int .i64 (.ofNat 0),.int .u64 (.ofNat 0),.pointer none,.int .i64 (.ofNat 0),.int .i64 (.ofNat 0),.int .i64 (.ofNat 0),.pointer none,.int .i64 (.ofNat 0),.int .i64 (.ofNat 0)]))) λ g=>onCells d λ h=>onRow (hget g f.1) λ i j l m n o=>Q4 E rc k a h o l m i b c e f g j n)
def ad4 (a:aa [6,7])(b:V)(c:Addr)(d e f g:Value)(h:H)(i:Nat):R:=ifB (Nat.ble (Nat.succ c.2) i) (rc 173 [getF b c.2,.int .i64 (.ofNat 0),g,e] h λ j l=>onTup j λ m=>nthF 0 m λ n=>onTup j λ o=>nthF 1 o λ p=>afi E rc k a d f n p l)
def af6 (a:aa [6,7])(b c d e f:Value)(g:H):R:=onPtr f λ _=>onPtr f λ _=>onPtr f λ h=>onRow (hget g h.1) λ _ i _ _ _ j=>ad4 E rc k a j h b c d e g i
def aiP (a:(aa [6,7])→H→R)(b c:Value)(d:H):R:=onB c (a (.int .u64 (.ofNat 0),(.int .i64 (.ofNat 0),())) d) (ifB (nT [.int .u64 (.ofNat 0),b]) (k (.tuple ⟨[.int .u64 (.ofNat 0),b]⟩) d))
def ZM (a b c d e:Value)(f:H):R:=binR (binC E .neq 24 false true) e (.int .i64 (.ofNat 0)) λ g=>@joinR [6,7] (λ h i=>bindO (aT a) λ j=>onPtr j λ _=>af6 E rc k h a b c d j i) λ h=>aiP k h e g f
def abB (a:V)(b:Addr)(c d e:Value)(f:H)(g:Nat):R:=ifB (Nat.ble (Nat.add (Nat.add b.2 1) 3) g) (rc 172 [.agg ⟨ac a 3 (Nat.add b.2 1)⟩] f λ h i=>onTup h λ j=>nthF 0 j λ l=>onTup h λ m=>nthF 1 m λ n=>ZM E rc k c d e l n i)
def g43 (E:Env)(rc:RC)(a0 a1 a2:Value)(h:H)(k:Value→H→R):R:=bindO (aT a0) λ a=>onPtr a λ b=>onRow (hget h b.1) λ _ c _ _ _ d=>abB E rc k d b a0 a1 a2 h c
theorem Uo (t:ak)(rc:RC)(a0 a1 a2:Value)(h:H)(k:Value→H→R):(ax (EX t) KK 106).run rc [a0,a1,a2] h k = g43 (EX t) rc a0 a1 a2 h k:=by kernel_rfl
def adB (a:Value)(b:H):R:=onTup a λ c=>nthF 1 c λ d=>onTup a λ e=>nthF 2 e λ f=>ifB (nT [d,f]) (k (.tuple ⟨[d,f]⟩) b)
def TV (a:Value)(b c:H):R:=onRow (hget c b.1) λ _ d _ _ _ e=>ifB (Nat.ble 3 d) (rc 265 [.agg ⟨ac e 3 0⟩,a] c λ f g=>onTup f λ h=>nthF 0 h λ _=>adB k f g)
def T7 (a:L)(b:Value)(c:H):R:=ifB (allF (λ d=>cell1F d) a) (ifB (Nat.ble c.1 1000000000) (letH (ag c (.row 133 (lenF a) false false 0 (T.ofList unk a))) λ d=>TV rc k b c d))
def XU (E:Env)(rc:RC)(a0 a1:Value)(h:H)(k:Value→H→R):R:=onCells a0 λ a=>T7 rc k a a1 h
theorem NM (t:ak)(rc:RC)(a0 a1:Value)(h:H)(k:Value→H→R):(ax (EX t) KK 184).run rc [a0,a1] h k = XU (EX t) rc a0 a1 h k:=by kernel_rfl
def Pz (a b:H):R:=bindO (aU E b 148 (Addr.mk a.1 0 none)) λ c=>ifB (nT [c,.int .i64 (.ofNat 0)]) (k (.tuple ⟨[c,.int .i64 (.ofNat 0)]⟩) b)
def aqU (a b:V)(c d:Bool)(e:TypeId)(f g:H)(h i:Nat):R:=ifB (notB d) (ifB (Nat.beq (lenF (ac a 12 0)) 12) (ifB (Nat.ble i 0) (ifB (Nat.ble 12 h) (ifB (Nat.ble h 1000000000) (ifB (allF (λ j=>cell1F j) (ac a 12 0)) (letH (hset g f.1 (.row e h c false i (putF b 0 (ac a 12 0)))) λ j=>Pz E k f j))))))
def uO (a b c:H):R:=onRow (hget c b.1) λ _ d _ _ _ e=>ifB (Nat.ble 12 d) (onRow (hget c a.1) λ f g h i j l=>aqU E k e l h i f a c g j)
def aqI (a b:H):R:=bindO (aU E b 148 (Addr.mk a.1 0 none)) λ c=>ifB (nT [c,.int .i64 (.ofNat 7)]) (k (.tuple ⟨[c,.int .i64 (.ofNat 7)]⟩) b)
def wR (a:V)(b c:Bool)(d:TypeId)(e f:H)(g h:Nat):R:=ifB (notB c) (ifB (Nat.beq (lenF (cellsOfV (.agg (@List.toArray Value [.pointer none,.pointer none,.int .i64 (.ofNat 0),.int .i64 (.ofNat 0),.int .u64 (.ofNat 0),.pointer none,.int .i64 (.ofNat 0),.int .i64 (.ofNat 0),.int .i64 (.ofNat 0),.pointer none,.int .i64 (.ofNat 0),.int .i64 (.ofNat 0)])))) 12) (ifB (Nat.ble h 0) (ifB (Nat.ble 12 g) (ifB (Nat.ble g 1000000000) (ifB (allF (λ i=>cell1F i) (cellsOfV (.agg (@List.toArray Value [.pointer none,.pointer none,.int .i64 (.ofNat 0),.int .i64 (.ofNat 0),.int .u64 (.ofNat 0),.pointer none,.int .i64 (.ofNat 0),.int .i64 (.ofNat 0),.int .i64 (.ofNat 0),.pointer none,.int .i64 (.ofNat 0),.int .i64 (.ofNat 0)])))) (letH (hset f e.1 (.row d g b false h (putF a 0 (cellsOfV (.agg (@List.toArray Value [.pointer none,.pointer none,.int .i64 (.ofNat 0),.int .i64 (.ofNat 0),.int .u64 (.ofNat 0),.pointer none,.int .i64 (.ofNat 0),.int .i64 (.ofNat 0),.int .i64 (.ofNat 0),.pointer none,.int .i64 (.ofNat 0),.int .i64 (.ofNat 0)])))))) λ i=>aqI E k e i))))))
def aiR (a:aa [5])(b c:Value)(d e f:H):R:=onB b (@joinR [5] (λ _ g=>uO E k d e g) λ g=>onB c (g (a.1,()) f) (onRow (hget f d.1) λ h i j l m n=>wR E k n j l h d f i m)) (@joinR [5] (λ _ g=>uO E k d e g) λ _=>onRow (hget f d.1) λ g h i j l m=>wR E k m i j g d f h l)
def Xm (a:aa [5])(b c d e:Value)(f g h:H):R:=ifB (aj e c) (joinL (λ i=>aiR E k a b i f g h) λ i=>aB b (binR (binC E .neq 92 false false) d c i) (i undef) (i undef))
def uo (a:Value→R)(b c:Value)(d:H):R:=aB b (onPtr c λ e=>onRow (hget d e.1) λ _ f _ _ _ g=>ifB (Nat.ble (Nat.succ e.2) f) (a (getF g e.2))) (a undef) (a undef)
def ahn (a:aa [5])(b c d e:Value)(f g h i:H):R:=joinL (λ j=>ifB (aj j c) (joinL (λ l=>Xm E k a b d e l f h i) λ l=>uo l b c i)) λ j=>aB b (j (.pointer (some (Addr.mk g.1 2 none)))) (j undef) (j undef)
def Xv (a:aa [5])(b c d:Value)(e f g h:H):R:=joinL (λ i=>ae (λ j l=>ahn E k a b d i j e f g l) λ j=>aB b (rc 114 [c,.int .i64 (.ofNat 0)] h j) (j undef h) (j undef h)) λ i=>uo i b d h
def aev (a:Value→R)(b:Value)(c d:H):R:=aB b (onRow (hget d c.1) λ _ e _ _ _ f=>ifB (Nat.ble 12 e) (a (.agg ⟨ac f 12 0⟩))) (a undef) (a undef)
def abq (a b c:H):R:=@joinR [5] (λ _ d=>uO E k a b d) λ _=>onRow (hget c a.1) λ d e f g h i=>wR E k i f g d a c e h
def Vp (a b:Value)(c d e:H):R:=joinL (λ f=>ifB (aj f a) (joinL (λ g=>ifB (aj g b) (joinL (λ _=>abq E k c d e) λ h=>h undef)) λ g=>g undef)) λ f=>f undef
def ad6 (a:aa [5])(b c:Value)(d e f g:H):R:=onB b (joinL (λ h=>joinL (λ i=>Xv E rc k a c h i d e f g) λ i=>aB c (i (.pointer (some (Addr.mk e.1 2 none)))) (i undef) (i undef)) λ h=>aev h c f g) (joinL (λ _=>joinL (λ h=>joinL (λ i=>ae (λ _ j=>Vp E k h i d f j) λ j=>j undef g) λ i=>i undef) λ h=>h undef) λ h=>h undef)
def aeK (a:aa [5])(b c:Value)(d e f g:H):R:=joinL (λ h=>ad6 E rc k a b h d e f g) λ h=>aB b (binR (binC E .neq 3 false true) c (.int .i64 (.ofNat 0)) h) (h undef) (h undef)
def ab5 (a:aa [5])(b:Value)(c d e f:H):R:=joinL (λ g=>joinL (λ h=>aeK E rc k a b h c d e f) λ h=>uo h b g f) λ g=>aB b (g (.pointer (some (Addr.mk d.1 3 none)))) (g undef) (g undef)
def WW (a:aa [5])(b:Value)(c d e f:H):R:=binR (binC E .neq 92 false true) b (.int .u64 (.ofNat 1162104654)) λ g=>ab5 E rc k a g c d e f
def SQ (a:aa [5])(b:Value)(c d e f:H):R:=onTup b λ g=>nthF 0 g λ h=>onTup b λ i=>nthF 1 i λ _=>ifB (Nat.ble f.1 1000000000) (letH (H.mk f.1 f.2) λ j=>WW E rc k a h c d e j)
def aiK (a:aa [5])(b:V)(c d e f:H)(g:Nat):R:=ifB (Nat.ble 12 g) (rc 180 [.agg ⟨ac b 3 9⟩,.int .i64 (.ofNat 104),.int .i64 (.ofNat 8)] f λ h i=>SQ E rc k a h c d e i)
def Vq (a:aa [5])(b c:Value)(d e f g:H):R:=@joinR [5] (λ h i=>onRow (hget i f.1) λ _ j _ _ _ l=>aiK E rc k h l d e f i j) λ h=>onB c (h (a.1,()) g) (onRow (hget g d.1) λ i j l m n o=>qY E k o l m i b d g j n)
def ajb (a:aa [5])(b:Value)(c d e f:H):R:=binR (binC E .neq 24 false true) b (.int .i64 (.ofNat 0)) λ g=>Vq E rc k a b g c d e f
def abx (a:aa [5])(b:L)(c:V)(d e:Bool)(f:TypeId)(g:Value)(h i j l:H)(m n:Nat):R:=ifB (notB e) (ifB (Nat.beq (lenF b) 12) (ifB (Nat.ble n 0) (ifB (Nat.ble 12 m) (ifB (Nat.ble m 1000000000) (ifB (allF (λ o=>cell1F o) b) (letH (hset l j.1 (.row f m d false n (putF c 0 b))) λ o=>ajb E rc k a g h i j o))))))
def aiM (a:aa [5])(b c:Value)(d e f:H):R:=ifB (Nat.ble f.1 1000000000) (letH (ag f (.row 148 12 false false 0 (T.ofList unk [.pointer none,.pointer none,.int .i64 (.ofNat 0),.int .i64 (.ofNat 0),.int .u64 (.ofNat 0),.pointer none,.int .i64 (.ofNat 0),.int .i64 (.ofNat 0),.int .i64 (.ofNat 0),.pointer none,.int .i64 (.ofNat 0),.int .i64 (.ofNat 0)]))) λ g=>onCells b λ h=>onRow (hget g f.1) λ i j l m n o=>abx E rc k a h o l m i c d e f g j n)
def aiQ (a:aa [5])(b:V)(c:Value)(d e f:H)(g:Nat):R:=ifB (Nat.ble 4 g) (rc 201 [c,.agg ⟨ac b 4 0⟩] f λ h i=>onTup h λ j=>nthF 0 j λ l=>onTup h λ m=>nthF 1 m λ n=>aiM E rc k a l n d e i)
def Zb (a:aa [5])(b c d:Value)(e f g:H):R:=@joinR [5] (λ h i=>onRow (hget i f.1) λ _ j _ _ _ l=>aiQ E rc k h l b e f i j) λ h=>onB d (h (a.1,()) g) (onRow (hget g e.1) λ i j l m n o=>qY E k o l m i c e g j n)
def Xg (a:aa [5])(b:L)(c:V)(d e:Bool)(f:TypeId)(g h:Value)(i j l:H)(m n:Nat):R:=ifB (notB e) (ifB (Nat.beq (lenF b) 4) (ifB (Nat.ble n 0) (ifB (Nat.ble 4 m) (ifB (Nat.ble m 1000000000) (ifB (allF (λ o=>cell1F o) b) (letH (hset l j.1 (.row f m d false n (putF c 0 b))) λ o=>binR (binC E .neq 24 false true) h (.int .i64 (.ofNat 0)) λ p=>Zb E rc k a g h p i j o))))))
def Si (a:aa [5])(b c d:Value)(e f:H):R:=ifB (Nat.ble f.1 1000000000) (letH (ag f (.row 199 4 false false 0 (T.ofList unk [.int .i64 (.ofNat 0),.int .i64 (.ofNat 0),.int .u64 (.ofNat 0),.int .i64 (.ofNat 0)]))) λ g=>onCells c λ h=>onRow (hget g f.1) λ i j l m n o=>Xg E rc k a h o l m i b d e f g j n)
def ajy (a:aa [5])(b:V)(c:Addr)(d e:Value)(f g:H)(h:Nat):R:=ifB (Nat.ble (Nat.succ c.2) h) (rc 200 [getF b c.2,e] g λ i j=>onTup i λ l=>nthF 0 l λ m=>onTup i λ n=>nthF 1 n λ o=>Si E rc k a d m o f j)
def aag (a:aa [5])(b:V)(c:Addr)(d e:Value)(f g:H)(h:Nat):R:=ifB (Nat.ble (Nat.succ c.2) h) (bindO (aT (getF b c.2)) λ i=>onPtr i λ _=>onPtr i λ j=>onRow (hget g j.1) λ _ l _ _ _ m=>ajy E rc k a m j d e f g l)
def afZ (a:aa [5])(b c:Value)(d e:H):R:=bindO (aT b) λ f=>onPtr f λ _=>onPtr f λ g=>onRow (hget e g.1) λ _ h _ _ _ i=>aag E rc k a i g b c d e h
def aeb (a b c:Value)(d e:H):R:=@joinR [5] (λ f g=>afZ E rc k f a b d g) λ f=>onB c (f (.int .i64 (.ofNat 0),()) e) (onRow (hget e d.1) λ g h i j l m=>zq E k m i j g d e h l)
def g50 (E:Env)(rc:RC)(a0 a1:Value)(h:H)(k:Value→H→R):R:=ifB (Nat.ble h.1 1000000000) (letH (ag h (.row 148 12 false false 0 (T.ofList unk [.pointer none,.pointer none,.int .i64 (.ofNat 0),.int .i64 (.ofNat 0),.int .u64 (.ofNat 0),.pointer none,.int .i64 (.ofNat 0),.int .i64 (.ofNat 0),.int .i64 (.ofNat 0),.pointer none,.int .i64 (.ofNat 0),.int .i64 (.ofNat 0)]))) λ a=>binR (binC E .eql 125 false true) a0 (.pointer none) λ b=>aeb E rc k a0 a1 b h a)
theorem Ys (t:ak)(rc:RC)(a0 a1:Value)(h:H)(k:Value→H→R):(ax (EX t) KK 126).run rc [a0,a1] h k = g50 (EX t) rc a0 a1 h k:=by kernel_rfl
def S2 (a:L)(b:V)(c d:Bool)(e:TypeId)(f:Value)(g h:H)(i j:Nat):R:=ifB (notB d) (ifB (Nat.beq (lenF a) 12) (ifB (Nat.ble j 0) (ifB (Nat.ble 12 i) (ifB (Nat.ble i 1000000000) (ifB (allF (λ l=>cell1F l) a) (letH (hset h g.1 (.row e i c false j (putF b 0 a))) λ l=>k f l))))))
def aaJ (a b:Value)(c:H):R:=ifB (Nat.ble c.1 1000000000) (letH (ag c (.row 148 12 false false 0 (T.ofList unk [.pointer none,.pointer none,.int .i64 (.ofNat 0),.int .i64 (.ofNat 0),.int .u64 (.ofNat 0),.pointer none,.int .i64 (.ofNat 0),.int .i64 (.ofNat 0),.int .i64 (.ofNat 0),.pointer none,.int .i64 (.ofNat 0),.int .i64 (.ofNat 0)]))) λ d=>onCells a λ e=>onRow (hget d c.1) λ f g h i j l=>S2 k e l h i f b c d g j)
def YO (a:V)(b:Value)(c:H)(d:Nat):R:=ifB (Nat.ble 1 d) (rc 126 [getF a 0,b] c λ e f=>onTup e λ g=>nthF 0 g λ h=>onTup e λ i=>nthF 1 i λ j=>aaJ k h j f)
def Zg (a:L)(b:Value)(c:H):R:=ifB (allF (λ d=>cell1F d) a) (ifB (Nat.ble c.1 1000000000) (letH (ag c (.row 127 (lenF a) false false 0 (T.ofList unk a))) λ d=>onRow (hget d c.1) λ _ e _ _ _ f=>YO rc k f b d e))
def aaP (E:Env)(rc:RC)(a0 a1:Value)(h:H)(k:Value→H→R):R:=onCells a0 λ a=>Zg rc k a a1 h
theorem Mz (t:ak)(rc:RC)(a0 a1:Value)(h:H)(k:Value→H→R):(ax (EX t) KK 267).run rc [a0,a1] h k = aaP (EX t) rc a0 a1 h k:=by kernel_rfl
def abG (a:L)(b:H):R:=ifB (allF (λ c=>cell1F c) a) (ifB (Nat.ble b.1 1000000000) (letH (ag b (.row 131 (lenF a) false false 0 (T.ofList unk a))) λ c=>onRow (hget c b.1) λ _ d _ _ _ e=>ifB (Nat.ble 2 d) (k (getF e 1) c)))
def XP (E:Env)(rc:RC)(a0:Value)(h:H)(k:Value→H→R):R:=onCells a0 λ a=>abG k a h
theorem CG (t:ak)(rc:RC)(a0:Value)(h:H)(k:Value→H→R):(ax (EX t) KK 130).run rc [a0] h k = XP (EX t) rc a0 h k:=by kernel_rfl
def afK (a b c:Value)(d:H):R:=onB b (@joinR [2] (λ _ e=>binR (binC E .shl 3 true false) (.int .i64 (.ofNat 4096)) a λ f=>k f e) λ e=>onB c (e (.int .i64 (.ofNat 0),()) d) (k (.int .i64 (.ofNat 0)) d)) (@joinR [2] (λ _ e=>binR (binC E .shl 3 true false) (.int .i64 (.ofNat 4096)) a λ f=>k f e) λ _=>k (.int .i64 (.ofNat 0)) d)
def abc (E:Env)(rc:RC)(a0:Value)(h:H)(k:Value→H→R):R:=binR (binC E .lss 3 false true) a0 (.int .i64 (.ofNat 0)) λ a=>ae (λ b c=>ae (λ d e=>afK E k a0 a d e) λ d=>mS E d a b c) λ b=>aB a (b a0 h) (b undef h) (b undef h)
theorem LH (t:ak)(rc:RC)(a0:Value)(h:H)(k:Value→H→R):(ax (EX t) KK 271).run rc [a0] h k = abc (EX t) rc a0 h k:=by kernel_rfl
def Yr (a:(aa [8,1,2])→H→R)(b:aa [8,1,2])(c d:Value)(e:H):R:=binR (binC E .add 3 false false) b.2.1 c λ f=>binR (binC E .sub 3 false false) b.2.2.1 c λ g=>a (d,(f,(g,()))) e
def abC (a:(aa [8,1,2])→H→R)(b:aa [8,1,2])(c:V)(d:Addr)(e f:Value)(g:H)(h:Nat):R:=ifB (Nat.ble (Nat.succ d.2) h) (binR (binC E .and 92 false false) (getF c d.2) e λ i=>rc 325 [i] g λ j l=>binR (binC E .add 3 false false) b.1 j λ m=>Yr E a b f m l)
def akl (a:(aa [8,1,2])→H→R)(b:aa [8,1,2])(c:Addr)(d e:Value)(f:H)(g h:Nat):R:=ifB (Nat.ble (Nat.succ g) h) (addOffF c (Nat.mul g 1) λ i=>onPtr i λ j=>onRow (hget f j.1) λ _ l _ _ _ m=>abC E rc a b m j d e f l)
def X7 (a:(aa [8,1,2])→H→R)(b:aa [8,1,2])(c:V)(d e:Value)(f:H)(g:Nat):R:=ifB (Nat.ble 2 g) (binR (binC E .quo 3 false true) b.2.1 (.int .i64 (.ofNat 64)) λ h=>onNat h none λ i=>onSl (getF c 1) none λ j l _=>akl E rc a b j d e f i l)
def ahg (a:(aa [8,1,2])→H→R)(b:aa [8,1,2])(c:L)(d:Value)(e f:H):R:=nthF 0 c λ g=>onTup d λ h=>nthF 1 h λ i=>onRow (hget f e.1) λ _ j _ _ _ l=>X7 E rc a b l g i f j
def VE (a:(aa [8,1,2])→H→R)(b:aa [8,1,2])(c d:H):R:=@joinR [8,1,2] (λ e f=>a (e.1,(e.2.1,(e.2.2.1,()))) f) λ e=>rc 324 [b.2.1,b.2.2.1] d λ f g=>onTup f λ h=>ahg E rc e b h f c g
def aga (a:(aa [8,1,2])→H→R)(b:(aa [8])→H→R)(c:aa [8,1,2])(d e:H):R:=binR (binC E .gtr 3 false true) c.2.2.1 (.int .i64 (.ofNat 0)) λ f=>@joinR [] (λ _ g=>VE E rc a c d g) λ g=>onB f (b (c.1,()) e) (g () e)
def yU (a b:Value)(c d:H):R:=@joinR [8] (λ e f=>ifB (nT [e.1,.int .i64 (.ofNat 0)]) (k (.tuple ⟨[e.1,.int .i64 (.ofNat 0)]⟩) f)) λ e=>@loopF [8,1,2] (λ f g h=>aga E rc f e g c h) 1000000 (.int .i64 (.ofNat 0),(a,(b,()))) d
def OJ (a b c:Value)(d e:H):R:=onB c (@joinR [6,7] (λ _ f=>yU E rc k a b d f) λ _=>k (.tuple ⟨[.int .i64 (.ofNat 0),.int .i64 (.ofNat 3)]⟩) e) (@joinR [6,7] (λ _ f=>yU E rc k a b d f) λ f=>f (.int .i64 (.ofNat 0),(.int .i64 (.ofNat 0),())) e)
def Hs (a b:Value)(c d:H):R:=onRow (hget d c.1) λ _ e _ _ _ f=>ifB (Nat.ble 2 e) (rc 323 [.agg ⟨ac f 2 0⟩,a,b] d λ g h=>OJ E rc k a b g c h)
def JV (a:L)(b c:Value)(d:H):R:=ifB (allF (λ e=>cell1F e) a) (ifB (Nat.ble d.1 1000000000) (letH (ag d (.row 185 (lenF a) false false 0 (T.ofList unk a))) λ e=>Hs E rc k b c d e))
def aeU (E:Env)(rc:RC)(a0 a1 a2:Value)(h:H)(k:Value→H→R):R:=onCells a0 λ a=>JV E rc k a a1 a2 h
theorem Ho (t:ak)(rc:RC)(a0 a1 a2:Value)(h:H)(k:Value→H→R):(ax (EX t) KK 244).run rc [a0,a1,a2] h k = aeU (EX t) rc a0 a1 a2 h k:=by kernel_rfl
def jA (a:Value→R)(b:Value)(c:H):R:=onNat b (bindO (aQ E c 92 3 b) a) λ d=>@Bool.rec (λ _=>R) (bindO (aQ E c 92 3 b) a) (a (.int .i64 (.ofNat d))) (Nat.ble d 9223372036854775807)
def adL (a:V)(b:Addr)(c:H)(d:Nat):R:=ifB (Nat.ble (Nat.add (Nat.add b.2 3) 3) d) (rc 180 [.agg ⟨ac a 3 (Nat.add b.2 3)⟩,.int .i64 (.ofNat 96),.int .i64 (.ofNat 8)] c λ e f=>onTup e λ g=>nthF 0 g λ h=>onTup e λ i=>nthF 1 i λ _=>joinL (λ j=>k j f) λ j=>jA E j h f)
def Q8 (a b:Value)(c:H):R:=@joinR [2] (λ _ d=>bindO (aT a) λ e=>onPtr e λ f=>onRow (hget d f.1) λ _ g _ _ _ h=>adL E rc k h f d g) λ d=>onB b (d (.int .i64 (.ofNat 0),()) c) (k (.int .i64 (.ofNat 0)) c)
def acZ (E:Env)(rc:RC)(a0:Value)(h:H)(k:Value→H→R):R:=binR (binC E .eql 170 false true) a0 (.pointer none) λ a=>Q8 E rc k a0 a h
theorem CH (t:ak)(rc:RC)(a0:Value)(h:H)(k:Value→H→R):(ax (EX t) KK 233).run rc [a0] h k = acZ (EX t) rc a0 h k:=by kernel_rfl
def adm (a:Value)(b c:H):R:=onRow (hget c b.1) λ _ d _ _ _ e=>ifB (Nat.ble 1 d) (rc 202 [.agg ⟨ac e 1 0⟩,a,.int .i64 (.ofNat 8)] c λ f g=>k f g)
def aah (a:L)(b:Value)(c:H):R:=ifB (allF (λ d=>cell1F d) a) (ifB (Nat.ble c.1 1000000000) (letH (ag c (.row 129 (lenF a) false false 0 (T.ofList unk a))) λ d=>adm rc k b c d))
def adV (E:Env)(rc:RC)(a0 a1:Value)(h:H)(k:Value→H→R):R:=onCells a0 λ a=>aah rc k a a1 h
theorem K5 (t:ak)(rc:RC)(a0 a1:Value)(h:H)(k:Value→H→R):(ax (EX t) KK 187).run rc [a0,a1] h k = adV (EX t) rc a0 a1 h k:=by kernel_rfl
def ant (a:V)(b:Addr)(c:H)(d:Nat):R:=ifB (Nat.ble (Nat.succ b.2) d) (joinL (λ e=>k e c) λ e=>onSl (getF a b.2) (bindO (bv E c 187 (getF a b.2)) e) λ _ f _=>e (.int .i64 (.ofNat f)))
def akw (a:Value)(b:H):R:=bindO (aT a) λ c=>onPtr c λ _=>onPtr c λ d=>onRow (hget b d.1) λ _ e _ _ _ f=>ant E k f d b e
def g75 (E:Env)(rc:RC)(a0:Value)(h:H)(k:Value→H→R):R:=binR (binC E .eql 123 false true) a0 (.pointer none) λ a=>@joinR [2] (λ _ b=>akw E k a0 b) λ b=>onB a (b (.int .i64 (.ofNat 0),()) h) (k (.int .i64 (.ofNat 0)) h)
theorem Zc (t:ak)(rc:RC)(a0:Value)(h:H)(k:Value→H→R):(ax (EX t) KK 150).run rc [a0] h k = g75 (EX t) rc a0 h k:=by kernel_rfl
def ahu (a:(aa [5,6])→H→R)(b:L)(c:V)(d e:Bool)(f:TypeId)(g:Value)(h i:H)(j l:Nat):R:=ifB (notB e) (ifB (Nat.beq (lenF b) 4) (ifB (Nat.ble l 0) (ifB (Nat.ble 4 j) (ifB (Nat.ble j 1000000000) (ifB (allF (λ m=>cell1F m) b) (letH (hset i h.1 (.row f j d false l (putF c 0 b))) λ m=>onRow (hget m h.1) λ _ n _ _ _ o=>ifB (Nat.ble 4 n) (a (g,(getF o 3,())) m)))))))
def TF (a:(aa [5,6])→H→R)(b c:Value)(d:H):R:=ifB (Nat.ble d.1 1000000000) (letH (ag d (.row 199 4 false false 0 (T.ofList unk [.int .i64 (.ofNat 0),.int .i64 (.ofNat 0),.int .u64 (.ofNat 0),.int .i64 (.ofNat 0)]))) λ e=>onCells c λ f=>onRow (hget e d.1) λ g h i j l m=>ahu a f m i j g b d e h l)
def aeO (a:(aa [5,6])→H→R)(b:aa [5,6])(c:V)(d:Value)(e:H)(f:Nat):R:=ifB (Nat.ble 1 f) (rc 200 [getF c 0,b.2.1] e λ g h=>onTup g λ i=>nthF 0 i λ j=>onTup g λ l=>nthF 1 l λ _=>TF a d j h)
def aeV (a:(aa [5,6])→H→R)(b:aa [5,6])(c d e:H):R:=cT (bu E e Builtin.append [b.1,.slice (some (Addr.mk d.1 0 none)) 1 2] [256,256]) λ f g=>onRow (hget g c.1) λ _ h _ _ _ i=>aeO rc a b i f g h
def Tw (a:(aa [5,6])→H→R)(b:aa [5,6])(c d:H):R:=@Option.rec (List Value) (λ _=>R) none (λ e=>ifB (Nat.ble d.1 1000000000) (letH (ag d (.row 3 1 false false 0 (T.ofList unk e))) λ f=>aeV E rc a b c d f)) (cG (λ e=>some (Nat.mul e 1,1)) (List.flatten (List.replicate 1 (cellsOfV (.int .i64 (.ofNat 0))))) [(0,b.2.1)])
def XT (a:(aa [5,6])→H→R)(b:(aa [5])→H→R)(c:aa [5,6])(d e:H):R:=binR (binC E .neq 3 false true) c.2.1 (.int .i64 (.ofNat 0)) λ f=>@joinR [] (λ _ g=>@joinR [5,6] (λ h i=>a (h.1,(h.2.1,())) i) λ h=>Tw E rc h c d g) λ g=>onB f (b (c.1,()) e) (g () e)
def QG (a:V)(b:Value)(c d:H)(e:Nat):R:=ifB (Nat.ble 3 e) (rc 261 [.agg ⟨ac a 3 0⟩,b] d λ f g=>@joinR [5] (λ h i=>k h.1 i) λ h=>@loopF [5,6] (λ i j l=>XT E rc i h j c l) 1000000 (.slice none 0 0,(f,())) g)
def XI (a:L)(b:Value)(c:H):R:=ifB (allF (λ d=>cell1F d) a) (ifB (Nat.ble c.1 1000000000) (letH (ag c (.row 190 (lenF a) false false 0 (T.ofList unk a))) λ d=>onRow (hget d c.1) λ _ e _ _ _ f=>QG E rc k f b c d e))
def Uk (E:Env)(rc:RC)(a0 a1:Value)(h:H)(k:Value→H→R):R:=onCells a0 λ a=>XI E rc k a a1 h
theorem F9 (t:ak)(rc:RC)(a0 a1:Value)(h:H)(k:Value→H→R):(ax (EX t) KK 259).run rc [a0,a1] h k = Uk (EX t) rc a0 a1 h k:=by kernel_rfl
def Sl (a:V)(b:H)(c:Nat):R:=ifB (Nat.ble 4 c) (rc 180 [.agg ⟨ac a 3 1⟩,.int .i64 (.ofNat 0),.int .i64 (.ofNat 8)] b λ d e=>onTup d λ f=>nthF 0 f λ g=>onTup d λ h=>nthF 1 h λ _=>joinL (λ i=>k i e) λ i=>jA E i g e)
def agB (a:L)(b:H):R:=ifB (allF (λ c=>cell1F c) a) (ifB (Nat.ble b.1 1000000000) (letH (ag b (.row 142 (lenF a) false false 0 (T.ofList unk a))) λ c=>onRow (hget c b.1) λ _ d _ _ _ e=>Sl E rc k e c d))
def aba (E:Env)(rc:RC)(a0:Value)(h:H)(k:Value→H→R):R:=onCells a0 λ a=>agB E rc k a h
theorem KI (t:ak)(rc:RC)(a0:Value)(h:H)(k:Value→H→R):(ax (EX t) KK 272).run rc [a0] h k = aba (EX t) rc a0 h k:=by kernel_rfl
def aat (a b:H):R:=bindO (aU E b 199 (Addr.mk a.1 0 none)) λ c=>ifB (nT [c,.int .i64 (.ofNat 0)]) (k (.tuple ⟨[c,.int .i64 (.ofNat 0)]⟩) b)
def adu (a b:V)(c d:Bool)(e:TypeId)(f g:H)(h i:Nat):R:=ifB (notB d) (ifB (Nat.beq (lenF (ac a 4 0)) 4) (ifB (Nat.ble i 0) (ifB (Nat.ble 4 h) (ifB (Nat.ble h 1000000000) (ifB (allF (λ j=>cell1F j) (ac a 4 0)) (letH (hset g f.1 (.row e h c false i (putF b 0 (ac a 4 0)))) λ j=>aat E k f j))))))
def pU (a b c:H):R:=onRow (hget c b.1) λ _ d _ _ _ e=>ifB (Nat.ble 4 d) (onRow (hget c a.1) λ f g h i j l=>adu E k e l h i f a c g j)
def Zd (a b:H):R:=bindO (aU E b 199 (Addr.mk a.1 0 none)) λ c=>ifB (nT [c,.int .i64 (.ofNat 7)]) (k (.tuple ⟨[c,.int .i64 (.ofNat 7)]⟩) b)
def uc (a:V)(b c:Bool)(d:TypeId)(e f:H)(g h:Nat):R:=ifB (notB c) (ifB (Nat.beq (lenF (cellsOfV (.agg (@List.toArray Value [.int .i64 (.ofNat 0),.int .i64 (.ofNat 0),.int .u64 (.ofNat 0),.int .i64 (.ofNat 0)])))) 4) (ifB (Nat.ble h 0) (ifB (Nat.ble 4 g) (ifB (Nat.ble g 1000000000) (ifB (allF (λ i=>cell1F i) (cellsOfV (.agg (@List.toArray Value [.int .i64 (.ofNat 0),.int .i64 (.ofNat 0),.int .u64 (.ofNat 0),.int .i64 (.ofNat 0)])))) (letH (hset f e.1 (.row d g b false h (putF a 0 (cellsOfV (.agg (@List.toArray Value [.int .i64 (.ofNat 0),.int .i64 (.ofNat 0),.int .u64 (.ofNat 0),.int .i64 (.ofNat 0)])))))) λ i=>Zd E k e i))))))
def Km (a:aa [5])(b c:Value)(d e f:H):R:=onB b (@joinR [5] (λ _ g=>pU E k d e g) λ g=>onB c (g (a.1,()) f) (onRow (hget f d.1) λ h i j l m n=>uc E k n j l h d f i m)) (@joinR [5] (λ _ g=>pU E k d e g) λ _=>onRow (hget f d.1) λ g h i j l m=>uc E k m i j g d f h l)
def ma (a:Value→H→R)(b c:Value)(d:H):R:=aB b (binR (binC E .lss 3 false true) c (.int .i64 (.ofNat 0)) λ e=>a e d) (a undef d) (a undef d)
def eL (a:Value→H→R)(b c:Value)(d:H):R:=aB b (onPtr c λ e=>onRow (hget d e.1) λ _ f _ _ _ g=>ifB (Nat.ble (Nat.succ e.2) f) (a (getF g e.2) d)) (a undef d) (a undef d)
def xf (a b c:H):R:=@joinR [5] (λ _ d=>pU E k a b d) λ _=>onRow (hget c a.1) λ d e f g h i=>uc E k i f g d a c e h
def DK (a:aa [5])(b c:Value)(d e f:H):R:=onB b (ae (λ g h=>ae (λ i j=>ae (λ l m=>Km E k a c l d e m) λ l=>ma E l c i j) λ i=>eL i c g h) λ g=>aB c (g (.pointer (some (Addr.mk e.1 3 none))) f) (g undef f) (g undef f)) (ae (λ _ g=>ae (λ _ h=>ae (λ _ i=>xf E k d e i) λ i=>i undef h) λ h=>h undef g) λ g=>g undef f)
def v8 (a:Value→H→R)(b c:Value)(d:H):R:=aB b (binR (binC E .eql 3 false true) c (.int .i64 (.ofNat 0)) λ e=>a e d) (a undef d) (a undef d)
def HW (a:aa [5])(b c:Value)(d e f:H):R:=ae (λ g h=>ae (λ i j=>DK E k a b i d e j) λ i=>v8 E i b g h) λ g=>aB b (rc 271 [c] f g) (g undef f) (g undef f)
def M5 (a b c:H):R:=ae (λ _ d=>ae (λ _ e=>ae (λ _ f=>xf E k a b f) λ f=>f undef e) λ e=>e undef d) λ d=>d undef c
def MK (a b c:H):R:=ae (λ _ d=>ae (λ _ e=>ae (λ _ f=>M5 E k a b f) λ f=>f undef e) λ e=>e undef d) λ d=>d undef c
def M4 (a:aa [5])(b c:Value)(d e f:H):R:=onB b (ae (λ g h=>ae (λ i j=>HW E rc k a c i d e j) λ i=>eL i c g h) λ g=>aB c (g (.pointer (some (Addr.mk e.1 1 none))) f) (g undef f) (g undef f)) (ae (λ _ g=>MK E k d e g) λ g=>g undef f)
def wZ (a:Value→H→R)(b c:Value)(d:H):R:=aB b (binR (binC E .neq 3 false true) c (.int .i64 (.ofNat 0)) λ e=>a e d) (a undef d) (a undef d)
def xa (a:Value→H→R)(b c:Value)(d:H):R:=aB b (binR (binC E .rem 3 false true) c (.int .i64 (.ofNat 4096)) λ e=>a e d) (a undef d) (a undef d)
def OA (a:aa [5])(b c:Value)(d e f:H):R:=ae (λ g h=>ae (λ i j=>ae (λ l m=>M4 E rc k a c l d e m) λ l=>wZ E l c i j) λ i=>xa E i c g h) λ g=>aB c (g b f) (g undef f) (g undef f)
def GA (a:aa [5])(b:V)(c:Addr)(d:Value)(e f g:H)(h:Nat):R:=ifB (Nat.ble (Nat.succ c.2) h) (binR (binC E .neq 92 false true) (getF b c.2) (.int .u64 (.ofNat 1263421507)) λ i=>OA E rc k a d i e f g)
def J2 (a:aa [5])(b c:Value)(d e f:H):R:=onSl c none λ g h _=>ifB (Nat.ble 1 h) (onRow (hget f g.1) λ _ i _ _ _ j=>GA E rc k a j g b d e f i)
def Gz (a:aa [5])(b:L)(c:V)(d e:Bool)(f:TypeId)(g h:Value)(i j l:H)(m n:Nat):R:=ifB (notB e) (ifB (Nat.beq (lenF b) 4) (ifB (Nat.ble n 0) (ifB (Nat.ble 4 m) (ifB (Nat.ble m 1000000000) (ifB (allF (λ o=>cell1F o) b) (letH (hset l j.1 (.row f m d false n (putF c 0 b))) λ o=>J2 E rc k a g h i j o))))))
def HU (a:aa [5])(b c d:Value)(e f g:H):R:=letH (hset g f.1 (.row 199 4 false false 0 (T.ofList unk [.int .i64 (.ofNat 0),.int .i64 (.ofNat 0),.int .u64 (.ofNat 0),.int .i64 (.ofNat 0)]))) λ h=>onCells d λ i=>onRow (hget h f.1) λ j l m n o p=>Gz E rc k a i p m n j b c e f h l o
def wW (a:Value→R)(b:V)(c:Addr)(d:H):R:=onNat (getF b c.2) (bindO (aQ E d 92 3 (getF b c.2)) a) λ e=>@Bool.rec (λ _=>R) (bindO (aQ E d 92 3 (getF b c.2)) a) (a (.int .i64 (.ofNat e))) (Nat.ble e 9223372036854775807)
def Jl (a:aa [5])(b c:V)(d e:Addr)(f g h:Value)(i j l:H)(m:Nat):R:=ifB (Nat.ble (Nat.succ e.2) m) (joinL (λ n=>bindO (cg E 199 [(0,f),(1,h),(2,getF b d.2),(3,n)]) λ o=>HU E rc k a f g o i j l) λ n=>wW E n c e l)
def M0 (a:aa [5])(b:V)(c d:Addr)(e f g:Value)(h i j:H)(l:Nat):R:=ifB (Nat.ble 4 l) (addOffF d 3 λ m=>onPtr m λ n=>onRow (hget j n.1) λ _ o _ _ _ p=>Jl E rc k a b p c n e f g h i j o)
def D8 (a:aa [5])(b:Addr)(c d e:Value)(f g h:H):R:=onRow (hget h b.1) λ _ i _ _ _ j=>ifB (Nat.ble (Nat.succ b.2) i) (onSl d none λ l m _=>M0 E rc k a j b l c d e f g h m)
def Jw (a:aa [5])(b:V)(c:Addr)(d e:Value)(f g h:H)(i:Nat):R:=ifB (Nat.ble (Nat.succ c.2) i) (joinL (λ j=>onSl e none λ l m _=>ifB (Nat.ble 3 m) (addOffF l 2 λ n=>onPtr n λ o=>D8 E rc k a o d e j f g h)) λ j=>wW E j b c h)
def Ia (a:aa [5])(b:Addr)(c d:Value)(e f g:H)(h:Nat):R:=ifB (Nat.ble 2 h) (addOffF b 1 λ i=>onPtr i λ j=>onRow (hget g j.1) λ _ l _ _ _ m=>Jw E rc k a m j c d e f g l)
def CW (a:aa [5])(b:L)(c d:Value)(e f:H):R:=nthF 1 b λ _=>ifB (Nat.ble f.1 1000000000) (letH (H.mk (Nat.add f.1 1) f.2) λ g=>onSl d none λ h i _=>Ia E rc k a h c d e f g i)
def Mo (a:aa [5])(b c:V)(d e:Value)(f g:H)(h:Nat):R:=ifB (Nat.ble 3 h) (ifB (aj (.agg ⟨ac c 3 0⟩) (.agg ⟨ac b 3 0⟩)) (rc 199 [e,.agg ⟨ac b 3 0⟩] g λ i j=>onTup i λ l=>nthF 0 l λ m=>onTup i λ n=>CW E rc k a n d m f j))
def LF (a:aa [5])(b:V)(c:Value)(d e f:H)(g:Nat):R:=ifB (Nat.ble 3 g) (rc 281 [] f λ h i=>onRow (hget i e.1) λ _ j _ _ _ l=>Mo E rc k a b l c h d i j)
def MP (a:aa [5])(b:Value)(c d e:H):R:=ifB (Nat.ble e.1 1000000000) (letH (H.mk e.1 e.2) λ f=>onRow (hget f d.1) λ _ g _ _ _ h=>LF E rc k a h b c d f g)
def xl (a:V)(b c:Bool)(d:TypeId)(e:Value)(f g:H)(h i:Nat):R:=ifB (notB c) (ifB (Nat.beq (lenF (cellsOfV (.agg (@List.toArray Value [.int .i64 (.ofNat 0),.int .i64 (.ofNat 0),.int .u64 (.ofNat 0),.int .i64 (.ofNat 0)])))) 4) (ifB (Nat.ble i 0) (ifB (Nat.ble 4 h) (ifB (Nat.ble h 1000000000) (ifB (allF (λ j=>cell1F j) (cellsOfV (.agg (@List.toArray Value [.int .i64 (.ofNat 0),.int .i64 (.ofNat 0),.int .u64 (.ofNat 0),.int .i64 (.ofNat 0)])))) (letH (hset g f.1 (.row d h b false i (putF a 0 (cellsOfV (.agg (@List.toArray Value [.int .i64 (.ofNat 0),.int .i64 (.ofNat 0),.int .u64 (.ofNat 0),.int .i64 (.ofNat 0)])))))) λ j=>bindO (aU E j 199 (Addr.mk f.1 0 none)) λ l=>ifB (nT [l,e]) (k (.tuple ⟨[l,e]⟩) j)))))))
def El (a:(aa [5])→H→R)(b c:Value)(d e:H):R:=onB c (a (.int .i64 (.ofNat 0),()) e) (onRow (hget e d.1) λ f g h i j l=>xl E k l h i f b d e g j)
def JS (a b:Value)(c d e:H):R:=binR (binC E .neq 24 false true) b (.int .i64 (.ofNat 0)) λ f=>@joinR [5] (λ g h=>MP E rc k g a c d h) λ g=>El E k g b f c e
def Lv (a:L)(b:V)(c d:Bool)(e:TypeId)(f g:Value)(h i j:H)(l m:Nat):R:=ifB (notB d) (ifB (Nat.beq (lenF a) 3) (ifB (Nat.ble m 0) (ifB (Nat.ble 3 l) (ifB (Nat.ble l 1000000000) (ifB (allF (λ n=>cell1F n) a) (letH (hset j i.1 (.row e l c false m (putF b 0 a))) λ n=>JS E rc k f g h i n))))))
def Ha (a b c:Value)(d e:H):R:=ifB (Nat.ble e.1 1000000000) (letH (ag e (.row 131 3 false false 0 (T.ofList unk [.pointer none,.int .i64 (.ofNat 0),.int .i64 (.ofNat 0)]))) λ f=>onCells b λ g=>onRow (hget f e.1) λ h i j l m n=>Lv E rc k g n j l h a c d e f i m)
def G3 (a b:Value)(c d:H):R:=rc 162 [a,b,.int .i64 (.ofNat 32)] d λ e f=>onTup e λ g=>nthF 0 g λ h=>onTup e λ i=>nthF 1 i λ j=>Ha E rc k b h j c f
def Xc (E:Env)(rc:RC)(a0 a1:Value)(h:H)(k:Value→H→R):R:=ifB (Nat.ble h.1 1000000000) (letH (ag h (.row 199 4 false false 0 (T.ofList unk [.int .i64 (.ofNat 0),.int .i64 (.ofNat 0),.int .u64 (.ofNat 0),.int .i64 (.ofNat 0)]))) λ a=>G3 E rc k a0 a1 h a)
theorem Np (t:ak)(rc:RC)(a0 a1:Value)(h:H)(k:Value→H→R):(ax (EX t) KK 200).run rc [a0,a1] h k = Xc (EX t) rc a0 a1 h k:=by kernel_rfl
def Zu (a:V)(b:Value)(c:H)(d:Nat):R:=ifB (Nat.ble 8 d) (rc 180 [.agg ⟨ac a 3 5⟩,b,.int .i64 (.ofNat 8)] c λ e f=>onTup e λ g=>nthF 0 g λ h=>onTup e λ i=>nthF 1 i λ _=>joinL (λ j=>k j f) λ j=>jA E j h f)
def abL (a:L)(b:Value)(c:H):R:=ifB (allF (λ d=>cell1F d) a) (ifB (Nat.ble c.1 1000000000) (letH (ag c (.row 144 (lenF a) false false 0 (T.ofList unk a))) λ d=>onRow (hget d c.1) λ _ e _ _ _ f=>Zu E rc k f b d e))
def agy (E:Env)(rc:RC)(a0 a1:Value)(h:H)(k:Value→H→R):R:=onCells a0 λ a=>abL E rc k a a1 h
theorem N9 (t:ak)(rc:RC)(a0 a1:Value)(h:H)(k:Value→H→R):(ax (EX t) KK 117).run rc [a0,a1] h k = agy (EX t) rc a0 a1 h k:=by kernel_rfl
def an2 (a:(aa [])→H→R)(b:V)(c d:Value)(e:H)(f:Nat):R:=ifB (Nat.ble 12 f) (binR (binC E .mul 3 true false) (.int .i64 (.ofNat 8)) c λ g=>rc 105 [.agg ⟨ac b 3 9⟩,g,.int .i64 (.ofNat 8),d] e λ _ h=>a () h)
def aoS (a b c d:Value)(e f:H):R:=onB c (@joinR [] (λ _ g=>k (.tuple ⟨[]⟩) g) λ g=>g () f) (@joinR [] (λ _ g=>k (.tuple ⟨[]⟩) g) λ g=>onB d (g () f) (onRow (hget f e.1) λ _ h _ _ _ i=>an2 E rc g i a b f h))
def amE (a:Value→H→R)(b c:Value)(d:H):R:=aB b (a undef d) (binR (binC E .lss 3 false true) c (.int .i64 (.ofNat 13)) λ e=>a e d) (a undef d)
def an5 (a b:Value)(c d:H):R:=binR (binC E .geq 3 false true) a (.int .i64 (.ofNat 0)) λ e=>ae (λ f g=>ae (λ h i=>aoS E rc k a b e h c i) λ h=>amE E h e f g) λ f=>aB e (f undef d) (f a d) (f undef d)
def aqV (a:L)(b c:Value)(d:H):R:=ifB (allF (λ e=>cell1F e) a) (ifB (Nat.ble d.1 1000000000) (letH (ag d (.row 148 (lenF a) false false 0 (T.ofList unk a))) λ e=>an5 E rc k b c d e))
def g99 (E:Env)(rc:RC)(a0 a1 a2:Value)(h:H)(k:Value→H→R):R:=onCells a0 λ a=>aqV E rc k a a1 a2 h
theorem YS (t:ak)(rc:RC)(a0 a1 a2:Value)(h:H)(k:Value→H→R):(ax (EX t) KK 128).run rc [a0,a1,a2] h k = g99 (EX t) rc a0 a1 a2 h k:=by kernel_rfl
def sO (a:V)(b c:Bool)(d:TypeId)(e f:H)(g h:Nat):R:=ifB (notB c) (ifB (Nat.beq (lenF (cellsOfV (.agg (@List.toArray Value [.pointer none,.int .i64 (.ofNat 0),.int .i64 (.ofNat 0)])))) 3) (ifB (Nat.ble h 0) (ifB (Nat.ble 3 g) (ifB (Nat.ble g 1000000000) (ifB (allF (λ i=>cell1F i) (cellsOfV (.agg (@List.toArray Value [.pointer none,.int .i64 (.ofNat 0),.int .i64 (.ofNat 0)])))) (letH (hset f e.1 (.row d g b false h (putF a 0 (cellsOfV (.agg (@List.toArray Value [.pointer none,.int .i64 (.ofNat 0),.int .i64 (.ofNat 0)])))))) λ i=>bindO (aU E i 131 (Addr.mk e.1 0 none)) λ j=>k j i))))))
def aao (a b:V)(c d:Bool)(e:TypeId)(f g:H)(h i:Nat):R:=ifB (notB d) (ifB (Nat.beq (lenF (ac a 3 0)) 3) (ifB (Nat.ble i 0) (ifB (Nat.ble 3 h) (ifB (Nat.ble h 1000000000) (ifB (allF (λ j=>cell1F j) (ac a 3 0)) (letH (hset g f.1 (.row e h c false i (putF b 0 (ac a 3 0)))) λ j=>bindO (aU E j 131 (Addr.mk f.1 0 none)) λ l=>k l j))))))
def Ts (a b c:H):R:=onRow (hget c b.1) λ _ d _ _ _ e=>ifB (Nat.ble 3 d) (onRow (hget c a.1) λ f g h i j l=>aao E k e l h i f a c g j)
def ai1 (a:L)(b:V)(c d:Bool)(e:TypeId)(f g h:H)(i j:Nat):R:=ifB (notB d) (ifB (Nat.beq (lenF a) 3) (ifB (Nat.ble j 0) (ifB (Nat.ble 3 i) (ifB (Nat.ble i 1000000000) (ifB (allF (λ l=>cell1F l) a) (letH (hset h g.1 (.row e i c false j (putF b 0 a))) λ l=>Ts E k f g l))))))
def As (a:Value)(b c:H):R:=ifB (Nat.ble c.1 1000000000) (letH (ag c (.row 131 3 false false 0 (T.ofList unk [.pointer none,.int .i64 (.ofNat 0),.int .i64 (.ofNat 0)]))) λ d=>onCells a λ e=>onRow (hget d c.1) λ f g h i j l=>ai1 E k e l h i f b c d g j)
def agL (a:aa [5,18])(b:V)(c:Value)(d e:H)(f:Nat):R:=ifB (Nat.ble 12 f) (rc 163 [.agg ⟨ac b 3 9⟩,a.1,c] e λ g h=>onTup g λ i=>nthF 0 i λ j=>onTup g λ l=>nthF 1 l λ _=>As E k j d h)
def acG (a:(aa [5])→H→R)(b:aa [5,18])(c d:Value)(e f g:H):R:=@joinR [] (λ _ h=>binR (binC E .add 3 false false) b.1 c λ i=>a (i,()) h) λ h=>onB d (h () g) (onRow (hget g e.1) λ _ i _ _ _ j=>agL E rc k b j c f g i)
def ach (a:(aa [5])→H→R)(b:aa [5,18])(c d:Value)(e f g:H):R:=bindO (dD E 402 d b.2.1) λ h=>binR (binC E .eql 3 false false) b.2.1 c λ i=>acG E rc k a b h i e f g
def Qw (a:(aa [5,18])→H→R)(b:aa [5,18])(c d:Value)(e f g:H):R:=@joinR [5] (λ h i=>binR (binC E .add 3 false true) b.2.1 (.int .i64 (.ofNat 1)) λ j=>a (h.1,(j,())) i) λ h=>ach E rc k h b c d e f g
def TC (a:(aa [5,18])→H→R)(b:(aa [])→H→R)(c:aa [5,18])(d e:Value)(f g h:H):R:=binR (binC E .lss 3 false true) c.2.1 (.int .i64 (.ofNat 5)) λ i=>@joinR [] (λ _ j=>Qw E rc k a c d e f g j) λ j=>onB i (b () h) (j () h)
def vB (a b:Value)(c d e:H):R:=@joinR [] (λ _ f=>onRow (hget f d.1) λ g h i j l m=>sO E k m i j g d f h l) λ f=>@loopF [5,18] (λ g h i=>TC E rc k g f h a b c d i) 1000000 (.int .i64 (.ofNat 192),(.int .i64 (.ofNat 0),())) e
def H7 (a b c:Value)(d e f:H):R:=onB b (@joinR [] (λ _ g=>rc 365 [] g λ h i=>vB E rc k a h d e i) λ g=>onB c (g () f) (onRow (hget f e.1) λ h i j l m n=>sO E k n j l h e f i m)) (@joinR [] (λ _ g=>rc 365 [] g λ h i=>vB E rc k a h d e i) λ _=>onRow (hget f e.1) λ g h i j l m=>sO E k m i j g e f h l)
def J1 (a:Value→H→R)(b c:Value)(d:H):R:=aB b (binR (binC E .geq 3 false true) c (.int .i64 (.ofNat 5)) λ e=>a e d) (a undef d) (a undef d)
def F8 (a b:Value)(c d e:H):R:=ae (λ f g=>ae (λ h i=>H7 E rc k a b h c d i) λ h=>J1 E h b f g) λ f=>aB b (f a e) (f undef e) (f undef e)
def I3 (a:Value)(b c:H):R:=ifB (Nat.ble c.1 1000000000) (letH (ag c (.row 131 3 false false 0 (T.ofList unk [.pointer none,.int .i64 (.ofNat 0),.int .i64 (.ofNat 0)]))) λ d=>binR (binC E .lss 3 false true) a (.int .i64 (.ofNat 0)) λ e=>F8 E rc k a e b c d)
def Hc (a:L)(b:Value)(c:H):R:=ifB (allF (λ d=>cell1F d) a) (ifB (Nat.ble c.1 1000000000) (letH (ag c (.row 148 (lenF a) false false 0 (T.ofList unk a))) λ d=>I3 E rc k b c d))
def aed (E:Env)(rc:RC)(a0 a1:Value)(h:H)(k:Value→H→R):R:=onCells a0 λ a=>Hc E rc k a a1 h
theorem Mw (t:ak)(rc:RC)(a0 a1:Value)(h:H)(k:Value→H→R):(ax (EX t) KK 346).run rc [a0,a1] h k = aed (EX t) rc a0 a1 h k:=by kernel_rfl
def ahe (a b c:Value)(d e:H):R:=ifB (fx (allF (λ f=>eG f) []) (allF (λ f=>eG f) [.pointer (some (Addr.mk d.1 0 none))])) (rc 160 [a,b,c,.func (.func 326) ⟨[]⟩ ⟨[.pointer (some (Addr.mk d.1 0 none))]⟩] e λ _ f=>k (.int .i64 (.ofNat 0)) f)
def acg (a b:Value)(c d:H):R:=onRow (hget d c.1) λ _ e _ _ _ f=>ifB (Nat.ble 1 e) (bindO (bv E d 9 (getF f 0)) λ g=>ahe rc k a b g c d)
def aeG (a b c:Value)(d e:H):R:=binR (binC E .neq 24 false true) c (.int .i64 (.ofNat 0)) λ f=>@joinR [6] (λ _ g=>acg E rc k a b d g) λ g=>onB f (g (.int .i64 (.ofNat 0),()) e) (k c e)
def Qt (a b:Value)(c d:H):R:=onRow (hget d c.1) λ _ e _ _ _ f=>ifB (Nat.ble 1 e) (bindO (bv E d 9 (getF f 0)) λ g=>rc 159 [a,b,g] d λ h i=>aeG E rc k a b h c i)
def adT (a:L)(b c:Value)(d:H):R:=ifB (allF (λ e=>cell1F e) a) (ifB (Nat.ble d.1 1000000000) (letH (ag d (.row 9 (lenF a) false false 0 (T.ofList unk a))) λ e=>Qt E rc k b c d e))
def Ub (E:Env)(rc:RC)(a0 a1 a2:Value)(h:H)(k:Value→H→R):R:=onCells a2 λ a=>adT E rc k a a0 a1 h
theorem DC (t:ak)(rc:RC)(a0 a1 a2:Value)(h:H)(k:Value→H→R):(ax (EX t) KK 248).run rc [a0,a1,a2] h k = Ub (EX t) rc a0 a1 a2 h k:=by kernel_rfl
def apg (a:V)(b:Addr)(c:Value)(d:H)(e:Nat):R:=ifB (Nat.ble (Nat.succ (Nat.add b.2 1)) e) (joinL (λ f=>cT (bu E d Builtin.unsafeString [c,f] [95,3]) λ g h=>k g h) λ f=>onSl (getF a (Nat.add b.2 1)) (bindO (bv E d 57 (getF a (Nat.add b.2 1))) f) λ _ g _=>f (.int .i64 (.ofNat g)))
def al3 (a:V)(b:Addr)(c:Value)(d:H)(e:Nat):R:=ifB (Nat.ble (Nat.succ (Nat.add b.2 1)) e) (bindO (bn E d Builtin.unsafeSliceData [getF a (Nat.add b.2 1)] [57]) λ f=>bindO (aT c) λ g=>onPtr g λ h=>onRow (hget d h.1) λ _ i _ _ _ j=>apg E k j h f d i)
def g32 (E:Env)(rc:RC)(a0:Value)(h:H)(k:Value→H→R):R:=ifB (Nat.ble h.1 1000000000) (letH (H.mk h.1 h.2) λ a=>bindO (aT a0) λ b=>onPtr b λ c=>onRow (hget a c.1) λ _ d _ _ _ e=>al3 E k e c a0 a d)
theorem aeJ (t:ak)(rc:RC)(a0:Value)(h:H)(k:Value→H→R):(ax (EX t) KK 30).run rc [a0] h k = g32 (EX t) rc a0 h k:=by kernel_rfl
def ang (a:L)(b:V)(c d:Bool)(e:Addr)(f:TypeId)(g:H)(h i:Nat):R:=ifB (notB d) (ifB (Nat.beq (lenF a) 1) (ifB (Nat.ble i (Nat.add e.2 3)) (ifB (Nat.ble (Nat.add (Nat.add e.2 3) 1) h) (ifB (Nat.ble h 1000000000) (ifB (allF (λ j=>cell1F j) a) (letH (hset g e.1 (.row f h c false i (putF b (Nat.add e.2 3) a))) λ j=>k (.int .i64 (.ofNat 0)) j))))))
def aqT (a b:Value)(c:H):R:=bindO (aT a) λ d=>onPtr d λ e=>onCells b λ f=>onRow (hget c e.1) λ g h i j l m=>ang k f m i j e g c h l
def anV (a:V)(b:Addr)(c d:Value)(e:H)(f:Nat):R:=ifB (Nat.ble (Nat.succ (Nat.add b.2 3)) f) (binR (binC E .add 3 false false) (getF a (Nat.add b.2 3)) d λ g=>aqT k c g e)
def apM (a:L)(b:V)(c d:Bool)(e:Addr)(f:TypeId)(g h:Value)(i:H)(j l:Nat):R:=ifB (notB d) (ifB (Nat.beq (lenF a) 2) (ifB (Nat.ble l (Nat.add e.2 1)) (ifB (Nat.ble (Nat.add (Nat.add e.2 1) 2) j) (ifB (Nat.ble j 1000000000) (ifB (allF (λ m=>cell1F m) a) (letH (hset i e.1 (.row f j c false l (putF b (Nat.add e.2 1) a))) λ m=>bindO (aT g) λ n=>onPtr n λ o=>onRow (hget m o.1) λ _ p _ _ _ q=>anV E k q o g h m p))))))
def aoU (a b c d:Value)(e:H):R:=onPtr d λ f=>onCells c λ g=>onRow (hget e f.1) λ h i j l m n=>apM E k g n j l f h a b e i m
def apS (a:V)(b:Addr)(c d e:Value)(f:H)(g:Nat):R:=ifB (Nat.ble (Nat.add (Nat.add b.2 1) 2) g) (rc 229 [.agg ⟨ac a 2 (Nat.add b.2 1)⟩,d,e] f λ h i=>onTup h λ j=>nthF 0 j λ l=>onTup h λ m=>nthF 1 m λ _=>bindO (aT c) λ n=>aoU E k c e l n i)
def apP (a:(aa [])→H→R)(b:V)(c d:Bool)(e:Addr)(f:TypeId)(g h:H)(i j:Nat):R:=ifB (notB d) (ifB (Nat.beq (lenF [.pointer (some (Addr.mk g.1 0 none))]) 1) (ifB (Nat.ble j e.2) (ifB (Nat.ble (Nat.add e.2 1) i) (ifB (Nat.ble i 1000000000) (ifB (allF (λ l=>cell1F l) [.pointer (some (Addr.mk g.1 0 none))]) (letH (hset h e.1 (.row f i c false j (putF b e.2 [.pointer (some (Addr.mk g.1 0 none))]))) λ l=>a () l))))))
def anx (a:(aa [])→H→R)(b:Addr)(c d:H)(e f:Nat):R:=ifB (Nat.ble (Nat.succ e) f) (addOffF b (Nat.mul e 1) λ g=>onPtr g λ h=>onRow (hget d h.1) λ i j l m n o=>apP a o l m h i c d j n)
def aoH (a:(aa [])→H→R)(b:aa [9])(c:V)(d:Addr)(e:H)(f:Nat):R:=ifB (Nat.ble (Nat.succ d.2) f) (ifB (Nat.ble e.1 1000000000) (letH (ag e (.row 290 4096 false false 0 (@T.c Value (.int .u8 (.ofNat 0))))) λ g=>onNat b.1 none λ h=>onSl (getF c d.2) none λ i j _=>anx a i e g h j))
def aqD (a:(aa [])→H→R)(b:aa [9])(c:Value)(d:H):R:=bindO (aT c) λ e=>onPtr e λ _=>onPtr e λ f=>onRow (hget d f.1) λ _ g _ _ _ h=>aoH a b h f d g
def Vw (a:(aa [9])→H→R)(b:aa [9])(c:Value)(d:H):R:=@joinR [] (λ _ e=>binR (binC E .add 3 false true) b.1 (.int .i64 (.ofNat 1)) λ f=>a (f,()) e) λ e=>aqD e b c d
def acX (a:(aa [9])→H→R)(b:(aa [])→H→R)(c:aa [9])(d e:Value)(f:H):R:=binR (binC E .lss 3 false false) c.1 e λ g=>@joinR [] (λ _ h=>Vw E a c d h) λ h=>onB g (b () f) (h () f)
def acL (a:(aa [])→H→R)(b c d:Value)(e:H):R:=@loopF [9] (λ f g h=>binR (binC E .add 3 false false) c d λ i=>acX E f a g b i h) 1000000 (c,()) e
def acH (a b c:Value)(d:H):R:=@joinR [] (λ _ e=>bindO (aT a) λ f=>onPtr f λ g=>onRow (hget e g.1) λ _ h _ _ _ i=>apS E rc k i g a b c e h) λ e=>acL E e a b c d
def Y7 (a:L)(b:V)(c d:Bool)(e:Addr)(f:TypeId)(g h i:Value)(j:H)(l m:Nat):R:=ifB (notB d) (ifB (Nat.beq (lenF a) 1) (ifB (Nat.ble m (Nat.add e.2 5)) (ifB (Nat.ble (Nat.add (Nat.add e.2 5) 1) l) (ifB (Nat.ble l 1000000000) (ifB (allF (λ n=>cell1F n) a) (letH (hset j e.1 (.row f l c false m (putF b (Nat.add e.2 5) a))) λ n=>acH E rc k g h i n))))))
def ad7 (a b c d e:Value)(f:H):R:=onPtr e λ g=>onCells d λ h=>onRow (hget f g.1) λ i j l m n o=>Y7 E rc k h o l m g i a b c f j n
def ad8 (a:V)(b:Addr)(c d e:Value)(f:H)(g:Nat):R:=ifB (Nat.ble (Nat.succ (Nat.add b.2 5)) g) (binR (binC E .sub 3 false true) (getF a (Nat.add b.2 5)) (.int .i64 (.ofNat 1)) λ h=>bindO (bn E f Builtin.max [.int .i64 (.ofNat 0),h] [3,3]) λ i=>bindO (aT c) λ j=>ad7 E rc k c d e i j f)
def RR (a:V)(b c:Bool)(d:Addr)(e:TypeId)(f:H)(g h:Nat):R:=ifB (notB c) (ifB (Nat.beq (lenF [.bool false]) 1) (ifB (Nat.ble h (Nat.add d.2 4)) (ifB (Nat.ble (Nat.add (Nat.add d.2 4) 1) g) (ifB (Nat.ble g 1000000000) (ifB (allF (λ i=>cell1F i) [.bool false]) (letH (hset f d.1 (.row e g b false h (putF a (Nat.add d.2 4) [.bool false]))) λ i=>k (.int .i64 (.ofNat 4)) i))))))
def RA (a:(aa [6])→H→R)(b c:Value)(d:H):R:=onB c (a (.int .i64 (.ofNat 0),()) d) (bindO (aT b) λ e=>onPtr e λ f=>onRow (hget d f.1) λ g h i j l m=>RR k m i j f g d h l)
def agv (a:(aa [6])→H→R)(b:V)(c:Addr)(d e:Value)(f:H):R:=onB (getF b (Nat.add c.2 4)) (@joinR [6] (λ g h=>a (g.1,()) h) λ g=>g (.int .i64 (.ofNat 0),()) f) (@joinR [6] (λ g h=>a (g.1,()) h) λ g=>RA k g d e f)
def VT (a:Value→H→R)(b:V)(c:Addr)(d:Value)(e:H):R:=aB (getF b (Nat.add c.2 4)) (a undef e) (binR (binC E .eql 3 false true) d (.int .i64 (.ofNat 0)) λ f=>a f e) (a undef e)
def aeI (a:Value→H→R)(b:V)(c:Addr)(d:Value)(e:H):R:=aB (getF b (Nat.add c.2 4)) (a undef e) (onPtr d λ f=>onRow (hget e f.1) λ _ g _ _ _ h=>ifB (Nat.ble (Nat.succ f.2) g) (a (getF h f.2) e)) (a undef e)
def abd (a:(aa [6])→H→R)(b:V)(c:Addr)(d e:Value)(f:H):R:=ae (λ g h=>ae (λ i j=>ae (λ l m=>agv k a b c d l m) λ l=>VT E l b c i j) λ i=>aeI i b c g h) λ g=>aB (getF b (Nat.add c.2 4)) (g undef f) (onPtr e λ h=>g (.pointer (some (Addr.mk h.1 (Nat.add h.2 5) none))) f) (g undef f)
def aan (a:(aa [6])→H→R)(b:V)(c:Addr)(d e:Value)(f:H):R:=ae (λ g h=>abd E k a b c d g h) λ g=>aB (getF b (Nat.add c.2 4)) (g undef f) (bindO (aT e) λ h=>g h f) (g undef f)
def Ul (a:(aa [6])→H→R)(b:V)(c:Addr)(d:Value)(e:H)(f:Nat):R:=ifB (Nat.ble (Nat.succ (Nat.add c.2 4)) f) (ae (λ g h=>aan E k a b c d g h) λ g=>aB (getF b (Nat.add c.2 4)) (g undef e) (g d e) (g undef e))
def af5 (a:(aa [6])→H→R)(b c:Value)(d:H):R:=onB c (bindO (aT b) λ e=>onPtr e λ f=>onRow (hget d f.1) λ _ g _ _ _ h=>Ul E k a h f b d g) (k (.int .i64 (.ofNat 9)) d)
def afu (a:(aa [6])→H→R)(b c d e:Value)(f:H):R:=onB e (binR (binC E .gtr 3 false true) c (.int .i64 (.ofNat 0)) λ g=>@joinR [6] (λ h i=>a (h.1,()) i) λ h=>af5 E k h b g f) (k d f)
def ahm (a:(aa [6])→H→R)(b c d:Value)(e:H):R:=binR (binC E .neq 24 false true) d (.int .i64 (.ofNat 0)) λ f=>@joinR [6] (λ g h=>a (g.1,()) h) λ g=>afu E k g b c d f e
def SS (a b c d e:Value)(f:H):R:=@joinR [6] (λ _ g=>bindO (aT a) λ h=>onPtr h λ i=>onRow (hget g i.1) λ _ j _ _ _ l=>ad8 E rc k l i a b c g j) λ g=>ahm E k g a d e f
def g76 (E:Env)(rc:RC)(a0 a1 a2:Value)(h:H)(k:Value→H→R):R:=rc 228 [a0,a1,a2] h λ a b=>onTup a λ c=>nthF 0 c λ d=>onTup a λ e=>nthF 1 e λ f=>SS E rc k a0 a1 a2 d f b
theorem WM (t:ak)(rc:RC)(a0 a1 a2:Value)(h:H)(k:Value→H→R):(ax (EX t) KK 151).run rc [a0,a1,a2] h k = g76 (EX t) rc a0 a1 a2 h k:=by kernel_rfl
def apl (a:(aa [4,5,6,7])→H→R)(b:aa [4,5,6,7])(c:aa [4,5,6])(d:H):R:=binR (binC E .add 3 false true) b.2.2.2.1 (.int .i64 (.ofNat 1)) λ e=>a (c.1,(c.2.1,(c.2.2.1,(e,())))) d
def aqE (a:aa [4,5,6,7])(b:V)(c:Addr)(d:Value)(e:H)(f:Nat):R:=ifB (Nat.ble (Nat.succ (Nat.add c.2 1)) f) (binR (binC E .sub 3 false false) d (getF b (Nat.add c.2 1)) λ g=>ifB (nT [g,a.2.2.2.1,.bool true]) (k (.tuple ⟨[g,a.2.2.2.1,.bool true]⟩) e))
def aoL (a:(aa [4,5,6])→H→R)(b:aa [4,5,6,7])(c d e:Value)(f:H):R:=onB e (a (b.1,(b.2.1,(b.2.2.1,()))) f) (binR (binC E .quo 3 false true) d (.int .i64 (.ofNat 4096)) λ g=>bindO (aT c) λ h=>onPtr h λ i=>onRow (hget f i.1) λ _ j _ _ _ l=>aqE E k b l i g f j)
def apH (a:(aa [4,5,6])→H→R)(b:aa [4,5,6,7])(c:L)(d e:Value)(f:H):R:=nthF 0 c λ g=>onTup e λ h=>nthF 1 h λ i=>@joinR [4,5,6] (λ j l=>a (j.1,(j.2.1,(j.2.2.1,()))) l) λ j=>aoL E k j b d g i f
def alk (a:(aa [4,5,6])→H→R)(b:aa [4,5,6,7])(c:Addr)(d:Value)(e:H):R:=onRow (hget e c.1) λ _ f _ _ _ g=>ifB (Nat.ble (Nat.add (Nat.add c.2 6) 3) f) (rc 232 [.agg ⟨ac g 3 (Nat.add c.2 6)⟩,b.2.2.2.1] e λ h i=>onTup h λ j=>apH E k a b j d h i)
def apE (a:(aa [4,5,6,7])→H→R)(b:(aa [4,5,6])→H→R)(c:aa [4,5,6,7])(d e:Value)(f:H):R:=@joinR [] (λ _ g=>@joinR [4,5,6] (λ h i=>apl E a c h i) λ h=>bindO (aT d) λ i=>onPtr i λ j=>alk E rc k h c j d g) λ g=>onB e (b (c.1,(c.2.1,(c.2.2.1,()))) f) (g () f)
def amd (a:(aa [4,5,6])→H→R)(b c:Value)(d:H):R:=@loopF [4,5,6,7] (λ e f g=>binR (binC E .leq 3 false true) f.2.2.2.1 (.int .i64 (.ofNat 10)) λ h=>apE E rc k e a f b h g) 1000000 (.int .i64 (.ofNat 0),(.int .i64 (.ofNat 0),(.bool false,(c,())))) d
def g78 (E:Env)(rc:RC)(a0 a1:Value)(h:H)(k:Value→H→R):R:=@joinR [4,5,6] (λ _ a=>k (.tuple ⟨[.int .i64 (.ofNat 0),.int .i64 (.ofNat 0),.bool false]⟩) a) λ a=>amd E rc k a a0 a1 h
theorem abT (t:ak)(rc:RC)(a0 a1:Value)(h:H)(k:Value→H→R):(ax (EX t) KK 153).run rc [a0,a1] h k = g78 (EX t) rc a0 a1 h k:=by kernel_rfl
def amJ (a:(aa [5])→H→R)(b:aa [5])(c:Value)(d:H):R:=binR (binC E .shl 3 true false) (.int .i64 (.ofNat 1)) c λ e=>binR (binC E .add 3 false false) b.1 e λ f=>a (f,()) d
def akO (a:(aa [5])→H→R)(b:aa [5])(c d e:Value)(f:H):R:=binR (binC E .sub 3 false true) e (.int .i64 (.ofNat 1)) λ g=>bindO (bn E f Builtin.min [d,g] [3,3]) λ h=>rc 236 [c,b.1,h] f λ _ i=>amJ E a b h i
def Pr (a:Value→R)(b:Value)(c:H):R:=onNat b (bindO (aQ E c 3 52 b) a) λ d=>@Bool.rec (λ _=>R) (bindO (aQ E c 3 52 b) a) (a (.int .u64 (.ofNat d))) (Nat.ble d 18446744073709551615)
def apv (a:(aa [5])→H→R)(b:aa [5])(c d e:Value)(f:H):R:=binR (binC E .sub 3 false false) d b.1 λ g=>joinL (λ h=>rc 235 [h] f λ i j=>akO E rc a b c e i j) λ h=>Pr E h g f
def amQ (a:(aa [5])→H→R)(b:aa [5])(c d:Value)(e:H):R:=binR (binC E .or 3 false true) b.1 (.int .i64 (.ofNat 1024)) λ f=>joinL (λ g=>rc 234 [g] e λ h i=>apv E rc a b c d h i) λ g=>Pr E g f e
def alY (a:(aa [5])→H→R)(b:(aa [])→H→R)(c:aa [5])(d e:Value)(f:H):R:=binR (binC E .lss 3 false false) c.1 e λ g=>@joinR [] (λ _ h=>@joinR [5] (λ i j=>a (i.1,()) j) λ i=>amQ E rc i c d e h) λ h=>onB g (b () f) (h () f)
def ap2 (a b c d:Value)(e:H):R:=@joinR [] (λ _ f=>rc 236 [a,d,b] f λ _ g=>k (.int .i64 (.ofNat 0)) g) λ f=>@loopF [5] (λ g h i=>alY E rc g f h a d i) 1000000 (c,()) e
def apB (a:V)(b:Addr)(c d e f g:Value)(h:H):R:=rc 105 [.agg ⟨ac a 3 (Nat.add b.2 3)⟩,.int .i64 (.ofNat 96),.int .i64 (.ofNat 8),g] h λ _ i=>ap2 E rc k c d e f i
def js (a:Value→R)(b:Value)(c:H):R:=onNat b (bindO (aQ E c 3 92 b) a) λ d=>@Bool.rec (λ _=>R) (bindO (aQ E c 3 92 b) a) (a (.int .u64 (.ofNat d))) (Nat.ble d 18446744073709551615)
def Rm (a:V)(b:Addr)(c d e f g:Value)(h:H)(i:Nat):R:=ifB (Nat.ble (Nat.add (Nat.add b.2 3) 3) i) (binR (binC E .add 3 false false) g e λ j=>joinL (λ l=>apB E rc k a b c d f g l h) λ l=>js E l j h)
def aem (a b c d e:Value)(f:H):R:=bindO (aT a) λ g=>onPtr g λ h=>onRow (hget f h.1) λ _ i _ _ _ j=>Rm E rc k j h a b c d e f i
def aib (a:aa [4])(b c d e f g:Value)(h:H):R:=binR (binC E .neq 24 false true) g (.int .i64 (.ofNat 0)) λ i=>@joinR [4] (λ _ j=>aem E rc k b c d e f j) λ j=>onB i (j (a.1,()) h) (k (.int .i64 (.ofNat 4)) h)
def Z7 (a:aa [4])(b:V)(c:Addr)(d e f g h i j:Value)(l:H):R:=binR (binC E .sub 3 false false) j g λ m=>rc 151 [getF b c.2,i,m] l λ n o=>aib E rc k a d e f g h n o
def afs (a:aa [4])(b c:V)(d e:Addr)(f g h i j:Value)(l:H)(m:Nat):R:=ifB (Nat.ble (Nat.succ (Nat.add e.2 1)) m) (binR (binC E .add 3 false false) (getF c (Nat.add e.2 1)) i λ n=>binR (binC E .add 3 false false) j h λ o=>Z7 E rc k a b d f g h i j n o l)
def P0 (a:aa [4])(b:V)(c:Addr)(d e f g h:Value)(i:H)(j:Nat):R:=ifB (Nat.ble (Nat.succ c.2) j) (bindO (aT d) λ l=>onPtr l λ m=>onRow (hget i m.1) λ _ n _ _ _ o=>afs E rc k a b o c m d e f g h i n)
def af7 (a:aa [4])(b c d e f:Value)(g:H):R:=bindO (aT b) λ h=>onPtr h λ _=>onPtr h λ i=>onRow (hget g i.1) λ _ j _ _ _ l=>P0 E rc k a l i b c d e f g j
def RY (a:aa [4])(b c d e f g:Value)(h:H):R:=@joinR [4] (λ i j=>ifB (Nat.ble j.1 1000000000) (letH (H.mk j.1 j.2) λ l=>af7 E rc k i b c d e f l)) λ i=>onB g (i (a.1,()) h) (k (.int .i64 (.ofNat 4)) h)
def Rh (a:aa [4])(b:V)(c:Addr)(d e f g h:Value)(i:H)(j:Nat):R:=ifB (Nat.ble (Nat.succ (Nat.add c.2 2)) j) (binR (binC E .sub 3 false false) (getF b (Nat.add c.2 2)) f λ l=>binR (binC E .gtr 3 false false) h l λ m=>RY E rc k a d e f g h m i)
def akc (a:aa [4])(b c d e f:Value)(g:H):R:=bindO (aT b) λ h=>onPtr h λ i=>onRow (hget g i.1) λ _ j _ _ _ l=>Rh E rc k a l i b c d e f g j
def Wy (a:aa [4])(b c d e f:Value)(g:H):R:=binR (binC E .sub 3 false true) d (.int .i64 (.ofNat 1)) λ h=>binR (binC E .andNot 3 false false) f h λ i=>akc E rc k a b c d e i g
def aal (a:aa [4])(b c d e f:Value)(g:H):R:=ifB (aj f d) (binR (binC E .add 3 false false) e d λ h=>binR (binC E .sub 3 false true) h (.int .i64 (.ofNat 1)) λ i=>Wy E rc k a b c d e i g)
def acm (a:aa [4])(b c d e:Value)(f:H):R:=ifB (aj c c) (binR (binC E .shl 3 true false) (.int .i64 (.ofNat 1)) c λ g=>aal E rc k a b c d e g f)
def Sq (a:aa [4])(b c:Value)(d:H):R:=binR (binC E .shl 3 true false) (.int .i64 (.ofNat 1)) c λ e=>rc 233 [b] d λ f g=>acm E rc k a b c e f g
def Bl (a:(aa [4])→H→R)(b c:Value)(d:H):R:=onB b (@joinR [4] (λ e f=>a (e.1,()) f) λ e=>onB c (e (.int .i64 (.ofNat 0),()) d) (k (.int .i64 (.ofNat 2)) d)) (@joinR [4] (λ e f=>a (e.1,()) f) λ _=>k (.int .i64 (.ofNat 2)) d)
def Ri (a:(aa [4])→H→R)(b c:Value)(d:H):R:=onB c (binR (binC E .lss 3 false true) b (.int .i64 (.ofNat 0)) λ e=>ae (λ f g=>ae (λ h i=>Bl k a e h i) λ h=>mS E h e f g) λ f=>aB e (f b d) (f undef d) (f undef d)) (k (.int .i64 (.ofNat 1)) d)
def QH (a:(aa [4])→H→R)(b c:Value)(d:H):R:=binR (binC E .eql 170 false true) b (.pointer none) λ e=>@joinR [4] (λ f g=>a (f.1,()) g) λ f=>Ri E k f c e d
def g79 (E:Env)(rc:RC)(a0 a1:Value)(h:H)(k:Value→H→R):R:=@joinR [4] (λ a b=>ifB (Nat.ble b.1 1000000000) (letH (H.mk b.1 b.2) λ c=>Sq E rc k a a0 a1 c)) λ a=>QH E k a a0 a1 h
theorem UT (t:ak)(rc:RC)(a0 a1:Value)(h:H)(k:Value→H→R):(ax (EX t) KK 154).run rc [a0,a1] h k = g79 (EX t) rc a0 a1 h k:=by kernel_rfl
def alH (a b:V)(c d e:Value)(f:H)(g:Nat):R:=ifB (Nat.ble 3 g) (ifB (aj (.agg ⟨ac b 3 0⟩) (.agg ⟨ac a 3 0⟩)) (ifB (aj c c) (ifB (aj d d) (rc 240 [.agg ⟨ac a 3 0⟩,c,d,e] f λ _ h=>k (.int .i64 (.ofNat 0)) h))))
def aoe (a b:V)(c d e:Value)(f g:H)(h:Nat):R:=ifB (Nat.ble 3 h) (rc 239 [.agg ⟨ac b 3 0⟩,c,d] g λ i j=>onRow (hget j f.1) λ _ l _ _ _ m=>alH rc k a m c e i j l)
def Pb (a b c:Value)(d e:H):R:=onRow (hget e d.1) λ _ f _ _ _ g=>ifB (Nat.ble 3 f) (onRow (hget e d.1) λ _ h _ _ _ i=>aoe rc k g i a b c d e h)
def aoc (a:aa [6])(b c d e f:Value)(g h:H):R:=onB e (@joinR [6] (λ _ i=>ifB (Nat.ble i.1 1000000000) (letH (H.mk i.1 i.2) λ j=>Pb rc k b c d g j)) λ i=>onB f (i (a.1,()) h) (k (.int .i64 (.ofNat 8)) h)) (@joinR [6] (λ _ i=>ifB (Nat.ble i.1 1000000000) (letH (H.mk i.1 i.2) λ j=>Pb rc k b c d g j)) λ _=>k (.int .i64 (.ofNat 8)) h)
def aq8 (a:aa [6])(b c d e f g:Value)(h i:H):R:=ae (λ j l=>aoc rc k a b c d e j h l) λ j=>aB e (binR (binC E .neq 3 false false) f g λ l=>j l i) (j undef i) (j undef i)
def akW (a:aa [6])(b c d e f g h:Value)(i j:H):R:=ae (λ l m=>ae (λ n o=>aq8 E rc k a b c d e l n i o) λ n=>aB e (n c m) (n undef m) (n undef m)) λ l=>aB e (rc 239 [f,g,h] j l) (l undef j) (l undef j)
def aqn (a:aa [6])(b c d e f:Value)(g h:H):R:=ae (λ i j=>ae (λ l m=>akW E rc k a b c d e f i l g m) λ l=>aB e (l d j) (l undef j) (l undef j)) λ i=>aB e (i b h) (i undef h) (i undef h)
def sY (a:Value→H→R)(b:Value)(c d:H):R:=aB b (onRow (hget d c.1) λ _ e _ _ _ f=>ifB (Nat.ble 3 e) (a (.agg ⟨ac f 3 0⟩) d)) (a undef d) (a undef d)
def VZ (a:aa [6])(b c d:Value)(e f:H):R:=binR (binC E .lss 3 false true) c (.int .i64 (.ofNat 1)) λ g=>ae (λ h i=>aqn E rc k a b c d g h e i) λ h=>sY h g e f
def Yj (a:aa [6])(b c:Value)(d e:H):R:=onRow (hget e d.1) λ _ f _ _ _ g=>ifB (Nat.ble 3 f) (rc 238 [.agg ⟨ac g 3 0⟩,b,c] e λ h i=>VZ E rc k a b c h d i)
def Xb (a b c:Value)(d e:H):R:=binR (binC E .neq 24 false true) c (.int .i64 (.ofNat 0)) λ f=>@joinR [6] (λ g h=>Yj E rc k g a b d h) λ g=>onB f (g (.int .i64 (.ofNat 0),()) e) (k c e)
def TJ (a b:Value)(c d:H):R:=onRow (hget d c.1) λ _ e _ _ _ f=>ifB (Nat.ble 3 e) (rc 237 [.agg ⟨ac f 3 0⟩,a] d λ g h=>Xb E rc k a b g c h)
def abz (a:L)(b c:Value)(d:H):R:=ifB (allF (λ e=>cell1F e) a) (ifB (Nat.ble d.1 1000000000) (letH (ag d (.row 175 (lenF a) false false 0 (T.ofList unk a))) λ e=>TJ E rc k b c d e))
def g80 (E:Env)(rc:RC)(a0 a1 a2:Value)(h:H)(k:Value→H→R):R:=onCells a0 λ a=>abz E rc k a a1 a2 h
theorem Yi (t:ak)(rc:RC)(a0 a1 a2:Value)(h:H)(k:Value→H→R):(ax (EX t) KK 155).run rc [a0,a1,a2] h k = g80 (EX t) rc a0 a1 a2 h k:=by kernel_rfl
def aqe (a:V)(b:Addr)(c:Value)(d:H)(e:Nat):R:=ifB (Nat.ble (Nat.succ (Nat.add b.2 1)) e) (binR (binC E .add 3 false false) (getF a (Nat.add b.2 1)) c λ f=>binR (binC E .mul 3 false true) f (.int .i64 (.ofNat 4096)) λ g=>k g d)
def g81 (E:Env)(rc:RC)(a0 a1:Value)(h:H)(k:Value→H→R):R:=bindO (aT a0) λ a=>onPtr a λ b=>onRow (hget h b.1) λ _ c _ _ _ d=>aqe E k d b a1 h c
theorem XR (t:ak)(rc:RC)(a0 a1:Value)(h:H)(k:Value→H→R):(ax (EX t) KK 156).run rc [a0,a1] h k = g81 (EX t) rc a0 a1 h k:=by kernel_rfl
def aoE (a:V)(b c d e:Value)(f:H):R:=ifB (aj e c) (binR (binC E .add 9 false false) c d λ g=>rc 242 [.agg ⟨ac a 3 0⟩,b,g] f λ h i=>k h i)
def aqg (a:aa [9,10])(b c:V)(d e f:Value)(g h:H)(i:Nat):R:=ifB (Nat.ble 3 i) (ifB (aj (.agg ⟨ac c 3 0⟩) (.agg ⟨ac b 3 0⟩)) (ifB (aj d d) (ifB (aj a.1 a.1) (bindO (aQ E h 57 9 (.slice (some (Addr.mk g.1 0 none)) 1 2)) λ j=>aoE E rc k b d e f j h))))
def ap0 (a:aa [9,10])(b:V)(c d e:Value)(f g h:H):R:=ifB (aj (.pointer (some (Addr.mk f.1 0 none))) (.pointer (some (Addr.mk f.1 0 none)))) (onRow (hget h f.1) λ _ i _ _ _ j=>aqg E rc k a b j c d e g h i)
def alV (a:aa [9,10])(b:V)(c d e f:Value)(g h i:H):R:=binR (binC E .sub 3 false true) f (.int .i64 (.ofNat 1)) λ j=>rc 11 [e,j] i λ l m=>ap0 E rc k a b c d l g h m
def amC (a:aa [9,10])(b:V)(c d e f:Value)(g h i:H):R:=binR (binC E .shl 3 true false) (.int .i64 (.ofNat 1)) d λ j=>alV E rc k a b c e f j g h i
def aqF (a:aa [9,10])(b:L)(c:V)(d e f:Value)(g h i:H):R:=letH (hset i (Nat.add h.1 1) (.row 5 1 false false 0 (T.ofList unk b))) λ j=>bindO (aQ E j 57 9 (.slice (some (Addr.mk (Nat.add h.1 1) 0 none)) 1 2)) λ l=>amC E rc k a c d e f l g h j
def amx (a:aa [9,10])(b:V)(c d e:Value)(f g h:H):R:=@Option.rec (List Value) (λ _=>R) none (λ i=>aqF E rc k a i b c d e f g h) (cG (λ i=>some (Nat.mul i 1,1)) (List.flatten (List.replicate 1 (cellsOfV (.int .u8 (.ofNat 0))))) [(0,a.2.1)])
def anm (a:aa [9,10])(b:L)(c:V)(d e:Value)(f g h:H):R:=letH (hset h g.1 (.row 5 1 false false 0 (T.ofList unk b))) λ i=>bindO (aQ E i 57 9 (.slice (some (Addr.mk g.1 0 none)) 1 2)) λ j=>amx E rc k a c d e j f g i
def aqK (a:aa [9,10])(b:V)(c d:Value)(e f g:H)(h:Nat):R:=ifB (Nat.ble 3 h) (@Option.rec (List Value) (λ _=>R) none (λ i=>anm E rc k a i b c d e f g) (cG (λ i=>some (Nat.mul i 1,1)) (List.flatten (List.replicate 1 (cellsOfV (.int .u8 (.ofNat 0))))) [(0,a.1)]))
def ak4 (a:aa [9,10])(b c:Value)(d e:H):R:=ifB (Nat.ble e.1 1000000000) (letH (H.mk (Nat.add e.1 2) e.2) λ f=>onRow (hget f d.1) λ _ g _ _ _ h=>aqK E rc k a h b c d e f g)
def Vo (a b c d e:Value)(f g:H):R:=binR (binC E .eql 5 false true) c (.int .u8 (.ofNat 0)) λ h=>@joinR [9,10] (λ i j=>ak4 E rc k i a b f j) λ i=>onB h (i (d,(e,())) g) (i (.int .u8 (.ofNat 0),(.int .u8 (.ofNat 0),())) g)
def aeY (a b c d:Value)(e f:H):R:=rc 241 [.agg ⟨lay (cellsOfV (.agg (@List.toArray Value [.int .u8 (.ofNat 0),.int .u8 (.ofNat 0)]))) 0 (cellsOfV (.int .u8 (.ofNat 1)))⟩] f λ g h=>Vo E rc k a b c d g e h
def S3 (a b c:Value)(d e:H):R:=joinL (λ f=>bindO (cg E 299 [(0,c),(1,f)]) λ g=>rc 241 [g] e λ h i=>aeY E rc k a b c h d i) λ f=>onNat b (bindO (aQ E e 3 5 b) f) λ g=>@Bool.rec (λ _=>R) (bindO (aQ E e 3 5 b) f) (f (.int .u8 (.ofNat g))) (Nat.ble g 255)
def agz (a:(aa [16])→H→R)(b c:Value)(d:H):R:=onB c (binR (binC E .gtr 5 false true) b (.int .u8 (.ofNat 3)) λ e=>a (e,()) d) (a (c,()) d)
def ajL (a:(aa [16])→H→R)(b c:Value)(d:H):R:=onB c (binR (binC E .eql 5 false true) b (.int .u8 (.ofNat 1)) λ e=>@joinR [16] (λ f g=>a (f.1,()) g) λ f=>agz E f b e d) (a (c,()) d)
def agu (a:(aa [8])→H→R)(b c d:Value)(e:H):R:=onB c (@joinR [16] (λ f g=>@joinR [8] (λ h i=>a (h.1,()) i) λ h=>onB f.1 (h (.int .i64 (.ofNat 0),()) g) (k (.int .i64 (.ofNat 2)) g)) λ f=>ajL E f b d e) (@joinR [16] (λ f g=>@joinR [8] (λ h i=>a (h.1,()) i) λ h=>onB f.1 (h (.int .i64 (.ofNat 0),()) g) (k (.int .i64 (.ofNat 2)) g)) λ f=>f (.bool true,()) e)
def afg (a:(aa [8])→H→R)(b c d:Value)(e:H):R:=ae (λ f g=>ae (λ h i=>agu E k a c d h i) λ h=>mS E h d f g) λ f=>aB d (f b e) (f undef e) (f undef e)
def UE (a:(aa [8])→H→R)(b c d:Value)(e:H):R:=onB d (binR (binC E .lss 3 false true) b (.int .i64 (.ofNat 0)) λ f=>afg E k a b c f e) (k (.int .i64 (.ofNat 1)) e)
def aie (a:(aa [8])→H→R)(b:V)(c d:Value)(e:H)(f:Nat):R:=ifB (Nat.ble 1 f) (binR (binC E .eql 123 false true) (getF b 0) (.pointer none) λ g=>@joinR [8] (λ h i=>a (h.1,()) i) λ h=>UE E k h c d g e)
def Y4 (a b c:Value)(d e:H):R:=@joinR [8] (λ _ f=>S3 E rc k a b c d f) λ f=>onRow (hget e d.1) λ _ g _ _ _ h=>aie E k f h b c e g
def Rw (a:L)(b c d:Value)(e:H):R:=ifB (allF (λ f=>cell1F f) a) (ifB (Nat.ble e.1 1000000000) (letH (ag e (.row 176 (lenF a) false false 0 (T.ofList unk a))) λ f=>Y4 E rc k b c d e f))
def g82 (E:Env)(rc:RC)(a0 a1 a2 a3:Value)(h:H)(k:Value→H→R):R:=onCells a0 λ a=>Rw E rc k a a1 a2 a3 h
theorem Z0 (t:ak)(rc:RC)(a0 a1 a2 a3:Value)(h:H)(k:Value→H→R):(ax (EX t) KK 157).run rc [a0,a1,a2,a3] h k = g82 (EX t) rc a0 a1 a2 a3 h k:=by kernel_rfl
end
end Go.Ev
