/-
  Functions of a program as plain Lean, for any table of functions that are answered for; printed by a program.
-/
import Derived.Test.YtlahhbdihpbbgaaGreatDoorMb
set_option linter.unusedVariables false
set_option linter.unusedSimpArgs false
namespace Go.Ev
open Go F Go.Proofs
set_option maxRecDepth 100000
set_option linter.unusedVariables false
noncomputable section
variable (E : Env) (rc : RC) (k : Value → H → R)
def acC (a b:V)(c d:Value)(e:H)(f:Nat):R:=ifB (Nat.ble 2 f) (binR (binC E .add 3 false false) (getF b 1) c λ g=>rc 243 [getF a 0,g,d] e λ h i=>tp k h i)
def Sd (a b:Value)(c d:H):R:=onRow (hget d c.1) λ _ e _ _ _ f=>ifB (Nat.ble 1 e) (onRow (hget d c.1) λ _ g _ _ _ h=>acC E rc k f h a b d g)
def afE (a:(aa [6,7])→H→R)(b c:Value)(d:H):R:=onB c (a (.string (ByteArray.mk #[]),(.int .i64 (.ofNat 0),())) d) (ifB (nT [.string (ByteArray.mk #[]),b]) (k (.tuple ⟨[.string (ByteArray.mk #[]),b]⟩) d))
def ah6 (a b c:Value)(d e:H):R:=binR (binC E .neq 24 false true) c (.int .i64 (.ofNat 0)) λ f=>@joinR [6,7] (λ _ g=>Sd E rc k a b d g) λ g=>afE k g c f e
def adw (a b:Value)(c d:H):R:=onRow (hget d c.1) λ _ e _ _ _ f=>ifB (Nat.ble 3 e) (rc 170 [.agg ⟨ac f 3 0⟩,a,b] d λ g h=>ah6 E rc k a b g c h)
def ajP (a:L)(b c:Value)(d:H):R:=ifB (allF (λ e=>cell1F e) a) (ifB (Nat.ble d.1 1000000000) (letH (ag d (.row 131 (lenF a) false false 0 (T.ofList unk a))) λ e=>adw E rc k b c d e))
def Yn (E:Env)(rc:RC)(a0 a1 a2:Value)(h:H)(k:Value→H→R):R:=onCells a0 λ a=>ajP E rc k a a1 a2 h
theorem J5 (t:ak)(rc:RC)(a0 a1 a2:Value)(h:H)(k:Value→H→R):(ax (EX t) KK 277).run rc [a0,a1,a2] h k = Yn (EX t) rc a0 a1 a2 h k:=by kernel_rfl
def Z5 (a b:V)(c:H)(d:Nat):R:=ifB (Nat.ble 1 d) (joinL (λ e=>rc 335 [.agg ⟨ac a 1 0⟩,e] c λ f g=>k f g) λ e=>onSl (getF b 0) (bindO (bv E c 256 (getF b 0)) e) λ _ f _=>e (.int .i64 (.ofNat f)))
def VI (a b:H):R:=onRow (hget b a.1) λ _ c _ _ _ d=>ifB (Nat.ble 1 c) (onRow (hget b a.1) λ _ e _ _ _ f=>Z5 E rc k d f b e)
def Ry (a:L)(b:H):R:=ifB (allF (λ c=>cell1F c) a) (ifB (Nat.ble b.1 1000000000) (letH (ag b (.row 258 (lenF a) false false 0 (T.ofList unk a))) λ c=>VI E rc k b c))
def ahO (E:Env)(rc:RC)(a0:Value)(h:H)(k:Value→H→R):R:=onCells a0 λ a=>Ry E rc k a h
theorem DV (t:ak)(rc:RC)(a0:Value)(h:H)(k:Value→H→R):(ax (EX t) KK 278).run rc [a0] h k = ahO (EX t) rc a0 h k:=by kernel_rfl
def Yd (a b c:V)(d e:Addr)(f:Value)(g:H)(h:Nat):R:=ifB (Nat.ble (Nat.succ e.2) h) (ifB (aj (getF c e.2) (getF b d.2)) (rc 180 [.agg ⟨ac a 3 0⟩,f,getF b d.2] g λ i j=>onTup i λ l=>zB k l i j))
def afC (a b:V)(c d:Addr)(e f:Value)(g:H)(h i:Nat):R:=ifB (Nat.ble (Nat.succ h) i) (addOffF d (Nat.mul h 1) λ j=>ifB (aj j e) (onPtr e λ l=>onRow (hget g l.1) λ _ m _ _ _ n=>Yd rc k a b n c l f g m))
def ah0 (a b c d:V)(e:Addr)(f g h:Value)(i:H)(j:Nat):R:=ifB (Nat.ble 1 j) (ifB (aj (getF d 0) (getF b 0)) (ifB (aj f f) (onNat f none λ l=>onSl (getF b 0) none λ m n _=>afC rc k a c e m g h i l n)))
def VL (a b c d:V)(e:Addr)(f g h:Value)(i j:H)(l:Nat):R:=ifB (Nat.ble 3 l) (ifB (aj (.agg ⟨ac d 3 0⟩) (.agg ⟨ac a 3 0⟩)) (ifB (aj (.pointer (some (Addr.mk i.1 0 none))) (.pointer (some (Addr.mk i.1 0 none)))) (onRow (hget j i.1) λ _ m _ _ _ n=>ah0 rc k a b c n e f g h j m)))
def aiB (a b c d:V)(e:Addr)(f g:Value)(h i j:H)(l:Nat):R:=ifB (Nat.ble (Nat.succ e.2) l) (rc 306 [.agg ⟨ac b 1 0⟩,f] j λ m n=>onRow (hget n i.1) λ _ o _ _ _ p=>VL rc k a c d p e f g m h n o)
def aaZ (a b c:V)(d:Addr)(e:Value)(f g h:H)(i j:Nat):R:=ifB (Nat.ble (Nat.succ i) j) (addOffF d (Nat.mul i 1) λ l=>onPtr l λ m=>onRow (hget h m.1) λ _ n _ _ _ o=>aiB rc k a b c o m e l f g h n)
def Uy (a b:V)(c:Value)(d e f:H)(g:Nat):R:=ifB (Nat.ble 1 g) (onRow (hget f d.1) λ _ h _ _ _ i=>ifB (Nat.ble 1 h) (onNat c none λ j=>onSl (getF i 0) none λ l m _=>aaZ rc k a b i l c d e f j m))
def By (a:Value)(b c d:H):R:=onRow (hget d c.1) λ _ e _ _ _ f=>ifB (Nat.ble 3 e) (onRow (hget d b.1) λ _ g _ _ _ h=>Uy rc k f h a b c d g)
def K3 (a b:Value)(c d e:H):R:=onB b (@joinR [6,7] (λ _ f=>ifB (Nat.ble f.1 1000000000) (letH (H.mk f.1 f.2) λ g=>By rc k a c d g)) λ _=>k (.tuple ⟨[.int .u64 (.ofNat 0),.int .i64 (.ofNat 2)]⟩) e) (@joinR [6,7] (λ _ f=>ifB (Nat.ble f.1 1000000000) (letH (H.mk f.1 f.2) λ g=>By rc k a c d g)) λ f=>f (.int .u64 (.ofNat 0),(.int .i64 (.ofNat 0),())) e)
def EW (a:Value)(b c d:H):R:=onRow (hget d b.1) λ _ e _ _ _ f=>ifB (Nat.ble 1 e) (rc 336 [.agg ⟨ac f 1 0⟩,a] d λ g h=>K3 rc k a g b c h)
def C5 (a:L)(b:Value)(c d:H):R:=ifB (allF (λ e=>cell1F e) a) (ifB (Nat.ble d.1 1000000000) (letH (ag d (.row 131 (lenF a) false false 0 (T.ofList unk a))) λ e=>EW rc k b c d e))
def Ey (a:L)(b c:Value)(d:H):R:=ifB (allF (λ e=>cell1F e) a) (ifB (Nat.ble d.1 1000000000) (letH (ag d (.row 258 (lenF a) false false 0 (T.ofList unk a))) λ e=>onCells b λ f=>C5 rc k f c d e))
def ajF (E:Env)(rc:RC)(a0 a1 a2:Value)(h:H)(k:Value→H→R):R:=onCells a0 λ a=>Ey rc k a a1 a2 h
theorem Dr (t:ak)(rc:RC)(a0 a1 a2:Value)(h:H)(k:Value→H→R):(ax (EX t) KK 280).run rc [a0,a1,a2] h k = ajF (EX t) rc a0 a1 a2 h k:=by kernel_rfl
def B8 (a:Value→R)(b:V)(c:H):R:=onNat (getF b 3) (bindO (aQ E c 3 92 (getF b 3)) a) λ d=>@Bool.rec (λ _=>R) (bindO (aQ E c 3 92 (getF b 3)) a) (a (.int .u64 (.ofNat d))) (Nat.ble d 18446744073709551615)
def XA (a b c:V)(d e:Value)(f g:H)(h:Nat):R:=ifB (Nat.ble 4 h) (ifB (aj (getF c 3) (getF b 3)) (joinL (λ i=>ifB (aj i d) (rc 198 [e,.agg ⟨ac a 3 0⟩,.slice (some (Addr.mk f.1 0 none)) 4 8] g λ j l=>k j l)) λ i=>B8 E i b g))
def ZT (a b c d:V)(e f:Value)(g h i:H)(j:Nat):R:=ifB (Nat.ble 3 j) (ifB (aj (getF d 2) (getF b 2)) (ifB (aj (.pointer (some (Addr.mk g.1 3 none))) (.pointer (some (Addr.mk g.1 3 none)))) (onRow (hget i g.1) λ _ l _ _ _ m=>XA E rc k a c m e f h i l)))
def ad0 (a b c:V)(d e f g:Value)(h i j:H):R:=ifB (aj g d) (ifB (aj (.pointer (some (Addr.mk h.1 2 none))) (.pointer (some (Addr.mk h.1 2 none)))) (onRow (hget j h.1) λ _ l _ _ _ m=>ZT E rc k a b c m e f h i j l))
def o8 (a:Value→R)(b:V)(c:H):R:=onNat (getF b 1) (bindO (aQ E c 3 92 (getF b 1)) a) λ d=>@Bool.rec (λ _=>R) (bindO (aQ E c 3 92 (getF b 1)) a) (a (.int .u64 (.ofNat d))) (Nat.ble d 18446744073709551615)
def afQ (a b c d e:V)(f g h:Value)(i j l:H)(m:Nat):R:=ifB (Nat.ble 2 m) (ifB (aj (getF e 1) (getF b 1)) (joinL (λ n=>ad0 E rc k a c d f g h n i j l) λ n=>o8 E n b l))
def adJ (a b c d e:V)(f g h:Value)(i j l:H)(m:Nat):R:=ifB (Nat.ble 3 m) (ifB (aj (.agg ⟨ac e 3 0⟩) (.agg ⟨ac a 3 0⟩)) (ifB (aj (.pointer (some (Addr.mk i.1 1 none))) (.pointer (some (Addr.mk i.1 1 none)))) (onRow (hget l i.1) λ _ n _ _ _ o=>afQ E rc k a b c d o f g h i j l n)))
def aiE (a:L)(b c d e:V)(f g:Value)(h i j l:H):R:=letH (hset l j.1 (.row 92 4 false false 0 (T.ofList unk a))) λ m=>rc 281 [] m λ n o=>onRow (hget o i.1) λ _ p _ _ _ q=>adJ E rc k b c d e q f g n h j o p
def aiI (a b c d:V)(e f:Value)(g h i j:H):R:=@Option.rec (List Value) (λ _=>R) none (λ l=>aiE E rc k l a b c d e f g h i j) (cG (λ l=>some (Nat.mul l 1,1)) (List.flatten (List.replicate 4 (cellsOfV (.int .u64 (.ofNat 0))))) [(0,.int .u64 (.ofNat 1263421507)),(1,e),(2,getF c 2),(3,f)])
def ND (a b c:V)(d:Value)(e f g h:H)(i:Nat):R:=ifB (Nat.ble 3 i) (onRow (hget h e.1) λ _ j _ _ _ l=>ifB (Nat.ble 4 j) (joinL (λ m=>aiI E rc k a b c l d m e f g h) λ m=>B8 E m l h))
def Io (a b:V)(c d e f:H)(g:Nat):R:=ifB (Nat.ble 2 g) (joinL (λ h=>onRow (hget f c.1) λ _ i _ _ _ j=>ND E rc k a b j h c d e f i) λ h=>o8 E h b f)
def IF (a b c d:H):R:=onRow (hget d b.1) λ _ e _ _ _ f=>ifB (Nat.ble 3 e) (onRow (hget d a.1) λ _ g _ _ _ h=>Io E rc k f h a b c d g)
def Gv (a:aa [4])(b c:Value)(d e f:H):R:=@joinR [4] (λ _ g=>ifB (Nat.ble g.1 1000000000) (letH (H.mk (Nat.add g.1 1) g.2) λ h=>IF E rc k d e g h)) λ g=>onB c (g (a.1,()) f) (k b f)
def Ka (a:aa [4])(b:L)(c:V)(d e:Bool)(f:TypeId)(g:Value)(h i j:H)(l m:Nat):R:=ifB (notB e) (ifB (Nat.beq (lenF b) 3) (ifB (Nat.ble m 0) (ifB (Nat.ble 3 l) (ifB (Nat.ble l 1000000000) (ifB (allF (λ n=>cell1F n) b) (letH (hset j i.1 (.row f l d false m (putF c 0 b))) λ n=>binR (binC E .neq 24 false true) g (.int .i64 (.ofNat 0)) λ o=>Gv E rc k a g o h i n))))))
def IU (a:aa [4])(b c:Value)(d e:H):R:=ifB (Nat.ble e.1 1000000000) (letH (ag e (.row 131 3 false false 0 (T.ofList unk [.pointer none,.int .i64 (.ofNat 0),.int .i64 (.ofNat 0)]))) λ f=>onCells b λ g=>onRow (hget f e.1) λ h i j l m n=>Ka E rc k a g n j l h c d e f i m)
def CP (a:aa [4])(b:V)(c:Value)(d e:H)(f:Nat):R:=ifB (Nat.ble 1 f) (rc 162 [c,getF b 0,.int .i64 (.ofNat 32)] e λ g h=>onTup g λ i=>nthF 0 i λ j=>onTup g λ l=>nthF 1 l λ m=>IU E rc k a j m d h)
def Jh (a:(aa [4])→H→R)(b c:Value)(d:H):R:=ae (λ e f=>ae (λ g h=>Bl k a b g h) λ g=>v8 E g b e f) λ e=>aB b (rc 271 [c] d e) (e undef d) (e undef d)
def wY (a:(aa [4])→H→R)(b:H):R:=ae (λ _ c=>ae (λ _ d=>@joinR [4] (λ e f=>a (e.1,()) f) λ _=>k (.int .i64 (.ofNat 2)) d) λ d=>d undef c) λ c=>c undef b
def Jb (a:(aa [4])→H→R)(b c:Value)(d e:H):R:=onB b (ae (λ f g=>ae (λ h i=>Jh E rc k a c h i) λ h=>eL h c f g) λ f=>aB c (f (.pointer (some (Addr.mk d.1 1 none))) e) (f undef e) (f undef e)) (ae (λ _ f=>ae (λ _ g=>wY k a g) λ g=>g undef f) λ f=>f undef e)
def K6 (a:(aa [4])→H→R)(b:H):R:=ae (λ _ c=>ae (λ _ d=>ae (λ _ e=>wY k a e) λ e=>e undef d) λ d=>d undef c) λ c=>c undef b
def Fj (a:(aa [4])→H→R)(b c:Value)(d e:H):R:=onB b (ae (λ f g=>ae (λ h i=>ae (λ j l=>Jb E rc k a c j d l) λ j=>ma E j c h i) λ h=>eL h c f g) λ f=>aB c (f (.pointer (some (Addr.mk d.1 3 none))) e) (f undef e) (f undef e)) (ae (λ _ f=>ae (λ _ g=>K6 k a g) λ g=>g undef f) λ f=>f undef e)
def Mf (a:(aa [4])→H→R)(b c:Value)(d e:H):R:=ae (λ f g=>ae (λ h i=>ae (λ j l=>Fj E rc k a b j d l) λ j=>wZ E j b h i) λ h=>xa E h b f g) λ f=>eL f b c e
def Cp (a:(aa [4])→H→R)(b:V)(c d:H)(e:Nat):R:=ifB (Nat.ble 1 e) (binR (binC E .lss 3 false true) (getF b 0) (.int .i64 (.ofNat 0)) λ f=>ae (λ g h=>Mf E rc k a f g c h) λ g=>aB f (g (.pointer (some (Addr.mk c.1 0 none))) d) (g undef d) (g undef d))
def Ob (a:(aa [4])→H→R)(b:Value)(c d:H):R:=@joinR [4] (λ e f=>a (e.1,()) f) λ e=>onB b (onRow (hget d c.1) λ _ f _ _ _ g=>Cp E rc k e g c d f) (k (.int .i64 (.ofNat 1)) d)
def Ea (a:Value)(b c:H):R:=@joinR [4] (λ d e=>onRow (hget e b.1) λ _ f _ _ _ g=>CP E rc k d g a b e f) λ d=>binR (binC E .eql 123 false true) a (.pointer none) λ e=>Ob E rc k d e b c
def EG (a:L)(b:Value)(c:H):R:=ifB (allF (λ d=>cell1F d) a) (ifB (Nat.ble c.1 1000000000) (letH (ag c (.row 199 (lenF a) false false 0 (T.ofList unk a))) λ d=>Ea E rc k b c d))
def abQ (E:Env)(rc:RC)(a0 a1:Value)(h:H)(k:Value→H→R):R:=onCells a1 λ a=>EG E rc k a a0 h
theorem Mx (t:ak)(rc:RC)(a0 a1:Value)(h:H)(k:Value→H→R):(ax (EX t) KK 262).run rc [a0,a1] h k = abQ (EX t) rc a0 a1 h k:=by kernel_rfl
def aea (a:(aa [])→H→R)(b c d:Value)(e f:H):R:=onB d (a () f) (onRow (hget f e.1) λ _ g _ _ _ h=>ifB (Nat.ble 12 g) (joinL (λ i=>rc 128 [.agg ⟨ac h 12 0⟩,b,i] f λ _ j=>a () j) λ i=>js E i c f))
def aiF (a b c:Value)(d e:H):R:=binR (binC E .eql 24 false true) c (.int .i64 (.ofNat 0)) λ f=>@joinR [] (λ _ g=>k (.tuple ⟨[]⟩) g) λ g=>aea E rc g a b f d e
def XE (a:L)(b:V)(c d:Bool)(e:TypeId)(f g h:Value)(i j:H)(l m:Nat):R:=ifB (notB d) (ifB (Nat.beq (lenF a) 12) (ifB (Nat.ble m 0) (ifB (Nat.ble 12 l) (ifB (Nat.ble l 1000000000) (ifB (allF (λ n=>cell1F n) a) (letH (hset j i.1 (.row e l c false m (putF b 0 a))) λ n=>aiF E rc k f g h i n))))))
def Un (a b c d:Value)(e:H):R:=ifB (Nat.ble e.1 1000000000) (letH (ag e (.row 148 12 false false 0 (T.ofList unk [.pointer none,.pointer none,.int .i64 (.ofNat 0),.int .i64 (.ofNat 0),.int .u64 (.ofNat 0),.pointer none,.int .i64 (.ofNat 0),.int .i64 (.ofNat 0),.int .i64 (.ofNat 0),.pointer none,.int .i64 (.ofNat 0),.int .i64 (.ofNat 0)]))) λ f=>onCells c λ g=>onRow (hget f e.1) λ h i j l m n=>XE E rc k g n j l h a b d e f i m)
def afS (a:V)(b c d:Value)(e:H)(f:Nat):R:=ifB (Nat.ble 1 f) (rc 126 [getF a 0,b] e λ g h=>onTup g λ i=>nthF 0 i λ j=>onTup g λ l=>nthF 1 l λ m=>Un E rc k c d j m h)
def adc (a:L)(b c d:Value)(e:H):R:=ifB (allF (λ f=>cell1F f) a) (ifB (Nat.ble e.1 1000000000) (letH (ag e (.row 127 (lenF a) false false 0 (T.ofList unk a))) λ f=>onRow (hget f e.1) λ _ g _ _ _ h=>afS E rc k h b c d f g))
def afo (E:Env)(rc:RC)(a0 a1 a2 a3:Value)(h:H)(k:Value→H→R):R:=onCells a0 λ a=>adc E rc k a a1 a2 a3 h
theorem Df (t:ak)(rc:RC)(a0 a1 a2 a3:Value)(h:H)(k:Value→H→R):(ax (EX t) KK 269).run rc [a0,a1,a2,a3] h k = afo (EX t) rc a0 a1 a2 a3 h k:=by kernel_rfl
def Um (a b c:Value)(d:H):R:=ae (λ e f=>ae (λ g h=>onB a (k g h) (k (.bool true) h)) λ g=>kK E g a e f) λ e=>aB a (binR (binC E .shr 92 false false) b c λ f=>e f d) (e undef d) (e undef d)
def Xo (a:Value→H→R)(b c:Value)(d:H):R:=aB b (binR (binC E .mul 3 true false) (.int .i64 (.ofNat 8)) c λ e=>a e d) (a undef d) (a undef d)
def aaQ (a:Value→H→R)(b c d:Value)(e:H):R:=aB b (onNat d none λ f=>onSl c none λ g h _=>ifB (Nat.ble (Nat.succ f) h) (addOffF g (Nat.mul f 1) λ i=>a i e)) (a undef e) (a undef e)
def VU (a b c d:Value)(e:H):R:=ae (λ f g=>ae (λ h i=>ae (λ j l=>Um E k a b j l) λ j=>Xo E j a h i) λ h=>eL h a f g) λ f=>aaQ f a c d e
def agM (a b c:Value)(d e:H):R:=ae (λ f g=>ae (λ h i=>ae (λ j l=>VU E k b c h j l) λ j=>aB b (j a i) (j undef i) (j undef i)) λ h=>eL h b f g) λ f=>aB b (f (.pointer (some (Addr.mk d.1 0 none))) e) (f undef e) (f undef e)
def ab1 (a:V)(b:Addr)(c d:Value)(e f:H)(g:Nat):R:=ifB (Nat.ble (Nat.succ b.2) g) (binR (binC E .eql 3 false true) (getF a b.2) (.int .i64 (.ofNat 8)) λ h=>ae (λ i j=>agM E k c h i e j) λ i=>aB h (i d f) (i undef f) (i undef f))
def acI (a:Addr)(b c:Value)(d e:H)(f g:Nat):R:=ifB (Nat.ble (Nat.succ f) g) (addOffF a (Nat.mul f 1) λ h=>onPtr h λ i=>onRow (hget e i.1) λ _ j _ _ _ l=>ab1 E k l i b c d e j)
def Hk (a b:Value)(c d:H):R:=onRow (hget d c.1) λ _ e _ _ _ f=>ifB (Nat.ble 1 e) (onNat a none λ g=>onSl (getF f 0) none λ h i _=>acI E k h a b c d g i)
def Cv (a:L)(b c:Value)(d:H):R:=ifB (allF (λ e=>cell1F e) a) (ifB (Nat.ble d.1 1000000000) (letH (ag d (.row 258 (lenF a) false false 0 (T.ofList unk a))) λ e=>Hk E k b c d e))
def abM (E:Env)(rc:RC)(a0 a1 a2:Value)(h:H)(k:Value→H→R):R:=onCells a0 λ a=>Cv E k a a1 a2 h
theorem Jo (t:ak)(rc:RC)(a0 a1 a2:Value)(h:H)(k:Value→H→R):(ax (EX t) KK 276).run rc [a0,a1,a2] h k = abM (EX t) rc a0 a1 a2 h k:=by kernel_rfl
def abD (a b c:V)(d e:Addr)(f g:Value)(h:H)(i:Nat):R:=ifB (Nat.ble (Nat.succ e.2) i) (ifB (aj (getF c e.2) (getF b d.2)) (ifB (aj f f) (rc 105 [.agg ⟨ac a 3 0⟩,g,getF b d.2,f] h λ j l=>k j l)))
def P2 (a b:V)(c d:Addr)(e f g:Value)(h:H)(i j:Nat):R:=ifB (Nat.ble (Nat.succ i) j) (addOffF d (Nat.mul i 1) λ l=>ifB (aj l f) (onPtr f λ m=>onRow (hget h m.1) λ _ n _ _ _ o=>abD rc k a b o c m e g h n))
def aap (a b c d:V)(e:Addr)(f g h i:Value)(j:H)(l:Nat):R:=ifB (Nat.ble 1 l) (ifB (aj (getF d 0) (getF b 0)) (ifB (aj f f) (onNat f none λ m=>onSl (getF b 0) none λ n o _=>P2 rc k a c e n g h i j m o)))
def Ua (a b c d:V)(e:Addr)(f g h i:Value)(j l:H)(m:Nat):R:=ifB (Nat.ble 3 m) (ifB (aj (.agg ⟨ac d 3 0⟩) (.agg ⟨ac a 3 0⟩)) (ifB (aj (.pointer (some (Addr.mk j.1 0 none))) (.pointer (some (Addr.mk j.1 0 none)))) (onRow (hget l j.1) λ _ n _ _ _ o=>aap rc k a b c o e f g h i l n)))
def acl (a b c d:V)(e:Addr)(f g h:Value)(i j l:H)(m:Nat):R:=ifB (Nat.ble (Nat.succ e.2) m) (rc 306 [.agg ⟨ac b 1 0⟩,f] l λ n o=>onRow (hget o j.1) λ _ p _ _ _ q=>Ua rc k a c d q e f g h n i o p)
def Vj (a b c:V)(d:Addr)(e f:Value)(g h i:H)(j l:Nat):R:=ifB (Nat.ble (Nat.succ j) l) (addOffF d (Nat.mul j 1) λ m=>onPtr m λ n=>onRow (hget i n.1) λ _ o _ _ _ p=>acl rc k a b c p n e f m g h i o)
def UX (a b:V)(c d:Value)(e f g:H)(h:Nat):R:=ifB (Nat.ble 1 h) (onRow (hget g e.1) λ _ i _ _ _ j=>ifB (Nat.ble 1 i) (onNat c none λ l=>onSl (getF j 0) none λ m n _=>Vj rc k a b j m c d e f g l n))
def aim (a b:Value)(c d e:H):R:=onRow (hget e d.1) λ _ f _ _ _ g=>ifB (Nat.ble 3 f) (onRow (hget e c.1) λ _ h _ _ _ i=>UX rc k g i a b c d e h)
def agG (a:(aa [8])→H→R)(b:Value)(c:H):R:=onB b (@joinR [8] (λ d e=>a (d.1,()) e) λ _=>k (.int .i64 (.ofNat 16)) c) (@joinR [8] (λ d e=>a (d.1,()) e) λ d=>d (.int .i64 (.ofNat 0),()) c)
def aeh (a:(aa [8])→H→R)(b c:Value)(d e:H):R:=onRow (hget e d.1) λ _ f _ _ _ g=>ifB (Nat.ble 1 f) (rc 276 [.agg ⟨ac g 1 0⟩,b,c] e λ h i=>agG k a h i)
def DU (a:(aa [8])→H→R)(b c d:Value)(e f:H):R:=onB d (@joinR [8] (λ g h=>a (g.1,()) h) λ _=>k (.int .i64 (.ofNat 2)) f) (@joinR [8] (λ g h=>a (g.1,()) h) λ g=>aeh rc k g b c e f)
def Od (a:(aa [8])→H→R)(b c:Value)(d e:H):R:=onRow (hget e d.1) λ _ f _ _ _ g=>ifB (Nat.ble 1 f) (rc 336 [.agg ⟨ac g 1 0⟩,b] e λ h i=>DU rc k a b c h d i)
def Oh (a:L)(b c:Value)(d e:H):R:=ifB (allF (λ f=>cell1F f) a) (ifB (Nat.ble e.1 1000000000) (letH (ag e (.row 131 (lenF a) false false 0 (T.ofList unk a))) λ f=>@joinR [8] (λ _ g=>ifB (Nat.ble g.1 1000000000) (letH (H.mk g.1 g.2) λ h=>aim rc k b c d e h)) λ g=>Od rc k g b c d f))
def Mr (a:L)(b c d:Value)(e:H):R:=ifB (allF (λ f=>cell1F f) a) (ifB (Nat.ble e.1 1000000000) (letH (ag e (.row 258 (lenF a) false false 0 (T.ofList unk a))) λ f=>onCells b λ g=>Oh rc k g c d e f))
def Z6 (E:Env)(rc:RC)(a0 a1 a2 a3:Value)(h:H)(k:Value→H→R):R:=onCells a0 λ a=>Mr rc k a a1 a2 a3 h
theorem Dm (t:ak)(rc:RC)(a0 a1 a2 a3:Value)(h:H)(k:Value→H→R):(ax (EX t) KK 279).run rc [a0,a1,a2,a3] h k = Z6 (EX t) rc a0 a1 a2 a3 h k:=by kernel_rfl
def ZE (a b:H):R:=bindO (aU E b 185 (Addr.mk a.1 0 none)) λ c=>ifB (nT [c,.int .i64 (.ofNat 0)]) (k (.tuple ⟨[c,.int .i64 (.ofNat 0)]⟩) b)
def abI (a b:V)(c d:Bool)(e:TypeId)(f g:H)(h i:Nat):R:=ifB (notB d) (ifB (Nat.beq (lenF (ac a 2 0)) 2) (ifB (Nat.ble i 0) (ifB (Nat.ble 2 h) (ifB (Nat.ble h 1000000000) (ifB (allF (λ j=>cell1F j) (ac a 2 0)) (letH (hset g f.1 (.row e h c false i (putF b 0 (ac a 2 0)))) λ j=>ZE E k f j))))))
def ahp (a b c:H):R:=onRow (hget c a.1) λ _ d _ _ _ e=>ifB (Nat.ble 2 d) (onRow (hget c b.1) λ f g h i j l=>abI E k e l h i f b c g j)
def Yx (a:(aa [1,2])→H→R)(b:aa [1,2])(c:L)(d:V)(e f:Bool)(g:Addr)(h:TypeId)(i:Value)(j:H)(l m:Nat):R:=ifB (notB f) (ifB (Nat.beq (lenF c) 1) (ifB (Nat.ble m g.2) (ifB (Nat.ble (Nat.add g.2 1) l) (ifB (Nat.ble l 1000000000) (ifB (allF (λ n=>cell1F n) c) (letH (hset j g.1 (.row h l e false m (putF d g.2 c))) λ n=>PN E a b i n))))))
def QD (a:(aa [1,2])→H→R)(b:aa [1,2])(c d e:Value)(f:H):R:=onPtr e λ g=>onCells d λ h=>onRow (hget f g.1) λ i j l m n o=>Yx E a b h o l m g i c f j n
def SP (a:(aa [1,2])→H→R)(b:aa [1,2])(c:V)(d e f g:Value)(h:H):R:=ifB (aj g e) (onNat e none λ i=>onSl (getF c 1) none λ j l _=>ifB (Nat.ble (Nat.succ i) l) (addOffF j (Nat.mul i 1) λ m=>QD E a b d f m h))
def ae9 (a:(aa [1,2])→H→R)(b:aa [1,2])(c d:V)(e f g:Value)(h:H)(i:Nat):R:=ifB (Nat.ble 2 i) (ifB (aj (getF d 1) (getF c 1)) (ifB (aj b.1 b.1) (binR (binC E .quo 3 false true) b.1 (.int .i64 (.ofNat 64)) λ j=>SP E a b c e f g j h)))
def ajA (a:(aa [1,2])→H→R)(b:aa [1,2])(c:V)(d e f:Value)(g h:H):R:=ifB (aj (.pointer (some (Addr.mk g.1 1 none))) (.pointer (some (Addr.mk g.1 1 none)))) (onRow (hget h g.1) λ _ i _ _ _ j=>ae9 E a b c j d e f h i)
def ai5 (a:(aa [1,2])→H→R)(b:aa [1,2])(c d:V)(e:Addr)(f g h i:Value)(j l:H)(m:Nat):R:=ifB (Nat.ble (Nat.succ e.2) m) (yu f λ n o p=>rc n (ny o p [getF d e.2,g]) l λ q r=>ajA E a b c h i q j r)
def HC (a:(aa [1,2])→H→R)(b:aa [1,2])(c:V)(d:Addr)(e f g h:Value)(i j:H)(l m:Nat):R:=ifB (Nat.ble (Nat.succ l) m) (addOffF d (Nat.mul l 1) λ n=>onPtr n λ o=>onRow (hget j o.1) λ _ p _ _ _ q=>ai5 E rc a b c q o e f g h i j p)
def Hg (a:(aa [1,2])→H→R)(b:aa [1,2])(c d:V)(e f g h:Value)(i j:H)(l:Nat):R:=ifB (Nat.ble 2 l) (binR (binC E .quo 3 false true) b.1 (.int .i64 (.ofNat 64)) λ m=>onNat m none λ n=>onSl (getF d 1) none λ o p _=>HC E rc a b c o e f g h i j n p)
def F1 (a:(aa [1,2])→H→R)(b:aa [1,2])(c:V)(d e f:Value)(g h:H)(i:Nat):R:=ifB (Nat.ble 2 i) (binR (binC E .quo 3 false true) b.1 (.int .i64 (.ofNat 64)) λ j=>onRow (hget h g.1) λ _ l _ _ _ m=>Hg E rc a b c m d e f j g h l)
def Ng (a:(aa [1,2])→H→R)(b:aa [1,2])(c d e:Value)(f g:H):R:=ifB (Nat.ble g.1 1000000000) (letH (H.mk g.1 g.2) λ h=>onRow (hget h f.1) λ _ i _ _ _ j=>F1 E rc a b j c d e f h i)
def I0 (a:(aa [1,2])→H→R)(b:aa [1,2])(c:Value)(d e:H):R:=@joinR [1,2] (λ f g=>a (f.1,(f.2.1,())) g) λ f=>rc 324 [b.1,b.2.1] e λ g h=>onTup g λ i=>nthF 0 i λ j=>onTup g λ l=>nthF 1 l λ m=>Ng E rc f b c j m d h
def MS (a:(aa [1,2])→H→R)(b:(aa [])→H→R)(c:aa [1,2])(d:Value)(e f:H):R:=binR (binC E .gtr 3 false true) c.2.1 (.int .i64 (.ofNat 0)) λ g=>@joinR [] (λ _ h=>I0 E rc a c d e h) λ h=>onB g (b () f) (h () f)
def GK (a:L)(b:V)(c d:Bool)(e:TypeId)(f g h:Value)(i j l:H)(m n:Nat):R:=ifB (notB d) (ifB (Nat.beq (lenF a) 1) (ifB (Nat.ble n 1) (ifB (Nat.ble 2 m) (ifB (Nat.ble m 1000000000) (ifB (allF (λ o=>cell1F o) a) (letH (hset l i.1 (.row e m c false n (putF b 1 a))) λ o=>@joinR [] (λ _ p=>ahp E k i j p) λ p=>@loopF [1,2] (λ q r s=>MS E rc q p r h i s) 1000000 (f,(g,())) o))))))
def xi (a:V)(b c d:Value)(e f g:H)(h:Nat):R:=ifB (Nat.ble 2 h) (rc 355 [getF a 1] g λ i j=>onCells i λ l=>onRow (hget j e.1) λ m n o p q r=>GK E rc k l r o p m b c d e f j n q)
def En (a b:H):R:=bindO (aU E b 185 (Addr.mk a.1 0 none)) λ c=>ifB (nT [c,.int .i64 (.ofNat 3)]) (k (.tuple ⟨[c,.int .i64 (.ofNat 3)]⟩) b)
def Mt (a b:V)(c d:Bool)(e:TypeId)(f g:H)(h i:Nat):R:=ifB (notB d) (ifB (Nat.beq (lenF (ac a 2 0)) 2) (ifB (Nat.ble i 0) (ifB (Nat.ble 2 h) (ifB (Nat.ble h 1000000000) (ifB (allF (λ j=>cell1F j) (ac a 2 0)) (letH (hset g f.1 (.row e h c false i (putF b 0 (ac a 2 0)))) λ j=>En E k f j))))))
def Ig (a b c:H):R:=onRow (hget c a.1) λ _ d _ _ _ e=>ifB (Nat.ble 2 d) (onRow (hget c b.1) λ f g h i j l=>Mt E k e l h i f b c g j)
def OM (a b c d:Value)(e f g:H):R:=onB d (@joinR [9] (λ _ h=>onRow (hget h e.1) λ _ i _ _ _ j=>xi E rc k j a b c e f h i) λ _=>Ig E k e f g) (@joinR [9] (λ _ h=>onRow (hget h e.1) λ _ i _ _ _ j=>xi E rc k j a b c e f h i) λ h=>h (.int .i64 (.ofNat 0),()) g)
def Ny (a b c:Value)(d e f:H):R:=onRow (hget f d.1) λ _ g _ _ _ h=>ifB (Nat.ble 2 g) (rc 323 [.agg ⟨ac h 2 0⟩,a,b] f λ i j=>OM E rc k a b c i d e j)
def K4 (a b c:Value)(d e:H):R:=ifB (Nat.ble e.1 1000000000) (letH (ag e (.row 185 2 false false 0 (T.ofList unk [.int .i64 (.ofNat 0),.slice none 0 0]))) λ f=>Ny E rc k a b c d e f)
def Gb (a:L)(b c d:Value)(e:H):R:=ifB (allF (λ f=>cell1F f) a) (ifB (Nat.ble e.1 1000000000) (letH (ag e (.row 185 (lenF a) false false 0 (T.ofList unk a))) λ f=>K4 E rc k b c d e f))
def Yy (E:Env)(rc:RC)(a0 a1 a2 a3:Value)(h:H)(k:Value→H→R):R:=onCells a0 λ a=>Gb E rc k a a1 a2 a3 h
theorem NZ (t:ak)(rc:RC)(a0 a1 a2 a3:Value)(h:H)(k:Value→H→R):(ax (EX t) KK 313).run rc [a0,a1,a2,a3] h k = Yy (EX t) rc a0 a1 a2 a3 h k:=by kernel_rfl
def aes (E:Env)(rc:RC)(a0 a1:Value)(h:H)(k:Value→H→R):R:=binR (binC E .or 92 false false) a0 a1 λ a=>k a h
theorem Nf (t:ak)(rc:RC)(a0 a1:Value)(h:H)(k:Value→H→R):(ax (EX t) KK 314).run rc [a0,a1] h k = aes (EX t) rc a0 a1 h k:=by kernel_rfl
def XZ (a:V)(b:H)(c:Nat):R:=ifB (Nat.ble 3 c) (rc 245 [.agg ⟨ac a 3 0⟩] b λ d e=>binR (binC E .quo 3 false true) d (.int .i64 (.ofNat 8)) λ f=>k f e)
def afb (a:L)(b:H):R:=ifB (allF (λ c=>cell1F c) a) (ifB (Nat.ble b.1 1000000000) (letH (ag b (.row 175 (lenF a) false false 0 (T.ofList unk a))) λ c=>onRow (hget c b.1) λ _ d _ _ _ e=>XZ E rc k e c d))
def TL (E:Env)(rc:RC)(a0:Value)(h:H)(k:Value→H→R):R:=onCells a0 λ a=>afb E rc k a h
theorem Iw (t:ak)(rc:RC)(a0:Value)(h:H)(k:Value→H→R):(ax (EX t) KK 320).run rc [a0] h k = TL (EX t) rc a0 h k:=by kernel_rfl
def Us (a b:H):R:=bindO (aU E b 142 (Addr.mk a.1 0 none)) λ c=>ifB (nT [c,.int .i64 (.ofNat 0)]) (k (.tuple ⟨[c,.int .i64 (.ofNat 0)]⟩) b)
def Ye (a:L)(b:V)(c d:Bool)(e:TypeId)(f g:H)(h i:Nat):R:=ifB (notB d) (ifB (Nat.beq (lenF a) 5) (ifB (Nat.ble i 0) (ifB (Nat.ble 5 h) (ifB (Nat.ble h 1000000000) (ifB (allF (λ j=>cell1F j) a) (letH (hset g f.1 (.row e h c false i (putF b 0 a))) λ j=>Us E k f j))))))
def YD (a:V)(b c:Value)(d e:H)(f:Nat):R:=ifB (Nat.ble 3 f) (bindO (cg E 142 [(0,b),(1,.agg ⟨ac a 3 0⟩),(2,c)]) λ g=>onCells g λ h=>onRow (hget e d.1) λ i j l m n o=>Ye E k h o l m i d e j n)
def Qz (a b:H):R:=bindO (aU E b 142 (Addr.mk a.1 0 none)) λ c=>ifB (nT [c,.int .i64 (.ofNat 2)]) (k (.tuple ⟨[c,.int .i64 (.ofNat 2)]⟩) b)
def S5 (a:V)(b c:Bool)(d:TypeId)(e f:H)(g h:Nat):R:=ifB (notB c) (ifB (Nat.beq (lenF (cellsOfV (.agg (@List.toArray Value [.pointer none,.pointer none,.int .i64 (.ofNat 0),.int .i64 (.ofNat 0),.int .u64 (.ofNat 0)])))) 5) (ifB (Nat.ble h 0) (ifB (Nat.ble 5 g) (ifB (Nat.ble g 1000000000) (ifB (allF (λ i=>cell1F i) (cellsOfV (.agg (@List.toArray Value [.pointer none,.pointer none,.int .i64 (.ofNat 0),.int .i64 (.ofNat 0),.int .u64 (.ofNat 0)])))) (letH (hset f e.1 (.row d g b false h (putF a 0 (cellsOfV (.agg (@List.toArray Value [.pointer none,.pointer none,.int .i64 (.ofNat 0),.int .i64 (.ofNat 0),.int .u64 (.ofNat 0)])))))) λ i=>Qz E k e i))))))
def afF (a:(aa [7])→H→R)(b:Value)(c d:H):R:=onB b (a (.int .i64 (.ofNat 0),()) d) (onRow (hget d c.1) λ e f g h i j=>S5 E k j g h e c d f i)
def ZR (a b:H):R:=bindO (aU E b 142 (Addr.mk a.1 0 none)) λ c=>ifB (nT [c,.int .i64 (.ofNat 3)]) (k (.tuple ⟨[c,.int .i64 (.ofNat 3)]⟩) b)
def adh (a:V)(b c:Bool)(d:TypeId)(e f:H)(g h:Nat):R:=ifB (notB c) (ifB (Nat.beq (lenF (cellsOfV (.agg (@List.toArray Value [.pointer none,.pointer none,.int .i64 (.ofNat 0),.int .i64 (.ofNat 0),.int .u64 (.ofNat 0)])))) 5) (ifB (Nat.ble h 0) (ifB (Nat.ble 5 g) (ifB (Nat.ble g 1000000000) (ifB (allF (λ i=>cell1F i) (cellsOfV (.agg (@List.toArray Value [.pointer none,.pointer none,.int .i64 (.ofNat 0),.int .i64 (.ofNat 0),.int .u64 (.ofNat 0)])))) (letH (hset f e.1 (.row d g b false h (putF a 0 (cellsOfV (.agg (@List.toArray Value [.pointer none,.pointer none,.int .i64 (.ofNat 0),.int .i64 (.ofNat 0),.int .u64 (.ofNat 0)])))))) λ i=>ZR E k e i))))))
def aiA (a:(aa [7])→H→R)(b c:Value)(d e:H):R:=onB c (binR (binC E .eql 92 false true) b (.int .u64 (.ofNat 0)) λ f=>@joinR [7] (λ g h=>a (g.1,()) h) λ g=>afF E k g f d e) (onRow (hget e d.1) λ f g h i j l=>adh E k l h i f d e g j)
def afO (a:(aa [7])→H→R)(b c:Value)(d e:H):R:=binR (binC E .lss 3 false true) c (.int .i64 (.ofNat 8)) λ f=>@joinR [7] (λ g h=>a (g.1,()) h) λ g=>aiA E k g b f d e
def N3 (a b:H):R:=bindO (aU E b 142 (Addr.mk a.1 0 none)) λ c=>ifB (nT [c,.int .i64 (.ofNat 1)]) (k (.tuple ⟨[c,.int .i64 (.ofNat 1)]⟩) b)
def Ku (a:V)(b c:Bool)(d:TypeId)(e f:H)(g h:Nat):R:=ifB (notB c) (ifB (Nat.beq (lenF (cellsOfV (.agg (@List.toArray Value [.pointer none,.pointer none,.int .i64 (.ofNat 0),.int .i64 (.ofNat 0),.int .u64 (.ofNat 0)])))) 5) (ifB (Nat.ble h 0) (ifB (Nat.ble 5 g) (ifB (Nat.ble g 1000000000) (ifB (allF (λ i=>cell1F i) (cellsOfV (.agg (@List.toArray Value [.pointer none,.pointer none,.int .i64 (.ofNat 0),.int .i64 (.ofNat 0),.int .u64 (.ofNat 0)])))) (letH (hset f e.1 (.row d g b false h (putF a 0 (cellsOfV (.agg (@List.toArray Value [.pointer none,.pointer none,.int .i64 (.ofNat 0),.int .i64 (.ofNat 0),.int .u64 (.ofNat 0)])))))) λ i=>N3 E k e i))))))
def GW (a:(aa [7])→H→R)(b:aa [8])(c:Value)(d e f:H):R:=onB b.1 (onRow (hget f d.1) λ _ g _ _ _ h=>ifB (Nat.ble 3 g) (rc 245 [.agg ⟨ac h 3 0⟩] f λ i j=>afO E k a c i e j)) (onRow (hget f e.1) λ g h i j l m=>Ku E k m i j g e f h l)
def Ei (a:(aa [8])→H→R)(b:V)(c:H)(d:Nat):R:=ifB (Nat.ble 1 d) (binR (binC E .eql 123 false true) (getF b 0) (.pointer none) λ e=>a (e,()) c)
def Ke (a:(aa [7])→H→R)(b c:Value)(d e f:H):R:=@joinR [8] (λ g h=>@joinR [7] (λ i j=>a (i.1,()) j) λ i=>GW E rc k i g b d e h) λ g=>onB c (onRow (hget f d.1) λ _ h _ _ _ i=>Ei E g i f h) (g (c,()) f)
def DY (a b:Value)(c d e:H):R:=@joinR [7] (λ _ f=>onRow (hget f c.1) λ _ g _ _ _ h=>YD E k h a b d f g) λ f=>binR (binC E .eql 125 false true) a (.pointer none) λ g=>Ke E rc k f b g c d e
def Le (a b:Value)(c d:H):R:=ifB (Nat.ble d.1 1000000000) (letH (ag d (.row 142 5 false false 0 (T.ofList unk [.pointer none,.pointer none,.int .i64 (.ofNat 0),.int .i64 (.ofNat 0),.int .u64 (.ofNat 0)]))) λ e=>DY E rc k a b c d e)
def L1 (a:L)(b c:Value)(d:H):R:=ifB (allF (λ e=>cell1F e) a) (ifB (Nat.ble d.1 1000000000) (letH (ag d (.row 131 (lenF a) false false 0 (T.ofList unk a))) λ e=>Le E rc k b c d e))
def aaq (E:Env)(rc:RC)(a0 a1 a2:Value)(h:H)(k:Value→H→R):R:=onCells a1 λ a=>L1 E rc k a a0 a2 h
theorem Fq (t:ak)(rc:RC)(a0 a1 a2:Value)(h:H)(k:Value→H→R):(ax (EX t) KK 337).run rc [a0,a1,a2] h k = aaq (EX t) rc a0 a1 a2 h k:=by kernel_rfl
def adx (a:Value)(b:H):R:=ifB (Nat.ble b.1 1000000000) (letH (ag b (.row 3 0 false false 0 (T.ofList unk (List.flatten (List.replicate 0 (cellsOfV (.int .i64 (.ofNat 0)))))))) λ c=>cT (bu E c Builtin.append [.slice (some (Addr.mk b.1 0 none)) 0 0,a] [256,256]) λ d e=>k d e)
def Za (E:Env)(rc:RC)(a0:Value)(h:H)(k:Value→H→R):R:=binR (binC E .eql 256 false true) a0 (.slice none 0 0) λ a=>@joinR [2] (λ _ b=>adx E k a0 b) λ b=>onB a (b (.slice none 0 0,()) h) (k (.slice none 0 0) h)
theorem Ic (t:ak)(rc:RC)(a0:Value)(h:H)(k:Value→H→R):(ax (EX t) KK 334).run rc [a0] h k = Za (EX t) rc a0 h k:=by kernel_rfl
def YN (a:(aa [5])→H→R)(b:aa [5,13])(c:Addr)(d:H):R:=onRow (hget d c.1) λ _ e _ _ _ f=>ifB (Nat.ble (Nat.succ c.2) e) (binR (binC E .add 3 false false) b.1 (getF f c.2) λ g=>a (g,()) d)
def ai3 (a:(aa [5])→H→R)(b:aa [5,13])(c:Value)(d:H):R:=onNat b.2.1 none λ e=>onSl c none λ f g _=>ifB (Nat.ble (Nat.succ e) g) (addOffF f (Nat.mul e 1) λ h=>onPtr h λ i=>YN E a b i d)
def ZH (a:(aa [5,13])→H→R)(b:aa [5,13])(c:Value)(d:H):R:=@joinR [5] (λ e f=>binR (binC E .add 3 false true) b.2.1 (.int .i64 (.ofNat 1)) λ g=>a (e.1,(g,())) f) λ e=>ai3 E e b c d
def aiu (a:(aa [5,13])→H→R)(b:(aa [5])→H→R)(c:aa [5,13])(d e:Value)(f:H):R:=binR (binC E .lss 3 false false) c.2.1 e λ g=>@joinR [] (λ _ h=>ZH E a c d h) λ h=>onB g (b (c.1,()) f) (h () f)
def ajV (a b:Value)(c:H):R:=@joinR [5] (λ d e=>k d.1 e) λ d=>@loopF [5,13] (λ e f g=>aiu E e d f a b g) 1000000 (.int .i64 (.ofNat 0),(.int .i64 (.ofNat 0),())) c
def YR (a:V)(b:Value)(c:H)(d:Nat):R:=ifB (Nat.ble 1 d) (bindO (dd E 256 (getF a 0) none (some b) none) λ e=>joinL (λ f=>ajV E k e f c) λ f=>onSl e (bindO (bv E c 256 e) f) λ _ g _=>f (.int .i64 (.ofNat g)))
def aka (a:L)(b:Value)(c:H):R:=ifB (allF (λ d=>cell1F d) a) (ifB (Nat.ble c.1 1000000000) (letH (ag c (.row 258 (lenF a) false false 0 (T.ofList unk a))) λ d=>onRow (hget d c.1) λ _ e _ _ _ f=>YR E k f b d e))
def agb (E:Env)(rc:RC)(a0 a1:Value)(h:H)(k:Value→H→R):R:=onCells a0 λ a=>aka E k a a1 h
theorem OS (t:ak)(rc:RC)(a0 a1:Value)(h:H)(k:Value→H→R):(ax (EX t) KK 335).run rc [a0,a1] h k = agb (EX t) rc a0 a1 h k:=by kernel_rfl
def aac (a b c:Value)(d:H):R:=ae (λ e f=>onB a (k (.bool false) f) (k e f)) λ e=>aB a (e undef d) (binR (binC E .lss 3 false false) b c λ f=>e f d) (e undef d)
def ajh (a:Value→H→R)(b c:Value)(d:H):R:=aB b (a undef d) (joinL (λ e=>a e d) λ e=>onSl c (bindO (bv E d 256 c) e) λ _ f _=>e (.int .i64 (.ofNat f))) (a undef d)
def Wb (a b:Value)(c d:H):R:=ae (λ e f=>ae (λ g h=>ae (λ i j=>aac E k a b i j) λ i=>ajh E i a g h) λ g=>lr g a e f) λ e=>aB a (e undef d) (e (.pointer (some (Addr.mk c.1 0 none))) d) (e undef d)
def ahH (a:Value)(b c:H):R:=binR (binC E .geq 3 false true) a (.int .i64 (.ofNat 0)) λ d=>ae (λ e f=>Wb E k d e b f) λ e=>aB d (e undef c) (e a c) (e undef c)
def VK (a:L)(b:Value)(c:H):R:=ifB (allF (λ d=>cell1F d) a) (ifB (Nat.ble c.1 1000000000) (letH (ag c (.row 258 (lenF a) false false 0 (T.ofList unk a))) λ d=>ahH E k b c d))
def aez (E:Env)(rc:RC)(a0 a1:Value)(h:H)(k:Value→H→R):R:=onCells a0 λ a=>VK E k a a1 h
theorem I4 (t:ak)(rc:RC)(a0 a1:Value)(h:H)(k:Value→H→R):(ax (EX t) KK 336).run rc [a0,a1] h k = aez (EX t) rc a0 a1 h k:=by kernel_rfl
def yT (a:Value)(b c:H):R:=onRow (hget c b.1) λ _ d _ _ _ e=>ifB (Nat.ble 1 d) (rc 335 [.agg ⟨ac e 1 0⟩,a] c λ f g=>k f g)
def ZI (a b:Value)(c d:H):R:=onB b (@joinR [4] (λ _ e=>yT rc k a c e) λ _=>k (.int .i64 (.ofNat 0)) d) (@joinR [4] (λ _ e=>yT rc k a c e) λ e=>e (.int .i64 (.ofNat 0),()) d)
def SJ (a:Value)(b c:H):R:=onRow (hget c b.1) λ _ d _ _ _ e=>ifB (Nat.ble 1 d) (rc 336 [.agg ⟨ac e 1 0⟩,a] c λ f g=>ZI rc k a f b g)
def akm (a:L)(b:Value)(c:H):R:=ifB (allF (λ d=>cell1F d) a) (ifB (Nat.ble c.1 1000000000) (letH (ag c (.row 258 (lenF a) false false 0 (T.ofList unk a))) λ d=>SJ rc k b c d))
def YM (E:Env)(rc:RC)(a0 a1:Value)(h:H)(k:Value→H→R):R:=onCells a0 λ a=>akm rc k a a1 h
theorem Hn (t:ak)(rc:RC)(a0 a1:Value)(h:H)(k:Value→H→R):(ax (EX t) KK 306).run rc [a0,a1] h k = YM (EX t) rc a0 a1 h k:=by kernel_rfl
def afy (a:Value)(b:H):R:=ifB (Nat.ble b.1 1000000000) (letH (ag b (.row 92 0 false false 0 (T.ofList unk (List.flatten (List.replicate 0 (cellsOfV (.int .u64 (.ofNat 0)))))))) λ c=>cT (bu E c Builtin.append [.slice (some (Addr.mk b.1 0 none)) 0 0,a] [183,183]) λ d e=>k d e)
def ake (E:Env)(rc:RC)(a0:Value)(h:H)(k:Value→H→R):R:=binR (binC E .eql 183 false true) a0 (.slice none 0 0) λ a=>@joinR [2] (λ _ b=>afy E k a0 b) λ b=>onB a (b (.slice none 0 0,()) h) (k (.slice none 0 0) h)
theorem J4 (t:ak)(rc:RC)(a0:Value)(h:H)(k:Value→H→R):(ax (EX t) KK 355).run rc [a0] h k = ake (EX t) rc a0 h k:=by kernel_rfl
def akj (a:V)(b:H)(c:Nat):R:=ifB (Nat.ble 3 c) (rc 245 [.agg ⟨ac a 3 0⟩] b λ d e=>binR (binC E .quo 3 false true) d (.int .i64 (.ofNat 24)) λ f=>k f e)
def Wn (a:L)(b:H):R:=ifB (allF (λ c=>cell1F c) a) (ifB (Nat.ble b.1 1000000000) (letH (ag b (.row 412 (lenF a) false false 0 (T.ofList unk a))) λ c=>onRow (hget c b.1) λ _ d _ _ _ e=>akj E rc k e c d))
def afl (E:Env)(rc:RC)(a0:Value)(h:H)(k:Value→H→R):R:=onCells a0 λ a=>Wn E rc k a h
theorem ED (t:ak)(rc:RC)(a0:Value)(h:H)(k:Value→H→R):(ax (EX t) KK 393).run rc [a0] h k = afl (EX t) rc a0 h k:=by kernel_rfl
def XO (a b:H):R:=bindO (aU E b 427 (Addr.mk a.1 0 none)) λ c=>ifB (nT [c,.bool true]) (k (.tuple ⟨[c,.bool true]⟩) b)
def UP (a:L)(b:V)(c d:Bool)(e:TypeId)(f g:H)(h i:Nat):R:=ifB (notB d) (ifB (Nat.beq (lenF a) 4) (ifB (Nat.ble i 0) (ifB (Nat.ble 4 h) (ifB (Nat.ble h 1000000000) (ifB (allF (λ j=>cell1F j) a) (letH (hset g f.1 (.row e h c false i (putF b 0 a))) λ j=>XO E k f j))))))
def Te (a:V)(b:Addr)(c d e:Value)(f g:H)(h:Nat):R:=ifB (Nat.ble (Nat.succ b.2) h) (bindO (cg E 427 [(0,c),(1,d),(2,e),(3,getF a b.2)]) λ i=>onCells i λ j=>onRow (hget g f.1) λ l m n o p q=>UP E k j q n o l f g m p)
def Sz (a:Addr)(b c d:Value)(e f:H)(g:Nat):R:=ifB (Nat.ble 2 g) (addOffF a 1 λ h=>onPtr h λ i=>onRow (hget f i.1) λ _ j _ _ _ l=>Te E k l i b c d e f j)
def Zt (a:Value→R)(b:Value)(c:H):R:=onNat b (bindO (aQ E c 92 5 b) a) λ d=>@Bool.rec (λ _=>R) (bindO (aQ E c 92 5 b) a) (a (.int .u8 (.ofNat d))) (Nat.ble d 255)
def aeu (a:V)(b:Addr)(c d e:Value)(f g:H)(h:Nat):R:=ifB (Nat.ble (Nat.succ b.2) h) (binR (binC E .shr 92 false true) (getF a b.2) (.int .u64 (.ofNat 8)) λ i=>joinL (λ j=>onSl c none λ l m _=>Sz E k l d e j f g m) λ j=>Zt E j i g)
def Rb (a b c:Value)(d e:H):R:=onSl a none λ f g _=>ifB (Nat.ble 1 g) (onRow (hget e f.1) λ _ h _ _ _ i=>aeu E k i f a b c d e h)
def Zw (a:Value→R)(b:V)(c:Addr)(d:H):R:=onNat (getF b c.2) (bindO (aQ E d 92 5 (getF b c.2)) a) λ e=>@Bool.rec (λ _=>R) (bindO (aQ E d 92 5 (getF b c.2)) a) (a (.int .u8 (.ofNat e))) (Nat.ble e 255)
def Q1 (a:Addr)(b c:Value)(d e:H)(f:Nat):R:=ifB (Nat.ble 1 f) (onRow (hget e a.1) λ _ g _ _ _ h=>ifB (Nat.ble (Nat.succ a.2) g) (joinL (λ i=>Rb E k b c i d e) λ i=>Zw E i h a e))
def XX (a:V)(b:Addr)(c:Value)(d e:H)(f:Nat):R:=ifB (Nat.ble (Nat.succ b.2) f) (binR (binC E .shr 92 false true) (getF a b.2) (.int .u64 (.ofNat 16)) λ g=>onSl c none λ h i _=>Q1 E k h c g d e i)
def vN (a:Value)(b c:H):R:=onSl a none λ d e _=>ifB (Nat.ble 1 e) (onRow (hget c d.1) λ _ f _ _ _ g=>XX E k g d a b c f)
def IG (a b:H):R:=bindO (aU E b 427 (Addr.mk a.1 0 none)) λ c=>ifB (nT [c,.bool false]) (k (.tuple ⟨[c,.bool false]⟩) b)
def vA (a:V)(b c:Bool)(d:TypeId)(e f:H)(g h:Nat):R:=ifB (notB c) (ifB (Nat.beq (lenF (cellsOfV (.agg (@List.toArray Value [.int .u64 (.ofNat 0),.int .u8 (.ofNat 0),.int .u8 (.ofNat 0),.int .u64 (.ofNat 0)])))) 4) (ifB (Nat.ble h 0) (ifB (Nat.ble 4 g) (ifB (Nat.ble g 1000000000) (ifB (allF (λ i=>cell1F i) (cellsOfV (.agg (@List.toArray Value [.int .u64 (.ofNat 0),.int .u8 (.ofNat 0),.int .u8 (.ofNat 0),.int .u64 (.ofNat 0)])))) (letH (hset f e.1 (.row d g b false h (putF a 0 (cellsOfV (.agg (@List.toArray Value [.int .u64 (.ofNat 0),.int .u8 (.ofNat 0),.int .u8 (.ofNat 0),.int .u64 (.ofNat 0)])))))) λ i=>IG E k e i))))))
def HM (a b c:Value)(d e:H):R:=onB b (@joinR [5] (λ _ f=>ifB (Nat.ble f.1 1000000000) (letH (H.mk f.1 f.2) λ g=>vN E k a d g)) λ f=>onB c (f (.bool false,()) e) (onRow (hget e d.1) λ g h i j l m=>vA E k m i j g d e h l)) (@joinR [5] (λ _ f=>ifB (Nat.ble f.1 1000000000) (letH (H.mk f.1 f.2) λ g=>vN E k a d g)) λ _=>onRow (hget e d.1) λ f g h i j l=>vA E k l h i f d e g j)
def KP (a:Value→H→R)(b c:Value)(d:H):R:=aB b (binR (binC E .shr 92 false true) c (.int .u64 (.ofNat 16)) λ e=>a e d) (a undef d) (a undef d)
def GX (a b c:Value)(d e:H):R:=ae (λ f g=>ae (λ h i=>ae (λ j l=>HM E k a b j d l) λ j=>kK E j b h i) λ h=>KP E h b f g) λ f=>eL f b c e
def Nj (a b c:Value)(d e:H):R:=ae (λ f g=>GX E k a b f d g) λ f=>aB b (onSl c none λ g h _=>ifB (Nat.ble 1 h) (f (.pointer (some g)) e)) (f undef e) (f undef e)
def MR (a b:Value)(c d:H):R:=binR (binC E .neq 24 false true) b (.int .i64 (.ofNat 0)) λ e=>ae (λ f g=>Nj E k a e f c g) λ f=>aB e (f a d) (f undef d) (f undef d)
def JA (a b:V)(c d:Value)(e f:H)(g:Nat):R:=ifB (Nat.ble 3 g) (ifB (aj (.agg ⟨ac b 3 0⟩) (.agg ⟨ac a 3 0⟩)) (ifB (aj c c) (rc 405 [.agg ⟨ac a 3 0⟩,c] f λ h i=>rc 199 [d,h] i λ j l=>onTup j λ m=>nthF 0 m λ n=>onTup j λ o=>nthF 1 o λ p=>MR E k n p e l)))
def HJ (a:V)(b:Value)(c d e:H)(f:Nat):R:=ifB (Nat.ble 3 f) (rc 404 [] e λ g h=>onRow (hget h c.1) λ _ i _ _ _ j=>JA E rc k a j b g d h i)
def If (a:Value)(b c d:H):R:=ifB (Nat.ble d.1 1000000000) (letH (H.mk d.1 d.2) λ e=>onRow (hget e b.1) λ _ f _ _ _ g=>HJ E rc k g a b c e f)
def Kk (a:Value)(b c:H):R:=ifB (Nat.ble c.1 1000000000) (letH (ag c (.row 427 4 false false 0 (T.ofList unk [.int .u64 (.ofNat 0),.int .u8 (.ofNat 0),.int .u8 (.ofNat 0),.int .u64 (.ofNat 0)]))) λ d=>If E rc k a b c d)
def On (a:L)(b:Value)(c:H):R:=ifB (allF (λ d=>cell1F d) a) (ifB (Nat.ble c.1 1000000000) (letH (ag c (.row 412 (lenF a) false false 0 (T.ofList unk a))) λ d=>Kk E rc k b c d))
def P6 (E:Env)(rc:RC)(a0 a1:Value)(h:H)(k:Value→H→R):R:=onCells a0 λ a=>On E rc k a a1 h
theorem CJ (t:ak)(rc:RC)(a0 a1:Value)(h:H)(k:Value→H→R):(ax (EX t) KK 394).run rc [a0,a1] h k = P6 (EX t) rc a0 a1 h k:=by kernel_rfl
def abN (E:Env)(rc:RC)(h:H)(k:Value→H→R):R:=ifB (Nat.ble h.1 1000000000) (letH (ag h (.row 258 1 false false 0 (T.ofList unk [.slice none 0 0]))) λ a=>Az E rc k h a)
theorem Dq (t:ak)(rc:RC)(h:H)(k:Value→H→R):(ax (EX t) KK 404).run rc [] h k = abN (EX t) rc  h k:=by kernel_rfl
def QX (a:V)(b:Value)(c d:H):R:=rc 163 [.agg ⟨ac a 3 0⟩,b,.int .i64 (.ofNat 24)] d λ e f=>onTup e λ g=>nthF 0 g λ h=>onTup e λ i=>nthF 1 i λ _=>As E k h c f
def ajU (a:V)(b:Value)(c d:H)(e:Nat):R:=ifB (Nat.ble 3 e) (binR (binC E .mul 3 false true) b (.int .i64 (.ofNat 24)) λ f=>QX E rc k a f c d)
def Qc (a:Value)(b c:H):R:=ifB (Nat.ble c.1 1000000000) (letH (ag c (.row 131 3 false false 0 (T.ofList unk [.pointer none,.int .i64 (.ofNat 0),.int .i64 (.ofNat 0)]))) λ d=>onRow (hget d b.1) λ _ e _ _ _ f=>ajU E rc k f a c d e)
def Ut (a:L)(b:Value)(c:H):R:=ifB (allF (λ d=>cell1F d) a) (ifB (Nat.ble c.1 1000000000) (letH (ag c (.row 412 (lenF a) false false 0 (T.ofList unk a))) λ d=>Qc E rc k b c d))
def ag3 (E:Env)(rc:RC)(a0 a1:Value)(h:H)(k:Value→H→R):R:=onCells a0 λ a=>Ut E rc k a a1 h
theorem Iu (t:ak)(rc:RC)(a0 a1:Value)(h:H)(k:Value→H→R):(ax (EX t) KK 405).run rc [a0,a1] h k = ag3 (EX t) rc a0 a1 h k:=by kernel_rfl
def amv (a:L)(b c:H):R:=ifB (allF (λ d=>cell1F d) a) (letH (hset c (Nat.add b.1 1) (.row 189 (lenF a) false false 0 (T.ofList unk a))) λ d=>k (.pointer (some (Addr.mk (Nat.add b.1 1) 0 none))) d)
def ap8 (a:Nat→Value)(b:V)(c:AO)(d e:H):R:=letH (hset e d.1 c) λ f=>bindO (cg E 189 [(0,a d.1),(1,.agg ⟨ac b 2 0⟩)]) λ g=>onCells g λ h=>amv k h d f
def ak0 (a b : V) (c : Value) (d e : H) (f : Nat) : R := ifB (Nat.ble 2 f) (ifB (aj (.agg ⟨ac b 2 0⟩) (.agg ⟨ac a 2 0⟩)) (oo (cM E (@T.n Value (@T.c Value undef) c (@T.n Value (@T.c Value undef) c (@T.c Value undef))) (Oper.mk none (Op.makeSlice 187 (.tmp 0) (.tmp 2)) 0 " " #[] none)) fun g h => ap8 E k h a g d e))
def ale (a b:V)(c d e:H)(f:Nat):R:=ifB (Nat.ble 2 f) (rc 108 [.agg ⟨ac a 2 0⟩] e λ g h=>onRow (hget h c.1) λ _ i _ _ _ j=>ak0 E k b j g d h i)
def akA (a b c:H):R:=onRow (hget c a.1) λ _ d _ _ _ e=>ifB (Nat.ble 2 d) (onRow (hget c a.1) λ _ f _ _ _ g=>ale E rc k e g a b c f)
def akL (a:L)(b:V)(c d:Bool)(e:TypeId)(f g:H)(h i:Nat):R:=ifB (notB d) (ifB (Nat.beq (lenF a) 2) (ifB (Nat.ble i 0) (ifB (Nat.ble 2 h) (ifB (Nat.ble h 1000000000) (ifB (allF (λ j=>cell1F j) a) (letH (hset g f.1 (.row e h c false i (putF b 0 a))) λ j=>ifB (Nat.ble j.1 1000000000) (letH (H.mk (Nat.add j.1 2) j.2) λ l=>akA E rc k f j l)))))))
def akI (a:Value)(b:H):R:=ifB (Nat.ble b.1 1000000000) (letH (ag b (.row 185 2 false false 0 (T.ofList unk [.int .i64 (.ofNat 0),.slice none 0 0]))) λ c=>onCells a λ d=>onRow (hget c b.1) λ e f g h i j=>akL E rc k d j g h e b c f i)
def g21 (E:Env)(rc:RC)(a0:Value)(h:H)(k:Value→H→R):R:=rc 107 [a0] h λ a b=>akI E rc k a b
theorem ahU (t:ak)(rc:RC)(a0:Value)(h:H)(k:Value→H→R):(ax (EX t) KK 76).run rc [a0] h k = g21 (EX t) rc a0 h k:=by kernel_rfl
def akY (a:V)(b:Addr)(c:H)(d:Nat):R:=ifB (Nat.ble (Nat.add (Nat.add b.2 4) 3) d) (rc 180 [.agg ⟨ac a 3 (Nat.add b.2 4)⟩,.int .i64 (.ofNat 64),.int .i64 (.ofNat 8)] c λ e f=>onTup e λ g=>nthF 0 g λ h=>onTup e λ i=>nthF 1 i λ _=>k h f)
def al0 (a b:Value)(c:H):R:=@joinR [2] (λ _ d=>bindO (aT a) λ e=>onPtr e λ f=>onRow (hget d f.1) λ _ g _ _ _ h=>akY rc k h f d g) λ d=>onB b (d (.int .u64 (.ofNat 0),()) c) (k (.int .u64 (.ofNat 0)) c)
def g23 (E:Env)(rc:RC)(a0:Value)(h:H)(k:Value→H→R):R:=binR (binC E .eql 120 false true) a0 (.pointer none) λ a=>al0 rc k a0 a h
theorem ahY (t:ak)(rc:RC)(a0:Value)(h:H)(k:Value→H→R):(ax (EX t) KK 210).run rc [a0] h k = g23 (EX t) rc a0 h k:=by kernel_rfl
def aoi (a:(aa [5,6])→H→R)(b:aa [5,6])(c:aa [5])(d:Value)(e f:H):R:=onRow (hget f e.1) λ _ g _ _ _ h=>ifB (Nat.ble 1 g) (rc 291 [.agg ⟨ac h 1 0⟩,b.2.1,d] f λ i j=>a (c.1,(i,())) j)
def aqx (a:(aa [5])→H→R)(b:aa [5,6])(c:L)(d:H):R:=ifB (Nat.ble d.1 1000000000) (letH (ag d (.row 3 1 false false 0 (T.ofList unk c))) λ e=>cT (bu E e Builtin.append [b.1,.slice (some (Addr.mk d.1 0 none)) 1 2] [256,256]) λ f g=>a (f,()) g)
def aph (a:(aa [5])→H→R)(b:aa [5,6])(c:H):R:=@Option.rec (List Value) (λ _=>R) none (λ d=>aqx E a b d c) (cG (λ d=>some (Nat.mul d 1,1)) (List.flatten (List.replicate 1 (cellsOfV (.int .i64 (.ofNat 0))))) [(0,b.2.1)])
def anW (a:(aa [5,6])→H→R)(b:(aa [5])→H→R)(c:aa [5,6])(d:Value)(e f:H):R:=binR (binC E .neq 3 false true) c.2.1 (.int .i64 (.ofNat 0)) λ g=>@joinR [] (λ _ h=>@joinR [5] (λ i j=>aoi rc a c i d e j) λ i=>aph E i c h) λ h=>onB g (b (c.1,()) f) (h () f)
def anR (a b:Value)(c d:H):R:=@joinR [4] (λ _ e=>@joinR [5] (λ f g=>k f.1 g) λ f=>@loopF [5,6] (λ g h i=>anW E rc g f h a c i) 1000000 (.slice none 0 0,(a,())) e) λ e=>onB b (e (.slice none 0 0,()) d) (k (.slice none 0 0) d)
def aou (a:V)(b:Value)(c d:H)(e:Nat):R:=ifB (Nat.ble 1 e) (rc 267 [.agg ⟨ac a 1 0⟩,b] d λ f g=>binR (binC E .neq 24 false true) f (.int .i64 (.ofNat 0)) λ h=>anR E rc k b h c g)
def apC (a:L)(b:Value)(c:H):R:=ifB (allF (λ d=>cell1F d) a) (ifB (Nat.ble c.1 1000000000) (letH (ag c (.row 127 (lenF a) false false 0 (T.ofList unk a))) λ d=>onRow (hget d c.1) λ _ e _ _ _ f=>aou E rc k f b c d e))
def g47 (E:Env)(rc:RC)(a0 a1:Value)(h:H)(k:Value→H→R):R:=onCells a0 λ a=>apC E rc k a a1 h
theorem acs (t:ak)(rc:RC)(a0 a1:Value)(h:H)(k:Value→H→R):(ax (EX t) KK 211).run rc [a0,a1] h k = g47 (EX t) rc a0 a1 h k:=by kernel_rfl
def amj (a:L)(b:V)(c d:Bool)(e:TypeId)(f g:H)(h i:Nat):R:=ifB (notB d) (ifB (Nat.beq (lenF a) 2) (ifB (Nat.ble i 0) (ifB (Nat.ble 2 h) (ifB (Nat.ble h 1000000000) (ifB (allF (λ j=>cell1F j) a) (letH (hset g f.1 (.row e h c false i (putF b 0 a))) λ j=>bindO (aU E j 185 (Addr.mk f.1 0 none)) λ l=>k l j))))))
def ala (a:Nat→Value)(b:Value)(c d e:H):R:=bindO (cg E 185 [(0,b),(1,a d.1)]) λ f=>onCells f λ g=>onRow (hget e c.1) λ h i j l m n=>amj E k g n j l h c e i m
def amU (a b : Value) (c d : H) : R := oo (cM E (@T.n Value (@T.c Value undef) b (@T.n Value (@T.c Value undef) b (@T.c Value undef))) (Oper.mk none (Op.makeSlice 183 (.tmp 0) (.tmp 2)) 0 " " #[] none)) fun e f => ifB (Nat.ble d.1 1000000000) (letH (ag d e) fun g => ala E k f a c d g)
def anK (a b:Value)(c d:H):R:=binR (binC E .sub 3 false true) b (.int .i64 (.ofNat 1)) λ e=>binR (binC E .quo 3 false true) e (.int .i64 (.ofNat 64)) λ f=>amU E k a f c d
def akH (a:Value)(b c:H):R:=bindO (bn E c Builtin.max [.int .i64 (.ofNat 0),a] [3,3]) λ d=>binR (binC E .add 3 false true) d (.int .i64 (.ofNat 64)) λ e=>anK E k d e b c
def g44 (E:Env)(rc:RC)(a0:Value)(h:H)(k:Value→H→R):R:=ifB (Nat.ble h.1 1000000000) (letH (ag h (.row 185 2 false false 0 (T.ofList unk [.int .i64 (.ofNat 0),.slice none 0 0]))) λ a=>bindO (bn E a Builtin.min [a0,.int .i64 (.ofNat 1048576)] [3,3]) λ b=>akH E k b h a)
theorem afU (t:ak)(rc:RC)(a0:Value)(h:H)(k:Value→H→R):(ax (EX t) KK 107).run rc [a0] h k = g44 (EX t) rc a0 h k:=by kernel_rfl
def ac5 (a b:H):R:=onRow (hget b a.1) λ _ c _ _ _ d=>ifB (Nat.ble 9 c) (rc 117 [.agg ⟨ac d 9 0⟩,.int .i64 (.ofNat 24)] b λ e f=>k e f)
def TR (a:L)(b:H):R:=ifB (allF (λ c=>cell1F c) a) (ifB (Nat.ble b.1 1000000000) (letH (ag b (.row 144 (lenF a) false false 0 (T.ofList unk a))) λ c=>ac5 rc k b c))
def QB (E:Env)(rc:RC)(a0:Value)(h:H)(k:Value→H→R):R:=onCells a0 λ a=>TR rc k a h
theorem D5 (t:ak)(rc:RC)(a0:Value)(h:H)(k:Value→H→R):(ax (EX t) KK 81).run rc [a0] h k = QB (EX t) rc a0 h k:=by kernel_rfl
def W5 (a:(aa [6,7])→H→R)(b:aa [6,7,11])(c:Value)(d:H):R:=onB c (a (b.1,(b.2.1,())) d) (ifB (nT [b.2.2.1,.bool true]) (k (.tuple ⟨[b.2.2.1,.bool true]⟩) d))
def UC (a:(aa [6,7])→H→R)(b:aa [6,7,11])(c:Value)(d:H):R:=onTup c λ e=>nthF 0 e λ _=>onTup c λ f=>nthF 1 f λ g=>@joinR [6,7] (λ h i=>a (h.1,(h.2.1,())) i) λ h=>W5 k h b g d
def Wu (a:(aa [6,7])→H→R)(b:aa [6,7,11])(c d e:Value)(f:H):R:=bindO (cg E 199 [(1,b.2.2.1)]) λ g=>bindO (bn E f Builtin.max [c,.int .i64 (.ofNat 32)] [3,3]) λ h=>rc 118 [g,h,d,e] f λ i j=>UC k a b i j
def abn (a:(aa [6,7,11])→H→R)(b:aa [6,7,11])(c d e:Value)(f:H):R:=@joinR [6,7] (λ g h=>binR (binC E .add 3 false true) b.2.2.1 (.int .i64 (.ofNat 1)) λ i=>a (g.1,(g.2.1,(i,()))) h) λ g=>Wu E rc k g b c d e f
def afH (a:(aa [6,7,11])→H→R)(b:(aa [6,7])→H→R)(c:aa [6,7,11])(d e f:Value)(g:H):R:=binR (binC E .lss 3 false true) c.2.2.1 (.int .i64 (.ofNat 11)) λ h=>@joinR [] (λ _ i=>abn E rc k a c d e f i) λ i=>onB h (b (c.1,(c.2.1,())) g) (i () g)
def ahE (E:Env)(rc:RC)(a0 a1 a2:Value)(h:H)(k:Value→H→R):R:=@joinR [6,7] (λ _ a=>k (.tuple ⟨[.int .i64 (.ofNat 0),.bool false]⟩) a) λ a=>@loopF [6,7,11] (λ b c d=>afH E rc k b a c a0 a1 a2 d) 1000000 (.int .i64 (.ofNat 0),(.bool false,(.int .i64 (.ofNat 0),()))) h
theorem E8 (t:ak)(rc:RC)(a0 a1 a2:Value)(h:H)(k:Value→H→R):(ax (EX t) KK 82).run rc [a0,a1,a2] h k = ahE (EX t) rc a0 a1 a2 h k:=by kernel_rfl
def tc (a b:Value)(c d:H):R:=onRow (hget d c.1) λ _ e _ _ _ f=>ifB (Nat.ble 1 e) (rc 129 [.agg ⟨ac f 1 0⟩,a,b] d λ _ g=>k (.int .i64 (.ofNat 0)) g)
def WX (a:V)(b c d:Value)(e f:H):R:=joinL (λ g=>rc 128 [.agg ⟨ac a 12 0⟩,.int .i64 (.ofNat 7),g] f λ _ h=>tc rc k b c e h) λ g=>js E g d f
def acT (a b:V)(c d e:Value)(f g:H)(h:Nat):R:=ifB (Nat.ble 12 h) (ifB (aj (.agg ⟨ac b 12 0⟩) (.agg ⟨ac a 12 0⟩)) (ifB (aj d d) (binR (binC E .add 3 false false) e d λ i=>WX E rc k a c d i f g)))
def Zz (a b:V)(c d:Value)(e f g:H)(h:Nat):R:=ifB (Nat.ble 1 h) (rc 127 [.agg ⟨ac b 1 0⟩,c] g λ i j=>onRow (hget j f.1) λ _ l _ _ _ m=>acT E rc k a m c d i e j l)
def ah4 (a b:Value)(c d e:H):R:=onRow (hget e d.1) λ _ f _ _ _ g=>ifB (Nat.ble 12 f) (onRow (hget e c.1) λ _ h _ _ _ i=>Zz E rc k g i a b c d e h)
def ai9 (a:(aa [6])→H→R)(b c:Value)(d:H):R:=onB b (@joinR [6] (λ e f=>a (e.1,()) f) λ e=>e (.int .i64 (.ofNat 0),()) d) (@joinR [6] (λ e f=>a (e.1,()) f) λ e=>onB c (e (.int .i64 (.ofNat 0),()) d) (k (.int .i64 (.ofNat 5)) d))
def R7 (a:(aa [6])→H→R)(b c d e:Value)(f:H):R:=ae (λ g h=>ae (λ i j=>ai9 k a b i j) λ i=>aB b (i undef h) (onB g (i (.bool true) h) (i (.bool false) h)) (i undef h)) λ g=>aB b (g undef f) (rc 115 [c,d,e] f g) (g undef f)
def Q6 (a:(aa [6])→H→R)(b c d e:Value)(f:H):R:=ae (λ g h=>ae (λ i j=>R7 rc k a d e g i j) λ i=>aB d (i undef h) (i c h) (i undef h)) λ g=>aB d (g undef f) (g b f) (g undef f)
def uJ (a:Value→H→R)(b:Value)(c d:H):R:=aB b (a undef d) (onRow (hget d c.1) λ _ e _ _ _ f=>ifB (Nat.ble 1 e) (a (.agg ⟨ac f 1 0⟩) d)) (a undef d)
def J8 (a:(aa [6])→H→R)(b c d:Value)(e f:H):R:=onB d (binR (binC E .gtr 3 false true) c (.int .i64 (.ofNat 0)) λ g=>ae (λ h i=>Q6 rc k a b c g h i) λ h=>uJ h g e f) (k (.int .i64 (.ofNat 2)) f)
def Gi (a:(aa [6])→H→R)(b c d e:Value)(f g:H):R:=onB d (@joinR [6] (λ h i=>a (h.1,()) i) λ h=>J8 E rc k h b c e f g) (@joinR [6] (λ h i=>a (h.1,()) i) λ _=>k (.int .i64 (.ofNat 2)) g)
def Kl (a:(aa [6])→H→R)(b c d e f:Value)(g h:H):R:=ae (λ i j=>Gi E rc k a b c d i g j) λ i=>aB d (binR (binC E .lss 3 false false) e f λ j=>i j h) (i undef h) (i undef h)
def Dk (a:(aa [6])→H→R)(b c d e f g:Value)(h i:H):R:=ae (λ j l=>ae (λ m n=>Kl E rc k a b c d e m h n) λ m=>aB d (bindO (unV .neg j) λ n=>m n l) (m undef l) (m undef l)) λ j=>aB d (rc 127 [f,g] i j) (j undef i) (j undef i)
def Do (a:(aa [6])→H→R)(b c d e:Value)(f g:H):R:=ae (λ h i=>ae (λ j l=>Dk E rc k a b c d e h j f l) λ j=>aB d (j b i) (j undef i) (j undef i)) λ h=>wD h d f g
def Hh (a:(aa [6])→H→R)(b c d e:Value)(f g:H):R:=onB e (binR (binC E .gtr 3 false true) c (.int .i64 (.ofNat 4294967296)) λ h=>ae (λ i j=>Do E rc k a b c h i f j) λ i=>aB h (i c g) (i undef g) (i undef g)) (k d g)
def KD (a:(aa [6])→H→R)(b c d:Value)(e f:H):R:=binR (binC E .neq 24 false true) d (.int .i64 (.ofNat 0)) λ g=>@joinR [6] (λ h i=>a (h.1,()) i) λ h=>Hh E rc k h b c d g e f
def MZ (a:L)(b:V)(c d:Bool)(e:TypeId)(f g h:Value)(i j l:H)(m n:Nat):R:=ifB (notB d) (ifB (Nat.beq (lenF a) 12) (ifB (Nat.ble n 0) (ifB (Nat.ble 12 m) (ifB (Nat.ble m 1000000000) (ifB (allF (λ o=>cell1F o) a) (letH (hset l j.1 (.row e m c false n (putF b 0 a))) λ o=>@joinR [6] (λ _ p=>ifB (Nat.ble p.1 1000000000) (letH (H.mk p.1 p.2) λ q=>ah4 E rc k f g i j q)) λ p=>KD E rc k p f g h i o))))))
def LX (a b c d:Value)(e f:H):R:=ifB (Nat.ble f.1 1000000000) (letH (ag f (.row 148 12 false false 0 (T.ofList unk [.pointer none,.pointer none,.int .i64 (.ofNat 0),.int .i64 (.ofNat 0),.int .u64 (.ofNat 0),.pointer none,.int .i64 (.ofNat 0),.int .i64 (.ofNat 0),.int .i64 (.ofNat 0),.pointer none,.int .i64 (.ofNat 0),.int .i64 (.ofNat 0)]))) λ g=>onCells c λ h=>onRow (hget g f.1) λ i j l m n o=>MZ E rc k h o l m i a b d e f g j n)
def HR (a:V)(b c:Value)(d e:H)(f:Nat):R:=ifB (Nat.ble 1 f) (rc 126 [getF a 0,b] e λ g h=>onTup g λ i=>nthF 0 i λ j=>onTup g λ l=>nthF 1 l λ m=>LX E rc k b c j m d h)
def HY (a:L)(b c:Value)(d:H):R:=ifB (allF (λ e=>cell1F e) a) (ifB (Nat.ble d.1 1000000000) (letH (ag d (.row 129 (lenF a) false false 0 (T.ofList unk a))) λ e=>onRow (hget e d.1) λ _ f _ _ _ g=>HR E rc k g b c d e f))
def Vu (E:Env)(rc:RC)(a0 a1 a2:Value)(h:H)(k:Value→H→R):R:=onCells a0 λ a=>HY E rc k a a1 a2 h
theorem G4 (t:ak)(rc:RC)(a0 a1 a2:Value)(h:H)(k:Value→H→R):(ax (EX t) KK 86).run rc [a0,a1,a2] h k = Vu (EX t) rc a0 a1 a2 h k:=by kernel_rfl
def aoA (a:V)(b:Addr)(c:Value)(d:H)(e:Nat):R:=ifB (Nat.ble (Nat.add (Nat.add b.2 3) 3) e) (rc 105 [.agg ⟨ac a 3 (Nat.add b.2 3)⟩,.int .i64 (.ofNat 104),.int .i64 (.ofNat 8),.int .u64 (.ofNat 6432341300767115597)] d λ _ f=>ifB (nT [c,.int .i64 (.ofNat 0)]) (k (.tuple ⟨[c,.int .i64 (.ofNat 0)]⟩) f))
def anC (a:L)(b:Value)(c:H):R:=nthF 1 a λ _=>bindO (aT b) λ d=>onPtr d λ e=>onRow (hget c e.1) λ _ f _ _ _ g=>aoA rc k g e b c f
def apU (a:aa [2,3])(b c d:Value)(e:H):R:=@joinR [2,3] (λ _ f=>rc 152 [b] f λ g h=>onTup g λ i=>nthF 0 i λ j=>onTup g λ l=>anC rc k l j h) λ f=>onB d (f (a.1,(a.2.1,())) e) (ifB (nT [.pointer none,c]) (k (.tuple ⟨[.pointer none,c]⟩) e))
def alb (a:aa [2,3])(b c:Value)(d:H):R:=rc 151 [b,.int .i64 (.ofNat 0),c] d λ e f=>binR (binC E .neq 24 false true) e (.int .i64 (.ofNat 0)) λ g=>apU rc k a b e g f
def anT (a:aa [2,3])(b c d:Value)(e:H):R:=@joinR [2,3] (λ f g=>alb E rc k f b c g) λ f=>onB d (f (a.1,(a.2.1,())) e) (k (.tuple ⟨[.pointer none,.int .i64 (.ofNat 3)]⟩) e)
def ald (a:aa [2,3])(b c:Value)(d:H):R:=rc 149 [c] d λ e f=>rc 150 [b] f λ g h=>binR (binC E .leq 3 false false) g e λ i=>anT E rc k a b e i h
def anI (a b:Value)(c:H):R:=@joinR [2,3] (λ d e=>rc 150 [a] e λ f g=>ald E rc k d a f g) λ d=>onB b (d (.pointer none,(.int .i64 (.ofNat 0),())) c) (k (.tuple ⟨[.pointer none,.int .i64 (.ofNat 1)]⟩) c)
def g37 (E:Env)(rc:RC)(a0:Value)(h:H)(k:Value→H→R):R:=binR (binC E .eql 123 false true) a0 (.pointer none) λ a=>anI E rc k a0 a h
theorem T0 (t:ak)(rc:RC)(a0:Value)(h:H)(k:Value→H→R):(ax (EX t) KK 100).run rc [a0] h k = g37 (EX t) rc a0 h k:=by kernel_rfl
def aqX (a:L)(b c:H):R:=ifB (allF (λ d=>cell1F d) a) (letH (hset c b.1 (.row 135 (lenF a) false false 0 (T.ofList unk a))) λ d=>k (.tuple ⟨[.pointer (some (Addr.mk b.1 0 none)),.int .i64 (.ofNat 0)]⟩) d)
def amm (a b:V)(c d:Value)(e f:H)(g:Nat):R:=ifB (Nat.ble 3 g) (ifB (aj (.agg ⟨ac b 3 0⟩) (.agg ⟨ac a 3 0⟩)) (bindO (cg E 135 [(0,c),(1,d),(2,.agg ⟨ac a 3 0⟩)]) λ h=>onCells h λ i=>aqX k i e f))
def amg (a b c:V)(d:Value)(e f g:H)(h:Nat):R:=ifB (Nat.ble 3 h) (ifB (aj (.agg ⟨ac c 3 0⟩) (.agg ⟨ac b 3 0⟩)) (rc 166 [.agg ⟨ac a 3 0⟩] g λ i j=>onRow (hget j e.1) λ _ l _ _ _ m=>amm E k b m d i f j l))
def aqH (a b c:V)(d:Value)(e f g:H)(h:Nat):R:=ifB (Nat.ble 3 h) (ifB (aj (.agg ⟨ac c 3 0⟩) (.agg ⟨ac a 3 0⟩)) (onRow (hget g e.1) λ _ i _ _ _ j=>amg E rc k a b j d e f g i))
def anN (a b c:V)(d:Value)(e f g h:H)(i:Nat):R:=ifB (Nat.ble 3 i) (ifB (aj (.agg ⟨ac c 3 0⟩) (.agg ⟨ac b 3 0⟩)) (rc 164 [d] h λ j l=>onRow (hget l f.1) λ _ m _ _ _ n=>aqH E rc k a b n j e g l m))
def ap9 (a b c:V)(d:Value)(e f g h:H)(i:Nat):R:=ifB (Nat.ble 3 i) (ifB (aj (.agg ⟨ac c 3 0⟩) (.agg ⟨ac a 3 0⟩)) (onRow (hget h e.1) λ _ j _ _ _ l=>anN E rc k a b l d e f g h j))
def amh (a b:V)(c:Value)(d e f g:H)(h:Nat):R:=ifB (Nat.ble 3 h) (rc 165 [c] g λ i j=>onRow (hget j e.1) λ _ l _ _ _ m=>ap9 E rc k a b m i d e f j l)
def ao5 (a:Value)(b c d e:H):R:=onRow (hget e c.1) λ _ f _ _ _ g=>ifB (Nat.ble 3 f) (onRow (hget e b.1) λ _ h _ _ _ i=>amh E rc k g i a b c d e h)
def alE (a:aa [6,7])(b c d:Value)(e f g:H):R:=@joinR [6,7] (λ _ h=>ifB (Nat.ble h.1 1000000000) (letH (H.mk (Nat.add h.1 1) h.2) λ i=>ao5 E rc k b e f h i)) λ h=>onB d (h (a.1,(a.2.1,())) g) (ifB (nT [.pointer none,c]) (k (.tuple ⟨[.pointer none,c]⟩) g))
def ak1 (a:aa [6,7])(b c:Value)(d e f:H):R:=binR (binC E .neq 24 false true) c (.int .i64 (.ofNat 0)) λ g=>alE E rc k a b c g d e f
def V1 (a b:Array Value)(c:aa [6,7])(d:V)(e:FuncId)(f:Value)(g h i:H):R:=rc e (ny a b [f,.agg ⟨ac d 3 0⟩]) i λ j l=>onTup j λ m=>nthF 0 m λ n=>onTup j λ o=>nthF 1 o λ p=>ak1 E rc k c n p g h l
def Wt (a:aa [6,7])(b c:Value)(d e f g:H):R:=onRow (hget g e.1) λ _ h _ _ _ i=>ifB (Nat.ble 3 h) (yu c λ j l m=>V1 E rc k l m a i j b d f g)
def agX (a:aa [6,7])(b:L)(c:V)(d e:Bool)(f:TypeId)(g h:Value)(i j l m:H)(n o:Nat):R:=ifB (notB e) (ifB (Nat.beq (lenF b) 3) (ifB (Nat.ble o 0) (ifB (Nat.ble 3 n) (ifB (Nat.ble n 1000000000) (ifB (allF (λ p=>cell1F p) b) (letH (hset m l.1 (.row f n d false o (putF c 0 b))) λ p=>Wt E rc k a g h i j l p))))))
def Tb (a:aa [6,7])(b c d:Value)(e f g:H):R:=ifB (Nat.ble g.1 1000000000) (letH (ag g (.row 131 3 false false 0 (T.ofList unk [.pointer none,.int .i64 (.ofNat 0),.int .i64 (.ofNat 0)]))) λ h=>onCells d λ i=>onRow (hget h g.1) λ j l m n o p=>agX E rc k a i p m n j b c e f g h l o)
def Yz (a:aa [6,7])(b:V)(c d:Value)(e f g:H)(h:Nat):R:=ifB (Nat.ble 3 h) (rc 163 [.agg ⟨ac b 3 0⟩,.int .i64 (.ofNat 4096),.int .i64 (.ofNat 4096)] g λ i j=>onTup i λ l=>nthF 0 l λ m=>onTup i λ n=>nthF 1 n λ _=>Tb E rc k a c d m e f j)
def YA (a:aa [6,7])(b:L)(c:V)(d e:Bool)(f:TypeId)(g h:Value)(i j l:H)(m n:Nat):R:=ifB (notB e) (ifB (Nat.beq (lenF b) 3) (ifB (Nat.ble n 0) (ifB (Nat.ble 3 m) (ifB (Nat.ble m 1000000000) (ifB (allF (λ o=>cell1F o) b) (letH (hset l j.1 (.row f m d false n (putF c 0 b))) λ o=>onRow (hget o i.1) λ _ p _ _ _ q=>Yz E rc k a q g h i j o p))))))
def YI (a:aa [6,7])(b c d:Value)(e f:H):R:=ifB (Nat.ble f.1 1000000000) (letH (ag f (.row 131 3 false false 0 (T.ofList unk [.pointer none,.int .i64 (.ofNat 0),.int .i64 (.ofNat 0)]))) λ g=>onCells d λ h=>onRow (hget g f.1) λ i j l m n o=>YA E rc k a h o l m i b c e f g j n)
def aj8 (a:aa [6,7])(b:V)(c d:Value)(e f:H)(g:Nat):R:=ifB (Nat.ble 3 g) (rc 163 [.agg ⟨ac b 3 0⟩,.int .i64 (.ofNat 0),.int .i64 (.ofNat 64)] f λ h i=>onTup h λ j=>nthF 0 j λ l=>onTup h λ m=>nthF 1 m λ _=>YI E rc k a c d l e i)
def ajR (a b c:Value)(d e:H):R:=@joinR [6,7] (λ f g=>onRow (hget g d.1) λ _ h _ _ _ i=>aj8 E rc k f i a b d g h) λ f=>onB c (f (.pointer none,(.int .i64 (.ofNat 0),())) e) (k (.tuple ⟨[.pointer none,.int .i64 (.ofNat 7)]⟩) e)
def agq (a:L)(b:V)(c d:Bool)(e:TypeId)(f g h:Value)(i j:H)(l m:Nat):R:=ifB (notB d) (ifB (Nat.beq (lenF a) 3) (ifB (Nat.ble m 0) (ifB (Nat.ble 3 l) (ifB (Nat.ble l 1000000000) (ifB (allF (λ n=>cell1F n) a) (letH (hset j i.1 (.row e l c false m (putF b 0 a))) λ n=>binR (binC E .neq 24 false true) h (.int .i64 (.ofNat 0)) λ o=>ajR E rc k f g o i n))))))
def XF (a b c d:Value)(e:H):R:=ifB (Nat.ble e.1 1000000000) (letH (ag e (.row 131 3 false false 0 (T.ofList unk [.pointer none,.int .i64 (.ofNat 0),.int .i64 (.ofNat 0)]))) λ f=>onCells c λ g=>onRow (hget f e.1) λ h i j l m n=>agq E rc k g n j l h a b d e f i m)
def SR (a:V)(b:Addr)(c d e:Value)(f:H)(g:Nat):R:=ifB (Nat.ble (Nat.succ b.2) g) (rc 162 [getF a b.2,d,.int .i64 (.ofNat 8192)] f λ h i=>onTup h λ j=>nthF 0 j λ l=>onTup h λ m=>nthF 1 m λ n=>XF E rc k c e l n i)
def g40 (E:Env)(rc:RC)(a0 a1 a2:Value)(h:H)(k:Value→H→R):R:=bindO (aT a0) λ a=>onPtr a λ _=>onPtr a λ b=>onRow (hget h b.1) λ _ c _ _ _ d=>SR E rc k d b a0 a1 a2 h c
theorem aeH (t:ak)(rc:RC)(a0 a1 a2:Value)(h:H)(k:Value→H→R):(ax (EX t) KK 103).run rc [a0,a1,a2] h k = g40 (EX t) rc a0 a1 a2 h k:=by kernel_rfl
def anB (a:V)(b:Value)(c:H)(d:Nat):R:=ifB (Nat.ble 3 d) (rc 105 [.agg ⟨ac a 3 0⟩,.int .i64 (.ofNat 40),.int .i64 (.ofNat 8),.int .u64 (.ofNat 16)] c λ _ e=>ifB (nT [b,.int .i64 (.ofNat 0)]) (k (.tuple ⟨[b,.int .i64 (.ofNat 0)]⟩) e))
def apR (a:V)(b:Value)(c d:H)(e:Nat):R:=ifB (Nat.ble 3 e) (rc 168 [.agg ⟨ac a 3 0⟩,.int .i64 (.ofNat 0),.int .i64 (.ofNat 64),.int .u8 (.ofNat 0)] d λ _ f=>onRow (hget f c.1) λ _ g _ _ _ h=>anB rc k h b f g)
def aqL (a:(aa [4,5])→H→R)(b c:Value)(d:H):R:=onB c (a (.pointer none,(.int .i64 (.ofNat 0),())) d) (ifB (nT [.pointer none,b]) (k (.tuple ⟨[.pointer none,b]⟩) d))
def aof (a b:Value)(c d:H):R:=binR (binC E .neq 24 false true) b (.int .i64 (.ofNat 0)) λ e=>@joinR [4,5] (λ _ f=>onRow (hget f c.1) λ _ g _ _ _ h=>apR rc k h a c f g) λ f=>aqL k f b e d
def am7 (a:V)(b:Value)(c d:H)(e:Nat):R:=ifB (Nat.ble 3 e) (rc 167 [b,.agg ⟨ac a 3 0⟩] d λ f g=>onTup f λ h=>nthF 0 h λ i=>onTup f λ j=>nthF 1 j λ l=>aof E rc k i l c g)
def alt (a:L)(b:Value)(c:H):R:=ifB (allF (λ d=>cell1F d) a) (ifB (Nat.ble c.1 1000000000) (letH (ag c (.row 131 (lenF a) false false 0 (T.ofList unk a))) λ d=>onRow (hget d c.1) λ _ e _ _ _ f=>am7 E rc k f b c d e))
def g41 (E:Env)(rc:RC)(a0 a1:Value)(h:H)(k:Value→H→R):R:=onCells a1 λ a=>alt E rc k a a0 h
theorem TD (t:ak)(rc:RC)(a0 a1:Value)(h:H)(k:Value→H→R):(ax (EX t) KK 104).run rc [a0,a1] h k = g41 (EX t) rc a0 a1 h k:=by kernel_rfl
def yx (a:(aa [6,1])→H→R)(b:aa [6,1])(c:aa [6])(d e:H):R:=onRow (hget e d.1) λ _ f _ _ _ g=>ifB (Nat.ble 1 f) (rc 185 [.agg ⟨ac g 1 0⟩,b.2.1] e λ h i=>a (c.1,(h,())) i)
def Wo (a:(aa [6,1])→H→R)(b:aa [6,1])(c:Value)(d e:H):R:=binR (binC E .neq 3 false true) c (.int .i64 (.ofNat 0)) λ f=>@joinR [6] (λ g h=>yx rc a b g d h) λ g=>onB f (g (b.1,()) e) (k c e)
def ZV (a:(aa [6,1])→H→R)(b:aa [6,1])(c d:H):R:=onRow (hget d c.1) λ _ e _ _ _ f=>ifB (Nat.ble 1 e) (rc 266 [.agg ⟨ac f 1 0⟩,b.2.1,.int .i64 (.ofNat 4)] d λ g h=>Wo E rc k a b g c h)
def ad2 (a:(aa [6,1])→H→R)(b:(aa [6])→H→R)(c:aa [6,1])(d:Value)(e f:H):R:=binR (binC E .neq 3 false false) c.2.1 d λ g=>@joinR [] (λ _ h=>@joinR [6,1] (λ i j=>a (i.1,(i.2.1,())) j) λ i=>ZV E rc k i c e h) λ h=>onB g (b (c.1,()) f) (h () f)
def T3 (a b c d:Value)(e f:H):R:=@joinR [6] (λ g h=>@joinR [6] (λ _ i=>k (.int .i64 (.ofNat 0)) i) λ i=>@loopF [6,1] (λ j l m=>ad2 E rc k j i l b e m) 1000000 (g.1,(a,())) h) λ g=>onB d (g (.int .i64 (.ofNat 0),()) f) (k c f)
def abA (a:V)(b c:Value)(d e:H)(f:Nat):R:=ifB (Nat.ble 1 f) (rc 266 [.agg ⟨ac a 1 0⟩,b,.int .i64 (.ofNat 2)] e λ g h=>binR (binC E .neq 3 false true) g (.int .i64 (.ofNat 0)) λ i=>T3 E rc k b c g i d h)
def Xr (a:L)(b c:Value)(d:H):R:=ifB (allF (λ e=>cell1F e) a) (ifB (Nat.ble d.1 1000000000) (letH (ag d (.row 127 (lenF a) false false 0 (T.ofList unk a))) λ e=>onRow (hget e d.1) λ _ f _ _ _ g=>abA E rc k g b c d e f))
def acu (E:Env)(rc:RC)(a0 a1 a2:Value)(h:H)(k:Value→H→R):R:=onCells a0 λ a=>Xr E rc k a a1 a2 h
theorem LY (t:ak)(rc:RC)(a0 a1 a2:Value)(h:H)(k:Value→H→R):(ax (EX t) KK 291).run rc [a0,a1,a2] h k = acu (EX t) rc a0 a1 a2 h k:=by kernel_rfl
def agW (a:Value)(b c:H):R:=onRow (hget c b.1) λ _ d _ _ _ e=>ifB (Nat.ble 1 d) (rc 202 [.agg ⟨ac e 1 0⟩,a,.int .i64 (.ofNat 7)] c λ f g=>k f g)
def adi (a:L)(b:Value)(c:H):R:=ifB (allF (λ d=>cell1F d) a) (ifB (Nat.ble c.1 1000000000) (letH (ag c (.row 129 (lenF a) false false 0 (T.ofList unk a))) λ d=>agW rc k b c d))
def aaM (E:Env)(rc:RC)(a0 a1:Value)(h:H)(k:Value→H→R):R:=onCells a0 λ a=>adi rc k a a1 h
theorem Mq (t:ak)(rc:RC)(a0 a1:Value)(h:H)(k:Value→H→R):(ax (EX t) KK 127).run rc [a0,a1] h k = aaM (EX t) rc a0 a1 h k:=by kernel_rfl
def ab4 (a b:Value)(c:H):R:=binR (binC E .gtr 3 false true) a (.int .i64 (.ofNat 0)) λ d=>ifB (nT [b,d]) (k (.tuple ⟨[b,d]⟩) c)
def aeZ (a:Value)(b:H):R:=binR (binC E .sub 3 false true) a (.int .i64 (.ofNat 1)) λ c=>bindO (bn E b Builtin.max [.int .i64 (.ofNat 0),c] [3,3]) λ d=>ab4 E k a d b
def aeo (a:Value)(b c:H):R:=onRow (hget c b.1) λ _ d _ _ _ e=>ifB (Nat.ble 1 d) (rc 202 [.agg ⟨ac e 1 0⟩,a,.int .i64 (.ofNat 6)] c λ f g=>aeZ E k f g)
def R5 (a:L)(b:Value)(c:H):R:=ifB (allF (λ d=>cell1F d) a) (ifB (Nat.ble c.1 1000000000) (letH (ag c (.row 129 (lenF a) false false 0 (T.ofList unk a))) λ d=>aeo E rc k b c d))
def ajn (E:Env)(rc:RC)(a0 a1:Value)(h:H)(k:Value→H→R):R:=onCells a0 λ a=>R5 E rc k a a1 h
theorem Ji (t:ak)(rc:RC)(a0 a1:Value)(h:H)(k:Value→H→R):(ax (EX t) KK 186).run rc [a0,a1] h k = ajn (EX t) rc a0 a1 h k:=by kernel_rfl
def aiy (a:V)(b:H)(c:Nat):R:=ifB (Nat.ble 12 c) (rc 346 [.agg ⟨ac a 12 0⟩,.int .i64 (.ofNat 4)] b λ d e=>rc 345 [d] e λ f g=>rc 347 [f] g λ h i=>k h i)
def XV (a:L)(b:H):R:=ifB (allF (λ c=>cell1F c) a) (ifB (Nat.ble b.1 1000000000) (letH (ag b (.row 148 (lenF a) false false 0 (T.ofList unk a))) λ c=>onRow (hget c b.1) λ _ d _ _ _ e=>aiy rc k e c d))
def acM (E:Env)(rc:RC)(a0:Value)(h:H)(k:Value→H→R):R:=onCells a0 λ a=>XV rc k a h
theorem I5 (t:ak)(rc:RC)(a0:Value)(h:H)(k:Value→H→R):(ax (EX t) KK 301).run rc [a0] h k = acM (EX t) rc a0 h k:=by kernel_rfl
def aak (a b:H):R:=onRow (hget b a.1) λ _ c _ _ _ d=>ifB (Nat.ble 9 c) (rc 117 [.agg ⟨ac d 9 0⟩,.int .i64 (.ofNat 8)] b λ e f=>k e f)
def RH (a:L)(b:H):R:=ifB (allF (λ c=>cell1F c) a) (ifB (Nat.ble b.1 1000000000) (letH (ag b (.row 144 (lenF a) false false 0 (T.ofList unk a))) λ c=>aak rc k b c))
def TK (E:Env)(rc:RC)(a0:Value)(h:H)(k:Value→H→R):R:=onCells a0 λ a=>RH rc k a h
theorem I8 (t:ak)(rc:RC)(a0:Value)(h:H)(k:Value→H→R):(ax (EX t) KK 122).run rc [a0] h k = TK (EX t) rc a0 h k:=by kernel_rfl
def BM (a:Value→H→R)(b c:Value)(d:H):R:=aB b (a undef d) (binR (binC E .eql 3 false true) c (.int .i64 (.ofNat 0)) λ e=>a e d) (a undef d)
def acx (a b:Value)(c:H):R:=ae (λ d e=>ae (λ f g=>onB b (k (.bool false) g) (k f g)) λ f=>BM E f b d e) λ d=>aB b (d undef c) (d a c) (d undef c)
def Rf (a:(aa [4])→H→R)(b c:Value)(d:H):R:=onB c (a (.bool false,()) d) (rc 82 [.int .i64 (.ofNat 32),b,.int .i64 (.ofNat 16)] d λ e f=>onTup e λ g=>nthF 0 g λ _=>onTup e λ h=>nthF 1 h λ i=>k i f)
def W4 (a b c:Value)(d:H):R:=@joinR [4] (λ _ e=>binR (binC E .eql 92 false true) a (.int .u64 (.ofNat 1)) λ f=>acx E k b f e) λ e=>Rf rc k e b c d
def Su (E:Env)(rc:RC)(a0 a1:Value)(h:H)(k:Value→H→R):R:=binR (binC E .eql 92 false true) a0 (.int .u64 (.ofNat 2)) λ a=>W4 E rc k a0 a1 a h
theorem LJ (t:ak)(rc:RC)(a0 a1:Value)(h:H)(k:Value→H→R):(ax (EX t) KK 113).run rc [a0,a1] h k = Su (EX t) rc a0 a1 h k:=by kernel_rfl
def UL (a:(aa [6])→H→R)(b:aa [6,1])(c d:Value)(e:H):R:=onB c (@joinR [6] (λ f g=>a (f.1,()) g) λ f=>f (b.1,()) e) (@joinR [6] (λ f g=>a (f.1,()) g) λ f=>onB d (f (b.1,()) e) (k (.bool false) e))
def aas (a:(aa [6])→H→R)(b:aa [6,1])(c d e:Value)(f:H):R:=ae (λ g h=>UL k a b c g h) λ g=>aB c (g undef f) (binR (binC E .gtr 3 false false) d e λ h=>g h f) (g undef f)
def abt (a:(aa [6])→H→R)(b:aa [6,1])(c d e f:Value)(g:H):R:=ae (λ h i=>ae (λ j l=>aas E k a b d h j l) λ j=>aB d (j undef i) (j c i) (j undef i)) λ h=>aB d (h undef g) (binR (binC E .add 3 false false) e f λ i=>h i g) (h undef g)
def aj1 (a:(aa [6])→H→R)(b:aa [6,1])(c d e f g:Value)(h:H):R:=ae (λ i j=>ae (λ l m=>abt E k a b d e i l m) λ l=>aB e (l undef j) (l c j) (l undef j)) λ i=>aB e (i undef h) (rc 187 [f,g] h i) (i undef h)
def SZ (a:(aa [6])→H→R)(b:aa [6,1])(c d e:Value)(f g:H):R:=ae (λ h i=>ae (λ j l=>aj1 E rc k a b c d e h j l) λ j=>aB e (j undef i) (j b.2.1 i) (j undef i)) λ h=>uJ h e f g
def Y2 (a:(aa [6])→H→R)(b:aa [6,1])(c:V)(d:Value)(e f:H)(g:Nat):R:=ifB (Nat.ble 1 g) (rc 186 [.agg ⟨ac c 1 0⟩,b.2.1] f λ h i=>onTup h λ j=>nthF 0 j λ l=>onTup h λ m=>nthF 1 m λ n=>SZ E rc k a b d l n e i)
def ai7 (a:(aa [6,1])→H→R)(b:aa [6,1])(c:Value)(d e:H):R:=@joinR [6] (λ f g=>yx rc a b f d g) λ f=>onRow (hget e d.1) λ _ g _ _ _ h=>Y2 E rc k f b h c d e g
def sI (a:(aa [6,1])→H→R)(b:(aa [6])→H→R)(c:aa [6,1])(d:Value)(e f:H):R:=binR (binC E .neq 3 false true) c.2.1 (.int .i64 (.ofNat 0)) λ g=>@joinR [] (λ _ h=>ai7 E rc k a c d e h) λ h=>onB g (b (c.1,()) f) (h () f)
def KG (a b c d:Value)(e f:H):R:=onB c (@joinR [6] (λ g h=>@joinR [6] (λ _ i=>k (.bool true) i) λ i=>@loopF [6,1] (λ j l m=>sI E rc k j i l b e m) 1000000 (g.1,(a,())) h) λ g=>onB d (g (.bool false,()) f) (k (.bool false) f)) (@joinR [6] (λ g h=>@joinR [6] (λ _ i=>k (.bool true) i) λ i=>@loopF [6,1] (λ j l m=>sI E rc k j i l b e m) 1000000 (g.1,(a,())) h) λ _=>k (.bool false) f)
def Ck (a:Value→H→R)(b c:Value)(d:H):R:=aB b (binR (binC E .gtr 3 false true) c (.int .i64 (.ofNat 4294967296)) λ e=>a e d) (a undef d) (a undef d)
def EV (a b:Value)(c d:H):R:=@joinR [6] (λ e f=>@joinR [6] (λ _ g=>k (.bool true) g) λ g=>@loopF [6,1] (λ h i j=>sI E rc k h g i b c j) 1000000 (e.1,(a,())) f) λ _=>k (.bool false) d
def Cw (a b c d:Value)(e f:H):R:=onB c (ae (λ g h=>ae (λ i j=>KG E rc k a b d i e j) λ i=>Ck E i d g h) λ g=>aB d (g b f) (g undef f) (g undef f)) (ae (λ _ g=>ae (λ _ h=>EV E rc k a b e h) λ h=>h undef g) λ g=>g undef f)
def CU (a b c:Value)(d e:H):R:=ae (λ f g=>ae (λ h i=>Cw E rc k a b c h d i) λ h=>ma E h c f g) λ f=>aB c (f b e) (f undef e) (f undef e)
def N4 (a:L)(b:V)(c d:Bool)(e:TypeId)(f g h:Value)(i j l:H)(m n:Nat):R:=ifB (notB d) (ifB (Nat.beq (lenF a) 12) (ifB (Nat.ble n 0) (ifB (Nat.ble 12 m) (ifB (Nat.ble m 1000000000) (ifB (allF (λ o=>cell1F o) a) (letH (hset l j.1 (.row e m c false n (putF b 0 a))) λ o=>binR (binC E .neq 24 false true) h (.int .i64 (.ofNat 0)) λ p=>CU E rc k f g p i o))))))
def Es (a b c d:Value)(e f:H):R:=ifB (Nat.ble f.1 1000000000) (letH (ag f (.row 148 12 false false 0 (T.ofList unk [.pointer none,.pointer none,.int .i64 (.ofNat 0),.int .i64 (.ofNat 0),.int .u64 (.ofNat 0),.pointer none,.int .i64 (.ofNat 0),.int .i64 (.ofNat 0),.int .i64 (.ofNat 0),.pointer none,.int .i64 (.ofNat 0),.int .i64 (.ofNat 0)]))) λ g=>onCells c λ h=>onRow (hget g f.1) λ i j l m n o=>N4 E rc k h o l m i a b d e f g j n)
def Me (a:V)(b c:Value)(d e:H)(f:Nat):R:=ifB (Nat.ble 1 f) (rc 126 [getF a 0,b] e λ g h=>onTup g λ i=>nthF 0 i λ j=>onTup g λ l=>nthF 1 l λ m=>Es E rc k b c j m d h)
def NY (a:L)(b c:Value)(d:H):R:=ifB (allF (λ e=>cell1F e) a) (ifB (Nat.ble d.1 1000000000) (letH (ag d (.row 129 (lenF a) false false 0 (T.ofList unk a))) λ e=>onRow (hget e d.1) λ _ f _ _ _ g=>Me E rc k g b c d e f))
def ajY (E:Env)(rc:RC)(a0 a1 a2:Value)(h:H)(k:Value→H→R):R:=onCells a0 λ a=>NY E rc k a a1 a2 h
theorem KO (t:ak)(rc:RC)(a0 a1 a2:Value)(h:H)(k:Value→H→R):(ax (EX t) KK 115).run rc [a0,a1,a2] h k = ajY (EX t) rc a0 a1 a2 h k:=by kernel_rfl
def af8 (a:(aa [6])→H→R)(b:aa [6])(c d:Value)(e f:H):R:=onB d (a (b.1,()) f) (onRow (hget f e.1) λ _ g _ _ _ h=>ifB (Nat.ble 1 g) (rc 189 [.agg ⟨ac h 1 0⟩,c] f λ _ i=>k (.int .i64 (.ofNat 5)) i))
def ajK (a:aa [6])(b c d e f:Value)(g h:H):R:=onB e (@joinR [6] (λ _ i=>tc rc k b d g i) λ i=>i (a.1,()) h) (@joinR [6] (λ _ i=>tc rc k b d g i) λ i=>af8 rc k i a c f g h)
def ahC (a:aa [6])(b c d e f g h:Value)(i j:H):R:=ae (λ l m=>ae (λ n o=>ajK rc k a b c d e n i o) λ n=>aB e (n undef m) (onB l (n (.bool true) m) (n (.bool false) m)) (n undef m)) λ l=>aB e (l undef j) (rc 115 [f,g,h] j l) (l undef j)
def YQ (a:aa [6])(b c d e f:Value)(g h:H):R:=ae (λ i j=>ae (λ l m=>ahC rc k a b c d e f i l g m) λ l=>aB e (l undef j) (l d j) (l undef j)) λ i=>aB e (i undef h) (i b h) (i undef h)
def R0 (a:aa [6])(b c d:Value)(e f:H):R:=binR (binC E .gtr 3 false true) d (.int .i64 (.ofNat 0)) λ g=>ae (λ h i=>YQ rc k a b c d g h e i) λ h=>uJ h g e f
def UR (a:aa [6])(b c:Value)(d e:H):R:=onRow (hget e d.1) λ _ f _ _ _ g=>ifB (Nat.ble 1 f) (rc 187 [.agg ⟨ac g 1 0⟩,c] e λ h i=>R0 E rc k a b c h d i)
def aeP (a b c:Value)(d e:H):R:=binR (binC E .neq 24 false true) c (.int .i64 (.ofNat 0)) λ f=>@joinR [6] (λ g h=>UR E rc k g a b d h) λ g=>onB f (g (.int .i64 (.ofNat 0),()) e) (k c e)
def Ex (a b:Value)(c d:H):R:=onRow (hget d c.1) λ _ e _ _ _ f=>ifB (Nat.ble 1 e) (rc 188 [.agg ⟨ac f 1 0⟩,a,b] d λ g h=>aeP E rc k a b g c h)
def MN (a:L)(b c:Value)(d:H):R:=ifB (allF (λ e=>cell1F e) a) (ifB (Nat.ble d.1 1000000000) (letH (ag d (.row 129 (lenF a) false false 0 (T.ofList unk a))) λ e=>Ex E rc k b c d e))
def S7 (E:Env)(rc:RC)(a0 a1 a2:Value)(h:H)(k:Value→H→R):R:=onCells a0 λ a=>MN E rc k a a1 a2 h
theorem Iq (t:ak)(rc:RC)(a0 a1 a2:Value)(h:H)(k:Value→H→R):(ax (EX t) KK 116).run rc [a0,a1,a2] h k = S7 (EX t) rc a0 a1 a2 h k:=by kernel_rfl
def aaC (a:aa [8,9])(b c:Value)(d:H):R:=onB c (@joinR [8,9] (λ _ e=>ifB (nT [b,.bool true]) (k (.tuple ⟨[b,.bool true]⟩) e)) λ _=>k (.tuple ⟨[.int .i64 (.ofNat 0),.bool false]⟩) d) (@joinR [8,9] (λ _ e=>ifB (nT [b,.bool true]) (k (.tuple ⟨[b,.bool true]⟩) e)) λ e=>e (a.1,(a.2.1,())) d)
def af2 (a:aa [8,9])(b c:Value)(d e:H):R:=onRow (hget e d.1) λ _ f _ _ _ g=>ifB (Nat.ble 4 f) (rc 192 [.agg ⟨ac g 4 0⟩,c,b] e λ h i=>aaC k a c h i)
def abJ (a:aa [8,9])(b c d:Value)(e f:H):R:=binR (binC E .sub 3 false true) c (.int .i64 (.ofNat 1)) λ g=>binR (binC E .andNot 3 false false) d g λ h=>af2 rc k a b h e f
def tO (a:aa [8,9])(b c d:Value)(e f:H):R:=binR (binC E .add 3 false false) d c λ g=>binR (binC E .sub 3 false true) g (.int .i64 (.ofNat 1)) λ h=>abJ E rc k a b c h e f
def Zk (a b c:Value)(d e:H):R:=@joinR [8,9] (λ f g=>binR (binC E .add 3 false true) a (.int .i64 (.ofNat 16)) λ h=>tO E rc k f b c h d g) λ _=>k (.tuple ⟨[.int .i64 (.ofNat 0),.bool false]⟩) e
def af3 (a b c:Value)(d e:H):R:=ae (λ _ f=>ae (λ _ g=>ae (λ _ h=>Zk E rc k a b c d h) λ h=>h undef g) λ g=>g undef f) λ f=>f undef e
def aco (a b c:Value)(d e:H):R:=ae (λ _ f=>ae (λ _ g=>ae (λ _ h=>af3 E rc k a b c d h) λ h=>h undef g) λ g=>g undef f) λ f=>f undef e
def H8 (a b c d e:Value)(f g:H):R:=onB d (@joinR [8,9] (λ h i=>binR (binC E .add 3 false true) a (.int .i64 (.ofNat 16)) λ j=>tO E rc k h b c j f i) λ h=>onB e (h (.int .i64 (.ofNat 0),(.bool false,())) g) (k (.tuple ⟨[.int .i64 (.ofNat 0),.bool false]⟩) g)) (@joinR [8,9] (λ h i=>binR (binC E .add 3 false true) a (.int .i64 (.ofNat 16)) λ j=>tO E rc k h b c j f i) λ _=>k (.tuple ⟨[.int .i64 (.ofNat 0),.bool false]⟩) g)
def Kz (a b c d e f:Value)(g h:H):R:=ae (λ i j=>H8 E rc k a b c d i g j) λ i=>aB d (binR (binC E .gtr 3 false false) e f λ j=>i j h) (i undef h) (i undef h)
def GV (a:Value→H→R)(b:Value)(c d:H):R:=aB b (onRow (hget d c.1) λ _ e _ _ _ f=>ifB (Nat.ble 4 e) (a (.agg ⟨ac f 4 0⟩) d)) (a undef d) (a undef d)
def G5 (a b c d e:Value)(f g:H):R:=ae (λ h i=>ae (λ j l=>Kz E rc k a b c d e j f l) λ j=>aB d (rc 191 [h] i j) (j undef i) (j undef i)) λ h=>GV h d f g
def H1 (a b c d e:Value)(f g:H):R:=ae (λ h i=>ae (λ j l=>G5 E rc k a b c h j f l) λ j=>aB h (j a i) (j undef i) (j undef i)) λ h=>binR (binC E .lss 3 false false) d e λ i=>h i g
def Lf (a b c d e:Value)(f g:H):R:=ae (λ h i=>H1 E rc k a b c d h f i) λ h=>binR (binC E .add 3 false true) e (.int .i64 (.ofNat 32)) λ i=>h i g
def My (a b c d e:Value)(f g:H):R:=ae (λ h i=>Lf E rc k a b c d h f i) λ h=>onPtr e λ i=>onRow (hget g i.1) λ _ j _ _ _ l=>ifB (Nat.ble (Nat.succ i.2) j) (h (getF l i.2) g)
def IB (a b c d:Value)(e f:H):R:=onB d (ae (λ _ g=>ae (λ _ h=>ae (λ _ i=>aco E rc k a b c e i) λ i=>i undef h) λ h=>h undef g) λ g=>g undef f) (ae (λ g h=>ae (λ i j=>My E rc k a b c g i e j) λ i=>i (.pointer (some (Addr.mk e.1 0 none))) h) λ g=>g a f)
def DD (a:L)(b c d:Value)(e:H):R:=ifB (allF (λ f=>cell1F f) a) (ifB (Nat.ble e.1 1000000000) (letH (ag e (.row 199 (lenF a) false false 0 (T.ofList unk a))) λ f=>rc 190 [d] f λ g h=>IB E rc k b c d g e h))
def Uc (E:Env)(rc:RC)(a0 a1 a2 a3:Value)(h:H)(k:Value→H→R):R:=onCells a0 λ a=>DD E rc k a a1 a2 a3 h
theorem F2 (t:ak)(rc:RC)(a0 a1 a2 a3:Value)(h:H)(k:Value→H→R):(ax (EX t) KK 118).run rc [a0,a1,a2,a3] h k = Uc (EX t) rc a0 a1 a2 a3 h k:=by kernel_rfl
def acE (a:(aa [2])→H→R)(b:Value)(c:H):R:=binR (binC E .neq 3 false true) b (.int .i64 (.ofNat 0)) λ d=>@joinR [2] (λ e f=>a (e.1,()) f) λ e=>onB d (e (.int .i64 (.ofNat 0),()) c) (k (.int .i64 (.ofNat 18)) c)
def Xl (a:(aa [2])→H→R)(b:Value)(c d:H):R:=onB b (onRow (hget d c.1) λ _ e _ _ _ f=>ifB (Nat.ble 9 e) (rc 81 [.agg ⟨ac f 9 0⟩] d λ g h=>acE E k a g h)) (k (.int .i64 (.ofNat 1)) d)
def Xf (a:(aa [2])→H→R)(b:V)(c d:H)(e:Nat):R:=ifB (Nat.ble 1 e) (binR (binC E .eql 125 false true) (getF b 0) (.pointer none) λ f=>@joinR [2] (λ g h=>a (g.1,()) h) λ g=>Xl E rc k g f c d)
def aeq (a b:H):R:=@joinR [2] (λ _ c=>k (.int .i64 (.ofNat 0)) c) λ c=>onRow (hget b a.1) λ _ d _ _ _ e=>Xf E rc k c e a b d
def ajv (a:L)(b:H):R:=ifB (allF (λ c=>cell1F c) a) (ifB (Nat.ble b.1 1000000000) (letH (ag b (.row 144 (lenF a) false false 0 (T.ofList unk a))) λ c=>aeq E rc k b c))
def RL (E:Env)(rc:RC)(a0:Value)(h:H)(k:Value→H→R):R:=onCells a0 λ a=>ajv E rc k a h
theorem Hb (t:ak)(rc:RC)(a0:Value)(h:H)(k:Value→H→R):(ax (EX t) KK 119).run rc [a0] h k = RL (EX t) rc a0 h k:=by kernel_rfl
def ZP (a b:Value)(c d:H):R:=onRow (hget d c.1) λ _ e _ _ _ f=>ifB (Nat.ble 9 e) (rc 195 [.agg ⟨ac f 9 0⟩,a,b] d λ g h=>onTup g λ i=>zB k i g h)
def aiV (a:(aa [6,7])→H→R)(b c:Value)(d:H):R:=onB c (a (.int .i64 (.ofNat 0),(.int .i64 (.ofNat 0),())) d) (ifB (nT [b,.int .i64 (.ofNat 0)]) (k (.tuple ⟨[b,.int .i64 (.ofNat 0)]⟩) d))
def XJ (a:(aa [6,7])→H→R)(b:Value)(c:H):R:=onTup b λ d=>nthF 0 d λ e=>onTup b λ f=>nthF 1 f λ g=>@joinR [6,7] (λ h i=>a (h.1,(h.2.1,())) i) λ h=>aiV k h e g c
def adK (a:(aa [6,7])→H→R)(b c:V)(d e f:Value)(g:H)(h:Nat):R:=ifB (Nat.ble 4 h) (ifB (aj (.agg ⟨ac c 4 0⟩) (.agg ⟨ac b 4 0⟩)) (ifB (aj d d) (ifB (aj e e) (rc 118 [.agg ⟨ac b 4 0⟩,f,d,e] g λ i j=>XJ k a i j))))
def agE (a:(aa [6,7])→H→R)(b c d:V)(e f:Value)(g h:H)(i:Nat):R:=ifB (Nat.ble 4 i) (rc 194 [.agg ⟨ac c 9 0⟩,.agg ⟨ac d 4 0⟩] h λ j l=>onRow (hget l g.1) λ _ m _ _ _ n=>adK rc k a b n e f j l m)
def akg (a:(aa [6,7])→H→R)(b:V)(c d:Value)(e f g:H)(h:Nat):R:=ifB (Nat.ble 4 h) (onRow (hget g e.1) λ _ i _ _ _ j=>ifB (Nat.ble 9 i) (onRow (hget g f.1) λ _ l _ _ _ m=>agE rc k a b j m c d f g l))
def ah7 (a:(aa [6,7])→H→R)(b c d:Value)(e f g:H):R:=onB d (a (.int .i64 (.ofNat 0),(.int .i64 (.ofNat 0),())) g) (ifB (Nat.ble g.1 1000000000) (letH (H.mk g.1 g.2) λ h=>onRow (hget h f.1) λ _ i _ _ _ j=>akg rc k a j b c e f h i))
def Vt (a:L)(b:V)(c d:Bool)(e:TypeId)(f g h:Value)(i j l:H)(m n:Nat):R:=ifB (notB d) (ifB (Nat.beq (lenF a) 4) (ifB (Nat.ble n 0) (ifB (Nat.ble 4 m) (ifB (Nat.ble m 1000000000) (ifB (allF (λ o=>cell1F o) a) (letH (hset l j.1 (.row e m c false n (putF b 0 a))) λ o=>@joinR [6,7] (λ _ p=>ZP rc k f g i p) λ p=>ah7 rc k p f g h i j o))))))
def aft (a b c d:Value)(e f:H):R:=ifB (Nat.ble f.1 1000000000) (letH (ag f (.row 199 4 false false 0 (T.ofList unk [.int .i64 (.ofNat 0),.int .i64 (.ofNat 0),.int .u64 (.ofNat 0),.int .i64 (.ofNat 0)]))) λ g=>onCells c λ h=>onRow (hget g f.1) λ i j l m n o=>Vt rc k h o l m i a b d e f g j n)
def FM (a:V)(b c:Value)(d e:H)(f:Nat):R:=ifB (Nat.ble 5 f) (rc 193 [.agg ⟨ac a 5 0⟩] e λ g h=>onTup g λ i=>nthF 0 i λ j=>onTup g λ l=>nthF 1 l λ m=>aft rc k b c j m d h)
def Gj (a:L)(b c:Value)(d:H):R:=ifB (allF (λ e=>cell1F e) a) (ifB (Nat.ble d.1 1000000000) (letH (ag d (.row 144 (lenF a) false false 0 (T.ofList unk a))) λ e=>onRow (hget e d.1) λ _ f _ _ _ g=>FM rc k g b c d e f))
def adU (E:Env)(rc:RC)(a0 a1 a2:Value)(h:H)(k:Value→H→R):R:=onCells a0 λ a=>Gj rc k a a1 a2 h
theorem Ls (t:ak)(rc:RC)(a0 a1 a2:Value)(h:H)(k:Value→H→R):(ax (EX t) KK 120).run rc [a0,a1,a2] h k = adU (EX t) rc a0 a1 a2 h k:=by kernel_rfl
def Ai (a:Value→R)(b:V)(c:H):R:=onNat (getF b 2) (bindO (aQ E c 3 92 (getF b 2)) a) λ d=>@Bool.rec (λ _=>R) (bindO (aQ E c 3 92 (getF b 2)) a) (a (.int .u64 (.ofNat d))) (Nat.ble d 18446744073709551615)
def afk (a b c:V)(d e:Value)(f g:H)(h:Nat):R:=ifB (Nat.ble 3 h) (ifB (aj (getF c 2) (getF b 2)) (joinL (λ i=>ifB (aj i d) (rc 198 [e,.agg ⟨ac a 3 0⟩,.slice (some (Addr.mk f.1 0 none)) 2 4] g λ j l=>k j l)) λ i=>Ai E i b g))
def Rv (a b:V)(c d e f:Value)(g h i:H):R:=ifB (aj f c) (ifB (aj (.pointer (some (Addr.mk g.1 2 none))) (.pointer (some (Addr.mk g.1 2 none)))) (onRow (hget i g.1) λ _ j _ _ _ l=>afk E rc k a b l d e h i j))
def ah9 (a b c d:V)(e f g:Value)(h i j:H)(l:Nat):R:=ifB (Nat.ble 2 l) (ifB (aj (getF d 1) (getF b 1)) (joinL (λ m=>Rv E rc k a c e f g m h i j) λ m=>o8 E m b j))
def acJ (a b c d:V)(e f g:Value)(h i j:H)(l:Nat):R:=ifB (Nat.ble 3 l) (ifB (aj (.agg ⟨ac d 3 0⟩) (.agg ⟨ac a 3 0⟩)) (ifB (aj (.pointer (some (Addr.mk h.1 1 none))) (.pointer (some (Addr.mk h.1 1 none)))) (onRow (hget j h.1) λ _ m _ _ _ n=>ah9 E rc k a b c n e f g h i j m)))
def SN (a:L)(b c d:V)(e f:Value)(g h i j:H):R:=letH (hset j i.1 (.row 92 2 false false 0 (T.ofList unk a))) λ l=>rc 197 [] l λ m n=>onRow (hget n h.1) λ _ o _ _ _ p=>acJ E rc k b c d p e f m g i n o
def aik (a b c:V)(d e:Value)(f g h i:H):R:=@Option.rec (List Value) (λ _=>R) none (λ j=>SN E rc k j a b c d e f g h i) (cG (λ j=>some (Nat.mul j 1,1)) (List.flatten (List.replicate 2 (cellsOfV (.int .u64 (.ofNat 0))))) [(0,d),(1,e)])
def aiU (a b:V)(c:Value)(d e f g:H):R:=onRow (hget g d.1) λ _ h _ _ _ i=>ifB (Nat.ble 3 h) (joinL (λ j=>aik E rc k a b i c j d e f g) λ j=>Ai E j i g)
def K1 (a:V)(b c d e:H)(f:Nat):R:=ifB (Nat.ble 3 f) (onRow (hget e b.1) λ _ g _ _ _ h=>ifB (Nat.ble 2 g) (joinL (λ i=>aiU E rc k a h i b c d e) λ i=>o8 E i h e))
def LE (a b c:H):R:=ifB (Nat.ble c.1 1000000000) (letH (H.mk (Nat.add c.1 1) c.2) λ d=>onRow (hget d b.1) λ _ e _ _ _ f=>K1 E rc k f a b c d e)
def CB (a:aa [4])(b:Value)(c d e:H):R:=binR (binC E .neq 24 false true) b (.int .i64 (.ofNat 0)) λ f=>@joinR [4] (λ _ g=>LE E rc k c d g) λ g=>onB f (g (a.1,()) e) (k b e)
def Nm (a:aa [4])(b:L)(c:V)(d e:Bool)(f:TypeId)(g:Value)(h i j:H)(l m:Nat):R:=ifB (notB e) (ifB (Nat.beq (lenF b) 3) (ifB (Nat.ble m 0) (ifB (Nat.ble 3 l) (ifB (Nat.ble l 1000000000) (ifB (allF (λ n=>cell1F n) b) (letH (hset j i.1 (.row f l d false m (putF c 0 b))) λ n=>CB E rc k a g h i n))))))
def Nu (a:aa [4])(b c:Value)(d e:H):R:=ifB (Nat.ble e.1 1000000000) (letH (ag e (.row 131 3 false false 0 (T.ofList unk [.pointer none,.int .i64 (.ofNat 0),.int .i64 (.ofNat 0)]))) λ f=>onCells b λ g=>onRow (hget f e.1) λ h i j l m n=>Nm E rc k a g n j l h c d e f i m)
def wI (a:aa [4])(b:V)(c:Value)(d e:H)(f:Nat):R:=ifB (Nat.ble 1 f) (rc 196 [c,getF b 0] e λ g h=>onTup g λ i=>nthF 0 i λ j=>onTup g λ l=>nthF 1 l λ m=>Nu E rc k a j m d h)
def Gt (a b c:Value)(d e:H):R:=onB b (@joinR [4] (λ f g=>onRow (hget g d.1) λ _ h _ _ _ i=>wI E rc k f i a d g h) λ f=>f (.int .i64 (.ofNat 0),()) e) (@joinR [4] (λ f g=>onRow (hget g d.1) λ _ h _ _ _ i=>wI E rc k f i a d g h) λ f=>onB c (f (.int .i64 (.ofNat 0),()) e) (k (.int .i64 (.ofNat 2)) e))
def Gd (a b c d:Value)(e f:H):R:=ae (λ g h=>ae (λ i j=>Gt E rc k a b i e j) λ i=>aB b (i undef h) (onB c (i g h) (i (.bool true) h)) (i undef h)) λ g=>ma E g c d f
def DL (a b c:Value)(d e:H):R:=ae (λ f g=>ae (λ h i=>Gd E rc k a b c h d i) λ h=>eL h c f g) λ f=>aB c (f (.pointer (some (Addr.mk d.1 2 none))) e) (f undef e) (f undef e)
def IM (a:Value→H→R)(b c:Value)(d:H):R:=aB b (a undef d) (binR (binC E .lss 3 false true) c (.int .i64 (.ofNat 0)) λ e=>a e d) (a undef d)
def D7 (a b c:Value)(d e:H):R:=ae (λ f g=>ae (λ h i=>DL E rc k a b h d i) λ h=>aB b (h undef g) (h f g) (h undef g)) λ f=>IM E f b c e
def GM (a b:Value)(c d:H):R:=ae (λ e f=>ae (λ g h=>D7 E rc k a b g c h) λ g=>lr g b e f) λ e=>aB b (e undef d) (e (.pointer (some (Addr.mk c.1 1 none))) d) (e undef d)
def GC (a:L)(b:Value)(c:H):R:=ifB (allF (λ d=>cell1F d) a) (ifB (Nat.ble c.1 1000000000) (letH (ag c (.row 159 (lenF a) false false 0 (T.ofList unk a))) λ d=>binR (binC E .neq 123 false true) b (.pointer none) λ e=>GM E rc k b e c d))
def TB (E:Env)(rc:RC)(a0 a1:Value)(h:H)(k:Value→H→R):R:=onCells a1 λ a=>GC E rc k a a0 h
theorem F3 (t:ak)(rc:RC)(a0 a1:Value)(h:H)(k:Value→H→R):(ax (EX t) KK 121).run rc [a0,a1] h k = TB (EX t) rc a0 a1 h k:=by kernel_rfl
def Ra (a:V)(b c:Value)(d:H)(e:Nat):R:=ifB (Nat.ble 8 e) (joinL (λ f=>rc 105 [.agg ⟨ac a 3 5⟩,b,.int .i64 (.ofNat 8),f] d λ _ g=>k (.tuple ⟨[]⟩) g) λ f=>js E f c d)
def aef (a:L)(b c:Value)(d:H):R:=ifB (allF (λ e=>cell1F e) a) (ifB (Nat.ble d.1 1000000000) (letH (ag d (.row 144 (lenF a) false false 0 (T.ofList unk a))) λ e=>onRow (hget e d.1) λ _ f _ _ _ g=>Ra E rc k g b c e f))
def Ro (E:Env)(rc:RC)(a0 a1 a2:Value)(h:H)(k:Value→H→R):R:=onCells a0 λ a=>aef E rc k a a1 a2 h
theorem KY (t:ak)(rc:RC)(a0 a1 a2:Value)(h:H)(k:Value→H→R):(ax (EX t) KK 123).run rc [a0,a1,a2] h k = Ro (EX t) rc a0 a1 a2 h k:=by kernel_rfl
end
end Go.Ev
