/-
  QUICK ROADS of views.
-/
import Derived.Test.YtglmdggjibmjcaaGreatDoorGa
noncomputable section
set_option linter.all false
set_option maxRecDepth 100000
open Nat (ble beq)
namespace Go.Ev
open Go F Go.Proofs
def T8 (rc:RC)(a0 a1 a2:Value)(h:H)(k:Value->H->R):R:=onCells a0 λa=>ifB (allF (λb=>cell1F b) a) (ifB (ble h.1 1000000000) (letH (ag h (.row 253 (lenF a) false false 0 (T.ofList unk a))) λb=>binR (binC EE .geq 3 (bi (.tmp 7)) (bi (.const (.int .i64 0)))) a1 (.int .i64 (.ofNat 0)) λc=>ac (λd e=>ac (λf g=>onB c (ac (λ_ i=>ac (λ_ j=>ac (λ_ l=>ac (λ_ m=>ac (λ_ n=>ac (λ_ o=>ac (λ_ p=>ac (λ_ q=>ac (λ_ r=>ac (λ_ s=>k (.bool false) s) λs=>s undef r) λr=>r undef q) λq=>q undef p) λp=>p undef o) λo=>o undef n) λn=>n undef m) λm=>m undef l) λl=>l undef j) λj=>j undef i) λi=>i undef g) (ac (λi j=>ac (λl m=>ac (λn o=>ac (λp q=>onB f (ac (λ_ r=>ac (λ_ s=>ac (λ_ t=>ac (λ_ u=>ac (λ_ v=>ac (λ_ w=>k (.bool false) w) λw=>w undef v) λv=>v undef u) λu=>u undef t) λt=>t undef s) λs=>s undef r) λr=>r undef q) (ac (λr s=>ac (λt u=>ac (λv w=>ac (λx y=>ac (λz a3=>ac (λa4 a5=>onB p (k (.bool false) a5) (k a4 a5)) λa4=>aF p (a4 undef a3) (binR (binC EE .leq 3 (bi (.tmp 20)) (bi (.tmp 24))) r z λa5=>a4 a5 a3) (a4 undef a3)) λz=>aF p (z undef y) (binR (binC EE .sub 3 (bi (.tmp 22)) (bi (.tmp 23))) v x λa3=>z a3 y) (z undef y)) λx=>aF p (x undef w) (x a2 w) (x undef w)) λv=>aF p (v undef u) (onPtr t λw=>onRow (hget u w.1) λ_ x _ _ _ y=>ifB (ble (Nat.succ w.2) x) (v (getF y w.2) u)) (v undef u)) λt=>aF p (t undef s) (t (.pointer (some (Addr.mk h.1 0 none))) s) (t undef s)) λr=>aF p (r undef q) (r a1 q) (r undef q))) λp=>aF f (p undef o) (binR (binC EE .leq 3 (bi (.tmp 14)) (bi (.tmp 16))) i n λq=>p q o) (p undef o)) λn=>aF f (n undef m) (onPtr l λo=>onRow (hget m o.1) λ_ p _ _ _ q=>ifB (ble (Nat.succ o.2) p) (n (getF q o.2) m)) (n undef m)) λl=>aF f (l undef j) (l (.pointer (some (Addr.mk h.1 0 none))) j) (l undef j)) λi=>aF f (i undef g) (i a2 g) (i undef g))) λf=>aF c (f undef e) (binR (binC EE .geq 3 (bi (.tmp 10)) (bi (.const (.int .i64 0)))) d (.int .i64 (.ofNat 0)) λg=>f g e) (f undef e)) λd=>aF c (d undef b) (d a2 b) (d undef b)))
def Ih (rc:RC)(a0 a1 a2:Value)(h:H)(k:Value->H->R):(bR EE KK 452).run rc [a0,a1,a2] h k = T8 rc a0 a1 a2 h k:=by kernel_rfl
def Ux (rc:RC)(a0 a1:Value)(h:H)(k:Value->H->R):R:=binR (binC EE .rem 3 (bi (.tmp 8)) (bi (.const (.int .i64 64)))) a0 (.int .i64 (.ofNat 64)) λa=>binR (binC EE .sub 3 (bi (.const (.int .i64 64))) (bi (.tmp 9))) (.int .i64 (.ofNat 64)) a λb=>bindO (bF EE h Builtin.min [a1,b] [3,3]) λc=>binR (binC EE .shl 131 (bi (.const (.int .u64 1))) (bi (.tmp 12))) (.int .u64 (.ofNat 1)) c λd=>binR (binC EE .sub 131 (bi (.tmp 13)) (bi (.const (.int .u64 1)))) d (.int .u64 (.ofNat 1)) λe=>binR (binC EE .rem 3 (bi (.tmp 15)) (bi (.const (.int .i64 64)))) a0 (.int .i64 (.ofNat 64)) λf=>binR (binC EE .shl 131 (bi (.tmp 14)) (bi (.tmp 16))) e f λg=>ifB (List.all [g,c] λi=>Bool.not (isTuple i)) (k (.tuple ⟨[g,c]⟩) h)
def Gc (rc:RC)(a0 a1:Value)(h:H)(k:Value->H->R):(bR EE KK 453).run rc [a0,a1] h k = Ux rc a0 a1 h k:=by kernel_rfl
def bG (rc:RC)(a0:Value)(h:H)(k:Value->H->R):R:=binR (binC EE .shr 131 (bi (.tmp 3)) (bi (.const (.int .u64 1)))) a0 (.int .u64 (.ofNat 1)) λa=>binR (binC EE .and 131 (bi (.tmp 4)) (bi (.const (.int .u64 6148914691236517205)))) a (.int .u64 (.ofNat 6148914691236517205)) λb=>binR (binC EE .and 131 (bi (.tmp 6)) (bi (.const (.int .u64 6148914691236517205)))) a0 (.int .u64 (.ofNat 6148914691236517205)) λc=>binR (binC EE .add 131 (bi (.tmp 5)) (bi (.tmp 7))) b c λd=>binR (binC EE .shr 131 (bi (.tmp 9)) (bi (.const (.int .u64 2)))) d (.int .u64 (.ofNat 2)) λe=>binR (binC EE .and 131 (bi (.tmp 10)) (bi (.const (.int .u64 3689348814741910323)))) e (.int .u64 (.ofNat 3689348814741910323)) λf=>binR (binC EE .and 131 (bi (.tmp 12)) (bi (.const (.int .u64 3689348814741910323)))) d (.int .u64 (.ofNat 3689348814741910323)) λg=>binR (binC EE .add 131 (bi (.tmp 11)) (bi (.tmp 13))) f g λi=>binR (binC EE .shr 131 (bi (.tmp 15)) (bi (.const (.int .u64 4)))) i (.int .u64 (.ofNat 4)) λj=>binR (binC EE .add 131 (bi (.tmp 16)) (bi (.tmp 17))) j i λl=>binR (binC EE .and 131 (bi (.tmp 18)) (bi (.const (.int .u64 1085102592571150095)))) l (.int .u64 (.ofNat 1085102592571150095)) λm=>binR (binC EE .shr 131 (bi (.tmp 21)) (bi (.const (.int .u64 8)))) m (.int .u64 (.ofNat 8)) λn=>binR (binC EE .add 131 (bi (.tmp 20)) (bi (.tmp 22))) m n λo=>binR (binC EE .shr 131 (bi (.tmp 25)) (bi (.const (.int .u64 16)))) o (.int .u64 (.ofNat 16)) λp=>binR (binC EE .add 131 (bi (.tmp 24)) (bi (.tmp 26))) o p λq=>binR (binC EE .shr 131 (bi (.tmp 29)) (bi (.const (.int .u64 32)))) q (.int .u64 (.ofNat 32)) λr=>binR (binC EE .add 131 (bi (.tmp 28)) (bi (.tmp 30))) q r λs=>onNat s (bindO (aY EE h 131 3 s) λt=>binR (binC EE .and 3 (bi (.tmp 33)) (bi (.const (.int .i64 127)))) t (.int .i64 (.ofNat 127)) λu=>k u h) λt=>@Bool.rec (λ_=>R) (bindO (aY EE h 131 3 s) λu=>binR (binC EE .and 3 (bi (.tmp 33)) (bi (.const (.int .i64 127)))) u (.int .i64 (.ofNat 127)) λv=>k v h) (binR (binC EE .and 3 (bi (.tmp 33)) (bi (.const (.int .i64 127)))) (.int .i64 (.ofNat t)) (.int .i64 (.ofNat 127)) λu=>k u h) (ble t 9223372036854775807)
def Gf (rc:RC)(a0:Value)(h:H)(k:Value->H->R):(bR EE KK 454).run rc [a0] h k = bG rc a0 h k:=by kernel_rfl
def avf (rc:RC)(a0 a1 a2:Value)(h:H)(k:Value->H->R):R:=onCells a0 λa=>ifB (allF (λb=>cell1F b) a) (ifB (ble h.1 1000000000) (letH (ag h (.row 253 (lenF a) false false 0 (T.ofList unk a))) λb=>onRow (hget b h.1) λ_ c _ _ _ d=>ifB (ble (Nat.add 0 2) c) (rc 452 [.agg ⟨ae d 2 0⟩,a1,a2] b λe f=>onB e (@joinR [6,7] (λ_ g=>@joinR [8] (λi j=>ifB (List.all [i.1,.int .i64 (.ofNat 0)] λl=>Bool.not (isTuple l)) (k (.tuple ⟨[i.1,.int .i64 (.ofNat 0)]⟩) j)) λi=>@loopF [8,1,2] (λj l m=>binR (binC EE .gtr 3 (bi (.tmp 16)) (bi (.const (.int .i64 0)))) l.2.2.1 (.int .i64 (.ofNat 0)) λn=>@joinR [] (λ_ o=>@joinR [8,1,2] (λp q=>j (p.1,(p.2.1,(p.2.2.1,()))) q) λp=>rc 453 [l.2.1,l.2.2.1] o λq r=>onTup q λs=>nthF 0 s λt=>onTup q λu=>nthF 1 u λv=>onRow (hget r h.1) λ_ w _ _ _ x=>ifB (ble (Nat.succ (Nat.add 0 1)) w) (binR (binC EE .quo 3 (bi (.tmp 27)) (bi (.const (.int .i64 64)))) l.2.1 (.int .i64 (.ofNat 64)) λy=>onNat y none λz=>onSl (getF x (Nat.add 0 1)) none λa3 a4 _=>ifB (ble (Nat.succ z) a4) (addOffF a3 (Nat.mul z 1) λa5=>onPtr a5 λa6=>onRow (hget r a6.1) λ_ a7 _ _ _ a8=>ifB (ble (Nat.succ a6.2) a7) (binR (binC EE .and 131 (bi (.tmp 30)) (bi (.tmp 31))) (getF a8 a6.2) t λa9=>rc 454 [a9] r λb0 b1=>binR (binC EE .add 3 (bi (.tmp 24)) (bi (.tmp 33))) l.1 b0 λb2=>binR (binC EE .add 3 (bi (.tmp 35)) (bi (.tmp 36))) l.2.1 v λb3=>binR (binC EE .sub 3 (bi (.tmp 38)) (bi (.tmp 39))) l.2.2.1 v λb4=>p (b2,(b3,(b4,()))) b1)))) λo=>onB n (i (l.1,()) m) (o () m)) 1000000 (.int .i64 (.ofNat 0),(a1,(a2,()))) g) λ_=>k (.tuple ⟨[.int .i64 (.ofNat 0),.int .i64 (.ofNat 3)]⟩) f) (@joinR [6,7] (λ_ g=>@joinR [8] (λi j=>ifB (List.all [i.1,.int .i64 (.ofNat 0)] λl=>Bool.not (isTuple l)) (k (.tuple ⟨[i.1,.int .i64 (.ofNat 0)]⟩) j)) λi=>@loopF [8,1,2] (λj l m=>binR (binC EE .gtr 3 (bi (.tmp 16)) (bi (.const (.int .i64 0)))) l.2.2.1 (.int .i64 (.ofNat 0)) λn=>@joinR [] (λ_ o=>@joinR [8,1,2] (λp q=>j (p.1,(p.2.1,(p.2.2.1,()))) q) λp=>rc 453 [l.2.1,l.2.2.1] o λq r=>onTup q λs=>nthF 0 s λt=>onTup q λu=>nthF 1 u λv=>onRow (hget r h.1) λ_ w _ _ _ x=>ifB (ble (Nat.succ (Nat.add 0 1)) w) (binR (binC EE .quo 3 (bi (.tmp 27)) (bi (.const (.int .i64 64)))) l.2.1 (.int .i64 (.ofNat 64)) λy=>onNat y none λz=>onSl (getF x (Nat.add 0 1)) none λa3 a4 _=>ifB (ble (Nat.succ z) a4) (addOffF a3 (Nat.mul z 1) λa5=>onPtr a5 λa6=>onRow (hget r a6.1) λ_ a7 _ _ _ a8=>ifB (ble (Nat.succ a6.2) a7) (binR (binC EE .and 131 (bi (.tmp 30)) (bi (.tmp 31))) (getF a8 a6.2) t λa9=>rc 454 [a9] r λb0 b1=>binR (binC EE .add 3 (bi (.tmp 24)) (bi (.tmp 33))) l.1 b0 λb2=>binR (binC EE .add 3 (bi (.tmp 35)) (bi (.tmp 36))) l.2.1 v λb3=>binR (binC EE .sub 3 (bi (.tmp 38)) (bi (.tmp 39))) l.2.2.1 v λb4=>p (b2,(b3,(b4,()))) b1)))) λo=>onB n (i (l.1,()) m) (o () m)) 1000000 (.int .i64 (.ofNat 0),(a1,(a2,()))) g) λg=>g (.int .i64 (.ofNat 0),(.int .i64 (.ofNat 0),())) f))))
def MB (rc:RC)(a0 a1 a2:Value)(h:H)(k:Value->H->R):(bR EE KK 368).run rc [a0,a1,a2] h k = avf rc a0 a1 a2 h k:=by kernel_rfl
def Uo (rc:RC)(a0 a1 a2:Value)(h:H)(k:Value->H->R):R:=@joinR [6] (λa b=>binR (binC EE .quo 3 (bi (.tmp 46)) (bi (.const (.int .i64 4096)))) a1 (.int .i64 (.ofNat 4096)) λc=>binR (binC EE .add 3 (bi (.tmp 48)) (bi (.tmp 49))) a1 a2 λd=>binR (binC EE .sub 3 (bi (.tmp 50)) (bi (.const (.int .i64 1)))) d (.int .i64 (.ofNat 1)) λe=>binR (binC EE .quo 3 (bi (.tmp 51)) (bi (.const (.int .i64 4096)))) e (.int .i64 (.ofNat 4096)) λf=>bindO (be a0) λg=>onPtr g λi=>onRow (hget b i.1) λ_ j _ _ _ l=>ifB (ble (Nat.add (Nat.add i.2 1) 2) j) (binR (binC EE .sub 3 (bi (.tmp 59)) (bi (.tmp 60))) f c λm=>binR (binC EE .add 3 (bi (.tmp 61)) (bi (.const (.int .i64 1)))) m (.int .i64 (.ofNat 1)) λn=>rc 368 [.agg ⟨ae l 2 (Nat.add i.2 1)⟩,c,n] b λo p=>onTup o λq=>nthF 0 q λr=>onTup o λs=>nthF 1 s λ_=>binR (binC EE .sub 3 (bi (.tmp 67)) (bi (.tmp 68))) f c λt=>binR (binC EE .leq 3 (bi (.tmp 66)) (bi (.tmp 69))) r t λu=>@joinR [6] (λ_ v=>k (.int .i64 (.ofNat 0)) v) λv=>onB u (v (a.1,()) p) (k (.int .i64 (.ofNat 3)) p))) λa=>binR (binC EE .eql 163 (bi (.tmp 12)) (bi (.const (.pointer none)))) a0 (.pointer none) λb=>@joinR [6] (λc d=>a (c.1,()) d) λc=>onB b (binR (binC EE .lss 3 (bi (.tmp 15)) (bi (.const (.int .i64 0)))) a1 (.int .i64 (.ofNat 0)) λd=>ac (λe f=>ac (λg i=>onB d (ac (λj l=>ac (λm n=>ac (λo p=>ac (λq r=>ac (λs t=>ac (λu v=>ac (λw x=>ac (λy z=>onB g (ac (λa3 a4=>ac (λa5 a6=>ac (λa7 a8=>ac (λa9 b0=>ac (λb1 b2=>ac (λb3 b4=>ac (λb5 b6=>ac (λb7 b8=>ac (λb9 c0=>ac (λc1 c2=>onB y (@joinR [6] (λc3 c4=>c (c3.1,()) c4) λc3=>onB c1 (binR (binC EE .eql 3 (bi (.tmp 44)) (bi (.const (.int .i64 0)))) a2 (.int .i64 (.ofNat 0)) λc4=>@joinR [6] (λc5 c6=>c3 (c5.1,()) c6) λc5=>onB c4 (c5 (.int .i64 (.ofNat 0),()) c2) (k (.int .i64 (.ofNat 0)) c2)) (k (.int .i64 (.ofNat 3)) c2)) (@joinR [6] (λc3 c4=>c (c3.1,()) c4) λ_=>k (.int .i64 (.ofNat 3)) c2)) λc1=>aF y (binR (binC EE .gtr 3 (bi (.tmp 32)) (bi (.tmp 40))) a3 b9 λc2=>c1 c2 c0) (c1 undef c0) (c1 undef c0)) λb9=>aF y (binR (binC EE .sub 3 (bi (.tmp 38)) (bi (.tmp 39))) b5 b7 λc0=>b9 c0 b8) (b9 undef b8) (b9 undef b8)) λb7=>aF y (b7 a2 b6) (b7 undef b6) (b7 undef b6)) λb5=>aF y (binR (binC EE .mul 3 (bi (.tmp 37)) (bi (.const (.int .i64 4096)))) b3 (.int .i64 (.ofNat 4096)) λb6=>b5 b6 b4) (b5 undef b4) (b5 undef b4)) λb3=>aF y (onSl b1 (bindO (aX EE b2 255 b1) λb4=>b3 b4 b2) λ_ b4 _=>b3 (.int .i64 (.ofNat b4)) b2) (b3 undef b2) (b3 undef b2)) λb1=>aF y (onPtr a9 λb2=>onRow (hget b0 b2.1) λ_ b3 _ _ _ b4=>ifB (ble (Nat.succ b2.2) b3) (b1 (getF b4 b2.2) b0)) (b1 undef b0) (b1 undef b0)) λa9=>aF y (onPtr a7 λ_=>a9 a7 a8) (a9 undef a8) (a9 undef a8)) λa7=>aF y (bindO (be a5) λa8=>a7 a8 a6) (a7 undef a6) (a7 undef a6)) λa5=>aF y (a5 a0 a4) (a5 undef a4) (a5 undef a4)) λa3=>aF y (a3 a1 z) (a3 undef z) (a3 undef z)) (ac (λ_ a3=>ac (λ_ a4=>ac (λ_ a5=>ac (λ_ a6=>ac (λ_ a7=>ac (λ_ a8=>ac (λ_ a9=>ac (λ_ b0=>ac (λ_ b1=>ac (λ_ b2=>@joinR [6] (λb3 b4=>c (b3.1,()) b4) λ_=>k (.int .i64 (.ofNat 3)) b2) λb2=>b2 undef b1) λb1=>b1 undef b0) λb0=>b0 undef a9) λa9=>a9 undef a8) λa8=>a8 undef a7) λa7=>a7 undef a6) λa6=>a6 undef a5) λa5=>a5 undef a4) λa4=>a4 undef a3) λa3=>a3 undef z)) λy=>aF g (binR (binC EE .gtr 3 (bi (.tmp 22)) (bi (.tmp 28))) j w λz=>y z x) (y undef x) (y undef x)) λw=>aF g (binR (binC EE .mul 3 (bi (.tmp 27)) (bi (.const (.int .i64 4096)))) u (.int .i64 (.ofNat 4096)) λx=>w x v) (w undef v) (w undef v)) λu=>aF g (onSl s (bindO (aX EE t 255 s) λv=>u v t) λ_ v _=>u (.int .i64 (.ofNat v)) t) (u undef t) (u undef t)) λs=>aF g (onPtr q λt=>onRow (hget r t.1) λ_ u _ _ _ v=>ifB (ble (Nat.succ t.2) u) (s (getF v t.2) r)) (s undef r) (s undef r)) λq=>aF g (onPtr o λ_=>q o p) (q undef p) (q undef p)) λo=>aF g (bindO (be m) λp=>o p n) (o undef n) (o undef n)) λm=>aF g (m a0 l) (m undef l) (m undef l)) λj=>aF g (j a2 i) (j undef i) (j undef i)) (ac (λ_ j=>ac (λ_ l=>ac (λ_ m=>ac (λ_ n=>ac (λ_ o=>ac (λ_ p=>ac (λ_ q=>ac (λ_ r=>ac (λ_ s=>ac (λ_ t=>ac (λ_ u=>ac (λ_ v=>ac (λ_ w=>ac (λ_ x=>ac (λ_ y=>ac (λ_ z=>ac (λ_ a3=>ac (λ_ a4=>@joinR [6] (λa5 a6=>c (a5.1,()) a6) λ_=>k (.int .i64 (.ofNat 3)) a4) λa4=>a4 undef a3) λa3=>a3 undef z) λz=>z undef y) λy=>y undef x) λx=>x undef w) λw=>w undef v) λv=>v undef u) λu=>u undef t) λt=>t undef s) λs=>s undef r) λr=>r undef q) λq=>q undef p) λp=>p undef o) λo=>o undef n) λn=>n undef m) λm=>m undef l) λl=>l undef j) λj=>j undef i)) λg=>aF d (binR (binC EE .lss 3 (bi (.tmp 18)) (bi (.const (.int .i64 0)))) e (.int .i64 (.ofNat 0)) λi=>g i f) (g undef f) (g undef f)) λe=>aF d (e a2 h) (e undef h) (e undef h)) (k (.int .i64 (.ofNat 1)) h)
def Gn (rc:RC)(a0 a1 a2:Value)(h:H)(k:Value->H->R):(bR EE KK 267).run rc [a0,a1,a2] h k = Uo rc a0 a1 a2 h k:=by kernel_rfl
def U3 (rc:RC)(a0 a1 a2 a3:Value)(h:H)(k:Value->H->R):R:=@joinR [] (λ_ a=>k (.tuple ⟨[]⟩) a) λa=>@loopF [1,2] (λb c d=>binR (binC EE .gtr 3 (bi (.tmp 9)) (bi (.const (.int .i64 0)))) c.2.1 (.int .i64 (.ofNat 0)) λe=>@joinR [] (λ_ f=>@joinR [1,2] (λg i=>b (g.1,(g.2.1,())) i) λg=>binR (binC EE .rem 3 (bi (.tmp 12)) (bi (.const (.int .i64 4096)))) c.1 (.int .i64 (.ofNat 4096)) λi=>binR (binC EE .sub 3 (bi (.const (.int .i64 4096))) (bi (.tmp 13))) (.int .i64 (.ofNat 4096)) i λj=>bindO (bF EE f Builtin.min [c.2.1,j] [3,3]) λl=>bindO (be a0) λm=>onPtr m λ_=>onPtr m λn=>onRow (hget f n.1) λ_ o _ _ _ p=>ifB (ble (Nat.succ n.2) o) (binR (binC EE .quo 3 (bi (.tmp 21)) (bi (.const (.int .i64 4096)))) c.1 (.int .i64 (.ofNat 4096)) λq=>onNat q none λr=>onSl (getF p n.2) none λs t _=>ifB (ble (Nat.succ r) t) (addOffF s (Nat.mul r 1) λu=>onPtr u λv=>onRow (hget f v.1) λ_ w _ _ _ x=>ifB (ble (Nat.succ v.2) w) (bindO (be (getF x v.2)) λy=>binR (binC EE .rem 3 (bi (.tmp 26)) (bi (.const (.int .i64 4096)))) c.1 (.int .i64 (.ofNat 4096)) λz=>bindO (dm EE 406 y (some z) none none) λa4=>bindO (dm EE 42 a4 none (some l) none) λa5=>D1 a3 λa6 a7 a8=>rc a6 (pa a7 a8 [a5]) f λ_ a9=>binR (binC EE .add 3 (bi (.tmp 32)) (bi (.tmp 33))) c.1 l λb0=>binR (binC EE .sub 3 (bi (.tmp 35)) (bi (.tmp 36))) c.2.1 l λb1=>g (b0,(b1,())) a9)))) λf=>onB e (a () d) (f () d)) 1000000 (a1,(a2,())) h
def FP (rc:RC)(a0 a1 a2 a3:Value)(h:H)(k:Value->H->R):(bR EE KK 268).run rc [a0,a1,a2,a3] h k = U3 rc a0 a1 a2 a3 h k:=by kernel_rfl
def U6 (rc:RC)(a0 a1:Value)(h:H)(k:Value->H->R):R:=rc 309 [a1,a0] h λ_ a=>k (.tuple ⟨[]⟩) a
def Gg (rc:RC)(a0 a1:Value)(h:H)(k:Value->H->R):(bR EE KK 308).run rc [a0,a1] h k = U6 rc a0 a1 h k:=by kernel_rfl
def AG (rc:RC)(a0 a1:Value)(h:H)(k:Value->H->R):R:=rc 27 [a0] h λ_ a=>bindO (be a0) λb=>onPtr b λc=>onRow (hget a c.1) λ_ d _ _ _ e=>ifB (ble (Nat.succ (Nat.add c.2 1)) d) (cE (ba EE a Builtin.append [getF e (Nat.add c.2 1),a1] [42,42]) λf g=>bindO (be a0) λi=>onPtr i λj=>onCells f λl=>onRow (hget g j.1) λm n o p q r=>ifB (notB p) (ifB (beq (lenF l) 1) (ifB (ble q (Nat.add j.2 1)) (ifB (ble (Nat.add (Nat.add j.2 1) 1) n) (ifB (ble n 1000000000) (ifB (allF (λs=>cell1F s) l) (letH (hset g j.1 (.row m n o false q (putF r (Nat.add j.2 1) l))) λs=>onSl a1 (bindO (aX EE s 42 a1) λt=>ifB (List.all [t,.nilIface] λu=>Bool.not (isTuple u)) (k (.tuple ⟨[t,.nilIface]⟩) s)) λ_ t _=>k (.tuple ⟨[.int .i64 (.ofNat t),.nilIface]⟩) s)))))))
def p8 (rc:RC)(a0 a1:Value)(h:H)(k:Value->H->R):(bR EE KK 309).run rc [a0,a1] h k = AG rc a0 a1 h k:=by kernel_rfl
def Iw (rc:RC)(a0:Value)(h:H)(k:Value->H->R):R:=bindO (be a0) λa=>onPtr a λ_=>onPtr a λb=>onRow (hget h b.1) λ_ c _ _ _ d=>ifB (ble (Nat.succ b.2) c) (binR (binC EE .eql 41 (bi (.tmp 5)) (bi (.const (.pointer none)))) (getF d b.2) (.pointer none) λe=>@joinR [] (λ_ f=>k (.tuple ⟨[]⟩) f) λf=>onB e (bindO (be a0) λg=>onPtr g λ_=>onPtr g λi=>onRow (hget h i.1) λ_ j _ _ _ l=>ifB (ble (Nat.succ i.2) j) (binR (binC EE .neq 41 (bi (.tmp 17)) (bi (.tmp 18))) (getF l i.2) a0 λm=>@joinR [] (λ_ n=>f () n) λn=>onB m (n () h) none)) (bindO (aY EE h 41 100 a0) λg=>rc 55 [g] h λi j=>bindO (aY EE j 100 41 i) λl=>bindO (be a0) λm=>onPtr m λ_=>onPtr m λn=>onCells l λo=>onRow (hget j n.1) λp q r s t u=>ifB (notB s) (ifB (beq (lenF o) 1) (ifB (ble t n.2) (ifB (ble (Nat.add n.2 1) q) (ifB (ble q 1000000000) (ifB (allF (λv=>cell1F v) o) (letH (hset j n.1 (.row p q r false t (putF u n.2 o))) λv=>f () v))))))))
def yr (rc:RC)(a0:Value)(h:H)(k:Value->H->R):(bR EE KK 27).run rc [a0] h k = Iw rc a0 h k:=by kernel_rfl
def HY (rc:RC)(a0:Value)(h:H)(k:Value->H->R):R:=ifB (ble h.1 1000000000) (letH (H.mk (Nat.add h.1 0) h.2) λa=>bindO (be a0) λb=>onPtr b λc=>onRow (hget a c.1) λ_ d _ _ _ e=>ifB (ble (Nat.succ (Nat.add c.2 1)) d) (bindO (bF EE a Builtin.unsafeSliceData [getF e (Nat.add c.2 1)] [42]) λf=>bindO (be a0) λg=>onPtr g λi=>onRow (hget a i.1) λ_ j _ _ _ l=>ifB (ble (Nat.succ (Nat.add i.2 1)) j) (onSl (getF l (Nat.add i.2 1)) (bindO (aX EE a 42 (getF l (Nat.add i.2 1))) λm=>cE (ba EE a Builtin.unsafeString [f,m] [75,3]) λn o=>k n o) λ_ m _=>cE (ba EE a Builtin.unsafeString [f,.int .i64 (.ofNat m)] [75,3]) λn o=>k n o)))
def xD (rc:RC)(a0:Value)(h:H)(k:Value->H->R):(bR EE KK 17).run rc [a0] h k = HY rc a0 h k:=by kernel_rfl
def UJ (rc:RC)(a0 a1 a2:Value)(h:H)(k:Value->H->R):R:=rc 267 [a0,a1,a2] h λa b=>binR (binC EE .neq 25 (bi (.tmp 14)) (bi (.const (.int .i64 0)))) a (.int .i64 (.ofNat 0)) λc=>@joinR [6,7] (λ_ d=>ifB (ble d.1 1000000000) (letH (ag d (.row 44 2 false false 0 (T.ofList unk [.pointer none,.slice none 0 0]))) λe=>ifB (hY (allF (λf=>fW f) []) (allF (λf=>fW f) [.pointer (some (Addr.mk d.1 0 none))])) (rc 268 [a0,a1,a2,.func (.func 308) ⟨[]⟩ ⟨[.pointer (some (Addr.mk d.1 0 none))]⟩] e λ_ f=>rc 17 [.pointer (some (Addr.mk d.1 0 none))] f λg i=>ifB (List.all [g,.int .i64 (.ofNat 0)] λj=>Bool.not (isTuple j)) (k (.tuple ⟨[g,.int .i64 (.ofNat 0)]⟩) i)))) λd=>onB c (d (.string (ByteArray.mk #[]),(.int .i64 (.ofNat 0),())) b) (ifB (List.all [.string (ByteArray.mk #[]),a] λe=>Bool.not (isTuple e)) (k (.tuple ⟨[.string (ByteArray.mk #[]),a]⟩) b))
def Hf (rc:RC)(a0 a1 a2:Value)(h:H)(k:Value->H->R):(bR EE KK 206).run rc [a0,a1,a2] h k = UJ rc a0 a1 a2 h k:=by kernel_rfl
def Uj (rc:RC)(a0 a1 a2:Value)(h:H)(k:Value->H->R):R:=onCells a0 λa=>ifB (allF (λb=>cell1F b) a) (ifB (ble h.1 1000000000) (letH (ag h (.row 171 (lenF a) false false 0 (T.ofList unk a))) λb=>@joinR [6] (λ_ c=>k (.int .i64 (.ofNat 0)) c) λc=>onRow (hget b h.1) λ_ d _ _ _ e=>ifB (ble (Nat.succ 0) d) (binR (binC EE .eql 163 (bi (.tmp 9)) (bi (.const (.pointer none)))) (getF e 0) (.pointer none) λf=>@joinR [6] (λg i=>c (g.1,()) i) λg=>onB f (binR (binC EE .lss 3 (bi (.tmp 12)) (bi (.const (.int .i64 0)))) a1 (.int .i64 (.ofNat 0)) λi=>ac (λj l=>ac (λm n=>onB i (ac (λo p=>ac (λq r=>ac (λs t=>ac (λu v=>onB m (ac (λw x=>ac (λy z=>ac (λa3 a4=>ac (λa5 a6=>ac (λa7 a8=>ac (λa9 b0=>onB u (@joinR [6] (λb1 b2=>g (b1.1,()) b2) λb1=>onB a9 (b1 (.int .i64 (.ofNat 0),()) b0) (k (.int .i64 (.ofNat 3)) b0)) (@joinR [6] (λb1 b2=>g (b1.1,()) b2) λ_=>k (.int .i64 (.ofNat 3)) b0)) λa9=>aF u (binR (binC EE .gtr 3 (bi (.tmp 25)) (bi (.tmp 29))) w a7 λb0=>a9 b0 a8) (a9 undef a8) (a9 undef a8)) λa7=>aF u (binR (binC EE .sub 3 (bi (.tmp 27)) (bi (.tmp 28))) a3 a5 λa8=>a7 a8 a6) (a7 undef a6) (a7 undef a6)) λa5=>aF u (a5 a2 a4) (a5 undef a4) (a5 undef a4)) λa3=>aF u (onPtr y λa4=>onRow (hget z a4.1) λ_ a5 _ _ _ a6=>ifB (ble (Nat.succ a4.2) a5) (a3 (getF a6 a4.2) z)) (a3 undef z) (a3 undef z)) λy=>aF u (y (.pointer (some (Addr.mk h.1 (Nat.add 0 2) none))) x) (y undef x) (y undef x)) λw=>aF u (w a1 v) (w undef v) (w undef v)) (ac (λ_ w=>ac (λ_ x=>ac (λ_ y=>ac (λ_ z=>ac (λ_ a3=>ac (λ_ a4=>@joinR [6] (λa5 a6=>g (a5.1,()) a6) λ_=>k (.int .i64 (.ofNat 3)) a4) λa4=>a4 undef a3) λa3=>a3 undef z) λz=>z undef y) λy=>y undef x) λx=>x undef w) λw=>w undef v)) λu=>aF m (binR (binC EE .gtr 3 (bi (.tmp 19)) (bi (.tmp 21))) o s λv=>u v t) (u undef t) (u undef t)) λs=>aF m (onPtr q λt=>onRow (hget r t.1) λ_ u _ _ _ v=>ifB (ble (Nat.succ t.2) u) (s (getF v t.2) r)) (s undef r) (s undef r)) λq=>aF m (q (.pointer (some (Addr.mk h.1 (Nat.add 0 2) none))) p) (q undef p) (q undef p)) λo=>aF m (o a2 n) (o undef n) (o undef n)) (ac (λ_ o=>ac (λ_ p=>ac (λ_ q=>ac (λ_ r=>ac (λ_ s=>ac (λ_ t=>ac (λ_ u=>ac (λ_ v=>ac (λ_ w=>ac (λ_ x=>@joinR [6] (λy z=>g (y.1,()) z) λ_=>k (.int .i64 (.ofNat 3)) x) λx=>x undef w) λw=>w undef v) λv=>v undef u) λu=>u undef t) λt=>t undef s) λs=>s undef r) λr=>r undef q) λq=>q undef p) λp=>p undef o) λo=>o undef n)) λm=>aF i (binR (binC EE .lss 3 (bi (.tmp 15)) (bi (.const (.int .i64 0)))) j (.int .i64 (.ofNat 0)) λn=>m n l) (m undef l) (m undef l)) λj=>aF i (j a2 b) (j undef b) (j undef b)) (k (.int .i64 (.ofNat 1)) b))))
def Fh (rc:RC)(a0 a1 a2:Value)(h:H)(k:Value->H->R):(bR EE KK 278).run rc [a0,a1,a2] h k = Uj rc a0 a1 a2 h k:=by kernel_rfl
def Uc (rc:RC)(a0 a1:Value)(h:H)(k:Value->H->R):R:=onCells a0 λa=>ifB (allF (λb=>cell1F b) a) (ifB (ble h.1 1000000000) (letH (ag h (.row 171 (lenF a) false false 0 (T.ofList unk a))) λb=>@joinR [4] (λ_ c=>k (.int .i64 (.ofNat 2)) c) λc=>onRow (hget b h.1) λ_ d _ _ _ e=>ifB (ble (Nat.succ 0) d) (binR (binC EE .eql 163 (bi (.tmp 7)) (bi (.const (.pointer none)))) (getF e 0) (.pointer none) λf=>@joinR [4] (λg i=>c (g.1,()) i) λg=>onB f (binR (binC EE .eql 3 (bi (.tmp 10)) (bi (.const (.int .i64 1)))) a1 (.int .i64 (.ofNat 1)) λi=>@joinR [9] (λj l=>@joinR [4] (λm n=>g (m.1,()) n) λm=>onB j.1 (m (.int .i64 (.ofNat 0),()) l) (k (.int .i64 (.ofNat 0)) l)) λj=>onB i (binR (binC EE .eql 3 (bi (.tmp 12)) (bi (.const (.int .i64 2)))) a1 (.int .i64 (.ofNat 2)) λl=>@joinR [9] (λm n=>j (m.1,()) n) λm=>onB l (binR (binC EE .eql 3 (bi (.tmp 14)) (bi (.const (.int .i64 4)))) a1 (.int .i64 (.ofNat 4)) λn=>@joinR [9] (λo p=>m (o.1,()) p) λo=>onB n (binR (binC EE .eql 3 (bi (.tmp 16)) (bi (.const (.int .i64 8)))) a1 (.int .i64 (.ofNat 8)) λp=>o (p,()) b) (o (n,()) b)) (m (l,()) b)) (j (i,()) b)) (k (.int .i64 (.ofNat 1)) b))))
def EO (rc:RC)(a0 a1:Value)(h:H)(k:Value->H->R):(bR EE KK 277).run rc [a0,a1] h k = Uc rc a0 a1 h k:=by kernel_rfl
def apR (rc:RC)(a0 a1 a2:Value)(h:H)(k:Value->H->R):R:=onCells a0 λa=>ifB (allF (λb=>cell1F b) a) (ifB (ble h.1 1000000000) (letH (ag h (.row 171 (lenF a) false false 0 (T.ofList unk a))) λb=>onRow (hget b h.1) λ_ c _ _ _ d=>ifB (ble (Nat.add 0 3) c) (rc 277 [.agg ⟨ae d 3 0⟩,a2] b λe f=>binR (binC EE .neq 25 (bi (.tmp 13)) (bi (.const (.int .i64 0)))) e (.int .i64 (.ofNat 0)) λg=>@joinR [6,7] (λi j=>onRow (hget j h.1) λ_ l _ _ _ m=>ifB (ble (Nat.add 0 3) l) (rc 278 [.agg ⟨ae m 3 0⟩,a1,a2] j λn o=>binR (binC EE .neq 25 (bi (.tmp 20)) (bi (.const (.int .i64 0)))) n (.int .i64 (.ofNat 0)) λp=>@joinR [6,7] (λ_ q=>onRow (hget q h.1) λ_ r _ _ _ s=>ifB (ble (Nat.succ 0) r) (onRow (hget q h.1) λ_ t _ _ _ u=>ifB (ble (Nat.succ (Nat.add 0 1)) t) (binR (binC EE .add 3 (bi (.tmp 26)) (bi (.tmp 27))) (getF u (Nat.add 0 1)) a1 λv=>rc 383 [getF s 0,v,a2] q λw x=>onTup w λy=>nthF 0 y λz=>onTup w λa3=>nthF 1 a3 λa4=>ifB (List.all [z,a4] λa5=>Bool.not (isTuple a5)) (k (.tuple ⟨[z,a4]⟩) x)))) λq=>onB p (q (i.1,(i.2.1,())) o) (ifB (List.all [.int .u64 (.ofNat 0),n] λr=>Bool.not (isTuple r)) (k (.tuple ⟨[.int .u64 (.ofNat 0),n]⟩) o)))) λi=>onB g (i (.int .u64 (.ofNat 0),(.int .i64 (.ofNat 0),())) f) (ifB (List.all [.int .u64 (.ofNat 0),e] λj=>Bool.not (isTuple j)) (k (.tuple ⟨[.int .u64 (.ofNat 0),e]⟩) f)))))
def Ls (rc:RC)(a0 a1 a2:Value)(h:H)(k:Value->H->R):(bR EE KK 288).run rc [a0,a1,a2] h k = apR rc a0 a1 a2 h k:=by kernel_rfl
def U2 (rc:RC)(a0 a1 a2:Value)(h:H)(k:Value->H->R):R:=onCells a0 λa=>ifB (allF (λb=>cell1F b) a) (ifB (ble h.1 1000000000) (letH (ag h (.row 171 (lenF a) false false 0 (T.ofList unk a))) λb=>onRow (hget b h.1) λ_ c _ _ _ d=>ifB (ble (Nat.add 0 3) c) (rc 278 [.agg ⟨ae d 3 0⟩,a1,a2] b λe f=>binR (binC EE .neq 25 (bi (.tmp 13)) (bi (.const (.int .i64 0)))) e (.int .i64 (.ofNat 0)) λg=>@joinR [6,7] (λ_ i=>onRow (hget i h.1) λ_ j _ _ _ l=>ifB (ble (Nat.succ 0) j) (onRow (hget i h.1) λ_ m _ _ _ n=>ifB (ble (Nat.succ (Nat.add 0 1)) m) (binR (binC EE .add 3 (bi (.tmp 19)) (bi (.tmp 20))) (getF n (Nat.add 0 1)) a1 λo=>rc 206 [getF l 0,o,a2] i λp q=>onTup p λr=>nthF 0 r λs=>onTup p λt=>nthF 1 t λu=>ifB (List.all [s,u] λv=>Bool.not (isTuple v)) (k (.tuple ⟨[s,u]⟩) q)))) λi=>onB g (i (.string (ByteArray.mk #[]),(.int .i64 (.ofNat 0),())) f) (ifB (List.all [.string (ByteArray.mk #[]),e] λj=>Bool.not (isTuple j)) (k (.tuple ⟨[.string (ByteArray.mk #[]),e]⟩) f)))))
def E6 (rc:RC)(a0 a1 a2:Value)(h:H)(k:Value->H->R):(bR EE KK 470).run rc [a0,a1,a2] h k = U2 rc a0 a1 a2 h k:=by kernel_rfl
def dN:EE.und 3=some (.int .i64):=by kernel_rfl
def sJ:EE.und 131=some (.int .u64):=by kernel_rfl
def aqq (rc:RC) (h:H) (k:Value->H->R):bG rc (.int .u64 (.ofNat 1)) h k=k (.int .i64 (.ofNat 1)) h:=by kernel_rfl
def ao7 (rc:RC) (h:H) (k:Value->H->R):bG rc (.int .u64 (.ofNat 2)) h k=k (.int .i64 (.ofNat 1)) h:=by kernel_rfl
def auE (rc:RC) (h:H) (k:Value->H->R):bG rc (.int .u64 (.ofNat 4)) h k=k (.int .i64 (.ofNat 1)) h:=by kernel_rfl
def anX (rc:RC) (h:H) (k:Value->H->R):bG rc (.int .u64 (.ofNat 8)) h k=k (.int .i64 (.ofNat 1)) h:=by kernel_rfl
def aqX (rc:RC) (h:H) (k:Value->H->R):bG rc (.int .u64 (.ofNat 16)) h k=k (.int .i64 (.ofNat 1)) h:=by kernel_rfl
def asA (rc:RC) (h:H) (k:Value->H->R):bG rc (.int .u64 (.ofNat 32)) h k=k (.int .i64 (.ofNat 1)) h:=by kernel_rfl
def aug (rc:RC) (h:H) (k:Value->H->R):bG rc (.int .u64 (.ofNat 64)) h k=k (.int .i64 (.ofNat 1)) h:=by kernel_rfl
def asi (rc:RC) (h:H) (k:Value->H->R):bG rc (.int .u64 (.ofNat 128)) h k=k (.int .i64 (.ofNat 1)) h:=by kernel_rfl
def auv (rc:RC) (h:H) (k:Value->H->R):bG rc (.int .u64 (.ofNat 256)) h k=k (.int .i64 (.ofNat 1)) h:=by kernel_rfl
def apF (rc:RC) (h:H) (k:Value->H->R):bG rc (.int .u64 (.ofNat 512)) h k=k (.int .i64 (.ofNat 1)) h:=by kernel_rfl
def acB (rc:RC) (h:H) (k:Value->H->R):bG rc (.int .u64 (.ofNat 1024)) h k=k (.int .i64 (.ofNat 1)) h:=by kernel_rfl
def akn (rc:RC) (h:H) (k:Value->H->R):bG rc (.int .u64 (.ofNat 2048)) h k=k (.int .i64 (.ofNat 1)) h:=by kernel_rfl
def agK (rc:RC) (h:H) (k:Value->H->R):bG rc (.int .u64 (.ofNat 4096)) h k=k (.int .i64 (.ofNat 1)) h:=by kernel_rfl
def aaY (rc:RC) (h:H) (k:Value->H->R):bG rc (.int .u64 (.ofNat 8192)) h k=k (.int .i64 (.ofNat 1)) h:=by kernel_rfl
def ake (rc:RC) (h:H) (k:Value->H->R):bG rc (.int .u64 (.ofNat 16384)) h k=k (.int .i64 (.ofNat 1)) h:=by kernel_rfl
def adn (rc:RC) (h:H) (k:Value->H->R):bG rc (.int .u64 (.ofNat 32768)) h k=k (.int .i64 (.ofNat 1)) h:=by kernel_rfl
def Vu (rc:RC) (h:H) (k:Value->H->R):bG rc (.int .u64 (.ofNat 65536)) h k=k (.int .i64 (.ofNat 1)) h:=by kernel_rfl
def W4 (rc:RC) (h:H) (k:Value->H->R):bG rc (.int .u64 (.ofNat 131072)) h k=k (.int .i64 (.ofNat 1)) h:=by kernel_rfl
def Za (rc:RC) (h:H) (k:Value->H->R):bG rc (.int .u64 (.ofNat 262144)) h k=k (.int .i64 (.ofNat 1)) h:=by kernel_rfl
def YK (rc:RC) (h:H) (k:Value->H->R):bG rc (.int .u64 (.ofNat 524288)) h k=k (.int .i64 (.ofNat 1)) h:=by kernel_rfl
def acA (rc:RC) (h:H) (k:Value->H->R):bG rc (.int .u64 (.ofNat 1048576)) h k=k (.int .i64 (.ofNat 1)) h:=by kernel_rfl
def ajk (rc:RC) (h:H) (k:Value->H->R):bG rc (.int .u64 (.ofNat 2097152)) h k=k (.int .i64 (.ofNat 1)) h:=by kernel_rfl
def aaT (rc:RC) (h:H) (k:Value->H->R):bG rc (.int .u64 (.ofNat 4194304)) h k=k (.int .i64 (.ofNat 1)) h:=by kernel_rfl
def adK (rc:RC) (h:H) (k:Value->H->R):bG rc (.int .u64 (.ofNat 8388608)) h k=k (.int .i64 (.ofNat 1)) h:=by kernel_rfl
def adp (rc:RC) (h:H) (k:Value->H->R):bG rc (.int .u64 (.ofNat 16777216)) h k=k (.int .i64 (.ofNat 1)) h:=by kernel_rfl
def aai (rc:RC) (h:H) (k:Value->H->R):bG rc (.int .u64 (.ofNat 33554432)) h k=k (.int .i64 (.ofNat 1)) h:=by kernel_rfl
def agf (rc:RC) (h:H) (k:Value->H->R):bG rc (.int .u64 (.ofNat 67108864)) h k=k (.int .i64 (.ofNat 1)) h:=by kernel_rfl
def aae (rc:RC) (h:H) (k:Value->H->R):bG rc (.int .u64 (.ofNat 134217728)) h k=k (.int .i64 (.ofNat 1)) h:=by kernel_rfl
def ah6 (rc:RC) (h:H) (k:Value->H->R):bG rc (.int .u64 (.ofNat 268435456)) h k=k (.int .i64 (.ofNat 1)) h:=by kernel_rfl
def aiV (rc:RC) (h:H) (k:Value->H->R):bG rc (.int .u64 (.ofNat 536870912)) h k=k (.int .i64 (.ofNat 1)) h:=by kernel_rfl
def abM (rc:RC) (h:H) (k:Value->H->R):bG rc (.int .u64 (.ofNat 1073741824)) h k=k (.int .i64 (.ofNat 1)) h:=by kernel_rfl
def ai1 (rc:RC) (h:H) (k:Value->H->R):bG rc (.int .u64 (.ofNat 2147483648)) h k=k (.int .i64 (.ofNat 1)) h:=by kernel_rfl
def agz (rc:RC) (h:H) (k:Value->H->R):bG rc (.int .u64 (.ofNat 4294967296)) h k=k (.int .i64 (.ofNat 1)) h:=by kernel_rfl
def agG (rc:RC) (h:H) (k:Value->H->R):bG rc (.int .u64 (.ofNat 8589934592)) h k=k (.int .i64 (.ofNat 1)) h:=by kernel_rfl
def aar (rc:RC) (h:H) (k:Value->H->R):bG rc (.int .u64 (.ofNat 17179869184)) h k=k (.int .i64 (.ofNat 1)) h:=by kernel_rfl
def aav (rc:RC) (h:H) (k:Value->H->R):bG rc (.int .u64 (.ofNat 34359738368)) h k=k (.int .i64 (.ofNat 1)) h:=by kernel_rfl
def Vs (rc:RC) (h:H) (k:Value->H->R):bG rc (.int .u64 (.ofNat 68719476736)) h k=k (.int .i64 (.ofNat 1)) h:=by kernel_rfl
def amV (rc:RC) (h:H) (k:Value->H->R):bG rc (.int .u64 (.ofNat 137438953472)) h k=k (.int .i64 (.ofNat 1)) h:=by kernel_rfl
def W3 (rc:RC) (h:H) (k:Value->H->R):bG rc (.int .u64 (.ofNat 274877906944)) h k=k (.int .i64 (.ofNat 1)) h:=by kernel_rfl
def VJ (rc:RC) (h:H) (k:Value->H->R):bG rc (.int .u64 (.ofNat 549755813888)) h k=k (.int .i64 (.ofNat 1)) h:=by kernel_rfl
def ab9 (rc:RC) (h:H) (k:Value->H->R):bG rc (.int .u64 (.ofNat 1099511627776)) h k=k (.int .i64 (.ofNat 1)) h:=by kernel_rfl
def aje (rc:RC) (h:H) (k:Value->H->R):bG rc (.int .u64 (.ofNat 2199023255552)) h k=k (.int .i64 (.ofNat 1)) h:=by kernel_rfl
def aez (rc:RC) (h:H) (k:Value->H->R):bG rc (.int .u64 (.ofNat 4398046511104)) h k=k (.int .i64 (.ofNat 1)) h:=by kernel_rfl
def agS (rc:RC) (h:H) (k:Value->H->R):bG rc (.int .u64 (.ofNat 8796093022208)) h k=k (.int .i64 (.ofNat 1)) h:=by kernel_rfl
def ak8 (rc:RC) (h:H) (k:Value->H->R):bG rc (.int .u64 (.ofNat 17592186044416)) h k=k (.int .i64 (.ofNat 1)) h:=by kernel_rfl
def agN (rc:RC) (h:H) (k:Value->H->R):bG rc (.int .u64 (.ofNat 35184372088832)) h k=k (.int .i64 (.ofNat 1)) h:=by kernel_rfl
def aeE (rc:RC) (h:H) (k:Value->H->R):bG rc (.int .u64 (.ofNat 70368744177664)) h k=k (.int .i64 (.ofNat 1)) h:=by kernel_rfl
def VG (rc:RC) (h:H) (k:Value->H->R):bG rc (.int .u64 (.ofNat 140737488355328)) h k=k (.int .i64 (.ofNat 1)) h:=by kernel_rfl
def aku (rc:RC) (h:H) (k:Value->H->R):bG rc (.int .u64 (.ofNat 281474976710656)) h k=k (.int .i64 (.ofNat 1)) h:=by kernel_rfl
def ad8 (rc:RC) (h:H) (k:Value->H->R):bG rc (.int .u64 (.ofNat 562949953421312)) h k=k (.int .i64 (.ofNat 1)) h:=by kernel_rfl
def Xx (rc:RC) (h:H) (k:Value->H->R):bG rc (.int .u64 (.ofNat 1125899906842624)) h k=k (.int .i64 (.ofNat 1)) h:=by kernel_rfl
def aks (rc:RC) (h:H) (k:Value->H->R):bG rc (.int .u64 (.ofNat 2251799813685248)) h k=k (.int .i64 (.ofNat 1)) h:=by kernel_rfl
def aeM (rc:RC) (h:H) (k:Value->H->R):bG rc (.int .u64 (.ofNat 4503599627370496)) h k=k (.int .i64 (.ofNat 1)) h:=by kernel_rfl
def akg (rc:RC) (h:H) (k:Value->H->R):bG rc (.int .u64 (.ofNat 9007199254740992)) h k=k (.int .i64 (.ofNat 1)) h:=by kernel_rfl
def amj (rc:RC) (h:H) (k:Value->H->R):bG rc (.int .u64 (.ofNat 18014398509481984)) h k=k (.int .i64 (.ofNat 1)) h:=by kernel_rfl
def abP (rc:RC) (h:H) (k:Value->H->R):bG rc (.int .u64 (.ofNat 36028797018963968)) h k=k (.int .i64 (.ofNat 1)) h:=by kernel_rfl
def agj (rc:RC) (h:H) (k:Value->H->R):bG rc (.int .u64 (.ofNat 72057594037927936)) h k=k (.int .i64 (.ofNat 1)) h:=by kernel_rfl
def ag0 (rc:RC) (h:H) (k:Value->H->R):bG rc (.int .u64 (.ofNat 144115188075855872)) h k=k (.int .i64 (.ofNat 1)) h:=by kernel_rfl
def ajI (rc:RC) (h:H) (k:Value->H->R):bG rc (.int .u64 (.ofNat 288230376151711744)) h k=k (.int .i64 (.ofNat 1)) h:=by kernel_rfl
def agq (rc:RC) (h:H) (k:Value->H->R):bG rc (.int .u64 (.ofNat 576460752303423488)) h k=k (.int .i64 (.ofNat 1)) h:=by kernel_rfl
def acG (rc:RC) (h:H) (k:Value->H->R):bG rc (.int .u64 (.ofNat 1152921504606846976)) h k=k (.int .i64 (.ofNat 1)) h:=by kernel_rfl
def Yl (rc:RC) (h:H) (k:Value->H->R):bG rc (.int .u64 (.ofNat 2305843009213693952)) h k=k (.int .i64 (.ofNat 1)) h:=by kernel_rfl
def abH (rc:RC) (h:H) (k:Value->H->R):bG rc (.int .u64 (.ofNat 4611686018427387904)) h k=k (.int .i64 (.ofNat 1)) h:=by kernel_rfl
def ahu (rc:RC) (h:H) (k:Value->H->R):bG rc (.int .u64 (.ofNat 9223372036854775808)) h k=k (.int .i64 (.ofNat 1)) h:=by kernel_rfl
def awE (rc:RC) (h:H) (k:Value->H->R):∀b,b<64->bG rc (.int .u64 (.ofNat (2 ^ b))) h k=k (.int .i64 (.ofNat 1)) h
 | 0,_=>aqq rc h k
 | 1,_=>ao7 rc h k
 | 2,_=>auE rc h k
 | 3,_=>anX rc h k
 | 4,_=>aqX rc h k
 | 5,_=>asA rc h k
 | 6,_=>aug rc h k
 | 7,_=>asi rc h k
 | 8,_=>auv rc h k
 | 9,_=>apF rc h k
 | 10,_=>acB rc h k
 | 11,_=>akn rc h k
 | 12,_=>agK rc h k
 | 13,_=>aaY rc h k
 | 14,_=>ake rc h k
 | 15,_=>adn rc h k
 | 16,_=>Vu rc h k
 | 17,_=>W4 rc h k
 | 18,_=>Za rc h k
 | 19,_=>YK rc h k
 | 20,_=>acA rc h k
 | 21,_=>ajk rc h k
 | 22,_=>aaT rc h k
 | 23,_=>adK rc h k
 | 24,_=>adp rc h k
 | 25,_=>aai rc h k
 | 26,_=>agf rc h k
 | 27,_=>aae rc h k
 | 28,_=>ah6 rc h k
 | 29,_=>aiV rc h k
 | 30,_=>abM rc h k
 | 31,_=>ai1 rc h k
 | 32,_=>agz rc h k
 | 33,_=>agG rc h k
 | 34,_=>aar rc h k
 | 35,_=>aav rc h k
 | 36,_=>Vs rc h k
 | 37,_=>amV rc h k
 | 38,_=>W3 rc h k
 | 39,_=>VJ rc h k
 | 40,_=>ab9 rc h k
 | 41,_=>aje rc h k
 | 42,_=>aez rc h k
 | 43,_=>agS rc h k
 | 44,_=>ak8 rc h k
 | 45,_=>agN rc h k
 | 46,_=>aeE rc h k
 | 47,_=>VG rc h k
 | 48,_=>aku rc h k
 | 49,_=>ad8 rc h k
 | 50,_=>Xx rc h k
 | 51,_=>aks rc h k
 | 52,_=>aeM rc h k
 | 53,_=>akg rc h k
 | 54,_=>amj rc h k
 | 55,_=>abP rc h k
 | 56,_=>agj rc h k
 | 57,_=>ag0 rc h k
 | 58,_=>ajI rc h k
 | 59,_=>agq rc h k
 | 60,_=>acG rc h k
 | 61,_=>Yl rc h k
 | 62,_=>abH rc h k
 | 63,_=>ahu rc h k
 | b+64,hb=>absurd hb (by omega)
def bX (n:Nat) (f:FuncId) (args:List Value) (h:H) (k:Value->H->R):ar EE KK (n+1) f args h k=(bR EE KK f).run (ar EE KK n) args h k:=rfl
def F0 (n:Nat) (h:H) (k:Value->H->R) (b:Nat) (hb:b<64):ar EE KK (n+1) 454 [.int .u64 (.ofNat (2 ^ b))] h k=k (.int .i64 (.ofNat 1)) h:=by rw[bX,Gf,awE _ _ _ b hb]
def Iq (n:Nat) (h:H) (k:Value->H->R) (f:Nat) (hf:f<=1000000000):
  ar EE KK (n+1) 453 [.int .i64 (.ofNat f),.int .i64 (.ofNat 1)] h k=k (.tuple ⟨[.int .u64 (.ofNat (2 ^ (f%64))),.int .i64 (.ofNat 1)]⟩) h:=by
 rw[bX,Gc];unfold Ux;have h1:min 1 (64-f%64)=1:=by omega
 have h2:(1:Nat) <<< (f%64)=2 ^ (f%64):=by rw[Nat.shiftLeft_eq,Nat.one_mul]
 have h3:2 ^ (f%64)<=2 ^ 63:=Nat.pow_le_pow_right (by omega) (by omega);simp (disch:=omega) only[uS dN,gK dN,min_i64,aK,h1];rw[tO sJ (by omega) (by decide),KR sJ (by decide) (by decide),tO sJ (by omega) (by rw[show (1:Nat) <<< 1-1=1 from rfl,h2];exact JV h3 (by decide))];rw[show (1:Nat) <<< 1-1=1 from rfl,h2];rfl
def yu (n:Nat) (h:H) (L f m:Nat) (wa:Addr) (nw cw:Nat) (hn:h.next<=1000000000) (hL:L<=1000000000) (hm:f+m<=L):
  ∃h',fP h h'/\h'.next=h.next+1/\∀k:Value->H->R,ar EE KK (n+1) 452 [.agg ⟨[.int .i64 (.ofNat L),.slice (some wa) nw cw]⟩,.int .i64 (.ofNat f),.int .i64 (.ofNat m)] h k=k (.bool true) h':=by
 refine⟨ag h (.row 253 2 false false 0 (T.ofList unk [.int .i64 (.ofNat L),.slice (some wa) nw cw])),(fP.refl h).push _ hn,rfl,λk=>?_⟩;rw[bX,Ih];unfold T8;simp (disch:=omega) only[bP,jg,vH,HN,Ug,Jo,aj hn,aD,eI,aE,iw dN,BO dN,gK dN,aA,ax,cu,cP,fx,aM,au,az,cz,aI,dh,Jz,Kl,List.getD_cons_zero]
def DK (n:Nat) (h:H) (L f:Nat) (wb wo nw cw w:Nat) (e:TypeId) (m:Nat) (op ro:Bool) (fz:Nat) (c:T Value) (hn:h.next+10<=1000000000) (hL:L<=1000000) (hf:f<L)
  (hw:wb<h.next) (hnw:f / 64<nw) (hrow:hget h wb=.row e m op ro fz c) (hm:wo+f / 64<m) (hc:getF c (wo+f / 64)=.int .u64 (.ofNat w)) (hw2:w<=18446744073709551615) (hbit:w &&& 2 ^ (f%64)=2 ^ (f%64)):
  ∃h',fP h h'/\h'.next<=h.next+2/\∀k:Value->H->R,ar EE KK (n+3) 368 [.agg ⟨[.int .i64 (.ofNat L),.slice (some ⟨wb,wo,none⟩) nw cw]⟩,.int .i64 (.ofNat f),.int .i64 (.ofNat 1)] h k=k (.tuple ⟨[.int .i64 (.ofNat 1),.int .i64 (.ofNat 0)]⟩) h':=by
 have hp:fP h (ag h (.row 253 2 false false 0 (T.ofList unk [.int .i64 (.ofNat L),.slice (some ⟨wb,wo,none⟩) nw cw]))):=(fP.refl h).push _ (by omega);obtain⟨h2,ho,hx,hr⟩:=yu (n+1) (ag h (.row 253 2 false false 0 (T.ofList unk [.int .i64 (.ofNat L),.slice (some ⟨wb,wo,none⟩) nw cw]))) L f 1 ⟨wb,wo,none⟩ nw cw (by rw[cS];omega) (by omega) (by omega);rw[cS] at hx;have hnew:hget h2 h.next=.row 253 2 false false 0 (T.ofList unk [.int .i64 (.ofNat L),.slice (some ⟨wb,wo,none⟩) nw cw]):=by rw[ho.2 _ (by rw[cS];omega),az _ _ (by omega)]
 have hold:hget h2 wb=.row e m op ro fz c:=by rw[ho.2 _ (by rw[cS];omega),bN _ _ (by omega) hw,hrow]
 refine⟨h2,hp.trans ho,by omega,λk=>?_⟩;rw[bX,MB];unfold avf;have hp63:2 ^ (f%64)<=18446744073709551615:=JV (Nat.pow_le_pow_right (by omega) (show f%64<=63 by omega)) (by decide)
 simp (disch:=omega) only[↓bP,jg,vH,HN,Ug,Jo,↓aj,↓aD,↓eI,↓ah,az,↓cz,dh,Jz,Kl,pQ,aI,List.getD_cons_zero,List.getD_cons_succ,↓hr,↓aA,↓ax,
  JD,Ju,Je,Nat.reduceAdd,JN]
 simp (disch:=omega) only[↓sI,↓qY,↓fD dN,aM,dt,↓aA,↓ax,↓Iq,↓bg,↓bB,↓du,hnew,↓cz,↓aj,↓uR dN,↓bC,aI,List.getD_cons_zero,List.getD_cons_succ,↓bp,↓bw,↓au,hold,Nat.mul_one,hc,↓Lp sJ hw2 hp63,hbit,↓F0,↓dr dN,↓gK dN,
  ↓ah,Nat.reduceAdd,JN,Nat.sub_self]
 rfl
def Bc:EE.und 163=some (.pointer 257):=by kernel_rfl
structure I4 where
 (b eA mA fzA np cp L wb wo nw cw ew mw fzw w pb po ep mp fzp qb eq fzq:Nat)
 (opA roA opw row opp rop opq roq:Bool)
 (cA cww cpp cq:T Value)
structure qS (h:H) (p:I4) (a m:Nat):Prop where
 hA:hget h p.b=.row p.eA p.mA p.opA p.roA p.fzA p.cA
 mA:3<=p.mA
 c0:getF p.cA 0=.slice (some ⟨p.pb,p.po,none⟩) p.np p.cp
 c1:getF p.cA 1=.int .i64 (.ofNat p.L)
 c2:getF p.cA 2=.slice (some ⟨p.wb,p.wo,none⟩) p.nw p.cw
 hW:hget h p.wb=.row p.ew p.mw p.opw p.row p.fzw p.cww
 word:getF p.cww (p.wo+a / 4096 / 64)=.int .u64 (.ofNat p.w)
 hnw:a / 4096 / 64<p.nw
 hmw:p.wo+a / 4096 / 64<p.mw
 hw:p.w<=18446744073709551615
 bit:p.w &&& 2 ^ (a / 4096%64)=2 ^ (a / 4096%64)
 hf:a / 4096<p.L
 hL:p.L<=1000000
 one:a%4096+m<=4096
 m1:1<=m
 hin:a+m<=p.np*4096
 hnp:p.np<=1000000
 lb:p.b<h.next
 lw:p.wb<h.next
 lp:p.pb<h.next
 lq:p.qb<h.next
 hP:hget h p.pb=.row p.ep p.mp p.opp p.rop p.fzp p.cpp
 page:getF p.cpp (p.po+a / 4096)=.pointer (some ⟨p.qb,0,none⟩)
 hmp:p.po+a / 4096<p.mp
 hQ:hget h p.qb=.row p.eq 4096 p.opq p.roq p.fzq p.cq
def qS.old {h h':H} {p:I4} {a m:Nat} (x:qS h p a m) (o:fP h h'):qS h' p a m:=
 {x with
  hA:=(o.2 _ x.lb).trans x.hA
  hW:=(o.2 _ x.lw).trans x.hW
  hP:=(o.2 _ x.lp).trans x.hP
  hQ:=(o.2 _ x.lq).trans x.hQ
  lb:=Jp x.lb o.1
  lw:=Jp x.lw o.1
  lp:=Jp x.lp o.1
  lq:=Jp x.lq o.1 }
set_option maxHeartbeats 4000000 in
def sq (n:Nat) {h:H} {p:I4} {a m:Nat} (x:qS h p a m) (hn:h.next+10<=1000000000):
  ∃h',fP h h'/\h'.next<=h.next+2/\∀k:Value->H->R,ar EE KK (n+4) 267 [.pointer (some ⟨p.b,0,none⟩),.int .i64 (.ofNat a),.int .i64 (.ofNat m)] h k=k (.int .i64 (.ofNat 0)) h':=by
 obtain⟨h2,ho,hx,hr⟩:=DK n h p.L (a / 4096) p.wb p.wo p.nw p.cw p.w p.ew p.mw p.opw p.row p.fzw p.cww hn x.hL x.hf x.lw x.hnw x.hW x.hmw x.word x.hw x.bit;refine⟨h2,ho,hx,λk=>?_⟩;have hin:=x.hin;have hnp:=x.hnp;have one:=x.one;have m1:=x.m1;have mA:=x.mA;have hAr:∀k,onRow (hget h p.b) k=k p.eA p.mA p.opA p.roA p.fzA p.cA:=λk=>by rw[x.hA];rfl
 have c0:∀s k,onSl (getF p.cA 0) s k=k ⟨p.pb,p.po,none⟩ p.np p.cp:=λs k=>by rw[x.c0];rfl
 have c12:ae p.cA 2 1=[.int .i64 (.ofNat p.L),.slice (some ⟨p.wb,p.wo,none⟩) p.nw p.cw]:=by rw[pQ,x.c1,x.c2]
 have e1:(a+m-1) / 4096=a / 4096:=by omega
 rw[bX,Gn];unfold Uo;simp (disch:=first | omega | (simp only[JD,Ju,Je];omega)) only[↓ah,↓aE,↓kX Bc,↓aA,↓ax,↓cu,↓cP,↓fx,↓fj dN,↓oO dN,↓se dN,↓aR,↓au,↓hAr,↓aj,↓c0,↓Cr dN,↓gK dN,↓dr dN,↓uR dN];rw[show Nat.add 0 1=1 from rfl,c12,e1,Nat.sub_self,JN];simp (disch:=first | omega | (simp only[JD,Ju,Je];omega)) only[↓hr,↓bg,↓bB,↓du,↓aoV dN,↓ax]
def ry:EE.und 41=some (.pointer 44):=by kernel_rfl
def It:EE.und 100=some .unsafePointer:=by kernel_rfl
def uE:EE.size 44=some (1+1):=by kernel_rfl
def BA:EE.und 42=some (.slice 5):=by kernel_rfl
def F1:EE.und 75=some (.pointer 5):=by kernel_rfl
def ah7:EE.und 406=some (.array 4096 5):=by kernel_rfl
def wV:EE.und 25=some (.int .i64):=by kernel_rfl
def Av:EE.size 5=some 1:=by kernel_rfl
def Hp:TypeInfo:=(EE.info 5).getD default
def i5:EE.info 5=some Hp:=by kernel_rfl
def i5s:Hp.size=1:=by kernel_rfl
def i5b:Hp.bytes=1:=by kernel_rfl
def z5:cK EE 5=some [.int .u8 (.ofNat 0)]:=by kernel_rfl
def tI (n:Nat) (v:Value) (h:H) (k:Value->H->R):ar EE KK (n+1) 55 [v] h k=k v h:=by kernel_rfl
def wj (n:Nat) {h:H} {bb:Nat} {c:T Value} (hb:hget h bb=.row 44 2 false false 0 c) (h0:getF c 0=.pointer none) (hbb:bb<=1000000000):
  ∀k:Value->H->R,ar EE KK (n+2) 27 [.pointer (some ⟨bb,0,none⟩)] h k=k (.tuple ⟨[]⟩) (hset h bb (.row 44 2 false false 0 (dW 40 c 0 (.pointer (some ⟨bb,0,none⟩))))):=by
 intro k;have hbr:∀k,onRow (hget h bb) k=k 44 2 false false 0 c:=λk=>by rw[hb];rfl
 have e1:∀cx cy k,binR (binC EE .eql 41 cx cy) (getF c 0) (.pointer none) k=k (.bool true):=λcx cy k=>by rw[h0];exact vA ry
 rw[bX,yr];unfold Iw;simp (disch:=first | omega | (simp only[JD,Ju,Je];omega)) only[↓aR,↓au,↓hbr,↓aj,↓e1,↓ah,↓aA];rw[BL ry It uE hb (by omega)];simp (disch:=first | omega | (simp only[JD,Ju,Je];omega)) only[↓aK,↓tI];rw[tj It ry uE hb (by omega)];simp (disch:=first | omega | (simp only[JD,Ju,Je];omega)) only[↓aK,↓aR,↓au,↓oY,↓hbr];simp only[aD];rfl
def C0 (n:Nat) {h:H} {bb qb o m cap e' nq fz:Nat} {op ro:Bool} {c cq:T Value} (hb:hget h bb=.row 44 2 false false 0 c) (h0:getF c 0=.pointer none) (h1:getF c 1=.slice none 0 0) (hbb:bb<h.next) (hq:hget h qb=.row e' nq op ro fz cq) (hqb:qb<bb)
  (hm:1<=m) (hon:o+m<=nq) (hm2:m<=100000) (hroom:h.next<=1000000000):
  ∃h',h'.next=h.next+1/\(∀i,i<h.next->i≠bb->hget h' i=hget h i)/\(∃c',hget h' bb=.row 44 2 false false 0 c'/\getF c' 1=.slice (some ⟨h.next,0,none⟩) m (2*m+1))/\hget h' h.next=.row 5 m true false 0 (T.ofList unk (ae cq m o)) /\
  ∀k:Value->H->R,ar EE KK (n+3) 309 [.pointer (some ⟨bb,0,none⟩),.slice (some ⟨qb,o,none⟩) m cap] h k=k (.tuple ⟨[.int .i64 (.ofNat m),.nilIface]⟩) h':=by
 have hgq:hget (hset h bb (.row 44 2 false false 0 (dW 40 c 0 (.pointer (some ⟨bb,0,none⟩))))) qb=.row e' nq op ro fz cq:=by rw[eS _ _ (by omega) hqb,hq]
 have hgb:hget (hset h bb (.row 44 2 false false 0 (dW 40 c 0 (.pointer (some ⟨bb,0,none⟩))))) bb=.row 44 2 false false 0 (dW 40 c 0 (.pointer (some ⟨bb,0,none⟩))):=bj _ _ _ (by omega);have hc1:getF (dW 40 c 0 (.pointer (some ⟨bb,0,none⟩))) 1=.slice none 0 0:=by rw[jw _ _ _ _ (by omega),if_neg (by omega),h1]
 have ha:=append_nil (t:=42) (c:=cap) BA i5 z5 i5s i5b hgq hm hon hm2 (by rw[jD];exact hroom);have hnx:(hset h bb (.row 44 2 false false 0 (dW 40 c 0 (.pointer (some ⟨bb,0,none⟩))))).next=h.next:=rfl;rw[hnx] at ha;have hgb2:hget (ag (hset h bb (.row 44 2 false false 0 (dW 40 c 0 (.pointer (some ⟨bb,0,none⟩))))) (.row 5 m true false 0 (T.ofList unk (ae cq m o)))) bb=.row 44 2 false false 0 (dW 40 c 0 (.pointer (some ⟨bb,0,none⟩))):=by rw[bN _ _ (by rw[hnx];exact hroom) (by rw[hnx];exact hbb),hgb]
 refine⟨hset (ag (hset h bb (.row 44 2 false false 0 (dW 40 c 0 (.pointer (some ⟨bb,0,none⟩))))) (.row 5 m true false 0 (T.ofList unk (ae cq m o)))) bb (.row 44 2 false false 0 (dW 40 (dW 40 c 0 (.pointer (some ⟨bb,0,none⟩))) 1 (.slice (some ⟨h.next,0,none⟩) m (2*m+1)))),rfl,?_,⟨_,bj _ _ _ (by omega),by rw[jw _ _ _ _ (by omega),if_pos rfl]⟩,?_,λk=>?_⟩
 ·intro i hi hne;rw[bS _ _ _ _ (by omega),if_neg hne,bN _ _ (by rw[hnx];exact hroom) (by rw[hnx];exact hi),bS _ _ _ _ (by omega),if_neg hne]
 ·rw[bS _ _ _ _ (by omega),if_neg (by omega)];exact az _ _ (by rw[hnx];exact hroom)
 ·have hbr:∀k,onRow (hget (hset h bb (.row 44 2 false false 0 (dW 40 c 0 (.pointer (some ⟨bb,0,none⟩))))) bb) k=k 44 2 false false 0 (dW 40 c 0 (.pointer (some ⟨bb,0,none⟩))):=λk=>by rw[hgb];rfl
  rw[bX,p8];unfold AG;simp (disch:=first | omega | (simp only[JD,Ju,Je];omega)) only[↓wj n hb h0 (by omega),↓aR,↓au,↓hbr,↓aj];rw[show Nat.add 0 1=1 from rfl,hc1,ha];simp (disch:=first | omega | (simp only[JD,Ju,Je];omega)) only[↓kF,↓aR,↓au,↓ma];rw[hgb2];simp only[aD];rfl
def zD (n:Nat) {h:H} {bb sb m:Nat} {c:T Value} {l:List Value} {s:List UInt8} (hb:hget h bb=.row 44 2 false false 0 c) (h1:getF c 1=.slice (some ⟨sb,0,none⟩) m (2*m+1)) (hs:hget h sb=.row 5 m true false 0 (T.ofList unk l))
  (hl:l.length=m) (hm:1<=m) (hm2:m<=100000) (hby:cT l=some s) (hroom:h.next<=1000000000):
  ∀k:Value->H->R,ar EE KK (n+1) 17 [.pointer (some ⟨bb,0,none⟩)] h k=k (.string ⟨⟨s⟩⟩) (hset h sb (.row 5 m true false m (T.ofList unk l))):=by
 intro k;have hbr:∀k,onRow (hget h bb) k=k 44 2 false false 0 c:=λk=>by rw[hb];rfl
 have hh:(H.mk (Nat.add h.1 0) h.2)=h:=by cases h;rfl
 rw[bX,xD];unfold HY;rw[hh];simp (disch:=first | omega | (simp only[JD,Ju,Je];omega)) only[↓aj,↓aD,↓aR,↓au,↓hbr];rw[show Nat.add 0 1=1 from rfl,h1,lR (by omega)];simp (disch:=first | omega | (simp only[JD,Ju,Je];omega)) only[↓aK,↓aR,↓au,↓hbr,↓aj];simp (disch:=first | omega | (simp only[JD,Ju,Je];omega)) only[↓bp];rw[yY F1 Av hs hl hm hm2 hby];rfl
def D4 (n:Nat) {h:H} {p:I4} {a m:Nat} {bb:Nat} {c:T Value} (x:qS h p a m) (hb:hget h bb=.row 44 2 false false 0 c) (h0:getF c 0=.pointer none) (h1:getF c 1=.slice none 0 0) (hbb:bb<h.next) (hpb:p.qb<bb) (hroom:h.next+10<=1000000000):
  ∃h',h'.next=h.next+1/\(∀i,i<h.next->i≠bb->hget h' i=hget h i)/\(∃c',hget h' bb=.row 44 2 false false 0 c'/\getF c' 1=.slice (some ⟨h.next,0,none⟩) m (2*m+1))/\hget h' h.next=.row 5 m true false 0 (T.ofList unk (ae p.cq m (a%4096))) /\
  ∀k:Value->H->R,ar EE KK (n+5) 268 [.pointer (some ⟨p.b,0,none⟩),.int .i64 (.ofNat a),.int .i64 (.ofNat m),.func (.func 308) ⟨[]⟩ ⟨[.pointer (some ⟨bb,0,none⟩)]⟩] h k=k (.tuple ⟨[]⟩) h':=by
 have hin:=x.hin;have hnp:=x.hnp;have one:=x.one;have m1:=x.m1;have mA:=x.mA;have hmp:=x.hmp;obtain⟨h',hx,hold,hbn,hsn,hw⟩:=C0 n (cap:=2*(4096-a%4096)) hb h0 h1 hbb x.hQ hpb m1 one (by omega) (by omega);refine⟨h',hx,hold,hbn,hsn,λk=>?_⟩;have hAr:∀k,onRow (hget h p.b) k=k p.eA p.mA p.opA p.roA p.fzA p.cA:=λk=>by rw[x.hA];rfl
 have hPr:∀k,onRow (hget h p.pb) k=k p.ep p.mp p.opp p.rop p.fzp p.cpp:=λk=>by rw[x.hP];rfl
 have c0:∀s k,onSl (getF p.cA 0) s k=k ⟨p.pb,p.po,none⟩ p.np p.cp:=λs k=>by rw[x.c0];rfl
 have emin:min m (4096-a%4096)=m:=by omega
 rw[bX,FP];unfold U3;rw[ah,sI];simp (disch:=first | omega | (simp only[JD,Ju,Je];omega)) only[↓qU dN,↓ah,↓aA,↓uS dN,↓gK dN];rw[min_i64,emin];simp (disch:=first | omega | (simp only[JD,Ju,Je];omega)) only[↓aK,↓aR,↓au,↓hAr,↓aj,↓uR dN,↓bC,↓c0,↓bw,↓hPr];rw[show Nat.mul (a / 4096) 1=a / 4096 from Nat.mul_one _,x.page];simp (disch:=first | omega | (simp only[JD,Ju,Je];omega)) only[↓aR,↓uS dN];rw[DD ah7 Av (by omega)];simp (disch:=first | omega | (simp only[JD,Ju,Je];omega)) only[↓aK];rw[FB BA Av (by omega)];simp (disch:=first | omega | (simp only[JD,Ju,Je];omega)) only[↓aK,↓Xz];rw[show pa (Array.mk []) (Array.mk [Value.pointer (some ⟨bb,0,none⟩)]) [Value.slice (some ⟨p.qb,a%4096,none⟩) m (2*(4096-a%4096))]=[Value.slice (some ⟨p.qb,a%4096,none⟩) m (2*(4096-a%4096)),Value.pointer (some ⟨bb,0,none⟩)] from rfl];rw[bX,Gg];unfold U6;rw[hw];simp (disch:=first | omega | (simp only[JD,Ju,Je];omega)) only[↓dr dN,↓gK dN,↓qY,↓oO dN,↓ah,↓ax]
def lB (n:Nat) {h:H} {p:I4} {a m:Nat} {s:List UInt8} (x:qS h p a m) (hby:cT (ae p.cq m (a%4096))=some s) (hroom:h.next+20<=1000000000):
  ∃h',fP h h'/\h'.next<=h.next+4/\∀k:Value->H->R,ar EE KK (n+6) 206 [.pointer (some ⟨p.b,0,none⟩),.int .i64 (.ofNat a),.int .i64 (.ofNat m)] h k=k (.tuple ⟨[.string ⟨⟨s⟩⟩,.int .i64 (.ofNat 0)]⟩) h':=by
 have m1:=x.m1;have one:=x.one;obtain⟨h1,ho1,hx1,hc⟩:=sq (n+1) x (by omega);have x1:=x.old ho1;have hq1:=x1.lq;have ho2:fP h1 (ag h1 (.row 44 2 false false 0 (T.ofList unk [.pointer none,.slice none 0 0]))):=(fP.refl h1).push _ (by omega);obtain⟨h3,hx3,hold3,⟨c',hbn,hc1⟩,hsn,he⟩:=D4 n (bb:=h1.next) (x1.old ho2) (az _ _ (by omega)) (by rw[aI];rfl) (by rw[aI];rfl) (by rw[cS];omega) hq1 (by rw[cS];omega);rw[cS] at hx3 hold3 hsn hc1;have hst:=zD (n+4) hbn hc1 hsn (rn _ _ _) m1 (by omega) hby (by omega);refine⟨hset h3 (h1.next+1) (.row 5 m true false m (T.ofList unk (ae p.cq m (a%4096)))),⟨?_,λi hi=>?_⟩,?_,λk=>?_⟩
 ·rw[jD];have:=ho1.1;omega
 ·have:=ho1.1;rw[eS _ _ (by omega) (by omega),hold3 i (by omega) (by omega),bN _ _ (by omega) (by omega)];exact ho1.2 i hi
 ·rw[jD];omega
 ·rw[bX,Hf];unfold UJ;simp (disch:=first | omega | (simp only[JD,Ju,Je];omega)) only[↓hc,↓wc wV,↓ah,↓ax,↓aj,↓aD];rw[gY (show hY (allF (λv=>fW v) []) (allF (λv=>fW v) [Value.pointer (some ⟨h1.next,0,none⟩)])=true from rfl)];rw[he,hst];rfl
def pt (a2 v60:Value) (k69:aa [10]->H->R):(aa [10,30]->H->R)->aa [10,30]->H->R:=
 (λk70=>(λe71=>(λh72=>(Go.Ev.F.binR (Go.Ev.F.binC Go.Ev.EE Go.BinOp.lss 3 (Go.Ev.bi (Go.Operand.tmp 30)) (Go.Ev.bi (Go.Operand.tmp 29))) e71.2.1 a2 (λv73=>(@Go.Ev.F.joinR [] (λe74=>(λh75=>(@Go.Ev.F.joinR (10 :: []) (λe76=>(λh77=>(Go.Ev.F.binR (Go.Ev.F.binC Go.Ev.EE Go.BinOp.add 3 (Go.Ev.bi (Go.Operand.tmp 30)) (Go.Ev.bi (Go.Operand.const (Go.Value.int Go.IntKind.i64 1)))) e71.2.1 (Go.Value.int Go.IntKind.i64 (Int.ofNat 1)) (λv78=>(k70 (e76.1,(v78,())) h77))))) (λk79=>(Go.Ev.F.bindO (Go.Ev.dA Go.Ev.EE 9 v60 e71.2.1) (λv80=>(Go.Ev.F.onNat v80 (Go.Ev.F.bindO (Go.Ev.aY Go.Ev.EE h75 5 131 v80) (λv81=>(Go.Ev.F.binR (Go.Ev.F.binC Go.Ev.EE Go.BinOp.mul 3 (Go.Ev.bi (Go.Operand.const (Go.Value.int Go.IntKind.i64 8))) (Go.Ev.bi (Go.Operand.tmp 38))) (Go.Value.int Go.IntKind.i64 (Int.ofNat 8)) e71.2.1 (λv82=>(Go.Ev.F.binR (Go.Ev.F.binC Go.Ev.EE Go.BinOp.shl 131 (Go.Ev.bi (Go.Operand.tmp 37)) (Go.Ev.bi (Go.Operand.tmp 39))) v81 v82 (λv83=>(Go.Ev.F.binR (Go.Ev.F.binC Go.Ev.EE Go.BinOp.or 131 (Go.Ev.bi (Go.Operand.tmp 33)) (Go.Ev.bi (Go.Operand.tmp 40))) e71.1 v83 (λv84=>(k79 (v84,()) h75))))))))) (λn85=>(@Bool.rec (λx86=>Go.Ev.F.R) (Go.Ev.F.bindO (Go.Ev.aY Go.Ev.EE h75 5 131 v80) (λv87=>(Go.Ev.F.binR (Go.Ev.F.binC Go.Ev.EE Go.BinOp.mul 3 (Go.Ev.bi (Go.Operand.const (Go.Value.int Go.IntKind.i64 8))) (Go.Ev.bi (Go.Operand.tmp 38))) (Go.Value.int Go.IntKind.i64 (Int.ofNat 8)) e71.2.1 (λv88=>(Go.Ev.F.binR (Go.Ev.F.binC Go.Ev.EE Go.BinOp.shl 131 (Go.Ev.bi (Go.Operand.tmp 37)) (Go.Ev.bi (Go.Operand.tmp 39))) v87 v88 (λv89=>(Go.Ev.F.binR (Go.Ev.F.binC Go.Ev.EE Go.BinOp.or 131 (Go.Ev.bi (Go.Operand.tmp 33)) (Go.Ev.bi (Go.Operand.tmp 40))) e71.1 v89 (λv90=>(k79 (v90,()) h75))))))))) (Go.Ev.F.binR (Go.Ev.F.binC Go.Ev.EE Go.BinOp.mul 3 (Go.Ev.bi (Go.Operand.const (Go.Value.int Go.IntKind.i64 8))) (Go.Ev.bi (Go.Operand.tmp 38))) (Go.Value.int Go.IntKind.i64 (Int.ofNat 8)) e71.2.1 (λv91=>(Go.Ev.F.binR (Go.Ev.F.binC Go.Ev.EE Go.BinOp.shl 131 (Go.Ev.bi (Go.Operand.tmp 37)) (Go.Ev.bi (Go.Operand.tmp 39))) (Go.Value.int Go.IntKind.u64 (Int.ofNat n85)) v91 (λv92=>(Go.Ev.F.binR (Go.Ev.F.binC Go.Ev.EE Go.BinOp.or 131 (Go.Ev.bi (Go.Operand.tmp 33)) (Go.Ev.bi (Go.Operand.tmp 40))) e71.1 v92 (λv93=>(k79 (v93,()) h75))))))) (ble n85 18446744073709551615)))))))))) (λk94=>(Go.Ev.F.onB v73 (k69 (e71.1,()) h72) (k94 () h72)))))))))
def cM:Nat:=1000000
def GL (rc:RC) (a0 a1 a2:Value) (h:H) (k:Value->H->R):R:=
 (@Go.Ev.F.joinR (6 :: (7 :: [])) (λe55=>(λh56=>(rc 206 (a0 :: (a1 :: (a2 :: []))) h56 (λv57=>(λh58=>(Go.Ev.F.onTup v57 (λl59=>(Go.Ev.F.nthF 0 l59 (λv60=>(Go.Ev.F.onTup v57 (λl61=>(Go.Ev.F.nthF 1 l61 (λv62=>(Go.Ev.F.binR (Go.Ev.F.binC Go.Ev.EE Go.BinOp.neq 25 (Go.Ev.bi (Go.Operand.tmp 26)) (Go.Ev.bi (Go.Operand.const (Go.Value.int Go.IntKind.i64 0)))) v62 (Go.Value.int Go.IntKind.i64 (Int.ofNat 0)) (λv63=>(@Go.Ev.F.joinR (6 :: (7 :: [])) (λe64=>(λh65=>(@Go.Ev.F.joinR (10 :: []) (λe66=>(λh67=>(Go.Ev.F.ifB (@List.all Go.Value (e66.1 :: ((Go.Value.int Go.IntKind.i64 (Int.ofNat 0)) :: [])) (λv68=>(Bool.not (Go.Ev.isTuple v68)))) (k (Go.Value.tuple (Array.mk (e66.1 :: ((Go.Value.int Go.IntKind.i64 (Int.ofNat 0)) :: [])))) h67)))) (λk69=>(@Go.Ev.F.loopF (10 :: (30 :: [])) (pt a2 v60 k69) cM ((Go.Value.int Go.IntKind.u64 (Int.ofNat 0)),((Go.Value.int Go.IntKind.i64 (Int.ofNat 0)),())) h65))))) (λk95=>(Go.Ev.F.onB v63 (k95 (e55.1,(e55.2.1,())) h58) (Go.Ev.F.ifB (@List.all Go.Value ((Go.Value.int Go.IntKind.u64 (Int.ofNat 0)) :: (v62 :: [])) (λv96=>(Bool.not (Go.Ev.isTuple v96)))) (k (Go.Value.tuple (Array.mk ((Go.Value.int Go.IntKind.u64 (Int.ofNat 0)) :: (v62 :: [])))) h58)))))))))))))))))))) (λk97=>(Go.Ev.F.binR (Go.Ev.F.binC Go.Ev.EE Go.BinOp.eql 163 (Go.Ev.bi (Go.Operand.tmp 13)) (Go.Ev.bi (Go.Operand.const (Go.Value.pointer none)))) a0 (Go.Value.pointer none) (λv98=>(@Go.Ev.F.joinR (6 :: (7 :: [])) (λe99=>(λh100=>(k97 (e99.1,(e99.2.1,())) h100))) (λk101=>(Go.Ev.F.onB v98 (rc 371 (a2 :: []) h (λv102=>(λh103=>(Go.Ev.F.onB v102 (@Go.Ev.F.joinR (6 :: (7 :: [])) (λe104=>(λh105=>(k101 (e104.1,(e104.2.1,())) h105))) (λk106=>(k (Go.Value.tuple (Array.mk ((Go.Value.int Go.IntKind.u64 (Int.ofNat 0)) :: ((Go.Value.int Go.IntKind.i64 (Int.ofNat 2)) :: [])))) h103))) (@Go.Ev.F.joinR (6 :: (7 :: [])) (λe107=>(λh108=>(k101 (e107.1,(e107.2.1,())) h108))) (λk109=>(k109 ((Go.Value.int Go.IntKind.u64 (Int.ofNat 0)),((Go.Value.int Go.IntKind.i64 (Int.ofNat 0)),())) h103))))))) (k (Go.Value.tuple (Array.mk ((Go.Value.int Go.IntKind.u64 (Int.ofNat 0)) :: ((Go.Value.int Go.IntKind.i64 (Int.ofNat 1)) :: [])))) h))))))))
def Dm (rc:RC) (a0 a1 a2:Value) (h:H) (k:Value->H->R):(bR EE KK 383).run rc [a0,a1,a2] h k=GL rc a0 a1 a2 h k:=by kernel_rfl
def ldv:List UInt8->Nat->Nat->Nat
 | [],x,_=>x
 | b :: l,x,i=>ldv l (x ||| (b.toNat <<< (8*i))) (i+1)
def avU:EE.und 9=some .string:=by kernel_rfl
def LJ {s:List UInt8} {j:Nat} {b:UInt8} {kd:IntKind} (h:s[j]?=some b):dA EE 9 (.string ⟨⟨s⟩⟩) (.int kd (.ofNat j))=some (.int .u8 (.ofNat b.toNat)):=by simp only[dA,avU];rw[h];rfl
def W5 {a b:Nat} (h:a<=b) (x y:R):@Bool.rec (λ_=>R) x y (ble a b)=y:=by rw[aM h]
def Fz {s:List UInt8} {j:Nat} (h:j<s.length):∃b,s[j]?=some b/\s.drop j=b :: s.drop (j+1):=
 ⟨s[j],by simp[h],JR h⟩
def LL (s:List UInt8) (m:Nat) (k69:aa [10]->H->R) (hm:m<=8) (hl:s.length=m):∀(d j x N:Nat) (h:H),j+d=m->x<2 ^ (8*j)->d<N ->
  loopF (ks:=[10,30]) (pt (.int .i64 (.ofNat m)) (.string ⟨⟨s⟩⟩) k69) N (.int .u64 (.ofNat x),(.int .i64 (.ofNat j),())) h=k69 (.int .u64 (.ofNat (ldv (s.drop j) x j)),()) h:=by
 intro d
 induction d with
 | zero=>
  intro j x N h hj hx hN;obtain⟨N,rfl⟩:∃M,N=M+1:=⟨N-1,by omega⟩;have hd:s.drop j=[]:=by apply List.drop_eq_nil_of_le;omega
  rw[aT,hd];unfold pt;simp (disch:=omega) only[↓fj dN,↓ah,↓ax];rfl
 | succ d ih=>
  intro j x N h hj hx hN;obtain⟨N,rfl⟩:∃M,N=M+1:=⟨N-1,by omega⟩;obtain⟨b,hb,hd⟩:=Fz (s:=s) (j:=j) (by omega);have hb8:b.toNat<2 ^ 8:=b.toNat_lt;have hp:(2:Nat) ^ (8*j)<=2 ^ 56:=Nat.pow_le_pow_right (by omega) (by omega);have hsh:b.toNat <<< (8*j)<2 ^ (8*(j+1)):=by rw[Nat.shiftLeft_eq,show 8*(j+1)=8+8*j by omega,Nat.pow_add];exact Nat.mul_lt_mul_of_pos_right hb8 (Nat.two_pow_pos _)
  have hp2:(2:Nat) ^ (8*(j+1))<=2 ^ 64:=Nat.pow_le_pow_right (by omega) (by omega);have hx2:x<2 ^ (8*(j+1)):=Jp hx (Nat.pow_le_pow_right (by omega) (by omega));have hor:=Nat.or_lt_two_pow hx2 hsh;rw[aT,hd];unfold pt;simp (disch:=omega) only[↓gt dN,↓ah,↓aA];rw[LJ hb];simp (disch:=omega) only[↓aK,↓bC,↓W5,↓Cr dN,↓tO sJ,↓Zn sJ,↓dr dN];exact ih (j+1) _ N h (by omega) hor (by omega)
def En (n m:Nat) (h:H) (k:Value->H->R) (hm:m=1 \/ m=2 \/ m=4 \/ m=8):ar EE KK (n+1) 371 [.int .i64 (.ofNat m)] h k=k (.bool true) h:=by
 rcases hm with rfl | rfl | rfl | rfl
 ·kernel_rfl
 ·kernel_rfl
 ·kernel_rfl
 ·kernel_rfl
def zq:∀(l:List Value) (s:List UInt8),cT l=some s->s.length=l.length:=by
 intro l
 induction l with
 | nil=>intro s h;simp only[cT,I9] at h;subst h;rfl
 | cons v l ih=>
  intro s h;unfold cT at h;split at h
  ·simp at *
  ·rename_i n l' he;cases he;cases hb:Nat.blt n 256 with
   | false=>rw[hb] at h;exact nomatch h
   | true=>
    rw[hb] at h;simp only[Jo] at h;cases hr:cT l with
    | none=>rw[hr] at h;exact nomatch h
    | some r=>
     rw[hr] at h;injection h with h
     subst h;simp[ih r hr]
  ·exact nomatch h
def vC (n:Nat) {h:H} {p:I4} {a m:Nat} {s:List UInt8} (x:qS h p a m) (hby:cT (ae p.cq m (a%4096))=some s) (hm:m=1 \/ m=2 \/ m=4 \/ m=8) (hroom:h.next+20<=1000000000):
  ∃h',fP h h'/\h'.next<=h.next+4/\∀k:Value->H->R,ar EE KK (n+7) 383 [.pointer (some ⟨p.b,0,none⟩),.int .i64 (.ofNat a),.int .i64 (.ofNat m)] h k=k (.tuple ⟨[.int .u64 (.ofNat (ldv s 0 0)),.int .i64 (.ofNat 0)]⟩) h':=by
 obtain⟨h',ho,hx,hb⟩:=lB n x hby hroom;have hl:s.length=m:=(zq _ _ hby).trans (rn _ _ _);refine⟨h',ho,hx,λk=>?_⟩;rw[bX,Dm];unfold GL;simp (disch:=first | omega | exact hm) only[↓ah,↓kX Bc,↓ax,↓En,↓aA,↓hb,↓bg,↓bB,↓du,↓wc wV];have:=LL s m (λe66 h67=>ifB ([e66.1,.int .i64 (.ofNat 0)].all λv=>!isTuple v) (k (.tuple ⟨[e66.1,.int .i64 (.ofNat 0)]⟩) h67)) (by omega) hl m 0 0 cM h' (by omega) (by decide) (by unfold cM;omega);rw[List.drop_zero] at this;exact this
def mE (ad:Addr) (k:Nat->Nat->R):R:=Option.rec (motive:=λ_=>R) (k ad.1 ad.2) (λ_=>none) ad.3
def ft (v:Value) (k:Nat->R):R:=NN.rec (motive:=λ_=>R) none k (nb v)
def Ua (v:Value) (k:Nat->R):R:=NN.rec (motive:=λ_=>R) none k (nd v)
def rN (v:Value) (k:Nat->R):R:=NN.rec (motive:=λ_=>R) none k (zh v)
def onN (x:Nat) (k:Nat->R):R:=Nat.rec (motive:=λ_=>R) (k 0) (λp _=>k (Nat.succ p)) x
def EK (x:Nat) (k:Nat->R):onN x k=k x:=by cases x <;> rfl
def asb (h:H) (a m b pb po wb wo np:Nat) (k:T Value->R):R:=
 onRow (hget h pb) λ_ mp _ _ _ cpp=>ifB (ble (Nat.succ (Nat.add po (Nat.div a 4096))) mp) (
 onPtr (getF cpp (Nat.add po (Nat.div a 4096))) λaq=>mE aq λqb qo=>ifB (beq qo 0) (
 onRow (hget h qb) λ_ mq _ _ _ cq=>ifB (beq mq 4096) (
 ifB (ble (Nat.succ b) h.1) (ifB (ble (Nat.succ wb) h.1) (ifB (ble (Nat.succ pb) h.1) (ifB (ble (Nat.succ qb) h.1) (
 ifB (ble (Nat.add (Nat.mod a 4096) m) 4096) (ifB (ble 1 m) (ifB (ble (Nat.add a m) (Nat.mul np 4096)) (ifB (ble np 1000000) (ifB (ble (Nat.add h.1 20) 1000000000) (k cq))))))))))))
def atv (h:H) (a m b f:Nat) (cA:T Value) (k:T Value->R):R:=
 onSl (getF cA 0) none λap np _=>mE ap λpb po=>
 onSl (getF cA 2) none λaw nw _=>mE aw λwb wo=>
 ft (getF cA 1) λL=>ifB (ble (Nat.succ f) L) (ifB (ble L 1000000) (
 onRow (hget h wb) λ_ mw _ _ _ cww=>ifB (ble (Nat.succ (Nat.div f 64)) nw) (ifB (ble (Nat.succ (Nat.add wo (Nat.div f 64))) mw) (
 Ua (getF cww (Nat.add wo (Nat.div f 64))) λw=>ifB (ble w 18446744073709551615) (ifB (beq (Nat.land w (Nat.pow 2 (Nat.mod f 64))) (Nat.pow 2 (Nat.mod f 64))) (
 asb h a m b pb po wb wo np k))))))
def Uq (v:Value) (a m:Nat) (h:H) (k:T Value->R):R:=
 onPtr v λad=>mE ad λb o=>ifB (beq o 0) (
 onRow (hget h b) λ_ mA _ _ _ cA=>ifB (ble 3 mA) (onN (Nat.div a 4096) λf=>atv h a m b f cA k))
def dS {ad:Addr} {k:Nat->Nat->R} {r} (h:mE ad k=some r):∃b o,ad=⟨b,o,none⟩/\k b o=some r:=by
 obtain⟨b,o,s⟩:=ad;cases s with
 | none=>exact⟨b,o,rfl,h⟩
 | some _=>exact nomatch h
def tT {n:Int} {m:Nat} (h:mP n=.s m):n=.ofNat m:=by
 cases n with
 | ofNat k=>cases h;rfl
 | negSucc k=>exact nomatch h
def tK {x:NN} {k:Nat->R} {r} (h:NN.rec (motive:=λ_=>R) none k x=some r):∃n,x=.s n/\k n=some r:=by
 cases x with
 | no=>exact nomatch h
 | s n=>exact⟨n,rfl,h⟩
def bW {v:Value} {k:Nat->R} {r} (h:ft v k=some r):∃n,v=.int .i64 (.ofNat n)/\k n=some r:=by
 obtain⟨n,e,h⟩:=tK h;refine⟨n,?_,h⟩;cases v with
 | int kd z=>cases kd <;> first | (rw[tT e]) | exact nomatch e
 | _=>exact nomatch e
def yF {v:Value} {k:Nat->R} {r} (h:Ua v k=some r):∃n,v=.int .u64 (.ofNat n)/\k n=some r:=by
 obtain⟨n,e,h⟩:=tK h;refine⟨n,?_,h⟩;cases v with
 | int kd z=>cases kd <;> first | (rw[tT e]) | exact nomatch e
 | _=>exact nomatch e
def jt {v:Value} {k:Nat->R} {r} (h:rN v k=some r):∃n,v=.int .u8 (.ofNat n)/\k n=some r:=by
 obtain⟨n,e,h⟩:=tK h;refine⟨n,?_,h⟩;cases v with
 | int kd z=>cases kd <;> first | (rw[tT e]) | exact nomatch e
 | _=>exact nomatch e
def fN {v:Value} {k:Addr->Nat->Nat->R} {r} (h:onSl v none k=some r):∃ad n c,v=.slice (some ad) n c/\k ad n c=some r:=by
 rcases oA h with h | h
 ·exact nomatch h
 ·exact h
def jc {v:Value} {a m:Nat} {h:H} {k:T Value->R} {r} (hk:Uq v a m h k=some r):
  ∃p:I4,v=.pointer (some ⟨p.b,0,none⟩)/\qS h p a m/\h.next+20<=1000000000/\k p.cq=some r:=by
 unfold Uq at hk;obtain⟨ad,ev,hk⟩:=cO hk;obtain⟨b,o,ed,hk⟩:=dS hk;obtain⟨ho,hk⟩:=ai hk;have ho:=I8 ho;rw[ed,ho] at ev;obtain⟨eA,mA,opA,roA,fzA,cA,hA,hk⟩:=cJ hk;obtain⟨hmA,hk⟩:=ai hk;rw[EK] at hk;unfold atv at hk;obtain⟨_,np,cp,c0,hk⟩:=fN hk;obtain⟨pb,po,ed0,hk⟩:=dS hk;rw[ed0] at c0;obtain⟨_,nw,cw,c2,hk⟩:=fN hk;obtain⟨wb,wo,ed2,hk⟩:=dS hk;rw[ed2] at c2;obtain⟨L,c1,hk⟩:=bW hk;obtain⟨q1,hk⟩:=ai hk;obtain⟨q2,hk⟩:=ai hk;obtain⟨ew,mw,opw,row,fzw,cww,hW,hk⟩:=cJ hk;obtain⟨q3,hk⟩:=ai hk;obtain⟨q4,hk⟩:=ai hk;obtain⟨w,word,hk⟩:=yF hk;obtain⟨q5,hk⟩:=ai hk;obtain⟨q6,hk⟩:=ai hk;unfold asb at hk;obtain⟨ep,mp,opp,rop,fzp,cpp,hP,hk⟩:=cJ hk;obtain⟨q7,hk⟩:=ai hk;obtain⟨_,page,hk⟩:=cO hk;obtain⟨qb,qo,ed3,hk⟩:=dS hk;obtain⟨q8,hk⟩:=ai hk;have q8:=I8 q8;rw[ed3,q8] at page;obtain⟨eq,mq,opq,roq,fzq,cq,hQ,hk⟩:=cJ hk;obtain⟨q9,hk⟩:=ai hk;have q9:=I8 q9;rw[q9] at hQ;obtain⟨r1,hk⟩:=ai hk;obtain⟨r2,hk⟩:=ai hk;obtain⟨r3,hk⟩:=ai hk;obtain⟨r4,hk⟩:=ai hk;obtain⟨r5,hk⟩:=ai hk;obtain⟨r6,hk⟩:=ai hk;obtain⟨r7,hk⟩:=ai hk;obtain⟨r8,hk⟩:=ai hk;obtain⟨r9,hk⟩:=ai hk
 exact⟨⟨b,eA,mA,fzA,np,cp,L,wb,wo,nw,cw,ew,mw,fzw,w,pb,po,ep,mp,fzp,qb,eq,fzq,opA,roA,opw,row,opp,rop,opq,roq,cA,cww,cpp,cq⟩,ev,
  {hA:=hA
   mA:=I7 hmA
   c0:=c0
   c1:=c1
   c2:=c2
   hW:=hW
   word:=word
   hnw:=I7 q3
   hmw:=I7 q4
   hw:=I7 q5
   bit:=I8 q6
   hf:=I7 q1
   hL:=I7 q2
   one:=I7 r5
   m1:=I7 r6
   hin:=I7 r7
   hnp:=I7 r8
   lb:=I7 r1
   lw:=I7 r2
   lp:=I7 r3
   lq:=I7 r4
   hP:=hP
   page:=page
   hmp:=I7 q7
   hQ:=hQ },I7 r9,hk⟩
def ldQ (c:T Value) (m:Nat):Nat->Nat->Nat->(Nat->R)->R:=
 Nat.rec (motive:=λ_=>Nat->Nat->Nat->(Nat->R)->R) (λ_ _ x k=>onN x k)
  (λ_ ih o i x k=>rN (getF c o) λn=>ifB (ble n 255) (ih (Nat.succ o) (Nat.add i 8) (Nat.lor x (Nat.shiftLeft n i)) k)) m
def EM (args:List Value) (h:H):R:=
 nthF 0 args λv=>nthF 1 args λva=>nthF 2 args λvm=>ifB (beq (lenF args) 3) (ft va λa=>ft vm λm=>
 ifB (beq m 1||beq m 2||beq m 4||beq m 8) (Uq v a m h λc=>ldQ c m (Nat.mod a 4096) 0 0 λx=>some (.tuple ⟨[.int .u64 (.ofNat x),.int .i64 (.ofNat 0)]⟩,h)))
def iU (c:T Value) (m o:Nat):ae c (m+1) o=getF c o :: ae c m (o+1):=rfl
def mR {c:T Value}:∀{m o i j x:Nat} {k:Nat->R} {r},ldQ c m o i x k=some r->i=8*j->∃s,cT (ae c m o)=some s/\k (ldv s x j)=some r
 | 0,o,i,j,x,k,r,h,_=>by have h:onN x k=some r:=h;rw[EK] at h;exact⟨[],rfl,h⟩
 | m+1,o,i,j,x,k,r,h,e=>by
  have h:(rN (getF c o) λn=>ifB (ble n 255) (ldQ c m (Nat.succ o) (Nat.add i 8) (Nat.lor x (Nat.shiftLeft n i)) k))=some r:=h;obtain⟨n,e1,h⟩:=jt h;obtain⟨hb,h⟩:=ai h;have hb:=I7 hb;obtain⟨s,hs,hk⟩:=mR (j:=j+1) h (by show i+8=_;omega);subst e;refine⟨n.toUInt8 :: s,?_,?_⟩
  ·rw[iU,e1];show cT (.int .u8 (.ofNat n) :: ae c m (o+1))=_;simp only[cT];rw[show cT (ae c m (o+1))=some s from hs];have:Nat.blt n 256=true:=Js (KT hb);rw[this];rfl
  ·have:(n.toUInt8).toNat=n:=by simp[Nat.toUInt8,UInt8.toNat_ofNat'];omega
   show k (ldv s (x ||| (n.toUInt8.toNat <<< (8*j))) (j+1))=some r;rw[this];exact hk
def dh (l:List Value):lenF l=l.length:=by
 induction l with
 | nil=>rfl
 | cons v l ih=>show Nat.succ (lenF l)=_;rw[ih];rfl
def aQ {i:Nat} {l:List Value} {k:Value->R} {r} (h:nthF i l k=some r):∃v,l[i]?=some v/\k v=some r:=by
 induction i generalizing l with
 | zero=>cases l with
  | nil=>exact nomatch h
  | cons v l=>exact⟨v,rfl,h⟩
 | succ i ih=>cases l with
  | nil=>exact nomatch h
  | cons v l=> obtain⟨u,e,h⟩:=ih (l:=l) h;exact⟨u,by simpa using e,h⟩
def o8 {args:List Value} {v0 v1 v2:Value} (h0:args[0]?=some v0) (h1:args[1]?=some v1) (h2:args[2]?=some v2) (hl:args.length=3):args=[v0,v1,v2]:=by
 match args,hl with
 | [a,b,c],_=>simp at h0 h1 h2;rw[h0,h1,h2]
def jB (f:FuncId) (args:List Value) (h:H) (r:Value × H):Prop:=r.2=h/\∃v0,iO v0=true/\(∀ρ u,VR ρ v0 u->VR ρ r.1 u)/\∃n h',fP h h'/\∀k:Value->H->R,ar EE KK n f args h k=k v0 h'
def Ii {args:List Value} {h:H} {r:Value × H} (hq:EM args h=some r):jB 383 args h r:=by
 unfold EM at hq;obtain⟨v,e0,hq⟩:=aQ hq;obtain⟨va,e1,hq⟩:=aQ hq;obtain⟨vm,e2,hq⟩:=aQ hq;obtain⟨hl,hq⟩:=ai hq;have hl:=I8 hl;rw[dh] at hl;have ha:=o8 e0 e1 e2 hl;obtain⟨a,ea,hq⟩:=bW hq;obtain⟨m,em,hq⟩:=bW hq;obtain⟨hm,hq⟩:=ai hq;obtain⟨p,ep,hok,hroom,hq⟩:=jc hq;obtain⟨s,hs,hq⟩:=mR (j:=0) hq rfl;have hq:=JJ hq;subst hq;have hm:m=1 \/ m=2 \/ m=4 \/ m=8:=by
  simp only[J4] at hm;rcases hm with ((q | q) | q) | q
  ·exact .inl (I8 q)
  ·exact .inr (.inl (I8 q))
  ·exact .inr (.inr (.inl (I8 q)))
  ·exact .inr (.inr (.inr (I8 q)))
 obtain⟨h',ho,_,hk⟩:=vC 0 hok hs hm hroom;refine⟨rfl,_,rfl,λ_ _ q=>q,7,h',ho,λk=>?_⟩;rw[ha,ep,ea,em];exact hk k
def NI (c:T Value) (m:Nat):Nat->(List UInt8->R)->R:=
 Nat.rec (motive:=λ_=>Nat->(List UInt8->R)->R) (λ_ k=>k [])
  (λ_ ih o k=>rN (getF c o) λn=>ifB (ble n 255) (ih (Nat.succ o) (λl=>k (UInt8.ofNat n :: l)))) m
def oE {c:T Value}:∀{m o:Nat} {k:List UInt8->R} {r},NI c m o k=some r->∃s,cT (ae c m o)=some s/\k s=some r
 | 0,o,k,r,h=>⟨[],rfl,h⟩
 | m+1,o,k,r,h=>by have h:(rN (getF c o) λn=>ifB (ble n 255) (NI c m (Nat.succ o) (λl=>k (UInt8.ofNat n :: l))))=some r:=h;obtain⟨n,e1,h⟩:=jt h;obtain⟨hb,h⟩:=ai h;have hb:=I7 hb;obtain⟨s,hs,hk⟩:=oE h;refine⟨UInt8.ofNat n :: s,?_,hk⟩;rw[iU,e1];show cT (.int .u8 (.ofNat n) :: ae c m (o+1))=_;simp only[cT];rw[show cT (ae c m (o+1))=some s from hs];have:Nat.blt n 256=true:=Js (KT hb);rw[this];rfl
def isB (v:Value):Bool:=NN.rec (motive:=λ_=>Bool) false (λn=>ble n 255) (zh v)
def rt (t:T Value):Bool:=T.rec (motive:=λ_=>Bool) isB (λ_ v _ a b=>Bool.rec (motive:=λ_=>Bool) false (Bool.rec (motive:=λ_=>Bool) false (isB v) b) a) t
def GF {v:Value} (h:isB v=true):∃n,v=.int .u8 (.ofNat n)/\n<=255:=by
 unfold isB at h;cases e:zh v with
 | no=>rw[e] at h;exact nomatch h
 | s n=>
  rw[e] at h;refine⟨n,?_,I7 h⟩;have:rN v (λn=>some (.int .u8 (.ofNat n),⟨0,.c .dead⟩))=some (.int .u8 (.ofNat n),⟨0,.c .dead⟩):=by unfold rN;rw[e]
  obtain⟨m,e1,e2⟩:=jt this;rw[e1];rw[e1] at e;cases e;rfl
def Ha {t:T Value}:rt t=true->∀i,isB (getF t i)=true:=by
 induction t with
 | c v=>intro h i;exact h
 | n l v r ihl ihr=>
  intro h;have h:Bool.rec (motive:=λ_=>Bool) false (Bool.rec (motive:=λ_=>Bool) false (isB v) (rt r)) (rt l)=true:=h;have hl:rt l=true:=by cases e:rt l with | true=>rfl | false=>rw[e] at h;exact nomatch h
  rw[hl] at h;have hr:rt r=true:=by cases e:rt r with | true=>rfl | false=>rw[e] at h;exact nomatch h
  rw[hr] at h;intro i;rw[bI,T.get_n];cases i with
  | zero=>exact h
  | succ j=>
   simp only[];split
   ·rw[<-bI];exact ihl hl _
   ·rw[<-bI];exact ihr hr _
def jV {c:T Value} (hc:rt c=true):∀m o,∃s,cT (ae c m o)=some s
 | 0,_=>⟨[],rfl⟩
 | m+1,o=>by obtain⟨s,hs⟩:=jV hc m (o+1);obtain⟨n,e1,hb⟩:=GF (Ha hc o);refine⟨UInt8.ofNat n :: s,?_⟩;rw[iU,e1];simp only[cT];rw[hs];have:Nat.blt n 256=true:=Js (KT hb);rw[this];rfl
def Ak (args:List Value) (h:H):R:=
 nthF 0 args λv=>nthF 1 args λva=>nthF 2 args λvm=>ifB (beq (lenF args) 3) (ft va λa=>ft vm λm=>
 Uq v a m h λc=>Bool.rec (motive:=λ_=>R) (ifB (rt c) (some (.tuple ⟨[unk,.int .i64 (.ofNat 0)]⟩,h)))
  (NI c m (Nat.mod a 4096) λs=>some (.tuple ⟨[.string ⟨⟨s⟩⟩,.int .i64 (.ofNat 0)]⟩,h)) (ble m 12))
def Ef {args:List Value} {h:H} {r:Value × H} (hq:Ak args h=some r):jB 206 args h r:=by
 unfold Ak at hq;obtain⟨v,e0,hq⟩:=aQ hq;obtain⟨va,e1,hq⟩:=aQ hq;obtain⟨vm,e2,hq⟩:=aQ hq;obtain⟨hl,hq⟩:=ai hq;have hl:=I8 hl;rw[dh] at hl;have ha:=o8 e0 e1 e2 hl;obtain⟨a,ea,hq⟩:=bW hq;obtain⟨m,em,hq⟩:=bW hq;obtain⟨p,ep,hok,hroom,hq⟩:=jc hq;cases hm:ble m 12 with
 | false=>
  rw[hm] at hq;obtain⟨hb,hq⟩:=ai hq;obtain⟨s,hs⟩:=jV hb m (a%4096);have hq:=JJ hq;subst hq;obtain⟨h',ho,_,hk⟩:=lB 0 hok hs hroom;refine⟨rfl,.tuple ⟨[.string ⟨⟨s⟩⟩,.int .i64 (.ofNat 0)]⟩,rfl,λρ u q=>?_,6,h',ho,λk=>?_⟩
  ·obtain⟨l,rfl,hl⟩:=q.tuple
   match l,hl with
   | [u1,u2],⟨_,h2,_⟩=>exact .inr ⟨_,_,rfl,rfl,.inl (.inl rfl),h2,trivial⟩
  ·rw[ha,ep,ea,em];exact hk k
 | true=>
 rw[hm] at hq;obtain⟨s,hs,hq⟩:=oE hq;have hq:=JJ hq;subst hq;obtain⟨h',ho,_,hk⟩:=lB 0 hok hs hroom;refine⟨rfl,_,rfl,λ_ _ q=>q,6,h',ho,λk=>?_⟩;rw[ha,ep,ea,em];exact hk k
def yE (args:List Value) (h:H):R:=
 nthF 0 args λv=>nthF 1 args λva=>nthF 2 args λvm=>ifB (beq (lenF args) 3) (ft va λa=>ft vm λm=>
 Uq v a m h λ_=>some (.int .i64 (.ofNat 0),h))
def Do {args:List Value} {h:H} {r:Value × H} (hq:yE args h=some r):jB 267 args h r:=by unfold yE at hq;obtain⟨v,e0,hq⟩:=aQ hq;obtain⟨va,e1,hq⟩:=aQ hq;obtain⟨vm,e2,hq⟩:=aQ hq;obtain⟨hl,hq⟩:=ai hq;have hl:=I8 hl;rw[dh] at hl;have ha:=o8 e0 e1 e2 hl;obtain⟨a,ea,hq⟩:=bW hq;obtain⟨m,em,hq⟩:=bW hq;obtain⟨p,ep,hok,hroom,hq⟩:=jc hq;have hq:=JJ hq;subst hq;obtain⟨h',ho,_,hk⟩:=sq 0 hok (by omega);refine⟨rfl,_,rfl,λ_ _ q=>q,4,h',ho,λk=>?_⟩;rw[ha,ep,ea,em];exact hk k
def mS (a0 a1:Value) (n114:Nat) (k118:aa []->H->R):(aa [6]->H->R)->aa [6]->H->R:=
 (λk119=>(λe120=>(λh121=>(Go.Ev.F.binR (Go.Ev.F.binC Go.Ev.EE Go.BinOp.lss 3 (Go.Ev.bi (Go.Operand.tmp 6)) (Go.Ev.bi (Go.Operand.tmp 5))) e120.1 (Go.Value.int Go.IntKind.i64 (Int.ofNat n114)) (λv122=>(@Go.Ev.F.joinR [] (λe123=>(λh124=>(@Go.Ev.F.joinR [] (λe125=>(λh126=>(Go.Ev.F.binR (Go.Ev.F.binC Go.Ev.EE Go.BinOp.add 3 (Go.Ev.bi (Go.Operand.tmp 6)) (Go.Ev.bi (Go.Operand.const (Go.Value.int Go.IntKind.i64 1)))) e120.1 (Go.Value.int Go.IntKind.i64 (Int.ofNat 1)) (λv127=>(k119 (v127,()) h126))))) (λk128=>(Go.Ev.F.onPtr a1 (λa129=>(Go.Ev.F.onRow (Go.Ev.F.hget h124 a129.1) (λx130=>(λn131=>(λx132=>(λx133=>(λn134=>(λt135=>(Go.Ev.F.ifB (ble (Nat.succ a129.2) n131) (Go.Ev.F.onNat e120.1 none (λn136=>(Go.Ev.F.onSl a0 none (λa137=>(λn138=>(λn139=>(Go.Ev.F.ifB (ble (Nat.succ n136) n138) (Go.Ev.F.addOffF a137 (Nat.mul n136 1) (λv140=>(Go.Ev.F.onPtr v140 (λa141=>(Go.Ev.F.onCells (@Go.Ev.F.getF Go.Value t135 a129.2) (λl142=>(Go.Ev.F.onRow (Go.Ev.F.hget h124 a141.1) (λx143=>(λn144=>(λx145=>(λx146=>(λn147=>(λt148=>(Go.Ev.F.ifB (Go.Ev.F.notB x146) (Go.Ev.F.ifB (beq (Go.Ev.F.lenF l142) 1) (Go.Ev.F.ifB (ble n147 a141.2) (Go.Ev.F.ifB (ble (Nat.add a141.2 1) n144) (Go.Ev.F.ifB (ble n144 1000000000) (Go.Ev.F.ifB (Go.Ev.F.allF (λv149=>(Go.Ev.F.cell1F v149)) l142) (Go.Ev.F.letH (Go.Ev.F.hset h124 a141.1 (Go.Ev.AO.row x143 n144 x145 Bool.false n147 (Go.Ev.F.putF t148 a141.2 l142))) (λh150=>(k128 () h150))))))))))))))))))))))))))))))))))))))))))) (λk151=>(Go.Ev.F.onB v122 (k118 () h121) (k151 () h121)))))))))
def GP (rc:RC) (a0 a1:Value) (h:H) (k:Value->H->R):R:=
 (Go.Ev.F.onSl a0 (Go.Ev.F.bindO (Go.Ev.aX Go.Ev.EE h 42 a0) (λv76=>(@Go.Ev.F.joinR [] (λe77=>(λh78=>(k (Go.Value.tuple (Array.mk [])) h78))) (λk79=>(@Go.Ev.F.loopF (6 :: []) (λk80=>(λe81=>(λh82=>(Go.Ev.F.binR (Go.Ev.F.binC Go.Ev.EE Go.BinOp.lss 3 (Go.Ev.bi (Go.Operand.tmp 6)) (Go.Ev.bi (Go.Operand.tmp 5))) e81.1 v76 (λv83=>(@Go.Ev.F.joinR [] (λe84=>(λh85=>(@Go.Ev.F.joinR [] (λe86=>(λh87=>(Go.Ev.F.binR (Go.Ev.F.binC Go.Ev.EE Go.BinOp.add 3 (Go.Ev.bi (Go.Operand.tmp 6)) (Go.Ev.bi (Go.Operand.const (Go.Value.int Go.IntKind.i64 1)))) e81.1 (Go.Value.int Go.IntKind.i64 (Int.ofNat 1)) (λv88=>(k80 (v88,()) h87))))) (λk89=>(Go.Ev.F.onPtr a1 (λa90=>(Go.Ev.F.onRow (Go.Ev.F.hget h85 a90.1) (λx91=>(λn92=>(λx93=>(λx94=>(λn95=>(λt96=>(Go.Ev.F.ifB (ble (Nat.succ a90.2) n92) (Go.Ev.F.onNat e81.1 none (λn97=>(Go.Ev.F.onSl a0 none (λa98=>(λn99=>(λn100=>(Go.Ev.F.ifB (ble (Nat.succ n97) n99) (Go.Ev.F.addOffF a98 (Nat.mul n97 1) (λv101=>(Go.Ev.F.onPtr v101 (λa102=>(Go.Ev.F.onCells (@Go.Ev.F.getF Go.Value t96 a90.2) (λl103=>(Go.Ev.F.onRow (Go.Ev.F.hget h85 a102.1) (λx104=>(λn105=>(λx106=>(λx107=>(λn108=>(λt109=>(Go.Ev.F.ifB (Go.Ev.F.notB x107) (Go.Ev.F.ifB (beq (Go.Ev.F.lenF l103) 1) (Go.Ev.F.ifB (ble n108 a102.2) (Go.Ev.F.ifB (ble (Nat.add a102.2 1) n105) (Go.Ev.F.ifB (ble n105 1000000000) (Go.Ev.F.ifB (Go.Ev.F.allF (λv110=>(Go.Ev.F.cell1F v110)) l103) (Go.Ev.F.letH (Go.Ev.F.hset h85 a102.1 (Go.Ev.AO.row x104 n105 x106 Bool.false n108 (Go.Ev.F.putF t109 a102.2 l103))) (λh111=>(k89 () h111))))))))))))))))))))))))))))))))))))))))))) (λk112=>(Go.Ev.F.onB v83 (k79 () h82) (k112 () h82))))))))) cM ((Go.Value.int Go.IntKind.i64 (Int.ofNat 0)),()) h))))) (λa113=>(λn114=>(λn115=>(@Go.Ev.F.joinR [] (λe116=>(λh117=>(k (Go.Value.tuple (Array.mk [])) h117))) (λk118=>(@Go.Ev.F.loopF (6 :: []) (mS a0 a1 n114 k118) cM ((Go.Value.int Go.IntKind.i64 (Int.ofNat 0)),()) h)))))))
def D9 (rc:RC) (a0 a1:Value) (h:H) (k:Value->H->R):(bR EE KK 269).run rc [a0,a1] h k=GP rc a0 a1 h k:=by kernel_rfl
def A5 (v:Value):Nat->Nat->T Value->T Value
 | 0,_,c=>c
 | d+1,i,c=>A5 v d (i+1) (dW 40 c i v)
def sv (qb e m:Nat) (op:Bool) (v:Value):Nat->Nat->T Value->H->H
 | 0,_,_,h=>h
 | d+1,i,c,h=>sv qb e m op v d (i+1) (dW 40 c i v) (hset h qb (.row e m op false 0 (dW 40 c i v)))
def kq (kd:IntKind) (n:Int) (k:List Value->R):onCells (.int kd n) k=k [.int kd n]:=rfl
def Ka {qb e m cap bb ob eb mb fzb x:Nat} {op opb rob:Bool} {cb:T Value} (k118:aa []->H->R) (hne:bb≠qb) (hqb:qb<=1000000000) (hob:ob<mb) (hv:getF cb ob=.int .u8 (.ofNat x)) (hm:m<=1000000):
  ∀(d i N:Nat) (c:T Value) (h:H),i+d=m->d<N->hget h qb=.row e m op false 0 c->hget h bb=.row eb mb opb rob fzb cb ->
  loopF (ks:=[6]) (mS (.slice (some ⟨qb,0,none⟩) m cap) (.pointer (some ⟨bb,ob,none⟩)) m k118) N (.int .i64 (.ofNat i),()) h=k118 () (sv qb e m op (.int .u8 (.ofNat x)) d i c h):=by
 intro d
 induction d with
 | zero=> intro i N c h hi hN hq hb;obtain⟨N,rfl⟩:∃M,N=M+1:=⟨N-1,by omega⟩;rw[aT];unfold mS;simp (disch:=omega) only[↓fj dN,↓ah,↓ax];rfl
 | succ d ih=>
  intro i N c h hi hN hq hb;obtain⟨N,rfl⟩:∃M,N=M+1:=⟨N-1,by omega⟩;have hbr:∀k,onRow (hget h bb) k=k eb mb opb rob fzb cb:=λk=>by rw[hb];rfl
  have hqr:∀k,onRow (hget h qb) k=k e m op false 0 c:=λk=>by rw[hq];rfl
  have key:=ih (i+1) N (dW 40 c i (.int .u8 (.ofNat x))) (hset h qb (.row e m op false 0 (dW 40 c i (.int .u8 (.ofNat x))))) (by omega) (by omega) (bj _ _ _ hqb)
   (by rw[bS _ _ _ _ hqb,if_neg hne];exact hb)
  rw[aT];generalize loopF (ks:=[6]) (mS (.slice (some ⟨qb,0,none⟩) m cap) (.pointer (some ⟨bb,ob,none⟩)) m k118) N=L at key ⊢;unfold mS;simp (disch:=first | omega | (simp only[JD,Ju,Je];omega)) only[↓gt dN,↓ah,↓aA,↓au,↓hbr,↓aj,↓bC,↓bp,↓bw];rw[hv];simp (disch:=first | omega | (simp only[JD,Ju,Je];omega)) only[↓kq,↓hqr];have e0:0+i.mul 1=i:=by rw[JN];exact Nat.mul_one i
  rw[e0]
  rw[gY (show notB false=true from rfl),gY (show beq (lenF [Value.int IntKind.u8 (Int.ofNat x)]) 1=true from rfl),gY (show ble 0 i=true from aM (JY i)),gY (show ble (i.add 1) m=true from aM (by simp only[JD];omega)),
   gY (show ble m 1000000000=true from aM (by omega)),gY (show allF (λv=>cell1F v) [Value.int IntKind.u8 (Int.ofNat x)]=true from rfl),aD]
  simp (disch:=first | omega | (simp only[JD,Ju,Je];omega)) only[↓dr dN];exact key
def Ij (n:Nat) {h:H} {qb e m cap bb ob eb mb fzb x:Nat} {op opb rob:Bool} {c cb:T Value} (hne:bb≠qb) (hqb:qb<=1000000000) (hob:ob<mb) (hv:getF cb ob=.int .u8 (.ofNat x)) (hm:m+2<=1000000)
  (hq:hget h qb=.row e m op false 0 c) (hb:hget h bb=.row eb mb opb rob fzb cb) (k:Value->H->R):
  ar EE KK (n+1) 269 [.slice (some ⟨qb,0,none⟩) m cap,.pointer (some ⟨bb,ob,none⟩)] h k=k (.tuple ⟨[]⟩) (sv qb e m op (.int .u8 (.ofNat x)) m 0 c h):=by
 rw[bX,D9];unfold GP;simp (disch:=omega) only[↓ah,↓bp];exact Ka (λ_ h=>k (.tuple ⟨[]⟩) h) hne hqb hob hv (by omega) m 0 cM c h (by omega) (by unfold cM;omega) hq hb
def DU (v:Value):∀(d i:Nat) (c:T Value) (j:Nat),i+d<=1000000->getF (A5 v d i c) j=if i<=j/\j<i+d then v else getF c j:=by
 intro d
 induction d with
 | zero=>intro i c j _;rw[if_neg (by omega)];rfl
 | succ d ih=>
  intro i c j hi;show getF (A5 v d (i+1) (dW 40 c i v)) j=_;rw[ih _ _ _ (by omega)];by_cases h1:i+1<=j/\j<i+1+d
  ·rw[if_pos h1,if_pos (by omega)]
  ·rw[if_neg h1,jw _ _ _ _ (by omega)];by_cases h2:j=i
   ·rw[if_pos h2,if_pos (by omega)]
   ·rw[if_neg h2,if_neg (by omega)]
def Db {qb e m:Nat} {op:Bool} {v:Value} (hqb:qb<=1000000000):∀(d i:Nat) (c:T Value) (h:H),hget h qb=.row e m op false 0 c ->
  (sv qb e m op v d i c h).next=h.next/\hget (sv qb e m op v d i c h) qb=.row e m op false 0 (A5 v d i c)/\∀j,j≠qb->hget (sv qb e m op v d i c h) j=hget h j:=by
 intro d
 induction d with
 | zero=>intro i c h hq;exact⟨rfl,hq,λ_ _=>rfl⟩
 | succ d ih=> intro i c h hq;obtain⟨h1,h2,h3⟩:=ih (i+1) (dW 40 c i v) (hset h qb (.row e m op false 0 (dW 40 c i v))) (bj _ _ _ hqb);exact⟨h1,h2,λj hj=>(h3 j hj).trans (by rw[bS _ _ _ _ hqb,if_neg hj])⟩
def tZ (a b:AO):Prop:=a=b \/ ∃e n op ro fz c c',a=.row e n op ro fz c/\b=.row e n op ro fz c'/\∀i,i<n->c.get i=c'.get i
def tZ.live {a b:AO} (h:tZ a b):live b=live a:=by rcases h with rfl | ⟨e,n,op,ro,fz,c,c',rfl,rfl,_⟩ <;> rfl
def tZ.wr {a b:AO} (h:tZ a b):wr b=wr a:=by rcases h with rfl | ⟨e,n,op,ro,fz,c,c',rfl,rfl,_⟩ <;> rfl
def tZ.orel {P:Program} {ρ:Ren} {w:World} {p:Nat × Nat} {a b:AO} (h:tZ a b) (ho:eV P ρ w p a):eV P ρ w p b:=by
 rcases h with rfl | ⟨e,n,op,ro,fz,c,c',rfl,rfl,hc⟩
 ·exact ho
 ·obtain⟨cs,fr,h1,h2,h3,h4,h5,h6⟩:=ho;exact⟨cs,fr,h1,h2,h3,h4,λi hi=>by rw[<-hc i hi];exact h5 i hi,h6⟩
def Step.heq {P:Program} {ρ ρ':Ren} {h h1 h2:H} {w w':World} (s:Step P ρ h w ρ' h1 w') (hn:h2.next=h1.next) (he:∀id,tZ (h1.objs.get id) (h2.objs.get id)) (hm:∀id,id<h.next->ρ id=none->h2.objs.get id=h1.objs.get id):Step P ρ h w ρ' h2 w' where
 ext:=s.ext
 old:=s.old
 next:=by rw[hn];exact s.next
 keep:=λid hl hr=>(hm id hl hr).trans (s.keep id hl hr)
 rel:=
  {dom:=λid p e=>by rw[hn];exact s.rel.dom id p e
   inj:=λi j p q e1 e2 l1 l2 e=>s.rel.inj i j p q e1 e2 (by rw[<-(he i).live];exact l1) (by rw[<-(he j).live];exact l2) e
   obj:=λid p e=>(he id).orel (s.rel.obj id p e)
   small:=λid l=>s.rel.small id (by rw[<-(he id).live];exact l)
   fresh:=λid l=>by
    have:=s.rel.fresh id (by rw[<-hn];exact l);rcases he id with e | ⟨e,n,op,ro,fz,c,c',e1,_⟩
    ·rw[<-e];exact this
    ·rw[this] at e1;exact nomatch e1
   glob:=s.rel.glob
   inside:=λid p e l=>s.rel.inside id p e (by rw[<-(he id).live];exact l) }
 same:=s.same
 own:=λb ⟨id,p,e1,e2,l⟩ hb=>s.own b ⟨id,p,e1,e2,by rw[<-(he id).wr];exact l⟩ hb
 size:=s.size
 tape:=s.tape
 os:=s.os
 output:=s.output
def dL.heq {P:Program} {ρ:Ren} {h h1 h2:H} {w:World} {f:FuncId} {args':List Value} {v:Value} (c:dL P ρ h w f args' v h1) (hn:h2.next=h1.next) (he:∀id,tZ (h1.objs.get id) (h2.objs.get id)) (hm:∀id,id<h.next->ρ id=none->h2.objs.get id=h1.objs.get id):dL P ρ h w f args' v h2:=by
 rcases c with ⟨v',ρ',w',q1,q2,q3⟩ | ⟨fn,q1,q2,q3,q4⟩
 ·exact .inl ⟨v',ρ',w',q1,q2,q3.heq hn he hm⟩
 ·refine .inr ⟨fn,q1,q2,q3,q4.mono λe w' hq=>?_⟩;obtain⟨ρ',v',e1,e2,e3⟩:=hq;exact⟨ρ',v',e1,e2,e3.heq hn he hm⟩
def UQ (args:List Value) (h:H):R:=
 nthF 0 args λv0=>nthF 1 args λv1=>ifB (beq (lenF args) 2) (onSl v0 none λad m _=>mE ad λqb qo=>ifB (beq qo 0) (
 onPtr v1 λad1=>mE ad1 λbb ob=>onRow (hget h bb) λ_ mb _ _ _ cb=>ifB (ble (Nat.succ ob) mb) (rN (getF cb ob) λx=>
 onRow (hget h qb) λe m' op ro fz c=>ifB (notB ro) (ifB (beq fz 0) (ifB (beq m m') (ifB (ble (Nat.add m 2) 1000000) (ifB (ble qb 1000000000) (ifB (notB (beq bb qb))
 (letH (hset h qb (.row e m' op false 0 (.c (.int .u8 (.ofNat x))))) λh'=>some (.tuple ⟨[]⟩,h'))))))))))
def HR (args:List Value) (h:H):Option (Value × H):=
 match UQ args h with
 | some r=>some r
 | none=>ar EE KK 100 269 args h (λv h=>some (v,h))
def sK {args:List Value} {v0 v1:Value} (h0:args[0]?=some v0) (h1:args[1]?=some v1) (hl:args.length=2):args=[v0,v1]:=by
 match args,hl with
 | [a,b],_=>simp at h0 h1;rw[h0,h1]
def Jg {P:Program} (hE:gp P EE ce):dC P 269 HR:=by
 intro ρ h w args args' v h' hr ha he;unfold HR at he;split at he
 ·rename_i r hq;cases he;unfold UQ at hq;obtain⟨v0,e0,hq⟩:=aQ hq;obtain⟨v1,e1,hq⟩:=aQ hq;obtain⟨hl,hq⟩:=ai hq;have hl:=I8 hl;rw[dh] at hl;have hargs:=sK e0 e1 hl;obtain⟨ad,m,cap,ev0,hq⟩:=fN hq;obtain⟨qb,qo,ed,hq⟩:=dS hq;obtain⟨q0,hq⟩:=ai hq;rw[ed,I8 q0] at ev0;obtain⟨ad1,ev1,hq⟩:=cO hq;obtain⟨bb,ob,ed1,hq⟩:=dS hq;rw[ed1] at ev1;obtain⟨eb,mb,opb,rob,fzb,cb,hb,hq⟩:=cJ hq;obtain⟨q1,hq⟩:=ai hq;obtain⟨x,hv,hq⟩:=jt hq;obtain⟨e,m',op,ro,fz,c,hqb,hq⟩:=cJ hq;obtain⟨q2,hq⟩:=ai hq;obtain⟨q3,hq⟩:=ai hq;obtain⟨q4,hq⟩:=ai hq;obtain⟨q5,hq⟩:=ai hq;obtain⟨q6,hq⟩:=ai hq;obtain⟨q7,hq⟩:=ai hq;rw[aD] at hq;have q1:=I7 q1;have q2:ro=false:=by cases ro <;> first | rfl | exact nomatch q2
  have q3:=I8 q3;have q4:=I8 q4;have q5:m+2<=1000000:=I7 q5;have q6:=I7 q6;have q7:bb≠qb:=by intro e;rw[e,JQ] at q7;exact nomatch q7
  rw[q2,q3,<-q4] at hqb;rw[<-q4] at hq;have hq:=JJ hq;cases hq;obtain⟨g1,g2,g3⟩:=Db (v:=.int .u8 (.ofNat x)) q6 m 0 c h hqb;have hk:=Ij 0 (cap:=cap) q7 q6 q1 hv q5 hqb hb (λv h=>some (v,h));rw[<-ev0,<-ev1,<-hargs] at hk;obtain⟨N,v2,h3,hc,he⟩:=F.dp hk;cases he;have hro:∀id,ρ id=none->id≠qb:=by
   intro id h0 e;subst e;rw[hargs,ev0] at ha
   match args',ha with
   | a :: _,⟨h1,_⟩=> obtain⟨p,h2,_⟩:=h1.slice (.inr (.inr rfl));rw[h0] at h2;exact nomatch h2
  refine (sound hE N 269 args h _ _ hc ρ w args' hr ha).heq ?_ (λid=>?_) (λid _ h0=>?_)
  ·rw[g1];rfl
  ·rw[<-bv,<-bv];by_cases e:id=qb
   ·subst e;rw[g2,bj _ _ _ q6];refine .inr ⟨_,_,_,_,_,_,_,rfl,rfl,λi hi=>?_⟩;rw[<-bI,<-bI,DU _ _ _ _ _ (by omega),if_pos (by omega)];rfl
   ·rw[g3 id e,bS _ _ _ _ q6,if_neg e];exact .inl rfl
  ·have e:=hro id h0;rw[<-bv,<-bv,g3 id e,bS _ _ _ _ q6,if_neg e]
 ·obtain⟨N,v2,h3,hv,he⟩:=F.dp he;cases he;exact sound hE N 269 args h _ _ hv ρ w args' hr ha
def yb {E:Env} {ty e s:TypeId} {cx cy:Bool} {ad:Addr} {k:Value->R} (hE:E.und ty=some (.pointer e)) (hs:E.size e=some (s+1)):binR (binC E .neq ty cx cy) (.pointer (some ad)) (.pointer (some ad)) k=k (.bool false):=by
 have hb:ij E .neq ty cx cy (.pointer (some ad)) (.pointer (some ad))=some (.bool false):=by simp only[ij,F2,hE,hs,JQ,Jo,Bool.not_true]
 unfold binR binC;rw[hE];show bindO (ij E .neq ty cx cy (.pointer (some ad)) (.pointer (some ad))) k=_;rw[hb];rfl
def Dz (n:Nat) {h:H} {bb:Nat} {c:T Value} (hb:hget h bb=.row 44 2 false false 0 c) (h0:getF c 0=.pointer (some ⟨bb,0,none⟩)):
  ∀k:Value->H->R,ar EE KK (n+2) 27 [.pointer (some ⟨bb,0,none⟩)] h k=k (.tuple ⟨[]⟩) h:=by
 intro k;have hbr:∀k,onRow (hget h bb) k=k 44 2 false false 0 c:=λk=>by rw[hb];rfl
 have e1:∀cx cy k,binR (binC EE .eql 41 cx cy) (getF c 0) (.pointer none) k=k (.bool false):=λcx cy k=>by rw[h0];exact kX ry
 have e2:∀cx cy k,binR (binC EE .neq 41 cx cy) (getF c 0) (.pointer (some ⟨bb,0,none⟩)) k=k (.bool false):=λcx cy k=>by rw[h0];exact yb ry uE
 rw[bX,yr];unfold Iw;simp (disch:=first | omega | (simp only[JD,Ju,Je];omega)) only[↓aR,↓au,↓hbr,↓aj,↓e1,↓e2,↓ah,↓ax]
def zU {E:Env} {t e:Nat} {i:TypeInfo} {z:Value} {h:H} {sb n1 b o m c e' n fz:Nat} {op ro:Bool} {cs cq:T Value} (hE:E.und t=some (.slice e)) (hi:E.info e=some i) (hz:cK E e=some [z]) (hsz:i.size=1) (hb:i.bytes=1)
  (hs:hget h sb=.row e n1 true false 0 cs) (hr:hget h b=.row e' n op ro fz cq) (hm:1<=m) (hon:o+m<=n) (hm2:n1+m<=100000) (hroom:h.next<=1000000000) (hc:(ae cq m o).all cell1=true):
  ba E h .append [.slice (some ⟨sb,0,none⟩) n1 (2*n1+1),.slice (some ⟨b,o,none⟩) m c] [t,t]=some (.slice (some ⟨h.next,0,none⟩) (n1+m) (2*(n1+m)+1),ag (hset h sb .dead) (.row e (n1+m) true false 0 (putCells cs n1 (ae cq m o)))):=by
 rw[bv] at hr hs;have g1:ble (o+m) n=true:=aM hon;have g2:ble ((n1+m)*2) 1000000000=true:=aM (by omega);have g3:ble (n1+m) 1000000000=true:=aM (by omega);have e0:(2*n1+1) / 2=n1:=by omega
 have e1:(2*n1+1)%2=1:=by omega
 have g4:ble (n1+m) n1=false:=dt (by omega);have g5:beq 1 0=false:=rfl;have g6:ble 0 n1=true:=aM (by omega);have h5:room h=true:=aM hroom;rw[cY,fi];rw[dK] at hc ⊢;simp only[ba,Option.isSome_none,io,hE,eT,hi,hz,hsz,hb,jl,JP,ja,lE,hr,hs,Jz,Kl,JN,Nat.mul_one,g1,Jo,g2,g3,g4,Nat.reduceAdd,e0,e1,g5,JQ,Bool.and_self,hc,g6,h5,Bool.not_false]
def Ab (n:Nat) {h:H} {bb qb o m cap e' nq fz sb n1:Nat} {op ro:Bool} {c cq cs:T Value} (hb:hget h bb=.row 44 2 false false 0 c) (h0:getF c 0=.pointer (some ⟨bb,0,none⟩)) (h1:getF c 1=.slice (some ⟨sb,0,none⟩) n1 (2*n1+1)) (hbb:bb<h.next)
  (hs:hget h sb=.row 5 n1 true false 0 cs) (hsb:sb<h.next) (hq:hget h qb=.row e' nq op ro fz cq)
  (hm:1<=m) (hon:o+m<=nq) (hm2:n1+m<=100000) (hroom:h.next<=1000000000) (hc:(ae cq m o).all cell1=true):
  ∀k:Value->H->R,ar EE KK (n+3) 309 [.pointer (some ⟨bb,0,none⟩),.slice (some ⟨qb,o,none⟩) m cap] h k=k (.tuple ⟨[.int .i64 (.ofNat m),.nilIface]⟩)
   (hset (ag (hset h sb .dead) (.row 5 (n1+m) true false 0 (putCells cs n1 (ae cq m o)))) bb (.row 44 2 false false 0 (dW 40 c 1 (.slice (some ⟨h.next,0,none⟩) (n1+m) (2*(n1+m)+1))))):=by
 intro k;have hne:bb≠sb:=by intro e;subst e;rw[hb] at hs;cases hs
 have ha:=zU (t:=42) (c:=cap) BA i5 z5 i5s i5b hs hq hm hon hm2 hroom hc;have hbr:∀k,onRow (hget h bb) k=k 44 2 false false 0 c:=λk=>by rw[hb];rfl
 have hgb2:hget (ag (hset h sb .dead) (.row 5 (n1+m) true false 0 (putCells cs n1 (ae cq m o)))) bb=.row 44 2 false false 0 c:=by rw[bN _ _ (by rw[jD];exact hroom) (by rw[jD];exact hbb),bS _ _ _ _ (by omega),if_neg hne,hb]
 rw[bX,p8];unfold AG;simp (disch:=first | omega | (simp only[JD,Ju,Je];omega)) only[↓Dz n hb h0,↓aR,↓au,↓hbr,↓aj];rw[show Nat.add 0 1=1 from rfl,h1,ha];simp (disch:=first | omega | (simp only[JD,Ju,Je];omega)) only[↓kF,↓aR,↓au,↓ma];rw[hgb2];simp only[aD];rfl
def xv {E:Env} {t t2 e:Nat} {h:H} {b m:Nat} {cs:T Value} {s:List UInt8} (hE:E.und t=some (.pointer e)) (hs:E.size e=some 1)
  (hr:hget h b=.row e m true false 0 cs) (hm:1<=m) (hm2:m<=100000) (hb:cT (bq cs 0 m)=some s):
  ba E h .unsafeString [.pointer (some ⟨b,0,none⟩),.int .i64 (.ofNat m)] [t,t2]=some (.string ⟨⟨s⟩⟩,hset h b (.row e m true false m cs)):=by
 rw[bv] at hr;obtain⟨n,rfl⟩:∃n,m=n+1:=⟨m-1,by omega⟩;have g1:ble (n+1) (n+1)=true:=aM (Jd _);have g2:ble n 1000000000=true:=aM (by omega);have g3:ble 0 (n+1)=true:=aM (by omega);rw[fi];simp only[ba,Option.isSome_none,hE,hr,hs,JQ,g1,g2,g3,Bool.and_self,Jo,hb]
def xU (n:Nat) {h:H} {bb sb m:Nat} {c cs:T Value} {s:List UInt8} (hb:hget h bb=.row 44 2 false false 0 c) (h1:getF c 1=.slice (some ⟨sb,0,none⟩) m (2*m+1)) (hs:hget h sb=.row 5 m true false 0 cs)
  (hm:1<=m) (hm2:m<=100000) (hby:cT (bq cs 0 m)=some s) (hroom:h.next<=1000000000):
  ∀k:Value->H->R,ar EE KK (n+1) 17 [.pointer (some ⟨bb,0,none⟩)] h k=k (.string ⟨⟨s⟩⟩) (hset h sb (.row 5 m true false m cs)):=by
 intro k;have hbr:∀k,onRow (hget h bb) k=k 44 2 false false 0 c:=λk=>by rw[hb];rfl
 have hh:(H.mk (Nat.add h.1 0) h.2)=h:=by cases h;rfl
 rw[bX,xD];unfold HY;rw[hh];simp (disch:=first | omega | (simp only[JD,Ju,Je];omega)) only[↓aj,↓aD,↓aR,↓au,↓hbr];rw[show Nat.add 0 1=1 from rfl,h1,lR (by omega)];simp (disch:=first | omega | (simp only[JD,Ju,Je];omega)) only[↓aK,↓aR,↓au,↓hbr,↓aj];simp (disch:=first | omega | (simp only[JD,Ju,Je];omega)) only[↓bp];rw[xv F1 Av hs hm hm2 hby];rfl
def zo (n:Nat) {h:H} {bb qb o m cap e' nq fz:Nat} {op ro:Bool} {c cq:T Value} (hb:hget h bb=.row 44 2 false false 0 c) (h0:getF c 0=.pointer none) (h1:getF c 1=.slice none 0 0) (hbb:bb<h.next) (hq:hget h qb=.row e' nq op ro fz cq) (hqb:qb<bb)
  (hm:1<=m) (hon:o+m<=nq) (hm2:m<=100000) (hroom:h.next<=1000000000):
  ∀k:Value->H->R,ar EE KK (n+3) 309 [.pointer (some ⟨bb,0,none⟩),.slice (some ⟨qb,o,none⟩) m cap] h k=k (.tuple ⟨[.int .i64 (.ofNat m),.nilIface]⟩)
   (hset (ag (hset h bb (.row 44 2 false false 0 (dW 40 c 0 (.pointer (some ⟨bb,0,none⟩))))) (.row 5 m true false 0 (T.ofList unk (ae cq m o)))) bb (.row 44 2 false false 0 (dW 40 (dW 40 c 0 (.pointer (some ⟨bb,0,none⟩))) 1 (.slice (some ⟨h.next,0,none⟩) m (2*m+1))))):=by
 have hgq:hget (hset h bb (.row 44 2 false false 0 (dW 40 c 0 (.pointer (some ⟨bb,0,none⟩))))) qb=.row e' nq op ro fz cq:=by rw[eS _ _ (by omega) hqb,hq]
 have hgb:hget (hset h bb (.row 44 2 false false 0 (dW 40 c 0 (.pointer (some ⟨bb,0,none⟩))))) bb=.row 44 2 false false 0 (dW 40 c 0 (.pointer (some ⟨bb,0,none⟩))):=bj _ _ _ (by omega);have hc1:getF (dW 40 c 0 (.pointer (some ⟨bb,0,none⟩))) 1=.slice none 0 0:=by rw[jw _ _ _ _ (by omega),if_neg (by omega),h1]
 have ha:=append_nil (t:=42) (c:=cap) BA i5 z5 i5s i5b hgq hm hon hm2 (by rw[jD];exact hroom);have hnx:(hset h bb (.row 44 2 false false 0 (dW 40 c 0 (.pointer (some ⟨bb,0,none⟩))))).next=h.next:=rfl;rw[hnx] at ha;have hgb2:hget (ag (hset h bb (.row 44 2 false false 0 (dW 40 c 0 (.pointer (some ⟨bb,0,none⟩))))) (.row 5 m true false 0 (T.ofList unk (ae cq m o)))) bb=.row 44 2 false false 0 (dW 40 c 0 (.pointer (some ⟨bb,0,none⟩))):=by rw[bN _ _ (by rw[hnx];exact hroom) (by rw[hnx];exact hbb),hgb]
 intro k;have hbr:∀k,onRow (hget (hset h bb (.row 44 2 false false 0 (dW 40 c 0 (.pointer (some ⟨bb,0,none⟩))))) bb) k=k 44 2 false false 0 (dW 40 c 0 (.pointer (some ⟨bb,0,none⟩))):=λk=>by rw[hgb];rfl
 rw[bX,p8];unfold AG;simp (disch:=first | omega | (simp only[JD,Ju,Je];omega)) only[↓wj n hb h0 (by omega),↓aR,↓au,↓hbr,↓aj];rw[show Nat.add 0 1=1 from rfl,hc1,ha];simp (disch:=first | omega | (simp only[JD,Ju,Je];omega)) only[↓kF,↓aR,↓au,↓ma];rw[hgb2];simp only[aD];rfl
def Cb (t:T Value) (k:Nat->R):R:=T.rec (motive:=λ_=>R) (λv=>rN v λx=>ifB (ble x 255) (k x)) (λ_ _ _ _ _=>none) t
def mf {t:T Value} {k:Nat->R} {r} (h:Cb t k=some r):∃x,t=.c (.int .u8 (.ofNat x))/\x<=255/\k x=some r:=by
 cases t with
 | c v=> have h:(rN v λx=>ifB (ble x 255) (k x))=some r:=h;obtain⟨x,rfl,h⟩:=jt h;obtain⟨hb,h⟩:=ai h;exact⟨x,rfl,I7 hb,h⟩
 | n l v r=>exact nomatch h
def Gr (v:Value) (k:R):R:=match v with
 |.pointer none=>k
 | _=>none
def zX {v:Value} {k:R} {r} (h:Gr v k=some r):v=.pointer none/\k=some r:=by
 unfold Gr at h;split at h
 ·exact⟨rfl,h⟩
 ·exact nomatch h
def zg (v:Value) (k:R):R:=match v with
 |.slice none 0 0=>k
 | _=>none
def wz {v:Value} {k:R} {r} (h:zg v k=some r):v=.slice none 0 0/\k=some r:=by
 unfold zg at h;split at h
 ·exact⟨rfl,h⟩
 ·exact nomatch h
def pB (v:Value):∀m o,ae (.c v) m o=List.replicate m v
 | 0,_=>rfl
 | m+1,o=>by rw[iU,pB v m (o+1)];rfl
def MG (args:List Value) (h:H) (k:Nat->Nat->Nat->Nat->Nat->T Value->R):R:=
 nthF 0 args λv0=>nthF 1 args λv1=>ifB (beq (lenF args) 2) (onPtr v0 λad=>mE ad λbb bo=>ifB (beq bo 0) (
 onSl v1 none λaq m _=>mE aq λqb o=>ifB (ble 41 m) (onRow (hget h qb) λ_ nq _ _ _ cq=>Cb cq λx=>ifB (ble (Nat.add o m) nq) (ifB (ble (Nat.succ bb) h.1) (ifB (ble h.1 1000000000) (
 onRow (hget h bb) λe n op ro fz c=>ifB (beq e 44) (ifB (beq n 2) (ifB (notB op) (ifB (notB ro) (ifB (beq fz 0) (k bb qb o m x c)))))))))))
def sS {args:List Value} {h:H} {k:Nat->Nat->Nat->Nat->Nat->T Value->R} {r} (hq:MG args h k=some r):
  ∃bb qb o m x c cap eq nq opq roq fzq,args=[.pointer (some ⟨bb,0,none⟩),.slice (some ⟨qb,o,none⟩) m cap]/\41<=m/\hget h qb=.row eq nq opq roq fzq (.c (.int .u8 (.ofNat x)))/\x<=255/\o+m<=nq/\bb<h.next/\h.next<=1000000000 /\
   hget h bb=.row 44 2 false false 0 c/\k bb qb o m x c=some r:=by
 unfold MG at hq;obtain⟨v0,e0,hq⟩:=aQ hq;obtain⟨v1,e1,hq⟩:=aQ hq;obtain⟨hl,hq⟩:=ai hq;have hl:=I8 hl;rw[dh] at hl;have hargs:=sK e0 e1 hl;obtain⟨ad,ev0,hq⟩:=cO hq;obtain⟨bb,bo,ed,hq⟩:=dS hq;obtain⟨q0,hq⟩:=ai hq;rw[ed,I8 q0] at ev0;obtain⟨aq,m,cap,ev1,hq⟩:=fN hq;obtain⟨qb,o,ed1,hq⟩:=dS hq;rw[ed1] at ev1;obtain⟨q1,hq⟩:=ai hq;obtain⟨eq,nq,opq,roq,fzq,cq,hqb,hq⟩:=cJ hq;obtain⟨x,ec,hx,hq⟩:=mf hq;rw[ec] at hqb;obtain⟨q2,hq⟩:=ai hq;obtain⟨q3,hq⟩:=ai hq;obtain⟨q4,hq⟩:=ai hq;obtain⟨e,n,op,ro,fz,c,hb,hq⟩:=cJ hq;obtain⟨q5,hq⟩:=ai hq;obtain⟨q6,hq⟩:=ai hq;obtain⟨q7,hq⟩:=ai hq;obtain⟨q8,hq⟩:=ai hq;obtain⟨q9,hq⟩:=ai hq;have q7:op=false:=by cases op <;> first | rfl | exact nomatch q7
 have q8:ro=false:=by cases ro <;> first | rfl | exact nomatch q8
 rw[I8 q5,I8 q6,q7,q8,I8 q9] at hb;exact⟨bb,qb,o,m,x,c,cap,eq,nq,opq,roq,fzq,by rw[hargs,ev0,ev1],I7 q1,hqb,hx,I7 q2,I7 q3,I7 q4,hb,hq⟩
def FM (args:List Value) (h:H):R:=
 MG args h λbb qb o m x c=>Gr (getF c 0) (zg (getF c 1) (ifB (ble m 100000) (ifB (ble (Nat.succ qb) bb) (
  letH (ag (hset h bb (.row 44 2 false false 0 (dW 40 c 0 (.pointer (some ⟨bb,0,none⟩))))) (.row 5 m true false 0 (.c (.int .u8 (.ofNat x))))) λh1=>
  letH (hset h1 bb (.row 44 2 false false 0 (dW 40 (dW 40 c 0 (.pointer (some ⟨bb,0,none⟩))) 1 (.slice (some ⟨h.1,0,none⟩) m (2*m+1))))) λh2=>some (.tuple ⟨[.int .i64 (.ofNat m),.nilIface]⟩,h2)))))
def Gs (args:List Value) (h:H):R:=
 MG args h λbb qb o m x c=>onPtr (getF c 0) λad=>mE ad λb2 o2=>ifB (beq b2 bb) (ifB (beq o2 0) (onSl (getF c 1) none λaS n1 c1=>mE aS λsb so=>ifB (beq so 0) (ifB (beq c1 (Nat.add (Nat.mul 2 n1) 1)) (ifB (ble (Nat.add n1 m) 100000) (ifB (ble (Nat.succ sb) h.1) (
  onRow (hget h sb) λe n op ro fz cs=>ifB (beq e 5) (ifB (beq n n1) (ifB op (ifB (notB ro) (ifB (beq fz 0) (Cb cs λx'=>ifB (beq x' x) (
  letH (ag (hset h sb .dead) (.row 5 (n1+m) true false 0 (.c (.int .u8 (.ofNat x))))) λh1=>
  letH (hset h1 bb (.row 44 2 false false 0 (dW 40 c 1 (.slice (some ⟨h.1,0,none⟩) (n1+m) (2*(n1+m)+1))))) λh2=>some (.tuple ⟨[.int .i64 (.ofNat m),.nilIface]⟩,h2)))))))))))))
def zp (args:List Value) (h:H):Option (Value × H):=
 match FM args h with
 | some r=>some r
 | none=>match Gs args h with
  | some r=>some r
  | none=>ar EE KK 100 309 args h (λv h=>some (v,h))
def K3 (x m o:Nat):(ae (.c (.int .u8 (.ofNat x))) m o).all cell1=true:=by rw[pB];exact Jv.2 λv hv=>by rw[List.eq_of_mem_replicate hv];rfl
def wB {h:H} {bb n:Nat} {c1 c2:T Value} {o:AO} (hn:h.next<=1000000000) (hb:bb<=1000000000) (hc:∀i,i<n->c1.get i=c2.get i) (e:Nat) (op ro:Bool) (fz:Nat) (id:Nat):
  tZ ((hset (ag h (.row e n op ro fz c1)) bb o).objs.get id) ((hset (ag h (.row e n op ro fz c2)) bb o).objs.get id):=by
 rw[<-bv,<-bv,bS _ _ _ _ hb,bS _ _ _ _ hb];by_cases e1:id=bb
 ·rw[if_pos e1,if_pos e1];exact .inl rfl
 ·rw[if_neg e1,if_neg e1,kD _ _ _ hn,kD _ _ _ hn];by_cases e2:id=h.next
  ·rw[if_pos e2,if_pos e2];exact .inr ⟨_,_,_,_,_,_,_,rfl,rfl,hc⟩
  ·rw[if_neg e2,if_neg e2];exact .inl rfl
def By {h:H} {bb:Nat} {o1 o2 o:AO} (hn:h.next<=1000000000) (hb:bb<=1000000000) (id:Nat) (hid:id<h.next):
  (hset (ag h o2) bb o).objs.get id=(hset (ag h o1) bb o).objs.get id:=by
 rw[<-bv,<-bv,bS _ _ _ _ hb,bS _ _ _ _ hb];by_cases e1:id=bb
 ·rw[if_pos e1,if_pos e1]
 ·rw[if_neg e1,if_neg e1,bN _ _ hn hid,bN _ _ hn hid]
def C3 {P:Program} (hE:gp P EE ce):dC P 309 zp:=by
 intro ρ h w args args' v h' hr ha he;unfold zp at he;split at he
 ·rename_i r hq;cases he;unfold FM at hq;obtain⟨bb,qb,o,m,x,c,cap,eq,nq,opq,roq,fzq,hargs,hm,hqb,hx,hon,hbb,hroom,hb,hq⟩:=sS hq;obtain⟨c0,hq⟩:=zX hq;obtain⟨c1,hq⟩:=wz hq;obtain⟨q1,hq⟩:=ai hq;obtain⟨q2,hq⟩:=ai hq;rw[aD,aD] at hq;have q1:=I7 q1;have q2:qb<bb:=I7 q2;have hq:=JJ hq;cases hq;have hk:=zo 0 (cap:=cap) hb c0 c1 hbb hqb q2 (by omega) hon q1 hroom (λv h=>some (v,h));rw[<-hargs] at hk;obtain⟨N,v2,h3,hc,he⟩:=F.dp hk;cases he;refine (sound hE N 309 args h _ _ hc ρ w args' hr ha).heq rfl (λid=>wB (h:=hset h bb (.row 44 2 false false 0 (dW 40 c 0 (.pointer (some ⟨bb,0,none⟩))))) hroom (by omega) (λi hi=>?_) _ _ _ _ _) (λid hl h0=>By (h:=hset h bb (.row 44 2 false false 0 (dW 40 c 0 (.pointer (some ⟨bb,0,none⟩))))) hroom (by omega) id hl);rw[pB,T.get_ofList];have hi:i<m:=hi;simp[hi,T.get]
 ·split at he
  ·rename_i r hq;cases he;unfold Gs at hq;obtain⟨bb,qb,o,m,x,c,cap,eq,nq,opq,roq,fzq,hargs,hm,hqb,hx,hon,hbb,hroom,hb,hq⟩:=sS hq;obtain⟨ad,c0,hq⟩:=cO hq;obtain⟨b2,o2,ed,hq⟩:=dS hq;obtain⟨q1,hq⟩:=ai hq;obtain⟨q2,hq⟩:=ai hq;rw[ed,I8 q1,I8 q2] at c0;obtain⟨aS,n1,cc,c1,hq⟩:=fN hq;obtain⟨sb,so,ed1,hq⟩:=dS hq;obtain⟨q3,hq⟩:=ai hq;obtain⟨q4,hq⟩:=ai hq;rw[ed1,I8 q3,I8 q4] at c1;obtain⟨q5,hq⟩:=ai hq;obtain⟨q6,hq⟩:=ai hq;obtain⟨e,n,op,ro,fz,cs,hs,hq⟩:=cJ hq;obtain⟨r1,hq⟩:=ai hq;obtain⟨r2,hq⟩:=ai hq;obtain⟨r3,hq⟩:=ai hq;obtain⟨r4,hq⟩:=ai hq;obtain⟨r5,hq⟩:=ai hq;obtain⟨x',ec,_,hq⟩:=mf hq;obtain⟨r6,hq⟩:=ai hq;rw[aD,aD] at hq;have r4:ro=false:=by cases ro <;> first | rfl | exact nomatch r4
   rw[I8 r1,I8 r2,r3,r4,I8 r5,ec,I8 r6] at hs;have q5:n1+m<=100000:=I7 q5;have q6:sb<h.next:=I7 q6;have hq:=JJ hq;cases hq;have hk:=Ab 0 (cap:=cap) hb c0 c1 hbb hs q6 hqb (by omega) hon q5 hroom (K3 x m o) (λv h=>some (v,h));rw[<-hargs] at hk;obtain⟨N,v2,h3,hc,he⟩:=F.dp hk;cases he;refine (sound hE N 309 args h _ _ hc ρ w args' hr ha).heq rfl (λid=>wB (h:=hset h sb .dead) hroom (by omega) (λi hi=>?_) _ _ _ _ _) (λid hl h0=>By (h:=hset h sb .dead) hroom (by omega) id hl);rw[pB,bJ _ _ _ (by simp;omega)];simp only[List.length_replicate];split
   ·rename_i hh;have:i-n1<m:=by omega
    simp[List.getD,this,T.get]
   ·rfl
  ·obtain⟨N,v2,h3,hv,he⟩:=F.dp he;cases he;exact sound hE N 309 args h _ _ hv ρ w args' hr ha
def Bw (args:List Value) (h:H):R:=
 nthF 0 args λv0=>ifB (beq (lenF args) 1) (onPtr v0 λad=>mE ad λbb bo=>ifB (beq bo 0) (ifB (ble h.1 1000000000) (
 onRow (hget h bb) λe n op ro fz c=>ifB (beq e 44) (ifB (beq n 2) (ifB (notB op) (ifB (notB ro) (ifB (beq fz 0) (
 onSl (getF c 1) none λaS m c1=>mE aS λsb so=>ifB (beq so 0) (ifB (beq c1 (Nat.add (Nat.mul 2 m) 1)) (ifB (ble 41 m) (ifB (ble m 100000) (
 onRow (hget h sb) λe n op ro fz cs=>ifB (beq e 5) (ifB (beq n m) (ifB op (ifB (notB ro) (ifB (beq fz 0) (Cb cs λx=>letH (hset h sb (.row 5 m true false m cs)) λh2=>some (unk,h2))))))))))))))))))
def uA (args:List Value) (h:H):Option (Value × H):=
 match Bw args h with
 | some r=>some r
 | none=>ar EE KK 100 17 args h (λv h=>some (v,h))
def yH {P:Program} (hE:gp P EE ce):dC P 17 uA:=by
 intro ρ h w args args' v h' hr ha he;unfold uA at he;split at he
 ·rename_i r hq;cases he;unfold Bw at hq;obtain⟨v0,e0,hq⟩:=aQ hq;obtain⟨hl,hq⟩:=ai hq;have hl:=I8 hl;rw[dh] at hl;have hargs:args=[v0]:=by
   match args,hl with
   | [a],_=>simp at e0;rw[e0]
  obtain⟨ad,ev0,hq⟩:=cO hq;obtain⟨bb,bo,ed,hq⟩:=dS hq;obtain⟨q0,hq⟩:=ai hq;rw[ed,I8 q0] at ev0;obtain⟨hroom,hq⟩:=ai hq;obtain⟨e,n,op,ro,fz,c,hb,hq⟩:=cJ hq;obtain⟨q5,hq⟩:=ai hq;obtain⟨q6,hq⟩:=ai hq;obtain⟨q7,hq⟩:=ai hq;obtain⟨q8,hq⟩:=ai hq;obtain⟨q9,hq⟩:=ai hq;have q7:op=false:=by cases op <;> first | rfl | exact nomatch q7
  have q8:ro=false:=by cases ro <;> first | rfl | exact nomatch q8
  rw[I8 q5,I8 q6,q7,q8,I8 q9] at hb;obtain⟨aS,m,cc,c1,hq⟩:=fN hq;obtain⟨sb,so,ed1,hq⟩:=dS hq;obtain⟨q3,hq⟩:=ai hq;obtain⟨q4,hq⟩:=ai hq;rw[ed1,I8 q3,I8 q4] at c1;obtain⟨p1,hq⟩:=ai hq;obtain⟨p2,hq⟩:=ai hq;have p1:=I7 p1;have p2:=I7 p2;obtain⟨e,n,op,ro,fz,cs,hs,hq⟩:=cJ hq;obtain⟨r1,hq⟩:=ai hq;obtain⟨r2,hq⟩:=ai hq;obtain⟨r3,hq⟩:=ai hq;obtain⟨r4,hq⟩:=ai hq;obtain⟨r5,hq⟩:=ai hq;obtain⟨x,ec,hx,hq⟩:=mf hq;rw[aD] at hq;have r4:ro=false:=by cases ro <;> first | rfl | exact nomatch r4
  rw[I8 r1,I8 r2,r3,r4,I8 r5] at hs;have hq:=JJ hq;cases hq;have hB:rt cs=true:=by rw[ec];exact Js hx
  obtain⟨s,hby⟩:=jV hB m 0;rw[dK] at hby;have hk:=xU 0 hb c1 hs (by omega) p2 hby (I7 hroom) (λv h=>some (v,h));rw[<-ev0,<-hargs] at hk;obtain⟨N,v2,h3,hc,he⟩:=F.dp hk;cases he;exact (sound hE N 17 args h _ _ hc ρ w args' hr ha).weaken λρ u q=>VR.unk ρ u
 ·obtain⟨N,v2,h3,hv,he⟩:=F.dp he;cases he;exact sound hE N 17 args h _ _ hv ρ w args' hr ha
def bE (A:Addr) (at0 size:Nat):List Value:=[.pointer (some A),.int .i64 (.ofNat at0),.int .i64 (.ofNat size)]
def Dk (A:Addr) (at0 size:Nat):allF (λv=>cell1F v) (bE A at0 size)=true:=rfl
def C5 (A:Addr) (at0 size:Nat):lenF (bE A at0 size)=3:=rfl
set_option maxHeartbeats 2000000 in
def lW (n:Nat) {h:H} {A:Addr} {at0 size a m:Nat} (h1:a+m<=size) (hs:size<=4611686018427387904) (hn:h.next<=1000000000) (k:Value->H->R):
  ar EE KK (n+1) 278 [.agg ⟨bE A at0 size⟩,.int .i64 (.ofNat a),.int .i64 (.ofNat m)] h k=k (.int .i64 (.ofNat 0)) (ag h (.row 171 3 false false 0 (T.ofList unk (bE A at0 size)))):=by
 have hrow:∀k,onRow (hget (ag h (.row 171 3 false false 0 (T.ofList unk (bE A at0 size)))) h.next) k=k 171 3 false false 0 (T.ofList unk (bE A at0 size)):=λk=>by rw[az _ _ hn];rfl
 have e0:getF (T.ofList unk (bE A at0 size)) 0=.pointer (some A):=by rw[aI];rfl
 have e2:getF (T.ofList unk (bE A at0 size)) 2=.int .i64 (.ofNat size):=by rw[aI];rfl
 rw[bX,Fh];unfold Uj;simp (disch:=first | omega | (simp only[JD,Ju,Je];omega)) only[↓bP,↓Dk,↓eI,↓C5,↓aj,↓aD];rw[show Nat.add 0 2=2 from rfl];simp (disch:=first | omega | (simp only[JD,Ju,Je];omega)) only[↓aj,↓aD,↓ah,↓aE,↓hrow];rw[e0];simp (disch:=first | omega | (simp only[JD,Ju,Je];omega)) only[↓aj,↓aD,↓ah,↓aE,↓hrow,↓kX Bc,↓ax,↓cP,↓fj dN,↓au];rw[e2];simp (disch:=first | omega | (simp only[JD,Ju,Je];omega)) only[↓oO dN,↓cP,↓gK dN,↓ax]
set_option maxHeartbeats 2000000 in
def rA (n:Nat) {h:H} {A:Addr} {at0 size m:Nat} (hm:m=1 \/ m=2 \/ m=4 \/ m=8) (hn:h.next<=1000000000) (k:Value->H->R):
  ar EE KK (n+1) 277 [.agg ⟨bE A at0 size⟩,.int .i64 (.ofNat m)] h k=k (.int .i64 (.ofNat 0)) (ag h (.row 171 3 false false 0 (T.ofList unk (bE A at0 size)))):=by
 have hrow:∀k,onRow (hget (ag h (.row 171 3 false false 0 (T.ofList unk (bE A at0 size)))) h.next) k=k 171 3 false false 0 (T.ofList unk (bE A at0 size)):=λk=>by rw[az _ _ hn];rfl
 have e0:getF (T.ofList unk (bE A at0 size)) 0=.pointer (some A):=by rw[aI];rfl
 rw[bX,EO];unfold Uc;simp (disch:=first | omega | (simp only[JD,Ju,Je];omega)) only[↓bP,↓Dk,↓eI,↓C5,↓aj,↓aD,↓ah,↓hrow];rw[e0];simp (disch:=first | omega | (simp only[JD,Ju,Je];omega)) only[↓kX Bc,↓ax,↓ah];rcases hm with rfl | rfl | rfl | rfl
 ·simp (disch:=omega) only[↓xq dN,↓se dN,↓aA,↓ax,↓ah]
 ·simp (disch:=omega) only[↓xq dN,↓se dN,↓aA,↓ax,↓ah]
 ·simp (disch:=omega) only[↓xq dN,↓se dN,↓aA,↓ax,↓ah]
 ·simp (disch:=omega) only[↓xq dN,↓se dN,↓aA,↓ax,↓ah]
set_option maxHeartbeats 2000000 in
def sN (n:Nat) {h:H} {p:I4} {at0 size a m:Nat} {s:List UInt8} (h1:a+m<=size) (hs:size<=4611686018427387904) (hat:at0<=4611686018427387904) (x:qS h p (at0+a) m) (hby:cT (ae p.cq m ((at0+a)%4096))=some s) (hm:m=1 \/ m=2 \/ m=4 \/ m=8) (hroom:h.next+30<=1000000000):
  ∃h',fP h h'/\∀k:Value->H->R,ar EE KK (n+8) 288 [.agg ⟨bE ⟨p.b,0,none⟩ at0 size⟩,.int .i64 (.ofNat a),.int .i64 (.ofNat m)] h k=k (.tuple ⟨[.int .u64 (.ofNat (ldv s 0 0)),.int .i64 (.ofNat 0)]⟩) h':=by
 have o1:fP h (ag h (.row 171 3 false false 0 (T.ofList unk (bE ⟨p.b,0,none⟩ at0 size)))):=(fP.refl h).push _ (by omega);generalize hh1:ag h (.row 171 3 false false 0 (T.ofList unk (bE ⟨p.b,0,none⟩ at0 size)))=g1 at o1;have n1:g1.next=h.next+1:=by rw[<-hh1];rfl
 have o2:fP g1 (ag g1 (.row 171 3 false false 0 (T.ofList unk (bE ⟨p.b,0,none⟩ at0 size)))):=(fP.refl g1).push _ (by omega);generalize hh2:ag g1 (.row 171 3 false false 0 (T.ofList unk (bE ⟨p.b,0,none⟩ at0 size)))=g2 at o2;have n2:g2.next=h.next+2:=by rw[<-hh2,cS,n1]
 have o3:fP g2 (ag g2 (.row 171 3 false false 0 (T.ofList unk (bE ⟨p.b,0,none⟩ at0 size)))):=(fP.refl g2).push _ (by omega);generalize hh3:ag g2 (.row 171 3 false false 0 (T.ofList unk (bE ⟨p.b,0,none⟩ at0 size)))=g3 at o3;have n3:g3.next=h.next+3:=by rw[<-hh3,cS,n2]
 have r1:hget g1 h.next=.row 171 3 false false 0 (T.ofList unk (bE ⟨p.b,0,none⟩ at0 size)):=by rw[<-hh1,az _ _ (by omega)]
 have r2:hget g2 h.next=.row 171 3 false false 0 (T.ofList unk (bE ⟨p.b,0,none⟩ at0 size)):=by rw[o2.2 _ (by omega),r1]
 have r3:hget g3 h.next=.row 171 3 false false 0 (T.ofList unk (bE ⟨p.b,0,none⟩ at0 size)):=by rw[o3.2 _ (by omega),r2]
 have k1:∀k,onRow (hget g1 h.next) k=k 171 3 false false 0 (T.ofList unk (bE ⟨p.b,0,none⟩ at0 size)):=λk=>by rw[r1];rfl
 have k2:∀k,onRow (hget g2 h.next) k=k 171 3 false false 0 (T.ofList unk (bE ⟨p.b,0,none⟩ at0 size)):=λk=>by rw[r2];rfl
 have k3:∀k,onRow (hget g3 h.next) k=k 171 3 false false 0 (T.ofList unk (bE ⟨p.b,0,none⟩ at0 size)):=λk=>by rw[r3];rfl
 have e0:getF (T.ofList unk (bE ⟨p.b,0,none⟩ at0 size)) 0=.pointer (some ⟨p.b,0,none⟩):=by rw[aI];rfl
 have e1:getF (T.ofList unk (bE ⟨p.b,0,none⟩ at0 size)) 1=.int .i64 (.ofNat at0):=by rw[aI];rfl
 have ec:ae (T.ofList unk (bE ⟨p.b,0,none⟩ at0 size)) 3 0=bE ⟨p.b,0,none⟩ at0 size:=by show [getF _ 0,getF _ 1,getF _ 2]=_;rw[e0,e1,aI];rfl
 obtain⟨h',ho,hx,hl⟩:=vC n ((x.old o1).old o2 |>.old o3) hby hm (by omega);refine⟨h',o1.trans (o2.trans (o3.trans ho)),λk=>?_⟩;have w1:∀k,ar EE KK (n+7) 277 [.agg ⟨bE ⟨p.b,0,none⟩ at0 size⟩,.int .i64 (.ofNat m)] g1 k=k (.int .i64 (.ofNat 0)) g2:=λk=>by rw[rA (n+6) hm (by omega),hh2]
 have w2:∀k,ar EE KK (n+7) 278 [.agg ⟨bE ⟨p.b,0,none⟩ at0 size⟩,.int .i64 (.ofNat a),.int .i64 (.ofNat m)] g2 k=k (.int .i64 (.ofNat 0)) g3:=λk=>by rw[lW (n+6) h1 hs (by omega),hh3]
 rw[bX,Ls];unfold apR;simp (disch:=first | omega | (simp only[JD,Ju,Je];omega)) only[↓bP,↓Dk,↓eI,↓C5,↓aj,↓aD];rw[hh1];simp (disch:=first | omega | (simp only[JD,Ju,Je];omega)) only[↓k1,↓aj];rw[ec];simp (disch:=first | omega | (simp only[JD,Ju,Je];omega)) only[↓w1,↓wc wV,↓ah,↓ax,↓k2,↓aj,ec];simp (disch:=first | omega | (simp only[JD,Ju,Je];omega)) only[↓w2,↓wc wV,↓ah,↓ax,↓k3,↓aj];rw[show Nat.add 0 1=1 from rfl,e0,e1];simp (disch:=first | omega | (simp only[JD,Ju,Je];omega)) only[↓dr dN,↓hl,↓bg,↓bB,↓du];rfl
def kS (v:Value) (k:Value->Nat->Nat->R):R:=
 onCells v λl=>ifB (beq (lenF l) 3) (nthF 0 l λp=>nthF 1 l λv1=>nthF 2 l λv2=>ft v1 λat0=>ft v2 λsize=>ifB (ble size 4611686018427387904) (ifB (ble at0 4611686018427387904) (k p at0 size)))
def ajt {v:Value} {l:List Value} (h:cellsOfV v=l) (hl:l.length=3):v=.agg ⟨l⟩:=by cases v <;> simp only[cellsOfV] at h <;> first | (subst h;rfl) | (subst h;simp at hl)
def fR {v:Value} {k:Value->Nat->Nat->R} {r} (h:kS v k=some r):
  ∃p at0 size,v=.agg ⟨[p,.int .i64 (.ofNat at0),.int .i64 (.ofNat size)]⟩/\size<=4611686018427387904/\at0<=4611686018427387904/\k p at0 size=some r:=by
 unfold kS at h;have h:=jS h;obtain⟨hl,h⟩:=ai h;obtain⟨p,e0,h⟩:=aQ h;obtain⟨v1,e1,h⟩:=aQ h;obtain⟨v2,e2,h⟩:=aQ h;obtain⟨at0,f1,h⟩:=bW h;obtain⟨size,f2,h⟩:=bW h;obtain⟨g1,h⟩:=ai h;obtain⟨g2,h⟩:=ai h;have hl:=I8 hl;rw[dh] at hl;refine⟨p,at0,size,?_,I7 g1,I7 g2,h⟩;rw[ajt rfl hl,o8 e0 e1 e2 hl,f1,f2]
def yx (args:List Value) (h:H):R:=
 nthF 0 args λv=>nthF 1 args λva=>nthF 2 args λvm=>ifB (beq (lenF args) 3) (ft va λa=>ft vm λm=>
 ifB (beq m 1||beq m 2||beq m 4||beq m 8) (kS v λp at0 size=>ifB (ble (Nat.add a m) size) (ifB (ble (Nat.add h.1 30) 1000000000) (VN (Nat.add at0 a) λb=>
 Uq p b m h λc=>ldQ c m (Nat.mod b 4096) 0 0 λx=>some (.tuple ⟨[.int .u64 (.ofNat x),.int .i64 (.ofNat 0)]⟩,h)))))
def Ew {args:List Value} {h:H} {r:Value × H} (hq:yx args h=some r):jB 288 args h r:=by
 unfold yx at hq;obtain⟨v,e0,hq⟩:=aQ hq;obtain⟨va,e1,hq⟩:=aQ hq;obtain⟨vm,e2,hq⟩:=aQ hq;obtain⟨hl,hq⟩:=ai hq;have hl:=I8 hl;rw[dh] at hl;have ha:=o8 e0 e1 e2 hl;obtain⟨a,ea,hq⟩:=bW hq;obtain⟨m,em,hq⟩:=bW hq;obtain⟨hm,hq⟩:=ai hq;obtain⟨pv,at0,size,ev,hs,hat,hq⟩:=fR hq;obtain⟨hsz,hq⟩:=ai hq;obtain⟨hroom,hq⟩:=ai hq;rw[qh] at hq;obtain⟨p,ep,hok,_,hq⟩:=jc hq;obtain⟨s,hs2,hq⟩:=mR (j:=0) hq rfl;have hq:=JJ hq;subst hq;have hm:m=1 \/ m=2 \/ m=4 \/ m=8:=by
  simp only[J4] at hm;rcases hm with ((q | q) | q) | q
  ·exact .inl (I8 q)
  ·exact .inr (.inl (I8 q))
  ·exact .inr (.inr (.inl (I8 q)))
  ·exact .inr (.inr (.inr (I8 q)))
 obtain⟨h',ho,hk⟩:=sN 0 (I7 hsz) hs hat hok hs2 hm (I7 hroom);refine⟨rfl,_,rfl,λ_ _ q=>q,8,h',ho,λk=>?_⟩;rw[ha,ev,ep,ea,em];exact hk k
def ui (args:List Value) (h:H):R:=
 nthF 0 args λv=>nthF 1 args λva=>nthF 2 args λvm=>ifB (beq (lenF args) 3) (ft va λa=>ft vm λm=>
 kS v λp at0 size=>onPtr p λ_=>ifB (ble (Nat.add a m) size) (ifB (ble h.1 1000000000) (some (.int .i64 (.ofNat 0),h))))
def zJ {args:List Value} {h:H} {r:Value × H} (hq:ui args h=some r):jB 278 args h r:=by unfold ui at hq;obtain⟨v,e0,hq⟩:=aQ hq;obtain⟨va,e1,hq⟩:=aQ hq;obtain⟨vm,e2,hq⟩:=aQ hq;obtain⟨hl,hq⟩:=ai hq;have hl:=I8 hl;rw[dh] at hl;have ha:=o8 e0 e1 e2 hl;obtain⟨a,ea,hq⟩:=bW hq;obtain⟨m,em,hq⟩:=bW hq;obtain⟨pv,at0,size,ev,hs,hat,hq⟩:=fR hq;obtain⟨A,eA,hq⟩:=cO hq;obtain⟨hsz,hq⟩:=ai hq;obtain⟨hroom,hq⟩:=ai hq;have hq:=JJ hq;subst hq;refine⟨rfl,_,rfl,λ_ _ q=>q,1,_,(fP.refl h).push (.row 171 3 false false 0 (T.ofList unk (bE A at0 size))) (I7 hroom),λk=>?_⟩;rw[ha,ev,ea,em,eA];exact lW 0 (I7 hsz) hs (I7 hroom) k
def ue (args:List Value) (h:H):R:=
 nthF 0 args λv=>nthF 1 args λvm=>ifB (beq (lenF args) 2) (ft vm λm=>
 ifB (beq m 1||beq m 2||beq m 4||beq m 8) (kS v λp at0 size=>onPtr p λ_=>ifB (ble h.1 1000000000) (some (.int .i64 (.ofNat 0),h))))
def yS {args:List Value} {h:H} {r:Value × H} (hq:ue args h=some r):jB 277 args h r:=by
 unfold ue at hq;obtain⟨v,e0,hq⟩:=aQ hq;obtain⟨vm,e1,hq⟩:=aQ hq;obtain⟨hl,hq⟩:=ai hq;have hl:=I8 hl;rw[dh] at hl;have ha:=sK e0 e1 hl;obtain⟨m,em,hq⟩:=bW hq;obtain⟨hm,hq⟩:=ai hq;obtain⟨pv,at0,size,ev,hs,hat,hq⟩:=fR hq;obtain⟨A,eA,hq⟩:=cO hq;obtain⟨hroom,hq⟩:=ai hq;have hq:=JJ hq;subst hq;have hm:m=1 \/ m=2 \/ m=4 \/ m=8:=by
  simp only[J4] at hm;rcases hm with ((q | q) | q) | q
  ·exact .inl (I8 q)
  ·exact .inr (.inl (I8 q))
  ·exact .inr (.inr (.inl (I8 q)))
  ·exact .inr (.inr (.inr (I8 q)))
 refine⟨rfl,_,rfl,λ_ _ q=>q,1,_,(fP.refl h).push (.row 171 3 false false 0 (T.ofList unk (bE A at0 size))) (I7 hroom),λk=>?_⟩;rw[ha,ev,em,eA];exact rA 0 hm (I7 hroom) k
end Go.Ev
