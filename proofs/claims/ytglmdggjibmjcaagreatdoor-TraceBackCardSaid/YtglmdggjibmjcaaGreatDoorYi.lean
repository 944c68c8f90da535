/-
  WHAT A WORD TELLS A COMMAND: numbers, kinds; the whole of take.
-/
import Derived.Test.YtglmdggjibmjcaaGreatDoorYe
noncomputable section
set_option linter.all false
set_option maxRecDepth 100000
open Nat (ble beq)
namespace Go.Ev.Pa
open Go F Go.Proofs
def wA (E:Env)(a a0 a1:Value)(rc:RC)(k:Value->H->R)(b:aa [4]->H->R):(aa [4,8]->H->R)->aa [4,8]->H->R:=λc d e=>binR (binC E .lss 3 false false) d.2.1 a λf=>@joinR [] (λ_ g=>@joinR [4] (λh i=>binR (binC E .add 3 false true) d.2.1 (.int .i64 (.ofNat 1)) λj=>c (h.1,(j,())) i) λh=>onNat d.2.1 none λi=>onSl a0 none λj l _=>ifB (ble (Nat.succ i) l) (addOffF j (Nat.mul i 2) λm=>onPtr m λn=>onRow (hget g n.1) λ_ o _ _ _ p=>ifB (ble (Nat.add n.2 2) o) (D1 a1 λq r s=>rc q (pa r s [.agg ⟨ae p 2 n.2⟩]) g λt u=>@joinR [4] (λv w=>h (v.1,()) w) λv=>onB t (v (d.1,()) u) (k d.2.1 u)))) λg=>onB f (b (d.1,()) e) (g () e)
def p46 (E:Env)(rc:RC)(a0:Value)(a1:Value)(h:H)(k:Value->H->R):R:=joinL (λa=>@joinR [4] (λ_ b=>k (.int .i64 (.negSucc 0)) b) λb=>@loopF [4,8] (wA E a a0 a1 rc k b) cM (.int .i64 (.ofNat 0),(.int .i64 (.ofNat 0),())) h) λa=>onSl a0 (bindO (aX E h 91 a0) a) λ_ b _=>a (.int .i64 (.ofNat b))
def afI (t:aN)(rc:RC)(a0:Value)(a1:Value)(h:H)(k:Value->H->R):(cf (EX t) KK 46).run rc [a0,a1] h k = p46 (EX t) rc a0 a1 h k:=by kernel_rfl
def p48 (E:Env)(rc:RC)(a0:Value)(a1:Value)(h:H)(k:Value->H->R):R:=onCells a0 λa=>ifB (allF (λb=>cell1F b) a) (ifB (ble h.1 1000000000) (letH (ag h (.row 93 (lenF a) false false 0 (T.ofList unk a))) λb=>ifB (ble b.1 1000000000) (letH (H.mk b.1 b.2) λc=>onRow (hget c h.1) λ_ d _ _ _ e=>ifB (ble 1 d) (onPtr a1 λf=>onRow (hget c f.1) λ_ g _ _ _ i=>ifB (ble (Nat.succ f.2) g) (onSl (getF i f.2) none λj l _=>ifB (ble 1 l) (onRow (hget c j.1) λ_ m _ _ _ n=>ifB (ble (Nat.succ j.2) m) (binR (binC E .eql 9 false false) (getF e 0) (getF n j.2) λo=>k o c)))))))
def W8 (t:aN)(rc:RC)(a0:Value)(a1:Value)(h:H)(k:Value->H->R):(cf (EX t) KK 48).run rc [a0,a1] h k = p48 (EX t) rc a0 a1 h k:=by kernel_rfl
def p49 (E:Env)(rc:RC)(a0:Value)(a1:Value)(h:H)(k:Value->H->R):R:=onCells a0 λa=>ifB (allF (λb=>cell1F b) a) (ifB (ble h.1 1000000000) (letH (ag h (.row 93 (lenF a) false false 0 (T.ofList unk a))) λb=>@joinR [4] (λ_ c=>onRow (hget c h.1) λ_ d _ _ _ e=>ifB (ble 2 d) (bindO (aX E c 9 (getF e 1)) λf=>binR (binC E .eql 3 false false) a1 f λg=>k g c)) λc=>onRow (hget b h.1) λ_ d _ _ _ e=>ifB (ble 2 d) (rc 57 [getF e 1,.string ⟨⟨[43]⟩⟩] b λf g=>@joinR [4] (λi j=>c (i.1,()) j) λi=>onB f (onRow (hget g h.1) λ_ j _ _ _ l=>ifB (ble 2 j) (rc 57 [getF l 1,.string ⟨⟨[42]⟩⟩] g λm n=>@joinR [4] (λo p=>i (o.1,()) p) λo=>onB m (o (.bool false,()) n) (k (.bool true) n))) (onRow (hget g h.1) λ_ j _ _ _ l=>ifB (ble 2 j) (bindO (aX E g 9 (getF l 1)) λm=>binR (binC E .geq 3 false false) a1 m λn=>k n g)))))
def aaX (t:aN)(rc:RC)(a0:Value)(a1:Value)(h:H)(k:Value->H->R):(cf (EX t) KK 49).run rc [a0,a1] h k = p49 (EX t) rc a0 a1 h k:=by kernel_rfl
def p50 (E:Env)(rc:RC)(a0:Value)(a1:Value)(a2:Value)(h:H)(k:Value->H->R):R:=@joinR [6,7] (λa b=>k a.2.1 b) λa=>binR (binC E .eql 5 false true) a1 (.int .u8 (.ofNat 76)) λb=>@joinR [6,7] (λc d=>a (c.1,(c.2.1,())) d) λc=>onB b (binR (binC E .eql 5 false true) a1 (.int .u8 (.ofNat 104)) λd=>@joinR [6,7] (λe f=>c (e.1,(e.2.1,())) f) λe=>onB d (binR (binC E .eql 5 false true) a1 (.int .u8 (.ofNat 111)) λf=>@joinR [6,7] (λg i=>e (g.1,(g.2.1,())) i) λg=>onB f (binR (binC E .eql 5 false true) a1 (.int .u8 (.ofNat 110)) λi=>@joinR [7,6] (λj l=>g (j.2.1,(j.1,())) l) λj=>onB i (binR (binC E .eql 5 false true) a1 (.int .u8 (.ofNat 109)) λl=>@joinR [7,6] (λm n=>j (m.1,(m.2.1,())) n) λm=>onB l (binR (binC E .eql 5 false true) a1 (.int .u8 (.ofNat 107)) λn=>@joinR [7,6] (λo p=>m (o.1,(o.2.1,())) p) λo=>onB n (binR (binC E .eql 5 false true) a1 (.int .u8 (.ofNat 99)) λp=>@joinR [6] (λq r=>o (.int .i64 (.ofNat 0),(q.1,())) r) λq=>onB p (ifB (ble h.1 1000000000) (letH (H.mk (Nat.add h.1 1) h.2) λr=>bindO (be a0) λs=>onPtr s λt=>onRow (hget r t.1) λ_ u _ _ _ v=>ifB (ble (Nat.succ (Nat.add t.2 8)) u) (rc 70 [a2] r λw x=>ifB (am a0 a0) (ifB (am a0 a0) (bindO (be a0) λy=>ifB (am y s) (onPtr s λz=>ifB (am (.pointer (some (Addr.mk z.1 (Nat.add z.2 8) none))) (.pointer (some (Addr.mk t.1 (Nat.add t.2 8) none)))) (onRow (hget x t.1) λ_ a3 _ _ _ a4=>ifB (ble (Nat.succ (Nat.add t.2 8)) a3) (ifB (am (getF a4 (Nat.add t.2 8)) (getF v (Nat.add t.2 8))) (@Option.rec (List Value) (λ_=>R) none (λa5=>letH (hset x h.1 (.row 9 1 false false 0 (T.ofList unk a5))) λa6=>cE (ba E a6 Builtin.append [getF v (Nat.add t.2 8),.slice (some (Addr.mk h.1 0 none)) 1 2] [37,37]) λa7 a8=>ifB (am a0 a0) (bindO (be a0) λa9=>onPtr a9 λb0=>onCells a7 λb1=>onRow (hget a8 b0.1) λb2 b3 b4 b5 b6 b7=>ifB (notB b5) (ifB (beq (lenF b1) 1) (ifB (ble b6 (Nat.add b0.2 8)) (ifB (ble (Nat.add (Nat.add b0.2 8) 1) b3) (ifB (ble b3 1000000000) (ifB (allF (λb8=>cell1F b8) b1) (letH (hset a8 b0.1 (.row b2 b3 b4 false b6 (putF b7 (Nat.add b0.2 8) b1))) λb8=>q (.int .i64 (.ofNat 0),()) b8)))))))) (dx (λa5=>some (Nat.mul a5 1,1)) (List.flatten (List.replicate 1 (cellsOfV (.string (ByteArray.mk #[]))))) [(0,w)])))))))))) (rc 69 [] h λr s=>rc 68 [r,a2] s λt u=>binR (binC E .lss 3 false true) t (.int .i64 (.ofNat 0)) λv=>@joinR [6] (λw x=>joinL (λy=>bindO (be a0) λz=>onPtr z λa3=>onCells y λa4=>onRow (hget x a3.1) λa5 a6 a7 a8 a9 b0=>ifB (notB a8) (ifB (beq (lenF a4) 1) (ifB (ble a9 (Nat.add a3.2 7)) (ifB (ble (Nat.add (Nat.add a3.2 7) 1) a6) (ifB (ble a6 1000000000) (ifB (allF (λb1=>cell1F b1) a4) (letH (hset x a3.1 (.row a5 a6 a7 false a9 (putF b0 (Nat.add a3.2 7) a4))) λb1=>q (w.1,()) b1))))))) λy=>onNat t (bindO (aY E x 3 5 t) y) λz=>@Bool.rec (λ_=>R) (bindO (aY E x 3 5 t) y) (y (.int .u8 (.ofNat z))) (ble z 255)) λw=>onB v (w (.int .i64 (.ofNat 0),()) u) (k (.int .i64 (.ofNat 14)) u))) (rc 45 [a2] h λp q=>onTup p λr=>nthF 0 r λs=>onTup p λt=>nthF 1 t λu=>bindO (be a0) λv=>onPtr v λw=>onCells s λx=>onRow (hget q w.1) λy z a3 a4 a5 a6=>ifB (notB a4) (ifB (beq (lenF x) 1) (ifB (ble a5 (Nat.add w.2 6)) (ifB (ble (Nat.add (Nat.add w.2 6) 1) z) (ifB (ble z 1000000000) (ifB (allF (λa7=>cell1F a7) x) (letH (hset q w.1 (.row y z a3 false a5 (putF a6 (Nat.add w.2 6) x))) λa7=>o (u,(.int .i64 (.ofNat 0),())) a7)))))))) (rc 45 [a2] h λn o=>onTup n λp=>nthF 0 p λq=>onTup n λr=>nthF 1 r λs=>bindO (be a0) λt=>onPtr t λu=>onCells q λv=>onRow (hget o u.1) λw x y z a3 a4=>ifB (notB z) (ifB (beq (lenF v) 1) (ifB (ble a3 (Nat.add u.2 5)) (ifB (ble (Nat.add (Nat.add u.2 5) 1) x) (ifB (ble x 1000000000) (ifB (allF (λa5=>cell1F a5) v) (letH (hset o u.1 (.row w x y false a3 (putF a4 (Nat.add u.2 5) v))) λa5=>m (s,(.int .i64 (.ofNat 0),())) a5)))))))) (rc 45 [a2] h λl m=>onTup l λn=>nthF 0 n λo=>onTup l λp=>nthF 1 p λq=>bindO (be a0) λr=>onPtr r λs=>onCells o λt=>onRow (hget m s.1) λu v w x y z=>ifB (notB x) (ifB (beq (lenF t) 1) (ifB (ble y (Nat.add s.2 4)) (ifB (ble (Nat.add (Nat.add s.2 4) 1) v) (ifB (ble v 1000000000) (ifB (allF (λa3=>cell1F a3) t) (letH (hset m s.1 (.row u v w false y (putF z (Nat.add s.2 4) t))) λa3=>j (q,(.int .i64 (.ofNat 0),())) a3)))))))) (binR (binC E .eql 9 false true) a2 (.string ⟨⟨[110,111,110,101]⟩⟩) λi=>@joinR [6] (λj l=>rc 45 [a2] l λm n=>onTup m λo=>nthF 0 o λp=>onTup m λq=>nthF 1 q λr=>bindO (be a0) λs=>onPtr s λt=>onCells p λu=>onRow (hget n t.1) λv w x y z a3=>ifB (notB y) (ifB (beq (lenF u) 1) (ifB (ble z (Nat.add t.2 4)) (ifB (ble (Nat.add (Nat.add t.2 4) 1) w) (ifB (ble w 1000000000) (ifB (allF (λa4=>cell1F a4) u) (letH (hset n t.1 (.row v w x false z (putF a3 (Nat.add t.2 4) u))) λa4=>g (j.1,(r,())) a4))))))) λj=>onB i (j (.int .i64 (.ofNat 0),()) h) (bindO (be a0) λl=>onPtr l λm=>onRow (hget h m.1) λn o p q r s=>ifB (notB q) (ifB (beq (lenF [.int .i64 (.negSucc 0)]) 1) (ifB (ble r (Nat.add m.2 4)) (ifB (ble (Nat.add (Nat.add m.2 4) 1) o) (ifB (ble o 1000000000) (ifB (allF (λt=>cell1F t) [.int .i64 (.negSucc 0)]) (letH (hset h m.1 (.row n o p false r (putF s (Nat.add m.2 4) [.int .i64 (.negSucc 0)]))) λt=>k (.int .i64 (.ofNat 0)) t))))))))) (bindO (be a0) λf=>onPtr f λg=>onRow (hget h g.1) λ_ i _ _ _ j=>ifB (ble (Nat.succ (Nat.add g.2 3)) i) (@Option.rec (List Value) (λ_=>R) none (λl=>ifB (ble h.1 1000000000) (letH (ag h (.row 9 1 false false 0 (T.ofList unk l))) λm=>cE (ba E m Builtin.append [getF j (Nat.add g.2 3),.slice (some (Addr.mk h.1 0 none)) 1 2] [37,37]) λn o=>bindO (be a0) λp=>onPtr p λq=>onCells n λr=>onRow (hget o q.1) λs t u v w x=>ifB (notB v) (ifB (beq (lenF r) 1) (ifB (ble w (Nat.add q.2 3)) (ifB (ble (Nat.add (Nat.add q.2 3) 1) t) (ifB (ble t 1000000000) (ifB (allF (λy=>cell1F y) r) (letH (hset o q.1 (.row s t u false w (putF x (Nat.add q.2 3) r))) λy=>e (.int .i64 (.ofNat 0),(.int .i64 (.ofNat 0),())) y)))))))) (dx (λl=>some (Nat.mul l 1,1)) (List.flatten (List.replicate 1 (cellsOfV (.string (ByteArray.mk #[]))))) [(0,a2)])))) (bindO (aX E h 9 a2) λd=>binR (binC E .gtr 3 false true) d (.int .i64 (.ofNat 16)) λe=>@joinR [6] (λf g=>bindO (be a0) λi=>onPtr i λj=>onCells a2 λl=>onRow (hget g j.1) λm n o p q r=>ifB (notB p) (ifB (beq (lenF l) 1) (ifB (ble q (Nat.add j.2 2)) (ifB (ble (Nat.add (Nat.add j.2 2) 1) n) (ifB (ble n 1000000000) (ifB (allF (λs=>cell1F s) l) (letH (hset g j.1 (.row m n o false q (putF r (Nat.add j.2 2) l))) λs=>c (f.1,(.int .i64 (.ofNat 0),())) s))))))) λf=>onB e (f (.int .i64 (.ofNat 0),()) h) (k (.int .i64 (.ofNat 16)) h))
def aja (t:aN)(rc:RC)(a0:Value)(a1:Value)(a2:Value)(h:H)(k:Value->H->R):(cf (EX t) KK 50).run rc [a0,a1,a2] h k = p50 (EX t) rc a0 a1 a2 h k:=by kernel_rfl
def xz (E:Env)(a a0 a1:Value)(k:Value->H->R)(b:aa [4]->H->R):(aa [4,8]->H->R)->aa [4,8]->H->R:=λc d e=>binR (binC E .lss 3 false false) d.2.1 a λf=>@joinR [] (λ_ g=>@joinR [4] (λh i=>binR (binC E .add 3 false true) d.2.1 (.int .i64 (.ofNat 1)) λj=>c (h.1,(j,())) i) λh=>onNat d.2.1 none λi=>onSl a0 none λj l _=>ifB (ble (Nat.succ i) l) (addOffF j (Nat.mul i 1) λm=>onPtr m λn=>onRow (hget g n.1) λ_ o _ _ _ p=>ifB (ble (Nat.succ n.2) o) (binR (binC E .eql 9 false false) a1 (getF p n.2) λq=>@joinR [4] (λr s=>h (r.1,()) s) λr=>onB q (r (d.1,()) g) (k d.2.1 g)))) λg=>onB f (b (d.1,()) e) (g () e)
def p68 (E:Env)(rc:RC)(a0:Value)(a1:Value)(h:H)(k:Value->H->R):R:=joinL (λa=>@joinR [4] (λ_ b=>k (.int .i64 (.negSucc 0)) b) λb=>@loopF [4,8] (xz E a a0 a1 k b) cM (.int .i64 (.ofNat 0),(.int .i64 (.ofNat 0),())) h) λa=>onSl a0 (bindO (aX E h 37 a0) a) λ_ b _=>a (.int .i64 (.ofNat b))
def aec (t:aN)(rc:RC)(a0:Value)(a1:Value)(h:H)(k:Value->H->R):(cf (EX t) KK 68).run rc [a0,a1] h k = p68 (EX t) rc a0 a1 h k:=by kernel_rfl
def p69 (E:Env)(rc:RC)(h:H)(k:Value->H->R):R:=ifB (ble h.1 1000000000) (letH (ag h (.row 9 5 false false 0 (T.ofList unk (lay (lay (lay (lay (lay (List.flatten (List.replicate 5 (cellsOfV (.string (ByteArray.mk #[]))))) 0 (cellsOfV (.string ⟨⟨[110,111,116,101]⟩⟩))) 1 (cellsOfV (.string ⟨⟨[97,108,108,111,99]⟩⟩))) 2 (cellsOfV (.string ⟨⟨[97,103,97,105,110]⟩⟩))) 3 (cellsOfV (.string ⟨⟨[107,105,108,108]⟩⟩))) 4 (cellsOfV (.string ⟨⟨[100,101,115,116,114,111,121]⟩⟩)))))) λa=>k (.slice (some (Addr.mk h.1 0 none)) 5 10) a)
def akS (t:aN)(rc:RC)(h:H)(k:Value->H->R):(cf (EX t) KK 69).run rc [] h k = p69 (EX t) rc h k:=by kernel_rfl
def p70 (E:Env)(rc:RC)(a0:Value)(h:H)(k:Value->H->R):R:=binR (binC E .eql 9 false true) a0 (.string ⟨⟨[46]⟩⟩) λa=>@joinR [2] (λ_ b=>k a0 b) λb=>onB a (b (.string (ByteArray.mk #[]),()) h) (k (.string (ByteArray.mk #[])) h)
def aby (t:aN)(rc:RC)(a0:Value)(h:H)(k:Value->H->R):(cf (EX t) KK 70).run rc [a0] h k = p70 (EX t) rc a0 h k:=by kernel_rfl
def H4 (a:aa [7,8,9,10,2,3,4,5,6])(k:Value->H->R)(b:H):R:=ifB (nT [a.1,a.2.1,a.2.2.2.1,.int .i64 (.ofNat 0),.int .i64 (.ofNat 0)]) (k (.tuple ⟨[a.1,a.2.1,a.2.2.2.1,.int .i64 (.ofNat 0),.int .i64 (.ofNat 0)]⟩) b)
def yi (E:Env)(a b:Value)(rc:RC)(k:Value->H->R)(c:aa [7,8,9,10,2,3,4,5,6]->H->R):(aa [7,8,9,10,2,3,4,5,6,22]->H->R)->aa [7,8,9,10,2,3,4,5,6,22]->H->R:=λd e f=>binR (binC E .lss 3 false false) e.2.2.2.2.2.2.2.2.2.1 a λg=>@joinR [] (λ_ h=>@joinR [7,8,9,10,2,3,4,5,6] (λi j=>binR (binC E .add 3 false true) e.2.2.2.2.2.2.2.2.2.1 (.int .i64 (.ofNat 1)) λl=>d (i.1,(i.2.1,(i.2.2.1,(i.2.2.2.1,(i.2.2.2.2.1,(i.2.2.2.2.2.1,(i.2.2.2.2.2.2.1,(i.2.2.2.2.2.2.2.1,(i.2.2.2.2.2.2.2.2.1,(l,())))))))))) j) λi=>onNat e.2.2.2.2.2.2.2.2.2.1 none λj=>onSl b none λl m _=>ifB (ble (Nat.succ j) m) (addOffF l (Nat.mul j 1) λn=>onPtr n λo=>onRow (hget h o.1) λ_ p _ _ _ q=>ifB (ble (Nat.succ o.2) p) (rc 22 [getF q o.2] h λr s=>joinL (λt=>binR (binC E .eql 3 false true) t (.int .i64 (.ofNat 0)) λu=>@joinR [] (λ_ v=>@joinR [7,8,14,9,10] (λw x=>binR (binC E .neq 25 false true) w.2.2.1 (.int .i64 (.ofNat 0)) λy=>@joinR [2,3,4,5,6] (λz a0=>i (w.1,(w.2.1,(w.2.2.2.1,(w.2.2.2.2.1,(z.1,(z.2.1,(z.2.2.1,(z.2.2.2.1,(z.2.2.2.2.1,()))))))))) a0) λz=>onB y (z (e.2.2.2.2.1,(e.2.2.2.2.2.1,(e.2.2.2.2.2.2.1,(e.2.2.2.2.2.2.2.1,(e.2.2.2.2.2.2.2.2.1,()))))) x) (binR (binC E .add 3 false true) e.2.2.2.2.2.2.2.2.2.1 (.int .i64 (.ofNat 1)) λa0=>ifB (nT [.int .i64 (.ofNat 0),.int .i64 (.ofNat 0),.slice none 0 0,a0,w.2.2.1]) (k (.tuple ⟨[.int .i64 (.ofNat 0),.int .i64 (.ofNat 0),.slice none 0 0,a0,w.2.2.1]⟩) x))) λw=>onB e.2.2.1 (@joinR [7,8,14,9,10] (λx y=>w (x.1,(x.2.1,(x.2.2.1,(x.2.2.2.1,(x.2.2.2.2.1,()))))) y) λx=>rc 23 [r] v λy z=>onTup y λa0=>nthF 0 a0 λa1=>onTup y λa2=>nthF 1 a2 λa3=>onTup y λa4=>nthF 2 a4 λa5=>x (a1,(a3,(a5,(.bool true,(e.2.2.2.1,()))))) z) (@joinR [7,8,14,9,10] (λx y=>w (x.1,(x.2.1,(x.2.2.1,(x.2.2.2.1,(x.2.2.2.2.1,()))))) y) λx=>joinL (λy=>binR (binC E .geq 3 false true) y (.int .i64 (.ofNat 1000)) λz=>@joinR [14,10] (λa0 a1=>x (e.1,(e.2.1,(a0.1,(e.2.2.1,(a0.2.1,()))))) a1) λa0=>onB z (ifB (ble v.1 1000000000) (letH (ag v (.row 39 9 false false 0 (T.ofList unk [.int .i64 (.ofNat 0),.int .u8 (.ofNat 0),.string (ByteArray.mk #[]),.slice none 0 0,.int .i64 (.ofNat 0),.int .i64 (.ofNat 0),.int .i64 (.ofNat 0),.int .u8 (.ofNat 0),.slice none 0 0]))) λa1=>binR (binC E .add 3 false true) e.2.2.2.2.2.2.2.2.2.1 (.int .i64 (.ofNat 1)) λa2=>rc 24 [a2,r] a1 λa3 a4=>onTup a3 λa5=>nthF 0 a5 λa6=>onTup a3 λa7=>nthF 1 a7 λa8=>onCells a6 λa9=>onRow (hget a4 v.1) λb0 b1 b2 b3 b4 b5=>ifB (notB b3) (ifB (beq (lenF a9) 9) (ifB (ble b4 0) (ifB (ble 9 b1) (ifB (ble b1 1000000000) (ifB (allF (λb6=>cell1F b6) a9) (letH (hset a4 v.1 (.row b0 b1 b2 false b4 (putF b5 0 a9))) λb6=>onRow (hget b6 v.1) λ_ b7 _ _ _ b8=>ifB (ble 9 b7) (@Option.rec (List Value) (λ_=>R) none (λb9=>ifB (ble b6.1 1000000000) (letH (ag b6 (.row 39 9 false false 0 (T.ofList unk b9))) λc0=>cE (ba E c0 Builtin.append [e.2.2.2.1,.slice (some (Addr.mk b6.1 0 none)) 1 2] [22,22]) λc1 c2=>a0 (a8,(c1,())) c2)) (dx (λb9=>some (Nat.mul b9 9,9)) (List.flatten (List.replicate 1 (cellsOfV (.agg (@List.toArray Value [.int .i64 (.ofNat 0),.int .u8 (.ofNat 0),.string (ByteArray.mk #[]),.slice none 0 0,.int .i64 (.ofNat 0),.int .i64 (.ofNat 0),.int .i64 (.ofNat 0),.int .u8 (.ofNat 0),.slice none 0 0]))))) [(0,.agg ⟨ae b8 9 0⟩)])))))))))) (a0 (.int .i64 (.ofNat 15),(e.2.2.2.1,())) v)) λy=>onSl e.2.2.2.1 (bindO (aX E v 22 e.2.2.2.1) y) λ_ z _=>y (.int .i64 (.ofNat z)))) λv=>onB u (v () s) (i (e.1,(e.2.1,(e.2.2.1,(e.2.2.2.1,(e.2.2.2.2.1,(e.2.2.2.2.2.1,(e.2.2.2.2.2.2.1,(e.2.2.2.2.2.2.2.1,(e.2.2.2.2.2.2.2.2.1,()))))))))) s)) λt=>onSl r (bindO (aX E s 37 r) t) λ_ u _=>t (.int .i64 (.ofNat u))))) λh=>onB g (c (e.1,(e.2.1,(e.2.2.1,(e.2.2.2.1,(e.2.2.2.2.1,(e.2.2.2.2.2.1,(e.2.2.2.2.2.2.1,(e.2.2.2.2.2.2.2.1,(e.2.2.2.2.2.2.2.2.1,()))))))))) f) (h () f)
def p11 (E:Env)(rc:RC)(a0:Value)(h:H)(k:Value->H->R):R:=bindO (aX E h 9 a0) λa=>binR (binC E .gtr 3 false true) a (.int .i64 (.ofNat 65536)) λb=>@joinR [2,3,4,5,6] (λc d=>rc 21 [a0,.string ⟨⟨[10]⟩⟩] d λe f=>joinL (λg=>@joinR [7,8,9,10,2,3,4,5,6] (λi j=>onB i.2.2.1 (@joinR [2,3,4,5,6] (λ_ l=>H4 i k l) λ_=>k (.tuple ⟨[.int .i64 (.ofNat 0),.int .i64 (.ofNat 0),.slice none 0 0,.int .i64 (.ofNat 0),.int .i64 (.ofNat 19)]⟩) j) (@joinR [2,3,4,5,6] (λ_ l=>H4 i k l) λl=>l (i.2.2.2.2.1,(i.2.2.2.2.2.1,(i.2.2.2.2.2.2.1,(i.2.2.2.2.2.2.2.1,(i.2.2.2.2.2.2.2.2.1,()))))) j)) λi=>@loopF [7,8,9,10,2,3,4,5,6,22] (yi E g e rc k i) cM (.int .i64 (.ofNat 0),(.int .i64 (.ofNat 0),(.bool false,(.slice none 0 0,(c.1,(c.2.1,(c.2.2.1,(c.2.2.2.1,(c.2.2.2.2.1,(.int .i64 (.ofNat 0),())))))))))) f) λg=>onSl e (bindO (aX E f 37 e) g) λ_ i _=>g (.int .i64 (.ofNat i))) λc=>onB b (c (.int .i64 (.ofNat 0),(.int .i64 (.ofNat 0),(.slice none 0 0,(.int .i64 (.ofNat 0),(.int .i64 (.ofNat 0),()))))) h) (k (.tuple ⟨[.int .i64 (.ofNat 0),.int .i64 (.ofNat 0),.slice none 0 0,.int .i64 (.ofNat 0),.int .i64 (.ofNat 16)]⟩) h)
def alz (t:aN)(rc:RC)(a0:Value)(h:H)(k:Value->H->R):(cf (EX t) KK 11).run rc [a0] h k = p11 (EX t) rc a0 h k:=by kernel_rfl
def p22 (E:Env)(rc:RC)(a0:Value)(h:H)(k:Value->H->R):R:=rc 43 [a0,.func (.func 44) #[] #[]] h λa b=>joinL (λc=>binR (binC E .gtr 3 false true) c (.int .i64 (.ofNat 0)) λd=>ac (λe f=>ac (λg i=>ac (λj l=>ac (λm n=>ac (λo p=>onB d (@joinR [2] (λ_ q=>k a q) λq=>q (.slice none 0 0,()) p) (@joinR [2] (λ_ q=>k a q) λq=>onB o (q (.slice none 0 0,()) p) (k (.slice none 0 0) p))) λo=>aF d (o undef n) (binR (binC E .eql 5 false true) m (.int .u8 (.ofNat 35)) λp=>o p n) (o undef n)) λm=>aF d (m undef l) (bindO (dA E 9 j (.int .i64 (.ofNat 0))) λn=>m n l) (m undef l)) λj=>aF d (j undef i) (onPtr g λl=>onRow (hget i l.1) λ_ m _ _ _ n=>ifB (ble (Nat.succ l.2) m) (j (getF n l.2) i)) (j undef i)) λg=>aF d (g undef f) (onSl e none λi j _=>ifB (ble 1 j) (g (.pointer (some i)) f)) (g undef f)) λe=>aF d (e undef b) (e a b) (e undef b)) λc=>onSl a (bindO (aX E b 37 a) c) λ_ d _=>c (.int .i64 (.ofNat d))
def acq (t:aN)(rc:RC)(a0:Value)(h:H)(k:Value->H->R):(cf (EX t) KK 22).run rc [a0] h k = p22 (EX t) rc a0 h k:=by kernel_rfl
def IW (a0:Value)(a:H)(rc:RC)(E:Env)(k:Value->H->R)(b:aa [2,3,4]):R:=onSl a0 none λc d _=>ifB (ble 2 d) (addOffF c 1 λe=>onPtr e λf=>onRow (hget a f.1) λ_ g _ _ _ h=>ifB (ble (Nat.succ f.2) g) (rc 45 [getF h f.2] a λi j=>onTup i λl=>nthF 0 l λm=>onTup i λn=>nthF 1 n λo=>binR (binC E .neq 25 false true) o (.int .i64 (.ofNat 0)) λp=>@joinR [2,3,4] (λ_ q=>onSl a0 none λr s _=>ifB (ble 3 s) (addOffF r 2 λt=>onPtr t λu=>onRow (hget q u.1) λ_ v _ _ _ w=>ifB (ble (Nat.succ u.2) v) (rc 45 [getF w u.2] q λx y=>onTup x λz=>nthF 0 z λa1=>onTup x λa2=>nthF 1 a2 λa3=>ifB (nT [m,a1,a3]) (k (.tuple ⟨[m,a1,a3]⟩) y)))) λq=>onB p (q (b.1,(b.2.1,(b.2.2.1,()))) j) (ifB (nT [.int .i64 (.ofNat 0),.int .i64 (.ofNat 0),o]) (k (.tuple ⟨[.int .i64 (.ofNat 0),.int .i64 (.ofNat 0),o]⟩) j))))
def p23 (E:Env)(rc:RC)(a0:Value)(h:H)(k:Value->H->R):R:=joinL (λa=>binR (binC E .neq 3 false true) a (.int .i64 (.ofNat 3)) λb=>ac (λc d=>ac (λe f=>ac (λg i=>ac (λj l=>onB b (@joinR [2,3,4] (λm n=>IW a0 n rc E k m) λm=>onB j (m (.int .i64 (.ofNat 0),(.int .i64 (.ofNat 0),(.int .i64 (.ofNat 0),()))) l) (k (.tuple ⟨[.int .i64 (.ofNat 0),.int .i64 (.ofNat 0),.int .i64 (.ofNat 14)]⟩) l)) (@joinR [2,3,4] (λm n=>IW a0 n rc E k m) λ_=>k (.tuple ⟨[.int .i64 (.ofNat 0),.int .i64 (.ofNat 0),.int .i64 (.ofNat 14)]⟩) l)) λj=>aF b (binR (binC E .neq 9 false true) g (.string ⟨⟨[97,114,101,110,97]⟩⟩) λl=>j l i) (j undef i) (j undef i)) λg=>aF b (onPtr e λi=>onRow (hget f i.1) λ_ j _ _ _ l=>ifB (ble (Nat.succ i.2) j) (g (getF l i.2) f)) (g undef f) (g undef f)) λe=>aF b (onSl c none λf g _=>ifB (ble 1 g) (e (.pointer (some f)) d)) (e undef d) (e undef d)) λc=>aF b (c a0 h) (c undef h) (c undef h)) λa=>onSl a0 (bindO (aX E h 37 a0) a) λ_ b _=>a (.int .i64 (.ofNat b))
def aj6 (t:aN)(rc:RC)(a0:Value)(h:H)(k:Value->H->R):(cf (EX t) KK 23).run rc [a0] h k = p23 (EX t) rc a0 h k:=by kernel_rfl
def U5 (a:Value)(k:Value->H->R)(b:H):R:=ifB (nT [a,.int .i64 (.ofNat 0)]) (k (.tuple ⟨[a,.int .i64 (.ofNat 0)]⟩) b)
def yq (E:Env)(a a0:Value)(k:Value->H->R)(b:aa [2,3]->H->R):(aa [2,3,21]->H->R)->aa [2,3,21]->H->R:=λc d e=>binR (binC E .lss 3 false false) d.2.2.1 a λf=>@joinR [] (λ_ g=>@joinR [2,3] (λh i=>binR (binC E .add 3 false true) d.2.2.1 (.int .i64 (.ofNat 1)) λj=>c (h.1,(h.2.1,(j,()))) i) λh=>bindO (dA E 9 a0 d.2.2.1) λi=>binR (binC E .lss 5 false true) i (.int .u8 (.ofNat 48)) λj=>ac (λl m=>ac (λn o=>ac (λp q=>ac (λr s=>onB j (@joinR [2,3] (λt u=>h (t.1,(t.2.1,())) u) λt=>onB r (t (d.1,(d.2.1,())) s) (k (.tuple ⟨[.int .i64 (.ofNat 0),.int .i64 (.ofNat 14)]⟩) s)) (@joinR [2,3] (λt u=>h (t.1,(t.2.1,())) u) λ_=>k (.tuple ⟨[.int .i64 (.ofNat 0),.int .i64 (.ofNat 14)]⟩) s)) λr=>aF j (binR (binC E .gtr 5 false true) p (.int .u8 (.ofNat 57)) λs=>r s q) (r undef q) (r undef q)) λp=>aF j (bindO (dA E 9 l n) λq=>p q o) (p undef o) (p undef o)) λn=>aF j (n d.2.2.1 m) (n undef m) (n undef m)) λl=>aF j (l a0 g) (l undef g) (l undef g)) λg=>onB f (b (d.1,(d.2.1,())) e) (g () e)
def Bv (E:Env)(a:H)(a0:Value)(rc:RC)(k:Value->H->R)(b:aa [2,3]):R:=bindO (aX E a 9 a0) λc=>@joinR [2,3] (λd e=>rc 67 [a0] e λf g=>onTup f λh=>nthF 0 h λi=>onTup f λj=>nthF 1 j λl=>binR (binC E .neq 46 false true) l .nilIface λm=>ac (λn o=>ac (λp q=>onB m (@joinR [2,3] (λ_ r=>U5 i k r) λr=>onB p (r (d.1,(d.2.1,())) q) (k (.tuple ⟨[.int .i64 (.ofNat 0),.int .i64 (.ofNat 3)]⟩) q)) (@joinR [2,3] (λ_ r=>U5 i k r) λ_=>k (.tuple ⟨[.int .i64 (.ofNat 0),.int .i64 (.ofNat 3)]⟩) q)) λp=>aF m (binR (binC E .gtr 3 false true) n (.int .i64 (.ofNat 4294967296)) λq=>p q o) (p undef o) (p undef o)) λn=>aF m (n i g) (n undef g) (n undef g)) λd=>@loopF [2,3,21] (yq E c a0 k d) cM (b.1,(b.2.1,(.int .i64 (.ofNat 0),()))) a
def p45 (E:Env)(rc:RC)(a0:Value)(h:H)(k:Value->H->R):R:=binR (binC E .eql 9 false true) a0 (.string (ByteArray.mk #[])) λa=>ac (λb c=>ac (λd e=>ac (λf g=>ac (λi j=>ac (λl m=>ac (λn o=>ac (λp q=>ac (λr s=>onB a (@joinR [2,3] (λt u=>Bv E u a0 rc k t) λt=>onB r (t (.int .i64 (.ofNat 0),(.int .i64 (.ofNat 0),())) s) (k (.tuple ⟨[.int .i64 (.ofNat 0),.int .i64 (.ofNat 14)]⟩) s)) (@joinR [2,3] (λt u=>Bv E u a0 rc k t) λ_=>k (.tuple ⟨[.int .i64 (.ofNat 0),.int .i64 (.ofNat 14)]⟩) s)) λr=>aF a (onB i (r (.bool false) q) (r p q)) (r undef q) (r undef q)) λp=>aF i (p undef o) (binR (binC E .eql 5 false true) n (.int .u8 (.ofNat 48)) λq=>p q o) (p undef o)) λn=>aF i (n undef m) (bindO (dA E 9 l (.int .i64 (.ofNat 0))) λo=>n o m) (n undef m)) λl=>aF i (l undef j) (l a0 j) (l undef j)) λi=>aF a (i f g) (i undef g) (i undef g)) λf=>aF a (binR (binC E .gtr 3 false true) d (.int .i64 (.ofNat 1)) λg=>f g e) (f undef e) (f undef e)) λd=>aF a (bindO (aX E c 9 b) λe=>d e c) (d undef c) (d undef c)) λb=>aF a (b a0 h) (b undef h) (b undef h)
def adG (t:aN)(rc:RC)(a0:Value)(h:H)(k:Value->H->R):(cf (EX t) KK 45).run rc [a0] h k = p45 (EX t) rc a0 h k:=by kernel_rfl
def xQ (E:Env)(a b:Value)(c:H)(rc:RC)(d e:H)(k:Value->H->R)(f:aa [5]->H->R):(aa [5,40]->H->R)->aa [5,40]->H->R:=λg h i=>binR (binC E .lss 3 false false) h.2.1 a λj=>@joinR [] (λ_ l=>@joinR [5] (λm n=>binR (binC E .add 3 false true) h.2.1 (.int .i64 (.ofNat 1)) λo=>g (m.1,(o,())) n) λm=>onNat h.2.1 none λn=>onSl b none λo p _=>ifB (ble (Nat.succ n) p) (addOffF o (Nat.mul n 1) λq=>onPtr q λr=>onRow (hget l r.1) λ_ s _ _ _ t=>ifB (ble (Nat.succ r.2) s) (onRow (hget l c.1) λ_ u _ _ _ v=>ifB (ble 2 u) (onRow (hget l c.1) λ_ w _ _ _ x=>ifB (ble 2 w) (bindO (aX E l 9 (getF x 1)) λy=>binR (binC E .sub 3 false true) y (.int .i64 (.ofNat 1)) λz=>bindO (bF E l Builtin.min [h.2.1,z] [3,3]) λa0=>bindO (dA E 9 (getF v 1) a0) λa1=>rc 50 [.pointer (some (Addr.mk d.1 0 none)),a1,getF t r.2] l λa2 a3=>binR (binC E .neq 25 false true) a2 (.int .i64 (.ofNat 0)) λa4=>@joinR [5] (λa5 a6=>m (a5.1,()) a6) λa5=>onB a4 (a5 (h.1,()) a3) (onRow (hget a3 e.1) λa6 a7 a8 a9 b0 b1=>ifB (notB a9) (ifB (beq (lenF (cellsOfV (.agg (@List.toArray Value [.int .i64 (.ofNat 0),.int .u8 (.ofNat 0),.string (ByteArray.mk #[]),.slice none 0 0,.int .i64 (.ofNat 0),.int .i64 (.ofNat 0),.int .i64 (.ofNat 0),.int .u8 (.ofNat 0),.slice none 0 0])))) 9) (ifB (ble b0 0) (ifB (ble 9 a7) (ifB (ble a7 1000000000) (ifB (allF (λb2=>cell1F b2) (cellsOfV (.agg (@List.toArray Value [.int .i64 (.ofNat 0),.int .u8 (.ofNat 0),.string (ByteArray.mk #[]),.slice none 0 0,.int .i64 (.ofNat 0),.int .i64 (.ofNat 0),.int .i64 (.ofNat 0),.int .u8 (.ofNat 0),.slice none 0 0])))) (letH (hset a3 e.1 (.row a6 a7 a8 false b0 (putF b1 0 (cellsOfV (.agg (@List.toArray Value [.int .i64 (.ofNat 0),.int .u8 (.ofNat 0),.string (ByteArray.mk #[]),.slice none 0 0,.int .i64 (.ofNat 0),.int .i64 (.ofNat 0),.int .i64 (.ofNat 0),.int .u8 (.ofNat 0),.slice none 0 0])))))) λb2=>bindO (bD E b2 39 (Addr.mk e.1 0 none)) λb3=>ifB (nT [b3,a2]) (k (.tuple ⟨[b3,a2]⟩) b2))))))))))))) λl=>onB j (f (h.1,()) i) (l () i)
def BY (rc:RC)(a:H)(b:Value)(E:Env)(a0:Value)(h c:H)(k:Value->H->R)(d:aa [5]):R:=rc 47 [] a λe f=>onNat b none λg=>onSl e none λi j _=>ifB (ble (Nat.succ g) j) (addOffF i (Nat.mul g 2) λl=>onPtr l λm=>onRow (hget f m.1) λ_ n _ _ _ o=>ifB (ble (Nat.add m.2 2) n) (ifB (ble f.1 1000000000) (letH (ag f (.row 93 2 false false 0 (T.ofList unk [.string (ByteArray.mk #[]),.string (ByteArray.mk #[])]))) λp=>onRow (hget p f.1) λq r s t u v=>ifB (notB t) (ifB (beq (lenF (ae o 2 m.2)) 2) (ifB (ble u 0) (ifB (ble 2 r) (ifB (ble r 1000000000) (ifB (allF (λw=>cell1F w) (ae o 2 m.2)) (letH (hset p f.1 (.row q r s false u (putF v 0 (ae o 2 m.2)))) λw=>joinL (λx=>bindO (cI E 39 [(0,a0),(1,x)]) λy=>ifB (ble w.1 1000000000) (letH (ag w (.row 39 9 false false 0 (T.ofList unk [.int .i64 (.ofNat 0),.int .u8 (.ofNat 0),.string (ByteArray.mk #[]),.slice none 0 0,.int .i64 (.ofNat 0),.int .i64 (.ofNat 0),.int .i64 (.ofNat 0),.int .u8 (.ofNat 0),.slice none 0 0]))) λz=>onCells y λa1=>onRow (hget z w.1) λa2 a3 a4 a5 a6 a7=>ifB (notB a5) (ifB (beq (lenF a1) 9) (ifB (ble a6 0) (ifB (ble 9 a3) (ifB (ble a3 1000000000) (ifB (allF (λa8=>cell1F a8) a1) (letH (hset z w.1 (.row a2 a3 a4 false a6 (putF a7 0 a1))) λa8=>onRow (hget a8 h.1) λ_ a9 _ _ _ b0=>ifB (ble 1 a9) (bindO (dm E 37 (getF b0 0) (some (.int .i64 (.ofNat 1))) none none) λb1=>joinL (λb2=>@joinR [5] (λ_ b3=>onRow (hget b3 w.1) λ_ b4 _ _ _ b5=>ifB (ble 9 b4) (onRow (hget b3 c.1) λb6 b7 b8 b9 c0 c1=>ifB (notB b9) (ifB (beq (lenF (ae b5 9 0)) 9) (ifB (ble c0 0) (ifB (ble 9 b7) (ifB (ble b7 1000000000) (ifB (allF (λc2=>cell1F c2) (ae b5 9 0)) (letH (hset b3 c.1 (.row b6 b7 b8 false c0 (putF c1 0 (ae b5 9 0)))) λc2=>bindO (bD E c2 39 (Addr.mk c.1 0 none)) λc3=>ifB (nT [c3,.int .i64 (.ofNat 0)]) (k (.tuple ⟨[c3,.int .i64 (.ofNat 0)]⟩) c2))))))))) λb3=>@loopF [5,40] (xQ E b2 b1 f rc w c k b3) cM (d.1,(.int .i64 (.ofNat 0),())) a8) λb2=>onSl b1 (bindO (aX E a8 37 b1) b2) λ_ b3 _=>b2 (.int .i64 (.ofNat b3))))))))))) λx=>onNat b (bindO (aY E w 3 5 b) x) λy=>@Bool.rec (λ_=>R) (bindO (aY E w 3 5 b) x) (x (.int .u8 (.ofNat y))) (ble y 255))))))))))
def Ci (a b:H)(E:Env)(k:Value->H->R):R:=onRow (hget a b.1) λc d e f g h=>ifB (notB f) (ifB (beq (lenF (cellsOfV (.agg (@List.toArray Value [.int .i64 (.ofNat 0),.int .u8 (.ofNat 0),.string (ByteArray.mk #[]),.slice none 0 0,.int .i64 (.ofNat 0),.int .i64 (.ofNat 0),.int .i64 (.ofNat 0),.int .u8 (.ofNat 0),.slice none 0 0])))) 9) (ifB (ble g 0) (ifB (ble 9 d) (ifB (ble d 1000000000) (ifB (allF (λi=>cell1F i) (cellsOfV (.agg (@List.toArray Value [.int .i64 (.ofNat 0),.int .u8 (.ofNat 0),.string (ByteArray.mk #[]),.slice none 0 0,.int .i64 (.ofNat 0),.int .i64 (.ofNat 0),.int .i64 (.ofNat 0),.int .u8 (.ofNat 0),.slice none 0 0])))) (letH (hset a b.1 (.row c d e false g (putF h 0 (cellsOfV (.agg (@List.toArray Value [.int .i64 (.ofNat 0),.int .u8 (.ofNat 0),.string (ByteArray.mk #[]),.slice none 0 0,.int .i64 (.ofNat 0),.int .i64 (.ofNat 0),.int .i64 (.ofNat 0),.int .u8 (.ofNat 0),.slice none 0 0])))))) λi=>bindO (bD E i 39 (Addr.mk b.1 0 none)) λj=>ifB (nT [j,.int .i64 (.ofNat 14)]) (k (.tuple ⟨[j,.int .i64 (.ofNat 14)]⟩) i)))))))
def AW (a:Value)(E:Env)(b:Value)(c:Value->R):R:=aF a (binR (binC E .sub 3 false true) b (.int .i64 (.ofNat 1)) c) (c undef) (c undef)
def Cf (a:Value)(b:Value->R)(c:Value)(E:Env)(d:H):R:=aF a (joinL b λe=>onSl c (bindO (aX E d 37 c) e) λ_ f _=>e (.int .i64 (.ofNat f))) (b undef) (b undef)
def p24 (E:Env)(rc:RC)(a0:Value)(a1:Value)(h:H)(k:Value->H->R):R:=onCells a1 λa=>ifB (allF (λb=>cell1F b) a) (ifB (ble h.1 1000000000) (letH (ag h (.row 37 (lenF a) false false 0 (T.ofList unk a))) λb=>ifB (ble b.1 1000000000) (letH (ag b (.row 39 9 false false 0 (T.ofList unk [.int .i64 (.ofNat 0),.int .u8 (.ofNat 0),.string (ByteArray.mk #[]),.slice none 0 0,.int .i64 (.ofNat 0),.int .i64 (.ofNat 0),.int .i64 (.ofNat 0),.int .u8 (.ofNat 0),.slice none 0 0]))) λc=>rc 47 [] c λd e=>ifB (hY (allF (λf=>fW f) []) (allF (λf=>fW f) [.pointer (some (Addr.mk h.1 0 none))])) (rc 46 [d,.func (.func 48) ⟨[]⟩ ⟨[.pointer (some (Addr.mk h.1 0 none))]⟩] e λf g=>ifB (ble g.1 1000000000) (letH (H.mk g.1 g.2) λi=>binR (binC E .lss 3 false true) f (.int .i64 (.ofNat 0)) λj=>joinL (λl=>joinL (λm=>joinL (λn=>joinL (λo=>ac (λp q=>joinL (λr=>ifB (am r l) (joinL (λs=>ifB (am s m) (joinL (λt=>ifB (am t n) (joinL (λu=>ifB (am u o) (joinL (λv=>joinL (λw=>ac (λx y=>joinL (λz=>onB j (@joinR [5] (λa2 a3=>BY rc a3 f E a0 h b k a2) λa2=>onB z (a2 (.int .i64 (.ofNat 0),()) y) (Ci y b E k)) (@joinR [5] (λa2 a3=>BY rc a3 f E a0 h b k a2) λ_=>Ci y b E k)) λz=>aF j (onB x (z (.bool true)) (z (.bool false))) (z undef) (z undef)) λx=>aF j (rc 49 [w,o] q x) (x undef q) (x undef q)) λw=>aF j (onPtr v λx=>onRow (hget q x.1) λ_ y _ _ _ z=>ifB (ble (Nat.add x.2 2) y) (w (.agg ⟨ae z 2 x.2⟩))) (w undef) (w undef)) λv=>aF j (onNat l none λw=>onSl p none λx y _=>ifB (ble (Nat.succ w) y) (addOffF x (Nat.mul w 2) v)) (v undef) (v undef))) λu=>AW j E n u)) λt=>Cf j t m E q)) λs=>aF j (onRow (hget q h.1) λ_ t _ _ _ u=>ifB (ble 1 t) (s (getF u 0))) (s undef) (s undef))) λr=>aF j (r f) (r undef) (r undef)) λp=>aF j (rc 47 [] i p) (p undef i) (p undef i)) λo=>AW j E n o) λn=>Cf j n m E i) λm=>aF j (onRow (hget i h.1) λ_ n _ _ _ o=>ifB (ble 1 n) (m (getF o 0))) (m undef) (m undef)) λl=>aF j (l f) (l undef) (l undef))))))
def aaR (t:aN)(rc:RC)(a0:Value)(a1:Value)(h:H)(k:Value->H->R):(cf (EX t) KK 24).run rc [a0,a1] h k = p24 (EX t) rc a0 a1 h k:=by kernel_rfl
def gB (v:Nat):Bool:=decide (4294967296<v)
def xF (w : Bs):Bs:= if w = str "." then [] else w
def ac6 {E:Env} (u:US E) {rc:RC} {w:Bs} {h:H} (k:Value->H->R):p70 E rc (.string ⟨⟨w⟩⟩) h k=k (.string ⟨⟨xF w⟩⟩) h:=by
 unfold p70 xF;rw[rQ u,ah];by_cases q:w=[46]
 ·subst q;rfl
 ·rw[show (w==[46]) = false from JM.2 q, ax, if_neg (show ¬ w = str "." from q)]
section
def z6 (rc:RC) (Q:H->Prop):Prop:=∀(w:Bs) (h:H),w.length<=100000->w ≠ []->w.all dR=true->Q h->h.next<=900000000 ->
 (fp 0 w<=9223372036854775807/\∀k:Value->H->R,rc 67 [.string ⟨⟨w⟩⟩] h k=k (.tuple ⟨[.int .i64 (.ofNat (fp 0 w)),.nilIface]⟩) h) \/
 (9223372036854775807<fp 0 w/\∃n t a,∀k:Value->H->R,rc 67 [.string ⟨⟨w⟩⟩] h k=k (.tuple ⟨[.int .i64 n,.iface t a]⟩) (ag h .dead))
section
variable {E : Env} {ms : Array (String × TypeId)}
def Rm {ty:TypeId} {m:_} (h:E.und ty=some (.interface m)) {cx:Bool} {k:Value->R}:binR (binC E .neq ty cx true) .nilIface .nilIface k=k (.bool false):=by
 have hb:ij E .neq ty cx true .nilIface .nilIface=some (.bool false):=by simp only[ij,F2,h,Bool.or_true,Jo,Bool.not_true]
 unfold binR binC;rw[h];show bindO (ij E .neq ty cx true .nilIface .nilIface) k=_;rw[hb];rfl
def GM {ty:TypeId} {m:_} (h:E.und ty=some (.interface m)) {cx cy:Bool} {t:TypeId} {a:Value} {k:Value->R}:binR (binC E .neq ty cx cy) (.iface t a) .nilIface k=k (.bool true):=by
 have hb:ij E .neq ty cx cy (.iface t a) .nilIface=some (.bool true):=by simp only[ij,F2,h,Bool.not_false]
 unfold binR binC;rw[h];show bindO (ij E .neq ty cx cy (.iface t a) .nilIface) k=_;rw[hb];rfl
end
variable {E : Env} (u : US E) {rc : RC}
include u
theorem aak {w:Bs} (hl:w.length<=1000000000) (k:Value->H->R) (c:aa [2,3]->H->R) (x y:Value) {h:H}:∀(d i N:Nat),i+d=w.length->d<N ->
  loopF (ks:=[2,3,21]) (yq E (.int .i64 (.ofNat w.length)) (.string ⟨⟨w⟩⟩) k c) N (x,(y,(.int .i64 (.ofNat i),()))) h =
   if (w.drop i).all dR=true then c (x,(y,())) h else k (.tuple ⟨[.int .i64 (.ofNat 0),.int .i64 (.ofNat 14)]⟩) h:=by
 have u3:=u.u3;have u5:=u.u5;intro d
 induction d with
 | zero=>
  intro i N hi hN;obtain⟨N,rfl⟩:∃M,N=M+1:=⟨N-1,by omega⟩;obtain rfl:i=w.length:=by omega
  rw[aT];unfold yq;rw[fj u3 (Jd _),ah,List.drop_length];rfl
 | succ d ih=>
  intro i N hi hN;obtain⟨N,rfl⟩:∃M,N=M+1:=⟨N-1,by omega⟩;have hlt:i<w.length:=by omega
  have hget:w[i]?=some (w[i]'hlt):=Jn _;rw[aT,JR hlt,JZ];have key:=ih (i+1) N (by omega) (by omega);generalize w[i]'hlt=b at hget ⊢;generalize loopF (ks:=[2,3,21]) (yq E (.int .i64 (.ofNat w.length)) (.string ⟨⟨w⟩⟩) k c) N=L at key ⊢;have hadd:∀(K:Value->R),binR (binC E .add 3 false true) (.int .i64 (.ofNat i)) (.int .i64 (.ofNat 1)) K=K (.int .i64 (.ofNat (i+1))):=λK=>dr u3 (by omega);have c1:∀K:Value->R,binR (binC E .lss 5 false true) (cF b) (.int .u8 (.ofNat 48)) K=K (.bool (ble (b.toNat+1) 48)):=λK=>by unfold cF;rw[ah1 u5]
  have c2:∀K:Value->R,binR (binC E .gtr 5 false true) (cF b) (.int .u8 (.ofNat 57)) K=K (.bool (ble (57+1) b.toNat)):=λK=>by unfold cF;rw[agE u5]
  have hbi:∀K:Value->R,bindO (dA E 9 (.string ⟨⟨w⟩⟩) (.int .i64 (.ofNat i))) K=K (cF b):=λK=>by rw[tg u (kd:=.i64) hget];rfl
  unfold yq;dsimp only;rw[gt u3 hlt,ah];simp only[aA];rw[ah,hbi,c1];by_cases q1:b.toNat<48
  ·have hd:dR b=false:=by unfold dR;rw[dt (show b.toNat<48 by omega)];rfl
   rw[aM (show b.toNat+1<=48 by omega)];simp only[↓aE,↓ah,↓cu,↓aA];rw[hd];rfl
  ·rw[dt (show 48<b.toNat+1 by omega)];simp only[↓aE,↓ah,↓cP,↓hbi,↓c2];by_cases q2:57<b.toNat
   ·have hd:dR b=false:=by unfold dR;rw[dt (show 57<b.toNat by omega),Bool.and_false]
    simp only[aM (show 57+1<=b.toNat by omega),↓aE,↓ah,↓cP,↓aA,↓ax];rw[hd];rfl
   ·have hd:dR b=true:=by unfold dR;rw[aM (show 48<=b.toNat by omega),aM (show b.toNat<=57 by omega)];rfl
    simp only[dt (show b.toNat<57+1 by omega),↓aE,↓ah,↓cP,↓aA,↓ax,↓hadd];rw[key,hd,Ky]
theorem alK {Q:H->Prop} (hA:z6 rc Q) {mi:_} (u62:E.und 46=some (.interface mi)) {w:Bs} (hl:w.length<=100000) (hne:w ≠ []) (hz:¬ (1<w.length/\w[0]?=some 48)) {h:H} (hq:Q h) (hn:h.next<=900000000) (x y:Value) (k:Value->H->R) (X:R) (e:Bv E h (.string ⟨⟨w⟩⟩) rc k (x,(y,()))=X):
  ∃h',X=k (.tuple ⟨[.int .i64 (.ofNat (bM w).1),.int .i64 (.ofNat (bM w).2)]⟩) h'/\Fr h h' 1:=by
 have u3:=u.u3;unfold Bv at e;rw[js u,aK,ah] at e;dsimp only at e;rw[aak u (by omega) k _ x y w.length 0 cM (by omega) (by unfold cM;omega),List.drop_zero] at e;by_cases hd:w.all dR=true
 ·rw[if_pos hd] at e;have hnb:¬ (w=[] \/ (1<w.length/\w[0]?=some 48) \/ w.all dR=false):=by
   rintro (e | e | e)
   ·exact hne e
   ·exact hz e
   ·rw[hd] at e;exact nomatch e
  rcases hA w h hl hne hd hq hn with ⟨hv,hk⟩ | ⟨hv,n,t,a,hk⟩
  ·rw[hk] at e;simp only[↓bg,↓bB,↓du,↓Rm u62] at e;by_cases q:4294967296<fp 0 w
   ·simp only[↓aE,↓ah,↓cP,↓qU u3 q,↓aA,↓ax] at e;refine⟨h,?_,Fr.refl _ _⟩;rw[show bM w=(0,3) by unfold bM;rw[if_neg hnb,if_pos q]];exact e.symm
   ·have q':fp 0 w<=4294967296:=by omega
    simp only[↓aE,↓ah,↓cP,↓oO u3 q',↓aA,↓ax] at e;refine⟨h,?_,Fr.refl _ _⟩;rw[show bM w=(fp 0 w,0) by unfold bM;rw[if_neg hnb,if_neg q]];exact e.symm
  ·rw[hk] at e;simp only[↓bg,↓bB,↓du,↓GM u62,↓aE,↓ah,↓cu,↓aA,↓ax] at e;refine⟨_,?_,Fr.push .dead (by omega)⟩;rw[show bM w=(0,3) by unfold bM;rw[if_neg hnb,if_pos (by omega)]];exact e.symm
 ·rw[if_neg hd] at e;have hf:w.all dR=false:=by simpa using hd
  refine⟨h,?_,Fr.refl _ _⟩;rw[show bM w=(0,14) from if_pos (.inr (.inr hf))];exact e.symm
theorem aoL {Q:H->Prop} (hA:z6 rc Q) {mi:_} (u62:E.und 46=some (.interface mi)) {w:Bs} (hl:w.length<=100000) {h:H} (hq:Q h) (hn:h.next<=900000000) (k:Value->H->R) (X:R) (e:p45 E rc (.string ⟨⟨w⟩⟩) h k=X):
  ∃h',X=k (.tuple ⟨[.int .i64 (.ofNat (bM w).1),.int .i64 (.ofNat (bM w).2)]⟩) h'/\Fr h h' 1:=by
 have u3:=u.u3;have u5:=u.u5;have hlen:∀K,bindO (aX E h 9 (.string ⟨⟨w⟩⟩)) K=K (.int .i64 (.ofNat w.length)):=λK=>by rw[js u];rfl
 have htail:=λhne hz x y=>alK u hA u62 hl hne hz hq hn x y k X;unfold p45 at e;rw[mG,rQ u] at e;cases w with
 | nil=> simp only[show (([]:Bs)==[])=true from rfl,↓aE,↓ah,↓cu,↓aA] at e;refine⟨h,?_,Fr.refl _ _⟩;rw[show bM []=(0,14) from if_pos (.inl rfl)];exact e.symm
 | cons b w=>
  have h0:((b :: w:Bs)==[])=false:=rfl;by_cases q1:1<(b :: w).length
  ·have hx:∀K:Value->R,bindO (dA E 9 (.string ⟨⟨b :: w⟩⟩) (.int .i64 (.ofNat 0))) K=K (cF b):=λK=>by rw[tg u (kd:=.i64) (s:=b :: w) (j:=0) (b:=b) rfl];rfl
   have he:∀K:Value->R,binR (binC E .eql 5 false true) (cF b) (.int .u8 (.ofNat 48)) K=K (.bool (beq b.toNat 48)):=λK=>by unfold cF;rw[hG u5]
   by_cases q2:b.toNat=48
   ·simp only[h0,↓aE,↓ah,↓cP,↓ax,↓hlen,↓qU u3 q1,↓cu,↓aA,↓hx,↓he,gm q2] at e;have hb:b=48:=UInt8.toNat_inj.1 q2;refine⟨h,?_,Fr.refl _ _⟩;rw[show bM (b :: w)=(0,14) from if_pos (.inr (.inl ⟨q1,by rw[hb];rfl⟩))];exact e.symm
   ·simp only[h0,↓aE,↓ah,↓cP,↓ax,↓hlen,↓qU u3 q1,↓cu,↓aA,↓hx,↓he,dB q2] at e;exact htail (by simp) (λ⟨_,e⟩=>q2 (by rw[List.getElem?_cons_zero] at e;rw[JJ e];rfl)) _ _ e
  ·have q1':(b :: w).length<=1:=by omega
   simp only[h0,↓aE,↓ah,↓cP,↓ax,↓hlen,↓oO u3 q1'] at e;exact htail (by simp) (λ⟨e,_⟩=>q1 e) _ _ e
end
section
inductive WL (h:H):Value->List Bs->Prop
 | nil:WL h (.slice none 0 0) []
 | row {b o m c fz:Nat} {op ro:Bool} {cells:T Value} {l:List Bs} (hb:b<h.next) (hq:hget h b=.row 9 m op ro fz cells) (hm:o+l.length<=m) (hcap:l.length<=c / 2)
   (hc:∀i,(hi:i<l.length)->getF cells (o+i)=ak l[i]):WL h (.slice (some ⟨b,o,none⟩) l.length c) l
def WL.frB {B:Nat} {h h':H} {v:Value} {l:List Bs} (o:WL h v l) (hn:h.next<=h'.next) (hk:∀id,id<h.next->hget h' id=hget h id):WL h' v l:=by
 cases o with
 | nil=>exact .nil
 | row hb hq hm hcap hc=>exact .row (Jp hb hn) ((hk _ hb).trans hq) hm hcap hc
def WL.fr {h h':H} {n:Nat} {v:Value} {l:List Bs} (o:WL h v l) (f:Fr h h' n):WL h' v l:=o.frB (B:=0) f.le f.old
def SO.wl {h:H} {v:Value} {l:List Bs} (o:SO h v l):WL h v l:=by
 unfold SO at o;generalize hn:l.length=n at o;generalize hl:l.map ak=L at o;cases o with
 | nil=> obtain rfl:l=[]:=List.length_eq_zero_iff.1 hn;exact .nil
 | row hb hq hL hc hp=> subst hn hl;rename_i b fz op cells;refine .row (o:=0) (c:=2*l.length+op.toNat) hb hq (by omega) (by omega) λi hi=>?_;rw[JN,hc i (by simpa using hi),Jc,JX,Jn hi];rfl
def FZ {h:H} (l:List Bs) (hn:h.next<=1000000000):WL (ag h (.row 9 l.length false false 0 (T.ofList unk (l.map ak)))) (.slice (some ⟨h.next,0,none⟩) l.length (2*l.length)) l:=by refine .row (show h.next<h.next+1 by omega) (az _ _ (by omega)) (by omega) (by omega) λi hi=>?_;rw[aI,JN,Jc,JX,Jn hi];rfl
variable {E : Env} (u : US E) {rc : RC}
def fv {h h':H} {v:Value} {l:List Bs} (o:WL h v l) (u30:E.und 37=some (.slice 9)) (K:Value->R):onSl v (bindO (aX E h' 37 v) K) (λ_ n _=>K (.int .i64 (.ofNat n)))=K (.int .i64 (.ofNat l.length)):=by
 cases o with
 | nil=>
  rw[ji];have:aX E h' 37 (.slice none 0 0)=some (.int .i64 (.ofNat 0)):=by unfold aX;rw[u30];rfl
  rw[this];rfl
 | row=>rw[bp]
def EC (rc:RC) (Q:H->Prop):Prop:=∀(w:Bs) (h:H),w.length<=100000->Q h->h.next<=900000000->∀(k:Value->H->R) (X:R),rc 45 [.string ⟨⟨w⟩⟩] h k=X ->
 ∃h',X=k (.tuple ⟨[.int .i64 (.ofNat (bM w).1),.int .i64 (.ofNat (bM w).2)]⟩) h'/\Fr h h' 1
def aur (Q:H->Prop):Prop:=∀h h' n,Q h->Fr h h' n->Q h'
def small (l:List Bs):Prop:=∀s∈l,s.length<=100000
def neq_i64' {ty m n:Nat} {cx cy:Bool} {k:Value->R} (hE:E.und ty=some (.int .i64)):binR (binC E .neq ty cx cy) (.int .i64 (.ofNat m)) (.int .i64 (.ofNat n)) k=k (.bool (!beq m n)):=nG hE
include u
theorem an5 {Q:H->Prop} (hQ:aur Q) (hN:EC rc Q) (u24:E.und 25=some (.int .i64)) (u30:E.und 37=some (.slice 9)) {v:Value} {l:List Bs} {h:H} (o:WL h v l) (hs:small l) (hq:Q h) (hn:h.next<=800000000) (k:Value->H->R) (X:R) (e:p23 E rc v h k=X):
  ∃h',X=k (.tuple ⟨[.int .i64 (.ofNat (cQ l).1),.int .i64 (.ofNat (cQ l).2.1),.int .i64 (.ofNat (cQ l).2.2)]⟩) h'/\Fr h h' 2:=by
 have u3:=u.u3;have hlen:=λh'=>fv (E:=E) (h':=h') o u30;unfold p23 at e;rw[aW] at e;rw[hlen,neq_i64' u3] at e;by_cases q3:l.length=3
 ·obtain⟨a,b,c,rfl⟩:∃a b c,l=[a,b,c]:=by
   match l,q3 with
   | [a,b,c],_=>exact⟨a,b,c,rfl⟩
  have ha:a.length<=100000:=hs a (by simp);have hb':b.length<=100000:=hs b (by simp);have hc':c.length<=100000:=hs c (by simp);obtain⟨bk,of,m,cap,fz,op,ro,cells,hb,hq9,hm,hcap,hcell,hv⟩:∃bk of m cap fz op ro cells,bk<h.next/\hget h bk=.row 9 m op ro fz cells/\of+3<=m/\3<=cap / 2/\(∀i,(hi:i<3)->getF cells (of+i)=ak ([a,b,c][i]'hi))/\v=.slice (some ⟨bk,of,none⟩) 3 cap:=by
   cases o with
   | row hb hq hm hcap hc=>exact⟨_,_,_,_,_,_,_,_,hb,hq,hm,hcap,hc,rfl⟩
  subst hv;have hqr:∀h':H,hget h' bk=.row 9 m op ro fz cells->∀K,onRow (hget h' bk) K=K 9 m op ro fz cells:=λh' e K=>by rw[e];rfl
  have c0:=hcell 0 (by omega);have c1:=hcell 1 (by omega);have c2:=hcell 2 (by omega);simp only[show (!beq [a,b,c].length 3)=false from rfl,↓aE,↓ah,↓cP,↓ax,↓bp,↓au,↓hqr h hq9,show ble 1 3=true from rfl,↓di] at e;rw[aj (show of+1<=m by omega)] at e;rw[show getF cells of=ak a from c0] at e;unfold ak at e;rw[Tl u] at e;by_cases qa : a = str "arena"
  ·rw[show (!(a==[97,114,101,110,97]))=false by rw[qa];rfl] at e;simp only[↓ax] at e;unfold IW at e;simp only[↓bp,show ble 2 3=true from rfl,↓di,↓bw,↓au,↓hqr h hq9] at e;rw[aj (show of+1+1<=m by omega),show getF cells (of+1)=ak b from c1] at e;obtain⟨h1,e1,f1⟩:=hN b h hb' hq (by omega) _ _ e;replace e1:=e1.symm;simp only[↓bg,↓bB,↓du] at e1;rw[neq_i64' u24] at e1;have hf:cQ [a,b,c]=if (bM b).2=0 then ((bM b).1,(bM c).1,(bM c).2) else (0,0,(bM b).2):=if_pos qa
   by_cases qb:(bM b).2=0
   ·rw[hf,if_pos qb];have hq1:hget h1 bk=.row 9 m op ro fz cells:=(f1.old bk hb).trans hq9;rw[show (!beq (bM b).2 0)=false by rw[qb];rfl] at e1;simp only[↓ah,↓ax,↓bp,show ble 3 3=true from rfl,↓di,↓bw,↓au,↓hqr h1 hq1] at e1;rw[aj (show of+2+1<=m by omega),show getF cells (of+2)=ak c from c2] at e1;have hn1:=f1.ub;obtain⟨h2,e2,f2⟩:=hN c h1 hc' (hQ _ _ _ hq f1) (by omega) _ _ e1;replace e2:=e2.symm;simp only[↓bg,↓bB,↓du] at e2;exact⟨h2,e2.symm,f1.trans f2 (Jd _)⟩
   ·rw[hf,if_neg qb];rw[show (!beq (bM b).2 0)=true by rw[dB qb];rfl] at e1;simp only[↓ah,↓aA] at e1;exact⟨h1,e1.symm,f1.mono (by omega)⟩
  ·have hf:cQ [a,b,c]=(0,0,14):=if_neg qa;rw[hf];rw[show (!(a==[97,114,101,110,97]))=true by rw[JM.2 (show ¬ a=[97,114,101,110,97] from qa)];rfl] at e;simp only[↓aA] at e;exact⟨h,e.symm,Fr.refl _ _⟩
 ·have hf:cQ l=(0,0,14):=by
   unfold cQ;split
   ·simp at q3
   ·rfl
  rw[hf];rw[show (!beq l.length 3)=true by rw[dB q3];rfl] at e;simp only[↓aE,↓ah,↓cu,↓aA] at e;exact⟨h,e.symm,Fr.refl _ _⟩
omit u
theorem lr:∀(s acc:Bs),∀x∈cD acc s,x ≠ []
 | [],acc,x,hx=>by
  unfold cD at hx;split at hx
  ·exact nomatch hx
  ·rw[List.mem_singleton.1 hx];assumption
 | b :: s,acc,x,hx=>by
  unfold cD at hx;split at hx
  ·split at hx
   ·exact lr s _ x hx
   ·rcases Jr.1 hx with rfl | h
    ·assumption
    ·exact lr s _ x h
  ·exact lr s _ x hx
theorem jY:∀(s acc:Bs),∀x∈cD acc s,x.length<=acc.length+s.length
 | [],acc,x,hx=>by
  unfold cD at hx;split at hx
  ·exact nomatch hx
  ·rw[List.mem_singleton.1 hx];simp
 | b :: s,acc,x,hx=>by
  unfold cD at hx;split at hx
  ·split at hx
   ·have:=jY s _ x hx;simp at this ⊢;omega
   ·rcases Jr.1 hx with rfl | h
    ·simp
    ·have:=jY s _ x h;simp at this ⊢;omega
  ·have:=jY s _ x hx;simp at this ⊢;omega
def vV (rc:RC):Prop:=∀(s:Bs) (h:H),s.length<=100000->h.next<=900000000->∀(k:Value->H->R),rc 43 [.string ⟨⟨s⟩⟩,.func (.func 44) #[] #[]] h k =
 k (.slice (some ⟨h.next,0,none⟩) (bO s).length (2*(bO s).length)) (ag h (.row 9 (bO s).length false false 0 (T.ofList unk ((bO s).map ak))))
include u
theorem GT (hF:vV rc) (u30:E.und 37=some (.slice 9)) {s:Bs} {h:H} (hs:s.length<=100000) (hn:h.next<=800000000) (k:Value->H->R) (X:R) (e:p22 E rc (.string ⟨⟨s⟩⟩) h k=X):
  ∃h' v,X=k v h'/\WL h' v (cd s)/\cj v/\Fr h h' 1:=by
 have u3:=u.u3;have u5:=u.u5;unfold p22 at e;rw[hF s h hs (by omega)] at e;have o:=FZ (h:=h) (bO s) (by omega);have f:Fr h (ag h (.row 9 (bO s).length false false 0 (T.ofList unk ((bO s).map ak)))) 1:=Fr.push _ (by omega);generalize hh:ag h (.row 9 (bO s).length false false 0 (T.ofList unk ((bO s).map ak)))=h1 at e o f;have cl:cj (Value.slice (some ⟨h.next,0,none⟩) (bO s).length (2*(bO s).length)):=show 2*(bO s).length%2=0 by omega
 generalize hv:Value.slice (some ⟨h.next,0,none⟩) (bO s).length (2*(bO s).length)=v at e o cl;have hlen:=λh'=>fv (E:=E) (h':=h') o u30;rw[aW] at e;rw[hlen] at e;cases hw:bO s with
 | nil=>
  have hz:(bO s).length=0:=by rw[hw];rfl
  rw[hz,oO u3 (Jd _)] at e;simp only[↓aE,↓ah,↓cP,↓ax] at e;refine⟨h1,v,e.symm,?_,cl,f⟩;rw[show cd s=[] by unfold cd;rw[hw]];rw[hw] at o;exact o
 | cons w r=>
  have hlt:0<(bO s).length:=by rw[hw];exact Nat.succ_pos _
  rw[qU u3 hlt] at e;have hq9:hget h1 h.next=.row 9 (bO s).length false false 0 (T.ofList unk ((bO s).map ak)):=by rw[<-hh];exact az _ _ (by omega)
  have c0:getF (T.ofList unk ((bO s).map ak)) 0=ak w:=by rw[aI,hw];rfl
  have hqr:∀K,onRow (hget h1 h.next) K=K 9 (bO s).length false false 0 (T.ofList unk ((bO s).map ak)):=λK=>by rw[hq9];rfl
  subst hv;simp only[↓aE,↓ah,↓cu,↓aA,↓bp,↓au,↓hqr] at e;rw[aj (show 1<=(bO s).length by omega),aj (show 0+1<=(bO s).length by omega),c0] at e;have hne:w ≠ []:=lr s [] w (by show w∈bO s;rw[hw];simp);obtain⟨b,w',rfl⟩:∃b w',w=b :: w':=by
   cases w with
   | nil=>exact absurd rfl hne
   | cons b w'=>exact⟨b,w',rfl⟩
  unfold ak at e;rw[tg u (kd:=.i64) (s:=b :: w') (j:=0) (b:=b) rfl,aK] at e;unfold cF at e;rw[hG u5] at e;by_cases q:b.toNat=35
  ·have hb:b=35:=UInt8.toNat_inj.1 q;rw[gm q,aA] at e;refine⟨h1,_,e.symm,?_,rfl,f⟩;rw[show cd s=[] by unfold cd;rw[hw];exact if_pos (by rw[hb];rfl)];exact .nil
  ·rw[dB q,ax] at e;refine⟨h1,_,e.symm,?_,cl,f⟩;rw[show cd s=bO s by unfold cd;rw[hw];exact if_neg (λhh=>q (by rw[List.getElem?_cons_zero] at hh;rw[JJ hh];rfl))];exact o
end
def aV:List (Bs × Bs):=[([112,111,111,108],[76,104]),([98,108,111,99,107],[76,104,110]),([115,116,114,100,117,112],[76,104,116]),([114,101,97,100],[104,110,109]),([119,114,105,116,101],[104,110,116]),([114,101,115,105,122,101],[104,110]),([97,112,112,101,110,100],[104,43]),([115,105,122,101],[104]),([97,108,108,111,99],[104,110,109]),([111,98,106,101,99,116,115],[104]),([108,111,97,100],[104,107,110,109]),([115,116,111,114,101],[104,107,110,116]),([102,114,101,101],[104,107]),([98,101,103,105,110],[104,109]),([103,114,111,119],[104,43]),([98,108,97,110,107],[104,110]),([115,104,114,105,110,107],[104,110]),([102,105,110,105,115,104],[104]),([97,98,111,114,116],[104]),([108,105,109,105,116],[104,111]),([115,101,116],[104,116,110]),([103,101,116],[104,116]),([100,114,111,112],[104,116]),([99,108,101,97,110],[104,99,110]),([112,114,101],[104,99,110]),([107,105,108,108],[104,110]),([114,117,110],[104,110]),([100,101,115,116,114,111,121],[104]),([99,108,101,97,114],[104]),([115,116,101,97,108],[104,104]),([114,101,112,97,114,101,110,116],[104,104,104]),([114,101,102,101,114],[104,104]),([117,110,108,105,110,107],[104,104]),([116,114,105,109],[]),([107,101,101,112],[110]),([114,101,102,117,115,101],[110]),([114,101,112,111,114,116],[104]),([108,111,103],[]),([102,105,110,100],[42]),([100,111,111,109],[104,104]),([100,111,111,109,101,100],[104,104])]
def dM:AO:=.row 93 82 false false 0 (T.ofList unk (fY aV))
def p47 (E:Env) (rc:RC) (h:H) (k:Value->H->R):R:=ifB (ble h.1 1000000000) (letH (ag h dM) λa=>k (.slice (some (Addr.mk h.1 0 none)) 41 82) a)
def ZG (t:aN) (rc:RC) (h:H) (k:Value->H->R):(cf (EX t) KK 47).run rc [] h k=p47 (EX t) rc h k:=by kernel_rfl
def Jh (E:Env) (rc:RC) (h:H) (k:Value->H->R):p47 E rc h k=ifB (ble h.1 1000000000) (letH (ag h dM) λa=>k (.slice (some (Addr.mk h.1 0 none)) 41 82) a):=rfl
def AD {i:Nat} (hi:i<41):getF (T.ofList unk (fY aV)) (2*i)=ak (aV.getD i ([],[])).1/\getF (T.ofList unk (fY aV)) (2*i+1)=ak (aV.getD i ([],[])).2:=by have h:=nP aV i hi;rw[aI,aI,Jc (l:=aV),Jn (show i<aV.length from hi)];exact h
def fe (w:Bs):List (Bs × Bs)->Nat
 | []=>0
 | x :: l=>if x.1=w then 0 else fe w l+1
def lM (r:Bs) (n:Nat):Bool:=if Lib.hasSuffix r [43] then ble r.length n else if Lib.hasSuffix r [42] then true else beq n r.length
def zZ (b:UInt8):Sg:=if b=76 then .L else if b=104 then .h else if b=111 then .o else if b=110 then .n else if b=109 then .m else if b=107 then .k else if b=99 then .c else .t
def C2:aV.map Prod.fst=co.map Form.word:=by decide
def kM (r:Bs) (f:Form):Bool:=((Lib.hasSuffix r [43]&&f.more&&beq f.rest.length r.length)||(Lib.hasSuffix r [42] && !Lib.hasSuffix r [43]&&f.more&&beq f.rest.length 0)||(!Lib.hasSuffix r [42] && !Lib.hasSuffix r [43] && !f.more&&beq f.rest.length r.length)) &&
 (List.range 5).all (λi=>(!f.more&&ble f.rest.length i)||decide (zZ (r.getD (min i (r.length-1)) 0)=f.rest.getD i .t))&&ble r.length 4
def f0:Form:=⟨[],[],false⟩
def Ff:(List.range 41).all (λi=>kM (aV.getD i ([],[])).2 (co.getD i f0))=true:=by decide
def Cj {r:Bs} {f:Form} (h:kM r f=true) (n:Nat):lM r n=jp f n:=by
 unfold kM at h;simp only[Ja,J4,Bool.not_eq_true'] at h;unfold lM jp;rcases h.1.1 with ((⟨⟨h1,h2⟩,h3⟩ | ⟨⟨⟨h1,h2⟩,h3⟩,h4⟩) | ⟨⟨⟨h1,h2⟩,h3⟩,h4⟩)
 ·rw[if_pos h1,if_pos h2,I8 h3]
 ·rw[if_neg (by rw[h2];exact Bool.false_ne_true),if_pos h1,if_pos h3,I8 h4];exact (Js (JY n)).symm
 ·rw[if_neg (by rw[h2];exact Bool.false_ne_true),if_neg (by rw[h1];exact Bool.false_ne_true),if_neg (by rw[h3];exact Bool.false_ne_true),I8 h4]
def vd {α:Type} {l:List α} {i:Nat} {d:α} (h:l.length<=i):l.getD i d=d:=by rw[Jc,Kw h];rfl
def aoH {r:Bs} {f:Form} (h:kM r f=true) {n i:Nat} (hn:jp f n=true) (hi:i<n):zZ (r.getD (min i (r.length-1)) 0)=f.rest.getD i .t:=by
 unfold kM at h;rw[Ja,Ja] at h;have hr:=I7 h.2;have hall:=Jv.1 h.1.2;have key:∀i,i<5->i<f.rest.length \/ f.more=true->zZ (r.getD (min i (r.length-1)) 0)=f.rest.getD i .t:=by
  intro i hi hm;have:=hall i (by simpa using hi);rw[J4,Ja] at this;rcases this with ⟨h1,h2⟩ | h1
  ·have h2:=I7 h2;rcases hm with hm | hm
   ·omega
   ·rw[hm] at h1;exact nomatch h1
  ·exact of_decide_eq_true h1
 by_cases hm:f.more=true
 ·by_cases h5:i<5
  ·exact key i h5 (.inr hm)
  ·have h4:=key 4 (by omega) (.inr hm);have hlen:f.rest.length<=4:=by
    simp only[Ja,J4,Bool.not_eq_true'] at h;rcases h.1.1 with ((⟨⟨h1,h2⟩,h3⟩ | ⟨⟨⟨h1,h2⟩,h3⟩,h4⟩) | ⟨⟨⟨h1,h2⟩,h3⟩,h4⟩)
    ·rw[I8 h3];exact hr
    ·rw[I8 h4];omega
    ·rw[hm] at h3;exact nomatch h3
   rw[show min i (r.length-1)=min 4 (r.length-1) by omega,h4,vd (l:=f.rest) (i:=4) (by omega),vd (l:=f.rest) (by omega)]
 ·unfold jp at hn;rw[if_neg hm] at hn;have hn:=I8 hn;have hlen:f.rest.length<=4:=by
   simp only[Ja,J4,Bool.not_eq_true'] at h;rcases h.1.1 with ((⟨⟨h1,h2⟩,h3⟩ | ⟨⟨⟨h1,h2⟩,h3⟩,h4⟩) | ⟨⟨⟨h1,h2⟩,h3⟩,h4⟩)
   ·exact absurd h2 hm
   ·exact absurd h3 hm
   ·rw[I8 h4];exact hr
  exact key i (by omega) (.inl (by omega))
def vO (w:Bs):∀(t:List (Bs × Bs)) (l:List Form) (i:Nat),t.map Prod.fst=l.map Form.word->j6 w l i=if fe w t<t.length then some (i+fe w t,l.getD (fe w t) f0) else none
 | [],[],i,_=>rfl
 | [],_ :: _,i,h=>nomatch h
 | _ :: _,[],i,h=>nomatch h
 | x :: t,f :: l,i,h=>by
  rw[J5,J5,List.cons.injEq] at h;unfold j6 fe;rw[<-h.1];by_cases q:x.1=w
  ·rw[if_pos q,if_pos q];simp
  ·rw[if_neg q,if_neg q,vO w t l (i+1) h.2];simp only[Jz,Nat.add_lt_add_iff_right];by_cases q2:fe w t<t.length
   ·rw[if_pos q2,if_pos q2]
    congr 2
    omega
   ·rw[if_neg q2,if_neg q2]
section
def WL.from {h h':H} {v:Value} {l:List Bs} (o:WL h v l) (f:bu h h'):WL h' v l:=o.frB (B:=0) f.le f.old
variable {E : Env} (u : US E) {rc : RC}
structure LV (h:H) (pb:Nat) (l:List Bs):Prop where
 lt:pb<h.next
 ex:∃cp v,hget h pb=.row 37 1 false false 0 cp/\getF cp 0=v/\WL h v l
def LV.from {h h':H} {pb:Nat} {l:List Bs} (o:LV h pb l) (f:bu h h'):LV h' pb l:=by obtain⟨lt,cp,v,e1,e2,e3⟩:=o;exact⟨Jp lt f.le,cp,v,(f.old _ lt).trans e1,e2,e3.from f⟩
include u
theorem atB {h:H} {pb:Nat} {w0:Bs} {l:List Bs} (o:LV h pb (w0 :: l)) (hn:h.next<=900000000) (a b:Bs) (k:Value->H->R) (X:R) (e:p48 E rc (.agg ⟨[ak a,ak b]⟩) (.pointer (some ⟨pb,0,none⟩)) h k=X):
  ∃h',X=k (.bool (a==w0)) h'/\Fr h h' 1:=by
 have f:Fr h (ag h (.row 93 2 false false 0 (T.ofList unk [ak a,ak b]))) 1:=Fr.push _ (by omega);have e0:hget (ag h (.row 93 2 false false 0 (T.ofList unk [ak a,ak b]))) h.next=.row 93 2 false false 0 (T.ofList unk [ak a,ak b]):=az _ _ (by omega);have o1:=o.from f.from;unfold p48 at e;change (ifB true (ifB (ble h.1 1000000000) (letH (ag h (.row 93 2 false false 0 (T.ofList unk [ak a,ak b]))) _)))=X at e;rw[di,aj (show h.1<=1000000000 by show h.next<=_;omega),aD] at e;generalize ag h (.row 93 2 false false 0 (T.ofList unk [ak a,ak b]))=h1 at f e0 o1 e;have hn1:=f.ub;have hle1:=f.le;obtain⟨lt,cp,v,e1,e2,e3⟩:=o1;rw[aj (show h1.1<=1000000000 by show h1.next<=_;omega),aD,Ey] at e;cases e3 with
 | row hb hq hm hcap hc=>
  rename_i bk of m cap fz op ro cells;have hq0:∀K,onRow (hget h1 h.1) K=K 93 2 false false 0 (T.ofList unk [ak a,ak b]):=λK=>by rw[show h.1=h.next from rfl,e0];rfl
  have hq1:∀K,onRow (hget h1 pb) K=K 37 1 false false 0 cp:=λK=>by rw[e1];rfl
  have hq2:∀K,onRow (hget h1 bk) K=K 9 m op ro fz cells:=λK=>by rw[hq];rfl
  have c0:getF cells of=ak w0:=hc 0 (by simp);have hm':of+1<=m:=by simp at hm;omega
  simp only[↓hq0,show ble 1 2=true from rfl,↓di,↓au,↓hq1,show ble (Nat.succ 0) 1=true from rfl,e2,↓bp,↓hq2] at e;rw[aj (show 1<=(w0 :: l).length by simp),aj (show of+1<=m from hm'),c0] at e;rw[show getF (T.ofList unk [ak a,ak b]) 0=ak a from rfl] at e;unfold ak at e;rw[rQ u] at e;exact⟨h1,e.symm,f⟩
omit u
def C40 (rc:RC) (h0:H) (pb:Nat) (w0:Bs):Prop:=∀(a b:Bs) (g:H),bu h0 g->g.next<=900000000->∀(k:Value->H->R) (X:R),rc 48 [.agg ⟨[ak a,ak b]⟩,.pointer (some ⟨pb,0,none⟩)] g k=X->∃g',X=k (.bool (a==w0)) g'/\Fr g g' 1
include u
theorem aeA {h0:H} {pb tb:Nat} {w0:Bs} (hC:C40 rc h0 pb w0) (ht:hget h0 tb=dM) (hlt:tb<h0.next) (k:Value->H->R) (b:aa [4]->H->R) (X:R):∀(d i N:Nat) (x:Value) (g:H),i+d=41->d<N->bu h0 g->g.next+d<=900000000 ->
  loopF (ks:=[4,8]) (wA E (.int .i64 (.ofNat 41)) (.slice (some ⟨tb,0,none⟩) 41 82) (.func (.func 48) ⟨[]⟩ ⟨[.pointer (some ⟨pb,0,none⟩)]⟩) rc k b) N (x,(.int .i64 (.ofNat i),())) g=X ->
  ∃g',Fr g g' d/\X=if fe w0 (aV.drop i)<d then k (.int .i64 (.ofNat (i+fe w0 (aV.drop i)))) g' else b (x,()) g':=by
 have u3:=u.u3;intro d
 induction d with
 | zero=> intro i N x g hi hN hf hn e;obtain⟨N,rfl⟩:∃M,N=M+1:=⟨N-1,by omega⟩;rw[aT] at e;unfold wA at e;dsimp only at e;rw[fj u3 (show 41<=i by omega),ah] at e;exact⟨g,Fr.refl _ _,by rw[if_neg (Jy _)];exact e.symm⟩
 | succ d ih=>
  intro i N x g hi hN hf hn e;obtain⟨N,rfl⟩:∃M,N=M+1:=⟨N-1,by omega⟩;have hi41:i<41:=by omega
  rw[aT] at e;generalize hL:loopF (ks:=[4,8]) (wA E (.int .i64 (.ofNat 41)) (.slice (some ⟨tb,0,none⟩) 41 82) (.func (.func 48) ⟨[]⟩ ⟨[.pointer (some ⟨pb,0,none⟩)]⟩) rc k b) N=L at e;have htg:hget g tb=dM:=(hf.old _ hlt).trans ht;have hqr:∀K,onRow (hget g tb) K=K 93 82 false false 0 (T.ofList unk (fY aV)):=λK=>by rw[htg];rfl
  obtain⟨t1,t2⟩:=AD hi41;unfold wA at e;dsimp only at e;rw[gt u3 hi41,ah,aA] at e;dsimp only at e;rw[ah,bC,bp,aj (show i+1<=41 by omega),bw,au] at e;dsimp only at e;rw[hqr,aj (show 0+i.mul 2+2<=82 by show 0+i*2+2<=82;omega),vW] at e
  rw[show pa (⟨[]⟩:Array Value) ⟨[.pointer (some ⟨pb,0,none⟩)]⟩ [.agg ⟨ae (T.ofList unk (fY aV)) 2 (0+i.mul 2)⟩]=[.agg ⟨[ak (aV.getD i ([],[])).1,ak (aV.getD i ([],[])).2]⟩,.pointer (some ⟨pb,0,none⟩)] by
   show [Value.agg ⟨[getF (T.ofList unk (fY aV)) (0+i*2),getF (T.ofList unk (fY aV)) (0+i*2+1)]⟩,_]=_
   rw[show 0+i*2=2*i by omega,t1,t2]] at e
  obtain⟨g1,e1,f1⟩:=hC _ _ g hf (by omega) _ _ e;replace e1:=e1.symm;rw[ah] at e1;have hd:aV.drop i=aV.getD i ([],[]) :: aV.drop (i+1):=by rw[JR (show i<aV.length from hi41),Jc,Jn (show i<aV.length from hi41)];rfl
  have hub:=f1.ub;by_cases q:(aV.getD i ([],[])).1=w0
  ·rw[show ((aV.getD i ([],[])).1==w0)=true by rw[q];exact beq_self_eq_true _,aA] at e1;refine⟨g1,f1.mono (by omega),?_⟩;rw[hd];unfold fe;rw[if_pos q,if_pos (by omega)];exact e1.symm
  ·rw[show ((aV.getD i ([],[])).1==w0)=false from JM.2 q,ax] at e1;dsimp only at e1;rw[dr u3 (by omega),<-hL] at e1;obtain⟨g2,f2,e2⟩:=ih (i+1) N x g1 (by omega) (by omega) (hf.trans f1.from) (by omega) e1;refine⟨g2,f1.trans f2 (by omega),?_⟩;rw[hd];unfold fe;rw[if_neg q,e2];by_cases q2:fe w0 (aV.drop (i+1))<d
   ·rw[if_pos q2,if_pos (by omega),show i+1+fe w0 (aV.drop (i+1))=i+(fe w0 (aV.drop (i+1))+1) by omega]
   ·rw[if_neg q2,if_neg (by omega)]
theorem apc {h:H} {pb tb:Nat} {w0:Bs} (hC:C40 rc h pb w0) (ht:hget h tb=dM) (hlt:tb<h.next) (hn:h.next<=800000000) (k:Value->H->R) (X:R)
  (e:p46 E rc (.slice (some ⟨tb,0,none⟩) 41 82) (.func (.func 48) ⟨[]⟩ ⟨[.pointer (some ⟨pb,0,none⟩)]⟩) h k=X):
  ∃h',Fr h h' 41/\X=if fe w0 aV<41 then k (.int .i64 (.ofNat (fe w0 aV))) h' else k (.int .i64 (.negSucc 0)) h':=by
 unfold p46 at e;rw[aW,bp] at e;dsimp only at e;rw[ah] at e;obtain⟨g,f,e1⟩:=aeA u hC ht hlt k _ X 41 0 cM _ h (by omega) (by unfold cM;omega) (bu.refl _) (by omega) e;rw[List.drop_zero,JN] at e1;exact⟨g,f,e1⟩
omit u
def Uf (rc:RC):Prop:=∀(s p:Bs) (h:H),s.length<=100000->∀k:Value->H->R,rc 57 [.string ⟨⟨s⟩⟩,.string ⟨⟨p⟩⟩] h k=k (.bool (Lib.hasSuffix s p)) h
include u
theorem GD (hS:Uf rc) {h:H} (hn:h.next<=900000000) {a r:Bs} (hr:r.length<=1000) (n:Nat) (k:Value->H->R) (X:R) (e:p49 E rc (.agg ⟨[ak a,ak r]⟩) (.int .i64 (.ofNat n)) h k=X):
  ∃h',X=k (.bool (lM r n)) h'/\Fr h h' 1:=by
 have u3:=u.u3;have f:Fr h (ag h (.row 93 2 false false 0 (T.ofList unk [ak a,ak r]))) 1:=Fr.push _ (by omega);have e0:hget (ag h (.row 93 2 false false 0 (T.ofList unk [ak a,ak r]))) h.next=.row 93 2 false false 0 (T.ofList unk [ak a,ak r]):=az _ _ (by omega);unfold p49 at e;change (ifB true (ifB (ble h.1 1000000000) (letH (ag h (.row 93 2 false false 0 (T.ofList unk [ak a,ak r]))) _)))=X at e;rw[di,aj (show h.1<=1000000000 by show h.next<=_;omega),aD] at e;generalize ag h (.row 93 2 false false 0 (T.ofList unk [ak a,ak r]))=h1 at f e0 e;have hq0:∀K,onRow (hget h1 h.1) K=K 93 2 false false 0 (T.ofList unk [ak a,ak r]):=λK=>by rw[show h.1=h.next from rfl,e0];rfl
 have g1:getF (T.ofList unk [ak a,ak r]) 1=.string ⟨⟨r⟩⟩:=rfl;have hlen:∀K,bindO (aX E h1 9 (.string ⟨⟨r⟩⟩)) K=K (.int .i64 (.ofNat r.length)):=λK=>by rw[js u];rfl
 refine⟨h1,?_,f⟩;unfold lM;rw[ah,hq0,show ble 2 2=true from rfl,di,g1,hS r [43] h1 (by omega),ah] at e;by_cases q1:Lib.hasSuffix r [43]=true
 ·rw[if_pos q1];rw[q1,aA,hq0,show ble 2 2=true from rfl,di,g1,hlen,iw u3] at e;exact e.symm
 ·have q1':Lib.hasSuffix r [43]=false:=by simpa using q1
  rw[if_neg q1];rw[q1',ax,hq0,show ble 2 2=true from rfl,di,g1,hS r [42] h1 (by omega),ah] at e;by_cases q2:Lib.hasSuffix r [42]=true
  ·rw[if_pos q2];rw[q2,aA] at e;exact e.symm
  ·have q2':Lib.hasSuffix r [42]=false:=by simpa using q2
   rw[if_neg q2];rw[q2',ax] at e;dsimp only at e;rw[hq0,show ble 2 2=true from rfl,di,g1,hlen,j1 u3] at e;exact e.symm
end
section
def cmdL (x:bV) (on tx:Value):List Value:=[.int .i64 (.ofNat x.line),.int .u8 (.ofNat x.op),ak x.label,on,.int .i64 x.n,.int .i64 x.m,.int .i64 x.k,.int .u8 (.ofNat x.kind),tx]
structure CR (ty B:Nat) (h:H) (b:Nat) (x:bV):Prop where
 lo:B<=b
 lt:b<h.next
 ex:∃cells on tx,hget h b=.row ty 9 false false 0 cells/\(∀i,i<9->getF cells i=(cmdL x on tx).getD i unk)/\SO h on x.on/\SO h tx x.texts/\(∀c,dv on=some c->B<=c/\dv tx≠some c)/\(∀c,dv tx=some c->B<=c)
def oB {h:H} {ty b j:Nat} {cells:T Value} {v:Value} (hq:hget h b=.row ty 9 false false 0 cells) (hj:j+1<=9) (hv:cell1F v=true) (K:H->R):
  (onRow (hget h b) λs t u v1 w x=>ifB (notB v1) (ifB (beq (lenF [v]) 1) (ifB (ble w (Nat.add 0 j)) (ifB (ble (Nat.add (Nat.add 0 j) 1) t) (ifB (ble t 1000000000) (ifB (allF (λy=>cell1F y) [v]) (letH (hset h b (.row s t u false w (putF x (Nat.add 0 j) [v]))) K)))))))=K (hset h b (.row ty 9 false false 0 (putF cells j [v]))):=by
 rw[hq,cz,aP (c:=notB false) rfl,aP (c:=beq (lenF [v]) 1) rfl,aj (JY _),aj (show Nat.add (Nat.add 0 j) 1<=9 by show 0+j+1<=9;omega),aj (by omega),aP (show allF (λy=>cell1F y) [v]=true by
  show Bool.rec (motive:=λ_=>Bool) false true (cell1F v)=true
  rw[hv]),aD]
 rw[show Nat.add 0 j=j from JN j]
variable {E : Env} (u : US E) {rc : RC}
structure kP (rc:RC) (Q:H->Prop):Prop where
 num:EC rc Q
 kinds:∀(h:H) (k:Value->H->R),h.next<=900000000->rc 69 [] h k=k (.slice (some ⟨h.next,0,none⟩) 5 10) (ag h (.row 9 5 false false 0 (T.ofList unk (aZ.map ak))))
 index:∀(h:H) (tb:Nat) (w:Bs) (k:Value->H->R),hget h tb=.row 9 5 false false 0 (T.ofList unk (aZ.map ak))->rc 68 [.slice (some ⟨tb,0,none⟩) 5 10,ak w] h k=k (if gD w aZ<5 then .int .i64 (.ofNat (gD w aZ)) else .int .i64 (.negSucc 0)) h
 plain:∀(w:Bs) (h:H) (k:Value->H->R),rc 70 [ak w] h k=k (ak (xF w)) h
def BJ (hE:E.und 3=some (.int .i64)) {cx cy:Bool} {k:Value->R}:binR (binC E .lss 3 cx cy) (.int .i64 (.negSucc 0)) (.int .i64 (.ofNat 0)) k=k (.bool true):=by have hb:ij E .lss 3 cx cy (.int .i64 (.negSucc 0)) (.int .i64 (.ofNat 0))=some (.bool true):=rfl;unfold binR binC;rw[hE];show bindO (ij E .lss 3 cx cy (.int .i64 (.negSucc 0)) (.int .i64 (.ofNat 0))) k=_;rw[hb];rfl
def CR.put {ty B b:Nat} {h:H} {x y:bV} {cells:T Value} {on tx on' tx' v:Value} {j:Nat} (lo:B<=b) (lt:b<h.next) (hs:h.next<=1000000000) (hj:j<=8) (hc:∀i,i<9->getF cells i=(cmdL x on tx).getD i unk) (h1:SO h on' y.on) (h2:SO h tx' y.texts)
  (h3:∀c,dv on'=some c->B<=c/\dv tx'≠some c) (h4:∀c,dv tx'=some c->B<=c) (hne:∀n op cs,hget h b ≠ .row 9 n op false 0 cs) (hy:∀i,i<9->(if i=j then v else (cmdL x on tx).getD i unk)=(cmdL y on' tx').getD i unk):CR ty B (hset h b (.row ty 9 false false 0 (putF cells j [v]))) b y:=by
 have hk:∀w l,SO h w l->SO (hset h b (.row ty 9 false false 0 (putF cells j [v]))) w l:=λw l o=>o.keep (Jd _) λc hc hl=>by rw[bS _ _ _ _ (by omega),if_neg];intro e;subst e;obtain⟨n,op,cs,e⟩:=o.row9 hc;exact hne n op cs e
 refine⟨lo,lt,_,on',tx',bj _ _ _ (by omega),λi hi=>?_,hk _ _ h1,hk _ _ h2,h3,h4⟩;rw[eu _ (by omega),hc i hi];exact hy i hi
section
variable {Q : H -> Prop} {B b : Nat} {h : H} {x : bV} {k : Value -> H -> R} {X : R} {w : Bs}
def fC (B:Nat) (h:H) (b:Nat) (k:Value->H->R) (X:R):Except Nat bV->Prop
 |.ok y=>∃h',dj B h h' 4/\X=k (.int .i64 (.ofNat 0)) h'/\CR 39 B h' b y
 |.error e=>∃h',dj B h h' 4/\X=k (.int .i64 (.ofNat e)) h'
include u
theorem XJ (cr:CR 39 B h b x) (hn:h.next<=800000000) (hw:w.length<=100000) (e:p50 E rc (.pointer (some ⟨b,0,none⟩)) (.int .u8 (.ofNat 76)) (ak w) h k=X):fC B h b k X (eE x .L w):=by
 have u3:=u.u3;have u5:=u.u5;obtain⟨lo,lt,cells,on,tx,hq,hc,s1,s2,s3,s4⟩:=cr;have hlen:∀K,bindO (aX E h 9 (ak w)) K=K (.int .i64 (.ofNat w.length)):=λK=>by unfold ak;rw[js u];rfl
 unfold p50 at e;simp only[↓ah,↓hG u5,show beq 76 76=true from rfl,↓aA,↓hlen] at e;unfold eE;by_cases q:16<w.length
 ·simp only[↓qU u3 q,↓aA] at e;rw[if_pos q];exact⟨h,dj.refl _ _ _,e.symm⟩
 ·have q':w.length<=16:=by omega
  simp only[↓oO u3 q',↓ax,↓aR,↓au,↓DV,↓oB hq (show 2+1<=9 by omega) (show cell1F (ak w)=true from rfl)] at e;rw[if_neg q];refine⟨_,(dj.set lo (by omega) _).mono (by omega),e.symm,?_⟩;exact CR.put lo lt (by omega) (by omega) hc s1 s2 s3 s4 (λn op cs e=>by rw[hq] at e;cases e) λi hi=>by
   match i,hi with
   | 0,_=>rfl
   | 1,_=>rfl
   | 2,_=>rfl
   | 3,_=>rfl
   | 4,_=>rfl
   | 5,_=>rfl
   | 6,_=>rfl
   | 7,_=>rfl
   | 8,_=>rfl
end
end
section
variable {E : Env} (u : US E) {i30 : TypeInfo} (T1 : ug E 37 9 1 i30 [.string ⟨⟨[]⟩⟩]) {rc : RC} {Q : H -> Prop} {B b : Nat} {h : H} {x : bV} {k : Value -> H -> R} {X : R} {w : Bs}
include u T1
theorem ZZ (cr:CR 39 B h b x) (hn:h.next<=800000000) (hl:x.on.length<=8500) (e:p50 E rc (.pointer (some ⟨b,0,none⟩)) (.int .u8 (.ofNat 104)) (ak w) h k=X):fC B h b k X (eE x .h w):=by
 have u3:=u.u3;have u5:=u.u5;obtain⟨lo,lt,cells,on,tx,hq,hc,s1,s2,s3,s4⟩:=cr;have hqr:∀K,onRow (hget h b) K=K 39 9 false false 0 cells:=λK=>by rw[hq];rfl
 unfold p50 at e;simp only[↓ah,↓hG u5,show beq 104 76=false from rfl,show beq 104 104=true from rfl,↓ax,↓aA,↓aR,↓au,↓hqr,↓AP,↓jj] at e;rw[aP (show ble (Nat.succ (Nat.add 0 3)) 9=true from rfl),aj (show h.1<=1000000000 by show h.next<=_;omega),aD] at e;rw[show getF cells (Nat.add 0 3)=on from hc 3 (by omega)] at e;obtain⟨v',h',e1,o1,n1,b1,f1⟩:=qZ T1 s1 (by omega) (by omega) w;rw[cg (show ba E (ag h (.row 9 1 false false 0 (T.ofList unk [ak w]))) .append [on,.slice (some (Addr.mk h.1 0 none)) 1 2] [37,37]=some (v',h') from e1)] at e;have hbon:dv on≠some b:=λee=>by obtain⟨n,op,cs,e2⟩:=s1.row9 ee;rw[hq] at e2;cases e2
 have hq':hget h' b=.row 39 9 false false 0 cells:=(f1 b lt hbon).trans hq;simp only[↓o1.cells] at e;have hst:=oB hq' (show 3+1<=9 by omega) o1.cell1 (λy=>k (.int .i64 (.ofNat 0)) y);have hst':=hst.symm.trans e;have htx:SO h' tx x.texts:=s2.keep (by omega) λc hc hl=>f1 c hl λee=>(s3 c ee).2 hc;unfold eE fC;refine⟨_,?_,hst'.symm,?_⟩
 ·exact dj.trans (m:=4) (n:=0) ⟨by omega,by omega,λid hid=>f1 id (by omega) λee=>by have:=(s3 id ee).1;omega⟩ (dj.set lo (by omega) _) (by omega)
 ·refine CR.put (on:=on) (tx:=tx) (on':=v') (tx':=tx) lo (by omega) (by omega) (by omega) hc o1 htx (λc hc=>?_) s4 (λn op cs ee=>by rw[hq'] at ee;cases ee) λi hi=>?_
  ·rw[b1] at hc;cases hc;exact⟨by omega,λee=>by have:=s2.blk _ ee;omega⟩
  ·match i,hi with
   | 0,_=>rfl
   | 1,_=>rfl
   | 2,_=>rfl
   | 3,_=>rfl
   | 4,_=>rfl
   | 5,_=>rfl
   | 6,_=>rfl
   | 7,_=>rfl
   | 8,_=>rfl
theorem acH (hR:kP rc Q) (cr:CR 39 B h b x) (hn:h.next<=800000000) (hl:x.texts.length<=8500) {c:Nat} (hcs:beq c 76=false/\beq c 104=false/\beq c 111=false/\beq c 110=false/\beq c 109=false/\beq c 107=false/\beq c 99=false) (e:p50 E rc (.pointer (some ⟨b,0,none⟩)) (.int .u8 (.ofNat c)) (ak w) h k=X):fC B h b k X (eE x .t w):=by
 have u3:=u.u3;have u5:=u.u5;obtain⟨c1,c2,c3,c4,c5,c6,c7⟩:=hcs;obtain⟨lo,lt,cells,on,tx,hq,hc,s1,s2,s3,s4⟩:=cr;have hq1:hget (H.mk (Nat.add h.1 1) h.2) b=.row 39 9 false false 0 cells:=hq;have hqr:∀K,onRow (hget (H.mk (Nat.add h.1 1) h.2) b) K=K 39 9 false false 0 cells:=λK=>by rw[hq1];rfl
 unfold p50 at e;simp only[↓ah,↓hG u5,c1,c2,c3,c4,c5,c6,c7,↓ax,↓aA] at e;rw[aj (show h.1<=1000000000 by show h.next<=_;omega),aD] at e;simp only[↓aR,↓au,↓hqr] at e;rw[aP (show ble (Nat.succ (Nat.add 0 8)) 9=true from rfl),hR.plain] at e;simp only[gg,↓di,↓hqr] at e;rw[aP (show ble (Nat.succ (Nat.add 0 8)) 9=true from rfl)] at e;have h8:getF cells (Nat.add 0 8)=tx:=hc 8 (by omega);rw[h8,s2.same,di] at e;simp only[↓AP,↓jj] at e;rw[aD,oG] at e;obtain⟨v',h',e1,o1,n1,b1,f1⟩:=qZ T1 s2 (by omega) (by omega) (xF w);rw[cg (show ba E (ag h (.row 9 1 false false 0 (T.ofList unk [ak (xF w)]))) .append [tx,.slice (some (Addr.mk h.1 0 none)) 1 2] [37,37]=some (v',h') from e1)] at e;have hbtx:dv tx≠some b:=λee=>by obtain⟨n,op,cs,e2⟩:=s2.row9 ee;rw[hq] at e2;cases e2
 have hq':hget h' b=.row 39 9 false false 0 cells:=(f1 b lt hbtx).trans hq;simp only[↓o1.cells] at e;have hst:=oB hq' (show 8+1<=9 by omega) o1.cell1 (λy=>k (.int .i64 (.ofNat 0)) y);have hst':=hst.symm.trans e;have hon:SO h' on x.on:=s1.keep (by omega) λc hc hl=>f1 c hl λee=>(s3 c hc).2 ee;unfold eE fC;refine⟨_,?_,hst'.symm,?_⟩
 ·exact dj.trans (m:=4) (n:=0) ⟨by omega,by omega,λid hid=>f1 id (by omega) λee=>by have:=s4 id ee;omega⟩ (dj.set lo (by omega) _) (by omega)
 ·refine CR.put (on:=on) (tx:=tx) (on':=on) (tx':=v') lo (by omega) (by omega) (by omega) hc hon o1 (λc hc=>?_) (λc hc=>?_) (λn op cs ee=>by rw[hq'] at ee;cases ee) λi hi=>?_
  ·exact⟨(s3 c hc).1,λee=>by rw[b1] at ee;cases ee;have:=s1.blk _ hc;omega⟩
  ·rw[b1] at hc;cases hc;omega
  ·match i,hi with
   | 0,_=>rfl
   | 1,_=>rfl
   | 2,_=>rfl
   | 3,_=>rfl
   | 4,_=>rfl
   | 5,_=>rfl
   | 6,_=>rfl
   | 7,_=>rfl
   | 8,_=>rfl
end
section
variable {E : Env} (u : US E) {i30 : TypeInfo} (T1 : ug E 37 9 1 i30 [.string ⟨⟨[]⟩⟩]) {rc : RC} {Q : H -> Prop} {B b : Nat} {h : H} {x : bV} {k : Value -> H -> R} {X : R} {w : Bs}
def pr {j:Nat} {y:bV} {h1:H} (cr:CR 39 B h b x) (f:Fr h h1 1) (hj:j<=8) (hn:h.next<=800000000) (hon:y.on=x.on) (htx:y.texts=x.texts)
  (hy:∀on tx i,i<9->(if i=j then (Value.int .i64 (.ofNat (bM w).1)) else (cmdL x on tx).getD i unk)=(cmdL y on tx).getD i unk) {K:H->R}
  (e:(onRow (hget h1 b) λs t u v1 w1 x=>ifB (notB v1) (ifB (beq (lenF [.int .i64 (.ofNat (bM w).1)]) 1) (ifB (ble w1 (Nat.add 0 j)) (ifB (ble (Nat.add (Nat.add 0 j) 1) t) (ifB (ble t 1000000000) (ifB (allF (λy=>cell1F y) [.int .i64 (.ofNat (bM w).1)]) (letH (hset h1 b (.row s t u false w1 (putF x (Nat.add 0 j) [.int .i64 (.ofNat (bM w).1)]))) K)))))))=X)
  (hK:K=λy=>k (.int .i64 (.ofNat (bM w).2)) y):fC B h b k X (if (bM w).2=0 then .ok y else .error (bM w).2):=by
 obtain⟨lo,lt,cells,on,tx,hq,hc,s1,s2,s3,s4⟩:=cr;have hq1:hget h1 b=.row 39 9 false false 0 cells:=(f.old b lt).trans hq;have hub:=f.ub;have hle:=f.le;rw[oB hq1 (show j+1<=9 by omega) rfl,hK] at e;have hb1:=dj.set (h:=h1) (B:=B) lo (by omega) (.row 39 9 false false 0 (putF cells j [.int .i64 (.ofNat (bM w).1)]));have hf:=((f.b (B:=B) (by omega)).trans hb1 (Jd _)).mono (show 1+0<=4 by omega);by_cases q:(bM w).2=0
 ·rw[if_pos q];refine⟨_,hf,?_,?_⟩
  ·rw[<-e,q]
  ·have o1:SO h1 on x.on:=s1.keep hle λc hc hl=>f.old c hl;have o2:SO h1 tx x.texts:=s2.keep hle λc hc hl=>f.old c hl;exact CR.put lo (by omega) (by omega) hj hc (by rw[hon];exact o1) (by rw[htx];exact o2) s3 s4 (λn op cs ee=>by rw[hq1] at ee;cases ee) (hy on tx)
 ·rw[if_neg q];exact⟨_,hf,e.symm⟩
include u in
theorem ajm (hR:kP rc Q) (cr:CR 39 B h b x) (hq:Q h) (hn:h.next<=800000000) (hw:w.length<=100000) (e:p50 E rc (.pointer (some ⟨b,0,none⟩)) (.int .u8 (.ofNat 110)) (ak w) h k=X):fC B h b k X (eE x .n w):=by
 have u5:=u.u5;unfold p50 at e;simp only[↓ah,↓hG u5,show beq 110 76=false from rfl,show beq 110 104=false from rfl,show beq 110 111=false from rfl,show beq 110 110=true from rfl,↓ax,↓aA] at e;obtain⟨h1,e1,f1⟩:=hR.num w h hw hq (by omega) _ _ e;replace e1:=e1.symm;simp only[↓bg,↓bB,↓du,↓aR,↓au,↓jF] at e1
 refine pr (w:=w) (j:=4) (y:={ x with n:=((bM w).1:Nat) }) cr f1 (by omega) hn rfl rfl (λon tx i hi=>by
   match i,hi with
   | 0,_=>rfl
   | 1,_=>rfl
   | 2,_=>rfl
   | 3,_=>rfl
   | 4,_=>rfl
   | 5,_=>rfl
   | 6,_=>rfl
   | 7,_=>rfl
   | 8,_=>rfl) e1 rfl
include u in
theorem akH (hR:kP rc Q) (cr:CR 39 B h b x) (hq:Q h) (hn:h.next<=800000000) (hw:w.length<=100000) (e:p50 E rc (.pointer (some ⟨b,0,none⟩)) (.int .u8 (.ofNat 109)) (ak w) h k=X):fC B h b k X (eE x .m w):=by
 have u5:=u.u5;unfold p50 at e;simp only[↓ah,↓hG u5,show beq 109 76=false from rfl,show beq 109 104=false from rfl,show beq 109 111=false from rfl,show beq 109 110=false from rfl,show beq 109 109=true from rfl,↓ax,↓aA] at e;obtain⟨h1,e1,f1⟩:=hR.num w h hw hq (by omega) _ _ e;replace e1:=e1.symm;simp only[↓bg,↓bB,↓du,↓aR,↓au,↓jF] at e1
 refine pr (w:=w) (j:=5) (y:={ x with m:=((bM w).1:Nat) }) cr f1 (by omega) hn rfl rfl (λon tx i hi=>by
   match i,hi with
   | 0,_=>rfl
   | 1,_=>rfl
   | 2,_=>rfl
   | 3,_=>rfl
   | 4,_=>rfl
   | 5,_=>rfl
   | 6,_=>rfl
   | 7,_=>rfl
   | 8,_=>rfl) e1 rfl
include u in
theorem alq (hR:kP rc Q) (cr:CR 39 B h b x) (hq:Q h) (hn:h.next<=800000000) (hw:w.length<=100000) (e:p50 E rc (.pointer (some ⟨b,0,none⟩)) (.int .u8 (.ofNat 107)) (ak w) h k=X):fC B h b k X (eE x .k w):=by
 have u5:=u.u5;unfold p50 at e;simp only[↓ah,↓hG u5,show beq 107 76=false from rfl,show beq 107 104=false from rfl,show beq 107 111=false from rfl,show beq 107 110=false from rfl,show beq 107 109=false from rfl,show beq 107 107=true from rfl,↓ax,↓aA] at e;obtain⟨h1,e1,f1⟩:=hR.num w h hw hq (by omega) _ _ e;replace e1:=e1.symm;simp only[↓bg,↓bB,↓du,↓aR,↓au,↓jF] at e1
 refine pr (w:=w) (j:=6) (y:={ x with k:=((bM w).1:Nat) }) cr f1 (by omega) hn rfl rfl (λon tx i hi=>by
   match i,hi with
   | 0,_=>rfl
   | 1,_=>rfl
   | 2,_=>rfl
   | 3,_=>rfl
   | 4,_=>rfl
   | 5,_=>rfl
   | 6,_=>rfl
   | 7,_=>rfl
   | 8,_=>rfl) e1 rfl
include u in
theorem Yh (hR:kP rc Q) (cr:CR 39 B h b x) (hq:Q h) (hn:h.next<=800000000) (hw:w.length<=100000) (e:p50 E rc (.pointer (some ⟨b,0,none⟩)) (.int .u8 (.ofNat 111)) (ak w) h k=X):fC B h b k X (eE x .o w):=by
 have u5:=u.u5;unfold p50 at e;simp only[↓ah,↓hG u5,show beq 111 76=false from rfl,show beq 111 104=false from rfl,show beq 111 111=true from rfl,↓ax,↓aA] at e;unfold ak at e;rw[rQ u] at e;unfold eE;by_cases qn : w = str "none"
 ·rw[show (w==[110,111,110,101])=true by rw[qn];rfl] at e;rw[if_pos qn];obtain⟨lo,lt,cells,on,tx,hq0,hc,s1,s2,s3,s4⟩:=cr;simp only[↓aA,↓aR,↓au,↓oB hq0 (show 4+1<=9 by omega) (show cell1F (.int .i64 (.negSucc 0))=true from rfl)] at e;refine⟨_,(dj.set lo (by omega) _).mono (by omega),e.symm,?_⟩;exact CR.put lo lt (by omega) (by omega) hc s1 s2 s3 s4 (λn op cs e=>by rw[hq0] at e;cases e) λi hi=>by
   match i,hi with
   | 0,_=>rfl
   | 1,_=>rfl
   | 2,_=>rfl
   | 3,_=>rfl
   | 4,_=>rfl
   | 5,_=>rfl
   | 6,_=>rfl
   | 7,_=>rfl
   | 8,_=>rfl
 ·rw[show (w==[110,111,110,101])=false from JM.2 (show ¬ w=[110,111,110,101] from qn)] at e;rw[if_neg qn];simp only[↓ax] at e;obtain⟨h1,e1,f1⟩:=hR.num w h hw hq (by omega) _ _ e;replace e1:=e1.symm;simp only[↓bg,↓bB,↓du,↓aR,↓au,↓jF] at e1
  refine pr (w:=w) (j:=4) (y:={ x with n:=((bM w).1:Nat) }) cr f1 (by omega) hn rfl rfl (λon tx i hi=>by
   match i,hi with
   | 0,_=>rfl
   | 1,_=>rfl
   | 2,_=>rfl
   | 3,_=>rfl
   | 4,_=>rfl
   | 5,_=>rfl
   | 6,_=>rfl
   | 7,_=>rfl
   | 8,_=>rfl) e1 rfl
include u in
theorem ach (hR:kP rc Q) (cr:CR 39 B h b x) (hn:h.next<=800000000) (e:p50 E rc (.pointer (some ⟨b,0,none⟩)) (.int .u8 (.ofNat 99)) (ak w) h k=X):fC B h b k X (eE x .c w):=by
 have u3:=u.u3;have u5:=u.u5;unfold p50 at e;simp only[↓ah,↓hG u5,show beq 99 76=false from rfl,show beq 99 104=false from rfl,show beq 99 111=false from rfl,show beq 99 110=false from rfl,show beq 99 109=false from rfl,show beq 99 107=false from rfl,show beq 99 99=true from rfl,↓ax,↓aA] at e;rw[hR.kinds h _ (by omega),hR.index _ h.next w _ (az _ _ (by omega))] at e;have f1:Fr h (ag h (.row 9 5 false false 0 (T.ofList unk (aZ.map ak)))) 1:=Fr.push _ (by omega);generalize ag h (.row 9 5 false false 0 (T.ofList unk (aZ.map ak)))=h1 at e f1;obtain⟨lo,lt,cells,on,tx,hq,hc,s1,s2,s3,s4⟩:=cr;have hub:=f1.ub;have hle:=f1.le;have hq1:hget h1 b=.row 39 9 false false 0 cells:=(f1.old b lt).trans hq;unfold eE;by_cases q:gD w aZ<5
 ·rw[if_pos q] at e;rw[if_pos q];rw[fj u3 (JY _)] at e;simp only[↓aW,↓ax,↓bC,aM (show gD w aZ<=255 by omega),↓aR,↓au,↓jF,↓oB hq1 (show 7+1<=9 by omega) (show cell1F (.int .u8 (.ofNat (gD w aZ)))=true from rfl)] at e;refine⟨_,((f1.b (B:=B) (by omega)).trans (dj.set lo (by omega) _) (Jd _)).mono (show 1+0<=4 by omega),e.symm,?_⟩;exact CR.put lo (by omega) (by omega) (by omega) hc (s1.keep hle λc hc hl=>f1.old c hl) (s2.keep hle λc hc hl=>f1.old c hl) s3 s4 (λn op cs e=>by rw[hq1] at e;cases e) λi hi=>by
   match i,hi with
   | 0,_=>rfl
   | 1,_=>rfl
   | 2,_=>rfl
   | 3,_=>rfl
   | 4,_=>rfl
   | 5,_=>rfl
   | 6,_=>rfl
   | 7,_=>rfl
   | 8,_=>rfl
 ·rw[if_neg q] at e;rw[if_neg q];rw[BJ u3] at e;simp only[↓aA] at e;exact⟨h1,(f1.b (B:=B) (by omega)).mono (by omega),e.symm⟩
include u T1 in
theorem aqw (hR:kP rc Q) (cr:CR 39 B h b x) (hq:Q h) (hn:h.next<=800000000) (hw:w.length<=100000) (hl1:x.on.length<=8500) (hl2:x.texts.length<=8500) (c:UInt8)
  (e:p50 E rc (.pointer (some ⟨b,0,none⟩)) (cF c) (ak w) h k=X):fC B h b k X (eE x (zZ c) w):=by
 unfold cF at e;unfold zZ;by_cases c1:c=76
 ·subst c1;exact XJ u cr hn hw e
 by_cases c2:c=104
 ·subst c2;exact ZZ u T1 cr hn hl1 e
 by_cases c3:c=111
 ·subst c3;exact Yh u hR cr hq hn hw e
 by_cases c4:c=110
 ·subst c4;exact ajm u hR cr hq hn hw e
 by_cases c5:c=109
 ·subst c5;exact akH u hR cr hq hn hw e
 by_cases c6:c=107
 ·subst c6;exact alq u hR cr hq hn hw e
 by_cases c7:c=99
 ·subst c7;exact ach u hR cr hn e
 have hne:∀{d:UInt8},c≠d->beq c.toNat d.toNat=false:=λ{d} h=>dB λe=>h (UInt8.toNat_inj.1 e);rw[if_neg c1,if_neg c2,if_neg c3,if_neg c4,if_neg c5,if_neg c6,if_neg c7];exact acH u T1 hR cr hn hl2 ⟨hne c1,hne c2,hne c3,hne c4,hne c5,hne c6,hne c7⟩ e
end
end Go.Ev.Pa
