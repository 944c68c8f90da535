/-
  WHAT IS PARSED OF A PRINTED SCRIPT is compared with its commands: the law's back, in abstract memory.
-/
import Derived.Test.YtglmdggjibmjcaaGreatDoorYk
import Derived.Test.YtglmdggjibmjcaaGreatDoorYh
import Derived.Test.YtglmdggjibmjcaaGreatDoorYg
noncomputable section
set_option linter.all false
set_option maxRecDepth 100000
set_option exponentiation.threshold 3000
open Nat (ble beq)
namespace Go.Ev
open Go F Go.Proofs
def UU (k:Value->H->R) (a:H):R:=ac (λ_ b=>ac (λ_ c=>ac (λ_ d=>ac (λ_ e=>ac (λ_ f=>k (.bool false) f) λf=>f undef e) λe=>e undef d) λd=>d undef c) λc=>c undef b) λb=>b undef a
def Va (k:Value->H->R) (a:H):R:=ac (λ_ b=>ac (λ_ c=>ac (λ_ d=>ac (λ_ e=>ac (λ_ f=>UU k f) λf=>f undef e) λe=>e undef d) λd=>d undef c) λc=>c undef b) λb=>b undef a
def U0 (k:Value->H->R) (a:H):R:=ac (λ_ b=>ac (λ_ c=>ac (λ_ d=>ac (λ_ e=>ac (λ_ f=>Va k f) λf=>f undef e) λe=>e undef d) λd=>d undef c) λc=>c undef b) λb=>b undef a
def Ur (k:Value->H->R) (a:H):R:=ac (λ_ b=>ac (λ_ c=>ac (λ_ d=>ac (λ_ e=>ac (λ_ f=>U0 k f) λf=>f undef e) λe=>e undef d) λd=>d undef c) λc=>c undef b) λb=>b undef a
def Up (k:Value->H->R) (a:H):R:=ac (λ_ b=>ac (λ_ c=>ac (λ_ d=>ac (λ_ e=>ac (λ_ f=>Ur k f) λf=>f undef e) λe=>e undef d) λd=>d undef c) λc=>c undef b) λb=>b undef a
def Uh (k:Value->H->R) (a:H):R:=ac (λ_ b=>ac (λ_ c=>ac (λ_ d=>ac (λ_ e=>ac (λ_ f=>Up k f) λf=>f undef e) λe=>e undef d) λd=>d undef c) λc=>c undef b) λb=>b undef a
def gX (a:Value) (b:Value->H->R) (c:H) (d:Value):R:=aF a (b undef c) (onPtr d λe=>onRow (hget c e.1) λ_ f _ _ _ g=>ifB (ble (Nat.succ e.2) f) (b (getF g e.2) c)) (b undef c)
def IN (a:Value) (b:Value->H->R) (c:H) (E:Env) (d e:Value):R:=aF a (b undef c) (binR (binC E .eql 5 false false) d e λf=>b f c) (b undef c)
def Be (a:Value) (b:Value->H->R) (c:H) (E:Env) (d e:Value):R:=aF a (b undef c) (binR (binC E .eql 3 false false) d e λf=>b f c) (b undef c)
def p20 (E:Env) (rc:RC) (a0:Value) (a1:Value) (h:H) (k:Value->H->R):R:=onCells a0 λa=>ifB (allF (λb=>cell1F b) a) (ifB (ble h.1 1000000000) (letH (ag h (.row 54 (lenF a) false false 0 (T.ofList unk a))) λb=>onCells a1 λc=>ifB (allF (λd=>cell1F d) c) (ifB (ble b.1 1000000000) (letH (ag b (.row 54 (lenF c) false false 0 (T.ofList unk c))) λd=>onRow (hget d h.1) λ_ e _ _ _ f=>ifB (ble 1 e) (onRow (hget d b.1) λ_ g _ _ _ i=>ifB (ble 1 g) (binR (binC E .eql 3 false false) (getF f 0) (getF i 0) λj=>ac (λl m=>ac (λn o=>ac (λp q=>ac (λr s=>ac (λt u=>onB j (ac (λ_ v=>ac (λ_ w=>ac (λ_ x=>ac (λ_ y=>ac (λ_ z=>Uh k z) λz=>z undef y) λy=>y undef x) λx=>x undef w) λw=>w undef v) λv=>v undef u) (ac (λv w=>ac (λx y=>ac (λz a2=>ac (λa3 a4=>ac (λa5 a6=>onB t (Uh k a6) (ac (λa7 a8=>ac (λa9 b0=>ac (λb1 b2=>ac (λb3 b4=>ac (λb5 b6=>onB a5 (Up k b6) (ac (λb7 b8=>ac (λb9 c0=>ac (λc1 c2=>ac (λc3 c4=>ac (λc5 c6=>onB b5 (Ur k c6) (ac (λc7 c8=>ac (λc9 d0=>ac (λd1 d2=>ac (λd3 d4=>ac (λd5 d6=>onB c5 (U0 k d6) (ac (λd7 d8=>ac (λd9 e0=>ac (λe1 e2=>ac (λe3 e4=>ac (λe5 e6=>onB d5 (Va k e6) (ac (λe7 e8=>ac (λe9 f0=>ac (λf1 f2=>ac (λf3 f4=>ac (λf5 f6=>onB e5 (UU k f6) (ac (λf7 f8=>ac (λf9 g0=>ac (λg1 g2=>ac (λg3 g4=>ac (λg5 g6=>onB f5 (k (.bool false) g6) (k g5 g6)) λg5=>aF f5 (g5 undef g4) (rc 41 [f9,g3] g4 g5) (g5 undef g4)) λg3=>gX f5 g3 g2 g1) λg1=>aF f5 (g1 undef g0) (g1 (.pointer (some (Addr.mk b.1 8 none))) g0) (g1 undef g0)) λf9=>gX f5 f9 f8 f7) λf7=>aF f5 (f7 undef f6) (f7 (.pointer (some (Addr.mk h.1 8 none))) f6) (f7 undef f6))) λf5=>aF e5 (f5 undef f4) (rc 41 [e9,f3] f4 f5) (f5 undef f4)) λf3=>gX e5 f3 f2 f1) λf1=>aF e5 (f1 undef f0) (f1 (.pointer (some (Addr.mk b.1 3 none))) f0) (f1 undef f0)) λe9=>gX e5 e9 e8 e7) λe7=>aF e5 (e7 undef e6) (e7 (.pointer (some (Addr.mk h.1 3 none))) e6) (e7 undef e6))) λe5=>IN d5 e5 e4 E d9 e3) λe3=>gX d5 e3 e2 e1) λe1=>aF d5 (e1 undef e0) (e1 (.pointer (some (Addr.mk b.1 7 none))) e0) (e1 undef e0)) λd9=>gX d5 d9 d8 d7) λd7=>aF d5 (d7 undef d6) (d7 (.pointer (some (Addr.mk h.1 7 none))) d6) (d7 undef d6))) λd5=>Be c5 d5 d4 E c9 d3) λd3=>gX c5 d3 d2 d1) λd1=>aF c5 (d1 undef d0) (d1 (.pointer (some (Addr.mk b.1 6 none))) d0) (d1 undef d0)) λc9=>gX c5 c9 c8 c7) λc7=>aF c5 (c7 undef c6) (c7 (.pointer (some (Addr.mk h.1 6 none))) c6) (c7 undef c6))) λc5=>Be b5 c5 c4 E b9 c3) λc3=>gX b5 c3 c2 c1) λc1=>aF b5 (c1 undef c0) (c1 (.pointer (some (Addr.mk b.1 5 none))) c0) (c1 undef c0)) λb9=>gX b5 b9 b8 b7) λb7=>aF b5 (b7 undef b6) (b7 (.pointer (some (Addr.mk h.1 5 none))) b6) (b7 undef b6))) λb5=>Be a5 b5 b4 E a9 b3) λb3=>gX a5 b3 b2 b1) λb1=>aF a5 (b1 undef b0) (b1 (.pointer (some (Addr.mk b.1 4 none))) b0) (b1 undef b0)) λa9=>gX a5 a9 a8 a7) λa7=>aF a5 (a7 undef a6) (a7 (.pointer (some (Addr.mk h.1 4 none))) a6) (a7 undef a6))) λa5=>aF t (a5 undef a4) (binR (binC E .eql 9 false false) x a3 λa6=>a5 a6 a4) (a5 undef a4)) λa3=>gX t a3 a2 z) λz=>aF t (z undef y) (z (.pointer (some (Addr.mk b.1 2 none))) y) (z undef y)) λx=>gX t x w v) λv=>aF t (v undef u) (v (.pointer (some (Addr.mk h.1 2 none))) u) (v undef u))) λt=>IN j t s E n r) λr=>gX j r q p) λp=>aF j (p undef o) (p (.pointer (some (Addr.mk b.1 1 none))) o) (p undef o)) λn=>gX j n m l) λl=>aF j (l undef d) (l (.pointer (some (Addr.mk h.1 1 none))) d) (l undef d)))))))
def ans (t:aN) (rc:RC) (a0:Value) (a1:Value) (h:H) (k:Value->H->R):(cf (EX t) KK 20).run rc [a0,a1] h k=p20 (EX t) rc a0 a1 h k:=by kernel_rfl
def xN (E:Env) (a a0 a1:Value) (k:Value->H->R) (b:aa [4]->H->R):(aa [4,13]->H->R)->aa [4,13]->H->R:=λc d e=>binR (binC E .lss 3 false false) d.2.1 a λf=>@joinR [] (λ_ g=>@joinR [4] (λh i=>binR (binC E .add 3 false true) d.2.1 (.int .i64 (.ofNat 1)) λj=>c (h.1,(j,())) i) λh=>ifB (ble g.1 1000000000) (letH (H.mk g.1 g.2) λi=>onNat d.2.1 none λj=>onSl a0 none λl m _=>ifB (ble (Nat.succ j) m) (addOffF l (Nat.mul j 1) λn=>onPtr n λo=>onRow (hget i o.1) λ_ p _ _ _ q=>ifB (ble (Nat.succ o.2) p) (onNat d.2.1 none λr=>onSl a1 none λs t _=>ifB (ble (Nat.succ r) t) (addOffF s (Nat.mul r 1) λu=>onPtr u λv=>onRow (hget i v.1) λ_ w _ _ _ x=>ifB (ble (Nat.succ v.2) w) (binR (binC E .neq 9 false false) (getF q o.2) (getF x v.2) λy=>@joinR [4] (λz a2=>h (z.1,()) a2) λz=>onB y (z (d.1,()) i) (k (.bool false) i))))))) λg=>onB f (b (d.1,()) e) (g () e)
def p41 (E:Env) (rc:RC) (a0:Value) (a1:Value) (h:H) (k:Value->H->R):R:=joinL (λa=>joinL (λb=>binR (binC E .neq 3 false false) a b λc=>@joinR [4] (λd e=>joinL (λf=>@joinR [4] (λ_ g=>k (.bool true) g) λg=>@loopF [4,13] (xN E f a0 a1 k g) cM (d.1,(.int .i64 (.ofNat 0),())) e) λf=>onSl a0 (bindO (aX E e 37 a0) f) λ_ g _=>f (.int .i64 (.ofNat g))) λd=>onB c (d (.bool false,()) h) (k (.bool false) h)) λb=>onSl a1 (bindO (aX E h 37 a1) b) λ_ c _=>b (.int .i64 (.ofNat c))) λa=>onSl a0 (bindO (aX E h 37 a0) a) λ_ b _=>a (.int .i64 (.ofNat b))
def amZ (t:aN) (rc:RC) (a0:Value) (a1:Value) (h:H) (k:Value->H->R):(cf (EX t) KK 41).run rc [a0,a1] h k=p41 (EX t) rc a0 a1 h k:=by kernel_rfl
end Go.Ev
namespace Go.Ev.Bk
open Go F Go.Proofs
section
def HJ {E:Env} (hE:E.und 3=some (.int .i64)) {cx cy:Bool} {a:Int} {k:Value->R}:binR (binC E .eql 3 cx cy) (.int .i64 a) (.int .i64 a) k=k (.bool true):=by
 cases a with
 | ofNat m=>exact (j1 hE).trans (by rw[JQ])
 | negSucc m=>
  have hb:ij E .eql 3 cx cy (.int .i64 (.negSucc m)) (.int .i64 (.negSucc m))=some (.bool true):=by show some (Value.bool (Int.negSucc m==Int.negSucc m))=_;rw[beq_self_eq_true]
  unfold binR binC;rw[hE];show bindO (ij E .eql 3 cx cy (.int .i64 (.negSucc m)) (.int .i64 (.negSucc m))) k=_;rw[hb];rfl
variable {E : Env} (u : US E) {rc : RC}
include u
theorem ahO {h:H} {v v':Value} {l:List Bs} (o:WL h v l) (o':WL h v' l) (hn:h.next<=900000000) (hl:l.length<=100000) (k:Value->H->R) (b:aa [4]->H->R):∀(d i N:Nat) (x:Value),i+d=l.length->d<N ->
  loopF (ks:=[4,13]) (xN E (.int .i64 (.ofNat l.length)) v v' k b) N (x,(.int .i64 (.ofNat i),())) h=b (x,()) h:=by
 have u3:=u.u3;intro d
 induction d with
 | zero=> intro i N x hi hN;obtain⟨N,rfl⟩:∃M,N=M+1:=⟨N-1,by omega⟩;rw[aT];unfold xN;dsimp only;rw[fj u3 (show l.length<=i by omega),ah];rfl
 | succ d ih=>
  intro i N x hi hN;obtain⟨N,rfl⟩:∃M,N=M+1:=⟨N-1,by omega⟩;have hlt:i<l.length:=by omega
  have key:=ih (i+1) N x (by omega) (by omega);rw[aT];generalize loopF (ks:=[4,13]) (xN E (.int .i64 (.ofNat l.length)) v v' k b) N=L at key ⊢;cases o with
  | nil=>exact absurd hlt (Jy _)
  | gar=>exact absurd hlt (Jy _)
  | row hb hq hm hcap hc=>
   cases o' with
   | nil=>exact absurd hlt (Jy _)
   | gar=>exact absurd hlt (Jy _)
   | row hb' hq' hm' hcap' hc'=>
    have hne:l ≠ []:=λq=>by rw[q] at hlt;exact absurd hlt (Jy _)
    rename_i bk of e0 m cap fz op ro cells bk' of' e0' m' cap' fz' op' ro' cells';have hqr:∀KK,onRow (hget h bk) KK=KK e0 m op ro fz cells:=λKK=>by rw[hq hne];rfl
    have hqr':∀KK,onRow (hget h bk') KK=KK e0' m' op' ro' fz' cells':=λKK=>by rw[hq' hne];rfl
    unfold xN;dsimp only;rw[gt u3 hlt,ah,aA];dsimp only;rw[ah,aj (show h.1<=1000000000 by show h.next<=_;omega),aD,Ey,bC,bp,aj (show i+1<=l.length by omega),bw,au];dsimp only;rw[hqr,aj (show of+i.mul 1+1<=m by show of+i*1+1<=m;omega),bC,bp,aj (show i+1<=l.length by omega),bw,au];dsimp only;rw[hqr',aj (show of'+i.mul 1+1<=m' by show of'+i*1+1<=m';omega),show of+i.mul 1=of+i by show of+i*1=_;omega,show of'+i.mul 1=of'+i by show of'+i*1=_;omega,hc i hlt,hc' i hlt];unfold ak;rw[Tl u,beq_self_eq_true,ah];rw[show (!true)=false from rfl,ax];dsimp only;rw[dr u3 (by omega),key]
variable (u30 : E.und 37 = some (.slice 9))
include u30
theorem GD {h:H} {v v':Value} {l:List Bs} (o:WL h v l) (o':WL h v' l) (hn:h.next<=900000000) (hl:l.length<=100000) (k:Value->H->R):p41 E rc v v' h k=k (.bool true) h:=by
 have u3:=u.u3;unfold p41;rw[aW];rw[fv (E:=E) (h':=h) o u30,aW,fv (E:=E) (h':=h) o' u30,Pa.neq_i64' u3,JQ,show (!true)=false from rfl];rw[ah,ax];dsimp only;rw[aW,fv (E:=E) (h':=h) o u30,ah];have hb:l.length<cM:=by unfold cM;omega
 rw[ahO u o o' hn hl k _ l.length 0 cM _ (JN _) hb]
omit u u30
def Alike (rc:RC):Prop:=∀(h:H) (v v':Value) (l:List Bs) (k:Value->H->R),WL h v l->WL h v' l->h.next<=900000000->l.length<=100000->rc 41 [v,v'] h k=k (.bool true) h
include u
theorem asn (hA:Alike rc) {h:H} (hn:h.next<=800000000) {ln:Int} {x:bV} {on tx on' tx':Value} (s1:WL h on x.on) (s2:WL h tx x.texts) (s1':WL h on' x.on) (s2':WL h tx' x.texts) (c1:cell1F on=true) (c2:cell1F tx=true) (c1':cell1F on'=true) (c2':cell1F tx'=true)
  (hl1:x.on.length<=100000) (hl2:x.texts.length<=100000) (k:Value->H->R):∃h',Fr h h' 2/\p20 E rc (.agg ⟨aO ln x on tx⟩) (.agg ⟨aO ln x on' tx'⟩) h k=k (.bool true) h':=by
 have u3:=u.u3;have u5:=u.u5;have f1:Fr h (ag h (.row 54 9 false false 0 (T.ofList unk (aO ln x on tx)))) 1:=Fr.push _ (by omega);have e1:hget (ag h (.row 54 9 false false 0 (T.ofList unk (aO ln x on tx)))) h.next=.row 54 9 false false 0 (T.ofList unk (aO ln x on tx)):=az _ _ (by omega);have n1:(ag h (.row 54 9 false false 0 (T.ofList unk (aO ln x on tx)))).next=h.next+1:=rfl;have hall:∀on tx,cell1F on=true->cell1F tx=true->allF (λb=>cell1F b) (aO ln x on tx)=true:=λon tx a b=>by rw[nB];unfold aO;simp only[JZ,List.all_nil,a,b];rfl
 unfold p20;rw[bP,aP (hall _ _ c1 c2),aj (show h.1<=1000000000 by show h.next<=_;omega),aD,show lenF (aO ln x on tx)=9 from rfl];generalize ag h (.row 54 9 false false 0 (T.ofList unk (aO ln x on tx)))=h1 at f1 e1 n1 ⊢;have f2:Fr h1 (ag h1 (.row 54 9 false false 0 (T.ofList unk (aO ln x on' tx')))) 1:=Fr.push _ (by omega);have e2:hget (ag h1 (.row 54 9 false false 0 (T.ofList unk (aO ln x on' tx')))) h1.next=.row 54 9 false false 0 (T.ofList unk (aO ln x on' tx')):=az _ _ (by omega);have n2:(ag h1 (.row 54 9 false false 0 (T.ofList unk (aO ln x on' tx')))).next=h1.next+1:=rfl;rw[bP,aP (hall _ _ c1' c2'),aj (show h1.1<=1000000000 by show h1.next<=_;omega),aD,show lenF (aO ln x on' tx')=9 from rfl];generalize ag h1 (.row 54 9 false false 0 (T.ofList unk (aO ln x on' tx')))=h2 at f2 e2 n2 ⊢;have e1':hget h2 h.next=.row 54 9 false false 0 (T.ofList unk (aO ln x on tx)):=(f2.old _ (by omega)).trans e1;have hq1:∀KK,onRow (hget h2 h.1) KK=KK 54 9 false false 0 (T.ofList unk (aO ln x on tx)):=λKK=>by rw[show h.1=h.next from rfl,e1'];rfl
 have hq2:∀KK,onRow (hget h2 h1.1) KK=KK 54 9 false false 0 (T.ofList unk (aO ln x on' tx')):=λKK=>by rw[show h1.1=h1.next from rfl,e2];rfl
 have g:∀on tx i v,(aO ln x on tx).getD i unk=v->getF (T.ofList unk (aO ln x on tx)) i=v:=λon tx i v e=>by rw[aI,e]
 have hf:Fr h h2 2:=f1.trans f2 (Jd _);have a3:∀KK,rc 41 [on,on'] h2 KK=KK (.bool true) h2:=λKK=>hA h2 on on' x.on KK (s1.fr hf) (s1'.fr hf) (by omega) hl1;have a8:∀KK,rc 41 [tx,tx'] h2 KK=KK (.bool true) h2:=λKK=>hA h2 tx tx' x.texts KK (s2.fr hf) (s2'.fr hf) (by omega) hl2;refine⟨h2,hf,?_⟩;have b0:ble 1 9=true:=rfl;have b1:ble (Nat.succ 1) 9=true:=rfl;have b2:ble (Nat.succ 2) 9=true:=rfl;have b3:ble (Nat.succ 3) 9=true:=rfl;have b4:ble (Nat.succ 4) 9=true:=rfl;have b5:ble (Nat.succ 5) 9=true:=rfl;have b6:ble (Nat.succ 6) 9=true:=rfl;have b7:ble (Nat.succ 7) 9=true:=rfl;have b8:ble (Nat.succ 8) 9=true:=rfl;have w0:=λon tx=>g on tx 0 (.int .i64 ln) rfl;have w1:=λon tx=>g on tx 1 (.int .u8 (.ofNat x.op)) rfl;have w2:=λon tx=>g on tx 2 (.string ⟨⟨x.label⟩⟩) rfl;have w3:=λon tx=>g on tx 3 on rfl;have w4:=λon tx=>g on tx 4 (.int .i64 x.n) rfl;have w5:=λon tx=>g on tx 5 (.int .i64 x.m) rfl;have w6:=λon tx=>g on tx 6 (.int .i64 x.k) rfl;have w7:=λon tx=>g on tx 7 (.int .u8 (.ofNat x.kind)) rfl;have w8:=λon tx=>g on tx 8 tx rfl;simp only[↓hq1,↓hq2,b0,b1,b2,b3,b4,b5,b6,b7,b8,↓di,w0,w1,w2,w3,w4,w5,w6,w7,w8,↓HJ u3,↓hG u5,↓rQ u,beq_self_eq_true,JQ,↓aE,↓aA,↓cu,gX,IN,Be,↓au,↓a3,↓a8]
end
end Go.Ev.Bk
namespace Go.Ev
open Go F Go.Proofs
def GU (a:Value) (b:Value->H->R) (c:H) (rc:RC) (d e f g:Value):R:=aF a (b undef c) (rc 10 [d,e,f,g] c b) (b undef c)
def KU (rc:RC) (a3:Value) (a:H) (E:Env) (k:Value->H->R) (b:aa [8]):R:=rc 11 [a3] a λc d=>onTup c λe=>nthF 0 e λf=>onTup c λg=>nthF 1 g λh=>onTup c λi=>nthF 2 i λj=>onTup c λl=>nthF 3 l λ_=>onTup c λm=>nthF 4 m λn=>binR (binC E .neq 25 false true) n (.int .i64 (.ofNat 0)) λo=>@joinR [8] (λ_ p=>rc 7 [f,h,j] p λq r=>onTup q λs=>nthF 0 s λt=>onTup q λu=>nthF 1 u λv=>binR (binC E .eql 25 false true) v (.int .i64 (.ofNat 0)) λw=>ac (λx y=>ac (λz a0=>ac (λa1 a2=>ac (λa4 a5=>ac (λa6 a7=>onB w (k (.bool false) a7) (k a6 a7)) λa6=>GU w a6 a5 rc x z a1 a4) λa4=>aF w (a4 undef a2) (a4 j a2) (a4 undef a2)) λa1=>aF w (a1 undef a0) (a1 h a0) (a1 undef a0)) λz=>aF w (z undef y) (z f y) (z undef y)) λx=>aF w (x undef r) (x t r) (x undef r)) λp=>onB o (p (b.1,()) d) (k (.bool true) d)
def aiC (rc:RC) (a0 a1 a2:Value) (a:H) (E:Env) (a3:Value) (k:Value->H->R) (b:aa [8]):R:=rc 7 [a0,a1,a2] a λc d=>onTup c λe=>nthF 0 e λf=>onTup c λg=>nthF 1 g λh=>binR (binC E .eql 25 false true) h (.int .i64 (.ofNat 0)) λi=>ac (λj l=>ac (λm n=>ac (λo p=>ac (λq r=>ac (λs t=>ac (λu v=>onB i (@joinR [8] (λw x=>KU rc a3 x E k w) λw=>w (b.1,()) v) (@joinR [8] (λw x=>KU rc a3 x E k w) λw=>onB u (w (b.1,()) v) (k (.bool false) v))) λu=>aF i (u undef t) (onB s (u (.bool true) t) (u (.bool false) t)) (u undef t)) λs=>GU i s r rc j m o q) λq=>aF i (q undef p) (q a2 p) (q undef p)) λo=>aF i (o undef n) (o a1 n) (o undef n)) λm=>aF i (m undef l) (m a0 l) (m undef l)) λj=>aF i (j undef d) (j f d) (j undef d)
def IR (rc:RC) (a0 a1 a2:Value) (E:Env) (a3:Value) (k:Value->H->R) (a:H):R:=@joinR [8] (λb c=>aiC rc a0 a1 a2 c E a3 k b) λ_=>k (.bool true) a
def alh (rc:RC) (a2:Value) (a:H) (a0 a1:Value) (E:Env) (a3:Value) (k:Value->H->R) (b:aa [8]):R:=rc 6 [a2] a λc d=>onB c (ac (λ_ e=>ac (λ_ f=>ac (λ_ g=>ac (λ_ h=>ac (λ_ i=>ac (λ_ j=>IR rc a0 a1 a2 E a3 k j) λj=>j undef i) λi=>i undef h) λh=>h undef g) λg=>g undef f) λf=>f undef e) λe=>e undef d) (ac (λe f=>ac (λg h=>ac (λi j=>ac (λl m=>ac (λn o=>ac (λp q=>onB i (@joinR [8] (λr s=>aiC rc a0 a1 a2 s E a3 k r) λr=>onB p (r (b.1,()) q) (k (.bool true) q)) (IR rc a0 a1 a2 E a3 k q)) λp=>aF i (binR (binC E .gtr 3 false true) n (.int .i64 (.ofNat 8000)) λq=>p q o) (p undef o) (p undef o)) λn=>aF i (bindO (aX E m 9 l) λo=>n o m) (n undef m) (n undef m)) λl=>aF i (l a3 j) (l undef j) (l undef j)) λi=>binR (binC E .gtr 3 false true) g (.int .i64 (.ofNat 60)) λj=>i j h) λg=>joinL (λh=>g h f) λh=>onSl e (bindO (aX E f 22 e) h) λ_ i _=>h (.int .i64 (.ofNat i))) λe=>e a2 d)
def p4 (E:Env) (rc:RC) (a0:Value) (a1:Value) (a2:Value) (a3:Value) (h:H) (k:Value->H->R):R:=rc 5 [] h λa b=>onB a (@joinR [8] (λc d=>alh rc a2 d a0 a1 E a3 k c) λ_=>k (.bool false) b) (@joinR [8] (λc d=>alh rc a2 d a0 a1 E a3 k c) λc=>c (.bool false,()) b)
def auZ (t:aN) (rc:RC) (a0:Value) (a1:Value) (a2:Value) (a3:Value) (h:H) (k:Value->H->R):(cf (EX t) KK 4).run rc [a0,a1,a2,a3] h k=p4 (EX t) rc a0 a1 a2 a3 h k:=by kernel_rfl
def sA (E:Env) (a b c:Value) (rc:RC) (k:Value->H->R) (d:aa [8]->H->R):(aa [8,50]->H->R)->aa [8,50]->H->R:=λe f g=>binR (binC E .lss 3 false false) f.2.1 a λh=>@joinR [] (λ_ i=>@joinR [8] (λj l=>binR (binC E .add 3 false true) f.2.1 (.int .i64 (.ofNat 1)) λm=>e (j.1,(m,())) l) λj=>onNat f.2.1 none λl=>onSl b none λm n _=>ifB (ble (Nat.succ l) n) (addOffF m (Nat.mul l 9) λo=>onPtr o λ_=>onPtr o λp=>onRow (hget i p.1) λ_ q _ _ _ r=>ifB (ble (Nat.succ p.2) q) (onNat f.2.1 none λs=>onSl c none λt u _=>ifB (ble (Nat.succ s) u) (addOffF t (Nat.mul s 9) λv=>onPtr v λ_=>onPtr v λw=>onCells (getF r p.2) λx=>onRow (hget i w.1) λy z a0 a1 a2 a3=>ifB (notB a1) (ifB (beq (lenF x) 1) (ifB (ble a2 w.2) (ifB (ble (Nat.add w.2 1) z) (ifB (ble z 1000000000) (ifB (allF (λa4=>cell1F a4) x) (letH (hset i w.1 (.row y z a0 false a2 (putF a3 w.2 x))) λa4=>ifB (ble a4.1 1000000000) (letH (H.mk a4.1 a4.2) λa5=>onNat f.2.1 none λa6=>onSl c none λa7 a8 _=>ifB (ble (Nat.succ a6) a8) (addOffF a7 (Nat.mul a6 9) λa9=>onPtr a9 λb0=>onRow (hget a5 b0.1) λ_ b1 _ _ _ b2=>ifB (ble (Nat.add b0.2 9) b1) (onNat f.2.1 none λb3=>onSl b none λb4 b5 _=>ifB (ble (Nat.succ b3) b5) (addOffF b4 (Nat.mul b3 9) λb6=>onPtr b6 λb7=>onRow (hget a5 b7.1) λ_ b8 _ _ _ b9=>ifB (ble (Nat.add b7.2 9) b8) (rc 20 [.agg ⟨ae b2 9 b0.2⟩,.agg ⟨ae b9 9 b7.2⟩] a5 λc0 c1=>onB c0 (@joinR [8] (λc2 c3=>j (c2.1,()) c3) λ_=>k (.bool false) c1) (@joinR [8] (λc2 c3=>j (c2.1,()) c3) λc2=>c2 (f.1,()) c1)))))))))))))))) λi=>onB h (d (f.1,()) g) (i () g)
def Ir (rc:RC) (a3:Value) (a:H) (b:Value) (k:Value->H->R) (E:Env) (c:aa [8]):R:=rc 9 [a3] a λd e=>rc 9 [b] e λf g=>joinL (λh=>@joinR [8] (λ_ i=>k (.bool true) i) λi=>@loopF [8,50] (sA E h f d rc k i) cM (c.1,(.int .i64 (.ofNat 0),())) g) λh=>onSl d (bindO (aX E g 30 d) h) λ_ i _=>h (.int .i64 (.ofNat i))
def Uy (rc:RC) (a3 a:Value) (k:Value->H->R) (E:Env) (b:H):R:=@joinR [8] (λc d=>Ir rc a3 d a k E c) λ_=>k (.bool false) b
def Aq (a:Value) (E:Env) (b c:Value) (d:Value->H->R) (e:H):R:=aF a (binR (binC E .neq 3 false false) b c λf=>d f e) (d undef e) (d undef e)
def EV (a:Value) (b:Value->H->R) (c:H) (d:Value) (E:Env):R:=aF a (joinL (λe=>b e c) λe=>onSl d (bindO (aX E c 22 d) e) λ_ f _=>e (.int .i64 (.ofNat f))) (b undef c) (b undef c)
def UL (rc:RC) (a3 a:Value) (k:Value->H->R) (E:Env) (b:H):R:=ac (λ_ c=>ac (λ_ d=>ac (λ_ e=>ac (λ_ f=>ac (λ_ g=>Uy rc a3 a k E g) λg=>g undef f) λf=>f undef e) λe=>e undef d) λd=>d undef c) λc=>c undef b
def p10 (E:Env) (rc:RC) (a0:Value) (a1:Value) (a2:Value) (a3:Value) (h:H) (k:Value->H->R):R:=rc 11 [a0] h λa b=>onTup a λc=>nthF 0 c λd=>onTup a λe=>nthF 1 e λf=>onTup a λg=>nthF 2 g λi=>onTup a λj=>nthF 3 j λ_=>onTup a λl=>nthF 4 l λm=>binR (binC E .neq 25 false true) m (.int .i64 (.ofNat 0)) λn=>ac (λo p=>ac (λq r=>ac (λs t=>onB n (ac (λu v=>ac (λw x=>ac (λy z=>onB s (ac (λa4 a5=>ac (λa6 a7=>ac (λa8 a9=>ac (λb0 b1=>ac (λb2 b3=>onB y (@joinR [8] (λb4 b5=>Ir rc a3 b5 i k E b4) λb4=>onB b2 (b4 (.bool false,()) b3) (k (.bool false) b3)) (Uy rc a3 i k E b3)) λb2=>Aq y E a6 b0 b2 b1) λb0=>EV y b0 a9 a8 E) λa8=>aF y (a8 i a7) (a8 undef a7) (a8 undef a7)) λa6=>EV y a6 a5 a4 E) λa4=>aF y (a4 a3 z) (a4 undef z) (a4 undef z)) (UL rc a3 i k E z)) λy=>Aq s E u w y x) λw=>aF s (w a2 v) (w undef v) (w undef v)) λu=>aF s (u f t) (u undef t) (u undef t)) (ac (λ_ u=>ac (λ_ v=>ac (λ_ w=>UL rc a3 i k E w) λw=>w undef v) λv=>v undef u) λu=>u undef t)) λs=>Aq n E o q s r) λq=>aF n (q a1 p) (q undef p) (q undef p)) λo=>aF n (o d b) (o undef b) (o undef b)
def WW (t:aN) (rc:RC) (a0:Value) (a1:Value) (a2:Value) (a3:Value) (h:H) (k:Value->H->R):(cf (EX t) KK 10).run rc [a0,a1,a2,a3] h k=p10 (EX t) rc a0 a1 a2 a3 h k:=by kernel_rfl
end Go.Ev
namespace Go.Ev.Bk
open Go F Go.Proofs
open Go.Ev.Pa (EB yg tB tB_ok)
def IZ:UT EB:={ u3:=by kernel_rfl,u5:=by kernel_rfl,u9:=by kernel_rfl,u37:=by kernel_rfl,z9:=by kernel_rfl,u21:=by kernel_rfl }
def GE:EB.und 22=some (.slice 39):=by kernel_rfl
def aw7:EB.und 30=some (.slice 54):=by kernel_rfl
def Qa:EB.und 25=some (.int .i64):=by kernel_rfl
def aw2:ug EB 37 9 1 ((EB.info 9).getD default) [.string ⟨⟨[]⟩⟩]:=⟨by kernel_rfl,by kernel_rfl,by kernel_rfl,of_decide_eq_true (by kernel_rfl),by kernel_rfl,rfl,by decide,by decide⟩
def awR:ug EB 30 54 9 ((EB.info 54).getD default) ((cK EB 54).getD []):=⟨by kernel_rfl,by kernel_rfl,by kernel_rfl,of_decide_eq_true (by kernel_rfl),by kernel_rfl,by kernel_rfl,by decide,by decide⟩
def awe:B54 EB:=λln n m k op kd lb a1 a2 n1 c1 n2 c2=>by kernel_rfl
def cvB {f:FuncId} {args:List Value} {h:H} {k:Value->H->R} {X:R} {m:Nat} (hn:tB.get f=none) (e:(cf (EX tB) KK f).run (ar EB KK m) args h k=X):ar EB KK (m+1) f args h k=X:=by show (bR EB KK f).run _ _ _ _=_;rw[show bR EB KK f=cf EB KK f from bY hn,yg];exact e
def cv4 (m:Nat) (a0 a1 a2 a3:Value) (h:H) (k:Value->H->R):ar EB KK (m+1) 4 [a0,a1,a2,a3] h k=p4 EB (ar EB KK m) a0 a1 a2 a3 h k:=cvB (by kernel_rfl) (auZ tB _ a0 a1 a2 a3 h k)
def cv6 (m:Nat) (a0:Value) (h:H) (k:Value->H->R):ar EB KK (m+1) 6 [a0] h k=p6 EB (ar EB KK m) a0 h k:=cvB (by kernel_rfl) (aqS tB _ a0 h k)
def cv9 (m:Nat) (a0:Value) (h:H) (k:Value->H->R):ar EB KK (m+1) 9 [a0] h k=p9 EB (ar EB KK m) a0 h k:=cvB (by kernel_rfl) (asO tB _ a0 h k)
def av0 (m:Nat) (a0 a1 a2 a3:Value) (h:H) (k:Value->H->R):ar EB KK (m+1) 10 [a0,a1,a2,a3] h k=p10 EB (ar EB KK m) a0 a1 a2 a3 h k:=cvB (by kernel_rfl) (WW tB _ a0 a1 a2 a3 h k)
def awh (m:Nat) (a0 a1:Value) (h:H) (k:Value->H->R):ar EB KK (m+1) 20 [a0,a1] h k=p20 EB (ar EB KK m) a0 a1 h k:=cvB (by kernel_rfl) (ans tB _ a0 a1 h k)
def awX (m:Nat) (a0 a1:Value) (h:H) (k:Value->H->R):ar EB KK (m+1) 41 [a0,a1] h k=p41 EB (ar EB KK m) a0 a1 h k:=cvB (by kernel_rfl) (amZ tB _ a0 a1 h k)
def k41 (m:Nat):Alike (ar EB KK (m+1)):=λh v v' l k o o' hn hl=>(awX m v v' h k).trans (GD IZ.toUS IZ.u37 o o' hn hl k)
def S20 (rc:RC):Prop:=∀(h:H) (ln:Int) (x:bV) (on tx on' tx':Value) (k:Value->H->R),h.next<=800000000->WL h on x.on->WL h tx x.texts->WL h on' x.on->WL h tx' x.texts->x.on.length<=100000->x.texts.length<=100000 ->
 ∃h',Fr h h' 2/\rc 20 [.agg ⟨aO ln x on tx⟩,.agg ⟨aO ln x on' tx'⟩] h k=k (.bool true) h'
def k20 (m:Nat):S20 (ar EB KK (m+2)):=λh ln x on tx on' tx' k hn s1 s2 s1' s2' hl1 hl2=>by obtain⟨h',f,e⟩:=asn (ln:=ln) IZ.toUS (rc:=ar EB KK (m+1)) (k41 m) hn s1 s2 s1' s2' s1.cell1 s2.cell1 s1'.cell1 s2'.cell1 hl1 hl2 k;exact⟨h',f,(awh (m+1) _ _ h k).trans e⟩
def W0 (h0:H) (h:H) (v:Value) (l:List Bs):Prop:=WL h0 v l/\bu h0 h
def apb (h0:H):mK (W0 h0):=⟨λh h' v l o f=>⟨o.1,o.2.trans f⟩,λh v l o=>o.1.frB (B:=0) o.2.le o.2.old⟩
def cw0 {h0 h:H} {v:Value} {l:List bV} (o:CW WL h0 v l) (f:bu h0 h):CW (W0 h0) h v l:=by
 cases o with
 | nil=>exact .nil
 | row hb hq hm hc=> refine .row (Jp hb f.le) (λq=>(f.old _ hb).trans (hq q)) hm λi hi hi2=>?_;obtain⟨ln,von,vtx,e,w1,w2⟩:=hc i hi hi2;exact⟨ln,von,vtx,e,⟨w1,f⟩,⟨w2,f⟩⟩
def of_run (m:Nat) {h0 h:H} {l:List bV} (hl:l.length<=1001) {v:Value} (o:CW (W0 h0) h v l) (hn:h.next<=600000000) (k:Value->H->R) (X:R) (e:ar EB KK (m+1) 9 [v] h k=X):
  ∃h' v' L,X=k v' h'/\OF (W0 h0) h h' v' l l.length L/\dj h.next h h' 4004:=by
 have e:=(cv9 m v h k).symm.trans e;unfold p9 at e;rw[aW,lY GE o,ah] at e;obtain⟨h',v',L,e1,of,f⟩:=apU IZ awR awe (apb h0) hl o _ l.length 0 cM (.slice none 0 0) [] h X (by omega) (by unfold cM;omega) (bu.refl _) ⟨.nil,rfl,(λb hb=>nomatch hb),(λi hi=>absurd hi (Jy _))⟩ (by omega) e;exact⟨h',v',L,e1,of,f.mono (by omega)⟩
def alw {h:H} {L:List Value} {l:List bV} (r:Pa.LR h L l):L.length=l.length*9:=by
 induction r with
 | nil=>rfl
 | snoc r s1 s2 ih=>rw[Jt,Jt,ih,show (Pa.cmdL _ _ _).length=9 from rfl];simp;omega
def at6 {h:H} {L:List Value} {l:List bV} (r:Pa.LR h L l):∀(i:Nat) (hi:i<l.length),∃on tx,(∀j,j<9->L.getD (i*9+j) unk=(aO (.ofNat l[i].line) l[i] on tx).getD j unk)/\SO h on (l[i]).on/\SO h tx (l[i]).texts:=by
 induction r with
 | nil=>intro i hi;exact absurd hi (Jy _)
 | snoc r s1 s2 ih=>
  rename_i L l c on tx;intro i hi;have hl:=alw r;rw[Jt,J7] at hi;by_cases q:i<l.length
  ·obtain⟨on',tx',h1,h2,h3⟩:=ih i q;refine⟨on',tx',λj hj=>?_,?_,?_⟩
   ·rw[List.getElem_append_left q,<-h1 j hj,Jc,Jc,Kj (by omega)]
   ·rw[List.getElem_append_left q];exact h2
   ·rw[List.getElem_append_left q];exact h3
  ·obtain rfl:i=l.length:=by omega
   refine⟨on,tx,λj hj=>?_,?_,?_⟩
   ·rw[List.getElem_append_right (Jd _),Jc,KA (by omega),show l.length*9+j-L.length=j by omega,<-Jc];simp only[Nat.sub_self,List.getElem_cons_zero];rfl
   ·rw[List.getElem_append_right (Jd _)];simpa using s1
   ·rw[List.getElem_append_right (Jd _)];simpa using s2
def UO {h:H} {v:Value} {l:List bV} (c:Pa.CL 39 h v l):CW WL h v l/\nD v:=by
 obtain⟨L,o,r⟩:=c;have ha:=at6 r;generalize hn:l.length=n at o;cases o with
 | nil=> have:l=[]:=List.length_eq_zero_iff.1 hn;subst this;exact⟨.nil,Jd _⟩
 | row hb hq hL hc hp=> subst hn;refine⟨.row (o:=0) hb (λ_=>hq) (by omega) λi hi _=>?_,show l.length<=_ / 2 by omega⟩;obtain⟨on,tx,h1,h2,h3⟩:=ha i hi;refine⟨.ofNat l[i].line,on,tx,?_,h2.wl,h3.wl⟩;rw[dK,JN];refine dD (aO (.ofNat l[i].line) l[i] on tx) _ (i*9) λj hj=>?_;have hj:j<9:=hj;rw[<-bI,hc _ (by rw[hL];omega),h1 j hj]
def Ft {x y:bV} (e:strip x=strip y) (ln:Int) (a b:Value):aO ln x a b=aO ln y a b/\x.on=y.on/\x.texts=y.texts:=by obtain⟨x1,x2,x3,x4,x5,x6,x7,x8,x9⟩:=x;obtain⟨y1,y2,y3,y4,y5,y6,y7,y8,y9⟩:=y;unfold strip at e;simp only[bV.mk.injEq,true_and] at e;obtain⟨rfl,rfl,rfl,rfl,rfl,rfl,rfl,rfl⟩:=e;exact⟨rfl,rfl,rfl⟩
def yp {cells:T Value} {L:List Value} {ln:Int} {x:bV} {on tx:Value} {o:Nat} (h:∀j,j<9->getF cells (o+j)=L.getD j unk) (e:L=aO ln x on tx):ae cells 9 o=aO ln x on tx:=by subst e;rw[dK];refine dD (aO ln x on tx) _ o λj hj=>?_;have hj:j<9:=hj;rw[<-bI,h j hj]
def ahv {rc:RC} (hS:S20 rc) {h0 h2:H} {l l2:List bV} (he:l.map strip=l2.map strip) (hln:l.length<=1001) (hl:∀c∈l,c.on.length<=100000/\c.texts.length<=100000) {A B ca cb:Nat} {opA opB:Bool} {La Lb:List Value} {cellsB:T Value}
  (cN:h0.next<=A) (hA:A<h2.next) (hB:B<h2.next) (hAB:A≠B) (hold:∀id,id<h0.next->hget h2 id=hget h0 id)
  (cA:∀i,(hi:i<l.length)->∃ln von vtx,(∀j,j<9->La.getD (i*9+j) unk=(aO ln l[i] von vtx).getD j unk)/\WL h0 von l[i].on/\WL h0 vtx l[i].texts)
  (cB:∀i,(hi:i<l2.length)->∃ln von vtx,(∀j,j<9->Lb.getD (i*9+j) unk=(aO ln l2[i] von vtx).getD j unk)/\WL h0 von l2[i].on/\WL h0 vtx l2[i].texts)
  (qB:hget h2 B=.row 54 (l.length*9) opB false 0 cellsB) (gB:∀j,j<l.length*9->getF cellsB j=Lb.getD j unk) (k:Value->H->R) (b:aa [8]->H->R):
  ∀(d i N:Nat) (x:Value) (h:H) (cells:T Value) (X:R),i+d=l.length->d<N->h2.next<=h.next->(∀id,id<h2.next->id≠A->hget h id=hget h2 id) ->
   hget h A=.row 54 (l.length*9) opA false 0 cells->(∀j,i*9<=j->j<l.length*9->getF cells j=La.getD j unk)->h.next+d*2<=700000000 ->
   @loopF [8,50] (sA EB (.int .i64 (.ofNat l.length)) (.slice (some ⟨B,0,none⟩) l.length cb) (.slice (some ⟨A,0,none⟩) l.length ca) rc k b) N (x,(.int .i64 (.ofNat i),())) h=X ->
   ∃h' x',X=b (x',()) h'/\h.next<=h'.next/\h'.next<=h.next+d*2/\∀id,id<h0.next->hget h' id=hget h0 id:=by
 have u3:=IZ.u3;have hlen:l.length=l2.length:=by have:=congrArg List.length he;simpa using this
 intro d
 induction d with
 | zero=> intro i N x h cells X hi hN hle hk qA gA hn e;obtain⟨N,rfl⟩:∃M,N=M+1:=⟨N-1,by omega⟩;rw[aT] at e;unfold sA at e;dsimp only at e;rw[fj u3 (by omega),ah,ax] at e;exact⟨h,x,e.symm,Jd _,by omega,λid hid=>(hk id (by omega) (by omega)).trans (hold id hid)⟩
 | succ d ih=>
  intro i N x h cells X hi hN hle hk qA gA hn e;obtain⟨N,rfl⟩:∃M,N=M+1:=⟨N-1,by omega⟩;have hlt:i<l.length:=by omega
  have hlt2:i<l2.length:=by omega
  obtain⟨ln,von,vtx,a1,a2,a3⟩:=cA i hlt;obtain⟨ln2,von2,vtx2,b1,b2,b3⟩:=cB i hlt2;have hst:strip l[i]=strip l2[i]:=by have:=congrArg (λt=>t[i]?) he;simpa [JX,hlt,hlt2] using this
  have hs:=Ft hst;rw[aT] at e;generalize hL:@loopF [8,50] (sA EB (.int .i64 (.ofNat l.length)) (.slice (some ⟨B,0,none⟩) l.length cb) (.slice (some ⟨A,0,none⟩) l.length ca) rc k b) N=L at e;have hqB:∀g,h2.next<=g.next->(∀id,id<h2.next->id≠A->hget g id=hget h2 id)->∀K,onRow (hget g B) K=K 54 (l.length*9) opB false 0 cellsB:=λg _ hg K=>by rw[hg B hB (Ne.symm hAB),qB];rfl
  unfold sA at e;dsimp only at e;rw[gt u3 hlt,ah,aA] at e;dsimp only at e;rw[ah,bC,bp,aj (show Nat.succ i<=l.length from hlt),bw,au,au] at e;dsimp only at e;rw[hqB h hle hk,aj (show Nat.succ (0+Nat.mul i 9)<=l.length*9 by show 0+i*9+1<=_;omega),bC,bp,aj (show Nat.succ i<=l.length from hlt),bw,au,au] at e;dsimp only at e;have hz:0+Nat.mul i 9=i*9:=JN _;have g0:getF cellsB (0+Nat.mul i 9)=.int .i64 ln2:=by rw[hz,gB _ (by omega)];have:=b1 0 (by omega);rw[Kp] at this;rw[this];rfl
  rw[g0,kq,qA] at e;rw[show ∀K,onRow (.row 54 (l.length*9) opA false 0 cells) K=K 54 (l.length*9) opA false 0 cells from λK=>rfl] at e;rw[aP (show notB false=true from rfl),aP (show beq (lenF [Value.int .i64 ln2]) 1=true from rfl),aj (JY _),aj (show Nat.add (0+Nat.mul i 9) 1<=l.length*9 by show 0+i*9+1<=_;omega),aj (show l.length*9<=1000000000 by omega),aP (show allF (λa4=>cell1F a4) [Value.int .i64 ln2]=true from rfl),aD] at e;have hA9:A<=1000000000:=by omega
  have qA3:hget (hset h A (.row 54 (l.length*9) opA false 0 (putF cells (0+Nat.mul i 9) [.int .i64 ln2]))) A=.row 54 (l.length*9) opA false 0 (putF cells (0+Nat.mul i 9) [.int .i64 ln2]):=bj _ _ _ hA9;have hk3:∀id,id≠A->hget (hset h A (.row 54 (l.length*9) opA false 0 (putF cells (0+Nat.mul i 9) [.int .i64 ln2]))) id=hget h id:=λid hid=>by rw[bS _ _ _ _ hA9,if_neg hid]
  have n3:(hset h A (.row 54 (l.length*9) opA false 0 (putF cells (0+Nat.mul i 9) [.int .i64 ln2]))).next=h.next:=rfl;generalize hset h A (.row 54 (l.length*9) opA false 0 (putF cells (0+Nat.mul i 9) [.int .i64 ln2]))=h3 at e qA3 hk3 n3;have g3:∀j,getF (putF cells (0+Nat.mul i 9) [.int .i64 ln2]) j=if j=i*9 then .int .i64 ln2 else getF cells j:=λj=>by
   rw[fF,bI,bI,bJ _ _ _ (by show 0+i*9+1<=_;omega),hz];by_cases q:j=i*9
   ·rw[if_pos q,if_pos ⟨by omega,by show j<i*9+1;omega⟩,q,Nat.sub_self];rfl
   ·rw[if_neg q,if_neg (λh=>by have:j<i*9+1:=h.2;omega)]
  generalize putF cells (0+Nat.mul i 9) [.int .i64 ln2]=cells3 at qA3 g3;rw[aj (show h3.1<=1000000000 by show h3.next<=_;omega),aD,Ey,bC,bp,aj (show Nat.succ i<=l.length from hlt),bw,au] at e;dsimp only at e;rw[qA3] at e;rw[show ∀K,onRow (.row 54 (l.length*9) opA false 0 cells3) K=K 54 (l.length*9) opA false 0 cells3 from λK=>rfl] at e;have hk32:∀id,id<h2.next->id≠A->hget h3 id=hget h2 id:=λid h1 h2=>(hk3 id h2).trans (hk id h1 h2);rw[aj (show Nat.add (0+Nat.mul i 9) 9<=l.length*9 by show 0+i*9+9<=_;omega),bC,bp,aj (show Nat.succ i<=l.length from hlt),bw,au] at e;dsimp only at e;rw[hqB h3 (by omega) hk32,aj (show Nat.add (0+Nat.mul i 9) 9<=l.length*9 by show 0+i*9+9<=_;omega)] at e;have e1:ae cells3 9 (0+Nat.mul i 9)=aO ln2 l[i] von vtx:=by
   rw[hz];refine yp (L:=aO ln2 l[i] von vtx) (λj hj=>?_) rfl;rw[g3];by_cases q:i*9+j=i*9
   ·obtain rfl:j=0:=by omega
    rw[if_pos q];rfl
   ·rw[if_neg q,gA _ (by omega) (by omega),a1 j hj]
    match j,q with
    | 0,q=>exact absurd rfl q
    | j+1,_=>rfl
  have e2:ae cellsB 9 (0+Nat.mul i 9)=aO ln2 l[i] von2 vtx2:=by rw[hz,(hs ln2 von2 vtx2).1];exact yp (L:=aO ln2 l2[i] von2 vtx2) (λj hj=>by rw[gB _ (by omega),b1 j hj]) rfl
  rw[e1,e2] at e;have w:∀{v:Value} {m:List Bs},WL h0 v m->WL h3 v m:=λo=>o.frB (B:=0) (by omega) λid hid=>(hk32 id (by omega) (by omega)).trans (hold id hid);obtain⟨h4,f4,e4⟩:=hS h3 ln2 l[i] von vtx von2 vtx2 _ (by omega) (w a2) (w a3) (w ((hs ln2 von vtx).2.1 ▸ b2)) (w ((hs ln2 von vtx).2.2 ▸ b3)) (hl _ (J6 hlt)).1 (hl _ (J6 hlt)).2;have e:=e4.symm.trans e;rw[aA,ah] at e;dsimp only at e;rw[dr u3 (by omega)] at e;have hu:=f4.ub;have hl4:=f4.le;obtain⟨h5,x5,r1,r2,r3,r4⟩:=ih (i+1) N x h4 cells3 X (by omega) (by omega) (by omega) (λid h1 h2'=>(f4.old id (by omega)).trans (hk32 id h1 h2')) ((f4.old A (by omega)).trans qA3)
   (λj h1 h2'=>by rw[g3,if_neg (by omega)];exact gA j (by omega) h2') (by omega) (by rw[hL];exact e)
  exact⟨h5,x5,r1,by omega,by omega,r4⟩
end Go.Ev.Bk
