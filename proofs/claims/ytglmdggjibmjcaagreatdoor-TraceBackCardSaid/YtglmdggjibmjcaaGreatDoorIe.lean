/-
  CALLS IN WHICH SOME FUNCTIONS RUN AS PLAIN LEAN.
-/
import Derived.Test.YtglmdggjibmjcaaGreatDoorId
noncomputable section
set_option linter.all false
set_option maxRecDepth 100000
open Nat (ble beq)
namespace Go.Ev
open Go F Go.Proofs
def ak0 (E:Env)(rc:RC)(a0 a1:Value)(h:H)(k:Value->H->R):R:=onCells a0 λa=>ifB (allF (λb=>cell1F b) a) (ifB (ble h.1 1000000000) (letH (ag h (.row 430 (lenF a) false false 0 (T.ofList unk a))) λb=>binR (binC E .geq 3 (bi (.tmp 5)) (bi (.const (.int .i64 0)))) a1 (.int .i64 (.ofNat 0)) λc=>ac (λd e=>ac (λf g=>ac (λi j=>ac (λl m=>ac (λn o=>onB c (k (.bool false) o) (k n o)) λn=>aF c (n undef m) (binR (binC E .lss 3 (bi (.tmp 8)) (bi (.tmp 11))) d l λo=>n o m) (n undef m)) λl=>aF c (l undef j) (onSl i (bindO (aX E j 320 i) λm=>l m j) λ_ m _=>l (.int .i64 (.ofNat m)) j) (l undef j)) λi=>aF c (i undef g) (onPtr f λj=>onRow (hget g j.1) λ_ l _ _ _ m=>ifB (ble (Nat.succ j.2) l) (i (getF m j.2) g)) (i undef g)) λf=>aF c (f undef e) (f (.pointer (some (Addr.mk h.1 0 none))) e) (f undef e)) λd=>aF c (d undef b) (d a1 b) (d undef b)))
def J3 (t:aN)(rc:RC)(a0 a1:Value)(h:H)(k:Value->H->R):(cf (EX t) KK 507).run rc [a0,a1] h k = ak0 (EX t) rc a0 a1 h k:=by kernel_rfl
def Xp (E:Env)(rc:RC)(a0 a1:Value)(h:H)(k:Value->H->R):R:=onCells a0 λa=>ifB (allF (λb=>cell1F b) a) (ifB (ble h.1 1000000000) (letH (ag h (.row 430 (lenF a) false false 0 (T.ofList unk a))) λb=>onRow (hget b h.1) λ_ c _ _ _ d=>ifB (ble (Nat.succ 0) c) (bindO (dm E 320 (getF d 0) none (some a1) none) λe=>onSl e (bindO (aX E b 320 e) λf=>@joinR [5] (λg i=>k g.1 i) λg=>@loopF [5,13] (λi j l=>binR (binC E .lss 3 (bi (.tmp 13)) (bi (.tmp 12))) j.2.1 f λm=>@joinR [] (λ_ n=>@joinR [5] (λo p=>binR (binC E .add 3 (bi (.tmp 13)) (bi (.const (.int .i64 1)))) j.2.1 (.int .i64 (.ofNat 1)) λq=>i (o.1,(q,())) p) λo=>onNat j.2.1 none λp=>onSl e none λq r _=>ifB (ble (Nat.succ p) r) (addOffF q (Nat.mul p 1) λs=>onPtr s λt=>onRow (hget n t.1) λ_ u _ _ _ v=>ifB (ble (Nat.succ t.2) u) (binR (binC E .add 3 (bi (.tmp 17)) (bi (.tmp 18))) j.1 (getF v t.2) λw=>o (w,()) n))) λn=>onB m (g (j.1,()) l) (n () l)) 1000000 (.int .i64 (.ofNat 0),(.int .i64 (.ofNat 0),())) b) λ_ f _=>@joinR [5] (λg i=>k g.1 i) λg=>@loopF [5,13] (λi j l=>binR (binC E .lss 3 (bi (.tmp 13)) (bi (.tmp 12))) j.2.1 (.int .i64 (.ofNat f)) λm=>@joinR [] (λ_ n=>@joinR [5] (λo p=>binR (binC E .add 3 (bi (.tmp 13)) (bi (.const (.int .i64 1)))) j.2.1 (.int .i64 (.ofNat 1)) λq=>i (o.1,(q,())) p) λo=>onNat j.2.1 none λp=>onSl e none λq r _=>ifB (ble (Nat.succ p) r) (addOffF q (Nat.mul p 1) λs=>onPtr s λt=>onRow (hget n t.1) λ_ u _ _ _ v=>ifB (ble (Nat.succ t.2) u) (binR (binC E .add 3 (bi (.tmp 17)) (bi (.tmp 18))) j.1 (getF v t.2) λw=>o (w,()) n))) λn=>onB m (g (j.1,()) l) (n () l)) 1000000 (.int .i64 (.ofNat 0),(.int .i64 (.ofNat 0),())) b)))
def LF (t:aN)(rc:RC)(a0 a1:Value)(h:H)(k:Value->H->R):(cf (EX t) KK 506).run rc [a0,a1] h k = Xp (EX t) rc a0 a1 h k:=by kernel_rfl
def Vp (E:Env)(rc:RC)(a0 a1:Value)(h:H)(k:Value->H->R):R:=onCells a0 λa=>ifB (allF (λb=>cell1F b) a) (ifB (ble h.1 1000000000) (letH (ag h (.row 430 (lenF a) false false 0 (T.ofList unk a))) λb=>onRow (hget b h.1) λ_ c _ _ _ d=>ifB (ble (Nat.add 0 1) c) (rc 507 [.agg ⟨ae d 1 0⟩,a1] b λe f=>onB e (@joinR [4] (λ_ g=>onRow (hget g h.1) λ_ i _ _ _ j=>ifB (ble (Nat.add 0 1) i) (rc 506 [.agg ⟨ae j 1 0⟩,a1] g λl m=>k l m)) λ_=>k (.int .i64 (.ofNat 0)) f) (@joinR [4] (λ_ g=>onRow (hget g h.1) λ_ i _ _ _ j=>ifB (ble (Nat.add 0 1) i) (rc 506 [.agg ⟨ae j 1 0⟩,a1] g λl m=>k l m)) λg=>g (.int .i64 (.ofNat 0),()) f))))
def T0 (t:aN)(rc:RC)(a0 a1:Value)(h:H)(k:Value->H->R):(cf (EX t) KK 508).run rc [a0,a1] h k = Vp (EX t) rc a0 a1 h k:=by kernel_rfl
def adz (E:Env)(rc:RC)(a0 a1 a2:Value)(h:H)(k:Value->H->R):R:=onCells a0 λa=>ifB (allF (λb=>cell1F b) a) (ifB (ble h.1 1000000000) (letH (ag h (.row 430 (lenF a) false false 0 (T.ofList unk a))) λb=>onCells a1 λc=>ifB (allF (λd=>cell1F d) c) (ifB (ble b.1 1000000000) (letH (ag b (.row 171 (lenF c) false false 0 (T.ofList unk c))) λd=>onRow (hget d h.1) λ_ e _ _ _ f=>ifB (ble (Nat.add 0 1) e) (rc 507 [.agg ⟨ae f 1 0⟩,a2] d λg i=>onB g (@joinR [6,7] (λ_ j=>ifB (ble j.1 1000000000) (letH (H.mk (Nat.add j.1 0) j.2) λl=>onRow (hget l b.1) λ_ m _ _ _ n=>ifB (ble (Nat.add 0 3) m) (onRow (hget l h.1) λ_ o _ _ _ p=>ifB (ble (Nat.add 0 1) o) (onRow (hget l h.1) λ_ q _ _ _ r=>ifB (ble (Nat.succ 0) q) (onNat a2 none λs=>onSl (getF r 0) none λt u _=>ifB (ble (Nat.succ s) u) (addOffF t (Nat.mul s 1) λv=>onPtr v λw=>onRow (hget l w.1) λ_ x _ _ _ y=>ifB (ble (Nat.succ w.2) x) (rc 508 [.agg ⟨ae p 1 0⟩,a2] l λz a3=>onRow (hget a3 b.1) λ_ a4 _ _ _ a5=>ifB (ble (Nat.add 0 3) a4) (ifB (am (.agg ⟨ae a5 3 0⟩) (.agg ⟨ae n 3 0⟩)) (ifB (am (.pointer (some (Addr.mk h.1 0 none))) (.pointer (some (Addr.mk h.1 0 none)))) (onRow (hget a3 h.1) λ_ a6 _ _ _ a7=>ifB (ble (Nat.succ 0) a6) (ifB (am (getF a7 0) (getF r 0)) (ifB (am a2 a2) (onNat a2 none λa8=>onSl (getF r 0) none λa9 b0 _=>ifB (ble (Nat.succ a8) b0) (addOffF a9 (Nat.mul a8 1) λb1=>ifB (am b1 v) (onPtr v λb2=>onRow (hget a3 b2.1) λ_ b3 _ _ _ b4=>ifB (ble (Nat.succ b2.2) b3) (ifB (am (getF b4 b2.2) (getF y w.2)) (rc 288 [.agg ⟨ae n 3 0⟩,z,getF y w.2] a3 λb5 b6=>onTup b5 λb7=>nthF 0 b7 λb8=>onTup b5 λb9=>nthF 1 b9 λc0=>ifB (List.all [b8,c0] λc1=>Bool.not (isTuple c1)) (k (.tuple ⟨[b8,c0]⟩) b6)))))))))))))))))) λ_=>k (.tuple ⟨[.int .u64 (.ofNat 0),.int .i64 (.ofNat 2)]⟩) i) (@joinR [6,7] (λ_ j=>ifB (ble j.1 1000000000) (letH (H.mk (Nat.add j.1 0) j.2) λl=>onRow (hget l b.1) λ_ m _ _ _ n=>ifB (ble (Nat.add 0 3) m) (onRow (hget l h.1) λ_ o _ _ _ p=>ifB (ble (Nat.add 0 1) o) (onRow (hget l h.1) λ_ q _ _ _ r=>ifB (ble (Nat.succ 0) q) (onNat a2 none λs=>onSl (getF r 0) none λt u _=>ifB (ble (Nat.succ s) u) (addOffF t (Nat.mul s 1) λv=>onPtr v λw=>onRow (hget l w.1) λ_ x _ _ _ y=>ifB (ble (Nat.succ w.2) x) (rc 508 [.agg ⟨ae p 1 0⟩,a2] l λz a3=>onRow (hget a3 b.1) λ_ a4 _ _ _ a5=>ifB (ble (Nat.add 0 3) a4) (ifB (am (.agg ⟨ae a5 3 0⟩) (.agg ⟨ae n 3 0⟩)) (ifB (am (.pointer (some (Addr.mk h.1 0 none))) (.pointer (some (Addr.mk h.1 0 none)))) (onRow (hget a3 h.1) λ_ a6 _ _ _ a7=>ifB (ble (Nat.succ 0) a6) (ifB (am (getF a7 0) (getF r 0)) (ifB (am a2 a2) (onNat a2 none λa8=>onSl (getF r 0) none λa9 b0 _=>ifB (ble (Nat.succ a8) b0) (addOffF a9 (Nat.mul a8 1) λb1=>ifB (am b1 v) (onPtr v λb2=>onRow (hget a3 b2.1) λ_ b3 _ _ _ b4=>ifB (ble (Nat.succ b2.2) b3) (ifB (am (getF b4 b2.2) (getF y w.2)) (rc 288 [.agg ⟨ae n 3 0⟩,z,getF y w.2] a3 λb5 b6=>onTup b5 λb7=>nthF 0 b7 λb8=>onTup b5 λb9=>nthF 1 b9 λc0=>ifB (List.all [b8,c0] λc1=>Bool.not (isTuple c1)) (k (.tuple ⟨[b8,c0]⟩) b6)))))))))))))))))) λj=>j (.int .u64 (.ofNat 0),(.int .i64 (.ofNat 0),())) i))))))
def TP (t:aN)(rc:RC)(a0 a1 a2:Value)(h:H)(k:Value->H->R):(cf (EX t) KK 473).run rc [a0,a1,a2] h k = adz (EX t) rc a0 a1 a2 h k:=by kernel_rfl
def aiL (E:Env)(rc:RC)(a0:Value)(h:H)(k:Value->H->R):R:=onCells a0 λa=>ifB (allF (λb=>cell1F b) a) (ifB (ble h.1 1000000000) (letH (ag h (.row 171 (lenF a) false false 0 (T.ofList unk a))) λb=>onRow (hget b h.1) λ_ c _ _ _ d=>ifB (ble (Nat.succ (Nat.add 0 2)) c) (k (getF d (Nat.add 0 2)) b)))
def Td (t:aN)(rc:RC)(a0:Value)(h:H)(k:Value->H->R):(cf (EX t) KK 369).run rc [a0] h k = aiL (EX t) rc a0 h k:=by kernel_rfl
def Zl (E:Env)(rc:RC)(a0:Value)(h:H)(k:Value->H->R):R:=onCells a0 λa=>ifB (allF (λb=>cell1F b) a) (ifB (ble h.1 1000000000) (letH (ag h (.row 430 (lenF a) false false 0 (T.ofList unk a))) λb=>onRow (hget b h.1) λ_ c _ _ _ d=>ifB (ble (Nat.add 0 1) c) (onRow (hget b h.1) λ_ e _ _ _ f=>ifB (ble (Nat.succ 0) e) (onSl (getF f 0) (bindO (aX E b 320 (getF f 0)) λg=>rc 506 [.agg ⟨ae d 1 0⟩,g] b λi j=>k i j) λ_ g _=>rc 506 [.agg ⟨ae d 1 0⟩,.int .i64 (.ofNat g)] b λi j=>k i j))))
def LH (t:aN)(rc:RC)(a0:Value)(h:H)(k:Value->H->R):(cf (EX t) KK 471).run rc [a0] h k = Zl (EX t) rc a0 h k:=by kernel_rfl
def un0 (l:List Value) (k:R):R:=List.rec (motive:=λ_=>R) k (λ_ _ _=>none) l
def un1 (l:List Value) (k:Value->R):R:=List.rec (motive:=λ_=>R) none (λa l _=>un0 l (k a)) l
def un2 (l:List Value) (k:Value->Value->R):R:=List.rec (motive:=λ_=>R) none (λa l _=>un1 l (k a)) l
def un3 (l:List Value) (k:Value->Value->Value->R):R:=List.rec (motive:=λ_=>R) none (λa l _=>un2 l (k a)) l
def un4 (l:List Value) (k:Value->Value->Value->Value->R):R:=List.rec (motive:=λ_=>R) none (λa l _=>un3 l (k a)) l
def un5 (l:List Value) (k:Value->Value->Value->Value->Value->R):R:=List.rec (motive:=λ_=>R) none (λa l _=>un4 l (k a)) l
def wR {l:List Value} {k:R} {r} (h:un0 l k=some r):l=[]/\k=some r:=by
 cases l with
 | nil=>exact⟨rfl,h⟩
 | cons a l=>exact nomatch h
def xZ {l:List Value} {k:Value->R} {r} (h:un1 l k=some r):∃a,l=[a]/\k a=some r:=by
 cases l with
 | nil=>exact nomatch h
 | cons a l=> obtain⟨rfl,h⟩:=wR (l:=l) (k:=k a) h;exact⟨a,rfl,h⟩
def wy {l:List Value} {k:Value->Value->R} {r} (h:un2 l k=some r):∃a b,l=[a,b]/\k a b=some r:=by
 cases l with
 | nil=>exact nomatch h
 | cons a l=> obtain⟨b,rfl,h⟩:=xZ (l:=l) (k:=k a) h;exact⟨a,b,rfl,h⟩
def wT {l:List Value} {k:Value->Value->Value->R} {r} (h:un3 l k=some r):∃a b c,l=[a,b,c]/\k a b c=some r:=by
 cases l with
 | nil=>exact nomatch h
 | cons a l=> obtain⟨b,c,rfl,h⟩:=wy (l:=l) (k:=k a) h;exact⟨a,b,c,rfl,h⟩
def vj {l:List Value} {k:Value->Value->Value->Value->R} {r} (h:un4 l k=some r):∃a b c d,l=[a,b,c,d]/\k a b c d=some r:=by
 cases l with
 | nil=>exact nomatch h
 | cons a l=> obtain⟨b,c,d,rfl,h⟩:=wT (l:=l) (k:=k a) h;exact⟨a,b,c,d,rfl,h⟩
def HK {l:List Value} {k:Value->Value->Value->Value->Value->R} {r} (h:un5 l k=some r):∃a b c d e,l=[a,b,c,d,e]/\k a b c d e=some r:=by
 cases l with
 | nil=>exact nomatch h
 | cons a l=> obtain⟨b,c,d,e,rfl,h⟩:=vj (l:=l) (k:=k a) h;exact⟨a,b,c,d,e,rfl,h⟩
def mU (f:FuncId) (s:Env->FC):Prop:=∀(t:aN) rc args h k r,(s (EX t)).run rc args h k=some r->(cf (EX t) KK f).run rc args h k=some r
def S0 (g:Env->RC->H->(Value->H->R)->R):Env->FC:=λE=>⟨λrc args h k=>un0 args (g E rc h k)⟩
def OT {f:FuncId} {g:Env->RC->H->(Value->H->R)->R} (e:Q0 f g):mU f (S0 g):=by intro t rc args h k r hk;obtain⟨rfl,hk⟩:=wR hk;rw[e];exact hk
def S1 (g:Env->RC->Value->H->(Value->H->R)->R):Env->FC:=λE=>⟨λrc args h k=>un1 args λa=>g E rc a h k⟩
def dY {f:FuncId} {g:Env->RC->Value->H->(Value->H->R)->R} (e:Q1 f g):mU f (S1 g):=by intro t rc args h k r hk;obtain⟨a,rfl,hk⟩:=xZ hk;rw[e];exact hk
def S2 (g:Env->RC->Value->Value->H->(Value->H->R)->R):Env->FC:=λE=>⟨λrc args h k=>un2 args λa b=>g E rc a b h k⟩
def dq {f:FuncId} {g:Env->RC->Value->Value->H->(Value->H->R)->R} (e:Q2 f g):mU f (S2 g):=by intro t rc args h k r hk;obtain⟨a,b,rfl,hk⟩:=wy hk;rw[e];exact hk
def S3 (g:Env->RC->Value->Value->Value->H->(Value->H->R)->R):Env->FC:=λE=>⟨λrc args h k=>un3 args λa b c=>g E rc a b c h k⟩
def eM {f:FuncId} {g:Env->RC->Value->Value->Value->H->(Value->H->R)->R} (e:Q3 f g):mU f (S3 g):=by intro t rc args h k r hk;obtain⟨a,b,c,rfl,hk⟩:=wT hk;rw[e];exact hk
def S4 (g:Env->RC->Value->Value->Value->Value->H->(Value->H->R)->R):Env->FC:=λE=>⟨λrc args h k=>un4 args λa b c d=>g E rc a b c d h k⟩
def nc {f:FuncId} {g:Env->RC->Value->Value->Value->Value->H->(Value->H->R)->R} (e:Q4 f g):mU f (S4 g):=by intro t rc args h k r hk;obtain⟨a,b,c,d,rfl,hk⟩:=vj hk;rw[e];exact hk
def S5 (g:Env->RC->Value->Value->Value->Value->Value->H->(Value->H->R)->R):Env->FC:=λE=>⟨λrc args h k=>un5 args λa b c d x=>g E rc a b c d x h k⟩
def awA {f:FuncId} {g:Env->RC->Value->Value->Value->Value->Value->H->(Value->H->R)->R} (e:Q5 f g):mU f (S5 g):=by intro t rc args h k r hk;obtain⟨a,b,c,d,x,rfl,hk⟩:=HK hk;rw[e];exact hk
def amU:List (Nat × (Env->FC)):=[(114,S1 g20),
(222,S2 g46),
(200,S1 g48),
(250,S2 avc),
(377,S1 auJ),
(191,S5 ao9),
(176,S2 g38),
(177,S4 g39),
(180,S4 g42),
(181,S3 g43),
(315,S2 au7),
(244,S2 g50),
(342,S2 atI),
(299,S1 atP),
(430,S1 asE),
(368,S3 auV),
(359,S1 auW),
(316,S2 ary),
(258,S1 g75),
(382,S2 avl),
(461,S1 aqP),
(338,S2 auz),
(300,S2 ati),
(282,S3 g99),
(318,S2 apK),
(207,S3 ao0),
(17,S1 g32),
(259,S3 g76),
(261,S2 g78),
(262,S2 g79),
(263,S3 g80),
(264,S2 g81),
(265,S4 g82),
(266,S3 g83),
(268,S4 g85),
(270,S3 g87),
(271,S3 g88),
(276,S4 g93),
(279,S4 g96),
(280,S1 g97),
(401,S2 atw),
(345,S2 atU),
(344,S3 arZ),
(243,S2 g49),
(372,S1 aoM),
(373,S2 au2),
(450,S2 aup),
(452,S3 aqT),
(453,S2 atf),
(454,S1 asw),
(393,S3 ar3),
(435,S1 as5),
(337,S2 atW),
(429,S0 apv),
(399,S2 aoR),
(369,S1 aqj),
(308,S2 aqv),
(309,S2 ao6),
(398,S3 auP),
(402,S0 apt),
(310,S2 asG),
(421,S3 anO),
(27,S1 g66),
(354,S3 aoD),
(355,S3 aun),
(358,S2 an3),
(361,S3 arG),
(362,S2 apA),
(363,S3 auM),
(364,S3 aoe),
(365,S4 atu),
(366,S1 atj),
(367,S3 api),
(371,S1 aq0),
(378,S2 aoY),
(432,S4 aoc),
(433,S1 ata),
(483,S1 aqZ),
(489,S0 avg),
(428,S1 asx),
(468,S1 auT),
(470,S3 asJ),
(471,S1 atp),
(473,S3 apu),
(339,S2 asP),
(463,S4 ark),
(469,S3 ap1),
(472,S4 apf),
(447,S4 auD),
(448,S2 arX),
(451,S1 are),
(488,S3 atJ),
(505,S1 ar7),
(506,S2 auy),
(507,S2 auB),
(508,S2 asL),
(503,S1 an6),
(409,S1 aoN),
(475,S2 atQ),
(476,S0 aoo),
(477,S2 au0),
(115,S1 g21),
(186,S1 g23),
(242,S2 g47),
(182,S1 g44),
(202,S1 apM),
(195,S3 auK),
(199,S3 as2),
(175,S1 g37),
(178,S3 g40),
(179,S2 g41),
(343,S3 aqI),
(297,S2 arE),
(384,S2 apo),
(511,S1 arT),
(304,S1 asu),
(290,S2 atn),
(291,S3 aqd),
(292,S3 art),
(294,S4 ao5),
(301,S1 aqC),
(302,S3 ari),
(303,S2 aqp),
(305,S3 arH),
(298,S3 arF),
(334,S3 aoh),
(257,S1 g74),
(272,S1 g89),
(273,S1 g90),
(281,S4 g98),
(284,S2 aot),
(286,S2 aqy),
(388,S1 auh),
(434,S1 asH),
(239,S2 asK),
(385,S3 asW),
(387,S1 apH),
(389,S3 aq2),
(391,S1 asc),
(353,S1 aqi),
(357,S1 aqU),
(374,S3 as1),
(375,S2 aql),
(376,S4 arf),
(380,S2 atK),
(381,S3 aob),
(390,S1 ave),
(464,S1 aq5),
(459,S1 aq7),
(460,S3 atA),
(446,S2 avd),
(455,S2 atD),
(456,S2 ava),
(458,S2 asX),
(509,S3 aoj),
(504,S2 apC),
(424,S2 atX),
(486,S2 apD),
(514,S2 atG),
(425,S2 aoO),
(426,S2 ar8),
(482,S2 auj)]
def yW:List (Nat × (Env->FC))->Prop
 | []=>True
 | p :: l=>mU p.1 p.2/\yW l
def Rh:yW amU:=
 ⟨dY ano,dq Zt,dY anb,dq NP,dY Kd,awA PM,dq aiE,nc ae5,nc agP,eM anv,dq Lj,dq ams,dq TG,dY JS,dY Ti,eM Mn,dY Ji,dq Si,dY ai7,dq M6,dY SZ,dq N5,dq Ns,eM alx,dq Sf,eM Rz,dY aiu,eM WU,dq agc,dq aig,eM Wu,dq aiF,nc ajQ,eM aeP,nc XG,eM afO,eM Y4,nc V4,nc agX,dY agY,dq Kz,dq RP,eM Tb,dq Y1,dY Nx,dq Pk,dq Rn,eM Nm,dq NC,dY SK,eM Ln,dY MP,dq PH,OT L8,dq Ks,dY Kn,dq QD,dq Qg,eM Lc,OT Oj,dq Kt,eM JW,dY ZU,eM J2,eM PW,dq Kc,eM RV,dq Lx,eM Ki,eM Jj,nc Ko,dY Px,eM MV,dY Po,dq Jm,nc K5,dY QP,dY KJ,OT MH,dY N7,dY KW,eM MI,dY Oc,eM On,dq Kg,nc ON,eM NM,nc Ov,nc Rq,dq Jx,dY MA,eM Ty,dY Tp,dq Tc,dq JK,dq Tw,dY QV,dY Oh,dq Rv,OT LM,dq K4,dY akk,dY aju,dq aeg,dY anr,dY MJ,eM Qi,eM Rx,dY ahw,eM aiB,dq ael,eM NH,dq MS,dq Ra,dY O4,dY SB,dq Ld,eM SJ,eM Mx,nc Pr,dY KQ,eM Sz,dq S7,eM TN,eM Jk,eM Sb,dY YT,dY afC,dY afE,nc al9,dq QB,dq R1,dY S8,dY Py,dq Qw,eM OU,dY Pg,eM Nj,dY JU,dY LS,dY JB,eM PY,dq Sm,nc JI,dq Qn,eM Lz,dY O3,dY KF,dY Od,eM JL,dq OJ,dq PG,dq LD,dq JE,eM P6,dq TE,dq R4,dq Jf,dq LG,dq Me,dq QE,dq Ob,trivial⟩
def BM (i:Nat) (l:List (Nat × (Env->FC))):Option (Env->FC):=List.rec (motive:=λ_=>Option (Env->FC)) none (λp _ ih=>Bool.rec (motive:=λ_=>Option (Env->FC)) ih (some p.2) (beq p.1 i)) l
def wu {i:Nat} {s:Env->FC}:∀{l:List (Nat × (Env->FC))},yW l->BM i l=some s->mU i s
 | [],_,h=>nomatch h
 | p :: l,⟨h1,h2⟩,h=>by
  have h:Bool.rec (motive:=λ_=>Option (Env->FC)) (BM i l) (some p.2) (beq p.1 i)=some s:=h;cases hb:beq p.1 i with
  | false=>rw[hb] at h;exact wu h2 h
  | true=> rw[hb] at h;rw[<-I8 hb];cases h;exact h1
def hot:T (Option (Env->FC)):=QY none 10 (λi=>BM i amU)
def acb {i:Nat} {s:Env->FC} (h:hot.get i=some s):mU i s:=by
 rcases uo none 10 (λi=>BM i amU) i with e | e
 ·exact wu Rh (e.symm.trans h)
 ·exact nomatch (e.symm.trans h)
def abx (t:aN) (f:FuncId):FC:=
 match t.get f with
 | some _=>bR (EX t) KK f
 | none=>match hot.get f with
  | some s=>s (EX t)
  | none=>bR (EX t) KK f
def Ve (t:aN) (n:Nat):RC:=
 Nat.rec (motive:=λ_=>RC) (λ_ _ _ _=>none) (λ_ ih f args h k=>(abx t f).run ih args h k) n
def bY {t:aN} {f:FuncId} (h:t.get f=none):bR (EX t) KK f=cf (EX t) KK f:=by
 unfold bR cf;cases (EX t).funs.get f with
 | none=>rfl
 | some fn=> have:(EX t).ext f=none:=h;simp only[this];cases fn.body <;> rfl
def Nf {t:aN} {rc:RC} (hrc:lS (EX t) rc) (f:FuncId) (args:List Value) (h:H) (k:Value->H->R) (r) (hk:(abx t f).run rc args h k=some r):
  ∃v h',(Ev λN=>kb (EX t) (cZ (EX t) N) f args h=some (v,h'))/\k v h'=some r:=by
 refine Cg (K:=KK) hrc f args h k r ?_;unfold abx at hk;split at hk
 ·exact hk
 ·rename_i h0;split at hk
  ·rename_i s hs;rw[bY h0];exact acb hs t rc args h k r hk
  ·exact hk
def xV (t:aN) (n:Nat):lS (EX t) (Ve t n):=by
 induction n with
 | zero=>intro f args h k r hk;exact nomatch hk
 | succ n ih=>intro f args h k r hk;exact Nf ih f args h k r hk
end Go.Ev
