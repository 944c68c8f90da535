/-
  CALLS IN WHICH SOME FUNCTIONS RUN AS PLAIN LEAN.
-/
import Derived.Test.YtlahhbdihpbbgaaGreatDoorMd
noncomputable section
set_option linter.unusedVariables false
set_option linter.unusedSimpArgs false
set_option maxRecDepth 100000
open Nat (ble beq)
namespace Go.Ev
open Go F Go.Proofs
def aeR (E:Env)(rc:RC)(a0 a1:Value)(h:H)(k:Value->H->R):R:=onCells a0 λa=>ifB (allF (λb=>cell1F b) a) (ifB (ble h.1 1000000000) (letH (ag h (.row 258 (lenF a) false false 0 (T.ofList unk a))) λb=>binR (binC E .geq 3 (aN (.tmp 5)) (aN (.const (.int .i64 0)))) a1 (.int .i64 (.ofNat 0)) λc=>ae (λd e=>ae (λf g=>ae (λi j=>ae (λl m=>ae (λn o=>onB c (k (.bool false) o) (k n o)) λn=>aB c (n undef m) (binR (binC E .lss 3 (aN (.tmp 8)) (aN (.tmp 11))) d l λo=>n o m) (n undef m)) λl=>aB c (l undef j) (onSl i (bindO (bv E j 256 i) λm=>l m j) λ_ m _=>l (.int .i64 (.ofNat m)) j) (l undef j)) λi=>aB c (i undef g) (onPtr f λj=>onRow (hget g j.1) λ_ l _ _ _ m=>ifB (ble (Nat.succ j.2) l) (i (getF m j.2) g)) (i undef g)) λf=>aB c (f undef e) (f (.pointer (some (Addr.mk h.1 0 none))) e) (f undef e)) λd=>aB c (d undef b) (d a1 b) (d undef b)))
theorem ES (t:ak)(rc:RC)(a0 a1:Value)(h:H)(k:Value->H->R):(ax (EX t) KK 336).run rc [a0,a1] h k = aeR (EX t) rc a0 a1 h k:=by kernel_rfl
def WT (E:Env)(rc:RC)(a0 a1:Value)(h:H)(k:Value->H->R):R:=onCells a0 λa=>ifB (allF (λb=>cell1F b) a) (ifB (ble h.1 1000000000) (letH (ag h (.row 258 (lenF a) false false 0 (T.ofList unk a))) λb=>onRow (hget b h.1) λ_ c _ _ _ d=>ifB (ble (Nat.succ 0) c) (bindO (dd E 256 (getF d 0) none (some a1) none) λe=>onSl e (bindO (bv E b 256 e) λf=>@joinR [5] (λg i=>k g.1 i) λg=>@loopF [5,13] (λi j l=>binR (binC E .lss 3 (aN (.tmp 13)) (aN (.tmp 12))) j.2.1 f λm=>@joinR [] (λ_ n=>@joinR [5] (λo p=>binR (binC E .add 3 (aN (.tmp 13)) (aN (.const (.int .i64 1)))) j.2.1 (.int .i64 (.ofNat 1)) λq=>i (o.1,(q,())) p) λo=>onNat j.2.1 none λp=>onSl e none λq r _=>ifB (ble (Nat.succ p) r) (addOffF q (Nat.mul p 1) λs=>onPtr s λt=>onRow (hget n t.1) λ_ u _ _ _ v=>ifB (ble (Nat.succ t.2) u) (binR (binC E .add 3 (aN (.tmp 17)) (aN (.tmp 18))) j.1 (getF v t.2) λw=>o (w,()) n))) λn=>onB m (g (j.1,()) l) (n () l)) 1000000 (.int .i64 (.ofNat 0),(.int .i64 (.ofNat 0),())) b) λ_ f _=>@joinR [5] (λg i=>k g.1 i) λg=>@loopF [5,13] (λi j l=>binR (binC E .lss 3 (aN (.tmp 13)) (aN (.tmp 12))) j.2.1 (.int .i64 (.ofNat f)) λm=>@joinR [] (λ_ n=>@joinR [5] (λo p=>binR (binC E .add 3 (aN (.tmp 13)) (aN (.const (.int .i64 1)))) j.2.1 (.int .i64 (.ofNat 1)) λq=>i (o.1,(q,())) p) λo=>onNat j.2.1 none λp=>onSl e none λq r _=>ifB (ble (Nat.succ p) r) (addOffF q (Nat.mul p 1) λs=>onPtr s λt=>onRow (hget n t.1) λ_ u _ _ _ v=>ifB (ble (Nat.succ t.2) u) (binR (binC E .add 3 (aN (.tmp 17)) (aN (.tmp 18))) j.1 (getF v t.2) λw=>o (w,()) n))) λn=>onB m (g (j.1,()) l) (n () l)) 1000000 (.int .i64 (.ofNat 0),(.int .i64 (.ofNat 0),())) b)))
theorem J0 (t:ak)(rc:RC)(a0 a1:Value)(h:H)(k:Value->H->R):(ax (EX t) KK 335).run rc [a0,a1] h k = WT (EX t) rc a0 a1 h k:=by kernel_rfl
def Yg (E:Env)(rc:RC)(a0 a1:Value)(h:H)(k:Value->H->R):R:=onCells a0 λa=>ifB (allF (λb=>cell1F b) a) (ifB (ble h.1 1000000000) (letH (ag h (.row 258 (lenF a) false false 0 (T.ofList unk a))) λb=>onRow (hget b h.1) λ_ c _ _ _ d=>ifB (ble (Nat.add 0 1) c) (rc 336 [.agg ⟨ac d 1 0⟩,a1] b λe f=>onB e (@joinR [4] (λ_ g=>onRow (hget g h.1) λ_ i _ _ _ j=>ifB (ble (Nat.add 0 1) i) (rc 335 [.agg ⟨ac j 1 0⟩,a1] g λl m=>k l m)) λ_=>k (.int .i64 (.ofNat 0)) f) (@joinR [4] (λ_ g=>onRow (hget g h.1) λ_ i _ _ _ j=>ifB (ble (Nat.add 0 1) i) (rc 335 [.agg ⟨ac j 1 0⟩,a1] g λl m=>k l m)) λg=>g (.int .i64 (.ofNat 0),()) f))))
theorem OG (t:ak)(rc:RC)(a0 a1:Value)(h:H)(k:Value->H->R):(ax (EX t) KK 306).run rc [a0,a1] h k = Yg (EX t) rc a0 a1 h k:=by kernel_rfl
def aaX (E:Env)(rc:RC)(a0 a1 a2:Value)(h:H)(k:Value->H->R):R:=onCells a0 λa=>ifB (allF (λb=>cell1F b) a) (ifB (ble h.1 1000000000) (letH (ag h (.row 258 (lenF a) false false 0 (T.ofList unk a))) λb=>onCells a1 λc=>ifB (allF (λd=>cell1F d) c) (ifB (ble b.1 1000000000) (letH (ag b (.row 131 (lenF c) false false 0 (T.ofList unk c))) λd=>onRow (hget d h.1) λ_ e _ _ _ f=>ifB (ble (Nat.add 0 1) e) (rc 336 [.agg ⟨ac f 1 0⟩,a2] d λg i=>onB g (@joinR [6,7] (λ_ j=>ifB (ble j.1 1000000000) (letH (H.mk (Nat.add j.1 0) j.2) λl=>onRow (hget l b.1) λ_ m _ _ _ n=>ifB (ble (Nat.add 0 3) m) (onRow (hget l h.1) λ_ o _ _ _ p=>ifB (ble (Nat.add 0 1) o) (onRow (hget l h.1) λ_ q _ _ _ r=>ifB (ble (Nat.succ 0) q) (onNat a2 none λs=>onSl (getF r 0) none λt u _=>ifB (ble (Nat.succ s) u) (addOffF t (Nat.mul s 1) λv=>onPtr v λw=>onRow (hget l w.1) λ_ x _ _ _ y=>ifB (ble (Nat.succ w.2) x) (rc 306 [.agg ⟨ac p 1 0⟩,a2] l λz a3=>onRow (hget a3 b.1) λ_ a4 _ _ _ a5=>ifB (ble (Nat.add 0 3) a4) (ifB (aj (.agg ⟨ac a5 3 0⟩) (.agg ⟨ac n 3 0⟩)) (ifB (aj (.pointer (some (Addr.mk h.1 0 none))) (.pointer (some (Addr.mk h.1 0 none)))) (onRow (hget a3 h.1) λ_ a6 _ _ _ a7=>ifB (ble (Nat.succ 0) a6) (ifB (aj (getF a7 0) (getF r 0)) (ifB (aj a2 a2) (onNat a2 none λa8=>onSl (getF r 0) none λa9 b0 _=>ifB (ble (Nat.succ a8) b0) (addOffF a9 (Nat.mul a8 1) λb1=>ifB (aj b1 v) (onPtr v λb2=>onRow (hget a3 b2.1) λ_ b3 _ _ _ b4=>ifB (ble (Nat.succ b2.2) b3) (ifB (aj (getF b4 b2.2) (getF y w.2)) (rc 180 [.agg ⟨ac n 3 0⟩,z,getF y w.2] a3 λb5 b6=>onTup b5 λb7=>nthF 0 b7 λb8=>onTup b5 λb9=>nthF 1 b9 λc0=>ifB (List.all [b8,c0] λc1=>Bool.not (isTuple c1)) (k (.tuple ⟨[b8,c0]⟩) b6)))))))))))))))))) λ_=>k (.tuple ⟨[.int .u64 (.ofNat 0),.int .i64 (.ofNat 2)]⟩) i) (@joinR [6,7] (λ_ j=>ifB (ble j.1 1000000000) (letH (H.mk (Nat.add j.1 0) j.2) λl=>onRow (hget l b.1) λ_ m _ _ _ n=>ifB (ble (Nat.add 0 3) m) (onRow (hget l h.1) λ_ o _ _ _ p=>ifB (ble (Nat.add 0 1) o) (onRow (hget l h.1) λ_ q _ _ _ r=>ifB (ble (Nat.succ 0) q) (onNat a2 none λs=>onSl (getF r 0) none λt u _=>ifB (ble (Nat.succ s) u) (addOffF t (Nat.mul s 1) λv=>onPtr v λw=>onRow (hget l w.1) λ_ x _ _ _ y=>ifB (ble (Nat.succ w.2) x) (rc 306 [.agg ⟨ac p 1 0⟩,a2] l λz a3=>onRow (hget a3 b.1) λ_ a4 _ _ _ a5=>ifB (ble (Nat.add 0 3) a4) (ifB (aj (.agg ⟨ac a5 3 0⟩) (.agg ⟨ac n 3 0⟩)) (ifB (aj (.pointer (some (Addr.mk h.1 0 none))) (.pointer (some (Addr.mk h.1 0 none)))) (onRow (hget a3 h.1) λ_ a6 _ _ _ a7=>ifB (ble (Nat.succ 0) a6) (ifB (aj (getF a7 0) (getF r 0)) (ifB (aj a2 a2) (onNat a2 none λa8=>onSl (getF r 0) none λa9 b0 _=>ifB (ble (Nat.succ a8) b0) (addOffF a9 (Nat.mul a8 1) λb1=>ifB (aj b1 v) (onPtr v λb2=>onRow (hget a3 b2.1) λ_ b3 _ _ _ b4=>ifB (ble (Nat.succ b2.2) b3) (ifB (aj (getF b4 b2.2) (getF y w.2)) (rc 180 [.agg ⟨ac n 3 0⟩,z,getF y w.2] a3 λb5 b6=>onTup b5 λb7=>nthF 0 b7 λb8=>onTup b5 λb9=>nthF 1 b9 λc0=>ifB (List.all [b8,c0] λc1=>Bool.not (isTuple c1)) (k (.tuple ⟨[b8,c0]⟩) b6)))))))))))))))))) λj=>j (.int .u64 (.ofNat 0),(.int .i64 (.ofNat 0),())) i))))))
theorem Ed (t:ak)(rc:RC)(a0 a1 a2:Value)(h:H)(k:Value->H->R):(ax (EX t) KK 280).run rc [a0,a1,a2] h k = aaX (EX t) rc a0 a1 a2 h k:=by kernel_rfl
def ajf (E:Env)(rc:RC)(a0:Value)(h:H)(k:Value->H->R):R:=onCells a0 λa=>ifB (allF (λb=>cell1F b) a) (ifB (ble h.1 1000000000) (letH (ag h (.row 131 (lenF a) false false 0 (T.ofList unk a))) λb=>onRow (hget b h.1) λ_ c _ _ _ d=>ifB (ble (Nat.succ (Nat.add 0 2)) c) (k (getF d (Nat.add 0 2)) b)))
theorem JB (t:ak)(rc:RC)(a0:Value)(h:H)(k:Value->H->R):(ax (EX t) KK 245).run rc [a0] h k = ajf (EX t) rc a0 h k:=by kernel_rfl
def ahB (E:Env)(rc:RC)(a0:Value)(h:H)(k:Value->H->R):R:=onCells a0 λa=>ifB (allF (λb=>cell1F b) a) (ifB (ble h.1 1000000000) (letH (ag h (.row 258 (lenF a) false false 0 (T.ofList unk a))) λb=>onRow (hget b h.1) λ_ c _ _ _ d=>ifB (ble (Nat.add 0 1) c) (onRow (hget b h.1) λ_ e _ _ _ f=>ifB (ble (Nat.succ 0) e) (onSl (getF f 0) (bindO (bv E b 256 (getF f 0)) λg=>rc 335 [.agg ⟨ac d 1 0⟩,g] b λi j=>k i j) λ_ g _=>rc 335 [.agg ⟨ac d 1 0⟩,.int .i64 (.ofNat g)] b λi j=>k i j))))
theorem HN (t:ak)(rc:RC)(a0:Value)(h:H)(k:Value->H->R):(ax (EX t) KK 278).run rc [a0] h k = ahB (EX t) rc a0 h k:=by kernel_rfl
def un0 (l:List Value) (k:R):R:=List.rec (motive:=λ_=>R) k (λ_ _ _=>none) l
def fK (l:List Value) (k:Value->R):R:=List.rec (motive:=λ_=>R) none (λa l _=>un0 l (k a)) l
def eK (l:List Value) (k:Value->Value->R):R:=List.rec (motive:=λ_=>R) none (λa l _=>fK l (k a)) l
def gq (l:List Value) (k:Value->Value->Value->R):R:=List.rec (motive:=λ_=>R) none (λa l _=>eK l (k a)) l
def qZ (l:List Value) (k:Value->Value->Value->Value->R):R:=List.rec (motive:=λ_=>R) none (λa l _=>gq l (k a)) l
def un5 (l:List Value) (k:Value->Value->Value->Value->Value->R):R:=List.rec (motive:=λ_=>R) none (λa l _=>qZ l (k a)) l
theorem sl {l:List Value} {k:R} {r} (h:un0 l k=some r):l=[]/\k=some r:=by
 cases l with
 | nil=>exact⟨rfl,h⟩
 | cons a l=>exact nomatch h
theorem sf {l:List Value} {k:Value->R} {r} (h:fK l k=some r):∃a,l=[a]/\k a=some r:=by
 cases l with
 | nil=>exact nomatch h
 | cons a l=> obtain⟨rfl,h⟩:=sl (l:=l) (k:=k a) h;exact⟨a,rfl,h⟩
theorem qI {l:List Value} {k:Value->Value->R} {r} (h:eK l k=some r):∃a b,l=[a,b]/\k a b=some r:=by
 cases l with
 | nil=>exact nomatch h
 | cons a l=> obtain⟨b,rfl,h⟩:=sf (l:=l) (k:=k a) h;exact⟨a,b,rfl,h⟩
theorem qg {l:List Value} {k:Value->Value->Value->R} {r} (h:gq l k=some r):∃a b c,l=[a,b,c]/\k a b c=some r:=by
 cases l with
 | nil=>exact nomatch h
 | cons a l=> obtain⟨b,c,rfl,h⟩:=qI (l:=l) (k:=k a) h;exact⟨a,b,c,rfl,h⟩
theorem sG {l:List Value} {k:Value->Value->Value->Value->R} {r} (h:qZ l k=some r):∃a b c d,l=[a,b,c,d]/\k a b c d=some r:=by
 cases l with
 | nil=>exact nomatch h
 | cons a l=> obtain⟨b,c,d,rfl,h⟩:=qg (l:=l) (k:=k a) h;exact⟨a,b,c,d,rfl,h⟩
theorem zA {l:List Value} {k:Value->Value->Value->Value->Value->R} {r} (h:un5 l k=some r):∃a b c d e,l=[a,b,c,d,e]/\k a b c d e=some r:=by
 cases l with
 | nil=>exact nomatch h
 | cons a l=> obtain⟨b,c,d,e,rfl,h⟩:=sG (l:=l) (k:=k a) h;exact⟨a,b,c,d,e,rfl,h⟩
def am (f:FuncId) (s:Env->FC):Prop:=∀(t:ak) rc args h k r,(s (EX t)).run rc args h k=some r->(ax (EX t) KK f).run rc args h k=some r
theorem Ep {f:FuncId} {g:Env->RC->H->(Value->H->R)->R} (e:∀t rc h k,(ax (EX t) KK f).run rc [] h k=g (EX t) rc h k):am f (λE=>⟨λrc args h k=>un0 args (g E rc h k)⟩):=by intro t rc args h k r hk;obtain⟨rfl,hk⟩:=sl hk;rw[e];exact hk
theorem cY {f:FuncId} {g:Env->RC->Value->H->(Value->H->R)->R} (e:∀t rc a h k,(ax (EX t) KK f).run rc [a] h k=g (EX t) rc a h k):am f (λE=>⟨λrc args h k=>fK args λa=>g E rc a h k⟩):=by intro t rc args h k r hk;obtain⟨a,rfl,hk⟩:=sf hk;rw[e];exact hk
theorem ci {f:FuncId} {g:Env->RC->Value->Value->H->(Value->H->R)->R} (e:∀t rc a b h k,(ax (EX t) KK f).run rc [a,b] h k=g (EX t) rc a b h k):am f (λE=>⟨λrc args h k=>eK args λa b=>g E rc a b h k⟩):=by intro t rc args h k r hk;obtain⟨a,b,rfl,hk⟩:=qI hk;rw[e];exact hk
theorem du {f:FuncId} {g:Env->RC->Value->Value->Value->H->(Value->H->R)->R} (e:∀t rc a b c h k,(ax (EX t) KK f).run rc [a,b,c] h k=g (EX t) rc a b c h k):am f (λE=>⟨λrc args h k=>gq args λa b c=>g E rc a b c h k⟩):=by intro t rc args h k r hk;obtain⟨a,b,c,rfl,hk⟩:=qg hk;rw[e];exact hk
theorem kG {f:FuncId} {g:Env->RC->Value->Value->Value->Value->H->(Value->H->R)->R} (e:∀t rc a b c d h k,(ax (EX t) KK f).run rc [a,b,c,d] h k=g (EX t) rc a b c d h k):am f (λE=>⟨λrc args h k=>qZ args λa b c d=>g E rc a b c d h k⟩):=by intro t rc args h k r hk;obtain⟨a,b,c,d,rfl,hk⟩:=sG hk;rw[e];exact hk
theorem asL {f:FuncId} {g:Env->RC->Value->Value->Value->Value->Value->H->(Value->H->R)->R} (e:∀t rc a b c d x h k,(ax (EX t) KK f).run rc [a,b,c,d,x] h k=g (EX t) rc a b c d x h k):am f (λE=>⟨λrc args h k=>un5 args λa b c d x=>g E rc a b c d x h k⟩):=by intro t rc args h k r hk;obtain⟨a,b,c,d,x,rfl,hk⟩:=zA hk;rw[e];exact hk
def s20:Env->FC:=λE=>⟨λrc args h k=>fK args λa=>g20 E rc a h k⟩
theorem agP:am 75 s20:=cY (f:=75) (g:=g20) Z3
def s46:Env->FC:=λE=>⟨λrc args h k=>eK args λa b=>g46 E rc a b h k⟩
theorem UY:am 112 s46:=ci (f:=112) (g:=g46) acq
def s48:Env->FC:=λE=>⟨λrc args h k=>fK args λa=>g48 E rc a h k⟩
theorem Wz:am 87 s48:=cY (f:=87) (g:=g48) Xd
def am2:Env->FC:=λE=>⟨λrc args h k=>eK args λa b=>aab E rc a b h k⟩
theorem Dw:am 114 am2:=ci (f:=114) (g:=aab) Ff
def apz:Env->FC:=λE=>⟨λrc args h k=>fK args λa=>XW E rc a h k⟩
theorem Nc:am 208 apz:=cY (f:=208) (g:=XW) KB
def anX:Env->FC:=λE=>⟨λrc args h k=>un5 args λa b c d x=>ahc E rc a b c d x h k⟩
theorem Lz:am 79 anX:=asL (f:=79) (g:=ahc) Jy
def s38:Env->FC:=λE=>⟨λrc args h k=>eK args λa b=>g38 E rc a b h k⟩
theorem ait:am 101 s38:=ci (f:=101) (g:=g38) ahf
def s39:Env->FC:=λE=>⟨λrc args h k=>qZ args λa b c d=>g39 E rc a b c d h k⟩
theorem aiw:am 102 s39:=kG (f:=102) (g:=g39) acQ
def s42:Env->FC:=λE=>⟨λrc args h k=>qZ args λa b c d=>g42 E rc a b c d h k⟩
theorem Q7:am 105 s42:=kG (f:=105) (g:=g42) adp
def s43:Env->FC:=λE=>⟨λrc args h k=>gq args λa b c=>g43 E rc a b c h k⟩
theorem ade:am 106 s43:=du (f:=106) (g:=g43) Uo
def aov:Env->FC:=λE=>⟨λrc args h k=>eK args λa b=>XU E rc a b h k⟩
theorem KC:am 184 aov:=ci (f:=184) (g:=XU) NM
def s50:Env->FC:=λE=>⟨λrc args h k=>eK args λa b=>g50 E rc a b h k⟩
theorem YL:am 126 s50:=ci (f:=126) (g:=g50) Ys
def akG:Env->FC:=λE=>⟨λrc args h k=>eK args λa b=>aaP E rc a b h k⟩
theorem L3:am 267 akG:=ci (f:=267) (g:=aaP) Mz
def apo:Env->FC:=λE=>⟨λrc args h k=>fK args λa=>XP E rc a h k⟩
theorem EA:am 130 apo:=cY (f:=130) (g:=XP) CG
def aok:Env->FC:=λE=>⟨λrc args h k=>fK args λa=>abc E rc a h k⟩
theorem Hz:am 271 aok:=cY (f:=271) (g:=abc) LH
def an1:Env->FC:=λE=>⟨λrc args h k=>gq args λa b c=>aeU E rc a b c h k⟩
theorem Ky:am 244 an1:=du (f:=244) (g:=aeU) Ho
def amr:Env->FC:=λE=>⟨λrc args h k=>fK args λa=>acZ E rc a h k⟩
theorem KW:am 233 amr:=cY (f:=233) (g:=acZ) CH
def amR:Env->FC:=λE=>⟨λrc args h k=>eK args λa b=>adV E rc a b h k⟩
theorem JD:am 187 amR:=ci (f:=187) (g:=adV) K5
def s75:Env->FC:=λE=>⟨λrc args h k=>fK args λa=>g75 E rc a h k⟩
theorem QL:am 150 s75:=cY (f:=150) (g:=g75) Zc
def aoo:Env->FC:=λE=>⟨λrc args h k=>eK args λa b=>Uk E rc a b h k⟩
theorem Ie:am 259 aoo:=ci (f:=259) (g:=Uk) F9
def ams:Env->FC:=λE=>⟨λrc args h k=>fK args λa=>aba E rc a h k⟩
theorem Kd:am 272 ams:=cY (f:=272) (g:=aba) KI
def aqc:Env->FC:=λE=>⟨λrc args h k=>eK args λa b=>Xc E rc a b h k⟩
theorem G1:am 200 aqc:=ci (f:=200) (g:=Xc) Np
def anj:Env->FC:=λE=>⟨λrc args h k=>eK args λa b=>agy E rc a b h k⟩
theorem JZ:am 117 anj:=ci (f:=117) (g:=agy) N9
def s99:Env->FC:=λE=>⟨λrc args h k=>gq args λa b c=>g99 E rc a b c h k⟩
theorem U1:am 128 s99:=du (f:=128) (g:=g99) YS
def apf:Env->FC:=λE=>⟨λrc args h k=>eK args λa b=>aed E rc a b h k⟩
theorem Gl:am 346 apf:=ci (f:=346) (g:=aed) Mw
def alp:Env->FC:=λE=>⟨λrc args h k=>gq args λa b c=>Ub E rc a b c h k⟩
theorem GN:am 248 alp:=du (f:=248) (g:=Ub) DC
def s32:Env->FC:=λE=>⟨λrc args h k=>fK args λa=>g32 E rc a h k⟩
theorem aav:am 30 s32:=cY (f:=30) (g:=g32) aeJ
def s76:Env->FC:=λE=>⟨λrc args h k=>gq args λa b c=>g76 E rc a b c h k⟩
theorem ab2:am 151 s76:=du (f:=151) (g:=g76) WM
def s78:Env->FC:=λE=>⟨λrc args h k=>eK args λa b=>g78 E rc a b h k⟩
theorem Ve:am 153 s78:=ci (f:=153) (g:=g78) abT
def s79:Env->FC:=λE=>⟨λrc args h k=>eK args λa b=>g79 E rc a b h k⟩
theorem adQ:am 154 s79:=ci (f:=154) (g:=g79) UT
def s80:Env->FC:=λE=>⟨λrc args h k=>gq args λa b c=>g80 E rc a b c h k⟩
theorem aia:am 155 s80:=du (f:=155) (g:=g80) Yi
def s81:Env->FC:=λE=>⟨λrc args h k=>eK args λa b=>g81 E rc a b h k⟩
theorem ago:am 156 s81:=ci (f:=156) (g:=g81) XR
def s82:Env->FC:=λE=>⟨λrc args h k=>qZ args λa b c d=>g82 E rc a b c d h k⟩
theorem Wp:am 157 s82:=kG (f:=157) (g:=g82) Z0
def s83:Env->FC:=λE=>⟨λrc args h k=>gq args λa b c=>g83 E rc a b c h k⟩
theorem ae0:am 158 s83:=du (f:=158) (g:=g83) ajD
def s85:Env->FC:=λE=>⟨λrc args h k=>qZ args λa b c d=>g85 E rc a b c d h k⟩
theorem ZN:am 160 s85:=kG (f:=160) (g:=g85) agA
def s87:Env->FC:=λE=>⟨λrc args h k=>gq args λa b c=>g87 E rc a b c h k⟩
theorem ajI:am 162 s87:=du (f:=162) (g:=g87) ag8
def s88:Env->FC:=λE=>⟨λrc args h k=>gq args λa b c=>g88 E rc a b c h k⟩
theorem Qg:am 163 s88:=du (f:=163) (g:=g88) ab0
def s93:Env->FC:=λE=>⟨λrc args h k=>qZ args λa b c d=>g93 E rc a b c d h k⟩
theorem aep:am 168 s93:=kG (f:=168) (g:=g93) ada
def s96:Env->FC:=λE=>⟨λrc args h k=>qZ args λa b c d=>g96 E rc a b c d h k⟩
theorem Tu:am 171 s96:=kG (f:=171) (g:=g96) acr
def s97:Env->FC:=λE=>⟨λrc args h k=>fK args λa=>g97 E rc a h k⟩
theorem Xh:am 172 s97:=cY (f:=172) (g:=g97) ahD
def amb:Env->FC:=λE=>⟨λrc args h k=>eK args λa b=>Qd E rc a b h k⟩
theorem HV:am 265 amb:=ci (f:=265) (g:=Qd) KR
def al9:Env->FC:=λE=>⟨λrc args h k=>eK args λa b=>ahy E rc a b h k⟩
theorem HL:am 201 al9:=ci (f:=201) (g:=ahy) Gc
def al2:Env->FC:=λE=>⟨λrc args h k=>gq args λa b c=>YP E rc a b c h k⟩
theorem Js:am 266 al2:=du (f:=266) (g:=YP) Ln
def s49:Env->FC:=λE=>⟨λrc args h k=>eK args λa b=>g49 E rc a b h k⟩
theorem aam:am 185 s49:=ci (f:=185) (g:=g49) adC
def apL:Env->FC:=λE=>⟨λrc args h k=>fK args λa=>ae3 E rc a h k⟩
theorem L5:am 249 apL:=cY (f:=249) (g:=ae3) NS
def alO:Env->FC:=λE=>⟨λrc args h k=>eK args λa b=>Vi E rc a b h k⟩
theorem CK:am 250 alO:=ci (f:=250) (g:=Vi) Co
def aql:Env->FC:=λE=>⟨λrc args h k=>eK args λa b=>SB E rc a b h k⟩
theorem Cm:am 319 aql:=ci (f:=319) (g:=SB) Im
def akM:Env->FC:=λE=>⟨λrc args h k=>gq args λa b c=>Ui E rc a b c h k⟩
theorem Dx:am 323 akM:=du (f:=323) (g:=Ui) Gn
def alF:Env->FC:=λE=>⟨λrc args h k=>eK args λa b=>Ru E rc a b h k⟩
theorem Hp:am 324 alF:=ci (f:=324) (g:=Ru) Du
def aqf:Env->FC:=λE=>⟨λrc args h k=>fK args λa=>Qx E rc a h k⟩
theorem JX:am 325 aqf:=cY (f:=325) (g:=Qx) NI
def amN:Env->FC:=λE=>⟨λrc args h k=>gq args λa b c=>XM E rc a b c h k⟩
theorem Fi:am 202 amN:=du (f:=202) (g:=XM) FK
def anc:Env->FC:=λE=>⟨λrc args h k=>fK args λa=>aic E rc a h k⟩
theorem Fl:am 347 anc:=cY (f:=347) (g:=aic) Jd
def ao4:Env->FC:=λE=>⟨λrc args h k=>eK args λa b=>ae1 E rc a b h k⟩
theorem HB:am 261 ao4:=ci (f:=261) (g:=ae1) Kv
def aly:Env->FC:=λE=>⟨λrc args h k=>un0 args (T6 E rc h k)⟩
theorem Nv:am 281 aly:=Ep (f:=281) (g:=T6) Eh
def aqm:Env->FC:=λE=>⟨λrc args h k=>eK args λa b=>VS E rc a b h k⟩
theorem JP:am 199 aqm:=ci (f:=199) (g:=VS) De
def alS:Env->FC:=λE=>⟨λrc args h k=>fK args λa=>abS E rc a h k⟩
theorem L6:am 245 alS:=cY (f:=245) (g:=abS) Ol
def anr:Env->FC:=λE=>⟨λrc args h k=>eK args λa b=>ai2 E rc a b h k⟩
theorem ML:am 321 anr:=ci (f:=321) (g:=ai2) Eo
def apV:Env->FC:=λE=>⟨λrc args h k=>eK args λa b=>Rj E rc a b h k⟩
theorem C4:am 322 apV:=ci (f:=322) (g:=Rj) GD
def apZ:Env->FC:=λE=>⟨λrc args h k=>gq args λa b c=>aiO E rc a b c h k⟩
theorem KV:am 198 apZ:=du (f:=198) (g:=aiO) MA
def anG:Env->FC:=λE=>⟨λrc args h k=>un0 args (afM E rc h k)⟩
theorem IP:am 365 anG:=Ep (f:=365) (g:=afM) GU
def amY:Env->FC:=λE=>⟨λrc args h k=>eK args λa b=>UG E rc a b h k⟩
theorem Je:am 326 amY:=ci (f:=326) (g:=UG) Jk
def aqr:Env->FC:=λE=>⟨λrc args h k=>gq args λa b c=>TG E rc a b c h k⟩
theorem DZ:am 268 aqr:=du (f:=268) (g:=TG) D9
def s66:Env->FC:=λE=>⟨λrc args h k=>fK args λa=>g66 E rc a h k⟩
theorem UO:am 49 s66:=cY (f:=49) (g:=g66) Z9
def aoO:Env->FC:=λE=>⟨λrc args h k=>gq args λa b c=>aiH E rc a b c h k⟩
theorem FR:am 228 aoO:=du (f:=228) (g:=aiH) NG
def amW:Env->FC:=λE=>⟨λrc args h k=>gq args λa b c=>aaf E rc a b c h k⟩
theorem Nw:am 229 amW:=du (f:=229) (g:=aaf) K0
def amy:Env->FC:=λE=>⟨λrc args h k=>eK args λa b=>adF E rc a b h k⟩
theorem GY:am 232 amy:=ci (f:=232) (g:=adF) OU
def aq7:Env->FC:=λE=>⟨λrc args h k=>gq args λa b c=>akf E rc a b c h k⟩
theorem D4:am 236 aq7:=du (f:=236) (g:=akf) Nk
def ane:Env->FC:=λE=>⟨λrc args h k=>eK args λa b=>ab7 E rc a b h k⟩
theorem Fs:am 237 ane:=ci (f:=237) (g:=ab7) Kw
def aol:Env->FC:=λE=>⟨λrc args h k=>gq args λa b c=>Sv E rc a b c h k⟩
theorem C9:am 238 aol:=du (f:=238) (g:=Sv) M1
def ap5:Env->FC:=λE=>⟨λrc args h k=>gq args λa b c=>abP E rc a b c h k⟩
theorem EZ:am 239 ap5:=du (f:=239) (g:=abP) Kp
def aoN:Env->FC:=λE=>⟨λrc args h k=>qZ args λa b c d=>V3 E rc a b c d h k⟩
theorem IQ:am 240 aoN:=kG (f:=240) (g:=V3) Gf
def anO:Env->FC:=λE=>⟨λrc args h k=>fK args λa=>Yv E rc a h k⟩
theorem Fw:am 241 anO:=cY (f:=241) (g:=Yv) Ih
def aoM:Env->FC:=λE=>⟨λrc args h k=>gq args λa b c=>UK E rc a b c h k⟩
theorem NL:am 242 aoM:=du (f:=242) (g:=UK) Cr
def alq:Env->FC:=λE=>⟨λrc args h k=>fK args λa=>Ta E rc a h k⟩
theorem G9:am 247 alq:=cY (f:=247) (g:=Ta) M8
def aom:Env->FC:=λE=>⟨λrc args h k=>eK args λa b=>P3 E rc a b h k⟩
theorem MM:am 255 aom:=ci (f:=255) (g:=P3) Na
def akN:Env->FC:=λE=>⟨λrc args h k=>qZ args λa b c d=>abF E rc a b c d h k⟩
theorem II:am 282 akN:=kG (f:=282) (g:=abF) Cx
def anU:Env->FC:=λE=>⟨λrc args h k=>fK args λa=>ajE E rc a h k⟩
theorem Lp:am 283 anU:=cY (f:=283) (g:=ajE) H2
def ani:Env->FC:=λE=>⟨λrc args h k=>fK args λa=>aj4 E rc a h k⟩
theorem Ej:am 366 ani:=cY (f:=366) (g:=aj4) Nt
def alj:Env->FC:=λE=>⟨λrc args h k=>un0 args (UW E rc h k)⟩
theorem FA:am 367 alj:=Ep (f:=367) (g:=UW) Lu
def aml:Env->FC:=λE=>⟨λrc args h k=>fK args λa=>aeT E rc a h k⟩
theorem DG:am 332 aml:=cY (f:=332) (g:=aeT) NT
def anw:Env->FC:=λE=>⟨λrc args h k=>fK args λa=>Rq E rc a h k⟩
theorem Of:am 275 anw:=cY (f:=275) (g:=Rq) Oa
def alN:Env->FC:=λE=>⟨λrc args h k=>gq args λa b c=>Yn E rc a b c h k⟩
theorem OE:am 277 alN:=du (f:=277) (g:=Yn) J5
def amf:Env->FC:=λE=>⟨λrc args h k=>fK args λa=>ahO E rc a h k⟩
theorem MF:am 278 amf:=cY (f:=278) (g:=ahO) DV
def am6:Env->FC:=λE=>⟨λrc args h k=>gq args λa b c=>ajF E rc a b c h k⟩
theorem MO:am 280 am6:=du (f:=280) (g:=ajF) Dr
def alI:Env->FC:=λE=>⟨λrc args h k=>eK args λa b=>abQ E rc a b h k⟩
theorem E6:am 262 alI:=ci (f:=262) (g:=abQ) Mx
def anl:Env->FC:=λE=>⟨λrc args h k=>qZ args λa b c d=>afo E rc a b c d h k⟩
theorem NB:am 269 anl:=kG (f:=269) (g:=afo) Df
def al8:Env->FC:=λE=>⟨λrc args h k=>gq args λa b c=>abM E rc a b c h k⟩
theorem KT:am 276 al8:=du (f:=276) (g:=abM) Jo
def anv:Env->FC:=λE=>⟨λrc args h k=>qZ args λa b c d=>Z6 E rc a b c d h k⟩
theorem DT:am 279 anv:=kG (f:=279) (g:=Z6) Dm
def apu:Env->FC:=λE=>⟨λrc args h k=>qZ args λa b c d=>Yy E rc a b c d h k⟩
theorem Hx:am 313 apu:=kG (f:=313) (g:=Yy) NZ
def aoj:Env->FC:=λE=>⟨λrc args h k=>eK args λa b=>aes E rc a b h k⟩
theorem C8:am 314 aoj:=ci (f:=314) (g:=aes) Nf
def ap7:Env->FC:=λE=>⟨λrc args h k=>fK args λa=>TL E rc a h k⟩
theorem HO:am 320 ap7:=cY (f:=320) (g:=TL) Iw
def anZ:Env->FC:=λE=>⟨λrc args h k=>gq args λa b c=>aaq E rc a b c h k⟩
theorem GF:am 337 anZ:=du (f:=337) (g:=aaq) Fq
def amn:Env->FC:=λE=>⟨λrc args h k=>fK args λa=>Za E rc a h k⟩
theorem FQ:am 334 amn:=cY (f:=334) (g:=Za) Ic
def anu:Env->FC:=λE=>⟨λrc args h k=>eK args λa b=>agb E rc a b h k⟩
theorem KU:am 335 anu:=ci (f:=335) (g:=agb) OS
def aoJ:Env->FC:=λE=>⟨λrc args h k=>eK args λa b=>aez E rc a b h k⟩
theorem FO:am 336 aoJ:=ci (f:=336) (g:=aez) I4
def ank:Env->FC:=λE=>⟨λrc args h k=>eK args λa b=>YM E rc a b h k⟩
theorem Oc:am 306 ank:=ci (f:=306) (g:=YM) Hn
def aqZ:Env->FC:=λE=>⟨λrc args h k=>fK args λa=>ake E rc a h k⟩
theorem NH:am 355 aqZ:=cY (f:=355) (g:=ake) J4
def anH:Env->FC:=λE=>⟨λrc args h k=>fK args λa=>afl E rc a h k⟩
theorem CQ:am 393 anH:=cY (f:=393) (g:=afl) ED
def anY:Env->FC:=λE=>⟨λrc args h k=>eK args λa b=>P6 E rc a b h k⟩
theorem Fe:am 394 anY:=ci (f:=394) (g:=P6) CJ
def apQ:Env->FC:=λE=>⟨λrc args h k=>un0 args (abN E rc h k)⟩
theorem HF:am 404 apQ:=Ep (f:=404) (g:=abN) Dq
def apa:Env->FC:=λE=>⟨λrc args h k=>eK args λa b=>ag3 E rc a b h k⟩
theorem JG:am 405 apa:=ci (f:=405) (g:=ag3) Iu
def s21:Env->FC:=λE=>⟨λrc args h k=>fK args λa=>g21 E rc a h k⟩
theorem agK:am 76 s21:=cY (f:=76) (g:=g21) ahU
def s23:Env->FC:=λE=>⟨λrc args h k=>fK args λa=>g23 E rc a h k⟩
theorem aj9:am 210 s23:=cY (f:=210) (g:=g23) ahY
def s47:Env->FC:=λE=>⟨λrc args h k=>eK args λa b=>g47 E rc a b h k⟩
theorem agC:am 211 s47:=ci (f:=211) (g:=g47) acs
def s44:Env->FC:=λE=>⟨λrc args h k=>fK args λa=>g44 E rc a h k⟩
theorem WK:am 107 s44:=cY (f:=107) (g:=g44) afU
def anh:Env->FC:=λE=>⟨λrc args h k=>fK args λa=>QB E rc a h k⟩
theorem Lr:am 81 anh:=cY (f:=81) (g:=QB) D5
def alX:Env->FC:=λE=>⟨λrc args h k=>gq args λa b c=>ahE E rc a b c h k⟩
theorem Lb:am 82 alX:=du (f:=82) (g:=ahE) E8
def apk:Env->FC:=λE=>⟨λrc args h k=>gq args λa b c=>Vu E rc a b c h k⟩
theorem Fh:am 86 apk:=du (f:=86) (g:=Vu) G4
def s37:Env->FC:=λE=>⟨λrc args h k=>fK args λa=>g37 E rc a h k⟩
theorem Z2:am 100 s37:=cY (f:=100) (g:=g37) T0
def s40:Env->FC:=λE=>⟨λrc args h k=>gq args λa b c=>g40 E rc a b c h k⟩
theorem ae5:am 103 s40:=du (f:=103) (g:=g40) aeH
def s41:Env->FC:=λE=>⟨λrc args h k=>eK args λa b=>g41 E rc a b h k⟩
theorem acf:am 104 s41:=ci (f:=104) (g:=g41) TD
def aqj:Env->FC:=λE=>⟨λrc args h k=>gq args λa b c=>acu E rc a b c h k⟩
theorem JW:am 291 aqj:=du (f:=291) (g:=acu) LY
def aqG:Env->FC:=λE=>⟨λrc args h k=>eK args λa b=>aaM E rc a b h k⟩
theorem Fv:am 127 aqG:=ci (f:=127) (g:=aaM) Mq
def amO:Env->FC:=λE=>⟨λrc args h k=>eK args λa b=>ajn E rc a b h k⟩
theorem GR:am 186 amO:=ci (f:=186) (g:=ajn) Ji
def als:Env->FC:=λE=>⟨λrc args h k=>fK args λa=>acM E rc a h k⟩
theorem IK:am 301 als:=cY (f:=301) (g:=acM) I5
def ao2:Env->FC:=λE=>⟨λrc args h k=>fK args λa=>TK E rc a h k⟩
theorem Ou:am 122 ao2:=cY (f:=122) (g:=TK) I8
def aqO:Env->FC:=λE=>⟨λrc args h k=>eK args λa b=>Su E rc a b h k⟩
theorem Fy:am 113 aqO:=ci (f:=113) (g:=Su) LJ
def akS:Env->FC:=λE=>⟨λrc args h k=>gq args λa b c=>ajY E rc a b c h k⟩
theorem Gx:am 115 akS:=du (f:=115) (g:=ajY) KO
def amA:Env->FC:=λE=>⟨λrc args h k=>gq args λa b c=>S7 E rc a b c h k⟩
theorem L4:am 116 amA:=du (f:=116) (g:=S7) Iq
def ape:Env->FC:=λE=>⟨λrc args h k=>qZ args λa b c d=>Uc E rc a b c d h k⟩
theorem M7:am 118 ape:=kG (f:=118) (g:=Uc) F2
def aqP:Env->FC:=λE=>⟨λrc args h k=>fK args λa=>RL E rc a h k⟩
theorem N8:am 119 aqP:=cY (f:=119) (g:=RL) Hb
def aoP:Env->FC:=λE=>⟨λrc args h k=>gq args λa b c=>adU E rc a b c h k⟩
theorem JU:am 120 aoP:=du (f:=120) (g:=adU) Ls
def akR:Env->FC:=λE=>⟨λrc args h k=>eK args λa b=>TB E rc a b h k⟩
theorem Lk:am 121 akR:=ci (f:=121) (g:=TB) F3
def akP:Env->FC:=λE=>⟨λrc args h k=>gq args λa b c=>Ro E rc a b c h k⟩
theorem Oi:am 123 akP:=du (f:=123) (g:=Ro) KY
def anD:Env->FC:=λE=>⟨λrc args h k=>gq args λa b c=>acN E rc a b c h k⟩
theorem GP:am 129 anD:=du (f:=129) (g:=acN) GQ
def akQ:Env->FC:=λE=>⟨λrc args h k=>gq args λa b c=>abb E rc a b c h k⟩
theorem It:am 382 akQ:=du (f:=382) (g:=abb) Mj
def s74:Env->FC:=λE=>⟨λrc args h k=>fK args λa=>g74 E rc a h k⟩
theorem P9:am 149 s74:=cY (f:=149) (g:=g74) aaG
def s89:Env->FC:=λE=>⟨λrc args h k=>fK args λa=>g89 E rc a h k⟩
theorem RN:am 164 s89:=cY (f:=164) (g:=g89) ah3
def s90:Env->FC:=λE=>⟨λrc args h k=>fK args λa=>g90 E rc a h k⟩
theorem Zi:am 165 s90:=cY (f:=165) (g:=g90) afA
def s98:Env->FC:=λE=>⟨λrc args h k=>qZ args λa b c d=>g98 E rc a b c d h k⟩
theorem U0:am 173 s98:=kG (f:=173) (g:=g98) ac4
def apm:Env->FC:=λE=>⟨λrc args h k=>eK args λa b=>aa3 E rc a b h k⟩
theorem HD:am 175 apm:=ci (f:=175) (g:=aa3) Gk
def alQ:Env->FC:=λE=>⟨λrc args h k=>eK args λa b=>YT E rc a b h k⟩
theorem CS:am 177 alQ:=ci (f:=177) (g:=YT) Hm
def aon:Env->FC:=λE=>⟨λrc args h k=>fK args λa=>ahh E rc a h k⟩
theorem Ov:am 191 aon:=cY (f:=191) (g:=ahh) GG
def alo:Env->FC:=λE=>⟨λrc args h k=>fK args λa=>QQ E rc a h k⟩
theorem Gr:am 345 alo:=cY (f:=345) (g:=QQ) Kt
def amL:Env->FC:=λE=>⟨λrc args h k=>eK args λa b=>abk E rc a b h k⟩
theorem Nq:am 181 amL:=ci (f:=181) (g:=abk) LZ
def aq3:Env->FC:=λE=>⟨λrc args h k=>gq args λa b c=>Qu E rc a b c h k⟩
theorem Dj:am 188 aq3:=du (f:=188) (g:=Qu) Gg
def am0:Env->FC:=λE=>⟨λrc args h k=>fK args λa=>Qb E rc a h k⟩
theorem H5:am 190 am0:=cY (f:=190) (g:=Qb) Lm
def alc:Env->FC:=λE=>⟨λrc args h k=>gq args λa b c=>acV E rc a b c h k⟩
theorem M3:am 192 alc:=du (f:=192) (g:=acV) HI
def ap3:Env->FC:=λE=>⟨λrc args h k=>fK args λa=>ajZ E rc a h k⟩
theorem Ge:am 193 ap3:=cY (f:=193) (g:=ajZ) Lj
def anF:Env->FC:=λE=>⟨λrc args h k=>fK args λa=>adg E rc a h k⟩
theorem Gm:am 227 anF:=cY (f:=227) (g:=adg) M9
def amD:Env->FC:=λE=>⟨λrc args h k=>fK args λa=>aca E rc a h k⟩
theorem Lg:am 231 amD:=cY (f:=231) (g:=aca) Dy
def aox:Env->FC:=λE=>⟨λrc args h k=>gq args λa b c=>Sj E rc a b c h k⟩
theorem MJ:am 251 aox:=du (f:=251) (g:=Sj) Dd
def al4:Env->FC:=λE=>⟨λrc args h k=>eK args λa b=>acd E rc a b h k⟩
theorem KL:am 252 al4:=ci (f:=252) (g:=acd) Jn
def aqo:Env->FC:=λE=>⟨λrc args h k=>qZ args λa b c d=>aji E rc a b c d h k⟩
theorem KF:am 253 aqo:=kG (f:=253) (g:=aji) JR
def aqA:Env->FC:=λE=>⟨λrc args h k=>eK args λa b=>ac7 E rc a b h k⟩
theorem CN:am 257 aqA:=ci (f:=257) (g:=ac7) Cl
def akK:Env->FC:=λE=>⟨λrc args h k=>gq args λa b c=>X0 E rc a b c h k⟩
theorem JK:am 258 akK:=du (f:=258) (g:=X0) FL
def aob:Env->FC:=λE=>⟨λrc args h k=>fK args λa=>QK E rc a h k⟩
theorem GZ:am 273 aob:=cY (f:=273) (g:=QK) Db
def anp:Env->FC:=λE=>⟨λrc args h k=>fK args λa=>ae2 E rc a h k⟩
theorem Lt:am 270 anp:=cY (f:=270) (g:=ae2) Ef
def akB:Env->FC:=λE=>⟨λrc args h k=>fK args λa=>agc E rc a h k⟩
theorem KH:am 307 akB:=cY (f:=307) (g:=agc) OQ
def aks:Env->FC:=λE=>⟨λrc args h k=>gq args λa b c=>S6 E rc a b c h k⟩
theorem Lw:am 308 aks:=du (f:=308) (g:=S6) Hf
def amK:Env->FC:=λE=>⟨λrc args h k=>eK args λa b=>R9 E rc a b h k⟩
theorem Gq:am 312 amK:=ci (f:=312) (g:=R9) Ir
def apK:Env->FC:=λE=>⟨λrc args h k=>eK args λa b=>Rz E rc a b h k⟩
theorem Oq:am 327 apK:=ci (f:=327) (g:=Rz) NJ
def amu:Env->FC:=λE=>⟨λrc args h k=>eK args λa b=>acD E rc a b h k⟩
theorem GO:am 328 amu:=ci (f:=328) (g:=acD) K2
def anS:Env->FC:=λE=>⟨λrc args h k=>eK args λa b=>Yu E rc a b h k⟩
theorem GE:am 330 anS:=ci (f:=330) (g:=Yu) H9
def am3:Env->FC:=λE=>⟨λrc args h k=>gq args λa b c=>PZ E rc a b c h k⟩
theorem Ec:am 441 am3:=du (f:=441) (g:=PZ) CF
def aoY:Env->FC:=λE=>⟨λrc args h k=>eK args λa b=>aar E rc a b h k⟩
theorem NE:am 356 aoY:=ci (f:=356) (g:=aar) K9
def aqu:Env->FC:=λE=>⟨λrc args h k=>eK args λa b=>af9 E rc a b h k⟩
theorem Ew:am 435 aqu:=ci (f:=435) (g:=af9) Ju
def alD:Env->FC:=λE=>⟨λrc args h k=>eK args λa b=>ahK E rc a b h k⟩
theorem DW:am 457 alD:=ci (f:=457) (g:=ahK) MV
def aq2:Env->FC:=λE=>⟨λrc args h k=>eK args λa b=>ail E rc a b h k⟩
theorem H4:am 465 aq2:=ci (f:=465) (g:=ail) Iy
def apt:Env->FC:=λE=>⟨λrc args h k=>eK args λa b=>aeM E rc a b h k⟩
theorem Lh:am 436 apt:=ci (f:=436) (g:=aeM) J7
def aq0:Env->FC:=λE=>⟨λrc args h k=>eK args λa b=>ahX E rc a b h k⟩
theorem N5:am 437 aq0:=ci (f:=437) (g:=ahX) NK
def aos:Env->FC:=λE=>⟨λrc args h k=>eK args λa b=>acY E rc a b h k⟩
theorem Ll:am 444 aos:=ci (f:=444) (g:=acY) MW
def VV:List (Nat × (Env->FC)):=[
(75,s20),
(112,s46),
(87,s48),
(114,am2),
(208,apz),
(79,anX),
(101,s38),
(102,s39),
(105,s42),
(106,s43),
(184,aov),
(126,s50),
(267,akG),
(130,apo),
(271,aok),
(244,an1),
(233,amr),
(187,amR),
(150,s75),
(259,aoo),
(272,ams),
(200,aqc),
(117,anj),
(128,s99),
(346,apf),
(248,alp),
(30,s32),
(151,s76),
(153,s78),
(154,s79),
(155,s80),
(156,s81),
(157,s82),
(158,s83),
(160,s85),
(162,s87),
(163,s88),
(168,s93),
(171,s96),
(172,s97),
(265,amb),
(201,al9),
(266,al2),
(185,s49),
(249,apL),
(250,alO),
(319,aql),
(323,akM),
(324,alF),
(325,aqf),
(202,amN),
(347,anc),
(261,ao4),
(281,aly),
(199,aqm),
(245,alS),
(321,anr),
(322,apV),
(198,apZ),
(365,anG),
(326,amY),
(268,aqr),
(49,s66),
(228,aoO),
(229,amW),
(232,amy),
(236,aq7),
(237,ane),
(238,aol),
(239,ap5),
(240,aoN),
(241,anO),
(242,aoM),
(247,alq),
(255,aom),
(282,akN),
(283,anU),
(366,ani),
(367,alj),
(332,aml),
(275,anw),
(277,alN),
(278,amf),
(280,am6),
(262,alI),
(269,anl),
(276,al8),
(279,anv),
(313,apu),
(314,aoj),
(320,ap7),
(337,anZ),
(334,amn),
(335,anu),
(336,aoJ),
(306,ank),
(355,aqZ),
(393,anH),
(394,anY),
(404,apQ),
(405,apa),
(76,s21),
(210,s23),
(211,s47),
(107,s44),
(81,anh),
(82,alX),
(86,apk),
(100,s37),
(103,s40),
(104,s41),
(291,aqj),
(127,aqG),
(186,amO),
(301,als),
(122,ao2),
(113,aqO),
(115,akS),
(116,amA),
(118,ape),
(119,aqP),
(120,aoP),
(121,akR),
(123,akP),
(129,anD),
(382,akQ),
(149,s74),
(164,s89),
(165,s90),
(173,s98),
(175,apm),
(177,alQ),
(191,aon),
(345,alo),
(181,amL),
(188,aq3),
(190,am0),
(192,alc),
(193,ap3),
(227,anF),
(231,amD),
(251,aox),
(252,al4),
(253,aqo),
(257,aqA),
(258,akK),
(273,aob),
(270,anp),
(307,akB),
(308,aks),
(312,amK),
(327,apK),
(328,amu),
(330,anS),
(441,am3),
(356,aoY),
(435,aqu),
(457,alD),
(465,aq2),
(436,apt),
(437,aq0),
(444,aos)]
def sV:List (Nat × (Env->FC))->Prop
 | []=>True
 | p :: l=>am p.1 p.2/\sV l
theorem MB:sV VV:=
 ⟨agP,UY,Wz,Dw,Nc,Lz,ait,aiw,Q7,ade,KC,YL,L3,EA,Hz,Ky,KW,JD,QL,Ie,Kd,G1,JZ,U1,Gl,GN,aav,ab2,Ve,adQ,aia,ago,Wp,ae0,ZN,ajI,Qg,aep,Tu,Xh,HV,HL,Js,aam,L5,CK,Cm,Dx,Hp,JX,Fi,Fl,HB,Nv,JP,L6,ML,C4,KV,IP,Je,DZ,UO,FR,Nw,GY,D4,Fs,C9,EZ,IQ,Fw,NL,G9,MM,II,Lp,Ej,FA,DG,Of,OE,MF,MO,E6,NB,KT,DT,Hx,C8,HO,GF,FQ,KU,FO,Oc,NH,CQ,Fe,HF,JG,agK,aj9,agC,WK,Lr,Lb,Fh,Z2,ae5,acf,JW,Fv,GR,IK,Ou,Fy,Gx,L4,M7,N8,JU,Lk,Oi,GP,It,P9,RN,Zi,U0,HD,CS,Ov,Gr,Nq,Dj,H5,M3,Ge,Gm,Lg,MJ,KL,KF,CN,JK,GZ,Lt,KH,Lw,Gq,Oq,GO,GE,Ec,NE,Ew,DW,H4,Lh,N5,Ll,trivial⟩
def wP (i:Nat) (l:List (Nat × (Env->FC))):Option (Env->FC):=List.rec (motive:=λ_=>Option (Env->FC)) none (λp _ ih=>Bool.rec (motive:=λ_=>Option (Env->FC)) ih (some p.2) (beq p.1 i)) l
theorem rR {i:Nat} {s:Env->FC}:∀{l:List (Nat × (Env->FC))},sV l->wP i l=some s->am i s
 | [],_,h=>nomatch h
 | p :: l,⟨h1,h2⟩,h=>by
  have h:Bool.rec (motive:=λ_=>Option (Env->FC)) (wP i l) (some p.2) (beq p.1 i)=some s:=h;cases hb:beq p.1 i with
  | false=>rw[hb] at h;exact rR h2 h
  | true=> rw[hb] at h;rw[<-Nat.eq_of_beq_eq_true hb];cases h;exact h1
def hot:T (Option (Env->FC)):=Pt none 10 (λi=>wP i VV)
theorem Xq {i:Nat} {s:Env->FC} (h:hot.get i=some s):am i s:=by
 rcases pu none 10 (λi=>wP i VV) i with e | e
 ·exact rR MB (e.symm.trans h)
 ·exact nomatch (e.symm.trans h)
def QO (t:ak) (f:FuncId):FC:=
 match t.get f with
 | some _=>bN (EX t) KK f
 | none=>match hot.get f with
  | some s=>s (EX t)
  | none=>bN (EX t) KK f
def PG (t:ak) (n:Nat):RC:=
 Nat.rec (motive:=λ_=>RC) (λ_ _ _ _=>none) (λ_ ih f args h k=>(QO t f).run ih args h k) n
theorem bB {t:ak} {f:FuncId} (h:t.get f=none):bN (EX t) KK f=ax (EX t) KK f:=by
 unfold bN ax;cases (EX t).funs.get f with
 | none=>rfl
 | some fn=> have:(EX t).ext f=none:=h;simp only[this];cases fn.body <;> rfl
theorem Ja {t:ak} {rc:RC} (hrc:jF (EX t) rc) (f:FuncId) (args:List Value) (h:H) (k:Value->H->R) (r) (hk:(QO t f).run rc args h k=some r):
  ∃v h',(Ev λN=>iF (EX t) (cf (EX t) N) f args h=some (v,h'))/\k v h'=some r:=by
 refine ve (K:=KK) hrc f args h k r ?_;unfold QO at hk;split at hk
 ·exact hk
 ·rename_i h0;split at hk
  ·rename_i s hs;rw[bB h0];exact Xq hs t rc args h k r hk
  ·exact hk
theorem qU (t:ak) (n:Nat):jF (EX t) (PG t n):=by
 induction n with
 | zero=>intro f args h k r hk;exact nomatch hk
 | succ n ih=>intro f args h k r hk;exact Ja ih f args h k r hk
end Go.Ev
