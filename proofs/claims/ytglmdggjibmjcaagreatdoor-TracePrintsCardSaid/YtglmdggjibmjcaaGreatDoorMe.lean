/-
  CALLS IN WHICH SOME FUNCTIONS RUN AS PLAIN LEAN.
-/
import Derived.Test.YtglmdggjibmjcaaGreatDoorMd
noncomputable section
set_option linter.unusedVariables false
set_option linter.unusedSimpArgs false
set_option maxRecDepth 100000
open Nat (ble beq)
namespace Go.Ev
open Go F Go.Proofs
def We (E:Env)(rc:RC)(a0 a1:Value)(h:H)(k:Value->H->R):R:=onCells a0 λa=>ifB (allF (λb=>cell1F b) a) (ifB (ble h.1 1000000000) (letH (ae h (.row 430 (lenF a) false false 0 (T.ofList unk a))) λb=>binR (binC E .geq 3 (aU (.tmp 5)) (aU (.const (.int .i64 0)))) a1 (.int .i64 (.ofNat 0)) λc=>ab (λd e=>ab (λf g=>ab (λi j=>ab (λl m=>ab (λn o=>onB c (k (.bool false) o) (k n o)) λn=>aF c (n undef m) (binR (binC E .lss 3 (aU (.tmp 8)) (aU (.tmp 11))) d l λo=>n o m) (n undef m)) λl=>aF c (l undef j) (onSl i (bindO (aZ E j 320 i) λm=>l m j) λ_ m _=>l (.int .i64 (.ofNat m)) j) (l undef j)) λi=>aF c (i undef g) (onPtr f λj=>onRow (hget g j.1) λ_ l _ _ _ m=>ifB (ble (Nat.succ j.2) l) (i (getF m j.2) g)) (i undef g)) λf=>aF c (f undef e) (f (.pointer (some (Addr.mk h.1 0 none))) e) (f undef e)) λd=>aF c (d undef b) (d a1 b) (d undef b)))
theorem Qy (t:ak)(rc:RC)(a0 a1:Value)(h:H)(k:Value->H->R):(aD (EX t) KK 507).run rc [a0,a1] h k = We (EX t) rc a0 a1 h k:=by kernel_rfl
def agQ (E:Env)(rc:RC)(a0 a1:Value)(h:H)(k:Value->H->R):R:=onCells a0 λa=>ifB (allF (λb=>cell1F b) a) (ifB (ble h.1 1000000000) (letH (ae h (.row 430 (lenF a) false false 0 (T.ofList unk a))) λb=>onRow (hget b h.1) λ_ c _ _ _ d=>ifB (ble (Nat.succ 0) c) (bindO (cI E 320 (getF d 0) none (some a1) none) λe=>onSl e (bindO (aZ E b 320 e) λf=>@joinR [5] (λg i=>k g.1 i) λg=>@loopF [5,13] (λi j l=>binR (binC E .lss 3 (aU (.tmp 13)) (aU (.tmp 12))) j.2.1 f λm=>@joinR [] (λ_ n=>@joinR [5] (λo p=>binR (binC E .add 3 (aU (.tmp 13)) (aU (.const (.int .i64 1)))) j.2.1 (.int .i64 (.ofNat 1)) λq=>i (o.1,(q,())) p) λo=>onNat j.2.1 none λp=>onSl e none λq r _=>ifB (ble (Nat.succ p) r) (addOffF q (Nat.mul p 1) λs=>onPtr s λt=>onRow (hget n t.1) λ_ u _ _ _ v=>ifB (ble (Nat.succ t.2) u) (binR (binC E .add 3 (aU (.tmp 17)) (aU (.tmp 18))) j.1 (getF v t.2) λw=>o (w,()) n))) λn=>onB m (g (j.1,()) l) (n () l)) 1000000 (.int .i64 (.ofNat 0),(.int .i64 (.ofNat 0),())) b) λ_ f _=>@joinR [5] (λg i=>k g.1 i) λg=>@loopF [5,13] (λi j l=>binR (binC E .lss 3 (aU (.tmp 13)) (aU (.tmp 12))) j.2.1 (.int .i64 (.ofNat f)) λm=>@joinR [] (λ_ n=>@joinR [5] (λo p=>binR (binC E .add 3 (aU (.tmp 13)) (aU (.const (.int .i64 1)))) j.2.1 (.int .i64 (.ofNat 1)) λq=>i (o.1,(q,())) p) λo=>onNat j.2.1 none λp=>onSl e none λq r _=>ifB (ble (Nat.succ p) r) (addOffF q (Nat.mul p 1) λs=>onPtr s λt=>onRow (hget n t.1) λ_ u _ _ _ v=>ifB (ble (Nat.succ t.2) u) (binR (binC E .add 3 (aU (.tmp 17)) (aU (.tmp 18))) j.1 (getF v t.2) λw=>o (w,()) n))) λn=>onB m (g (j.1,()) l) (n () l)) 1000000 (.int .i64 (.ofNat 0),(.int .i64 (.ofNat 0),())) b)))
theorem M2 (t:ak)(rc:RC)(a0 a1:Value)(h:H)(k:Value->H->R):(aD (EX t) KK 506).run rc [a0,a1] h k = agQ (EX t) rc a0 a1 h k:=by kernel_rfl
def ahv (E:Env)(rc:RC)(a0 a1:Value)(h:H)(k:Value->H->R):R:=onCells a0 λa=>ifB (allF (λb=>cell1F b) a) (ifB (ble h.1 1000000000) (letH (ae h (.row 430 (lenF a) false false 0 (T.ofList unk a))) λb=>onRow (hget b h.1) λ_ c _ _ _ d=>ifB (ble (Nat.add 0 1) c) (rc 507 [.agg ⟨ac d 1 0⟩,a1] b λe f=>onB e (@joinR [4] (λ_ g=>onRow (hget g h.1) λ_ i _ _ _ j=>ifB (ble (Nat.add 0 1) i) (rc 506 [.agg ⟨ac j 1 0⟩,a1] g λl m=>k l m)) λ_=>k (.int .i64 (.ofNat 0)) f) (@joinR [4] (λ_ g=>onRow (hget g h.1) λ_ i _ _ _ j=>ifB (ble (Nat.add 0 1) i) (rc 506 [.agg ⟨ac j 1 0⟩,a1] g λl m=>k l m)) λg=>g (.int .i64 (.ofNat 0),()) f))))
theorem Ij (t:ak)(rc:RC)(a0 a1:Value)(h:H)(k:Value->H->R):(aD (EX t) KK 508).run rc [a0,a1] h k = ahv (EX t) rc a0 a1 h k:=by kernel_rfl
def Ys (E:Env)(rc:RC)(a0 a1 a2:Value)(h:H)(k:Value->H->R):R:=onCells a0 λa=>ifB (allF (λb=>cell1F b) a) (ifB (ble h.1 1000000000) (letH (ae h (.row 430 (lenF a) false false 0 (T.ofList unk a))) λb=>onCells a1 λc=>ifB (allF (λd=>cell1F d) c) (ifB (ble b.1 1000000000) (letH (ae b (.row 171 (lenF c) false false 0 (T.ofList unk c))) λd=>onRow (hget d h.1) λ_ e _ _ _ f=>ifB (ble (Nat.add 0 1) e) (rc 507 [.agg ⟨ac f 1 0⟩,a2] d λg i=>onB g (@joinR [6,7] (λ_ j=>ifB (ble j.1 1000000000) (letH (H.mk (Nat.add j.1 0) j.2) λl=>onRow (hget l b.1) λ_ m _ _ _ n=>ifB (ble (Nat.add 0 3) m) (onRow (hget l h.1) λ_ o _ _ _ p=>ifB (ble (Nat.add 0 1) o) (onRow (hget l h.1) λ_ q _ _ _ r=>ifB (ble (Nat.succ 0) q) (onNat a2 none λs=>onSl (getF r 0) none λt u _=>ifB (ble (Nat.succ s) u) (addOffF t (Nat.mul s 1) λv=>onPtr v λw=>onRow (hget l w.1) λ_ x _ _ _ y=>ifB (ble (Nat.succ w.2) x) (rc 508 [.agg ⟨ac p 1 0⟩,a2] l λz a3=>onRow (hget a3 b.1) λ_ a4 _ _ _ a5=>ifB (ble (Nat.add 0 3) a4) (ifB (ai (.agg ⟨ac a5 3 0⟩) (.agg ⟨ac n 3 0⟩)) (ifB (ai (.pointer (some (Addr.mk h.1 0 none))) (.pointer (some (Addr.mk h.1 0 none)))) (onRow (hget a3 h.1) λ_ a6 _ _ _ a7=>ifB (ble (Nat.succ 0) a6) (ifB (ai (getF a7 0) (getF r 0)) (ifB (ai a2 a2) (onNat a2 none λa8=>onSl (getF r 0) none λa9 b0 _=>ifB (ble (Nat.succ a8) b0) (addOffF a9 (Nat.mul a8 1) λb1=>ifB (ai b1 v) (onPtr v λb2=>onRow (hget a3 b2.1) λ_ b3 _ _ _ b4=>ifB (ble (Nat.succ b2.2) b3) (ifB (ai (getF b4 b2.2) (getF y w.2)) (rc 288 [.agg ⟨ac n 3 0⟩,z,getF y w.2] a3 λb5 b6=>onTup b5 λb7=>nthF 0 b7 λb8=>onTup b5 λb9=>nthF 1 b9 λc0=>ifB (List.all [b8,c0] λc1=>Bool.not (isTuple c1)) (k (.tuple ⟨[b8,c0]⟩) b6)))))))))))))))))) λ_=>k (.tuple ⟨[.int .u64 (.ofNat 0),.int .i64 (.ofNat 2)]⟩) i) (@joinR [6,7] (λ_ j=>ifB (ble j.1 1000000000) (letH (H.mk (Nat.add j.1 0) j.2) λl=>onRow (hget l b.1) λ_ m _ _ _ n=>ifB (ble (Nat.add 0 3) m) (onRow (hget l h.1) λ_ o _ _ _ p=>ifB (ble (Nat.add 0 1) o) (onRow (hget l h.1) λ_ q _ _ _ r=>ifB (ble (Nat.succ 0) q) (onNat a2 none λs=>onSl (getF r 0) none λt u _=>ifB (ble (Nat.succ s) u) (addOffF t (Nat.mul s 1) λv=>onPtr v λw=>onRow (hget l w.1) λ_ x _ _ _ y=>ifB (ble (Nat.succ w.2) x) (rc 508 [.agg ⟨ac p 1 0⟩,a2] l λz a3=>onRow (hget a3 b.1) λ_ a4 _ _ _ a5=>ifB (ble (Nat.add 0 3) a4) (ifB (ai (.agg ⟨ac a5 3 0⟩) (.agg ⟨ac n 3 0⟩)) (ifB (ai (.pointer (some (Addr.mk h.1 0 none))) (.pointer (some (Addr.mk h.1 0 none)))) (onRow (hget a3 h.1) λ_ a6 _ _ _ a7=>ifB (ble (Nat.succ 0) a6) (ifB (ai (getF a7 0) (getF r 0)) (ifB (ai a2 a2) (onNat a2 none λa8=>onSl (getF r 0) none λa9 b0 _=>ifB (ble (Nat.succ a8) b0) (addOffF a9 (Nat.mul a8 1) λb1=>ifB (ai b1 v) (onPtr v λb2=>onRow (hget a3 b2.1) λ_ b3 _ _ _ b4=>ifB (ble (Nat.succ b2.2) b3) (ifB (ai (getF b4 b2.2) (getF y w.2)) (rc 288 [.agg ⟨ac n 3 0⟩,z,getF y w.2] a3 λb5 b6=>onTup b5 λb7=>nthF 0 b7 λb8=>onTup b5 λb9=>nthF 1 b9 λc0=>ifB (List.all [b8,c0] λc1=>Bool.not (isTuple c1)) (k (.tuple ⟨[b8,c0]⟩) b6)))))))))))))))))) λj=>j (.int .u64 (.ofNat 0),(.int .i64 (.ofNat 0),())) i))))))
theorem P5 (t:ak)(rc:RC)(a0 a1 a2:Value)(h:H)(k:Value->H->R):(aD (EX t) KK 473).run rc [a0,a1,a2] h k = Ys (EX t) rc a0 a1 a2 h k:=by kernel_rfl
def Zi (E:Env)(rc:RC)(a0:Value)(h:H)(k:Value->H->R):R:=onCells a0 λa=>ifB (allF (λb=>cell1F b) a) (ifB (ble h.1 1000000000) (letH (ae h (.row 171 (lenF a) false false 0 (T.ofList unk a))) λb=>onRow (hget b h.1) λ_ c _ _ _ d=>ifB (ble (Nat.succ (Nat.add 0 2)) c) (k (getF d (Nat.add 0 2)) b)))
theorem I9 (t:ak)(rc:RC)(a0:Value)(h:H)(k:Value->H->R):(aD (EX t) KK 369).run rc [a0] h k = Zi (EX t) rc a0 h k:=by kernel_rfl
def abw (E:Env)(rc:RC)(a0:Value)(h:H)(k:Value->H->R):R:=onCells a0 λa=>ifB (allF (λb=>cell1F b) a) (ifB (ble h.1 1000000000) (letH (ae h (.row 430 (lenF a) false false 0 (T.ofList unk a))) λb=>onRow (hget b h.1) λ_ c _ _ _ d=>ifB (ble (Nat.add 0 1) c) (onRow (hget b h.1) λ_ e _ _ _ f=>ifB (ble (Nat.succ 0) e) (onSl (getF f 0) (bindO (aZ E b 320 (getF f 0)) λg=>rc 506 [.agg ⟨ac d 1 0⟩,g] b λi j=>k i j) λ_ g _=>rc 506 [.agg ⟨ac d 1 0⟩,.int .i64 (.ofNat g)] b λi j=>k i j))))
theorem JH (t:ak)(rc:RC)(a0:Value)(h:H)(k:Value->H->R):(aD (EX t) KK 471).run rc [a0] h k = abw (EX t) rc a0 h k:=by kernel_rfl
def un0 (l:List Value) (k:R):R:=List.rec (motive:=λ_=>R) k (λ_ _ _=>none) l
def gC (l:List Value) (k:Value->R):R:=List.rec (motive:=λ_=>R) none (λa l _=>un0 l (k a)) l
def fo (l:List Value) (k:Value->Value->R):R:=List.rec (motive:=λ_=>R) none (λa l _=>gC l (k a)) l
def ig (l:List Value) (k:Value->Value->Value->R):R:=List.rec (motive:=λ_=>R) none (λa l _=>fo l (k a)) l
def sX (l:List Value) (k:Value->Value->Value->Value->R):R:=List.rec (motive:=λ_=>R) none (λa l _=>ig l (k a)) l
def un5 (l:List Value) (k:Value->Value->Value->Value->Value->R):R:=List.rec (motive:=λ_=>R) none (λa l _=>sX l (k a)) l
theorem vH {l:List Value} {k:R} {r} (h:un0 l k=some r):l=[]/\k=some r:=by
 cases l with
 | nil=>exact⟨rfl,h⟩
 | cons a l=>exact nomatch h
theorem uY {l:List Value} {k:Value->R} {r} (h:gC l k=some r):∃a,l=[a]/\k a=some r:=by
 cases l with
 | nil=>exact nomatch h
 | cons a l=> obtain⟨rfl,h⟩:=vH (l:=l) (k:=k a) h;exact⟨a,rfl,h⟩
theorem uM {l:List Value} {k:Value->Value->R} {r} (h:fo l k=some r):∃a b,l=[a,b]/\k a b=some r:=by
 cases l with
 | nil=>exact nomatch h
 | cons a l=> obtain⟨b,rfl,h⟩:=uY (l:=l) (k:=k a) h;exact⟨a,b,rfl,h⟩
theorem s8 {l:List Value} {k:Value->Value->Value->R} {r} (h:ig l k=some r):∃a b c,l=[a,b,c]/\k a b c=some r:=by
 cases l with
 | nil=>exact nomatch h
 | cons a l=> obtain⟨b,c,rfl,h⟩:=uM (l:=l) (k:=k a) h;exact⟨a,b,c,rfl,h⟩
theorem vf {l:List Value} {k:Value->Value->Value->Value->R} {r} (h:sX l k=some r):∃a b c d,l=[a,b,c,d]/\k a b c d=some r:=by
 cases l with
 | nil=>exact nomatch h
 | cons a l=> obtain⟨b,c,d,rfl,h⟩:=s8 (l:=l) (k:=k a) h;exact⟨a,b,c,d,rfl,h⟩
theorem Cj {l:List Value} {k:Value->Value->Value->Value->Value->R} {r} (h:un5 l k=some r):∃a b c d e,l=[a,b,c,d,e]/\k a b c d e=some r:=by
 cases l with
 | nil=>exact nomatch h
 | cons a l=> obtain⟨b,c,d,e,rfl,h⟩:=vf (l:=l) (k:=k a) h;exact⟨a,b,c,d,e,rfl,h⟩
def ao (f:FuncId) (s:Env->FC):Prop:=∀(t:ak) rc args h k r,(s (EX t)).run rc args h k=some r->(aD (EX t) KK f).run rc args h k=some r
theorem RZ {f:FuncId} {g:Env->RC->H->(Value->H->R)->R} (e:∀t rc h k,(aD (EX t) KK f).run rc [] h k=g (EX t) rc h k):ao f (λE=>⟨λrc args h k=>un0 args (g E rc h k)⟩):=by intro t rc args h k r hk;obtain⟨rfl,hk⟩:=vH hk;rw[e];exact hk
theorem dw {f:FuncId} {g:Env->RC->Value->H->(Value->H->R)->R} (e:∀t rc a h k,(aD (EX t) KK f).run rc [a] h k=g (EX t) rc a h k):ao f (λE=>⟨λrc args h k=>gC args λa=>g E rc a h k⟩):=by intro t rc args h k r hk;obtain⟨a,rfl,hk⟩:=uY hk;rw[e];exact hk
theorem cP {f:FuncId} {g:Env->RC->Value->Value->H->(Value->H->R)->R} (e:∀t rc a b h k,(aD (EX t) KK f).run rc [a,b] h k=g (EX t) rc a b h k):ao f (λE=>⟨λrc args h k=>fo args λa b=>g E rc a b h k⟩):=by intro t rc args h k r hk;obtain⟨a,b,rfl,hk⟩:=uM hk;rw[e];exact hk
theorem dS {f:FuncId} {g:Env->RC->Value->Value->Value->H->(Value->H->R)->R} (e:∀t rc a b c h k,(aD (EX t) KK f).run rc [a,b,c] h k=g (EX t) rc a b c h k):ao f (λE=>⟨λrc args h k=>ig args λa b c=>g E rc a b c h k⟩):=by intro t rc args h k r hk;obtain⟨a,b,c,rfl,hk⟩:=s8 hk;rw[e];exact hk
theorem l8 {f:FuncId} {g:Env->RC->Value->Value->Value->Value->H->(Value->H->R)->R} (e:∀t rc a b c d h k,(aD (EX t) KK f).run rc [a,b,c,d] h k=g (EX t) rc a b c d h k):ao f (λE=>⟨λrc args h k=>sX args λa b c d=>g E rc a b c d h k⟩):=by intro t rc args h k r hk;obtain⟨a,b,c,d,rfl,hk⟩:=vf hk;rw[e];exact hk
theorem aw6 {f:FuncId} {g:Env->RC->Value->Value->Value->Value->Value->H->(Value->H->R)->R} (e:∀t rc a b c d x h k,(aD (EX t) KK f).run rc [a,b,c,d,x] h k=g (EX t) rc a b c d x h k):ao f (λE=>⟨λrc args h k=>un5 args λa b c d x=>g E rc a b c d x h k⟩):=by intro t rc args h k r hk;obtain⟨a,b,c,d,x,rfl,hk⟩:=Cj hk;rw[e];exact hk
def s20:Env->FC:=λE=>⟨λrc args h k=>gC args λa=>g20 E rc a h k⟩
theorem Ud:ao 114 s20:=dw (f:=114) (g:=g20) Ur
def s46:Env->FC:=λE=>⟨λrc args h k=>fo args λa b=>g46 E rc a b h k⟩
theorem adk:ao 222 s46:=cP (f:=222) (g:=g46) U7
def s48:Env->FC:=λE=>⟨λrc args h k=>gC args λa=>g48 E rc a h k⟩
theorem ad3:ao 200 s48:=dw (f:=200) (g:=g48) aka
def atS:Env->FC:=λE=>⟨λrc args h k=>fo args λa b=>ahe E rc a b h k⟩
theorem HH:ao 250 atS:=cP (f:=250) (g:=ahe) Gy
def are:Env->FC:=λE=>⟨λrc args h k=>gC args λa=>agR E rc a h k⟩
theorem HI:ao 377 are:=dw (f:=377) (g:=agR) QU
def ao6:Env->FC:=λE=>⟨λrc args h k=>un5 args λa b c d x=>amn E rc a b c d x h k⟩
theorem I5:ao 191 ao6:=aw6 (f:=191) (g:=amn) RH
def s38:Env->FC:=λE=>⟨λrc args h k=>fo args λa b=>g38 E rc a b h k⟩
theorem am4:ao 176 s38:=cP (f:=176) (g:=g38) ajL
def s39:Env->FC:=λE=>⟨λrc args h k=>sX args λa b c d=>g39 E rc a b c d h k⟩
theorem ads:ao 177 s39:=l8 (f:=177) (g:=g39) alW
def s42:Env->FC:=λE=>⟨λrc args h k=>sX args λa b c d=>g42 E rc a b c d h k⟩
theorem adI:ao 180 s42:=l8 (f:=180) (g:=g42) agr
def s43:Env->FC:=λE=>⟨λrc args h k=>ig args λa b c=>g43 E rc a b c h k⟩
theorem ab5:ao 181 s43:=dS (f:=181) (g:=g43) V5
def asz:Env->FC:=λE=>⟨λrc args h k=>fo args λa b=>agW E rc a b h k⟩
theorem Kl:ao 315 asz:=cP (f:=315) (g:=agW) HB
def s50:Env->FC:=λE=>⟨λrc args h k=>fo args λa b=>g50 E rc a b h k⟩
theorem akD:ao 244 s50:=cP (f:=244) (g:=g50) T3
def atC:Env->FC:=λE=>⟨λrc args h k=>fo args λa b=>Z8 E rc a b h k⟩
theorem J9:ao 342 atC:=cP (f:=342) (g:=Z8) Gz
def aqs:Env->FC:=λE=>⟨λrc args h k=>gC args λa=>ac8 E rc a h k⟩
theorem M5:ao 299 aqs:=dw (f:=299) (g:=ac8) Gu
def asc:Env->FC:=λE=>⟨λrc args h k=>gC args λa=>amG E rc a h k⟩
theorem No:ao 430 asc:=dw (f:=430) (g:=amG) L6
def auR:Env->FC:=λE=>⟨λrc args h k=>ig args λa b c=>ahV E rc a b c h k⟩
theorem Jd:ao 368 auR:=dS (f:=368) (g:=ahV) H1
def atu:Env->FC:=λE=>⟨λrc args h k=>gC args λa=>aaV E rc a h k⟩
theorem Ro:ao 359 atu:=dw (f:=359) (g:=aaV) Gh
def apk:Env->FC:=λE=>⟨λrc args h k=>fo args λa b=>alS E rc a b h k⟩
theorem GE:ao 316 apk:=cP (f:=316) (g:=alS) Se
def s75:Env->FC:=λE=>⟨λrc args h k=>gC args λa=>g75 E rc a h k⟩
theorem aaX:ao 258 s75:=dw (f:=258) (g:=g75) aeD
def auZ:Env->FC:=λE=>⟨λrc args h k=>fo args λa b=>U9 E rc a b h k⟩
theorem JD:ao 382 auZ:=cP (f:=382) (g:=U9) H5
def at1:Env->FC:=λE=>⟨λrc args h k=>gC args λa=>ai2 E rc a h k⟩
theorem PR:ao 461 at1:=dw (f:=461) (g:=ai2) Je
def auB:Env->FC:=λE=>⟨λrc args h k=>fo args λa b=>acX E rc a b h k⟩
theorem LY:ao 338 auB:=cP (f:=338) (g:=acX) Hi
def arZ:Env->FC:=λE=>⟨λrc args h k=>fo args λa b=>TN E rc a b h k⟩
theorem QY:ao 300 arZ:=cP (f:=300) (g:=TN) Lh
def s99:Env->FC:=λE=>⟨λrc args h k=>ig args λa b c=>g99 E rc a b c h k⟩
theorem ajc:ao 282 s99:=dS (f:=282) (g:=g99) Yt
def au9:Env->FC:=λE=>⟨λrc args h k=>fo args λa b=>afw E rc a b h k⟩
theorem Gf:ao 318 au9:=cP (f:=318) (g:=afw) N1
def atf:Env->FC:=λE=>⟨λrc args h k=>ig args λa b c=>X3 E rc a b c h k⟩
theorem Kt:ao 207 atf:=dS (f:=207) (g:=X3) Mt
def s32:Env->FC:=λE=>⟨λrc args h k=>gC args λa=>g32 E rc a h k⟩
theorem aht:ao 17 s32:=dw (f:=17) (g:=g32) T7
def s76:Env->FC:=λE=>⟨λrc args h k=>ig args λa b c=>g76 E rc a b c h k⟩
theorem ZW:ao 259 s76:=dS (f:=259) (g:=g76) al4
def s78:Env->FC:=λE=>⟨λrc args h k=>fo args λa b=>g78 E rc a b h k⟩
theorem ZR:ao 261 s78:=cP (f:=261) (g:=g78) ahq
def s79:Env->FC:=λE=>⟨λrc args h k=>fo args λa b=>g79 E rc a b h k⟩
theorem ak2:ao 262 s79:=cP (f:=262) (g:=g79) ae8
def s80:Env->FC:=λE=>⟨λrc args h k=>ig args λa b c=>g80 E rc a b c h k⟩
theorem VG:ao 263 s80:=dS (f:=263) (g:=g80) alU
def s81:Env->FC:=λE=>⟨λrc args h k=>fo args λa b=>g81 E rc a b h k⟩
theorem TO:ao 264 s81:=cP (f:=264) (g:=g81) TT
def s82:Env->FC:=λE=>⟨λrc args h k=>sX args λa b c d=>g82 E rc a b c d h k⟩
theorem aaB:ao 265 s82:=l8 (f:=265) (g:=g82) ah4
def s83:Env->FC:=λE=>⟨λrc args h k=>ig args λa b c=>g83 E rc a b c h k⟩
theorem aiw:ao 266 s83:=dS (f:=266) (g:=g83) aaD
def s85:Env->FC:=λE=>⟨λrc args h k=>sX args λa b c d=>g85 E rc a b c d h k⟩
theorem Uo:ao 268 s85:=l8 (f:=268) (g:=g85) X7
def s87:Env->FC:=λE=>⟨λrc args h k=>ig args λa b c=>g87 E rc a b c h k⟩
theorem aaM:ao 270 s87:=dS (f:=270) (g:=g87) Xy
def s88:Env->FC:=λE=>⟨λrc args h k=>ig args λa b c=>g88 E rc a b c h k⟩
theorem VU:ao 271 s88:=dS (f:=271) (g:=g88) agM
def s93:Env->FC:=λE=>⟨λrc args h k=>sX args λa b c d=>g93 E rc a b c d h k⟩
theorem acC:ao 276 s93:=l8 (f:=276) (g:=g93) Zy
def s96:Env->FC:=λE=>⟨λrc args h k=>sX args λa b c d=>g96 E rc a b c d h k⟩
theorem acp:ao 279 s96:=l8 (f:=279) (g:=g96) abR
def s97:Env->FC:=λE=>⟨λrc args h k=>gC args λa=>g97 E rc a h k⟩
theorem agy:ao 280 s97:=dw (f:=280) (g:=g97) WQ
def aoU:Env->FC:=λE=>⟨λrc args h k=>fo args λa b=>aih E rc a b h k⟩
theorem PQ:ao 401 aoU:=cP (f:=401) (g:=aih) Jw
def aqO:Env->FC:=λE=>⟨λrc args h k=>fo args λa b=>ako E rc a b h k⟩
theorem GW:ao 345 aqO:=cP (f:=345) (g:=ako) HQ
def ar6:Env->FC:=λE=>⟨λrc args h k=>ig args λa b c=>adE E rc a b c h k⟩
theorem Il:ao 344 ar6:=dS (f:=344) (g:=adE) Hk
def s49:Env->FC:=λE=>⟨λrc args h k=>fo args λa b=>g49 E rc a b h k⟩
theorem Zw:ao 243 s49:=cP (f:=243) (g:=g49) afJ
def aqE:Env->FC:=λE=>⟨λrc args h k=>gC args λa=>X0 E rc a h k⟩
theorem MG:ao 372 aqE:=dw (f:=372) (g:=X0) KP
def aqN:Env->FC:=λE=>⟨λrc args h k=>fo args λa b=>aeH E rc a b h k⟩
theorem Lt:ao 373 aqN:=cP (f:=373) (g:=aeH) Rx
def att:Env->FC:=λE=>⟨λrc args h k=>fo args λa b=>abT E rc a b h k⟩
theorem Lo:ao 450 att:=cP (f:=450) (g:=abT) GP
def apC:Env->FC:=λE=>⟨λrc args h k=>ig args λa b c=>ain E rc a b c h k⟩
theorem KQ:ao 452 apC:=dS (f:=452) (g:=ain) Nn
def auI:Env->FC:=λE=>⟨λrc args h k=>fo args λa b=>alI E rc a b h k⟩
theorem JL:ao 453 auI:=cP (f:=453) (g:=alI) Ru
def ark:Env->FC:=λE=>⟨λrc args h k=>gC args λa=>aeF E rc a h k⟩
theorem On:ao 454 ark:=dw (f:=454) (g:=aeF) Kz
def aop:Env->FC:=λE=>⟨λrc args h k=>ig args λa b c=>WX E rc a b c h k⟩
theorem Ji:ao 393 aop:=dS (f:=393) (g:=WX) GA
def auF:Env->FC:=λE=>⟨λrc args h k=>gC args λa=>VI E rc a h k⟩
theorem K7:ao 435 auF:=dw (f:=435) (g:=VI) Nq
def asR:Env->FC:=λE=>⟨λrc args h k=>fo args λa b=>ajT E rc a b h k⟩
theorem Lm:ao 337 asR:=cP (f:=337) (g:=ajT) J4
def auC:Env->FC:=λE=>⟨λrc args h k=>un0 args (al0 E rc h k)⟩
theorem Qe:ao 429 auC:=RZ (f:=429) (g:=al0) M1
def arV:Env->FC:=λE=>⟨λrc args h k=>fo args λa b=>aa2 E rc a b h k⟩
theorem LN:ao 399 arV:=cP (f:=399) (g:=aa2) Jk
def atg:Env->FC:=λE=>⟨λrc args h k=>gC args λa=>abb E rc a h k⟩
theorem Qg:ao 369 atg:=dw (f:=369) (g:=abb) Ie
def aoD:Env->FC:=λE=>⟨λrc args h k=>fo args λa b=>Wb E rc a b h k⟩
theorem N4:ao 308 aoD:=cP (f:=308) (g:=Wb) QG
def avA:Env->FC:=λE=>⟨λrc args h k=>fo args λa b=>akk E rc a b h k⟩
theorem So:ao 309 avA:=cP (f:=309) (g:=akk) Nl
def aq5:Env->FC:=λE=>⟨λrc args h k=>ig args λa b c=>Xu E rc a b c h k⟩
theorem NC:ao 398 aq5:=dS (f:=398) (g:=Xu) I1
def aow:Env->FC:=λE=>⟨λrc args h k=>un0 args (VH E rc h k)⟩
theorem Qu:ao 402 aow:=RZ (f:=402) (g:=VH) IA
def arp:Env->FC:=λE=>⟨λrc args h k=>fo args λa b=>ahj E rc a b h k⟩
theorem Q3:ao 310 arp:=cP (f:=310) (g:=ahj) K1
def auV:Env->FC:=λE=>⟨λrc args h k=>ig args λa b c=>aaR E rc a b c h k⟩
theorem Hl:ao 421 auV:=dS (f:=421) (g:=aaR) Ni
def s66:Env->FC:=λE=>⟨λrc args h k=>gC args λa=>g66 E rc a h k⟩
theorem ajS:ao 27 s66:=dw (f:=27) (g:=g66) adz
def auv:Env->FC:=λE=>⟨λrc args h k=>ig args λa b c=>agm E rc a b c h k⟩
theorem Ri:ao 354 auv:=dS (f:=354) (g:=agm) Jh
def aoF:Env->FC:=λE=>⟨λrc args h k=>ig args λa b c=>VJ E rc a b c h k⟩
theorem GX:ao 355 aoF:=dS (f:=355) (g:=VJ) RL
def asG:Env->FC:=λE=>⟨λrc args h k=>fo args λa b=>aa4 E rc a b h k⟩
theorem G6:ao 358 asG:=cP (f:=358) (g:=aa4) Ox
def aoB:Env->FC:=λE=>⟨λrc args h k=>ig args λa b c=>Vj E rc a b c h k⟩
theorem R2:ao 361 aoB:=dS (f:=361) (g:=Vj) GT
def arA:Env->FC:=λE=>⟨λrc args h k=>fo args λa b=>ajx E rc a b h k⟩
theorem NO:ao 362 arA:=cP (f:=362) (g:=ajx) K5
def asJ:Env->FC:=λE=>⟨λrc args h k=>ig args λa b c=>acv E rc a b c h k⟩
theorem PK:ao 363 asJ:=dS (f:=363) (g:=acv) Ir
def aqf:Env->FC:=λE=>⟨λrc args h k=>ig args λa b c=>ajB E rc a b c h k⟩
theorem Mm:ao 364 aqf:=dS (f:=364) (g:=ajB) Ps
def ara:Env->FC:=λE=>⟨λrc args h k=>sX args λa b c d=>aj1 E rc a b c d h k⟩
theorem Mb:ao 365 ara:=l8 (f:=365) (g:=aj1) R5
def arH:Env->FC:=λE=>⟨λrc args h k=>gC args λa=>aeZ E rc a h k⟩
theorem Gc:ao 366 arH:=dw (f:=366) (g:=aeZ) PM
def auO:Env->FC:=λE=>⟨λrc args h k=>ig args λa b c=>X8 E rc a b c h k⟩
theorem NL:ao 367 auO:=dS (f:=367) (g:=X8) Rf
def ard:Env->FC:=λE=>⟨λrc args h k=>gC args λa=>aba E rc a h k⟩
theorem G3:ao 371 ard:=dw (f:=371) (g:=aba) NQ
def aqZ:Env->FC:=λE=>⟨λrc args h k=>fo args λa b=>WB E rc a b h k⟩
theorem Gj:ao 378 aqZ:=cP (f:=378) (g:=WB) Mz
def aoN:Env->FC:=λE=>⟨λrc args h k=>sX args λa b c d=>ahU E rc a b c d h k⟩
theorem RX:ao 432 aoN:=l8 (f:=432) (g:=ahU) Rq
def aoE:Env->FC:=λE=>⟨λrc args h k=>gC args λa=>ag6 E rc a h k⟩
theorem Rh:ao 433 aoE:=dw (f:=433) (g:=ag6) RQ
def arO:Env->FC:=λE=>⟨λrc args h k=>gC args λa=>anB E rc a h k⟩
theorem Mp:ao 483 arO:=dw (f:=483) (g:=anB) F3
def aon:Env->FC:=λE=>⟨λrc args h k=>un0 args (YU E rc h k)⟩
theorem Sm:ao 489 aon:=RZ (f:=489) (g:=YU) Nk
def atM:Env->FC:=λE=>⟨λrc args h k=>gC args λa=>ag1 E rc a h k⟩
theorem Gw:ao 428 atM:=dw (f:=428) (g:=ag1) Ip
def aso:Env->FC:=λE=>⟨λrc args h k=>gC args λa=>amE E rc a h k⟩
theorem Pd:ao 468 aso:=dw (f:=468) (g:=amE) Kh
def atJ:Env->FC:=λE=>⟨λrc args h k=>ig args λa b c=>an2 E rc a b c h k⟩
theorem Nr:ao 470 atJ:=dS (f:=470) (g:=an2) Kp
def auH:Env->FC:=λE=>⟨λrc args h k=>gC args λa=>ZO E rc a h k⟩
theorem PZ:ao 471 auH:=dw (f:=471) (g:=ZO) RB
def aun:Env->FC:=λE=>⟨λrc args h k=>ig args λa b c=>akt E rc a b c h k⟩
theorem Ma:ao 473 aun:=dS (f:=473) (g:=akt) Sc
def avC:Env->FC:=λE=>⟨λrc args h k=>fo args λa b=>W6 E rc a b h k⟩
theorem R8:ao 339 avC:=cP (f:=339) (g:=W6) JM
def asV:Env->FC:=λE=>⟨λrc args h k=>sX args λa b c d=>afX E rc a b c d h k⟩
theorem Ph:ao 463 asV:=l8 (f:=463) (g:=afX) Hm
def auE:Env->FC:=λE=>⟨λrc args h k=>ig args λa b c=>Wz E rc a b c h k⟩
theorem Ik:ao 469 auE:=dS (f:=469) (g:=Wz) QT
def ate:Env->FC:=λE=>⟨λrc args h k=>sX args λa b c d=>amm E rc a b c d h k⟩
theorem NX:ao 472 ate:=l8 (f:=472) (g:=amm) I7
def aqx:Env->FC:=λE=>⟨λrc args h k=>sX args λa b c d=>WS E rc a b c d h k⟩
theorem Hq:ao 447 aqx:=l8 (f:=447) (g:=WS) O1
def ava:Env->FC:=λE=>⟨λrc args h k=>fo args λa b=>Va E rc a b h k⟩
theorem Od:ao 448 ava:=cP (f:=448) (g:=Va) MI
def aqF:Env->FC:=λE=>⟨λrc args h k=>gC args λa=>abW E rc a h k⟩
theorem Ks:ao 451 aqF:=dw (f:=451) (g:=abW) Iu
def auT:Env->FC:=λE=>⟨λrc args h k=>ig args λa b c=>ZP E rc a b c h k⟩
theorem Rc:ao 488 auT:=dS (f:=488) (g:=ZP) IY
def atv:Env->FC:=λE=>⟨λrc args h k=>gC args λa=>ae5 E rc a h k⟩
theorem JK:ao 505 atv:=dw (f:=505) (g:=ae5) KJ
def apq:Env->FC:=λE=>⟨λrc args h k=>fo args λa b=>VQ E rc a b h k⟩
theorem Km:ao 506 apq:=cP (f:=506) (g:=VQ) Qs
def apj:Env->FC:=λE=>⟨λrc args h k=>fo args λa b=>aaT E rc a b h k⟩
theorem PU:ao 507 apj:=cP (f:=507) (g:=aaT) QP
def arS:Env->FC:=λE=>⟨λrc args h k=>fo args λa b=>acx E rc a b h k⟩
theorem I3:ao 508 arS:=cP (f:=508) (g:=acx) JV
def aqq:Env->FC:=λE=>⟨λrc args h k=>gC args λa=>aar E rc a h k⟩
theorem Li:ao 503 aqq:=dw (f:=503) (g:=aar) K4
def apK:Env->FC:=λE=>⟨λrc args h k=>gC args λa=>Zd E rc a h k⟩
theorem K3:ao 409 apK:=dw (f:=409) (g:=Zd) I0
def ati:Env->FC:=λE=>⟨λrc args h k=>fo args λa b=>akc E rc a b h k⟩
theorem Sk:ao 475 ati:=cP (f:=475) (g:=akc) Iq
def aox:Env->FC:=λE=>⟨λrc args h k=>un0 args (Yq E rc h k)⟩
theorem P6:ao 476 aox:=RZ (f:=476) (g:=Yq) QK
def apv:Env->FC:=λE=>⟨λrc args h k=>fo args λa b=>aic E rc a b h k⟩
theorem Mc:ao 477 apv:=cP (f:=477) (g:=aic) Ns
def s21:Env->FC:=λE=>⟨λrc args h k=>gC args λa=>g21 E rc a h k⟩
theorem abe:ao 115 s21:=dw (f:=115) (g:=g21) ank
def s23:Env->FC:=λE=>⟨λrc args h k=>gC args λa=>g23 E rc a h k⟩
theorem akh:ao 186 s23:=dw (f:=186) (g:=g23) Uv
def s47:Env->FC:=λE=>⟨λrc args h k=>fo args λa b=>g47 E rc a b h k⟩
theorem acd:ao 242 s47:=cP (f:=242) (g:=g47) agj
def s44:Env->FC:=λE=>⟨λrc args h k=>gC args λa=>g44 E rc a h k⟩
theorem YQ:ao 182 s44:=dw (f:=182) (g:=g44) ajg
def as6:Env->FC:=λE=>⟨λrc args h k=>gC args λa=>Yr E rc a h k⟩
theorem Pe:ao 202 as6:=dw (f:=202) (g:=Yr) Jz
def avs:Env->FC:=λE=>⟨λrc args h k=>ig args λa b c=>amb E rc a b c h k⟩
theorem Jf:ao 195 avs:=dS (f:=195) (g:=amb) Rb
def apD:Env->FC:=λE=>⟨λrc args h k=>ig args λa b c=>aig E rc a b c h k⟩
theorem RU:ao 199 apD:=dS (f:=199) (g:=aig) RY
def s37:Env->FC:=λE=>⟨λrc args h k=>gC args λa=>g37 E rc a h k⟩
theorem Wi:ao 175 s37:=dw (f:=175) (g:=g37) adW
def s40:Env->FC:=λE=>⟨λrc args h k=>ig args λa b c=>g40 E rc a b c h k⟩
theorem amr:ao 178 s40:=dS (f:=178) (g:=g40) ac1
def s41:Env->FC:=λE=>⟨λrc args h k=>fo args λa b=>g41 E rc a b h k⟩
theorem YX:ao 179 s41:=cP (f:=179) (g:=g41) anb
def avm:Env->FC:=λE=>⟨λrc args h k=>ig args λa b c=>abm E rc a b c h k⟩
theorem Hu:ao 343 avm:=dS (f:=343) (g:=abm) LP
def auh:Env->FC:=λE=>⟨λrc args h k=>fo args λa b=>aaF E rc a b h k⟩
theorem Og:ao 297 auh:=cP (f:=297) (g:=aaF) Jr
def art:Env->FC:=λE=>⟨λrc args h k=>fo args λa b=>amo E rc a b h k⟩
theorem NI:ao 384 art:=cP (f:=384) (g:=amo) JY
def atY:Env->FC:=λE=>⟨λrc args h k=>gC args λa=>acy E rc a h k⟩
theorem LO:ao 511 atY:=dw (f:=511) (g:=acy) Pm
def aqi:Env->FC:=λE=>⟨λrc args h k=>gC args λa=>Ui E rc a h k⟩
theorem Pn:ao 304 aqi:=dw (f:=304) (g:=Ui) ID
def aqW:Env->FC:=λE=>⟨λrc args h k=>fo args λa b=>Uf E rc a b h k⟩
theorem P8:ao 290 aqW:=cP (f:=290) (g:=Uf) GH
def apS:Env->FC:=λE=>⟨λrc args h k=>ig args λa b c=>am2 E rc a b c h k⟩
theorem G5:ao 291 apS:=dS (f:=291) (g:=am2) Sl
def asZ:Env->FC:=λE=>⟨λrc args h k=>ig args λa b c=>agH E rc a b c h k⟩
theorem Gs:ao 292 asZ:=dS (f:=292) (g:=agH) FZ
def at6:Env->FC:=λE=>⟨λrc args h k=>sX args λa b c d=>ace E rc a b c d h k⟩
theorem Oa:ao 294 at6:=l8 (f:=294) (g:=ace) Lc
def ats:Env->FC:=λE=>⟨λrc args h k=>gC args λa=>X1 E rc a h k⟩
theorem Oo:ao 301 ats:=dw (f:=301) (g:=X1) Ju
def atV:Env->FC:=λE=>⟨λrc args h k=>ig args λa b c=>afY E rc a b c h k⟩
theorem R7:ao 302 atV:=dS (f:=302) (g:=afY) OJ
def aq1:Env->FC:=λE=>⟨λrc args h k=>fo args λa b=>acB E rc a b h k⟩
theorem Js:ao 303 aq1:=cP (f:=303) (g:=acB) Ic
def avn:Env->FC:=λE=>⟨λrc args h k=>ig args λa b c=>Xf E rc a b c h k⟩
theorem G2:ao 305 avn:=dS (f:=305) (g:=Xf) L9
def au1:Env->FC:=λE=>⟨λrc args h k=>ig args λa b c=>ake E rc a b c h k⟩
theorem Gm:ao 298 au1:=dS (f:=298) (g:=ake) HV
def asU:Env->FC:=λE=>⟨λrc args h k=>ig args λa b c=>aaN E rc a b c h k⟩
theorem JO:ao 334 asU:=dS (f:=334) (g:=aaN) JA
def s74:Env->FC:=λE=>⟨λrc args h k=>gC args λa=>g74 E rc a h k⟩
theorem ajE:ao 257 s74:=dw (f:=257) (g:=g74) akW
def s89:Env->FC:=λE=>⟨λrc args h k=>gC args λa=>g89 E rc a h k⟩
theorem akE:ao 272 s89:=dw (f:=272) (g:=g89) adM
def s90:Env->FC:=λE=>⟨λrc args h k=>gC args λa=>g90 E rc a h k⟩
theorem ajy:ao 273 s90:=dw (f:=273) (g:=g90) UO
def s98:Env->FC:=λE=>⟨λrc args h k=>sX args λa b c d=>g98 E rc a b c d h k⟩
theorem ah7:ao 281 s98:=l8 (f:=281) (g:=g98) Y4
def apU:Env->FC:=λE=>⟨λrc args h k=>fo args λa b=>aai E rc a b h k⟩
theorem MX:ao 284 apU:=cP (f:=284) (g:=aai) Ou
def auY:Env->FC:=λE=>⟨λrc args h k=>fo args λa b=>XL E rc a b h k⟩
theorem LE:ao 286 auY:=cP (f:=286) (g:=XL) F9
def aqL:Env->FC:=λE=>⟨λrc args h k=>gC args λa=>agb E rc a h k⟩
theorem RD:ao 388 aqL:=dw (f:=388) (g:=agb) L0
def aqI:Env->FC:=λE=>⟨λrc args h k=>gC args λa=>W5 E rc a h k⟩
theorem MP:ao 434 aqI:=dw (f:=434) (g:=W5) OV
def aov:Env->FC:=λE=>⟨λrc args h k=>fo args λa b=>af7 E rc a b h k⟩
theorem QM:ao 239 aov:=cP (f:=239) (g:=af7) Qw
def aqV:Env->FC:=λE=>⟨λrc args h k=>ig args λa b c=>ae1 E rc a b c h k⟩
theorem Jn:ao 385 aqV:=dS (f:=385) (g:=ae1) Gb
def apn:Env->FC:=λE=>⟨λrc args h k=>gC args λa=>al6 E rc a h k⟩
theorem Nc:ao 387 apn:=dw (f:=387) (g:=al6) QL
def ap7:Env->FC:=λE=>⟨λrc args h k=>ig args λa b c=>ach E rc a b c h k⟩
theorem PW:ao 389 ap7:=dS (f:=389) (g:=ach) Kx
def aub:Env->FC:=λE=>⟨λrc args h k=>gC args λa=>aiD E rc a h k⟩
theorem Rr:ao 391 aub:=dw (f:=391) (g:=aiD) L3
def apL:Env->FC:=λE=>⟨λrc args h k=>gC args λa=>ado E rc a h k⟩
theorem Gd:ao 353 apL:=dw (f:=353) (g:=ado) JX
def asx:Env->FC:=λE=>⟨λrc args h k=>gC args λa=>alY E rc a h k⟩
theorem Mk:ao 357 asx:=dw (f:=357) (g:=alY) Hc
def apu:Env->FC:=λE=>⟨λrc args h k=>ig args λa b c=>adG E rc a b c h k⟩
theorem Jc:ao 374 apu:=dS (f:=374) (g:=adG) Sn
def apT:Env->FC:=λE=>⟨λrc args h k=>fo args λa b=>Ub E rc a b h k⟩
theorem QR:ao 375 apT:=cP (f:=375) (g:=Ub) Jm
def au2:Env->FC:=λE=>⟨λrc args h k=>sX args λa b c d=>amg E rc a b c d h k⟩
theorem JG:ao 376 au2:=l8 (f:=376) (g:=amg) GQ
def aoK:Env->FC:=λE=>⟨λrc args h k=>fo args λa b=>aiq E rc a b h k⟩
theorem PO:ao 380 aoK:=cP (f:=380) (g:=aiq) IX
def aol:Env->FC:=λE=>⟨λrc args h k=>ig args λa b c=>aeW E rc a b c h k⟩
theorem Qv:ao 381 aol:=dS (f:=381) (g:=aeW) IP
def aru:Env->FC:=λE=>⟨λrc args h k=>gC args λa=>adB E rc a h k⟩
theorem Rz:ao 390 aru:=dw (f:=390) (g:=adB) JI
def arJ:Env->FC:=λE=>⟨λrc args h k=>gC args λa=>agJ E rc a h k⟩
theorem Hx:ao 464 arJ:=dw (f:=464) (g:=agJ) Iv
def arN:Env->FC:=λE=>⟨λrc args h k=>gC args λa=>ae7 E rc a h k⟩
theorem Hb:ao 459 arN:=dw (f:=459) (g:=ae7) F2
def atF:Env->FC:=λE=>⟨λrc args h k=>ig args λa b c=>XB E rc a b c h k⟩
theorem Lv:ao 460 atF:=dS (f:=460) (g:=XB) Qf
def ao0:Env->FC:=λE=>⟨λrc args h k=>fo args λa b=>afc E rc a b h k⟩
theorem Qt:ao 446 ao0:=cP (f:=446) (g:=afc) Mr
def arI:Env->FC:=λE=>⟨λrc args h k=>fo args λa b=>UW E rc a b h k⟩
theorem H2:ao 455 arI:=cP (f:=455) (g:=UW) LK
def aug:Env->FC:=λE=>⟨λrc args h k=>fo args λa b=>Wg E rc a b h k⟩
theorem RA:ao 456 aug:=cP (f:=456) (g:=Wg) IE
def auM:Env->FC:=λE=>⟨λrc args h k=>fo args λa b=>anR E rc a b h k⟩
theorem O7:ao 458 auM:=cP (f:=458) (g:=anR) M3
def auN:Env->FC:=λE=>⟨λrc args h k=>ig args λa b c=>ahs E rc a b c h k⟩
theorem IK:ao 509 auN:=dS (f:=509) (g:=ahs) Mx
def atb:Env->FC:=λE=>⟨λrc args h k=>fo args λa b=>XF E rc a b h k⟩
theorem Jj:ao 504 atb:=cP (f:=504) (g:=XF) GG
def atq:Env->FC:=λE=>⟨λrc args h k=>fo args λa b=>abo E rc a b h k⟩
theorem RP:ao 424 atq:=cP (f:=424) (g:=abo) Hf
def arG:Env->FC:=λE=>⟨λrc args h k=>fo args λa b=>aca E rc a b h k⟩
theorem Qr:ao 486 arG:=cP (f:=486) (g:=aca) IF
def avj:Env->FC:=λE=>⟨λrc args h k=>fo args λa b=>abY E rc a b h k⟩
theorem Le:ao 514 avj:=cP (f:=514) (g:=abY) Lw
def aoW:Env->FC:=λE=>⟨λrc args h k=>fo args λa b=>amq E rc a b h k⟩
theorem Ol:ao 425 aoW:=cP (f:=425) (g:=amq) Py
def aup:Env->FC:=λE=>⟨λrc args h k=>fo args λa b=>anu E rc a b h k⟩
theorem Nu:ao 426 aup:=cP (f:=426) (g:=anu) Gk
def apI:Env->FC:=λE=>⟨λrc args h k=>fo args λa b=>aeO E rc a b h k⟩
theorem N8:ao 482 apI:=cP (f:=482) (g:=aeO) LR
def ajh:List (Nat × (Env->FC)):=[
(114,s20),
(222,s46),
(200,s48),
(250,atS),
(377,are),
(191,ao6),
(176,s38),
(177,s39),
(180,s42),
(181,s43),
(315,asz),
(244,s50),
(342,atC),
(299,aqs),
(430,asc),
(368,auR),
(359,atu),
(316,apk),
(258,s75),
(382,auZ),
(461,at1),
(338,auB),
(300,arZ),
(282,s99),
(318,au9),
(207,atf),
(17,s32),
(259,s76),
(261,s78),
(262,s79),
(263,s80),
(264,s81),
(265,s82),
(266,s83),
(268,s85),
(270,s87),
(271,s88),
(276,s93),
(279,s96),
(280,s97),
(401,aoU),
(345,aqO),
(344,ar6),
(243,s49),
(372,aqE),
(373,aqN),
(450,att),
(452,apC),
(453,auI),
(454,ark),
(393,aop),
(435,auF),
(337,asR),
(429,auC),
(399,arV),
(369,atg),
(308,aoD),
(309,avA),
(398,aq5),
(402,aow),
(310,arp),
(421,auV),
(27,s66),
(354,auv),
(355,aoF),
(358,asG),
(361,aoB),
(362,arA),
(363,asJ),
(364,aqf),
(365,ara),
(366,arH),
(367,auO),
(371,ard),
(378,aqZ),
(432,aoN),
(433,aoE),
(483,arO),
(489,aon),
(428,atM),
(468,aso),
(470,atJ),
(471,auH),
(473,aun),
(339,avC),
(463,asV),
(469,auE),
(472,ate),
(447,aqx),
(448,ava),
(451,aqF),
(488,auT),
(505,atv),
(506,apq),
(507,apj),
(508,arS),
(503,aqq),
(409,apK),
(475,ati),
(476,aox),
(477,apv),
(115,s21),
(186,s23),
(242,s47),
(182,s44),
(202,as6),
(195,avs),
(199,apD),
(175,s37),
(178,s40),
(179,s41),
(343,avm),
(297,auh),
(384,art),
(511,atY),
(304,aqi),
(290,aqW),
(291,apS),
(292,asZ),
(294,at6),
(301,ats),
(302,atV),
(303,aq1),
(305,avn),
(298,au1),
(334,asU),
(257,s74),
(272,s89),
(273,s90),
(281,s98),
(284,apU),
(286,auY),
(388,aqL),
(434,aqI),
(239,aov),
(385,aqV),
(387,apn),
(389,ap7),
(391,aub),
(353,apL),
(357,asx),
(374,apu),
(375,apT),
(376,au2),
(380,aoK),
(381,aol),
(390,aru),
(464,arJ),
(459,arN),
(460,atF),
(446,ao0),
(455,arI),
(456,aug),
(458,auM),
(509,auN),
(504,atb),
(424,atq),
(486,arG),
(514,avj),
(425,aoW),
(426,aup),
(482,apI)]
def vY:List (Nat × (Env->FC))->Prop
 | []=>True
 | p :: l=>ao p.1 p.2/\vY l
theorem O8:vY ajh:=
 ⟨Ud,adk,ad3,HH,HI,I5,am4,ads,adI,ab5,Kl,akD,J9,M5,No,Jd,Ro,GE,aaX,JD,PR,LY,QY,ajc,Gf,Kt,aht,ZW,ZR,ak2,VG,TO,aaB,aiw,Uo,aaM,VU,acC,acp,agy,PQ,GW,Il,Zw,MG,Lt,Lo,KQ,JL,On,Ji,K7,Lm,Qe,LN,Qg,N4,So,NC,Qu,Q3,Hl,ajS,Ri,GX,G6,R2,NO,PK,Mm,Mb,Gc,NL,G3,Gj,RX,Rh,Mp,Sm,Gw,Pd,Nr,PZ,Ma,R8,Ph,Ik,NX,Hq,Od,Ks,Rc,JK,Km,PU,I3,Li,K3,Sk,P6,Mc,abe,akh,acd,YQ,Pe,Jf,RU,Wi,amr,YX,Hu,Og,NI,LO,Pn,P8,G5,Gs,Oa,Oo,R7,Js,G2,Gm,JO,ajE,akE,ajy,ah7,MX,LE,RD,MP,QM,Jn,Nc,PW,Rr,Gd,Mk,Jc,QR,JG,PO,Qv,Rz,Hx,Hb,Lv,Qt,H2,RA,O7,IK,Jj,RP,Qr,Le,Ol,Nu,N8,trivial⟩
def yh (i:Nat) (l:List (Nat × (Env->FC))):Option (Env->FC):=List.rec (motive:=λ_=>Option (Env->FC)) none (λp _ ih=>Bool.rec (motive:=λ_=>Option (Env->FC)) ih (some p.2) (beq p.1 i)) l
theorem sV {i:Nat} {s:Env->FC}:∀{l:List (Nat × (Env->FC))},vY l->yh i l=some s->ao i s
 | [],_,h=>nomatch h
 | p :: l,⟨h1,h2⟩,h=>by
  have h:Bool.rec (motive:=λ_=>Option (Env->FC)) (yh i l) (some p.2) (beq p.1 i)=some s:=h;cases hb:beq p.1 i with
  | false=>rw[hb] at h;exact sV h2 h
  | true=> rw[hb] at h;rw[<-Nat.eq_of_beq_eq_true hb];cases h;exact h1
def hot:T (Option (Env->FC)):=Tj none 10 (λi=>yh i ajh)
theorem YW {i:Nat} {s:Env->FC} (h:hot.get i=some s):ao i s:=by
 rcases rC none 10 (λi=>yh i ajh) i with e | e
 ·exact sV O8 (e.symm.trans h)
 ·exact nomatch (e.symm.trans h)
def ajU (t:ak) (f:FuncId):FC:=
 match t.get f with
 | some _=>cY (EX t) KK f
 | none=>match hot.get f with
  | some s=>s (EX t)
  | none=>cY (EX t) KK f
def Tc (t:ak) (n:Nat):RC:=
 Nat.rec (motive:=λ_=>RC) (λ_ _ _ _=>none) (λ_ ih f args h k=>(ajU t f).run ih args h k) n
theorem eN {t:ak} {f:FuncId} (h:t.get f=none):cY (EX t) KK f=aD (EX t) KK f:=by
 unfold cY aD;cases (EX t).funs.get f with
 | none=>rfl
 | some fn=> have:(EX t).ext f=none:=h;simp only[this];cases fn.body <;> rfl
theorem P3 {t:ak} {rc:RC} (hrc:kQ (EX t) rc) (f:FuncId) (args:List Value) (h:H) (k:Value->H->R) (r) (hk:(ajU t f).run rc args h k=some r):
  ∃v h',(Ev λN=>jB (EX t) (cF (EX t) N) f args h=some (v,h'))/\k v h'=some r:=by
 refine yB (K:=KK) hrc f args h k r ?_;unfold ajU at hk;split at hk
 ·exact hk
 ·rename_i h0;split at hk
  ·rename_i s hs;rw[eN h0];exact YW hs t rc args h k r hk
  ·exact hk
theorem tZ (t:ak) (n:Nat):kQ (EX t) (Tc t n):=by
 induction n with
 | zero=>intro f args h k r hk;exact nomatch hk
 | succ n ih=>intro f args h k r hk;exact P3 ih f args h k r hk
end Go.Ev
