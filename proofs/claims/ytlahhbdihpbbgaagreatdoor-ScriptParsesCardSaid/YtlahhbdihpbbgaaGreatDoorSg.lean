/-
  A SCRIPT's COMMANDS, by the reference: the whole.
-/
import Derived.Test.YtlahhbdihpbbgaaGreatDoorSf
import Derived.Test.YtlahhbdihpbbgaaGreatDoorSe
import Derived.Lib.AtoiAllCases
noncomputable section
set_option linter.unusedVariables false
set_option linter.unusedSimpArgs false
set_option maxRecDepth 100000
set_option exponentiation.threshold 3000
open Nat (ble beq)
namespace Go.Ev
open Go F Go.Proofs
theorem c43 (m:Nat) (a0:Value) (h:H) (k:Value->H->R):az EnvO KK (m+1) 43 [a0] h k=p43 EnvO (az EnvO KK m) a0 h k:=by show (bN EnvO KK 43).run _ _ _ _=_;rw[show bN EnvO KK 43=ax EnvO KK 43 from bB (by kernel_rfl),E0e];exact asW xR _ a0 h k
theorem c67 (m:Nat) (a0:Value) (h:H) (k:Value->H->R):az EnvO KK (m+1) 67 [a0] h k=p67 EnvO (az EnvO KK m) a0 h k:=by show (bN EnvO KK 67).run _ _ _ _=_;rw[show bN EnvO KK 67=ax EnvO KK 67 from bB (by kernel_rfl),E0e];exact atu xR _ a0 h k
theorem c68 (m:Nat) (a0:Value) (h:H) (k:Value->H->R):az EnvO KK (m+1) 68 [a0] h k=p68 EnvO (az EnvO KK m) a0 h k:=by show (bN EnvO KK 68).run _ _ _ _=_;rw[show bN EnvO KK 68=ax EnvO KK 68 from bB (by kernel_rfl),E0e];exact atB xR _ a0 h k
theorem c44 (m:Nat) (h:H) (k:Value->H->R):az EnvO KK (m+1) 44 [] h k=p44 EnvO (az EnvO KK m) h k:=by show (bN EnvO KK 44).run _ _ _ _=_;rw[show bN EnvO KK 44=ax EnvO KK 44 from bB (by kernel_rfl),E0e];exact atV xR _ h k
theorem c45 (m:Nat) (a0 a1 a2:Value) (h:H) (k:Value->H->R):az EnvO KK (m+1) 45 [a0,a1,a2] h k=p45 EnvO (az EnvO KK m) a0 a1 a2 h k:=by show (bN EnvO KK 45).run _ _ _ _=_;rw[show bN EnvO KK 45=ax EnvO KK 45 from bB (by kernel_rfl),E0e];exact atD xR _ a0 a1 a2 h k
theorem avg (m:Nat) (a0 a1:Value) (h:H) (k:Value->H->R):az EnvO KK (m+1) 23 [a0,a1] h k=p23 EnvO (az EnvO KK m) a0 a1 h k:=by show (bN EnvO KK 23).run _ _ _ _=_;rw[show bN EnvO KK 23=ax EnvO KK 23 from bB (by kernel_rfl),E0e];exact ats xR _ a0 a1 h k
theorem atW (m:Nat):aiD (az EnvO KK (m+1)) where
 num:=λw h k hw=>(c43 m _ h k).trans (ato us0 hw k)
 kind:=λw h k X hn e=>by obtain⟨h',e1,n1,o1⟩:=aup us0 hn k X ((c67 m _ h k).symm.trans e);exact⟨h',e1,by omega,by omega,o1⟩
 text:=λw h k=>(c68 m _ h k).trans (auW us0 k)
theorem ati (m:Nat):arb (az EnvO KK (m+2)):=λh x on tx w c k X s1 s2 hn hw h1 h2 e=>auN (atW m) hn hw s1 s2 h1 h2 c ((c45 (m+1) _ _ _ h k).symm.trans e)
theorem avv (m:Nat):asR (az EnvO KK (m+1)):=λh k hn=>by rw[c44];unfold p44;rw[au (show h.1<=1000000000 by show h.next<=_;omega),aJ]
theorem auq (m:Nat) {h:H} {w0:Bs} {v:Value} {l:List Bs} (o:WL h v (w0 :: l)) (cl:gT v \/ 1<=l.length) (hs:small l) (hln:l.length<=8000) (hn:h.next+9*l.length+100<=780000000) (line:Nat) (k:Value->H->R) (X:R)
  (e:az EnvO KK (m+3) 23 [.int .i64 (.ofNat line),v] h k=X):BH h (60+9*l.length) k X (fX line (w0 :: l)):=
 aum (avv (m+1)) (ati m) o cl hs hln hn line k X ((avg (m+2) _ _ h k).symm.trans e)
def ako (args:List Value) (h:H):Option (Nat × Nat × Bs):=
 match args with
 | [.int .i64 (.ofNat n),.slice (some ⟨b,0,none⟩) 1 3]=>(match h.objs.get b with
  |.row 9 1 true _ _ c=>(match c.get 0 with
   |.string ⟨⟨s⟩⟩=>some (n,b,s)
   | _=>none)
  | _=>none)
 | _=>none
def akr (n:Nat) (s:Bs):Value:=match fX n [s] with
 |.ok y=>.tuple ⟨[.agg ⟨dJ y (.slice none 0 0) (.slice none 0 0)⟩,.int .i64 (.ofNat 0)]⟩
 |.error er=>.tuple ⟨[.agg ⟨aO⟩,.int .i64 (.ofNat er)]⟩
def X23 (args:List Value) (h:H):Option (Value × H):=match ako args h with
 | some (n,_,s)=>some (akr n s,h)
 | none=>az EnvO KK 43 23 args h λv h'=>some (v,h')
theorem arh {args:List Value} {h:H} {n b:Nat} {s:Bs} (e:ako args h=some (n,b,s)):args=[.int .i64 (.ofNat n),.slice (some ⟨b,0,none⟩) 1 3]/\∃ro fz c,h.objs.get b=.row 9 1 true ro fz c/\c.get 0=.string ⟨⟨s⟩⟩:=by
 unfold ako at e;split at e
 ·split at e
  ·split at e
   ·cases e;exact⟨rfl,_,_,_,by assumption,by assumption⟩
   ·exact nomatch e
  ·exact nomatch e
 ·exact nomatch e
theorem auM:∀i,Tryz.prog.info? 9=some i->i.size=1:=by
 have:(Tryz.prog.info? 9).map (λi=>i.size)=some 1:=by kernel_rfl
 intro i e;rw[e] at this;exact Option.some.inj this
def ars (p:Nat):Ren:=λid=>if id<16 then some (id,0) else if id=16 then some (p,0) else none
def aun (s:Bs) (m:Nat):AO:=.row 9 m false true 0 (T.ofList unk [.string ⟨⟨s⟩⟩])
def hLg (l:List AO):H:={ next:=17,objs:=T.ofList .dead l }
theorem ath (l:List AO) (i:Nat):(hLg l).objs.get i=(l[i]?).getD .dead:=T.get_ofList _ _ _
def hL (s:Bs) (m:Nat):H:=hLg (List.replicate 16 .dead ++ [aun s m])
theorem afI (s:Bs) (m i:Nat):(hL s m).objs.get i=if i=16 then aun s m else .dead:=by
 unfold hL;rw[ath];by_cases q:i=16
 ·subst q;rw[if_pos rfl];rfl
 ·rw[if_neg q];by_cases q2:i<16
  ·rw[List.getElem?_append_left (by simpa using q2),List.getElem?_replicate,if_pos q2];rfl
  ·rw[List.getElem?_eq_none (by simp;omega)];rfl
theorem ard {p id:Nat} {q:Nat × Nat} (e:ars p id=some q):(id<16/\q=(id,0)) \/ (id=16/\q=(p,0)):=by
 unfold ars at e;split at e
 ·cases e;exact .inl ⟨by assumption,rfl⟩
 ·split at e
  ·cases e;exact .inr ⟨by assumption,rfl⟩
  ·exact nomatch e
theorem auF {ρ:Ren} {h:H} {w:World} (hr:dU Tryz.prog ρ h w) {b:Nat} {p:Nat × Nat} (hp:ρ b=some p) {ro:Bool} {fz:Nat} {c:T Value} {s:Bs} (hq:h.objs.get b=.row 9 1 true ro fz c) (hc:c.get 0=.string ⟨⟨s⟩⟩):dU Tryz.prog (ars p.1) (hL s (1+p.2)) w:=by
 have ho:=hr.obj b p hp;rw[hq] at ho;obtain⟨cs,fr,g1,g2,g3,g4,g5,g6⟩:=ho;obtain⟨i9,hi9,hsz⟩:=g4 rfl;rw[auM i9 hi9,Nat.mul_one] at hsz;constructor
 ·intro id q e;show id<17;rcases ard e with ⟨h1,_⟩ | ⟨h1,_⟩ <;> omega
 ·intro i j q q' e1 e2 l1 l2 _;rw[afI] at l1 l2;by_cases q1:i=16
  ·by_cases q2:j=16
   ·omega
   ·rw[if_neg q2] at l2;exact nomatch l2
  ·rw[if_neg q1] at l1;exact nomatch l1
 ·intro id q e;rw[afI];rcases ard e with ⟨h1,rfl⟩ | ⟨rfl,rfl⟩
  ·rw[if_neg (by omega)];trivial
  ·rw[if_pos rfl];refine⟨cs,fr,g1,by omega,λ_=>⟨hsz,rfl⟩,λq=>(nomatch q),λi hi=>?_,.inl rfl⟩;rw[T.get_ofList];by_cases q0:i=0
   ·subst q0;obtain⟨v',a1,a2⟩:=g5 0 (by omega);rw[hc] at a2;exact⟨v',a1,Hy rfl a2⟩
   ·obtain⟨v',hv'⟩:∃v',cs[i]?=some v':=⟨cs[i]'(by omega),Array.getElem?_eq_getElem (by omega)⟩;refine⟨v',hv',.inl ?_⟩;rw[List.getD_eq_getElem?_getD,List.getElem?_eq_none (by simp;omega)];rfl
 ·intro id e;rw[afI] at e;by_cases q:id=16
  ·subst q;have:16+1<2 ^ deep:=by decide
   omega
  ·rw[if_neg q] at e;exact nomatch e
 ·intro id e;have e:17<=id:=e;rw[afI,if_neg (by omega)]
 ·intro g hg;simp[ars,hg]
 ·intro id q e hl;rw[afI] at hl;rcases ard e with ⟨h1,rfl⟩ | ⟨rfl,rfl⟩
  ·rw[if_neg (by omega)] at hl;exact nomatch hl
  ·exact hr.inside b p hp (by rw[hq];rfl)
theorem auh (s:Bs) (m p b:Nat):¬ Wr (ars p) (hL s m) b:=by
 rintro⟨id,q,_,_,h⟩;rw[afI] at h;by_cases q:id=16
 ·rw[if_pos q] at h;exact nomatch h
 ·rw[if_neg q] at h;exact nomatch h
theorem Step.loneL {P:Program} {ρ0:Ren} {h0:H} (hw:∀b,¬ Wr ρ0 h0 b) {ρ ρ':Ren} {h h':H} {w w':World} (hr:dU P ρ h w) (s:Step P ρ0 h0 w ρ' h' w'):Step P ρ h w ρ h w' where
 ext:=ρ.le_refl
 old:=λ_ _ e _=>e
 next:=Nat.le_refl _
 keep:=λ_ _ _=>rfl
 rel:=⟨hr.dom,hr.inj,λid p e=>dV.same (hr.obj id p e) λhl=>s.same _ (hr.inside id p e hl) (hw _),hr.small,hr.fresh,hr.glob,λid p e hl=>Nat.lt_of_lt_of_le (hr.inside id p e hl) s.size⟩
 same:=λb hb _=>s.same b hb (hw b)
 own:=λ_ e _=>e
 size:=s.size
 tape:=s.tape
 os:=s.os
 output:=s.output
theorem asi {ρ ρ':Ren}:∀{l l':List Value},l.all jb=true->bi (fk ρ') l l'->bi (fk ρ) l l'
 | [],[],_,_=>trivial
 | v :: l,u :: l',hg,⟨h1,h2⟩=>by rw[List.all_cons,Bool.and_eq_true] at hg;exact⟨Hy hg.1 h1,asi hg.2 h2⟩
 | [],_ :: _,_,h=>h.elim
 | _ :: _,[],_,h=>h.elim
theorem ar6 {ρ ρ':Ren} {L:List Value} {x v':Value} (hL:L.all jb=true) (hx:jb x=true) (h:VR ρ' (.tuple ⟨[.agg ⟨L⟩,x]⟩) v'):VR ρ (.tuple ⟨[.agg ⟨L⟩,x]⟩) v':=by
 rcases h with h | ⟨l,l',e,e',h⟩
 ·rcases h with (h | h) | ⟨l,l',e,_⟩
  ·exact nomatch h
  ·simp[bY,bW] at h
  ·exact nomatch e
 ·cases e
  match l',h with
  | [a,b],⟨h1,h2,_⟩=>
   refine .inr ⟨_,_,rfl,e',?_,?_,trivial⟩
   ·rcases h1 with (h1 | h1) | ⟨m,m',e1,e2,h3⟩
    ·exact nomatch h1
    ·simp[bY,bW] at h1
    ·cases e1;exact .inr ⟨_,_,rfl,e2,asi hL h3⟩
   ·rcases h2 with h2 | ⟨m,m',e1,_⟩
    ·exact .inl (Hy hx h2)
    ·subst e1;exact nomatch hx
theorem asY {ρ ρ':Ren} {n:Nat} {s:Bs} {v':Value} (h:VR ρ' (akr n s) v'):VR ρ (akr n s) v':=by
 unfold akr at h ⊢;split
 ·rename_i y e;rw[e] at h;exact ar6 rfl rfl h
 ·rename_i er e;rw[e] at h;exact ar6 rfl rfl h
theorem asT {h:H} {v:Value} (o:SO h v []):v=.slice none 0 0:=by
 rcases o.form with ⟨e,_⟩ | ⟨b,c,cells,op,e,_⟩
 ·exact e
 ·unfold SO at o;have:∀n L,OL 9 1 h v n L->n=0->v=.slice none 0 0:=λn L o hn=>by
   cases o with
   | nil=>rfl
   | row hb hq hL hc hp=>omega
  exact this _ _ o rfl
theorem alf {n:Nat} {s:Bs} {y:iq} (e:fX n [s]=.ok y):y.on=[]/\y.texts=[]:=by
 unfold fX at e;dsimp only at e;split at e
 ·exact nomatch e
 ·split at e
  ·unfold fv at e;cases e;exact⟨rfl,rfl⟩
  ·exact nomatch e
theorem atU (ht:aA xR):dk Tryz.prog 23 X23:=by
 intro ρ h w args args' v h' hr ha he;unfold X23 at he;cases h1:ako args h with
 | none=> rw[h1] at he;obtain⟨N,v0,h2,hcall,he'⟩:=cP he;cases he';exact vJ (fU xR ht) (oe (fU xR ht).toTypesOK) N 23 _ h _ _ hcall ρ w args' hr ha
 | some r=>
  obtain⟨n,b,s⟩:=r;rw[h1] at he;cases he;obtain⟨rfl,ro,fz,c,hq,hc⟩:=arh h1
  match args',ha with
  | [a1,a2],⟨v1,v2,_⟩=>
   obtain⟨p,hp,_,rfl⟩:=v2.slice;have hrl:=auF hr hp hq hc;have o:WL (hL s (1+p.2)) (.slice (some ⟨16,0,none⟩) [s].length (2*(1+p.2))) [s]:=.row (m:=1+p.2) (fz:=0) (op:=false) (ro:=true) (cells:=T.ofList unk [.string ⟨⟨s⟩⟩]) (show 16<17 by omega) (by rw[bI,afI,if_pos rfl];first | done | rfl) (by simp) (by simp <;> omega) λi hi=>by
    obtain rfl:i=0:=by simp at hi;omega
    rw[aL];rfl
   have hrun:=auq 40 o (.inl (show 2*(1+p.2)%2=0 by omega)) (λ_ h=>nomatch h) (by simp) (show 17+9*0+100<=780000000 by decide) n (λv _=>some (v,hL s (1+p.2))) _ rfl;have hX:az EnvO KK 43 23 [.int .i64 (.ofNat n),.slice (some ⟨16,0,none⟩) 1 (2*(1+p.2))] (hL s (1+p.2)) (λv _=>some (v,hL s (1+p.2)))=some (akr n s,hL s (1+p.2)):=by
    unfold akr;cases hcm:fX n [s] with
    | ok y=> rw[hcm] at hrun;obtain⟨h2,on,tx,f,e,s1,s2⟩:=hrun;obtain⟨y1,y2⟩:=alf hcm;rw[y1] at s1;rw[y2] at s2;rw[asT s1,asT s2] at e;exact e
    | error er=> rw[hcm] at hrun;obtain⟨_,h2,f,e⟩:=hrun;exact e
   obtain⟨N,v0,h2,hcall,he'⟩:=cP hX;cases he';have hv2:VR (ars p.1) (.slice (some ⟨16,0,none⟩) 1 (2*(1+p.2))) (.slice (some ⟨p.1,0,none⟩) 1 (1+p.2)):=by
    refine .of1 ?_;have e1:2*(1+p.2)%2=0:=by omega
    have e2:2*(1+p.2) / 2=1+p.2:=by omega
    simp[bY,bW,ars,e1,e2]
   have ha0:bi (VR (ars p.1)) [.int .i64 (.ofNat n),.slice (some ⟨16,0,none⟩) 1 (2*(1+p.2))] [a1,.slice (some ⟨p.1,0,none⟩) 1 (if 3%2=0 then 3 / 2 else 3 / 2+p.2)]:=⟨fu (ρ':=ρ) rfl v1,hv2,trivial⟩;rcases vJ (fU xR ht) (oe (fU xR ht).toTypesOK) N 23 _ _ _ _ hcall (ars p.1) w _ hrl ha0 with ⟨v',ρ',w',q1,q2,q3⟩ | ⟨fn,q1,q2,q3,q4⟩
   ·exact .inl ⟨v',ρ,w',q1,asY q2,Step.loneL (auh _ _ _) hr q3⟩
   ·refine .inr ⟨fn,q1,q2,q3,q4.mono λe w' hq=>?_⟩;obtain⟨ρ',v',e1,e2,e3⟩:=hq;exact⟨ρ,v',e1,asY e2,Step.loneL (auh _ _ _) hr e3⟩
def asP (E:Env)(a b c:Value)(rc:RC)(k:Value->H->R)(d:aa [2]->H->R):(aa [2,63]->H->R)->aa [2,63]->H->R:=λe f g=>binR (binC E .lss 3 false false) f.2.1 a λh=>@joinR [] (λ_ i=>@joinR [2] (λj l=>binR (binC E .add 3 false true) f.2.1 (.int .i64 (.ofNat 1)) λm=>e (j.1,(m,())) l) λj=>onNat f.2.1 none λl=>onSl b none λm n _=>ifB (ble (Nat.succ l) n) (addOffF m (Nat.mul l 9) λo=>onPtr o λp=>onRow (hget i p.1) λ_ q _ _ _ r=>ifB (ble (Nat.add p.2 9) q) (ifB (ble i.1 1000000000) (letH (ag i (.row 32 9 false false 0 (T.ofList unk [.int .i64 (.ofNat 0),.int .u8 (.ofNat 0),.string (ByteArray.mk #[]),.slice none 0 0,.int .i64 (.ofNat 0),.int .i64 (.ofNat 0),.int .i64 (.ofNat 0),.int .u8 (.ofNat 0),.slice none 0 0]))) λs=>onRow (hget s i.1) λt u v w x y=>ifB (notB w) (ifB (beq (lenF (ac r 9 p.2)) 9) (ifB (ble x 0) (ifB (ble 9 u) (ifB (ble u 1000000000) (ifB (allF (λz=>cell1F z) (ac r 9 p.2)) (letH (hset s i.1 (.row t u v false x (putF y 0 (ac r 9 p.2)))) λz=>ifB (ble z.1 1000000000) (letH (H.mk z.1 z.2) λa0=>onRow (hget a0 i.1) λ_ a1 _ _ _ a2=>ifB (ble 9 a1) (onNat f.2.1 none λa3=>onSl c none λa4 a5 _=>ifB (ble (Nat.succ a3) a5) (addOffF a4 (Nat.mul a3 9) λa6=>onPtr a6 λa7=>onRow (hget a0 a7.1) λ_ a8 _ _ _ a9=>ifB (ble (Nat.add a7.2 9) a8) (rc 10 [.agg ⟨ac a2 9 0⟩] a0 λb0 b1=>ifB (aj c c) (ifB (aj f.2.1 f.2.1) (onNat f.2.1 none λb2=>onSl c none λb3 b4 _=>ifB (ble (Nat.succ b2) b4) (addOffF b3 (Nat.mul b2 9) λb5=>ifB (aj b5 a6) (onPtr a6 λb6=>onRow (hget b1 b6.1) λ_ b7 _ _ _ b8=>ifB (ble (Nat.add b6.2 9) b7) (ifB (aj (.agg ⟨ac b8 9 b6.2⟩) (.agg ⟨ac a9 9 a7.2⟩)) (rc 9 [b0,.agg ⟨ac a9 9 a7.2⟩] b1 λb9 c0=>onB b9 (@joinR [2] (λc1 c2=>j (c1.1,()) c2) λ_=>k (.bool false) c0) (@joinR [2] (λc1 c2=>j (c1.1,()) c2) λc1=>c1 (f.1,()) c0))))))))))))))))))))) λi=>onB h (d (f.1,()) g) (i () g)
def atA (k:Value->H->R)(E:Env)(a b:Value)(rc:RC)(c:aa [2])(d:H):R:=joinL (λe=>@joinR [2] (λ_ f=>k (.bool true) f) λf=>@loopF [2,63] (asP E e a b rc k f) ft (c.1,(.int .i64 (.ofNat 0),())) d) λe=>onSl a (bindO (bv E d 23 a) e) λ_ f _=>e (.int .i64 (.ofNat f))
def auE (k:Value->H->R)(E:Env)(a b:Value)(rc:RC)(c:H):R:=@joinR [2] (λd e=>atA k E a b rc d e) λ_=>k (.bool false) c
def as3 (a:Value)(E:Env)(b c:Value)(d:Value->H->R)(e:H):R:=aB a (binR (binC E .neq 3 false false) b c λf=>d f e) (d undef e) (d undef e)
def auQ (k:Value->H->R)(E:Env)(a b:Value)(rc:RC)(c:H):R:=ae (λ_ d=>ae (λ_ e=>ae (λ_ f=>ae (λ_ g=>ae (λ_ h=>auE k E a b rc h) λh=>h undef g) λg=>g undef f) λf=>f undef e) λe=>e undef d) λd=>d undef c
def auD (k:Value->H->R)(E:Env)(a b:Value)(rc:RC)(c:H):R:=ae (λ_ d=>ae (λ_ e=>ae (λ_ f=>auQ k E a b rc f) λf=>f undef e) λe=>e undef d) λd=>d undef c
def atT (E:Env)(a:H)(a0:Value)(rc:RC)(k:Value->H->R)(b:aa [2]):R:=bindO (bv E a 9 a0) λc=>binR (binC E .gtr 3 false true) c (.int .i64 (.ofNat 8000)) λd=>@joinR [2] (λe f=>rc 7 [a0] f λg h=>onTup g λi=>nthF 0 i λj=>onTup g λl=>nthF 1 l λm=>onTup g λn=>nthF 2 n λo=>onTup g λp=>nthF 3 p λq=>onTup g λr=>nthF 4 r λs=>rc 8 [a0] h λt u=>onTup t λv=>nthF 0 v λw=>onTup t λx=>nthF 1 x λy=>onTup t λz=>nthF 2 z λa1=>onTup t λa2=>nthF 3 a2 λa3=>onTup t λa4=>nthF 4 a4 λa5=>binR (binC E .neq 3 false false) j w λa6=>ae (λa7 a8=>ae (λa9 b0=>ae (λb1 b2=>onB a6 (ae (λb3 b4=>ae (λb5 b6=>ae (λb7 b8=>onB b1 (ae (λb9 c0=>ae (λc1 c2=>ae (λc3 c4=>onB b7 (ae (λc5 c6=>ae (λc7 c8=>ae (λc9 d0=>ae (λd1 d2=>ae (λd3 d4=>onB c3 (@joinR [2] (λd5 d6=>atA k E o a1 rc d5 d6) λd5=>onB d3 (d5 (e.1,()) d4) (k (.bool false) d4)) (auE k E o a1 rc d4)) λd3=>as3 c3 E c7 d1 d3 d2) λd1=>aB c3 (joinL (λd2=>d1 d2 d0) λd2=>onSl c9 (bindO (bv E d0 27 c9) d2) λ_ d3 _=>d2 (.int .i64 (.ofNat d3))) (d1 undef d0) (d1 undef d0)) λc9=>aB c3 (c9 a1 c8) (c9 undef c8) (c9 undef c8)) λc7=>aB c3 (joinL (λc8=>c7 c8 c6) λc8=>onSl c5 (bindO (bv E c6 23 c5) c8) λ_ c9 _=>c8 (.int .i64 (.ofNat c9))) (c7 undef c6) (c7 undef c6)) λc5=>aB c3 (c5 o c4) (c5 undef c4) (c5 undef c4)) (auQ k E o a1 rc c4)) λc3=>as3 b7 E b9 c1 c3 c2) λc1=>aB b7 (c1 a5 c0) (c1 undef c0) (c1 undef c0)) λb9=>aB b7 (b9 s b8) (b9 undef b8) (b9 undef b8)) (auD k E o a1 rc b8)) λb7=>as3 b1 E b3 b5 b7 b6) λb5=>aB b1 (b5 a3 b4) (b5 undef b4) (b5 undef b4)) λb3=>aB b1 (b3 q b2) (b3 undef b2) (b3 undef b2)) (ae (λ_ b3=>ae (λ_ b4=>ae (λ_ b5=>auD k E o a1 rc b5) λb5=>b5 undef b4) λb4=>b4 undef b3) λb3=>b3 undef b2)) λb1=>as3 a6 E a7 a9 b1 b0) λa9=>aB a6 (a9 y a8) (a9 undef a8) (a9 undef a8)) λa7=>aB a6 (a7 m u) (a7 undef u) (a7 undef u)) λe=>onB d (e (b.1,()) a) (k (.bool true) a)
def pl3 (E:Env)(rc:RC)(a0:Value)(h:H)(k:Value->H->R):R:=rc 6 [] h λa b=>onB a (@joinR [2] (λc d=>atT E d a0 rc k c) λ_=>k (.bool false) b) (@joinR [2] (λc d=>atT E d a0 rc k c) λc=>c (.bool false,()) b)
theorem auc (t:ak)(rc:RC)(a0:Value)(h:H)(k:Value->H->R):(ax (EX t) KK 3).run rc [a0] h k = pl3 (EX t) rc a0 h k:=by kernel_rfl
def tP:ak:=((((((xR.ins 40 16 (some pH)).ins 40 35 (some l5)).ins 40 63 (some Dh)).ins 40 11 (some HZ)).ins 40 12 (some AW)).ins 40 62 (some vb)).ins 40 23 (some X23)
theorem PK (h:aA xR):aA tP:=ar (ar (ar (ar (ar (ar (ar h (by decide) yl) (by decide) sZ) (by decide) EO) (by decide) I9) (by decide) Ao) (by decide) zM) (by decide) (atU h)
def EP:Env:=EX tP
theorem vO:EP=EX tP:=rfl
theorem us:US EP:=⟨by kernel_rfl,by kernel_rfl,by kernel_rfl⟩
theorem t30:Ad EP 30 9 1 ((EP.info 9).getD default) [.string ⟨⟨[]⟩⟩]:=⟨by kernel_rfl,by kernel_rfl,by kernel_rfl,of_decide_eq_true (by kernel_rfl),by kernel_rfl,rfl,by decide,by decide⟩
theorem t23:Ad EP 23 32 9 ((EP.info 32).getD default) aO:=⟨by kernel_rfl,by kernel_rfl,by kernel_rfl,of_decide_eq_true (by kernel_rfl),by kernel_rfl,rfl,by decide,by decide⟩
theorem DJ {ty:TypeId} {d:TypeDesc} (hu:EP.und ty=some d) (ha:gt d=true) (hz:EP.size ty=some 9):∀(h:H) (b:Nat) (op ro:Bool) (fz:Nat) (cells:T Value),hget h b=.row ty 9 op ro fz cells->aU EP h ty ⟨b,0,none⟩=some (.agg ⟨ac cells 9 0⟩):=by intro h b op ro fz cells e;rw[bI] at e;unfold aU;simp only[hu,hz,e,ha,cond_true,dS];rfl
theorem tn:CE EP 32:={ us with
 u24:=by kernel_rfl
 u30:=by kernel_rfl
 z9:=by kernel_rfl
 load:=DJ (d:=(EP.und 32).getD .bool) (by kernel_rfl) (by kernel_rfl) (by kernel_rfl)
 build:=λa c=>by kernel_rfl }
theorem u62:∃mi,EP.und 62=some (.interface mi):=⟨_,(by kernel_rfl:EP.und 62=some (.interface (match EP.und 62 with | some (.interface m)=>m | _=>default)))⟩
theorem tc0 {f:FuncId} {x:List Value->H->Option (Value × H)} (e:bN EP KK f=⟨λ_ args h c=>cT (x args h) c⟩) (m:Nat) (args:List Value) (h:H) (k:Value->H->R) {v:Value} {h':H} (hx:x args h=some (v,h')):az EP KK (m+1) f args h k=k v h':=by show (bN EP KK f).run _ _ _ _=_;rw[e];show cT (x args h) k=_;rw[hx];rfl
theorem asr:bN EP KK 16=⟨λ_ args h c=>cT (pH args h) c⟩:=by kernel_rfl
theorem ar1:bN EP KK 35=⟨λ_ args h c=>cT (l5 args h) c⟩:=by kernel_rfl
theorem arF:bN EP KK 63=⟨λ_ args h c=>cT (Dh args h) c⟩:=by kernel_rfl
theorem an8:bN EP KK 62=⟨λ_ args h c=>cT (vb args h) c⟩:=by kernel_rfl
theorem avu:bN EP KK 23=⟨λ_ args h c=>cT (X23 args h) c⟩:=by kernel_rfl
theorem fc6:bN EP KK 6=⟨λ_ args h c=>cT (aV glob args h) c⟩:=by kernel_rfl
theorem arw (m:Nat) (a0:Value) (h:H) (k:Value->H->R):az EP KK (m+1) 37 [a0] h k=p37 EP (az EP KK m) a0 h k:=by show (bN EP KK 37).run _ _ _ _=_;rw[show bN EP KK 37=ax EP KK 37 from bB (by kernel_rfl),vO];exact Sf tP _ a0 h k
theorem arM (m:Nat) (a0:Value) (a1:Value) (h:H) (k:Value->H->R):az EP KK (m+1) 38 [a0,a1] h k=p38 EP (az EP KK m) a0 a1 h k:=by show (bN EP KK 38).run _ _ _ _=_;rw[show bN EP KK 38=ax EP KK 38 from bB (by kernel_rfl),vO];exact W3 tP _ a0 a1 h k
theorem ar5 (m:Nat) (h:H) (k:Value->H->R):az EP KK (m+1) 39 [] h k=p39 EP (az EP KK m)  h k:=by show (bN EP KK 39).run _ _ _ _=_;rw[show bN EP KK 39=ax EP KK 39 from bB (by kernel_rfl),vO];exact adD tP _  h k
theorem arK (m:Nat) (a0:Value) (a1:Value) (h:H) (k:Value->H->R):az EP KK (m+1) 40 [a0,a1] h k=p40 EP (az EP KK m) a0 a1 h k:=by show (bN EP KK 40).run _ _ _ _=_;rw[show bN EP KK 40=ax EP KK 40 from bB (by kernel_rfl),vO];exact agU tP _ a0 a1 h k
theorem asH (m:Nat) (a0:Value) (a1:Value) (h:H) (k:Value->H->R):az EP KK (m+1) 41 [a0,a1] h k=p41 EP (az EP KK m) a0 a1 h k:=by show (bN EP KK 41).run _ _ _ _=_;rw[show bN EP KK 41=ax EP KK 41 from bB (by kernel_rfl),vO];exact adk tP _ a0 a1 h k
theorem asa (m:Nat) (a0:Value) (a1:Value) (a2:Value) (h:H) (k:Value->H->R):az EP KK (m+1) 42 [a0,a1,a2] h k=p42 EP (az EP KK m) a0 a1 a2 h k:=by show (bN EP KK 42).run _ _ _ _=_;rw[show bN EP KK 42=ax EP KK 42 from bB (by kernel_rfl),vO];exact abE tP _ a0 a1 a2 h k
theorem asI (m:Nat) (a0:Value) (a1:Value) (h:H) (k:Value->H->R):az EP KK (m+1) 64 [a0,a1] h k=p64 EP (az EP KK m) a0 a1 h k:=by show (bN EP KK 64).run _ _ _ _=_;rw[show bN EP KK 64=ax EP KK 64 from bB (by kernel_rfl),vO];exact adf tP _ a0 a1 h k
theorem arL (m:Nat) (h:H) (k:Value->H->R):az EP KK (m+1) 65 [] h k=p65 EP (az EP KK m)  h k:=by show (bN EP KK 65).run _ _ _ _=_;rw[show bN EP KK 65=ax EP KK 65 from bB (by kernel_rfl),vO];exact ajH tP _  h k
theorem aro (m:Nat) (a0:Value) (h:H) (k:Value->H->R):az EP KK (m+1) 66 [a0] h k=p66 EP (az EP KK m) a0 h k:=by show (bN EP KK 66).run _ _ _ _=_;rw[show bN EP KK 66=ax EP KK 66 from bB (by kernel_rfl),vO];exact Ug tP _ a0 h k
theorem asm (m:Nat) (a0:Value) (h:H) (k:Value->H->R):az EP KK (m+1) 17 [a0] h k=p17 EP (az EP KK m) a0 h k:=by show (bN EP KK 17).run _ _ _ _=_;rw[show bN EP KK 17=ax EP KK 17 from bB (by kernel_rfl),vO];exact Re tP _ a0 h k
theorem asj (m:Nat) (a0:Value) (h:H) (k:Value->H->R):az EP KK (m+1) 18 [a0] h k=p18 EP (az EP KK m) a0 h k:=by show (bN EP KK 18).run _ _ _ _=_;rw[show bN EP KK 18=ax EP KK 18 from bB (by kernel_rfl),vO];exact U9 tP _ a0 h k
theorem asw (m:Nat) (a0:Value) (a1:Value) (h:H) (k:Value->H->R):az EP KK (m+1) 19 [a0,a1] h k=p19 EP (az EP KK m) a0 a1 h k:=by show (bN EP KK 19).run _ _ _ _=_;rw[show bN EP KK 19=ax EP KK 19 from bB (by kernel_rfl),vO];exact Zq tP _ a0 a1 h k
theorem tc7 (m:Nat) (a0:Value) (h:H) (k:Value->H->R):az EP KK (m+1) 7 [a0] h k=p7 EP (az EP KK m) a0 h k:=by show (bN EP KK 7).run _ _ _ _=_;rw[show bN EP KK 7=ax EP KK 7 from bB (by kernel_rfl),vO];exact ap1 tP _ a0 h k
theorem tc9 (m:Nat) (a0:Value) (a1:Value) (h:H) (k:Value->H->R):az EP KK (m+1) 9 [a0,a1] h k=p9 EP (az EP KK m) a0 a1 h k:=by show (bN EP KK 9).run _ _ _ _=_;rw[show bN EP KK 9=ax EP KK 9 from bB (by kernel_rfl),vO];exact aus tP _ a0 a1 h k
theorem avq (m:Nat) (a0:Value) (h:H) (k:Value->H->R):az EP KK (m+1) 10 [a0] h k=p10 EP (az EP KK m) a0 h k:=by show (bN EP KK 10).run _ _ _ _=_;rw[show bN EP KK 10=ax EP KK 10 from bB (by kernel_rfl),vO];exact atM tP _ a0 h k
theorem avn (m:Nat) (a0:Value) (a1:Value) (h:H) (k:Value->H->R):az EP KK (m+1) 24 [a0,a1] h k=p24 EP (az EP KK m) a0 a1 h k:=by show (bN EP KK 24).run _ _ _ _=_;rw[show bN EP KK 24=ax EP KK 24 from bB (by kernel_rfl),vO];exact atZ tP _ a0 a1 h k
theorem tc3 (m:Nat) (a0:Value) (h:H) (k:Value->H->R):az EP KK (m+1) 3 [a0] h k=pl3 EP (az EP KK m) a0 h k:=by show (bN EP KK 3).run _ _ _ _=_;rw[show bN EP KK 3=ax EP KK 3 from bB (by kernel_rfl),vO];exact auc tP _ a0 h k
theorem tc8 (m:Nat) (a0:Value) (h:H) (k:Value->H->R):az EP KK (m+1) 8 [a0] h k=p8 EP (az EP KK m) a0 h k:=by show (bN EP KK 8).run _ _ _ _=_;rw[show bN EP KK 8=ax EP KK 8 from bB (by kernel_rfl),vO];exact auT tP _ a0 h k
theorem avi (m:Nat) (a0:Value) (h:H) (k:Value->H->R):az EP KK (m+1) 20 [a0] h k=p20 EP (az EP KK m) a0 h k:=by show (bN EP KK 20).run _ _ _ _=_;rw[show bN EP KK 20=ax EP KK 20 from bB (by kernel_rfl),vO];exact atP tP _ a0 h k
theorem avR (m:Nat) (a0:Value) (h:H) (k:Value->H->R):az EP KK (m+1) 21 [a0] h k=p21 EP (az EP KK m) a0 h k:=by show (bN EP KK 21).run _ _ _ _=_;rw[show bN EP KK 21=ax EP KK 21 from bB (by kernel_rfl),vO];exact atY tP _ a0 h k
theorem avO (m:Nat) (a0:Value) (h:H) (k:Value->H->R):az EP KK (m+1) 22 [a0] h k=p22 EP (az EP KK m) a0 h k:=by show (bN EP KK 22).run _ _ _ _=_;rw[show bN EP KK 22=ax EP KK 22 from bB (by kernel_rfl),vO];exact atJ tP _ a0 h k
theorem avG (m:Nat) (a0:Value) (h:H) (k:Value->H->R):az EP KK (m+1) 43 [a0] h k=p43 EP (az EP KK m) a0 h k:=by show (bN EP KK 43).run _ _ _ _=_;rw[show bN EP KK 43=ax EP KK 43 from bB (by kernel_rfl),vO];exact asW tP _ a0 h k
section
theorem as2 {E:Env} (hE:E.und 3=some (.int .i64)) {cx cy:Bool} {a:Int} {k:Value->R}:binR (binC E .eql 3 cx cy) (.int .i64 a) (.int .i64 a) k=k (.bool true):=by
 cases a with
 | ofNat m=>exact (fJ hE).trans (by rw[Nat.beq_refl])
 | negSucc m=>
  have hb:iz E .eql 3 cx cy (.int .i64 (.negSucc m)) (.int .i64 (.negSucc m))=some (.bool true):=by show some (Value.bool (Int.negSucc m==Int.negSucc m))=_;rw[beq_self_eq_true]
  unfold binR binC;rw[hE];show bindO (iz E .eql 3 cx cy (.int .i64 (.negSucc m)) (.int .i64 (.negSucc m))) k=_;rw[hb];rfl
variable {E : Env} (u : US E) {rc : RC}
include u
theorem atQ {h:H} {v v':Value} {l:List Bs} (o:WL h v l) (o':WL h v' l) (hn:h.next<=900000000) (hl:l.length<=100000) (k:Value->H->R) (b:aa [4]->H->R):∀(d i N:Nat) (x:Value),i+d=l.length->d<N ->
  loopF (ks:=[4,13]) (arY E (.int .i64 (.ofNat l.length)) v v' k b) N (x,(.int .i64 (.ofNat i),())) h=b (x,()) h:=by
 have u3:=u.u3;intro d
 induction d with
 | zero=> intro i N x hi hN;obtain⟨N,rfl⟩:∃M,N=M+1:=⟨N-1,by omega⟩;rw[ce];unfold arY;dsimp only;rw[iu u3 (show l.length<=i by omega),ai];rfl
 | succ d ih=>
  intro i N x hi hN;obtain⟨N,rfl⟩:∃M,N=M+1:=⟨N-1,by omega⟩;have hlt:i<l.length:=by omega
  have key:=ih (i+1) N x (by omega) (by omega);rw[ce];generalize loopF (ks:=[4,13]) (arY E (.int .i64 (.ofNat l.length)) v v' k b) N=L at key ⊢;cases o with
  | nil=>exact absurd hlt (Nat.not_lt_zero _)
  | row hb hq hm hcap hc=>
   cases o' with
   | nil=>exact absurd hlt (Nat.not_lt_zero _)
   | row hb' hq' hm' hcap' hc'=>
    rename_i bk of m cap fz op ro cells bk' of' m' cap' fz' op' ro' cells';have hqr:∀KK,onRow (hget h bk) KK=KK 9 m op ro fz cells:=λKK=>by rw[hq];rfl
    have hqr':∀KK,onRow (hget h bk') KK=KK 9 m' op' ro' fz' cells':=λKK=>by rw[hq'];rfl
    unfold arY;dsimp only;rw[km u3 hlt,ai,aK];dsimp only;rw[ai,au (show h.1<=1000000000 by show h.next<=_;omega),aJ,hmk,cn,bZ,au (show i+1<=l.length by omega),co,aG];dsimp only;rw[hqr,au (show of+i.mul 1+1<=m by show of+i*1+1<=m;omega),cn,bZ,au (show i+1<=l.length by omega),co,aG];dsimp only;rw[hqr',au (show of'+i.mul 1+1<=m' by show of'+i*1+1<=m';omega),show of+i.mul 1=of+i by show of+i*1=_;omega,show of'+i.mul 1=of'+i by show of'+i*1=_;omega,hc i hlt,hc' i hlt];unfold aF;rw[ar0 u,beq_self_eq_true,ai];rw[show (!true)=false from rfl,aM];dsimp only;rw[dl u3 (by omega),key]
variable (u30 : E.und 30 = some (.slice 9))
include u30
theorem auz {h:H} {v v':Value} {l:List Bs} (o:WL h v l) (o':WL h v' l) (hn:h.next<=900000000) (hl:l.length<=100000) (k:Value->H->R):p24 E rc v v' h k=k (.bool true) h:=by
 have u3:=u.u3;unfold p24;rw[cJ];rw[kS (E:=E) (h':=h) o u30,cJ,kS (E:=E) (h':=h) o' u30,dK u3,Nat.beq_refl,show (!true)=false from rfl];rw[ai,aM];dsimp only;rw[cJ,kS (E:=E) (h':=h) o u30,ai];have hb:l.length<ft:=by unfold ft;omega
 rw[atQ u o o' hn hl k _ l.length 0 ft _ (Nat.zero_add _) hb]
omit u u30
def Alike (rc:RC):Prop:=∀(h:H) (v v':Value) (l:List Bs) (k:Value->H->R),WL h v l->WL h v' l->h.next<=900000000->l.length<=100000->rc 24 [v,v'] h k=k (.bool true) h
include u
theorem awc (hA:Alike rc) {h:H} (hn:h.next<=800000000) {x:iq} {on tx on' tx':Value} (s1:WL h on x.on) (s2:WL h tx x.texts) (s1':WL h on' x.on) (s2':WL h tx' x.texts) (c1:cell1F on=true) (c2:cell1F tx=true) (c1':cell1F on'=true) (c2':cell1F tx'=true)
  (hl1:x.on.length<=100000) (hl2:x.texts.length<=100000) (k:Value->H->R):∃h',Fr h h' 2/\p9 E rc (.agg ⟨dJ x on tx⟩) (.agg ⟨dJ x on' tx'⟩) h k=k (.bool true) h':=by
 have u3:=u.u3;have u5:=u.u5;have f1:Fr h (ag h (.row 34 9 false false 0 (T.ofList unk (dJ x on tx)))) 1:=Fr.push _ (by omega);have e1:hget (ag h (.row 34 9 false false 0 (T.ofList unk (dJ x on tx)))) h.next=.row 34 9 false false 0 (T.ofList unk (dJ x on tx)):=aD _ _ (by omega);have n1:(ag h (.row 34 9 false false 0 (T.ofList unk (dJ x on tx)))).next=h.next+1:=rfl;have hall:∀on tx,cell1F on=true->cell1F tx=true->allF (λb=>cell1F b) (dJ x on tx)=true:=λon tx a b=>by rw[qO];unfold dJ;simp only[List.all_cons,List.all_nil,a,b];rfl
 unfold p9;rw[bC,dF (hall _ _ c1 c2),au (show h.1<=1000000000 by show h.next<=_;omega),aJ,show lenF (dJ x on tx)=9 from rfl];generalize ag h (.row 34 9 false false 0 (T.ofList unk (dJ x on tx)))=h1 at f1 e1 n1 ⊢;have f2:Fr h1 (ag h1 (.row 34 9 false false 0 (T.ofList unk (dJ x on' tx')))) 1:=Fr.push _ (by omega);have e2:hget (ag h1 (.row 34 9 false false 0 (T.ofList unk (dJ x on' tx')))) h1.next=.row 34 9 false false 0 (T.ofList unk (dJ x on' tx')):=aD _ _ (by omega);have n2:(ag h1 (.row 34 9 false false 0 (T.ofList unk (dJ x on' tx')))).next=h1.next+1:=rfl;rw[bC,dF (hall _ _ c1' c2'),au (show h1.1<=1000000000 by show h1.next<=_;omega),aJ,show lenF (dJ x on' tx')=9 from rfl];generalize ag h1 (.row 34 9 false false 0 (T.ofList unk (dJ x on' tx')))=h2 at f2 e2 n2 ⊢;have e1':hget h2 h.next=.row 34 9 false false 0 (T.ofList unk (dJ x on tx)):=(f2.old _ (by omega)).trans e1;have hq1:∀KK,onRow (hget h2 h.1) KK=KK 34 9 false false 0 (T.ofList unk (dJ x on tx)):=λKK=>by rw[show h.1=h.next from rfl,e1'];rfl
 have hq2:∀KK,onRow (hget h2 h1.1) KK=KK 34 9 false false 0 (T.ofList unk (dJ x on' tx')):=λKK=>by rw[show h1.1=h1.next from rfl,e2];rfl
 have g:∀on tx i v,(dJ x on tx).getD i unk=v->getF (T.ofList unk (dJ x on tx)) i=v:=λon tx i v e=>by rw[aL,e]
 have hf:Fr h h2 2:=f1.trans f2 (Nat.le_refl _);have a3:∀KK,rc 24 [on,on'] h2 KK=KK (.bool true) h2:=λKK=>hA h2 on on' x.on KK (s1.fr hf) (s1'.fr hf) (by omega) hl1;have a8:∀KK,rc 24 [tx,tx'] h2 KK=KK (.bool true) h2:=λKK=>hA h2 tx tx' x.texts KK (s2.fr hf) (s2'.fr hf) (by omega) hl2;refine⟨h2,hf,?_⟩;have b0:ble 1 9=true:=rfl;have b1:ble (Nat.succ 1) 9=true:=rfl;have b2:ble (Nat.succ 2) 9=true:=rfl;have b3:ble (Nat.succ 3) 9=true:=rfl;have b4:ble (Nat.succ 4) 9=true:=rfl;have b5:ble (Nat.succ 5) 9=true:=rfl;have b6:ble (Nat.succ 6) 9=true:=rfl;have b7:ble (Nat.succ 7) 9=true:=rfl;have b8:ble (Nat.succ 8) 9=true:=rfl;have w0:=λon tx=>g on tx 0 (.int .i64 (.ofNat x.line)) rfl;have w1:=λon tx=>g on tx 1 (.int .u8 (.ofNat x.op)) rfl;have w2:=λon tx=>g on tx 2 (.string ⟨⟨x.label⟩⟩) rfl;have w3:=λon tx=>g on tx 3 on rfl;have w4:=λon tx=>g on tx 4 (.int .i64 x.n) rfl;have w5:=λon tx=>g on tx 5 (.int .i64 x.m) rfl;have w6:=λon tx=>g on tx 6 (.int .i64 x.k) rfl;have w7:=λon tx=>g on tx 7 (.int .u8 (.ofNat x.kind)) rfl;have w8:=λon tx=>g on tx 8 tx rfl;simp only[↓hq1,↓hq2,b0,b1,b2,b3,b4,b5,b6,b7,b8,↓eP,w0,w1,w2,w3,w4,w5,w6,w7,w8,↓as2 u3,↓gv u5,↓Aj u,beq_self_eq_true,Nat.beq_refl,↓bz,↓aK,↓eC,OF,atE,atd,↓aG,↓a3,↓a8]
end
section
theorem WL.slice {h:H} {v:Value} {l:List Bs} (o:WL h v l):∃a n c,v=.slice a n c:=by cases o <;> exact⟨_,_,_,rfl⟩
theorem as9 (x:iq) (a:Option Addr) (n c:Nat) (a':Option Addr) (n' c':Nat):cg EP 34 [(0,.int .i64 (.ofNat x.line)),(1,.int .u8 (.ofNat x.op)),(2,aF x.label),(3,.slice a n c),(4,.int .i64 x.n),(5,.int .i64 x.m),(6,.int .i64 x.k),(7,.int .u8 (.ofNat x.kind)),(8,.slice a' n' c')] =
  some (.agg ⟨dJ x (.slice a n c) (.slice a' n' c')⟩):=by kernel_rfl
theorem atO:∀(h:H) (b:Nat) (op ro:Bool) (fz:Nat) (cells:T Value),hget h b=.row 34 9 op ro fz cells->aU EP h 34 ⟨b,0,none⟩=some (.agg ⟨ac cells 9 0⟩):=DJ (d:=(EP.und 34).getD .bool) (by kernel_rfl) (by kernel_rfl) (by kernel_rfl)
variable {rc : RC}
theorem aux {h:H} (hn:h.next<=800000000) {x:iq} {on tx:Value} (s1:WL h on x.on) (s2:WL h tx x.texts) (k:Value->H->R):∃h',Fr h h' 2/\p10 EP rc (.agg ⟨dJ x on tx⟩) h k=k (.agg ⟨dJ x on tx⟩) h':=by
 have f1:Fr h (ag h (.row 32 9 false false 0 (T.ofList unk (dJ x on tx)))) 1:=Fr.push _ (by omega);have e1:hget (ag h (.row 32 9 false false 0 (T.ofList unk (dJ x on tx)))) h.next=.row 32 9 false false 0 (T.ofList unk (dJ x on tx)):=aD _ _ (by omega);have n1:(ag h (.row 32 9 false false 0 (T.ofList unk (dJ x on tx)))).next=h.next+1:=rfl;have hall:(dJ x on tx).all cell1F=true:=by unfold dJ;simp only[List.all_cons,List.all_nil,s1.cell1,s2.cell1];rfl
 unfold p10;rw[bC,dF (show allF (λb=>cell1F b) (dJ x on tx)=true by rw[qO,hall]),au (show h.1<=1000000000 by show h.next<=_;omega),aJ,show lenF (dJ x on tx)=9 from rfl];have hz:([.int .i64 (.ofNat 0),.int .u8 (.ofNat 0),.string (ByteArray.mk #[]),.slice none 0 0,.int .i64 (.ofNat 0),.int .i64 (.ofNat 0),.int .i64 (.ofNat 0),.int .u8 (.ofNat 0),.slice none 0 0]:List Value)=aO:=rfl;rw[hz];generalize ag h (.row 32 9 false false 0 (T.ofList unk (dJ x on tx)))=h1 at f1 e1 n1 ⊢;have f2:Fr h1 (ag h1 (.row 34 9 false false 0 (T.ofList unk aO))) 1:=Fr.push _ (by omega);have e2:hget (ag h1 (.row 34 9 false false 0 (T.ofList unk aO))) h1.next=.row 34 9 false false 0 (T.ofList unk aO):=aD _ _ (by omega);have n2:(ag h1 (.row 34 9 false false 0 (T.ofList unk aO))).next=h1.next+1:=rfl;rw[au (show h1.1<=1000000000 by show h1.next<=_;omega),aJ];generalize ag h1 (.row 34 9 false false 0 (T.ofList unk aO))=h2 at f2 e2 n2 ⊢;have e1':hget h2 h.next=.row 32 9 false false 0 (T.ofList unk (dJ x on tx)):=(f2.old _ (by omega)).trans e1;have hq1:∀KK,onRow (hget h2 h.1) KK=KK 32 9 false false 0 (T.ofList unk (dJ x on tx)):=λKK=>by rw[show h.1=h.next from rfl,e1'];rfl
 have g:∀i v,(dJ x on tx).getD i unk=v->getF (T.ofList unk (dJ x on tx)) i=v:=λi v e=>by rw[aL,e]
 have w0:=g 0 (.int .i64 (.ofNat x.line)) rfl;have w1:=g 1 (.int .u8 (.ofNat x.op)) rfl;have w2:=g 2 (aF x.label) rfl;have w3:=g 3 on rfl;have w4:=g 4 (.int .i64 x.n) rfl;have w5:=g 5 (.int .i64 x.m) rfl;have w6:=g 6 (.int .i64 x.k) rfl;have w7:=g 7 (.int .u8 (.ofNat x.kind)) rfl;have w8:=g 8 tx rfl;have b1:ble 1 9=true:=rfl;have b2:ble 2 9=true:=rfl;have b3:ble 3 9=true:=rfl;have b4:ble 4 9=true:=rfl;have b5:ble 5 9=true:=rfl;have b6:ble 6 9=true:=rfl;have b7:ble 7 9=true:=rfl;have b8:ble 8 9=true:=rfl;have b9:ble 9 9=true:=rfl;simp only[↓hq1,b1,b2,b3,b4,b5,b6,b7,b8,b9,↓eP,w0,w1,w2,w3,w4,w5,w6,w7,w8];obtain⟨a,n,c,rfl⟩:=s1.slice;obtain⟨a',n',c',rfl⟩:=s2.slice;rw[as9,bw,bC,show h1.1=h1.next from rfl,AV e2 rfl hall,atO _ _ false false 0 _ (cm _ _ _ (by omega)),bw,jj _ rfl];exact⟨_,⟨by show h.next<=h2.next;omega,by show h2.next<=_;omega,λid hid=>by rw[dA _ _ (by omega) (by omega),f2.old _ (by omega),f1.old _ hid]⟩,rfl⟩
end
section
theorem kE (h:H) (i:Nat):h.objs.get i=hget h i:=(bI h i).symm
structure HS (hS:H):Prop where
 n:16<=hS.next
 m:∃m,cell0 hS 0=some (.int .i64 m)
 e:∃t a,cell0 hS 4=some (.iface t a)
 g:iW glob 0 hS=true
theorem mL {hS h:H} (f:cD hS h) {g:Nat} (hg:g<hS.next):cell0 h g=cell0 hS g:=by unfold cell0;rw[kE,kE,f.old g hg]
theorem mj {hS h:H} (f:cD hS h):∀(gl:List AO) (i:Nat),i+gl.length<=hS.next->iW gl i hS=true->iW gl i h=true
 | [],_,_,_=>rfl
 | o :: l,i,hi,hs=>by unfold iW at hs ⊢;rw[Bool.and_eq_true] at hs;rw[kE,f.old i (by simp at hi;omega),<-kE,hs.1,mj f l (i+1) (by simp at hi;omega) hs.2];rfl
theorem vq:∀(w:Bs) (n:Nat),n<=gb n w
 | [],n=>Nat.le_refl _
 | b :: w,n=>by unfold gb;have:=vq w (10*n+(b.toNat-48));omega
theorem vD:∀(w:Bs) (acc:Nat),w.all fE=true->acc<18446744073709551616->Lib.parseUint10 acc w=if gb acc w<18446744073709551616 then .ok (gb acc w) else .range
 | [],acc,_,ha=>by unfold Lib.parseUint10 gb;rw[if_pos ha]
 | c :: r,acc,hd,ha=>by
  rw[List.all_cons,Bool.and_eq_true] at hd;have hc:48<=c.toNat/\c.toNat<=57:=by have:=hd.1;unfold fE at this;rw[Bool.and_eq_true] at this;exact⟨Nat.le_of_ble_eq_true this.1,Nat.le_of_ble_eq_true this.2⟩
  unfold Lib.parseUint10 gb;rw[if_pos hc];have hge:=vq r (10*acc+(c.toNat-48));by_cases q1:1844674407370955162<=acc
  ·rw[if_pos q1,if_neg (by omega)]
  ·rw[if_neg q1];by_cases q2:18446744073709551616<=acc*10+(c.toNat-48)
   ·rw[if_pos q2,if_neg (by omega)]
   ·rw[if_neg q2,vD r _ hd.2 (by omega),show acc*10+(c.toNat-48)=10*acc+(c.toNat-48) by omega]
theorem oa {w:Bs} (hne:w ≠ []) (hd:w.all fE=true):Lib.atoiAll w=if gb 0 w<=9223372036854775807 then .ok (gb 0 w:Int) else .range:=by
 cases w with
 | nil=>exact absurd rfl hne
 | cons c r=>
  have hc:48<=c.toNat:=by rw[List.all_cons,Bool.and_eq_true] at hd;have:=hd.1;unfold fE at this;rw[Bool.and_eq_true] at this;exact Nat.le_of_ble_eq_true this.1
  have hp:Lib.parseMag (c :: r)=if gb 0 (c :: r)<18446744073709551616 then .ok (gb 0 (c :: r)) else .range:=by unfold Lib.parseMag;rw[if_neg (by simp)];exact vD _ 0 hd (by decide)
  have h43:¬ (c.toNat=43 \/ c.toNat=45):=by omega
  have h45:¬ c.toNat=45:=by omega
  unfold Lib.atoiAll;simp only[if_neg h43,hp];by_cases q:gb 0 (c :: r)<18446744073709551616
  ·rw[if_pos q];simp only;by_cases q2:gb 0 (c :: r)<=9223372036854775807
   ·rw[if_pos q2,if_neg (by omega),if_neg (by omega),if_neg h45]
   ·rw[if_neg q2,if_pos ⟨h45,by omega⟩]
  ·rw[if_neg q,if_neg (by omega)]
variable {hS : H} (hs : HS hS)
include hs
theorem r62 (m:Nat):ux (az EP KK (m+1)) (cD hS):=by
 intro w h hl hne hd hq hn;have hb:ble w.length 1000000=true:=be (by omega);by_cases q:gb 0 w<=9223372036854775807
 ·refine .inl ⟨q,λk=>tc0 an8 m _ h k ?_⟩;show (bif ble w.length 1000000 then _ else none)=_;rw[hb,cond_true,oa hne hd,if_pos q];rfl
 ·refine .inr ⟨by omega,Lib.atoiSat w,223,.pointer (some ⟨h.next,0,none⟩),λk=>?_⟩;obtain⟨t,a,hc⟩:=hs.e;have hc':cell0 h 4=some (.iface t a):=(mL hq (by have:=hs.n;omega)).trans hc;have hroom:room h=true:=be (by omega);refine tc0 an8 m _ h k (h':=ag h .dead) ?_;show (bif ble w.length 1000000 then _ else none)=_;rw[hb,cond_true,oa hne hd,if_neg q,cV];simp only[hc',hroom,cond_true]
theorem r37 (m:Nat):A9 (az EP KK (m+2)) (cD hS):=by intro w h hl hq hn k X e;obtain⟨mi,hu⟩:=u62;exact amo us (rc:=az EP KK (m+1)) (r62 hs m) hu hl hq hn k X ((arw (m+1) _ h k).symm.trans e)
omit hs in
theorem r65 (m:Nat) (h:H) (k:Value->H->R) (hn:h.next<=900000000):az EP KK (m+1) 65 [] h k=k (.slice (some ⟨h.next,0,none⟩) 5 10) (ag h (.row 9 5 false false 0 (T.ofList unk (ch.map aF)))):=by rw[arL];unfold p65;rw[au (show h.1<=1000000000 by show h.next<=_;omega),aJ];rfl
omit hs in
theorem afw {w:Bs} {h:H} {tb:Nat} (hq:hget h tb=.row 9 5 false false 0 (T.ofList unk (ch.map aF))) (k:Value->H->R) (k':aa [4]->H->R):
  ∀(d i N:Nat) (x:Value),i+d=5->d<N ->
   loopF (ks:=[4,8]) (rW EP (.int .i64 (.ofNat 5)) (.slice (some ⟨tb,0,none⟩) 5 10) (aF w) k k') N (x,(.int .i64 (.ofNat i),())) h=if jq w (ch.drop i)<d then k (.int .i64 (.ofNat (i+jq w (ch.drop i)))) h else k' (x,()) h:=by
 have u3:=us.u3;intro d
 induction d with
 | zero=> intro i N x hi hN;obtain⟨N,rfl⟩:∃M,N=M+1:=⟨N-1,by omega⟩;rw[ce];unfold rW;dsimp only;rw[iu u3 (show 5<=i by omega),ai,if_neg (Nat.not_lt_zero _)];rfl
 | succ d ih=>
  intro i N x hi hN;obtain⟨N,rfl⟩:∃M,N=M+1:=⟨N-1,by omega⟩;have hlt:i<5:=by omega
  have hlt':i<ch.length:=hlt;have key:=ih (i+1) N x (by omega) (by omega);have hqr:∀KK,onRow (hget h tb) KK=KK 9 5 false false 0 (T.ofList unk (ch.map aF)):=λKK=>by rw[hq];rfl
  have hcell:getF (T.ofList unk (ch.map aF)) i=aF (ch[i]'hlt'):=by rw[aL,List.getD_eq_getElem?_getD,List.getElem?_map,List.getElem?_eq_getElem hlt'];rfl
  rw[ce];generalize loopF (ks:=[4,8]) (rW EP (.int .i64 (.ofNat 5)) (.slice (some ⟨tb,0,none⟩) 5 10) (aF w) k k') N=L at key ⊢;unfold rW;dsimp only;rw[km u3 hlt,ai,aK];dsimp only;rw[ai,cn,bZ,au (show i+1<=5 by omega),co,aG];dsimp only;rw[hqr,au (show 0+i.mul 1+1<=5 by show 0+i*1+1<=5;omega),show 0+i.mul 1=i by show 0+i*1=i;omega,hcell];unfold aF;rw[Aj us,ai,List.drop_eq_getElem_cons hlt'];unfold jq;by_cases q:ch[i]=w
  ·rw[show (w==ch[i])=true by rw[q];exact beq_self_eq_true _,if_pos q,if_pos (by omega)];rfl
  ·rw[show (w==ch[i])=false from beq_eq_false_iff_ne.2 (Ne.symm q),if_neg q,aM];dsimp only;rw[dl u3 (by omega),key];by_cases q2:jq w (ch.drop (i+1))<d
   ·rw[if_pos q2,if_pos (by omega),show i+1+jq w (ch.drop (i+1))=i+(jq w (ch.drop (i+1))+1) by omega]
   ·rw[if_neg q2,if_neg (by omega)]
omit hs in
theorem r64 (m:Nat) (h:H) (tb:Nat) (w:Bs) (k:Value->H->R) (hq:hget h tb=.row 9 5 false false 0 (T.ofList unk (ch.map aF))):
  az EP KK (m+1) 64 [.slice (some ⟨tb,0,none⟩) 5 10,aF w] h k=k (if jq w ch<5 then .int .i64 (.ofNat (jq w ch)) else .int .i64 (.negSucc 0)) h:=by
 rw[asI];unfold p64;rw[cJ,bZ];dsimp only;rw[ai,afw hq k _ 5 0 ft _ rfl (by unfold ft;omega),List.drop_zero,Nat.zero_add];split <;> rfl
theorem akC (m:Nat):iE (az EP KK (m+2)) (cD hS) where
 num:=r37 hs m
 kinds:=λh k hn=>r65 (m+1) h k hn
 index:=λh tb w k hq=>r64 (m+1) h tb w k hq
 plain:=λw h k=>(aro (m+1) _ h k).trans (adP us k)
theorem r42 (m:Nat):o0 (az EP KK (m+3)) (cD hS):=λB b h x w c k X cr hq hn hw h1 h2 e=>
 ak3 us t30 (rc:=az EP KK (m+2)) (akC hs m) cr hq hn hw h1 h2 c ((asa (m+2) _ _ _ h k).symm.trans e)
omit hs in
theorem r39 (m:Nat):zV (az EP KK (m+1)):=λh k hn=>by rw[ar5,Dp,au (show h.1<=1000000000 by show h.next<=_;omega),aJ]
omit hs in
theorem r38 (m:Nat):Pp (az EP KK (m+2)):=λh pb tb w0 l k X lv ht hlt hn e=>
 amc us (rc:=az EP KK (m+1)) (h:=h) (λa b g hf hg k X e=>ao1 us (rc:=az EP KK m) (lv.from hf) hg a b k X ((arK m _ _ g k).symm.trans e)) ht hlt hn k X ((arM (m+1) _ _ h k).symm.trans e)
omit hs in
theorem r63 (m:Nat):OY (az EP KK (m+1)):=λs p h hl k=>tc0 arF m _ h k (by
 show (bif ble s.length 4000000000 then _ else none)=_
 rw[be (by omega)];rfl)
omit hs in
theorem r41 (m:Nat):PQ (az EP KK (m+2)):=λh a r n k X hn hr e=>aow us (rc:=az EP KK (m+1)) (r63 m) hn hr n k X ((asH (m+1) _ _ h k).symm.trans e)
theorem r19 (m:Nat):BE (az EP KK (m+4)) (cD hS):=λline v w0 l h k X hq hn o cl hsm hl e=>
 apw tn (rc:=az EP KK (m+3)) (r39 (m+2)) (r38 (m+1)) (r41 (m+1)) (r42 hs m) hq hn o (.inl cl) hsm hl line k X ((asw (m+3) _ _ h k).symm.trans e)
omit hs in
theorem r35 (m:Nat):qm (az EP KK (m+1)):=λs h hl hn k=>tc0 ar1 m _ h k (by
 have hr:room h=true:=be (by omega);show (bif ble s.length 4000000000&&room h then _ else none)=_
 rw[be (by omega),hr,cV];rfl)
omit hs in
theorem r17 (m:Nat):pQ (az EP KK (m+2)):=λs h k X hl hn e=>alh us (rc:=az EP KK (m+1)) (r35 m) tn.u30 hl hn k X ((asm (m+1) _ h k).symm.trans e)
theorem r18 (m:Nat):oM (az EP KK (m+3)) (cD hS):=λv l h k X o hsm hq hn e=>
 ak6 us (rc:=az EP KK (m+2)) (λh h' n q f=>q.trans f.from) (r37 hs m) tn.u24 tn.u30 o hsm hq hn k X ((asj (m+2) _ h k).symm.trans e)
theorem r16 (m:Nat):wA (az EP KK (m+1)) (cD hS):=λs h hl hq hn k=>tc0 asr m _ h k (by
 have hr:room h=true:=be (by omega);obtain⟨mm,hm⟩:=hs.m;have hc:cell0 h 0=some (.int .i64 mm):=(mL hq (by have:=hs.n;omega)).trans hm
 show (match cell0 h 0 with
  | some (.int .i64 m)=>bif ble s.length 4000000000&&room h then some (Value.slice (some ⟨h.next,0,none⟩) (aR s).length (2*(aR s).length),h.push (.row 9 (aR s).length false false 0 (T.ofList unk ((aR s).map aF)))) else none
  | _=>none)=_
 rw[hc,be (by omega),hr,cV];rfl)
theorem oA (m:Nat) {s:Bs} (hl:s.length<=70000) (hls:j6 (aR s)) {h:H} (hq:cD hS h) (hn:h.next<=600000000) (k:Value->H->R) (X:R) (e:az EP KK (m+5) 7 [aF s] h k=X):
  rz 32 h.next h (80*(s.length+2)) k X (eB s):=
 asb tn (rc:=az EP KK (m+4)) t23 (by kernel_rfl) (r16 hs (m+3)) (r17 (m+2)) (r18 hs (m+1)) (r19 hs m) hl hls hq hn k X ((tc7 (m+4) _ h k).symm.trans e)
end
section
variable {rc : RC}
def atm (rc:RC):Prop:=∀(w:Bs) (h:H) (k:Value->H->R),w.length<=100000->rc 43 [aF w] h k=k (.tuple ⟨[.int .i64 (.ofNat (cC w).1),.int .i64 (.ofNat (cC w).2)]⟩) h
theorem aui (hN:atm rc) {v:Value} {w0:Bs} {l:List Bs} {h:H} (o:WL h v (w0 :: l)) (hs:small (w0 :: l)) (k:Value->H->R):
  p22 EP rc v h k=k (.tuple ⟨[.int .i64 (.ofNat (cW (w0 :: l)).1),.int .i64 (.ofNat (cW (w0 :: l)).2.1),.int .i64 (.ofNat (cW (w0 :: l)).2.2)]⟩) h:=by
 have u3:=us.u3;have hlen:=λh'=>kS (E:=EP) (h':=h') o tn.u30;obtain⟨bk,of,m,cap,fz,op,ro,cells,hb,hq9,hm,hcap,hcell,hv⟩:∃bk of m cap fz op ro cells,bk<h.next/\hget h bk=.row 9 m op ro fz cells/\of+(l.length+1)<=m/\l.length+1<=cap / 2/\(∀i,(hi:i<(w0 :: l).length)->getF cells (of+i)=aF ((w0 :: l)[i]'hi))/\v=.slice (some ⟨bk,of,none⟩) (w0 :: l).length cap:=by
  cases o with
  | row hb hq hm hcap hc=>exact⟨_,_,_,_,_,_,_,_,hb,hq,by simpa using hm,by simpa using hcap,hc,rfl⟩
 subst hv;have hqr:∀K,onRow (hget h bk) K=K 9 m op ro fz cells:=λK=>by rw[hq9];rfl
 have c0:getF cells of=aF w0:=hcell 0 (by simp);unfold p22;rw[bZ,au (show 1<=(w0 :: l).length by simp)];dsimp only;rw[hqr,au (show of+1<=m by omega),c0];unfold aF at c0 ⊢;rw[ar0 us];by_cases qa : w0 = str "arena"
 ·rw[show (!(w0==[97,114,101,110,97]))=false by rw[qa];rfl];simp only[↓bz,↓ai,↓cJ,↓dO,↓aM,↓hlen];rw[dK u3];by_cases q3:(w0 :: l).length=3
  ·rw[show (!beq (w0 :: l).length 3)=false by rw[q3];rfl];obtain⟨b,c,rfl⟩:∃b c,l=[b,c]:=by
    match l,q3 with
    | [b,c],_=>exact⟨b,c,rfl⟩
   have hb':b.length<=100000:=hs b (by simp);have hc':c.length<=100000:=hs c (by simp);have c1:getF cells (of+1)=aF b:=hcell 1 (by simp);have c2:getF cells (of+2)=aF c:=hcell 2 (by simp);have hm:of+3<=m:=hm;simp only[↓aM,asQ,↓bZ,show ble 2 [w0,b,c].length=true from rfl,show ble 3 [w0,b,c].length=true from rfl,↓eP,↓co,↓aG,↓hqr];rw[au (show of+1+1<=m by omega),c1,hN b h _ hb'];simp only[↓bJ,↓bK,↓cd];rw[dK u3];have hf:cW [w0,b,c]=if (cC b).2=0 then ((cC b).1,(cC c).1,(cC c).2) else (0,0,(cC b).2):=if_pos qa
   by_cases qb:(cC b).2=0
   ·rw[hf,if_pos qb];rw[show (!beq (cC b).2 0)=false by rw[qb];rfl];simp only[↓ai,↓aM];rw[hqr,au (show of+2+1<=m by omega),c2,hN c h _ hc'];simp only[↓bJ,↓bK,↓cd];rfl
   ·rw[hf,if_neg qb];rw[show (!beq (cC b).2 0)=true by rw[fT qb];rfl];simp only[↓ai,↓aK];rfl
  ·have hf:cW (w0 :: l)=(0,0,14):=by
    unfold cW;split
    ·rename_i a b c he;rw[he] at q3;exact absurd rfl q3
    ·rfl
   rw[hf,show (!beq (w0 :: l).length 3)=true by rw[fT q3];rfl];simp only[↓aK]
 ·have hf:cW (w0 :: l)=(0,0,14):=by
   unfold cW;split
   ·rename_i a b c he;cases he;exact if_neg qa
   ·rfl
  rw[hf,show (!(w0==[97,114,101,110,97]))=true by rw[beq_eq_false_iff_ne.2 (show ¬ w0=[97,114,101,110,97] from qa)];rfl];simp only[↓bz,↓ai,↓cJ,↓eC,↓aK]
theorem t27:Ad EP 27 34 9 ((EP.info 34).getD default) aO:=⟨by kernel_rfl,by kernel_rfl,by kernel_rfl,of_decide_eq_true (by kernel_rfl),by kernel_rfl,rfl,by decide,by decide⟩
theorem u27:EP.und 27=some (.slice 34):=by kernel_rfl
def aru (rc:RC):Prop:=∀(s:Bs) (h:H) (k:Value->H->R) (X:R),s.length<=8000->h.next<=800000000->rc 21 [aF s] h k=X->∃h' v,X=k v h'/\SO h' v (bd s)/\Fr h h' 16002
def arn (rc:RC):Prop:=∀(v:Value) (w0:Bs) (l:List Bs) (h:H) (k:Value->H->R),WL h v (w0 :: l)->small (w0 :: l)->rc 22 [v] h k=k (.tuple ⟨[.int .i64 (.ofNat (cW (w0 :: l)).1),.int .i64 (.ofNat (cW (w0 :: l)).2.1),.int .i64 (.ofNat (cW (w0 :: l)).2.2)]⟩) h
def asK (rc:RC):Prop:=∀(line:Nat) (v:Value) (w0:Bs) (l:List Bs) (h:H) (k:Value->H->R) (X:R),h.next<=700000000->SO h v (w0 :: l)->small (w0 :: l)->l.length<=8000->rc 23 [.int .i64 (.ofNat line),v] h k=X->BH h (60+9*l.length) k X (fX line (w0 :: l))
def ae4:List Bs->Nat
 | []=>0
 | s :: l=>16200+9*(bd s).length+ae4 l
theorem arP:∀ls:List Bs,ae4 ls<=16200*ls.length+9*(ls.map λs=>s.length).sum
 | []=>Nat.le_refl _
 | s :: l=>by have:=arP l;have h1:=akp s;unfold ae4;simp only[List.length_cons,List.map_cons,List.sum_cons];omega
abbrev TO (hb:H) (h:H) (n:Nat) (k:Value->H->R) (K:aa [7,8,9,10,2,3,4,5,6]->H->R) (X:R) (r:PR) (ns:aa [2,3,4,5,6]):Prop:=
 (∃h' v' st' out',r=wQ [] 0 st' out'/\X=K ((Cf st').1,((Cf st').2.1,((Cf st').2.2,(v',ns)))) h'/\CL 34 h' v' out'/\(∀c,dn v'=some c->hb.next<=c)/\eU hb.next h h' n) \/
 (∃h' line er,r=(0,0,[],line,er)/\X=k (.tuple ⟨[.int .i64 (.ofNat 0),.int .i64 (.ofNat 0),.slice none 0 0,.int .i64 (.ofNat line),.int .i64 (.ofNat er)]⟩) h'/\eU hb.next h h' n)
theorem TO.step {hb h h1:H} {m n p:Nat} {k:Value->H->R} {K:aa [7,8,9,10,2,3,4,5,6]->H->R} {X:R} {r:PR} {ns:aa [2,3,4,5,6]} (f:eU hb.next h h1 m) (e:TO hb h1 n k K X r ns) (hp:m+n<=p):TO hb h p k K X r ns:=by
 rcases e with ⟨h',v',st',out',a,b,c,d,g⟩ | ⟨h',line,er,a,b,g⟩
 ·exact .inl ⟨h',v',st',out',a,b,c,d,f.trans g hp⟩
 ·exact .inr ⟨h',line,er,a,b,f.trans g hp⟩
end
section
variable {rc : RC}
def arN (ls:List Bs):Prop:=∀s∈ls,s.length<=8000
theorem auB (hW:aru rc) (hF:arn rc) (hC:asK rc) {hb:H} {ev:Value} {ls:List Bs} (o:WL hb ev ls) (hls:arN ls) (hl6:ls.length<=1000000) (k:Value->H->R) (K:aa [7,8,9,10,2,3,4,5,6]->H->R) (ns:aa [2,3,4,5,6]) (X:R):
  ∀(d i N:Nat) (h:H) (st:Option (Nat × Nat)) (out:List iq) (v:Value),i+d=ls.length->d<N->hb.next<=h.next->(∀id,id<hb.next->hget h id=hget hb id)->CL 34 h v out->(∀c,dn v=some c->hb.next<=c)->out.length<=1000->i<=1000000 ->
  h.next+ae4 (ls.drop i)<=600000000 ->
  loopF (ks:=[7,8,9,10,2,3,4,5,6,23]) (asZ EP (.int .i64 (.ofNat ls.length)) ev rc k K) N ((Cf st).1,((Cf st).2.1,((Cf st).2.2,(v,(ns.1,(ns.2.1,(ns.2.2.1,(ns.2.2.2.1,(ns.2.2.2.2.1,(.int .i64 (.ofNat i),())))))))))) h=X ->
  TO hb h (ae4 (ls.drop i)) k K X (wQ (ls.drop i) i st out) ns:=by
 have u3:=us.u3;intro d
 induction d with
 | zero=>
  intro i N h st out v hi hN hle hfr hcl hblk hout hi6 hn e;obtain⟨N,rfl⟩:∃M,N=M+1:=⟨N-1,by omega⟩;obtain rfl:i=ls.length:=by omega
  rw[ce] at e;unfold asZ at e;dsimp only at e;rw[iu u3 (Nat.le_refl _),ai] at e;rw[List.drop_length];refine .inl ⟨h,v,st,out,?_,e.symm,hcl,hblk,eU.refl _ _ _⟩;cases st <;> rfl
 | succ d ih=>
  intro i N h st out v hi hN hle hfr hcl hblk hout hi6 hn e;obtain⟨N,rfl⟩:∃M,N=M+1:=⟨N-1,by omega⟩;have hlt:i<ls.length:=by omega
  rw[ce] at e;generalize hLp:loopF (ks:=[7,8,9,10,2,3,4,5,6,23]) (asZ EP (.int .i64 (.ofNat ls.length)) ev rc k K) N=LP at e;rw[List.drop_eq_getElem_cons hlt] at hn ⊢;rw[fo];have hcost:ae4 (ls[i] :: ls.drop (i+1))=16200+9*(bd ls[i]).length+ae4 (ls.drop (i+1)):=rfl;rw[hcost] at hn ⊢;cases o with
  | nil=>exact absurd hlt (Nat.not_lt_zero _)
  | row hbk hq9 hm hcap hc=>
   rename_i bk of m cap fz op ro cells;have hq9':hget h bk=.row 9 m op ro fz cells:=(hfr _ hbk).trans hq9;have hqr:∀KK,onRow (hget h bk) KK=KK 9 m op ro fz cells:=λKK=>by rw[hq9'];rfl
   have hci:=hc i hlt;have hl1:=hls _ (List.getElem_mem hlt);generalize ls[i]'hlt=s at hci hl1 hn ⊢;unfold asZ at e;dsimp only at e;rw[km u3 hlt,ai,aK] at e;dsimp only at e;rw[ai,cn,bZ,au (show i+1<=ls.length by omega),co,aG] at e;dsimp only at e;rw[hqr,au (show of+i.mul 1+1<=m by show of+i*1+1<=m;omega),show of+i.mul 1=of+i by show of+i*1=_;omega,hci] at e;obtain⟨h1,r,e1,o1,f1⟩:=hW s h _ _ hl1 (by omega) e;replace e1:=e1.symm;have hub1:=f1.ub;have hle1:=f1.le;have fb1:eU hb.next h h1 16002:=f1.b hle;have hcl1:CL 34 h1 v out:=hcl.fr f1;rw[cJ] at e1;have hlen1:=λK=>kS (E:=EP) (h':=h1) o1.wl tn.u30 K;have hadd:∀KK:Value->R,binR (binC EP .add 3 false true) (.int .i64 (.ofNat i)) (.int .i64 (.ofNat 1)) KK=KK (.int .i64 (.ofNat (i+1))):=λKK=>dl u3 (by omega);rw[hlen1] at e1;have hwl:(bd s).length<=8000:=by have:=akp s;omega
   have hsm:small (bd s):=λx hx=>by have:=ig s [] x hx;simp at this;omega
   have hskip:bX s=[]->X=LP ((Cf st).1,((Cf st).2.1,((Cf st).2.2,(v,(ns.1,(ns.2.1,(ns.2.2.1,(ns.2.2.2.1,(ns.2.2.2.2.1,(.int .i64 (.ofNat (i+1)),())))))))))) h1->TO hb h (16200+9*(bd s).length+ae4 (ls.drop (i+1))) k K X (wQ (ls.drop (i+1)) (i+1) st out) ns:=λhw e1=>by rw[<-hLp] at e1;exact (ih (i+1) N h1 st out v (by omega) (by omega) (by omega) (λid hid=>(fb1.old id hid).trans (hfr id hid)) hcl1 hblk hout (by omega) (by omega) e1.symm).step fb1 (by omega)
   cases hww:bd s with
   | nil=>
    have hw:bX s=[]:=by unfold bX;rw[hww]
    rw[hww] at e1 hskip;rw[sq u3 (show ([]:List Bs).length=0 from rfl)] at e1;simp only[↓bz,↓ai,↓eC,↓aK,↓hadd] at e1;rw[if_pos hw];exact hskip hw e1.symm
   | cons w0 l=>
    rw[hww] at e1 o1 hskip hwl hsm hn;rw[oh u3 (show (w0 :: l).length≠0 by simp)] at e1;have hne:w0 ≠ []:=jk s [] w0 (by show w0∈bd s;rw[hww];exact List.mem_cons_self ..);obtain⟨b0,w0',rfl⟩:∃b w,w0=b :: w:=by
     cases w0 with
     | nil=>exact absurd rfl hne
     | cons b w=>exact⟨b,w,rfl⟩
    have ow:=o1.wl;obtain⟨bk1,of1,m1,cap1,fz1,op1,ro1,na,hb1,hq1,hm1,hc1,hv1⟩:∃bk of m cap fz op ro cells,bk<h1.next/\hget h1 bk=.row 9 m op ro fz cells/\of+1<=m/\getF cells of=aF (b0 :: w0')/\r=.slice (some ⟨bk,of,none⟩) ((b0 :: w0') :: l).length cap:=by
     cases ow with
     | row hb hq hm hcap hc=>exact⟨_,_,_,_,_,_,_,_,hb,hq,by simp at hm;omega,hc 0 (by simp),rfl⟩
    have hqr1:∀KK,onRow (hget h1 bk1) KK=KK 9 m1 op1 ro1 fz1 na:=λKK=>by rw[hq1];rfl
    have hix:∀KK,bindO (dD EP 9 (aF (b0 :: w0')) (.int .i64 (.ofNat 0))) KK=KK (gd b0):=λKK=>by unfold aF;rw[we us (kd:=.i64) (b:=b0) rfl];rfl
    simp only[↓bz,↓ai,↓dO,↓aM] at e1;rw[hv1,bZ,au (show 1<=((b0 :: w0') :: l).length by simp),aG] at e1;dsimp only at e1;rw[hqr1,au (show of1+1<=m1 by omega),hc1,hix] at e1;unfold gd at e1;rw[gv us.u5,<-hv1] at e1;by_cases qhd:b0=35
    ·have hw:bX s=[]:=by unfold bX;rw[hww];subst qhd;rfl
     rw[show beq b0.toNat 35=true by rw[qhd];rfl] at e1;simp only[↓aK,↓hadd] at e1;rw[if_pos hw];exact hskip hw e1.symm
    ·have hlw:bX s=(b0 :: w0') :: l:=by unfold bX;rw[hww];exact if_neg λee=>qhd (Option.some.inj ee)
     rw[fT (show b0.toNat≠35 from λee=>qhd (UInt8.toNat_inj.1 ee)),aM] at e1;rw[hlw,if_neg (by simp)];cases st with
     | none=>
      simp only[↓ai,ate,↓aM,Cf] at e1;rw[hF r (b0 :: w0') l h1 _ ow hsm] at e1;simp only[↓bJ,↓bK,↓cd,↓ly,asy] at e1;rw[dK u3] at e1;dsimp only;by_cases q:(cW ((b0 :: w0') :: l)).2.2=0
      ·rw[if_pos q];rw[show (!beq (cW ((b0 :: w0') :: l)).2.2 0)=false by rw[q];rfl] at e1;simp only[↓ai,↓aM,↓hadd] at e1;rw[<-hLp] at e1;exact (ih (i+1) N h1 (some ((cW ((b0 :: w0') :: l)).1,(cW ((b0 :: w0') :: l)).2.1)) out v (by omega) (by omega) (by omega) (λid hid=>(fb1.old id hid).trans (hfr id hid)) hcl1 hblk hout (by omega) (by omega) e1).step fb1 (by omega)
      ·rw[if_neg q];rw[show (!beq (cW ((b0 :: w0') :: l)).2.2 0)=true by rw[fT q];rfl] at e1;simp only[↓ai,↓aK,↓hadd] at e1;rw[dF (c:=nT _) rfl] at e1;exact .inr ⟨h1,i+1,_,rfl,e1.symm,fb1.mono (by omega)⟩
     | some ck=>
      simp only[↓ai,ate,↓aK,Cf,↓cJ] at e1;rw[tJ u27 (h':=h1) hcl1] at e1;dsimp only;by_cases q1:1000<=out.length
      ·rw[if_pos q1];rw[sq u3 (show out.length=1000 by omega)] at e1;simp only[↓aK,asy] at e1;rw[dK u3,show (!beq 15 0)=true from rfl] at e1;simp only[↓ai,↓aK,↓hadd] at e1;rw[dF (c:=nT _) rfl] at e1;exact .inr ⟨h1,i+1,15,rfl,e1.symm,fb1.mono (by omega)⟩
      ·rw[if_neg q1];rw[oh u3 (show out.length≠1000 by omega)] at e1;simp only[↓aM] at e1;rw[hadd] at e1;rw[List.length_cons] at hwl hn;have hend:=hC (i+1) r (b0 :: w0') l h1 _ _ (by omega) o1 hsm (by omega) e1;have hz:([.int .i64 (.ofNat 0),.int .u8 (.ofNat 0),.string (ByteArray.mk #[]),.slice none 0 0,.int .i64 (.ofNat 0),.int .i64 (.ofNat 0),.int .i64 (.ofNat 0),.int .u8 (.ofNat 0),.slice none 0 0]:List Value)=aO:=rfl;have hvb:dn v=none \/ ∃c,dn v=some c/\c<h1.next:=by
        cases hh:dn v with
        | none=>exact .inl rfl
        | some c=>exact .inr ⟨c,rfl,hcl1.blk _ hh⟩
       cases hcmd:fX (i+1) ((b0 :: w0') :: l) with
       | ok y=>
        rw[hcmd] at hend;obtain⟨h3,on,tx,f3,e3,s1,s2⟩:=hend;replace e3:=e3.symm;have hub3:=f3.ub;have hle3:=f3.le;simp only[↓bJ,↓bK,↓cd,↓bC] at e3;rw[au (show h3.1<=1000000000 by show h3.next<=_;omega),aJ] at e3;simp only[mZ] at e3;rw[hz] at e3;have f2:Fr h3 (ag h3 (.row 34 9 false false 0 (T.ofList unk aO))) 1:=Fr.push _ (by omega);have e2:hget (ag h3 (.row 34 9 false false 0 (T.ofList unk aO))) h3.next=.row 34 9 false false 0 (T.ofList unk aO):=aD _ _ (by omega);have n2:(ag h3 (.row 34 9 false false 0 (T.ofList unk aO))).next=h3.next+1:=rfl;generalize ag h3 (.row 34 9 false false 0 (T.ofList unk aO))=h2 at e3 f2 e2 n2;have s1':=s1.keep f2.le λc _ hl=>f2.old c hl;have s2':=s2.keep f2.le λc _ hl=>f2.old c hl;rw[show h3.1=h3.next from rfl,AV e2 rfl (j4 s1 s2)] at e3;have cv:=CV.whole (by omega) (by omega) e2 s1' s2';have hvb3:dn v≠some h3.next:=λee=>by
         rcases hvb with hh | ⟨c,hh,hc⟩
         ·rw[hh] at ee;exact nomatch ee
         ·rw[hh] at ee;cases ee;omega
        have hcl4:CL 34 (hset h2 h3.next (.row 34 9 false false 0 (putF (T.ofList unk aO) 0 (dJ y on tx)))) v out:=((hcl1.fr f3).fr f2).set (by omega) e2 (by decide) hvb3 _;have e44:hget (hset h2 h3.next (.row 34 9 false false 0 (putF (T.ofList unk aO) 0 (dJ y on tx)))) h3.next=.row 34 9 false false 0 (putF (T.ofList unk aO) 0 (dJ y on tx)):=cm _ _ _ (by omega);have s14:=cv.s1;have s24:=cv.s2;have n4:(hset h2 h3.next (.row 34 9 false false 0 (putF (T.ofList unk aO) 0 (dJ y on tx)))).next=h2.next:=rfl;have fb4:eU hb.next h2 (hset h2 h3.next (.row 34 9 false false 0 (putF (T.ofList unk aO) 0 (dJ y on tx)))) 0:=eU.set (by omega) (by omega) _;have hfb3:eU hb.next h h2 (16002+(60+9*l.length)+1):=(fb1.trans (f3.b (by omega)) (Nat.le_refl _)).trans (f2.b (by omega)) (Nat.le_refl _);have hcp:ac (putF (T.ofList unk aO) 0 (dJ y on tx)) 9 0=dJ y on tx:=jj _ rfl;generalize hset h2 h3.next (.row 34 9 false false 0 (putF (T.ofList unk aO) 0 (dJ y on tx)))=h4 at e3 hcl4 e44 s14 s24 n4 fb4;have hqr4:∀KK,onRow (hget h4 h3.next) KK=KK 34 9 false false 0 (putF (T.ofList unk aO) 0 (dJ y on tx)):=λKK=>by rw[e44];rfl
        rw[hqr4,dF (c:=ble 9 9) rfl,hcp] at e3;have hfill:=ans s14 s24;rw[hfill] at e3;simp only[↓ke] at e3;rw[au (show h4.1<=1000000000 by show h4.next<=_;omega),aJ] at e3;have hall1:(dJ y on tx).all cell1=true:=by
         have h1:=j4 s14 s24;rw[List.all_eq_true] at h1 ⊢;intro v hv;have:=h1 v hv
         revert this
         cases v <;> intro this <;> first | rfl | exact this
        obtain⟨v',h5,e5,n5,b5,f5,c5⟩:=qh t27 (by decide) hcl4 (by omega) (by omega) (xs:=dJ y on tx) rfl hall1;rw[kv (show bu EP (ag h4 (.row 34 9 false false 0 (T.ofList unk (dJ y on tx)))) .append [v,.slice (some (Addr.mk h4.1 0 none)) 1 2] [27,27]=some (v',h5) from e5)] at e3;simp only[asy] at e3;rw[dK u3,show (!beq 0 0)=false from rfl] at e3;simp only[↓ai,↓aM,↓hadd] at e3;rw[<-hLp] at e3;have fb5:eU hb.next h4 h5 2:=⟨by omega,by omega,λid hid=>f5 id (by omega) λee=>by have:=hblk _ ee;omega⟩;have hfb5:eU hb.next h h5 (16002+(60+9*l.length)+1+2):=(hfb3.trans fb4 (Nat.le_refl _)).trans fb5 (by omega);have key:=ih (i+1) N h5 (some ck) (out ++ [y]) v' (by omega) (by omega) (by omega) (λid hid=>(hfb5.old id hid).trans (hfr id hid)) (c5 y on tx rfl s14 s24) (λc hc=>by rw[b5] at hc;cases hc;omega) (by simp;omega) (by omega) (by omega) e3;exact key.step hfb5 (by rw[List.length_cons];omega)
       | error er=>
        rw[hcmd] at hend;obtain⟨hne',h3,f3,e3⟩:=hend;replace e3:=e3.symm;have hub3:=f3.ub;have hle3:=f3.le;simp only[↓bJ,↓bK,↓cd,↓bC] at e3;rw[au (show h3.1<=1000000000 by show h3.next<=_;omega),aJ] at e3;simp only[mZ] at e3;rw[hz] at e3;have f2:Fr h3 (ag h3 (.row 34 9 false false 0 (T.ofList unk aO))) 1:=Fr.push _ (by omega);have e2:hget (ag h3 (.row 34 9 false false 0 (T.ofList unk aO))) h3.next=.row 34 9 false false 0 (T.ofList unk aO):=aD _ _ (by omega);have n2:(ag h3 (.row 34 9 false false 0 (T.ofList unk aO))).next=h3.next+1:=rfl;generalize ag h3 (.row 34 9 false false 0 (T.ofList unk aO))=h2 at e3 f2 e2 n2;rw[show h3.1=h3.next from rfl,AV e2 rfl rfl] at e3;have hvb3:dn v≠some h3.next:=λee=>by
         rcases hvb with hh | ⟨c,hh,hc⟩
         ·rw[hh] at ee;exact nomatch ee
         ·rw[hh] at ee;cases ee;omega
        have hcl4:CL 34 (hset h2 h3.next (.row 34 9 false false 0 (putF (T.ofList unk aO) 0 aO))) v out:=((hcl1.fr f3).fr f2).set (by omega) e2 (by decide) hvb3 _;have e44:hget (hset h2 h3.next (.row 34 9 false false 0 (putF (T.ofList unk aO) 0 aO))) h3.next=.row 34 9 false false 0 (putF (T.ofList unk aO) 0 aO):=cm _ _ _ (by omega);have n4:(hset h2 h3.next (.row 34 9 false false 0 (putF (T.ofList unk aO) 0 aO))).next=h2.next:=rfl;have fb4:eU hb.next h2 (hset h2 h3.next (.row 34 9 false false 0 (putF (T.ofList unk aO) 0 aO))) 0:=eU.set (by omega) (by omega) _;have hfb3:eU hb.next h h2 (16002+(60+9*l.length)+1):=(fb1.trans (f3.b (by omega)) (Nat.le_refl _)).trans (f2.b (by omega)) (Nat.le_refl _);have hcp:ac (putF (T.ofList unk aO) 0 aO) 9 0=aO:=jj _ rfl;generalize hset h2 h3.next (.row 34 9 false false 0 (putF (T.ofList unk aO) 0 aO))=h4 at e3 hcl4 e44 n4 fb4;have hqr4:∀KK,onRow (hget h4 h3.next) KK=KK 34 9 false false 0 (putF (T.ofList unk aO) 0 aO):=λKK=>by rw[e44];rfl
        rw[hqr4,dF (c:=ble 9 9) rfl,hcp,Sp] at e3;simp only[↓ke] at e3;rw[au (show h4.1<=1000000000 by show h4.next<=_;omega),aJ] at e3;obtain⟨v',h5,e5,n5,b5,f5,c5⟩:=qh t27 (by decide) hcl4 (by omega) (by omega) (xs:=aO) rfl rfl;rw[kv (show bu EP (ag h4 (.row 34 9 false false 0 (T.ofList unk aO))) .append [v,.slice (some (Addr.mk h4.1 0 none)) 1 2] [27,27]=some (v',h5) from e5)] at e3;simp only[asy] at e3;rw[dK u3,show (!beq er 0)=true by rw[fT hne'];rfl] at e3;simp only[↓ai,↓aK,↓hadd] at e3;rw[dF (c:=nT _) rfl] at e3;have fb5:eU hb.next h4 h5 2:=⟨by omega,by omega,λid hid=>f5 id (by omega) λee=>by have:=hblk _ ee;omega⟩;have hfb5:eU hb.next h h5 (16002+(60+9*l.length)+1+2):=(hfb3.trans fb4 (Nat.le_refl _)).trans fb5 (by omega);exact .inr ⟨h5,i+1,er,rfl,e3.symm,hfb5.mono (by rw[List.length_cons];omega)⟩
end
section
variable {rc : RC}
def aso (rc:RC):Prop:=∀(s:Bs) (h:H) (k:Value->H->R) (X:R),s.length<=8000->h.next<=800000000->rc 20 [aF s] h k=X->∃h' v,X=k v h'/\SO h' v (aR s)/\Fr h h' 16002
theorem avJ (hL:aso rc) (hW:aru rc) (hF:arn rc) (hC:asK rc) {s:Bs} (hs:s.length<=8000) {h:H} (hn:h.next<=300000000) (k:Value->H->R) (X:R) (e:p8 EP rc (aF s) h k=X):rz 34 h.next h 200000000 k X (eB s):=by
 have u3:=us.u3;have hlen:∀KK,bindO (bv EP h 9 (aF s)) KK=KK (.int .i64 (.ofNat s.length)):=λKK=>by unfold aF;rw[nS us];rfl
 unfold p8 at e;rw[hlen] at e;unfold eB;rw[if_neg (by omega)];rw[lG u3 (by omega)] at e;simp only[↓ai,↓aM] at e;obtain⟨h1,v,e1,o,f⟩:=hL s h _ _ hs (by omega) e;replace e1:=e1.symm;rw[cJ] at e1;rw[kS (E:=EP) (h':=h1) o.wl tn.u30] at e1;have hub:=f.ub;have hle:=f.le;have hll:=xz s;have hcost:=arP (aR s);have hsum:=kW s;have hok:arN (aR s):=λx hx=>by have:=ark s x hx;omega
 have key:=auB hW hF hC (hb:=h1) o.wl hok (by omega) k _ (.int .i64 (.ofNat 0),(.int .i64 (.ofNat 0),(.slice none 0 0,(.int .i64 (.ofNat 0),(.int .i64 (.ofNat 0),()))))) X (aR s).length 0 ft h1 none [] (.slice none 0 0) (by omega) (by unfold ft;omega) (Nat.le_refl _) (λ_ _=>rfl) CL.nil (λc hc=>nomatch hc) (Nat.zero_le _) (Nat.zero_le _) (by rw[List.drop_zero];omega) e1;rw[List.drop_zero] at key;rcases key with ⟨h',v',st',out',hr,hx,hc,hb,hf⟩ | ⟨h',line,er,hr,hx,hf⟩
 ·rw[hr];have fr:eU h.next h h' 200000000:=(f.b (Nat.le_refl _)).trans (⟨hf.le,hf.ub,λid hid=>hf.old id (by omega)⟩:eU h.next h1 h' (ae4 (aR s))) (by omega);cases st' with
  | none=> simp only[Cf,↓aM] at hx;exact⟨h',.slice none 0 0,fr,hx,CL.nil,λc hc=>nomatch hc⟩
  | some ck=>
   simp only[Cf,↓aK] at hx;unfold atv at hx
   rw[dF (c:=nT _) (by
    obtain⟨L,ol,_⟩:=hc
    rcases ol.form with ⟨rfl,_⟩ | ⟨b,c,cells,op,rfl,_⟩ <;> rfl)] at hx
   exact⟨h',v',fr,hx,hc,λc hc=>by have:=hb c hc;omega⟩
 ·rw[hr];have fr:eU h.next h h' 200000000:=(f.b (Nat.le_refl _)).trans (⟨hf.le,hf.ub,λid hid=>hf.old id (by omega)⟩:eU h.next h1 h' (ae4 (aR s))) (by omega);exact⟨h',.slice none 0 0,fr,hx,CL.nil,λc hc=>nomatch hc⟩
end
end Go.Ev
