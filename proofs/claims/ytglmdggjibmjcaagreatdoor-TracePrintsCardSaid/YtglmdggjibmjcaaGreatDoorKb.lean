/-
  THE EVALUATOR's TABLES ARE RIGHT.
-/
import Derived.Test.YtglmdggjibmjcaaGreatDoorKa
import Derived.ClosedOfChecked
noncomputable section
set_option linter.unusedVariables false
set_option linter.unusedSimpArgs false
set_option maxRecDepth 1000000
open Nat (ble beq)
namespace Go.Ev
open Go F Go.Proofs
theorem zD {b:Bool} {α:Type} {x y z:α} (h:Bool.rec (motive:=λ_=>α) x y b=z):(b=false/\x=z) \/ (b=true/\y=z):=by cases b <;> simp_all
theorem xf {t:TypeId} {i:TypeInfo} (h:me.get t=some i):Kw t=some i:=by
 rcases rC none 10 Kw t with e | e
 ·exact e.symm.trans h
 ·exact nomatch e.symm.trans h
theorem FI (t:TypeId) (i:TypeInfo) (h:me.get t=some i):Tryz.prog.info? t=some i:=by
 rcases zD (xf h) with ⟨_,e⟩ | ⟨_,e⟩
 ·have hl:t<Tryz.prog.types.size:=(Array.getElem?_eq_some_iff.1 e).1;rw[ClosedOfChecked.info_lt hl];exact e
 ·exact nomatch e
theorem Cm (t:TypeId) (i:TypeInfo) (h:me.get t=some i):Tryz.prog.types[t]?=some i:=by
 rcases zD (xf h) with ⟨_,e⟩ | ⟨_,e⟩
 ·exact e
 ·exact nomatch e
def eR (n:Nat) (p:Nat->Bool):Bool:=Nat.rec (motive:=λ_=>Bool) true (λi ih=>Bool.rec (motive:=λ_=>Bool) false ih (p i)) n
theorem gW {p:Nat->Bool}:∀{n:Nat},eR n p=true->∀i,i<n->p i=true
 | 0,_,i,hi=>absurd hi (Nat.not_lt_zero i)
 | n+1,h,i,hi=>by
  have h:Bool.rec (motive:=λ_=>Bool) false (eR n p) (p n)=true:=h;rcases zD h with ⟨_,e⟩ | ⟨e0,e⟩
  ·exact nomatch e
  ·rcases Nat.lt_or_ge i n with q | q
   ·exact gW e i q
   ·rw[Nat.le_antisymm (Nat.le_of_lt_succ hi) q];exact e0
def okZ (t:Nat):Bool:=match Kw t with
 | some i=>(match i.zero with | some z=>plain z | none=>true)
 | none=>true
theorem AT:eR 675 okZ=true:=by kernel_rfl
theorem amz:Tryz.prog.types.size=675:=by kernel_rfl
theorem BS (t:TypeId) (i:TypeInfo) (z:Value) (h:me.get t=some i) (hz:i.zero=some z):plain z=true:=by
 have h1:=xf h;have h2:=Cm t i h;have h3:t<675:=by rw[<-amz];exact (Array.getElem?_eq_some_iff.1 h2).1
 have:=gW AT t h3;unfold okZ at this;rw[h1] at this;simp only[hz] at this;exact this
theorem yL {i:Nat}:∀{l:List Nat},tE i l=true->i∈l
 | [],h=>nomatch h
 | a :: l,h=>by
  have h:Bool.rec (motive:=λ_=>Bool) (tE i l) true (beq a i)=true:=h;rcases zD h with ⟨_,e⟩ | ⟨e0,_⟩
  ·exact List.mem_cons_of_mem _ (yL e)
  ·rw[Nat.eq_of_beq_eq_true e0];exact List.mem_cons_self
theorem XR (t:TypeId) (h:tE t eqL=true):Tryz.prog.stoodInHeld t=false/\Tryz.prog.eqGuardType Tryz.prog.depth t=false:=by
 have h:=yL h;simp only[eqL,List.mem_cons,List.not_mem_nil,or_false] at h;rcases h with rfl | rfl | rfl | rfl | rfl | rfl
 ·exact⟨by kernel_rfl,by kernel_rfl⟩
 ·exact⟨by kernel_rfl,by kernel_rfl⟩
 ·exact⟨by kernel_rfl,by kernel_rfl⟩
 ·exact⟨by kernel_rfl,by kernel_rfl⟩
 ·exact⟨by kernel_rfl,by kernel_rfl⟩
 ·exact⟨by kernel_rfl,by kernel_rfl⟩
theorem nY (f:FuncId) (fn:Func) (h:sD.get f=some fn):Tryz.prog.funcs[f]?=some fn:=by
 rcases rC none 10 (λi=>Tryz.prog.funcs[i]?) f with e | e
 ·exact e.symm.trans h
 ·exact nomatch e.symm.trans h
theorem Zs:Tryz.prog.funcs.size=690:=by kernel_rfl
theorem Cf:Tryz.prog.follows .mixedOrders=true:=by kernel_rfl
def FA (f:Nat):Func:=(Tryz.prog.funcs[f]?).getD default
theorem n305:eu Tryz.prog 55 Extern.AbiNoEscape.same:=⟨FA 55,by kernel_rfl,by kernel_rfl,by kernel_rfl,by kernel_rfl,by kernel_rfl⟩
theorem n306:eu Tryz.prog 99 (Extern.BytealgMakeNoZero.makeNoZero #[3] #[42]):=⟨FA 99,by kernel_rfl,by kernel_rfl,by kernel_rfl,by kernel_rfl,by kernel_rfl⟩
theorem axe:eu Tryz.prog 512 (Extern.SlicesOverlaps.overlaps #[397,397] #[4]):=⟨FA 512,by kernel_rfl,by kernel_rfl,by kernel_rfl,by kernel_rfl,by kernel_rfl⟩
def SX (t:Nat):TypeInfo:=(Tryz.prog.types[t]?).getD default
def Sq:TypeId:=match Tryz.prog.underlying 397 with | some (.slice e)=>e | _=>0
theorem awW:dt Tryz.prog 55 gD:=tr n305
theorem awU:dt Tryz.prog 99 (fu 5):=qa (i:=SX 5) n306 (by kernel_rfl) (by kernel_rfl) (by kernel_rfl)
theorem awN:dt Tryz.prog 512 gx:=vF (el:=Sq) (i:=SX Sq) axe (by kernel_rfl) (by kernel_rfl)
def DG (f:Nat):Bool:=match Tryz.prog.funcs[f]? with
 | some fn=>(match fn.body with | some c=>eI (λr=>Db r (uS.get f)) bN fn.ntmps c | none=>true)
 | none=>true
def okN (f:Nat):Bool:=match Tryz.prog.funcs[f]? with
 | some fn=> !(fn.name== "runtime.NumGoroutine")&&ble fn.ntmps 1000000000
 | none=>true
theorem awc:eR 690 okN=true:=by kernel_rfl
theorem c0:eR 100 (λi=>DG (Nat.add 0 i))=true:=by kernel_rfl
theorem c1:eR 100 (λi=>DG (Nat.add 100 i))=true:=by kernel_rfl
theorem c2:eR 100 (λi=>DG (Nat.add 200 i))=true:=by kernel_rfl
theorem c3:eR 100 (λi=>DG (Nat.add 300 i))=true:=by kernel_rfl
theorem c4:eR 100 (λi=>DG (Nat.add 400 i))=true:=by kernel_rfl
theorem c5:eR 100 (λi=>DG (Nat.add 500 i))=true:=by kernel_rfl
theorem c6:eR 90 (λi=>DG (Nat.add 600 i))=true:=by kernel_rfl
theorem OQ (f:Nat) (h:f<690):DG f=true:=by
 have g:∀k n,eR n (λi=>DG (Nat.add k i))=true->k<=f->f<k+n->DG f=true:=by
  intro k n ha h1 h2;have:=gW ha (f-k) (by omega);have e:Nat.add k (f-k)=f:=by show k+(f-k)=f;omega
  rw[e] at this;exact this
 have h6:(0<=f/\f<100) \/ (100<=f/\f<200) \/ (200<=f/\f<300) \/ (300<=f/\f<400) \/ (400<=f/\f<500) \/ (500<=f/\f<600) \/ (600<=f/\f<690):=by omega
 rcases h6 with ⟨h1,h2⟩ | ⟨h1,h2⟩ | ⟨h1,h2⟩ | ⟨h1,h2⟩ | ⟨h1,h2⟩ | ⟨h1,h2⟩ | ⟨h1,h2⟩
 ·exact g 0 100 c0 h1 h2
 ·exact g 100 100 c1 h1 h2
 ·exact g 200 100 c2 h1 h2
 ·exact g 300 100 c3 h1 h2
 ·exact g 400 100 c4 h1 h2
 ·exact g 500 100 c5 h1 h2
 ·exact g 600 90 c6 h1 h2
theorem BO {f:FuncId} {fn:Func} (h:sD.get f=some fn):f<690:=by rw[<-Zs];exact (Array.getElem?_eq_some_iff.1 (nY f fn h)).1
theorem fF (t:ak) (ht:∀f k,t.get f=some k->dt Tryz.prog f k):fq Tryz.prog (EX t) bN where
 types:=FI
 zeros:=BS
 eqs:=XR
 funs:=nY
 names:=λf fn h _=>by have:=gW awc f (BO h);unfold okN at this;rw[nY f fn h] at this;simp only[Bool.and_eq_true,Bool.not_eq_true'] at this;exact⟨this.1,Nat.le_of_ble_eq_true this.2⟩
 codes:=λf fn c h _ hb=>by have:=OQ f (BO h);unfold DG at this;rw[nY f fn h] at this;simp only[hb] at this;exact this
 mixed:=Cf
 ext:=λf fn k _ hk=>ht f k hk
def aI (t:ak):Prop:=∀f k,t.get f=some k->dt Tryz.prog f k
theorem ay {t:ak} (ht:aI t) {f:FuncId} (hf:f<1000) {k:List Value->H->Option (Value × H)} (hk:dt Tryz.prog f k):aI (t.ins 40 f (some k)):=by
 intro g k' h;rw[T.get_ins _ _ _ _ _ (Nat.lt_of_lt_of_le (Nat.succ_lt_succ hf) (Nat.le_of_ble_eq_true rfl))] at h;by_cases e:g=f
 ·rw[if_pos e] at h;cases h;rw[e];exact hk
 ·rw[if_neg e] at h;exact ht g k' h
theorem Mo:aI (T.c none):=λ_ _ h=>nomatch h
theorem Ad:aI kw:=ay (ay (ay Mo (by decide) awW) (by decide) awU) (by decide) awN
theorem fy:fq Tryz.prog EE bN:=fF kw Ad
end Go.Ev
