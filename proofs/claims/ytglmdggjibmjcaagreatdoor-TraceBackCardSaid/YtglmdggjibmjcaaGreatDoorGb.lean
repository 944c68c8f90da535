/-
  THE EVALUATOR's TABLES ARE RIGHT.
-/
import Derived.Test.YtglmdggjibmjcaaGreatDoorGa
import Derived.ClosedOfChecked
noncomputable section
set_option linter.all false
set_option maxRecDepth 1000000
open Nat (ble beq)
namespace Go.Ev
open Go F Go.Proofs
def CK {b:Bool} {α:Type} {x y z:α} (h:Bool.rec (motive:=λ_=>α) x y b=z):(b=false/\x=z) \/ (b=true/\y=z):=by cases b <;> simp_all
def zM {t:TypeId} {i:TypeInfo} (h:mI.get t=some i):N9 t=some i:=by
 rcases uo none 10 N9 t with e | e
 ·exact e.symm.trans h
 ·exact nomatch e.symm.trans h
def HT (t:TypeId) (i:TypeInfo) (h:mI.get t=some i):Tryz.prog.info? t=some i:=by
 rcases CK (zM h) with ⟨_,e⟩ | ⟨_,e⟩
 ·have hl:t<Tryz.prog.types.size:=(Jw.1 e).1;rw[ClosedOfChecked.info_lt hl];exact e
 ·exact nomatch e
def IE (t:TypeId) (i:TypeInfo) (h:mI.get t=some i):Tryz.prog.types[t]?=some i:=by
 rcases CK (zM h) with ⟨_,e⟩ | ⟨_,e⟩
 ·exact e
 ·exact nomatch e
def fK (n:Nat) (p:Nat->Bool):Bool:=Nat.rec (motive:=λ_=>Bool) true (λi ih=>Bool.rec (motive:=λ_=>Bool) false ih (p i)) n
def iM {p:Nat->Bool}:∀{n:Nat},fK n p=true->∀i,i<n->p i=true
 | 0,_,i,hi=>absurd hi (Jy i)
 | n+1,h,i,hi=>by
  have h:Bool.rec (motive:=λ_=>Bool) false (fK n p) (p n)=true:=h;rcases CK h with ⟨_,e⟩ | ⟨e0,e⟩
  ·exact nomatch e
  ·rcases Nat.lt_or_ge i n with q | q
   ·exact iM e i q
   ·rw[Nat.le_antisymm (Nat.le_of_lt_succ hi) q];exact e0
def okZ (t:Nat):Bool:=match N9 t with
 | some i=>(match i.zero with | some z=>plain z | none=>true)
 | none=>true
def C1:fK 675 okZ=true:=by kernel_rfl
def ajK:Tryz.prog.types.size=675:=by kernel_rfl
def Fv (t:TypeId) (i:TypeInfo) (z:Value) (h:mI.get t=some i) (hz:i.zero=some z):plain z=true:=by
 have h1:=zM h;have h2:=IE t i h;have h3:t<675:=by rw[<-ajK];exact (Jw.1 h2).1
 have:=iM C1 t h3;unfold okZ at this;rw[h1] at this;simp only[hz] at this;exact this
def Bg {i:Nat}:∀{l:List Nat},yn i l=true->i∈l
 | [],h=>nomatch h
 | a :: l,h=>by
  have h:Bool.rec (motive:=λ_=>Bool) (yn i l) true (beq a i)=true:=h;rcases CK h with ⟨_,e⟩ | ⟨e0,_⟩
  ·exact JG _ (Bg e)
  ·rw[I8 e0];exact Jq
def Y2 (t:TypeId) (h:yn t eqL=true):Tryz.prog.stoodInHeld t=false/\Tryz.prog.eqGuardType Tryz.prog.depth t=false:=by
 have h:=Bg h;simp only[eqL,Jr,List.not_mem_nil,or_false] at h;rcases h with rfl | rfl | rfl | rfl | rfl | rfl
 ·exact⟨by kernel_rfl,by kernel_rfl⟩
 ·exact⟨by kernel_rfl,by kernel_rfl⟩
 ·exact⟨by kernel_rfl,by kernel_rfl⟩
 ·exact⟨by kernel_rfl,by kernel_rfl⟩
 ·exact⟨by kernel_rfl,by kernel_rfl⟩
 ·exact⟨by kernel_rfl,by kernel_rfl⟩
def pE (f:FuncId) (fn:Func) (h:tE.get f=some fn):Tryz.prog.funcs[f]?=some fn:=by
 rcases uo none 10 (λi=>Tryz.prog.funcs[i]?) f with e | e
 ·exact e.symm.trans h
 ·exact nomatch e.symm.trans h
def adf:Tryz.prog.funcs.size=690:=by kernel_rfl
def FA:Tryz.prog.follows .mixedOrders=true:=by kernel_rfl
def Fo (f:Nat):Func:=(Tryz.prog.funcs[f]?).getD default
def n305:eW Tryz.prog 55 Extern.AbiNoEscape.same:=⟨Fo 55,by kernel_rfl,by kernel_rfl,by kernel_rfl,by kernel_rfl,by kernel_rfl⟩
def n306:eW Tryz.prog 99 (Extern.BytealgMakeNoZero.makeNoZero #[3] #[42]):=⟨Fo 99,by kernel_rfl,by kernel_rfl,by kernel_rfl,by kernel_rfl,by kernel_rfl⟩
def awz:eW Tryz.prog 512 (Extern.SlicesOverlaps.overlaps #[397,397] #[4]):=⟨Fo 512,by kernel_rfl,by kernel_rfl,by kernel_rfl,by kernel_rfl,by kernel_rfl⟩
def UF (t:Nat):TypeInfo:=(Tryz.prog.types[t]?).getD default
def Vg:TypeId:=match Tryz.prog.underlying 397 with | some (.slice e)=>e | _=>0
def av2:dC Tryz.prog 55 iv:=xW n305
def awi:dC Tryz.prog 99 (gn 5):=rU (i:=UF 5) n306 (by kernel_rfl) (by kernel_rfl) (by kernel_rfl)
def aw3:dC Tryz.prog 512 ix:=xJ (el:=Vg) (i:=UF Vg) awz (by kernel_rfl) (by kernel_rfl)
def HA (f:Nat):Bool:=match Tryz.prog.funcs[f]? with
 | some fn=>(match fn.body with | some c=>fu (λr=>Ge r (vZ.get f)) ce fn.ntmps c | none=>true)
 | none=>true
def okN (f:Nat):Bool:=match Tryz.prog.funcs[f]? with
 | some fn=> !(fn.name== "runtime.NumGoroutine")&&ble fn.ntmps 1000000000
 | none=>true
def aw5:fK 690 okN=true:=by kernel_rfl
def c0:fK 100 (λi=>HA (Nat.add 0 i))=true:=by kernel_rfl
def c1:fK 100 (λi=>HA (Nat.add 100 i))=true:=by kernel_rfl
def c2:fK 100 (λi=>HA (Nat.add 200 i))=true:=by kernel_rfl
def c3:fK 100 (λi=>HA (Nat.add 300 i))=true:=by kernel_rfl
def c4:fK 100 (λi=>HA (Nat.add 400 i))=true:=by kernel_rfl
def c5:fK 100 (λi=>HA (Nat.add 500 i))=true:=by kernel_rfl
def c6:fK 90 (λi=>HA (Nat.add 600 i))=true:=by kernel_rfl
def So (f:Nat) (h:f<690):HA f=true:=by
 have g:∀k n,fK n (λi=>HA (Nat.add k i))=true->k<=f->f<k+n->HA f=true:=by
  intro k n ha h1 h2;have:=iM ha (f-k) (by omega);have e:Nat.add k (f-k)=f:=by show k+(f-k)=f;omega
  rw[e] at this;exact this
 have h6:(0<=f/\f<100) \/ (100<=f/\f<200) \/ (200<=f/\f<300) \/ (300<=f/\f<400) \/ (400<=f/\f<500) \/ (500<=f/\f<600) \/ (600<=f/\f<690):=by omega
 rcases h6 with ⟨h1,h2⟩ | ⟨h1,h2⟩ | ⟨h1,h2⟩ | ⟨h1,h2⟩ | ⟨h1,h2⟩ | ⟨h1,h2⟩ | ⟨h1,h2⟩
 ·exact g 0 100 c0 h1 h2
 ·exact g 100 100 c1 h1 h2
 ·exact g 200 100 c2 h1 h2
 ·exact g 300 100 c3 h1 h2
 ·exact g 400 100 c4 h1 h2
 ·exact g 500 100 c5 h1 h2
 ·exact g 600 90 c6 h1 h2
def EJ {f:FuncId} {fn:Func} (h:tE.get f=some fn):f<690:=by rw[<-adf];exact (Jw.1 (pE f fn h)).1
def fM (t:aN) (ht:∀f k,t.get f=some k->dC Tryz.prog f k):gp Tryz.prog (EX t) ce where
 types:=HT
 zeros:=Fv
 eqs:=Y2
 funs:=pE
 names:=λf fn h _=>by have:=iM aw5 f (EJ h);unfold okN at this;rw[pE f fn h] at this;simp only[Ja,Bool.not_eq_true'] at this;exact⟨this.1,I7 this.2⟩
 codes:=λf fn c h _ hb=>by have:=So f (EJ h);unfold HA at this;rw[pE f fn h] at this;simp only[hb] at this;exact this
 mixed:=FA
 ext:=λf fn k _ hk=>ht f k hk
def aJ (t:aN):Prop:=∀f k,t.get f=some k->dC Tryz.prog f k
def aB {t:aN} (ht:aJ t) {f:FuncId} (hf:f<1000) {k:List Value->H->Option (Value × H)} (hk:dC Tryz.prog f k):aJ (t.ins 40 f (some k)):=by
 intro g k' h;rw[T.get_ins _ _ _ _ _ (Jp (Nat.succ_lt_succ hf) (I7 rfl))] at h;by_cases e:g=f
 ·rw[if_pos e] at h;cases h;rw[e];exact hk
 ·rw[if_neg e] at h;exact ht g k' h
def K1:aJ (T.c none):=λ_ _ h=>nomatch h
def Ay:aJ lG:=aB (aB (aB K1 (by decide) av2) (by decide) awi) (by decide) aw3
def gd:gp Tryz.prog EE ce:=fM lG Ay
end Go.Ev
