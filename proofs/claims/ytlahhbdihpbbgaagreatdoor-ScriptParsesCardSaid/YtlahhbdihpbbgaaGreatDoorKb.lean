import Derived.Test.YtlahhbdihpbbgaaGreatDoorKa
import Derived.ClosedOfChecked
noncomputable section
set_option linter.unusedVariables false
set_option linter.unusedSimpArgs false
set_option maxRecDepth 1000000
open Nat (ble beq)
namespace Go.Ev
open Go F Go.Proofs
theorem wM {b:Bool} {α:Type} {x y z:α} (h:Bool.rec (motive:=λ_=>α) x y b=z):(b=false/\x=z) \/ (b=true/\y=z):=by cases b <;> simp_all
theorem sW {t:TypeId} {i:TypeInfo} (h:j8.get t=some i):Jv t=some i:=by
 rcases pu none 10 Jv t with e | e
 ·exact e.symm.trans h
 ·exact nomatch e.symm.trans h
theorem BI (t:TypeId) (i:TypeInfo) (h:j8.get t=some i):Tryz.prog.info? t=some i:=by
 rcases wM (sW h) with ⟨_,e⟩ | ⟨_,e⟩
 ·have hl:t<Tryz.prog.types.size:=(Array.getElem?_eq_some_iff.1 e).1;rw[ClosedOfChecked.info_lt hl];exact e
 ·exact nomatch e
theorem B2 (t:TypeId) (i:TypeInfo) (h:j8.get t=some i):Tryz.prog.types[t]?=some i:=by
 rcases wM (sW h) with ⟨_,e⟩ | ⟨_,e⟩
 ·exact e
 ·exact nomatch e
def eO (n:Nat) (p:Nat->Bool):Bool:=Nat.rec (motive:=λ_=>Bool) true (λi ih=>Bool.rec (motive:=λ_=>Bool) false ih (p i)) n
theorem gj {p:Nat->Bool}:∀{n:Nat},eO n p=true->∀i,i<n->p i=true
 | 0,_,i,hi=>absurd hi (Nat.not_lt_zero i)
 | n+1,h,i,hi=>by
  have h:Bool.rec (motive:=λ_=>Bool) false (eO n p) (p n)=true:=h;rcases wM h with ⟨_,e⟩ | ⟨e0,e⟩
  ·exact nomatch e
  ·rcases Nat.lt_or_ge i n with q | q
   ·exact gj e i q
   ·rw[Nat.le_antisymm (Nat.le_of_lt_succ hi) q];exact e0
def okZ (t:Nat):Bool:=match Jv t with
 | some i=>(match i.zero with | some z=>plain z | none=>true)
 | none=>true
theorem xn:eO 594 okZ=true:=by kernel_rfl
theorem ajp:Tryz.prog.types.size=594:=by kernel_rfl
theorem A0 (t:TypeId) (i:TypeInfo) (z:Value) (h:j8.get t=some i) (hz:i.zero=some z):plain z=true:=by
 have h1:=sW h;have h2:=B2 t i h;have h3:t<594:=by rw[<-ajp];exact (Array.getElem?_eq_some_iff.1 h2).1
 have:=gj xn t h3;unfold okZ at this;rw[h1] at this;simp only[hz] at this;exact this
theorem vt {i:Nat}:∀{l:List Nat},rG i l=true->i∈l
 | [],h=>nomatch h
 | a :: l,h=>by
  have h:Bool.rec (motive:=λ_=>Bool) (rG i l) true (beq a i)=true:=h;rcases wM h with ⟨_,e⟩ | ⟨e0,_⟩
  ·exact List.mem_cons_of_mem _ (vt e)
  ·rw[Nat.eq_of_beq_eq_true e0];exact List.mem_cons_self
theorem Xt (t:TypeId) (h:rG t eqL=true):Tryz.prog.stoodInHeld t=false/\Tryz.prog.eqGuardType Tryz.prog.depth t=false:=by
 have h:=vt h;simp only[eqL,List.mem_cons,List.not_mem_nil,or_false] at h;rcases h with rfl | rfl | rfl | rfl | rfl | rfl
 ·exact⟨by kernel_rfl,by kernel_rfl⟩
 ·exact⟨by kernel_rfl,by kernel_rfl⟩
 ·exact⟨by kernel_rfl,by kernel_rfl⟩
 ·exact⟨by kernel_rfl,by kernel_rfl⟩
 ·exact⟨by kernel_rfl,by kernel_rfl⟩
 ·exact⟨by kernel_rfl,by kernel_rfl⟩
theorem lW (f:FuncId) (fn:Func) (h:oI.get f=some fn):Tryz.prog.funcs[f]?=some fn:=by
 rcases pu none 10 (λi=>Tryz.prog.funcs[i]?) f with e | e
 ·exact e.symm.trans h
 ·exact nomatch e.symm.trans h
theorem Sw:Tryz.prog.funcs.size=593:=by kernel_rfl
theorem zf:Tryz.prog.follows .mixedOrders=true:=by kernel_rfl
def AD (f:Nat):Func:=(Tryz.prog.funcs[f]?).getD default
theorem n305:dC Tryz.prog 69 Extern.AbiNoEscape.same:=⟨AD 69,by kernel_rfl,by kernel_rfl,by kernel_rfl,by kernel_rfl,by kernel_rfl⟩
theorem n306:dC Tryz.prog 70 (Extern.BytealgMakeNoZero.makeNoZero #[3] #[57]):=⟨AD 70,by kernel_rfl,by kernel_rfl,by kernel_rfl,by kernel_rfl,by kernel_rfl⟩
theorem arW:dC Tryz.prog 458 (Extern.SlicesOverlaps.overlaps #[340,340] #[4]):=⟨AD 458,by kernel_rfl,by kernel_rfl,by kernel_rfl,by kernel_rfl,by kernel_rfl⟩
def Pa (t:Nat):TypeInfo:=(Tryz.prog.types[t]?).getD default
def Po:TypeId:=match Tryz.prog.underlying 340 with | some (.slice e)=>e | _=>0
theorem ase:dk Tryz.prog 69 fG:=qF n305
theorem asA:dk Tryz.prog 70 (eQ 5):=nF (i:=Pa 5) n306 (by kernel_rfl) (by kernel_rfl) (by kernel_rfl)
theorem arV:dk Tryz.prog 458 fO:=rt (el:=Po) (i:=Pa Po) arW (by kernel_rfl) (by kernel_rfl)
def Ci (f:Nat):Bool:=match Tryz.prog.funcs[f]? with
 | some fn=>(match fn.body with | some c=>dZ (λr=>BQ r (qj.get f)) bA fn.ntmps c | none=>true)
 | none=>true
def okN (f:Nat):Bool:=match Tryz.prog.funcs[f]? with
 | some fn=> !(fn.name== "runtime.NumGoroutine")&&ble fn.ntmps 1000000000
 | none=>true
theorem ar7:eO 593 okN=true:=by kernel_rfl
theorem c0:eO 100 (λi=>Ci (Nat.add 0 i))=true:=by kernel_rfl
theorem c1:eO 100 (λi=>Ci (Nat.add 100 i))=true:=by kernel_rfl
theorem c2:eO 100 (λi=>Ci (Nat.add 200 i))=true:=by kernel_rfl
theorem c3:eO 100 (λi=>Ci (Nat.add 300 i))=true:=by kernel_rfl
theorem c4:eO 100 (λi=>Ci (Nat.add 400 i))=true:=by kernel_rfl
theorem c5:eO 93 (λi=>Ci (Nat.add 500 i))=true:=by kernel_rfl
theorem Mh (f:Nat) (h:f<593):Ci f=true:=by
 have g:∀k n,eO n (λi=>Ci (Nat.add k i))=true->k<=f->f<k+n->Ci f=true:=by
  intro k n ha h1 h2;have:=gj ha (f-k) (by omega);have e:Nat.add k (f-k)=f:=by show k+(f-k)=f;omega
  rw[e] at this;exact this
 have h6:(0<=f/\f<100) \/ (100<=f/\f<200) \/ (200<=f/\f<300) \/ (300<=f/\f<400) \/ (400<=f/\f<500) \/ (500<=f/\f<593):=by omega
 rcases h6 with ⟨h1,h2⟩ | ⟨h1,h2⟩ | ⟨h1,h2⟩ | ⟨h1,h2⟩ | ⟨h1,h2⟩ | ⟨h1,h2⟩
 ·exact g 0 100 c0 h1 h2
 ·exact g 100 100 c1 h1 h2
 ·exact g 200 100 c2 h1 h2
 ·exact g 300 100 c3 h1 h2
 ·exact g 400 100 c4 h1 h2
 ·exact g 500 93 c5 h1 h2
theorem z6 {f:FuncId} {fn:Func} (h:oI.get f=some fn):f<593:=by rw[<-Sw];exact (Array.getElem?_eq_some_iff.1 (lW f fn h)).1
theorem fU (t:ak) (ht:∀f k,t.get f=some k->dk Tryz.prog f k):eN Tryz.prog (EX t) bA where
 types:=BI
 zeros:=A0
 eqs:=Xt
 funs:=lW
 names:=λf fn h _=>by have:=gj ar7 f (z6 h);unfold okN at this;rw[lW f fn h] at this;simp only[Bool.and_eq_true,Bool.not_eq_true'] at this;exact⟨this.1,Nat.le_of_ble_eq_true this.2⟩
 codes:=λf fn c h _ hb=>by have:=Mh f (z6 h);unfold Ci at this;rw[lW f fn h] at this;simp only[hb] at this;exact this
 mixed:=zf
 ext:=λf fn k _ hk=>ht f k hk
def aA (t:ak):Prop:=∀f k,t.get f=some k->dk Tryz.prog f k
theorem ar {t:ak} (ht:aA t) {f:FuncId} (hf:f<1000) {k:List Value->H->Option (Value × H)} (hk:dk Tryz.prog f k):aA (t.ins 40 f (some k)):=by
 intro g k' h;rw[T.get_ins _ _ _ _ _ (Nat.lt_of_lt_of_le (Nat.succ_lt_succ hf) (Nat.le_of_ble_eq_true rfl))] at h;by_cases e:g=f
 ·rw[if_pos e] at h;cases h;rw[e];exact hk
 ·rw[if_neg e] at h;exact ht g k' h
theorem M2:aA (T.c none):=λ_ _ h=>nomatch h
theorem vk:aA jo:=ar (ar (ar M2 (by decide) ase) (by decide) asA) (by decide) arV
theorem eR:eN Tryz.prog EE bA:=fU jo vk
end Go.Ev
