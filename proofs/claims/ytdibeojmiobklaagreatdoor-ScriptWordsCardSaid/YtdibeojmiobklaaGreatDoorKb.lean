/-
  THE TABLES ARE THE PROGRAM's.
-/
import Derived.Test.YtdibeojmiobklaaGreatDoorKa
import Derived.Test.YtdibeojmiobklaaGreatDoorEc
import Derived.Test.YtdibeojmiobklaaGreatDoorEe
import Derived.KernelRfl
import Derived.ClosedOfChecked
set_option linter.unusedVariables false
set_option linter.unusedSimpArgs false
namespace Go.Ev
open Go F Go.Proofs
set_option maxRecDepth 1000000
set_option linter.unusedVariables false
theorem bool2 {b:Bool} {α:Type} {x y z:α} (h:Bool.rec (motive:=λ _=>α) x y b=z):(b=false∧x=z) ∨ (b=true∧y=z):=by cases b <;> simp_all
theorem tys_of {t:TypeId} {i:TypeInfo} (h:tysTree.get t=some i):tysG t=some i:=by
  rcases get_mkT none 10 tysG t with e | e
  · exact e.symm.trans h
  · exact nomatch e.symm.trans h
theorem types_ok (t:TypeId) (i:TypeInfo) (h:tysTree.get t=some i):Tryz.prog.info? t=some i:=by
  rcases bool2 (tys_of h) with ⟨_,e⟩ | ⟨_,e⟩
  · have hl:t < Tryz.prog.types.size:=(Array.getElem?_eq_some_iff.1 e).1
    rw [ClosedOfChecked.info_lt hl]
    exact e
  · exact nomatch e
theorem types_at (t:TypeId) (i:TypeInfo) (h:tysTree.get t=some i):Tryz.prog.types[t]?=some i:=by
  rcases bool2 (tys_of h) with ⟨_,e⟩ | ⟨_,e⟩
  · exact e
  · exact nomatch e
noncomputable def allUpTo (n:Nat) (p:Nat→Bool):Bool:=Nat.rec (motive:=λ _=>Bool) true (λ i ih=>Bool.rec (motive:=λ _=>Bool) false ih (p i)) n
theorem allUpTo_get {p:Nat→Bool}:∀ {n:Nat},allUpTo n p=true→∀ i,i < n→p i=true
  | 0,_,i,hi=>absurd hi (Nat.not_lt_zero i)
  | n + 1,h,i,hi=>by
    have h:Bool.rec (motive:=λ _=>Bool) false (allUpTo n p) (p n)=true:=h
    rcases bool2 h with ⟨_,e⟩ | ⟨e0,e⟩
    · exact nomatch e
    · rcases Nat.lt_or_ge i n with q | q
      · exact allUpTo_get e i q
      · rw [Nat.le_antisymm (Nat.le_of_lt_succ hi) q]; exact e0
noncomputable def okZ (t:Nat):Bool:=match tysG t with
  | some i=>(match i.zero with | some z=>plain z | none=>true)
  | none=>true
theorem zeros_all:allUpTo 663 okZ=true:=by kernel_rfl
theorem ntypes:Tryz.prog.types.size=663:=by kernel_rfl
theorem zeros_ok (t:TypeId) (i:TypeInfo) (z:Value) (h:tysTree.get t=some i) (hz:i.zero=some z):plain z=true:=by
  have h1:=tys_of h
  have h2:=types_at t i h
  have h3:t < 663:=by rw [← ntypes]; exact (Array.getElem?_eq_some_iff.1 h2).1
  have:=allUpTo_get zeros_all t h3
  unfold okZ at this
  rw [h1] at this
  simp only [hz] at this
  exact this
theorem memb_ok {i:Nat}:∀ {l:List Nat},membN i l=true→i ∈ l
  | [],h=>nomatch h
  | a :: l,h=>by
    have h:Bool.rec (motive:=λ _=>Bool) (membN i l) true (Nat.beq a i)=true:=h
    rcases bool2 h with ⟨_,e⟩ | ⟨e0,_⟩
    · exact List.mem_cons_of_mem _ (memb_ok e)
    · rw [Nat.eq_of_beq_eq_true e0]; exact List.mem_cons_self
theorem eqs_ok (t:TypeId) (h:membN t eqL=true):Tryz.prog.stoodInHeld t=false∧Tryz.prog.eqGuardType Tryz.prog.depth t=false:=by
  have h:=memb_ok h
  simp only [eqL,List.mem_cons,List.not_mem_nil,or_false] at h
  rcases h with rfl | rfl | rfl | rfl | rfl | rfl
  · exact ⟨by kernel_rfl,by kernel_rfl⟩
  · exact ⟨by kernel_rfl,by kernel_rfl⟩
  · exact ⟨by kernel_rfl,by kernel_rfl⟩
  · exact ⟨by kernel_rfl,by kernel_rfl⟩
  · exact ⟨by kernel_rfl,by kernel_rfl⟩
  · exact ⟨by kernel_rfl,by kernel_rfl⟩
theorem funs_ok (f:FuncId) (fn:Func) (h:fnsTree.get f=some fn):Tryz.prog.funcs[f]?=some fn:=by
  rcases get_mkT none 10 (λ i=>Tryz.prog.funcs[i]?) f with e | e
  · exact e.symm.trans h
  · exact nomatch e.symm.trans h
theorem nfuncs:Tryz.prog.funcs.size=684:=by kernel_rfl
theorem mixed_ok:Tryz.prog.follows .mixedOrders=true:=by kernel_rfl
noncomputable def fnAt (f:Nat):Func:=(Tryz.prog.funcs[f]?).getD default
theorem n305:ExternAt Tryz.prog 148 Extern.AbiNoEscape.same:=⟨fnAt 148,by kernel_rfl,by kernel_rfl,by kernel_rfl,by kernel_rfl,by kernel_rfl⟩
theorem n306:ExternAt Tryz.prog 225 (Extern.BytealgMakeNoZero.makeNoZero #[3] #[60]):=⟨fnAt 225,by kernel_rfl,by kernel_rfl,by kernel_rfl,by kernel_rfl,by kernel_rfl⟩
theorem n421:ExternAt Tryz.prog 548 (Extern.SlicesOverlaps.overlaps #[179,179] #[4]):=⟨fnAt 548,by kernel_rfl,by kernel_rfl,by kernel_rfl,by kernel_rfl,by kernel_rfl⟩
noncomputable def infAt (t:Nat):TypeInfo:=(Tryz.prog.types[t]?).getD default
noncomputable def el178:TypeId:=match Tryz.prog.underlying 179 with | some (.slice e)=>e | _=>0
theorem x305:ExtOK Tryz.prog 148 primNoEscape:=noEscape_ok n305
theorem x306:ExtOK Tryz.prog 225 (primMakeNoZero 5):=makeNoZero_ok (i:=infAt 5) n306 (by kernel_rfl) (by kernel_rfl) (by kernel_rfl)
theorem x421:ExtOK Tryz.prog 548 primOverlaps:=overlaps_ok (el:=el178) (i:=infAt el178) n421 (by kernel_rfl) (by kernel_rfl)
noncomputable def okC (f:Nat):Bool:=match Tryz.prog.funcs[f]? with
  | some fn=>(match fn.body with | some c=>codeOK (λ r=>lookP r (planTree.get f)) planOK fn.ntmps c | none=>true)
  | none=>true
noncomputable def okN (f:Nat):Bool:=match Tryz.prog.funcs[f]? with
  | some fn => !(fn.name == "runtime.NumGoroutine") && Nat.ble fn.ntmps 1000000000
  | none=>true
theorem n539:allUpTo 684 okN=true:=by kernel_rfl
theorem c0:allUpTo 100 (λ i=>okC (Nat.add 0 i))=true:=by kernel_rfl
theorem c1:allUpTo 100 (λ i=>okC (Nat.add 100 i))=true:=by kernel_rfl
theorem c2:allUpTo 100 (λ i=>okC (Nat.add 200 i))=true:=by kernel_rfl
theorem c3:allUpTo 100 (λ i=>okC (Nat.add 300 i))=true:=by kernel_rfl
theorem c4:allUpTo 100 (λ i=>okC (Nat.add 400 i))=true:=by kernel_rfl
theorem c5:allUpTo 100 (λ i=>okC (Nat.add 500 i))=true:=by kernel_rfl
theorem c6:allUpTo 84 (λ i=>okC (Nat.add 600 i))=true:=by kernel_rfl
theorem okC_all (f:Nat) (h:f < 684):okC f=true:=by
  have g:∀ k n,allUpTo n (λ i=>okC (Nat.add k i))=true→k≤f→f < k + n→okC f=true:=by
    intro k n ha h1 h2
    have:=allUpTo_get ha (f - k) (by omega)
    have e:Nat.add k (f - k)=f:=by show k + (f - k)=f; omega
    rw [e] at this
    exact this
  have h6:(0≤f∧f < 100) ∨ (100≤f∧f < 200) ∨ (200≤f∧f < 300) ∨ (300≤f∧f < 400) ∨ (400≤f∧f < 500) ∨ (500≤f∧f < 600) ∨ (600≤f∧f < 684):=by omega
  rcases h6 with ⟨h1,h2⟩ | ⟨h1,h2⟩ | ⟨h1,h2⟩ | ⟨h1,h2⟩ | ⟨h1,h2⟩ | ⟨h1,h2⟩ | ⟨h1,h2⟩
  · exact g 0 100 c0 h1 h2
  · exact g 100 100 c1 h1 h2
  · exact g 200 100 c2 h1 h2
  · exact g 300 100 c3 h1 h2
  · exact g 400 100 c4 h1 h2
  · exact g 500 100 c5 h1 h2
  · exact g 600 84 c6 h1 h2
end Go.Ev
namespace Go.Ev
open Go F Go.Proofs
set_option linter.unusedVariables false
set_option maxRecDepth 100000
theorem fun_lt {f:FuncId} {fn:Func} (h:fnsTree.get f=some fn):f < 684:=by
  rw [← nfuncs]
  exact (Array.getElem?_eq_some_iff.1 (funs_ok f fn h)).1
theorem env_of (t:ExtT) (ht:∀ f k,t.get f=some k→ExtOK Tryz.prog f k):EnvOK Tryz.prog (EX t) planOK where
  types:=types_ok
  zeros:=zeros_ok
  eqs:=eqs_ok
  funs:=funs_ok
  names:=λ f fn h _=>by
    have:=allUpTo_get n539 f (fun_lt h)
    unfold okN at this
    rw [funs_ok f fn h] at this
    simp only [Bool.and_eq_true,Bool.not_eq_true'] at this
    exact ⟨this.1,Nat.le_of_ble_eq_true this.2⟩
  codes:=λ f fn c h _ hb=>by
    have:=okC_all f (fun_lt h)
    unfold okC at this
    rw [funs_ok f fn h] at this
    simp only [hb] at this
    exact this
  mixed:=mixed_ok
  ext:=λ f fn k _ hk=>ht f k hk
def ExtAll (t:ExtT):Prop:=∀ f k,t.get f=some k→ExtOK Tryz.prog f k
theorem ext_ins {t:ExtT} (ht:ExtAll t) {f:FuncId} (hf:f < 1000) {k:List Value→H→Option (Value × H)} (hk:ExtOK Tryz.prog f k):ExtAll (t.ins 40 f (some k)):=by
  intro g k' h
  rw [T.get_ins _ _ _ _ _ (Nat.lt_of_lt_of_le (Nat.succ_lt_succ hf) (Nat.le_of_ble_eq_true rfl))] at h
  by_cases e:g=f
  · rw [if_pos e] at h
    cases h
    rw [e]
    exact hk
  · rw [if_neg e] at h
    exact ht g k' h
theorem ext_nil:ExtAll (T.c none):=λ _ _ h=>nomatch h
theorem ext0_ok:ExtAll ext0:=ext_ins (ext_ins (ext_ins ext_nil (by decide) x305) (by decide) x306) (by decide) x421
theorem EE_ok:EnvOK Tryz.prog EE planOK:=env_of ext0 ext0_ok
end Go.Ev
