/-
  THE ROW of a list of rows: the law's function answers true wherever the row's premise holds.
-/
import Derived.Test.YtdibeojmiobklaaGreatDoorVa
import Derived.Test.YtdibeojmiobklaaGreatDoorUb
import Derived.ProofKit
import Derived.LaidMore
import Derived.OpenShut
import Derived.Stop.Joined
import Derived.MakeChecks
import Derived.SliceStrings
import Derived.ReadAgain
set_option linter.unusedVariables false
set_option linter.unusedSimpArgs false
namespace Go.Proofs.YtdibeojmiobklaaGreatDoor
open Go Go.Ev Go.ChangeShapes Go.WideShapes Go.ChangeAt Go.RowKit
set_option maxRecDepth 100000
set_option linter.unusedVariables false
set_option linter.unusedSimpArgs false
theorem own:ownKnob Tryz.prog.godebug=none:=by kernel_rfl
theorem c9:Tryz.prog.cellsOf 9=1:=by kernel_rfl
theorem c3:Tryz.prog.cellsOf 3=1:=by kernel_rfl
theorem c25:Tryz.prog.cellsOf 25=1:=by kernel_rfl
theorem c26:Tryz.prog.cellsOf 26=1:=by kernel_rfl
theorem c28:Tryz.prog.cellsOf 28=9:=by kernel_rfl
def T6 (t:TypeId):Prop:=t=22 ∨ t=28 ∨ t=26 ∨ t=25 ∨ t=3 ∨ t=9
theorem desc6 {t:TypeId} (h:T6 t):(t=22∧Tryz.prog.underlying t=some (.slice 28)) ∨ (t=28) ∨ (∃ k,Tryz.prog.underlying t=some (.int k)) ∨ Tryz.prog.underlying t=some .string:=by
  rcases h with rfl | rfl | rfl | rfl | rfl | rfl
  · exact .inl ⟨rfl,Tryz.underlying22⟩
  · exact .inr (.inl rfl)
  · exact .inr (.inr (.inl ⟨_,Tryz.underlying26⟩))
  · exact .inr (.inr (.inl ⟨_,Tryz.underlying25⟩))
  · exact .inr (.inr (.inl ⟨_,Tryz.underlying3⟩))
  · exact .inr (.inr (.inr Tryz.underlying9))
theorem kids6:Kids Tryz.prog T6:=by
  constructor
  · intro t e ht h
    rcases desc6 ht with ⟨_,q⟩ | rfl | ⟨k,q⟩ | q
    · rw [q] at h; exact nomatch h
    · rw [Tryz.underlying28] at h; exact nomatch h
    · rw [q] at h; exact nomatch h
    · rw [q] at h; exact nomatch h
  · intro t e ht h
    rcases desc6 ht with ⟨_,q⟩ | rfl | ⟨k,q⟩ | q
    · rw [q] at h; cases h; exact .inr (.inl rfl)
    · rw [Tryz.underlying28] at h; exact nomatch h
    · rw [q] at h; exact nomatch h
    · rw [q] at h; exact nomatch h
  · intro t e n ht h
    rcases desc6 ht with ⟨_,q⟩ | rfl | ⟨k,q⟩ | q
    · rw [q] at h; exact nomatch h
    · rw [Tryz.underlying28] at h; exact nomatch h
    · rw [q] at h; exact nomatch h
    · rw [q] at h; exact nomatch h
  · intro t fs ht h
    rcases desc6 ht with ⟨_,q⟩ | rfl | ⟨k,q⟩ | q
    · rw [q] at h; exact nomatch h
    · rw [Tryz.underlying28] at h
      cases h
      refine ⟨λ f hf=>?_,by kernel_rfl,λ j f hj=>?_⟩
      · simp only [List.mem_cons,List.not_mem_nil,or_false] at hf
        unfold T6
        rcases hf with rfl | rfl | rfl | rfl | rfl | rfl | rfl | rfl | rfl <;> simp
      · match j,hj with
        | 0,hj=>cases hj; rfl
        | 1,hj=>cases hj; simp [c26,c3,c25,c9]
        | 2,hj=>cases hj; simp [c26,c3,c25,c9]
        | 3,hj=>cases hj; simp [c26,c3,c25,c9]
        | 4,hj=>cases hj; simp [c26,c3,c25,c9]
        | 5,hj=>cases hj; simp [c26,c3,c25,c9]
        | 6,hj=>cases hj; simp [c26,c3,c25,c9]
        | 7,hj=>cases hj; simp [c26,c3,c25,c9]
        | 8,hj=>cases hj; simp [c26,c3,c25,c9]
        | n + 9,hj=>exact nomatch hj
    · rw [q] at h; exact nomatch h
    · rw [q] at h; exact nomatch h
  · intro t k e ht h
    rcases desc6 ht with ⟨_,q⟩ | rfl | ⟨k,q⟩ | q
    · rw [q] at h; exact nomatch h
    · rw [Tryz.underlying28] at h; exact nomatch h
    · rw [q] at h; exact nomatch h
    · rw [q] at h; exact nomatch h
theorem full6:∀ t e,T6 t→Tryz.prog.underlying t=some (.slice e)→0 < Tryz.prog.cellsOf e:=by
  intro t e ht h
  rcases desc6 ht with ⟨_,q⟩ | rfl | ⟨k,q⟩ | q
  · rw [q] at h; cases h; rw [c28]; decide
  · rw [Tryz.underlying28] at h; exact nomatch h
  · rw [q] at h; exact nomatch h
  · rw [q] at h; exact nomatch h
theorem list_of {α:Type} {Q:Nat→α→Prop}:∀ n:Nat,(∀ i,i < n→∃ r,Q i r)→∃ l:List α,l.length=n∧∀ i (hi:i < l.length),Q i l[i]
  | 0,_=>⟨[],rfl,λ i hi=>absurd hi (Nat.not_lt_zero _)⟩
  | n + 1,h=>by
    obtain ⟨l,h1,h2⟩:=list_of n λ i hi=>h i (by omega)
    obtain ⟨r,h3⟩:=h n (by omega)
    refine ⟨l ++ [r],by simp [h1],λ i hi=>?_⟩
    by_cases q:i < l.length
    · rw [List.getElem_append_left q]; exact h2 i q
    · have:i=n:=by simp at hi; omega
      subst this
      rw [List.getElem_append_right (by omega)]
      simp only [h1,Nat.sub_self,List.getElem_singleton]
      exact h3
theorem row_of9 {H:Type} {enc:TypeId × Value→H} {W:World} {base:Nat} {sp:Nat→Bool} {held:Bool} {n:Nat} {cs:List Value} {y:DataW H × List MemPlace} (h:DataW.trod enc Tryz.prog W base sp held n 28 cs=some y) :
    ∃ r:Rw,r.ok∧cs=rowC r:=by
  obtain ⟨xs,m,rfl,hy,hl,hn,hel⟩:=DataW.trod_struct Tryz.underlying28 h
  rw [c28] at hl
  have hx:∀ i,i < 9→∃ z,xs[i]?=some z:=λ i hi=>⟨xs[i]'(by rw [hn]; exact hi),List.getElem?_eq_getElem _⟩
  have hi64:∀ {n:Int},(Lit.int .i64 n).wf=true→i64 n:=λ {n} h=>by
    simp [Lit.wf,IntKind.min,IntKind.max,IntKind.signed,IntKind.bits] at h
    exact ⟨by omega,by omega⟩
  have hu64:∀ {n:Int},(Lit.int .u64 n).wf=true→∃ m:Nat,n=m∧m < 18446744073709551616:=λ {n} h=>by
    simp [Lit.wf,IntKind.min,IntKind.max,IntKind.signed,IntKind.bits] at h
    exact ⟨n.toNat,by omega,by omega⟩
  have fint : ∀ (i : Nat) (f : Field) (k : IntKind), (#[{ name := "Handle", type := 26, offset := 0, embedded := false, tag := "", pkgPath := "", byteOffset := 0 }, { name := "Depth", type := 3, offset := 1, embedded := false, tag := "", pkgPath := "", byteOffset := 8 }, { name := "Kind", type := 25, offset := 2, embedded := false, tag := "", pkgPath := "", byteOffset := 16 }, { name := "Name", type := 9, offset := 3, embedded := false, tag := "", pkgPath := "", byteOffset := 24 }, { name := "Nodes", type := 3, offset := 4, embedded := false, tag := "", pkgPath := "", byteOffset := 40 }, { name := "Objects", type := 3, offset := 5, embedded := false, tag := "", pkgPath := "", byteOffset := 48 }, { name := "Bytes", type := 3, offset := 6, embedded := false, tag := "", pkgPath := "", byteOffset := 56 }, { name := "Refs", type := 3, offset := 7, embedded := false, tag := "", pkgPath := "", byteOffset := 64 }, { name := "Cleans", type := 3, offset := 8, embedded := false, tag := "", pkgPath := "", byteOffset := 72 }] : Array Field)[i]? = some f → i < 9 → f.offset = i → Tryz.prog.underlying f.type = some (.int k) → Tryz.prog.cellsOf f.type = 1 → ∃ n, cs[i]? = some (.int k n) ∧ (Lit.int k n).wf = true := by
    intro i f k hf hi ho hu hc
    obtain ⟨z,hz⟩:=hx i hi
    have h1:=hel i f hf
    rw [ho,hc,hz] at h1
    obtain ⟨v,hv,_,hw⟩:=DataW.trod_int hu h1
    refine ⟨v,?_,hw⟩
    have:=congrArg (·[0]?) hv
    simpa [List.getElem?_take,List.getElem?_drop] using this
  have fstr:∃ s:ByteArray,cs[3]?=some (.string s):=by
    obtain ⟨z,hz⟩:=hx 3 (by omega)
    have h1:=hel 3 _ rfl
    change DataW.trod enc Tryz.prog W base sp held m 9 ((cs.drop 3).take (Tryz.prog.cellsOf 9))=xs[3]? at h1
    rw [c9,hz] at h1
    obtain ⟨s,hs,_,_⟩:=DataW.trod_string Tryz.underlying9 h1
    refine ⟨s,?_⟩
    have:=congrArg (·[0]?) hs
    simpa [List.getElem?_take,List.getElem?_drop] using this
  obtain ⟨n0,a0,w0⟩:=fint 0 _ .u64 rfl (by omega) rfl Tryz.underlying26 c26
  obtain ⟨n1,a1,w1⟩:=fint 1 _ .i64 rfl (by omega) rfl Tryz.underlying3 c3
  obtain ⟨n2,a2,w2⟩:=fint 2 _ .u64 rfl (by omega) rfl Tryz.underlying25 c25
  obtain ⟨s,a3⟩:=fstr
  obtain ⟨n4,a4,w4⟩:=fint 4 _ .i64 rfl (by omega) rfl Tryz.underlying3 c3
  obtain ⟨n5,a5,w5⟩:=fint 5 _ .i64 rfl (by omega) rfl Tryz.underlying3 c3
  obtain ⟨n6,a6,w6⟩:=fint 6 _ .i64 rfl (by omega) rfl Tryz.underlying3 c3
  obtain ⟨n7,a7,w7⟩:=fint 7 _ .i64 rfl (by omega) rfl Tryz.underlying3 c3
  obtain ⟨n8,a8,w8⟩:=fint 8 _ .i64 rfl (by omega) rfl Tryz.underlying3 c3
  obtain ⟨m0,rfl,l0⟩:=hu64 w0
  obtain ⟨m2,rfl,l2⟩:=hu64 w2
  refine ⟨⟨m0,n1,m2,s.data.toList,n4,n5,n6,n7,n8⟩,⟨l0,l2,hi64 w1,hi64 w4,hi64 w5,hi64 w6,hi64 w7,hi64 w8⟩,?_⟩
  apply List.ext_getElem?
  intro i
  match i with
  | 0=>exact a0
  | 1=>exact a1
  | 2=>exact a2
  | 3=>exact a3
  | 4=>exact a4
  | 5=>exact a5
  | 6=>exact a6
  | 7=>exact a7
  | 8=>exact a8
  | n + 9=>rw [List.getElem?_eq_none (by rw [hl]; omega)]; rfl
theorem arg_of {H:Type} {enc:TypeId × Value→H} {W:World} {base b:Nat} {held:Bool} {v:Value} {d:DataW H} {p:List MemPlace} (hv:Value.okWide Tryz.prog W .any base 22 v)
    (h:DataW.Trod enc Tryz.prog W b (λ _=>true) held 22 v d p):∃ rows,ArgR W v rows∧∀ r ∈ rows,r.ok:=by
  obtain ⟨a0,len,cap,rfl⟩:=okWide_slice Tryz.underlying22 hv
  obtain ⟨fuel,hf⟩:=h
  rcases DataW.trod_slice Tryz.underlying22 hf with ⟨hcs,_⟩ | ⟨a,len',cap',elems,rest,n,hfu,hcs,hx,hb,hl,hm,hz,hel,hrest,_⟩
  · simp [Value.cells] at hcs
    obtain ⟨rfl,rfl,rfl⟩:=hcs
    exact ⟨[],.nil,λ r hr=>(nomatch hr)⟩
  · simp [Value.cells] at hcs
    obtain ⟨rfl,rfl,rfl⟩:=hcs
    simp only [Value.okWide,Tryz.underlying22,Cell.okWide,Cell.ok] at hv
    obtain ⟨_,_,_,hspot,row,cells,hsh,_⟩:=hv
    obtain ⟨bk,off,spot⟩:=a
    have hspot:spot=none:=hspot
    subst hspot
    unfold World.shape? at hsh
    split at hsh
    · rename_i cs el fr hh
      have hrow:∀ i,i < len→∃ r:Rw,r.ok∧∀ j,j < 9→cs[off + i * 9 + j]?=some ((rowC r).getD j unk):=by
        intro i hi
        have h1:=hel i hi
        rw [c28,List.getElem?_eq_getElem (by rw [hz]; exact hi)] at h1
        obtain ⟨c9s,e1,e2⟩:=Option.bind_eq_some_iff.1 h1
        obtain ⟨r,hr,rfl⟩:=row_of9 e2
        obtain ⟨_,_,e3⟩:=World.cells?_some e1
        refine ⟨r,hr,λ j hj=>?_⟩
        have e4:=e3 j hj
        have hadd:((Addr.mk bk off none).add (i * 9)).add j=⟨bk,off + i * 9 + j,none⟩:=by
          have ha:∀ o n,(Addr.mk bk o none).add n=⟨bk,o + n,none⟩:=λ o n=>by
            unfold Addr.add
            split
            · rename_i e; subst e; rfl
            · rfl
          rw [ha,ha]
        rw [hadd] at e4
        unfold World.cell? at e4
        simp only [hh,Option.isSome_none,Bool.false_eq_true,if_false] at e4
        rw [e4,List.getD_eq_getElem?_getD,List.getElem?_eq_getElem (show j < (rowC r).length from hj)]
        rfl
      obtain ⟨rows,hrl,hrows⟩:∃ rows:List Rw,rows.length=len∧∀ i (hi:i < rows.length),rows[i].ok∧∀ j,j < 9→cs[off + i * 9 + j]?=some ((rowC rows[i]).getD j unk):=list_of (Q:=λ i r=>r.ok∧∀ j,j < 9→cs[off + i * 9 + j]?=some ((rowC r).getD j unk)) len hrow
      refine ⟨rows,?_,λ r hr=>?_⟩
      · have:=ArgR.row (w:=W) (b:=bk) (o:=off) (cap:=cap) (rows:=rows) hh (λ i hi=>(hrows i hi).2) (by omega)
        rw [hrl] at this
        exact this
      · obtain ⟨i,hi,rfl⟩:=List.mem_iff_getElem.1 hr
        exact (hrows i hi).1
    · exact nomatch hsh
theorem again {H:Type} {enc:TypeId × Value→H} {W W':World} {v:Value} {d:DataW H} {p:List MemPlace} (hkeep:∀ b,b < W.heap.size→W'.heap[b]?=W.heap[b]?)
    (h:DataW.Trod enc Tryz.prog W 0 (λ _=>true) true 22 v d p):DataW.Trod enc Tryz.prog W' 0 (λ b=>decide (b < W.heap.size)) true 22 v d p:=by
  have hlt:∀ q ∈ p,q.block < W.heap.size:=by
    obtain ⟨n,hn⟩:=h
    exact DataW.trod_lt n _ _ _ hn
  obtain ⟨n,hn⟩:=DataW.Trod.respare (spare':=λ b=>decide (b < W.heap.size)) kids6 full6 (.inl rfl) h (λ q hq=>decide_eq_true (hlt q hq))
  refine ⟨n,DataW.trod_carry n _ _ _ hn λ q hq=>?_⟩
  have hq:=hkeep _ (hlt q hq)
  cases q with
  | cell b off =>
    show W'.cell? ⟨b,off,none⟩=W.cell? ⟨b,off,none⟩
    unfold World.cell?
    rw [show W'.heap[b]?=W.heap[b]? from hq]
  | map b=>exact hq
def truthSpec (s:ChangeSpec):Prop:=s.vars=[]∧∀ H d1,s.fn H [d1]={ results:=[.lit (.bool true)],args:=[d1] }
theorem lifted1 {s:ChangeSpec} (hs:truthSpec s) {f:FuncId} {fn:Func} (hf:Tryz.prog.funcs[f]?=some fn) (hpar:fn.params=#[22]) (hres:fn.resultTypes=#[4]) (noInit:Tryz.prog.inits.idxOf? f=none)
    (hcalls:∀ W:World,Rel Tryz.prog renG (hzG glob) W→∀ v rows,ArgR W v rows→(∀ r ∈ rows,r.ok)→Calls Tryz.prog f #[v] W λ e W'=>e=.returned (.bool true)∧W.heap.size≤W'.heap.size∧(∀ b,b < W.heap.size→W'.heap[b]?=W.heap[b]?)∧W'.os=W.os∧W'.output=W.output)
    (os:Os) (started:os.Started) (H:Type) (enc:TypeId × Value→H)
    (hok:Input.okWideB Tryz.prog ((World.laidAll Tryz.prog os laidL).forCall (λ _ _=>0) ⟨#[],nilA,[]⟩) f ⟨#[],nilA,[]⟩=true)
    (hpre:s.preB enc Tryz.prog fn [] false ((World.laidAll Tryz.prog os laidL).forCall (λ _ _=>0) ⟨#[],nilA,[]⟩).memory nilA 8=true)
    (hsz:s.sizedB enc Tryz.prog fn false ((World.laidAll Tryz.prog os laidL).forCall (λ _ _=>0) ⟨#[],nilA,[]⟩).memory nilA 8=true) :
    ReturnsInHanded {} Tryz.checked os f .any (λ w args=>(s.pre enc Tryz.prog fn [] false w args∧laidMetH Tryz.prog laidL w)∧sizedMet enc Tryz.prog fn (OpenSpec.ofChange s) false w args)
      (s.post enc Tryz.prog fn false true false false):=by
  refine returnsInHanded_of_calls (C:=Tryz.checked) own started noInit
    (ChangeSpec.witness_shaped (enc:=enc) (C:=Tryz.checked) (os:=os) (X:=λ w _=>laidMetH Tryz.prog laidL w) false (World.laidAll Tryz.prog os laidL) nilA 8 (World.laidAll_os _ _ _) (first_shaped os) hok hpre hsz (by rw [MakeChecks.laidMetH_plain _ _ _ (by kernel_rfl)]; exact first_met os _)) ?_
  intro w tape i _ hsh _ hokW hp _
  obtain ⟨⟨⟨ds,gs,before,hW,hc⟩,hL⟩,_⟩:=hp
  have hW':=DataW.Whole.of_heap (w':=w.forCall tape i) (by rfl) hW
  have hL':laidMetH Tryz.prog laidL (w.forCall tape i):=hL.of_heap (by rfl)
  rw [MakeChecks.laidMetH_plain _ _ _ (by kernel_rfl)] at hL'
  have hWk:=hW'
  obtain ⟨p,q,hA,hV,hb,_⟩:=hWk
  rw [hpar] at hA
  rw [hs.1] at hV
  obtain ⟨rfl,rfl⟩:=trodVars_none hV
  obtain ⟨v0,d0,ha,rfl,h0⟩:=trodAll_one hA
  obtain ⟨_,_,_,fn',hfn',_,_,_,_,hval⟩:=hokW
  have hfn:fn'=fn:=Option.some.inj (hfn'.symm.trans hf)
  subst hfn
  obtain ⟨l0,a0,k0⟩:=arg_of (hval 0 22 v0 (by rw [hpar]; rfl) (by rw [ha]; rfl)) h0
  rw [ha] at hW' ⊢
  refine (hcalls _ (start_rel hsh hL') v0 l0 a0 k0).mono ?_
  rintro e W' ⟨rfl,hsize,hkeep,hos,hout⟩
  refine ChangeSpec.post_blind (W:=w.forCall tape i) (W':=W') ⟨[d0],[],before,[],p,[],hW',?_,?_,?_,?_,λ h=>by cases h⟩
  · rw [hres,show s.fn H ([d0] ++ [])=_ from hs.2 H d0]
    exact trodAll_mk1 (shut_bool Tryz.underlying4 true)
  · rw [hpar,show s.fn H ([d0] ++ [])=_ from hs.2 H d0]
    exact trodAll_mk1 (again hkeep h0)
  · rw [hs.1,show s.fn H ([d0] ++ [])=_ from hs.2 H d0]
    rfl
  · refine ⟨hos,hout,λ k hk=>?_⟩
    rw [hkeep k hk]
    have h:=World.keptBut_refl (w.forCall tape i) (λ _=>False)
    have:=h.2.2 k hk
    revert this
    cases (w.forCall tape i).heap[k]? with
    | none=>exact λ h=>h
    | some o=>cases o <;> intro h <;> first | exact ⟨rfl,rfl,rfl,λ _ _=>rfl⟩ | exact .inr ⟨rfl,rfl⟩ | exact h
end Go.Proofs.YtdibeojmiobklaaGreatDoor
