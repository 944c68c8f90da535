/-
  THE ROW of two lists of lines: the law's function answers true wherever the row's premise holds.
-/
import Derived.Test.YtdibeojmiobklaaGreatDoorSc
import Derived.Test.YtdibeojmiobklaaGreatDoorTb
import Derived.ProofKit
import Derived.LaidMore
import Derived.OpenShut
import Derived.Stop.Joined
import Derived.MakeChecks
import Derived.SliceStrings
import Derived.ReadAgain
set_option linter.unusedVariables false
set_option linter.unusedSimpArgs false
namespace Go.Proofs.YtdibeojmiobklaaGreatDoor
open Go Go.Ev Go.ChangeShapes Go.WideShapes Go.ChangeAt Go.RowKit
set_option maxRecDepth 100000
set_option linter.unusedVariables false
theorem own:ownKnob Tryz.prog.godebug=none:=by kernel_rfl
theorem u33:Tryz.prog.underlying 33=some (.slice 9):=by kernel_rfl
theorem u9:Tryz.prog.underlying 9=some .string:=by kernel_rfl
theorem c9:Tryz.prog.cellsOf 9=1:=by kernel_rfl
def T2 (t:TypeId):Prop:=t=33 ∨ t=9
theorem kids2:Kids Tryz.prog T2:=by
  constructor
  · rintro t e (rfl | rfl) h
    · rw [u33] at h; exact nomatch h
    · rw [u9] at h; exact nomatch h
  · rintro t e (rfl | rfl) h
    · rw [u33] at h; cases h; exact .inr rfl
    · rw [u9] at h; exact nomatch h
  · rintro t e n (rfl | rfl) h
    · rw [u33] at h; exact nomatch h
    · rw [u9] at h; exact nomatch h
  · rintro t fs (rfl | rfl) h
    · rw [u33] at h; exact nomatch h
    · rw [u9] at h; exact nomatch h
  · rintro t k e (rfl | rfl) h
    · rw [u33] at h; exact nomatch h
    · rw [u9] at h; exact nomatch h
theorem full2:∀ t e,T2 t→Tryz.prog.underlying t=some (.slice e)→0 < Tryz.prog.cellsOf e:=by
  rintro t e (rfl | rfl) h
  · rw [u33] at h; cases h; rw [c9]; exact Nat.one_pos
  · rw [u9] at h; exact nomatch h
theorem arg_of {H:Type} {enc:TypeId × Value→H} {W:World} {base b:Nat} {held:Bool} {v:Value} {d:DataW H} {p:List MemPlace} (hv:Value.okWide Tryz.prog W .any base 33 v)
    (h:DataW.Trod enc Tryz.prog W b (λ _=>true) held 33 v d p):∃ l,Arg W v l:=by
  obtain ⟨a0,len,cap,rfl⟩:=okWide_slice u33 hv
  obtain ⟨fuel,hf⟩:=h
  rcases open_strings u33 u9 c9 hf with ⟨hcs,_⟩ | ⟨a,len',cap',ss,hcs,_,hl,hm,hz,_,hcell,_⟩
  · simp [Value.cells] at hcs
    obtain ⟨rfl,rfl,rfl⟩:=hcs
    exact ⟨[],.nil⟩
  · simp [Value.cells] at hcs
    obtain ⟨rfl,rfl,rfl⟩:=hcs
    simp only [Value.okWide,u33,Cell.okWide,Cell.ok] at hv
    obtain ⟨_,_,_,hspot,row,cells,hsh,_⟩:=hv
    obtain ⟨bk,off,spot⟩:=a
    have hspot:spot=none:=hspot
    subst hspot
    simp only [if_true] at hz
    unfold World.shape? at hsh
    split at hsh
    · rename_i cs el fr hh
      have hlen:((ss.take len).map λ s=>s.data.toList).length=len:=by simp; omega
      refine ⟨(ss.take len).map λ s=>s.data.toList,?_⟩
      have:=Arg.row (w:=W) (b:=bk) (o:=off) (cap:=cap) (l:=(ss.take len).map λ s=>s.data.toList) hh (λ i hi=>?_) (by omega)
      · rw [hlen] at this
        exact this
      · have hi':i < ss.length:=by omega
        have h1:=hcell i hi'
        have h2:(Addr.add ⟨bk,off,none⟩ i)=⟨bk,off + i,none⟩:=by
          unfold Addr.add
          split
          · rename_i e; subst e; rfl
          · rfl
        rw [h2] at h1
        unfold World.cell? at h1
        simp only [hh,Option.isSome_none,Bool.false_eq_true,if_false] at h1
        rw [h1]
        congr 2
        simp only [List.getElem_map,List.getElem_take]
        rw [List.getD_eq_getElem?_getD,List.getElem?_eq_getElem hi']
        rfl
    · exact nomatch hsh
theorem again {H:Type} {enc:TypeId × Value→H} {W W':World} {v:Value} {d:DataW H} {p:List MemPlace} (hkeep:∀ b,b < W.heap.size→W'.heap[b]?=W.heap[b]?)
    (h:DataW.Trod enc Tryz.prog W 0 (λ _=>true) true 33 v d p):DataW.Trod enc Tryz.prog W' 0 (λ b=>decide (b < W.heap.size)) true 33 v d p:=by
  have hlt:∀ q ∈ p,q.block < W.heap.size:=by
    obtain ⟨n,hn⟩:=h
    exact DataW.trod_lt n _ _ _ hn
  obtain ⟨n,hn⟩:=DataW.Trod.respare (spare':=λ b=>decide (b < W.heap.size)) kids2 full2 (.inl rfl) h (λ q hq=>decide_eq_true (hlt q hq))
  refine ⟨n,DataW.trod_carry n _ _ _ hn λ q hq=>?_⟩
  have hq:=hkeep _ (hlt q hq)
  cases q with
  | cell b off =>
    show W'.cell? ⟨b,off,none⟩=W.cell? ⟨b,off,none⟩
    unfold World.cell?
    rw [show W'.heap[b]?=W.heap[b]? from hq]
  | map b=>exact hq
def agreeSpec (s:ChangeSpec):Prop:=s.vars=[]∧∀ H d1 d2,s.fn H [d1,d2]={ results:=[.lit (.bool true)],args:=[d1,d2] }
theorem lifted2 {s:ChangeSpec} (hs:agreeSpec s) {f:FuncId} {fn:Func} (hf:Tryz.prog.funcs[f]?=some fn) (hpar:fn.params=#[33,33]) (hres:fn.resultTypes=#[4]) (noInit:Tryz.prog.inits.idxOf? f=none)
    (hcalls:∀ W:World,Rel Tryz.prog renG (hzG glob) W→∀ v w l l',Arg W v l→Arg W w l'→Calls Tryz.prog f #[v,w] W λ e W'=>e=.returned (.bool true)∧W.heap.size≤W'.heap.size∧(∀ b,b < W.heap.size→W'.heap[b]?=W.heap[b]?)∧W'.os=W.os∧W'.output=W.output)
    (os:Os) (started:os.Started) (H:Type) (enc:TypeId × Value→H)
    (hok:Input.okWideB Tryz.prog ((World.laidAll Tryz.prog os laidL).forCall (λ _ _=>0) ⟨#[],nilA,[]⟩) f ⟨#[],nilA,[]⟩=true)
    (hpre:s.preB enc Tryz.prog fn [] false ((World.laidAll Tryz.prog os laidL).forCall (λ _ _=>0) ⟨#[],nilA,[]⟩).memory nilA 8=true)
    (hsz:s.sizedB enc Tryz.prog fn false ((World.laidAll Tryz.prog os laidL).forCall (λ _ _=>0) ⟨#[],nilA,[]⟩).memory nilA 8=true) :
    ReturnsInHanded {} Tryz.checked os f .any (λ w args=>(s.pre enc Tryz.prog fn [] false w args∧laidMetH Tryz.prog laidL w)∧sizedMet enc Tryz.prog fn (OpenSpec.ofChange s) false w args)
      (s.post enc Tryz.prog fn false true false false):=by
  refine returnsInHanded_of_calls (C:=Tryz.checked) own started noInit
    (ChangeSpec.witness_shaped (enc:=enc) (C:=Tryz.checked) (os:=os) (X:=λ w _=>laidMetH Tryz.prog laidL w) false (World.laidAll Tryz.prog os laidL) nilA 8 (World.laidAll_os _ _ _) (first_shaped os) hok hpre hsz (by rw [MakeChecks.laidMetH_plain _ _ _ (by kernel_rfl)]; exact first_met os _)) ?_
  intro w tape i _ hsh _ hokW hp _
  obtain ⟨⟨⟨ds,gs,before,hW,hc⟩,hL⟩,_⟩:=hp
  have hW':=DataW.Whole.of_heap (w':=w.forCall tape i) (by rfl) hW
  have hL':laidMetH Tryz.prog laidL (w.forCall tape i):=hL.of_heap (by rfl)
  rw [MakeChecks.laidMetH_plain _ _ _ (by kernel_rfl)] at hL'
  have hWk:=hW'
  obtain ⟨p,q,hA,hV,hb,_⟩:=hWk
  rw [hpar] at hA
  rw [hs.1] at hV
  obtain ⟨rfl,rfl⟩:=trodVars_none hV
  obtain ⟨v0,v1,d0,d1,p0,p1,ha,rfl,rfl,h0,h1⟩:=trodAll_two hA
  obtain ⟨_,_,_,fn',hfn',_,_,_,_,hval⟩:=hokW
  have hfn:fn'=fn:=Option.some.inj (hfn'.symm.trans hf)
  subst hfn
  obtain ⟨l0,a0⟩:=arg_of (hval 0 33 v0 (by rw [hpar]; rfl) (by rw [ha]; rfl)) h0
  obtain ⟨l1,a1⟩:=arg_of (hval 1 33 v1 (by rw [hpar]; rfl) (by rw [ha]; rfl)) h1
  rw [ha] at hW' ⊢
  refine (hcalls _ (start_rel hsh hL') v0 v1 l0 l1 a0 a1).mono ?_
  rintro e W' ⟨rfl,hsize,hkeep,hos,hout⟩
  refine ChangeSpec.post_blind (W:=w.forCall tape i) (W':=W') ⟨[d0,d1],[],before,[],p0 ++ p1,[],hW',?_,?_,?_,?_,λ h=>by cases h⟩
  · rw [hres,show s.fn H ([d0,d1] ++ [])=_ from hs.2 H d0 d1]
    exact trodAll_mk1 (shut_bool Tryz.underlying4 true)
  · rw [hpar,show s.fn H ([d0,d1] ++ [])=_ from hs.2 H d0 d1]
    exact trodAll_mk2 (again hkeep h0) (again hkeep h1)
  · rw [hs.1,show s.fn H ([d0,d1] ++ [])=_ from hs.2 H d0 d1]
    rfl
  · refine ⟨hos,hout,λ k hk=>?_⟩
    rw [hkeep k hk]
    have h:=World.keptBut_refl (w.forCall tape i) (λ _=>False)
    have:=h.2.2 k hk
    revert this
    cases (w.forCall tape i).heap[k]? with
    | none=>exact λ h=>h
    | some o=>cases o <;> intro h <;> first | exact ⟨rfl,rfl,rfl,λ _ _=>rfl⟩ | exact .inr ⟨rfl,rfl⟩ | exact h
end Go.Proofs.YtdibeojmiobklaaGreatDoor
