/-
  THE START: what the row's premise gives of memory.
-/
import Derived.Test.YtpdachddebkebaaGreatDoorLb
import Derived.OpenShut
import Derived.Test.YtpdachddebkebaaGreatDoorRows
import Derived.ProofKit
import Derived.LaidMore
import Derived.Stop.Joined
import Derived.MakeChecks
set_option linter.unusedVariables false
set_option linter.unusedSimpArgs false
namespace Go.Ev
open Go F Go.Proofs Go.Proofs.YtpdachddebkebaaGreatDoor
set_option maxRecDepth 100000
set_option linter.unusedVariables false

theorem ints_of_array {H : Type} {enc : TypeId × Value → H} {P : Program} {w : World} {base : Nat} {sp : Nat → Bool} {held : Bool} {fuel : Nat} {t e : TypeId} {n : Nat} {k : IntKind} {cs : List Value} {zs : List Int} {p : List MemPlace}
    (ht : P.underlying t = some (.array n e)) (he : P.underlying e = some (.int k)) (hc : P.cellsOf e = 1) (h : DataW.trod enc P w base sp held fuel t cs = some (.agg (zs.map fun z => .lit (.int k z)), p)) (i : Nat) (z : Int) (hz : zs[i]? = some z) : cs[i]? = some (.int k z) := by
  obtain ⟨xs, m, rfl, hx, hl, hn, hel⟩ := DataW.trod_array ht h
  simp only [Prod.mk.injEq, DataW.agg.injEq] at hx
  have hlen : zs.length = xs.length := by have := congrArg List.length hx.1; simpa using this
  have hi : i < zs.length := (List.getElem?_eq_some_iff.1 hz).1
  have h1 := hel i (by omega)
  obtain ⟨b, hb⟩ : ∃ b, xs[i]? = some b := ⟨xs[i]'(by omega), List.getElem?_eq_getElem (by omega)⟩
  rw [hb, hc] at h1
  obtain ⟨z', hcz, hbz, _⟩ := DataW.trod_int he h1
  have h2 : cs[i]? = some (.int k z') := by
    have := congrArg (·[0]?) hcz
    simpa [List.getElem?_take, List.getElem?_drop] using this
  have h3 := congrArg (·[i]?) hx.1
  simp only [List.getElem?_map, hb, hz, Option.map_some, hbz, Option.some.injEq, DataW.lit.injEq, Lit.int.injEq, true_and] at h3
  rw [h2, h3]

theorem u8L_get : ∀ (l : List Nat) (i : Nat), (u8L l)[i]? = l[i]?.map fun a => Value.int .u8 (.ofNat a)
  | [], _ => rfl
  | a :: l, 0 => rfl
  | a :: l, i + 1 => u8L_get l i
theorem u64L_get : ∀ (l : List Nat) (i : Nat), (u64L l)[i]? = l[i]?.map fun a => Value.int .u64 (.ofNat a)
  | [], _ => rfl
  | a :: l, 0 => rfl
  | a :: l, i + 1 => u64L_get l i

/-- A variable that is an array of numbers. -/
theorem row_of {W : World} {name : String} {g : Nat} {t e : TypeId} {k : IntKind} {l : List Nat} {L : List Value} {d : DataW Unit} (hsh : W.ShapedOpen Tryz.prog) (hg : Tryz.prog.globalNamed name = some g) (hlt : g < Tryz.prog.globals.size) (zero : Array Value)
    (h0 : (((begin Tryz.prog (fun _ _ => 0) default).world.heap[g]?).bind Obj.row?) = some (zero, t)) (hsz : zero.size = l.length) (hty : (Tryz.prog.globals[g]?).map (·.type) = some t) (ht : Tryz.prog.underlying t = some (.array l.length e)) (he : Tryz.prog.underlying e = some (.int k)) (hc : Tryz.prog.cellsOf e = 1)
    (hd : d = .agg ((l.map Int.ofNat).map fun z => .lit (.int k z))) (hL : ∀ i : Nat, L[i]? = l[i]?.map fun a => Value.int k (.ofNat a))
    (hr : ∃ g t cs fuel p, Tryz.prog.globalNamed name = some g ∧ (Tryz.prog.globals[g]?).map (·.type) = some t ∧ W.var? Tryz.prog name = some cs ∧ DataW.trod (fun _ => ()) Tryz.prog W 0 (fun _ => true) false fuel t cs.toList = some (d, p)) (ρ : Ren) :
    ORel Tryz.prog ρ W (g, 0) (.row t l.length false true 0 (T.ofList undef L)) ∧ g < W.heap.size := by
  obtain ⟨g', t', cs', fuel, p, e1, e2, e3, e4⟩ := hr
  obtain rfl := Option.some.inj (hg.symm.trans e1)
  obtain rfl := Option.some.inj (hty.symm.trans e2)
  obtain ⟨cs, hh, hs, _⟩ := hsh.1 g zero t hlt h0
  have hcs : cs' = cs := by
    unfold World.var? at e3
    rw [hg] at e3
    simp only [Option.bind_some, hh, Option.some.injEq] at e3
    exact e3.symm
  subst hcs
  refine ⟨⟨cs', (0, 0), hh, by omega, fun _ => ⟨by omega, rfl⟩, fun q => (nomatch q), fun i hi => ?_, Nat.le_refl _⟩, (Array.getElem?_eq_some_iff.1 hh).1⟩
  have hz : (l.map Int.ofNat)[i]? = some (Int.ofNat l[i]) := by simp [hi]
  have h1 := ints_of_array ht he hc (hd ▸ e4) i _ hz
  refine ⟨.int k (.ofNat l[i]), by rw [← Array.getElem?_toList]; exact h1, ?_⟩
  rw [T.get_ofList, List.getD_eq_getElem?_getD, hL i]
  simp only [List.getElem?_eq_getElem hi, Option.map_some, Option.getD_some]
  exact .inr rfl

theorem z32 : (((begin Tryz.prog (fun _ _ => 0) default).world.heap[1]?).bind Obj.row?) = some (⟨List.replicate 32 (.int .u8 0)⟩, 372) := by kernel_rfl
theorem z64 : (((begin Tryz.prog (fun _ _ => 0) default).world.heap[2]?).bind Obj.row?) = some (⟨List.replicate 64 (.int .u8 0)⟩, 373) := by kernel_rfl
theorem z20 : (((begin Tryz.prog (fun _ _ => 0) default).world.heap[3]?).bind Obj.row?) = some (⟨List.replicate 20 (.int .u64 0)⟩, 404) := by kernel_rfl

def laidL : List (String × DataW Unit) := [("math/bits.deBruijn32tab", Rows.laid_math_bits_deBruijn32tab), ("math/bits.deBruijn64tab", Rows.laid_math_bits_deBruijn64tab), ("internal/strconv.uint64pow10", Rows.laid_internal_strconv_uint64pow10)]

theorem start_rel {W : World} (hsh : W.ShapedOpen Tryz.prog) (hl : laidMet Tryz.prog laidL W) : Rel Tryz.prog renG (hzG glob) W := by
  obtain ⟨ps, ⟨g1, t1, cs1, f1, p1, q1, hg1, ht1, hv1, hd1, ⟨g2, t2, cs2, f2, p2, q2, hg2, ht2, hv2, hd2, ⟨g3, t3, cs3, f3, p3, q3, hg3, ht3, hv3, hd3, _, _⟩, _⟩, _⟩, _, _⟩ := hl
  have r1 := row_of (l := l32) (L := u8L l32) (k := .u8) (e := 5) hsh (name := "math/bits.deBruijn32tab") (g := 1) (by kernel_rfl) (of_decide_eq_true (by kernel_rfl)) _ z32 (by kernel_rfl) (by kernel_rfl) (by kernel_rfl) (by kernel_rfl) (by kernel_rfl) (d := Rows.laid_math_bits_deBruijn32tab) (by kernel_rfl) (u8L_get _) ⟨_, _, _, _, _, hg1, ht1, hv1, hd1⟩ renG
  have r2 := row_of (l := l64) (L := u8L l64) (k := .u8) (e := 5) hsh (name := "math/bits.deBruijn64tab") (g := 2) (by kernel_rfl) (of_decide_eq_true (by kernel_rfl)) _ z64 (by kernel_rfl) (by kernel_rfl) (by kernel_rfl) (by kernel_rfl) (by kernel_rfl) (d := Rows.laid_math_bits_deBruijn64tab) (by kernel_rfl) (u8L_get _) ⟨_, _, _, _, _, hg2, ht2, hv2, hd2⟩ renG
  have r3 := row_of (l := l20) (L := u64L l20) (k := .u64) (e := 22) hsh (name := "internal/strconv.uint64pow10") (g := 3) (by kernel_rfl) (of_decide_eq_true (by kernel_rfl)) _ z20 (by kernel_rfl) (by kernel_rfl) (by kernel_rfl) (by kernel_rfl) (by kernel_rfl) (d := Rows.laid_internal_strconv_uint64pow10) (by kernel_rfl) (u64L_get _) ⟨_, _, _, _, _, hg3, ht3, hv3, hd3⟩ renG
  have hren : ∀ id p, renG id = some p → id < 16 ∧ p = (id, 0) := by
    intro id p e
    unfold renG at e
    split at e
    · cases e; exact ⟨by assumption, rfl⟩
    · exact nomatch e
  have hdead : ∀ id, (hzG glob).objs.get (id + 4) = .dead := fun id => by rw [get_hzG]; rfl
  have hzero : (hzG glob).objs.get 0 = .dead := by rw [get_hzG]; rfl
  constructor
  · intro id p e; exact (hren id p e).1
  · intro i j p q e1 e2 _ _ e
    rw [(hren i p e1).2, (hren j q e2).2] at e
    exact e
  · intro id p e
    obtain ⟨hl, rfl⟩ := hren id p e
    match id with
    | 0 => rw [hzero]; trivial
    | 1 => rw [get_hzG]; exact r1.1
    | 2 => rw [get_hzG]; exact r2.1
    | 3 => rw [get_hzG]; exact r3.1
    | n + 4 => rw [hdead]; trivial
  · intro id e
    have : (16:Nat) + 1 < 2 ^ deep := by decide
    match id with
    | 0 => omega
    | 1 => omega
    | 2 => omega
    | 3 => omega
    | n + 4 => rw [hdead] at e; exact nomatch e
  · intro id e
    have : 16 ≤ id := e
    obtain ⟨m, rfl⟩ : ∃ m, id = m + 4 := ⟨id - 4, by omega⟩
    exact hdead m
  · intro g hg; simp [renG, hg]
  · intro id p e hl
    obtain ⟨_, rfl⟩ := hren id p e
    match id with
    | 0 => rw [hzero] at hl; exact nomatch hl
    | 1 => exact r1.2
    | 2 => exact r2.2
    | 3 => exact r3.2
    | n + 4 => rw [hdead] at hl; exact nomatch hl

theorem calls_true {t : ExtT} (ht : ExtAll t) {f : FuncId} {fn : Func} (hf : Tryz.prog.funcs[f]? = some fn) (hbody : fn.body.isNone = false) (hname : (fn.name == "runtime.NumGoroutine") = false) (hrun : runAt t f) {W : World} (hr : Rel Tryz.prog renG (hzG glob) W) :
    Calls Tryz.prog f #[] W fun e W' => e = .returned (.bool true) ∧ W.heap.size ≤ W'.heap.size ∧ (∀ b, b < W.heap.size → W'.heap[b]? = W.heap[b]?) ∧ W'.os = W.os ∧ W'.output = W.output := by
  have hs : sameG glob 0 (hzG glob) = true := by kernel_rfl
  have hx := trueG_ok (env_of t ht) (callS_ok t 1000) glob_ok hrun renG (hzG glob) W [] [] (.bool true) (hzG glob) hr trivial (by unfold trueG; rw [hs]; rfl)
  rcases hx with ⟨v', ρ', w', h1, _, _⟩ | ⟨fn', _, _, _, h2⟩
  · exfalso
    unfold callFunc at h1
    rw [Sem.run_bind, run_program] at h1
    simp only [Result.andThen_ok, hf, hname, hbody, Bool.false_eq_true, if_false] at h1
    exact nomatch h1
  · refine h2.mono ?_
    rintro e W' ⟨ρ', v', rfl, hv, s⟩
    rw [hv.bool]
    exact ⟨rfl, s.size, fun b hb => s.same b hb (wr_G glob_ok b), s.os, s.output⟩
end Go.Ev
namespace Go.Proofs.YtpdachddebkebaaGreatDoor
open Go Go.Ev Go.ChangeShapes Go.WideShapes Go.ChangeAt Go.RowKit
set_option maxRecDepth 100000

theorem own : ownKnob Tryz.prog.godebug = none := by kernel_rfl
theorem door_met (os : Os) (args : Array Value) : laidMetH Tryz.prog laidL ((World.doorLaid Tryz.prog 24 os).forCall (fun _ _ => 0) ⟨#[], args, []⟩).memory :=
  laidMetH_of_parts3 (fuel := 8) (laidMet_of_run' 8 (by kernel_rfl) (by kernel_rfl)) (by kernel_rfl) (by kernel_rfl)
theorem door_shaped (os : Os) : ((World.doorLaid Tryz.prog 24 os).forCall (fun _ _ => 0) ⟨#[], #[], []⟩).Shaped Tryz.prog := World.shaped_of_RefB (by kernel_rfl) (by kernel_rfl)

def trueSpec (s : ChangeSpec) : Prop := s.vars = [] ∧ ∀ H, s.fn H [] = { results := [.lit (.bool true)], args := [] }

theorem lifted {s : ChangeSpec} (hs : trueSpec s) {f : FuncId} {fn : Func} (hf : Tryz.prog.funcs[f]? = some fn) (hpar : fn.params = #[]) (hres : fn.resultTypes = #[4]) (noInit : Tryz.prog.inits.idxOf? f = none)
    (hcalls : ∀ W : World, Rel Tryz.prog renG (hzG glob) W → Calls Tryz.prog f #[] W fun e W' => e = .returned (.bool true) ∧ W.heap.size ≤ W'.heap.size ∧ (∀ b, b < W.heap.size → W'.heap[b]? = W.heap[b]?) ∧ W'.os = W.os ∧ W'.output = W.output)
    (os : Os) (started : os.Started) (H : Type) (enc : TypeId × Value → H)
    (hok : Input.okWideB Tryz.prog ((World.doorLaid Tryz.prog 24 os).forCall (fun _ _ => 0) ⟨#[], #[], []⟩) f ⟨#[], #[], []⟩ = true)
    (hpre : s.preB enc Tryz.prog fn [] false ((World.doorLaid Tryz.prog 24 os).forCall (fun _ _ => 0) ⟨#[], #[], []⟩).memory #[] 8 = true)
    (hsz : s.sizedB enc Tryz.prog fn false ((World.doorLaid Tryz.prog 24 os).forCall (fun _ _ => 0) ⟨#[], #[], []⟩).memory #[] 8 = true) :
    ReturnsInHanded {} Tryz.checked os f .any (fun w args => (s.pre enc Tryz.prog fn [] false w args ∧ laidMetH Tryz.prog laidL w) ∧ sizedMet enc Tryz.prog fn (OpenSpec.ofChange s) false w args)
      (s.post enc Tryz.prog fn false true false false) := by
  refine returnsInHanded_of_calls (C := Tryz.checked) own started noInit
    (ChangeSpec.witness_shaped (enc := enc) (C := Tryz.checked) (os := os) (X := fun w _ => laidMetH Tryz.prog laidL w) false (World.doorLaid Tryz.prog 24 os) #[] 8 rfl (door_shaped os) hok hpre hsz (door_met os _)) ?_
  intro w tape i _ hsh _ hokW hp _
  obtain ⟨⟨⟨ds, gs, before, hW, hc⟩, hL⟩, _⟩ := hp
  have hW' := DataW.Whole.of_heap (w' := w.forCall tape i) (by rfl) hW
  have hL' : laidMetH Tryz.prog laidL (w.forCall tape i) := hL.of_heap (by rfl)
  rw [MakeChecks.laidMetH_plain _ _ _ (by kernel_rfl)] at hL'
  have hargs : i.args = #[] ∧ ds = [] ∧ gs = [] ∧ before = [] := by
    obtain ⟨p, q, hA, hV, hb, _⟩ := hW
    rw [hpar] at hA
    rw [hs.1] at hV
    obtain ⟨rfl, rfl⟩ := trodVars_none hV
    cases ha : i.args.toList with
    | cons a l => rw [ha] at hA; exact hA.elim
    | nil =>
      rw [ha] at hA
      cases ds with
      | cons d l => exact hA.elim
      | nil =>
        refine ⟨Array.toList_eq_nil_iff.1 ha, rfl, rfl, ?_⟩
        rw [hb, show p = [] from hA]
        rfl
  obtain ⟨ha, rfl, rfl, rfl⟩ := hargs
  rw [ha] at hW' ⊢
  refine (hcalls _ (start_rel hsh hL')).mono ?_
  rintro e W' ⟨rfl, hsize, hkeep, hos, hout⟩
  refine ChangeSpec.post_blind (W := w.forCall tape i) (W' := W') ⟨[], [], [], [], [], [], hW', ?_, ?_, ?_, ?_, fun h => by cases h⟩
  · rw [hres, show s.fn H ([] ++ []) = _ from hs.2 H]
    exact trodAll_mk1 (shut_bool Tryz.underlying4 true)
  · rw [hpar, show s.fn H ([] ++ []) = _ from hs.2 H]
    rfl
  · rw [hs.1, show s.fn H ([] ++ []) = _ from hs.2 H]
    rfl
  · refine ⟨hos, hout, fun k hk => ?_⟩
    rw [hkeep k hk]
    have h := World.keptBut_refl (w.forCall tape i) (fun _ => False)
    have := h.2.2 k hk
    revert this
    cases (w.forCall tape i).heap[k]? with
    | none => exact fun h => h
    | some o => cases o <;> intro h <;> first | exact ⟨rfl, rfl, rfl, fun _ _ => rfl⟩ | exact .inr ⟨rfl, rfl⟩ | exact h
end Go.Proofs.YtpdachddebkebaaGreatDoor
