/-
  THE ROW of one argument: the law's function answers true wherever the row's premise holds.
-/
import Derived.Test.YtlahhbdihpbbgaaGreatDoorVa
import Derived.ProofKit
import Derived.Stop.Joined
import Derived.SliceStrings
import Derived.ReadAgain
noncomputable section
set_option linter.unusedVariables false
set_option linter.unusedSimpArgs false
set_option maxRecDepth 100000
open Nat (ble beq)
namespace Go.Proofs.YtlahhbdihpbbgaaGreatDoor
open Go Go.Ev Go.ChangeShapes Go.WideShapes Go.ChangeAt Go.RowKit
theorem own:ownKnob Tryz.prog.godebug=none:=by kernel_rfl
theorem u9:Tryz.prog.underlying 9=some (.string):=by kernel_rfl
def T1 (t:TypeId):Prop:=t=9
theorem alz:Kids Tryz.prog T1:=by
 constructor
 ·rintro t e rfl h;rw[u9] at h;exact nomatch h
 ·rintro t e rfl h;rw[u9] at h;exact nomatch h
 ·rintro t e n rfl h;rw[u9] at h;exact nomatch h
 ·rintro t fs rfl h;rw[u9] at h;exact nomatch h
 ·rintro t k e rfl h;rw[u9] at h;exact nomatch h
theorem ak8:∀t e,T1 t->Tryz.prog.underlying t=some (.slice e)->0<Tryz.prog.cellsOf e:=by rintro t e rfl h;rw[u9] at h;exact nomatch h
theorem WI {W:World} {base:Nat} {v:Value} (hv:Value.okWide Tryz.prog W .any base 9 v):∃s:List UInt8,True/\v=.string ⟨⟨s⟩⟩:=by
 cases v <;> simp only[Value.okWide,Cell.okWide,Cell.ok,u9] at hv
 exact⟨_,trivial,rfl⟩
theorem again {H:Type} {enc:TypeId × Value->H} {W W':World} {v:Value} {d:DataW H} {p:List MemPlace} (hkeep:∀b,b<W.heap.size->W'.heap[b]?=W.heap[b]?)
  (h:DataW.Trod enc Tryz.prog W 0 (λ_=>true) true 9 v d p):DataW.Trod enc Tryz.prog W' 0 (λb=>decide (b<W.heap.size)) true 9 v d p:=by
 have hlt:∀q∈p,q.block<W.heap.size:=by obtain⟨n,hn⟩:=h;exact DataW.trod_lt n _ _ _ hn
 obtain⟨n,hn⟩:=DataW.Trod.respare (spare':=λb=>decide (b<W.heap.size)) alz ak8 rfl h (λq hq=>decide_eq_true (hlt q hq));refine⟨n,DataW.trod_carry n _ _ _ hn λq hq=>?_⟩;have hq:=hkeep _ (hlt q hq);cases q with
 | cell b off=> show W'.cell? ⟨b,off,none⟩=W.cell? ⟨b,off,none⟩;unfold World.cell?;rw[show W'.heap[b]?=W.heap[b]? from hq]
 | map b=>exact hq
def zG (s:ChangeSpec):Prop:=s.vars=[]/\∀H d1,s.fn H [d1]={ results:=[.lit (.bool true)],args:=[d1] }
theorem Lo {s:ChangeSpec} (hs:zG s) {f:FuncId} {fn:Func} (hf:Tryz.prog.funcs[f]?=some fn) (hpar:fn.params=#[9]) (hres:fn.resultTypes=#[4]) (noInit:Tryz.prog.inits.idxOf? f=none)
  (hcalls:∀(W:World) (m:Int) (u:TypeId) (off B:Nat),dU Tryz.prog (jE B) (kT m u off) W->∀(s:List UInt8),True->Calls Tryz.prog f #[.string ⟨⟨s⟩⟩] W λe W'=>e=.returned (.bool true)/\W.heap.size<=W'.heap.size/\(∀b,b<W.heap.size->W'.heap[b]?=W.heap[b]?)/\W'.os=W.os/\W'.output=W.output)
  (os:Os) (started:os.Started) (H:Type) (enc:TypeId × Value->H)
  (hok:Input.okWideB Tryz.prog ((World.laidAll Tryz.prog os iD).forCall (λ_ _=>0) ⟨#[],sC,[]⟩) f ⟨#[],sC,[]⟩=true)
  (hpre:s.preB enc Tryz.prog fn [] false ((World.laidAll Tryz.prog os iD).forCall (λ_ _=>0) ⟨#[],sC,[]⟩).memory sC 8=true)
  (hsz:s.sizedB enc Tryz.prog fn false ((World.laidAll Tryz.prog os iD).forCall (λ_ _=>0) ⟨#[],sC,[]⟩).memory sC 8=true):
  ReturnsInHanded {} Tryz.checked os f .any (λw args=>(s.pre enc Tryz.prog fn [] false w args/\laidMetH Tryz.prog iD w)/\sizedMet enc Tryz.prog fn (OpenSpec.ofChange s) false w args)
   (s.post enc Tryz.prog fn false true false false):=by
 refine returnsInHanded_of_calls (C:=Tryz.checked) own started noInit
  (ChangeSpec.witness_shaped (enc:=enc) (C:=Tryz.checked) (os:=os) (X:=λw _=>laidMetH Tryz.prog iD w) false (World.laidAll Tryz.prog os iD) sC 8 (World.laidAll_os _ _ _) (oQ os) hok hpre hsz (by rw[MakeChecks.laidMetH_plain _ _ _ (by kernel_rfl)];exact yc os _)) ?_
 intro w tape i _ hsh _ hokW hp _;obtain⟨⟨⟨ds,gs,before,hW,hc⟩,hL⟩,_⟩:=hp;have hW':=DataW.Whole.of_heap (w':=w.forCall tape i) (by rfl) hW;have hL':laidMetH Tryz.prog iD (w.forCall tape i):=hL.of_heap (by rfl);rw[MakeChecks.laidMetH_plain _ _ _ (by kernel_rfl)] at hL';have hWk:=hW';obtain⟨p,q,hA,hV,hb,_⟩:=hWk;rw[hpar] at hA;rw[hs.1] at hV;obtain⟨rfl,rfl⟩:=trodVars_none hV;obtain⟨v0,d0,ha,rfl,h0⟩:=trodAll_one hA;obtain⟨_,_,_,fn',hfn',_,_,_,_,hval⟩:=hokW;have hfn:fn'=fn:=Option.some.inj (hfn'.symm.trans hf);subst hfn;obtain⟨l0,hl0,rfl⟩:=WI (hval 0 9 v0 (by rw[hpar];rfl) (by rw[ha];rfl));rw[ha] at hW' ⊢;obtain⟨m,u,off,B,hrel⟩:=xF hsh hL';refine (hcalls _ m u off B hrel l0 hl0).mono ?_;rintro e W' ⟨rfl,hsize,hkeep,hos,hout⟩;refine ChangeSpec.post_blind (W:=w.forCall tape i) (W':=W') ⟨[d0],[],before,[],p,[],hW',?_,?_,?_,?_,λh=>by cases h⟩
 ·rw[hres,show s.fn H ([d0] ++ [])=_ from hs.2 H d0];exact trodAll_mk1 (shut_bool Tryz.underlying4 true)
 ·rw[hpar,show s.fn H ([d0] ++ [])=_ from hs.2 H d0];exact trodAll_mk1 (again hkeep h0)
 ·rw[hs.1,show s.fn H ([d0] ++ [])=_ from hs.2 H d0];rfl
 ·refine⟨hos,hout,λk hk=>?_⟩;rw[hkeep k hk];have h:=World.keptBut_refl (w.forCall tape i) (λ_=>False);have:=h.2.2 k hk
  revert this
  cases (w.forCall tape i).heap[k]? with
  | none=>exact λh=>h
  | some o=>cases o <;> intro h <;> first | exact⟨rfl,rfl,rfl,λ_ _=>rfl⟩ | exact .inr ⟨rfl,rfl⟩ | exact h
end Go.Proofs.YtlahhbdihpbbgaaGreatDoor
