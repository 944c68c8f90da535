/-
  THE START: what the row's premise gives of memory.
-/
import Derived.Test.YtdibeojmiobklaaGreatDoorLb
import Derived.OpenShut
import Derived.Test.YtdibeojmiobklaaGreatDoorRows
import Derived.Lay
import Derived.LaidMore
import Derived.MakeChecks
set_option linter.unusedVariables false
set_option linter.unusedSimpArgs false
namespace Go.Ev
open Go F Go.Proofs Go.Proofs.YtdibeojmiobklaaGreatDoor
set_option maxRecDepth 100000
set_option linter.unusedVariables false
theorem ints_of_array {H:Type} {enc:TypeId × Value→H} {P:Program} {w:World} {base:Nat} {sp:Nat→Bool} {held:Bool} {fuel:Nat} {t e:TypeId} {n:Nat} {k:IntKind} {cs:List Value} {zs:List Int} {p:List MemPlace}
    (ht:P.underlying t=some (.array n e)) (he:P.underlying e=some (.int k)) (hc:P.cellsOf e=1) (h:DataW.trod enc P w base sp held fuel t cs=some (.agg (zs.map λ z=>.lit (.int k z)),p)) (i:Nat) (z:Int) (hz:zs[i]?=some z):cs[i]?=some (.int k z):=by
  obtain ⟨xs,m,rfl,hx,hl,hn,hel⟩:=DataW.trod_array ht h
  simp only [Prod.mk.injEq,DataW.agg.injEq] at hx
  have hlen:zs.length=xs.length:=by have:=congrArg List.length hx.1; simpa using this
  have hi:i < zs.length:=(List.getElem?_eq_some_iff.1 hz).1
  have h1:=hel i (by omega)
  obtain ⟨b,hb⟩:∃ b,xs[i]?=some b:=⟨xs[i]'(by omega),List.getElem?_eq_getElem (by omega)⟩
  rw [hb,hc] at h1
  obtain ⟨z',hcz,hbz,_⟩:=DataW.trod_int he h1
  have h2:cs[i]?=some (.int k z'):=by
    have:=congrArg (·[0]?) hcz
    simpa [List.getElem?_take,List.getElem?_drop] using this
  have h3:=congrArg (·[i]?) hx.1
  simp only [List.getElem?_map,hb,hz,Option.map_some,hbz,Option.some.injEq,DataW.lit.injEq,Lit.int.injEq,true_and] at h3
  rw [h2,h3]
theorem u8L_get:∀ (l:List Nat) (i:Nat),(u8L l)[i]?=l[i]?.map λ a=>Value.int .u8 (.ofNat a)
  | [],_=>rfl
  | a :: l,0=>rfl
  | a :: l,i + 1=>u8L_get l i
theorem u64L_get:∀ (l:List Nat) (i:Nat),(u64L l)[i]?=l[i]?.map λ a=>Value.int .u64 (.ofNat a)
  | [],_=>rfl
  | a :: l,0=>rfl
  | a :: l,i + 1=>u64L_get l i
theorem row_of {W:World} {name:String} {g:Nat} {t e:TypeId} {k:IntKind} {l:List Nat} {L:List Value} {d:DataW Unit} (hsh:W.ShapedOpen Tryz.prog) (hg:Tryz.prog.globalNamed name=some g) (hlt:g < Tryz.prog.globals.size) (zero:Array Value)
    (h0:(((begin Tryz.prog (λ _ _=>0) default).world.heap[g]?).bind Obj.row?)=some (zero,t)) (hsz:zero.size=l.length) (hty:(Tryz.prog.globals[g]?).map (·.type)=some t) (ht:Tryz.prog.underlying t=some (.array l.length e)) (he:Tryz.prog.underlying e=some (.int k)) (hc:Tryz.prog.cellsOf e=1)
    (hd:d=.agg ((l.map Int.ofNat).map λ z=>.lit (.int k z))) (hL:∀ i:Nat,L[i]?=l[i]?.map λ a=>Value.int k (.ofNat a))
    (hr:∃ g t cs fuel p,Tryz.prog.globalNamed name=some g∧(Tryz.prog.globals[g]?).map (·.type)=some t∧W.var? Tryz.prog name=some cs∧DataW.trod (λ _=>()) Tryz.prog W 0 (λ _=>true) false fuel t cs.toList=some (d,p)) (ρ:Ren) :
    ORel Tryz.prog ρ W (g,0) (.row t l.length false true 0 (T.ofList undef L))∧g < W.heap.size:=by
  obtain ⟨g',t',cs',fuel,p,e1,e2,e3,e4⟩:=hr
  obtain rfl:=Option.some.inj (hg.symm.trans e1)
  obtain rfl:=Option.some.inj (hty.symm.trans e2)
  obtain ⟨cs,hh,hs,_⟩:=hsh.1 g zero t hlt h0
  have hcs:cs'=cs:=by
    unfold World.var? at e3
    rw [hg] at e3
    simp only [Option.bind_some,hh,Option.some.injEq] at e3
    exact e3.symm
  subst hcs
  refine ⟨⟨cs',(0,0),hh,by omega,λ _=>⟨by omega,rfl⟩,λ q=>(nomatch q),λ i hi=>?_,.inl rfl⟩,(Array.getElem?_eq_some_iff.1 hh).1⟩
  have hz:(l.map Int.ofNat)[i]?=some (Int.ofNat l[i]):=by simp [hi]
  have h1:=ints_of_array ht he hc (hd ▸ e4) i _ hz
  refine ⟨.int k (.ofNat l[i]),by rw [← Array.getElem?_toList]; exact h1,?_⟩
  rw [T.get_ofList,List.getD_eq_getElem?_getD,hL i]
  simp only [List.getElem?_eq_getElem hi,Option.map_some,Option.getD_some]
  exact .inr rfl
theorem z32:(((begin Tryz.prog (λ _ _=>0) default).world.heap[2]?).bind Obj.row?)=some (⟨List.replicate 32 (.int .u8 0)⟩,384):=by kernel_rfl
theorem z64:(((begin Tryz.prog (λ _ _=>0) default).world.heap[3]?).bind Obj.row?)=some (⟨List.replicate 64 (.int .u8 0)⟩,385):=by kernel_rfl
theorem z20:(((begin Tryz.prog (λ _ _=>0) default).world.heap[0]?).bind Obj.row?)=some (⟨List.replicate 20 (.int .u64 0)⟩,286):=by kernel_rfl
def laidL : List (String × DataW Unit) := [("unicode/utf8.first", Rows.laid_unicode_utf8_first), ("unicode/utf8.acceptRanges", Rows.laid_unicode_utf8_acceptRanges), ("strconv.ErrSyntax", Rows.laid_strconv_ErrSyntax), ("strconv.ErrRange", Rows.laid_strconv_ErrRange), ("internal/strconv.uint64pow10", Rows.laid_internal_strconv_uint64pow10), ("math/bits.deBruijn32tab", Rows.laid_math_bits_deBruijn32tab), ("math/bits.deBruijn64tab", Rows.laid_math_bits_deBruijn64tab)]
theorem start_rel {W:World} (hsh:W.ShapedOpen Tryz.prog) (hl:laidMet Tryz.prog laidL W):Rel Tryz.prog renG (hzG glob) W:=by
  obtain ⟨ps,⟨_,_,_,_,_,_,_,_,_,_,⟨_,_,_,_,_,_,_,_,_,_,⟨_,_,_,_,_,_,_,_,_,_,⟨_,_,_,_,_,_,_,_,_,_,⟨g3,t3,cs3,f3,p3,q3,hg3,ht3,hv3,hd3,⟨g1,t1,cs1,f1,p1,q1,hg1,ht1,hv1,hd1,⟨g2,t2,cs2,f2,p2,q2,hg2,ht2,hv2,hd2,_,_⟩,_⟩,_⟩,_⟩,_⟩,_⟩,_⟩,_,_⟩:=hl
  have r1 := row_of (l := l32) (L := u8L l32) (k := .u8) (e := 5) hsh (name := "math/bits.deBruijn32tab") (g := 2) (by kernel_rfl) (of_decide_eq_true (by kernel_rfl)) _ z32 (by kernel_rfl) (by kernel_rfl) (by kernel_rfl) (by kernel_rfl) (by kernel_rfl) (d := Rows.laid_math_bits_deBruijn32tab) (by kernel_rfl) (u8L_get _) ⟨_, _, _, _, _, hg1, ht1, hv1, hd1⟩ renG
  have r2 := row_of (l := l64) (L := u8L l64) (k := .u8) (e := 5) hsh (name := "math/bits.deBruijn64tab") (g := 3) (by kernel_rfl) (of_decide_eq_true (by kernel_rfl)) _ z64 (by kernel_rfl) (by kernel_rfl) (by kernel_rfl) (by kernel_rfl) (by kernel_rfl) (d := Rows.laid_math_bits_deBruijn64tab) (by kernel_rfl) (u8L_get _) ⟨_, _, _, _, _, hg2, ht2, hv2, hd2⟩ renG
  have r3 := row_of (l := l20) (L := u64L l20) (k := .u64) (e := 25) hsh (name := "internal/strconv.uint64pow10") (g := 0) (by kernel_rfl) (of_decide_eq_true (by kernel_rfl)) _ z20 (by kernel_rfl) (by kernel_rfl) (by kernel_rfl) (by kernel_rfl) (by kernel_rfl) (d := Rows.laid_internal_strconv_uint64pow10) (by kernel_rfl) (u64L_get _) ⟨_, _, _, _, _, hg3, ht3, hv3, hd3⟩ renG
  have hren:∀ id p,renG id=some p→id < 16∧p=(id,0):=by
    intro id p e
    unfold renG at e
    split at e
    · cases e; exact ⟨by assumption,rfl⟩
    · exact nomatch e
  have hdead:∀ id,(hzG glob).objs.get (id + 4)=.dead:=λ id=>by rw [get_hzG]; rfl
  have hone:(hzG glob).objs.get 1=.dead:=by rw [get_hzG]; rfl
  constructor
  · intro id p e; exact (hren id p e).1
  · intro i j p q e1 e2 _ _ e
    rw [(hren i p e1).2,(hren j q e2).2] at e
    exact e
  · intro id p e
    obtain ⟨hl,rfl⟩:=hren id p e
    match id with
    | 0=>rw [get_hzG]; exact r3.1
    | 1=>rw [hone]; trivial
    | 2=>rw [get_hzG]; exact r1.1
    | 3=>rw [get_hzG]; exact r2.1
    | n + 4=>rw [hdead]; trivial
  · intro id e
    have:(16:Nat) + 1 < 2 ^ deep:=by decide
    match id with
    | 0=>omega
    | 1=>omega
    | 2=>omega
    | 3=>omega
    | n + 4=>rw [hdead] at e; exact nomatch e
  · intro id e
    have:16≤id:=e
    obtain ⟨m,rfl⟩:∃ m,id=m + 4:=⟨id - 4,by omega⟩
    exact hdead m
  · intro g hg; simp [renG,hg]
  · intro id p e hl
    obtain ⟨_,rfl⟩:=hren id p e
    match id with
    | 0=>exact r3.2
    | 1=>rw [hone] at hl; exact nomatch hl
    | 2=>exact r1.2
    | 3=>exact r2.2
    | n + 4=>rw [hdead] at hl; exact nomatch hl
end Go.Ev
namespace Go.Proofs.YtdibeojmiobklaaGreatDoor
open Go Go.Ev
set_option maxRecDepth 100000
set_option linter.unusedVariables false
def nilA:Array Value:=#[.string ⟨⟨[]⟩⟩,.string ⟨⟨[]⟩⟩]
theorem first_met (os:Os) (args:Array Value):laidMet Tryz.prog laidL ((World.laidAll Tryz.prog os laidL).forCall (λ _ _=>0) ⟨#[],args,[]⟩).memory :=
  laidMet_laidAll _ (by kernel_rfl) (by kernel_rfl)
end Go.Proofs.YtdibeojmiobklaaGreatDoor
namespace Go.Proofs.YtdibeojmiobklaaGreatDoor
open Go Go.Ev
set_option maxRecDepth 100000
theorem first_shaped (os:Os):((World.laidAll Tryz.prog os laidL).forCall (λ _ _=>0) ⟨#[],nilA,[]⟩).Shaped Tryz.prog:=World.shaped_of_ZipB (by kernel_rfl) (by kernel_rfl)
end Go.Proofs.YtdibeojmiobklaaGreatDoor
