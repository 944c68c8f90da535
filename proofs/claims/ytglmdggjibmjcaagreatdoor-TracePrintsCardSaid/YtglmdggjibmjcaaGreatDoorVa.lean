/-
  THE ROW's FIRST WORLD: the listed variables as the text leaves them; it is shaped.
-/
import Derived.Test.YtglmdggjibmjcaaGreatDoorSj
import Derived.OpenShut
import Derived.Test.YtglmdggjibmjcaaGreatDoorRows
import Derived.Lay
import Derived.LaidMore
import Derived.MakeChecks
noncomputable section
set_option linter.unusedVariables false
set_option linter.unusedSimpArgs false
set_option maxRecDepth 100000
set_option exponentiation.threshold 3000
open Nat (ble beq)
namespace Go.Ev
open Go F Go.Proofs Go.Proofs.YtglmdggjibmjcaaGreatDoor
theorem pY {H:Type} {enc:TypeId × Value->H} {P:Program} {w:World} {base:Nat} {sp:Nat->Bool} {held:Bool} {fuel:Nat} {t e:TypeId} {n:Nat} {k:IntKind} {cs:List Value} {zs:List Int} {p:List MemPlace}
  (ht:P.underlying t=some (.array n e)) (he:P.underlying e=some (.int k)) (hc:P.cellsOf e=1) (h:DataW.trod enc P w base sp held fuel t cs=some (.agg (zs.map λz=>.lit (.int k z)),p)) (i:Nat) (z:Int) (hz:zs[i]?=some z):cs[i]?=some (.int k z):=by
 obtain⟨xs,m,rfl,hx,hl,hn,hel⟩:=DataW.trod_array ht h;simp only[Prod.mk.injEq,DataW.agg.injEq] at hx;have hlen:zs.length=xs.length:=by have:=congrArg List.length hx.1;simpa using this
 have hi:i<zs.length:=(List.getElem?_eq_some_iff.1 hz).1;have h1:=hel i (by omega);obtain⟨b,hb⟩:∃b,xs[i]?=some b:=⟨xs[i]'(by omega),List.getElem?_eq_getElem (by omega)⟩;rw[hb,hc] at h1;obtain⟨z',hcz,hbz,_⟩:=DataW.trod_int he h1;have h2:cs[i]?=some (.int k z'):=by have:=congrArg (·[0]?) hcz;simpa [List.getElem?_take,List.getElem?_drop] using this
 have h3:=congrArg (·[i]?) hx.1;simp only[List.getElem?_map,hb,hz,Option.map_some,hbz,Option.some.injEq,DataW.lit.injEq,Lit.int.injEq,true_and] at h3;rw[h2,h3]
theorem si:∀(l:List Nat) (i:Nat),(u8L l)[i]?=l[i]?.map λa=>Value.int .u8 (.ofNat a)
 | [],_=>rfl
 | a :: l,0=>rfl
 | a :: l,i+1=>si l i
theorem s9:∀(l:List Nat) (i:Nat),(xv l)[i]?=l[i]?.map λa=>Value.int .u64 (.ofNat a)
 | [],_=>rfl
 | a :: l,0=>rfl
 | a :: l,i+1=>s9 l i
theorem row_of {W:World} {name:String} {g:Nat} {t e:TypeId} {k:IntKind} {l:List Nat} {L:List Value} {d:DataW Unit} (hsh:W.ShapedOpen Tryz.prog) (hg:Tryz.prog.globalNamed name=some g) (hlt:g<Tryz.prog.globals.size) (zero:Array Value)
  (h0:(((begin Tryz.prog (λ_ _=>0) default).world.heap[g]?).bind Obj.row?)=some (zero,t)) (hsz:zero.size=l.length) (hty:(Tryz.prog.globals[g]?).map (·.type)=some t) (ht:Tryz.prog.underlying t=some (.array l.length e)) (he:Tryz.prog.underlying e=some (.int k)) (hc:Tryz.prog.cellsOf e=1)
  (hd:d=.agg ((l.map Int.ofNat).map λz=>.lit (.int k z))) (hL:∀i:Nat,L[i]?=l[i]?.map λa=>Value.int k (.ofNat a))
  (hr:∃g t cs fuel p,Tryz.prog.globalNamed name=some g/\(Tryz.prog.globals[g]?).map (·.type)=some t/\W.var? Tryz.prog name=some cs/\DataW.trod (λ_=>()) Tryz.prog W 0 (λ_=>true) false fuel t cs.toList=some (d,p)) (ρ:Ren):
  eV Tryz.prog ρ W (g,0) (.row t l.length false true 0 (T.ofList undef L))/\g<W.heap.size:=by
 obtain⟨g',t',cs',fuel,p,e1,e2,e3,e4⟩:=hr;obtain rfl:=Option.some.inj (hg.symm.trans e1);obtain rfl:=Option.some.inj (hty.symm.trans e2);obtain⟨cs,hh,hs,_⟩:=hsh.1 g zero t hlt h0;have hcs:cs'=cs:=by unfold World.var? at e3;rw[hg] at e3;simp only[Option.bind_some,hh,Option.some.injEq] at e3;exact e3.symm
 subst hcs;refine⟨⟨cs',(0,0),hh,by omega,λ_=>⟨by omega,rfl⟩,λq=>(nomatch q),λi hi=>?_,.inl rfl⟩,(Array.getElem?_eq_some_iff.1 hh).1⟩;have hz:(l.map Int.ofNat)[i]?=some (Int.ofNat l[i]):=by simp[hi]
 have h1:=pY ht he hc (hd ▸ e4) i _ hz;refine⟨.int k (.ofNat l[i]),by rw[<-Array.getElem?_toList];exact h1,?_⟩;rw[T.get_ofList,List.getD_eq_getElem?_getD,hL i];simp only[List.getElem?_eq_getElem hi,Option.map_some,Option.getD_some];exact .inr rfl
theorem z32:(((begin Tryz.prog (λ_ _=>0) default).world.heap[6]?).bind Obj.row?)=some (⟨List.replicate 32 (.int .u8 0)⟩,403):=by kernel_rfl
theorem z64:(((begin Tryz.prog (λ_ _=>0) default).world.heap[7]?).bind Obj.row?)=some (⟨List.replicate 64 (.int .u8 0)⟩,404):=by kernel_rfl
theorem z20:(((begin Tryz.prog (λ_ _=>0) default).world.heap[1]?).bind Obj.row?)=some (⟨List.replicate 20 (.int .u64 0)⟩,227):=by kernel_rfl
def jQ : List (String × DataW Unit):= [("internal/strconv.uint64pow10", Rows.laid_internal_strconv_uint64pow10), ("math/bits.deBruijn32tab", Rows.laid_math_bits_deBruijn32tab), ("math/bits.deBruijn64tab", Rows.laid_math_bits_deBruijn64tab), ("unicode/utf8.first", Rows.laid_unicode_utf8_first), ("unicode/utf8.acceptRanges", Rows.laid_unicode_utf8_acceptRanges), ("strconv.ErrSyntax", Rows.laid_strconv_ErrSyntax), ("strconv.ErrRange", Rows.laid_strconv_ErrRange)]
theorem Bt {W:World} (hsh:W.ShapedOpen Tryz.prog) (hl:laidMet Tryz.prog jQ W):eG Tryz.prog renG (eS glob) W:=by
 obtain⟨ps,⟨g3,t3,cs3,f3,p3,q3,hg3,ht3,hv3,hd3,⟨g1,t1,cs1,f1,p1,q1,hg1,ht1,hv1,hd1,⟨g2,t2,cs2,f2,p2,q2,hg2,ht2,hv2,hd2,_,_⟩,_⟩,_⟩,_,_⟩:=hl;have r1:= row_of (l:= l32) (L:= u8L l32) (k:= .u8) (e:= 5) hsh (name:= "math/bits.deBruijn32tab") (g:= 6) (by kernel_rfl) (of_decide_eq_true (by kernel_rfl)) _ z32 (by kernel_rfl) (by kernel_rfl) (by kernel_rfl) (by kernel_rfl) (by kernel_rfl) (d:= Rows.laid_math_bits_deBruijn32tab) (by kernel_rfl) (si _) ⟨_, _, _, _, _, hg1, ht1, hv1, hd1⟩ renG
 have r2:= row_of (l:= l64) (L:= u8L l64) (k:= .u8) (e:= 5) hsh (name:= "math/bits.deBruijn64tab") (g:= 7) (by kernel_rfl) (of_decide_eq_true (by kernel_rfl)) _ z64 (by kernel_rfl) (by kernel_rfl) (by kernel_rfl) (by kernel_rfl) (by kernel_rfl) (d:= Rows.laid_math_bits_deBruijn64tab) (by kernel_rfl) (si _) ⟨_, _, _, _, _, hg2, ht2, hv2, hd2⟩ renG
 have r3:= row_of (l:= l20) (L:= xv l20) (k:= .u64) (e:= 131) hsh (name:= "internal/strconv.uint64pow10") (g:= 1) (by kernel_rfl) (of_decide_eq_true (by kernel_rfl)) _ z20 (by kernel_rfl) (by kernel_rfl) (by kernel_rfl) (by kernel_rfl) (by kernel_rfl) (d:= Rows.laid_internal_strconv_uint64pow10) (by kernel_rfl) (s9 _) ⟨_, _, _, _, _, hg3, ht3, hv3, hd3⟩ renG
 have hren:∀id p,renG id=some p->id<16/\p=(id,0):=by
  intro id p e;unfold renG at e;split at e
  ·cases e;exact⟨by assumption,rfl⟩
  ·exact nomatch e
 have hdead:∀id,(eS glob).objs.get (id+8)=.dead:=λid=>by rw[dJ];rfl
 have d0:(eS glob).objs.get 0=.dead:=by rw[dJ];rfl
 have d2:(eS glob).objs.get 2=.dead:=by rw[dJ];rfl
 have d3:(eS glob).objs.get 3=.dead:=by rw[dJ];rfl
 have d4:(eS glob).objs.get 4=.dead:=by rw[dJ];rfl
 have d5:(eS glob).objs.get 5=.dead:=by rw[dJ];rfl
 constructor
 ·intro id p e;exact (hren id p e).1
 ·intro i j p q e1 e2 _ _ e;rw[(hren i p e1).2,(hren j q e2).2] at e;exact e
 ·intro id p e;obtain⟨hl,rfl⟩:=hren id p e
  match id with
  | 0=>rw[d0];trivial
  | 1=>rw[dJ];exact r3.1
  | 2=>rw[d2];trivial
  | 3=>rw[d3];trivial
  | 4=>rw[d4];trivial
  | 5=>rw[d5];trivial
  | 6=>rw[dJ];exact r1.1
  | 7=>rw[dJ];exact r2.1
  | n+8=>rw[hdead];trivial
 ·intro id e;have:(16:Nat)+1<2 ^ deep:=by decide
  by_cases h:id<8
  ·omega
  ·obtain⟨m,rfl⟩:∃m,id=m+8:=⟨id-8,by omega⟩;rw[hdead] at e;exact nomatch e
 ·intro id e;have:16<=id:=e;obtain⟨m,rfl⟩:∃m,id=m+8:=⟨id-8,by omega⟩;exact hdead m
 ·intro g hg;simp[renG,hg]
 ·intro id p e hl;obtain⟨_,rfl⟩:=hren id p e
  match id with
  | 0=>rw[d0] at hl;exact nomatch hl
  | 1=>exact r3.2
  | 2=>rw[d2] at hl;exact nomatch hl
  | 3=>rw[d3] at hl;exact nomatch hl
  | 4=>rw[d4] at hl;exact nomatch hl
  | 5=>rw[d5] at hl;exact nomatch hl
  | 6=>exact r1.2
  | 7=>exact r2.2
  | n+8=>rw[hdead] at hl;exact nomatch hl
end Go.Ev
namespace Go.Ev
open Go F Go.Proofs
theorem rS (ht:aI uz) {W:World} (hr:eG Tryz.prog renG (eS glob) W) {ons txs:Nat->Value} {v:Value} {l:List dj} (a:xG W ons txs v l) (hZ:∀c∈l,ZC c) {cap keeps:Int} (hcap:dF cap) (hkeeps:dF keeps)
  {fn : Func} (hf : Tryz.prog.funcs[3]? = some fn) (hbody : fn.body.isNone = false) (hname : (fn.name== "runtime.NumGoroutine") = false):
  Calls Tryz.prog 3 #[.int .i64 cap,.int .i64 keeps,v] W λe W'=>e=.returned (.bool true)/\W.heap.size<=W'.heap.size/\(∀b,b<W.heap.size->W'.heap[b]?=W.heap[b]?)/\W'.os=W.os/\W'.output=W.output:=by
 have hcw:CW Ti (rr glob W (sH v ons txs l.length)) (iT (sH v ons txs l.length) v) l:=awA gX rl hr a;have hlen:=Cg v ons txs l.length;have hnd:(sH v ons txs l.length).Nodup:=pG _;generalize sH v ons txs l.length=bs at hcw hlen hnd;have hrB:=aqA (bs:=bs) (show glob.length<=16 by decide) hr hnd (by omega)
 have hfrom:bJ (eS glob) (rr glob W bs):=⟨show 16<=16+bs.length from Nat.le_add_right _ _,λid hid=>by
  have hid:id<16:=hid
  rw[bi,bi,fR,if_pos hid,dJ,List.getD_eq_getElem?_getD]⟩
 obtain⟨h',e⟩:=awo 0 hfrom hcw (λ_=>hZ) hcap hkeeps (show 16+bs.length<=100000000 by omega) (λv h=>some (v,h));obtain⟨N,u,h2,hcall,he⟩:=cX e;cases he;have hx:=rv (fF jw (CR ht)) (mC (fF jw (CR ht)).toTypesOK) N 3 _ _ _ _ hcall (nN bs) W [.int .i64 cap,.int .i64 keeps,v] hrB ⟨.of1 rfl,.of1 rfl,.of0 (zU bs v),trivial⟩;rcases hx with ⟨v',ρ',w',h1,_,_⟩ | ⟨fn',_,_,_,h2⟩
 ·exfalso;unfold callFunc at h1;rw[Sem.run_bind,run_program] at h1;simp only[Result.andThen_ok,hf,hname,hbody,Bool.false_eq_true,if_false] at h1;exact nomatch h1
 ·refine h2.mono ?_;rintro e W' ⟨ρ',v',rfl,hv,s⟩;rw[hv.bool];exact⟨rfl,s.size,λb hb=>s.same b hb λhw=>awZ gX W bs b hw,s.os,s.output⟩
end Go.Ev
namespace Go.Proofs.YtglmdggjibmjcaaGreatDoor
open Go Go.Ev
def tX:Array Value:=#[.int .i64 0,.int .i64 0,.slice none 0 0]
theorem Bl (os:Os) (args:Array Value):laidMet Tryz.prog jQ ((World.laidAll Tryz.prog os jQ).forCall (λ_ _=>0) ⟨#[],args,[]⟩).memory:=
 laidMet_laidAll _ (by kernel_rfl) (by kernel_rfl)
theorem sK (os:Os):((World.laidAll Tryz.prog os jQ).forCall (λ_ _=>0) ⟨#[],tX,[]⟩).Shaped Tryz.prog:=World.shaped_of_ZipB (by kernel_rfl) (by kernel_rfl)
end Go.Proofs.YtglmdggjibmjcaaGreatDoor
