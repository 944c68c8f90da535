/-
  THE LAW's CALL on any text, from the row's first memory: it answers true; the world is kept.
-/
import Derived.Test.YtlahhbdihpbbgaaGreatDoorQf
import Derived.OpenShut
import Derived.ChangeArms
import Derived.Test.YtlahhbdihpbbgaaGreatDoorRows
set_option linter.unusedVariables false
set_option linter.unusedSimpArgs false
namespace Go.Ev
open Go F Go.Proofs Go.Proofs.YtlahhbdihpbbgaaGreatDoor
set_option maxRecDepth 100000
set_option linter.unusedVariables false
theorem nG {H:Type} {enc:TypeId × Value→H} {P:Program} {w:World} {base:Nat} {sp:Nat→Bool} {held:Bool} {fuel:Nat} {t e:TypeId} {n:Nat} {k:IntKind} {cs:List Value} {zs:List Int} {p:List MemPlace}
  (ht:P.underlying t=some (.array n e)) (he:P.underlying e=some (.int k)) (hc:P.cellsOf e=1) (h:DataW.trod enc P w base sp held fuel t cs=some (.agg (zs.map λ z=>.lit (.int k z)),p)) (i:Nat) (z:Int) (hz:zs[i]?=some z):cs[i]?=some (.int k z):=by
 obtain ⟨xs,m,rfl,hx,hl,hn,hel⟩:=DataW.trod_array ht h
 simp only [Prod.mk.injEq,DataW.agg.injEq] at hx
 have hlen:zs.length=xs.length:=by have:=congrArg List.length hx.1; simpa using this
 have hi:i < zs.length:=(List.getElem?_eq_some_iff.1 hz).1
 have h1:=hel i (by omega)
 obtain ⟨b,hb⟩:∃ b,xs[i]?=some b:=⟨xs[i]'(by omega),List.getElem?_eq_getElem (by omega)⟩
 rw [hb,hc] at h1
 obtain ⟨z',hcz,hbz,_⟩:=DataW.trod_int he h1
 have h2:cs[i]?=some (.int k z'):=by
  have:=congrArg (·[0]?) hcz
  simpa [List.getElem?_take,List.getElem?_drop] using this
 have h3:=congrArg (·[i]?) hx.1
 simp only [List.getElem?_map,hb,hz,Option.map_some,hbz,Option.some.injEq,DataW.lit.injEq,Lit.int.injEq,true_and] at h3
 rw [h2,h3]
theorem oT:∀ (l:List Nat) (i:Nat),(u8L l)[i]?=l[i]?.map λ a=>Value.int .u8 (.ofNat a)
 | [],_=>rfl
 | a :: l,0=>rfl
 | a :: l,i + 1=>oT l i
theorem ql:∀ (l:List Nat) (i:Nat),(Hr l)[i]?=l[i]?.map λ a=>Value.int .u64 (.ofNat a)
 | [],_=>rfl
 | a :: l,0=>rfl
 | a :: l,i + 1=>ql l i
theorem row_of {W:World} {name:String} {g:Nat} {t e:TypeId} {k:IntKind} {l:List Nat} {L:List Value} {d:DataW Unit} (hsh:W.ShapedOpen Tryz.prog) (hg:Tryz.prog.globalNamed name=some g) (hlt:g < Tryz.prog.globals.size) (zero:Array Value)
  (h0:(((begin Tryz.prog (λ _ _=>0) default).world.heap[g]?).bind Obj.row?)=some (zero,t)) (hsz:zero.size=l.length) (hty:(Tryz.prog.globals[g]?).map (·.type)=some t) (ht:Tryz.prog.underlying t=some (.array l.length e)) (he:Tryz.prog.underlying e=some (.int k)) (hc:Tryz.prog.cellsOf e=1)
  (hd:d=.agg ((l.map Int.ofNat).map λ z=>.lit (.int k z))) (hL:∀ i:Nat,L[i]?=l[i]?.map λ a=>Value.int k (.ofNat a))
  (hr:∃ g t cs fuel p,Tryz.prog.globalNamed name=some g∧(Tryz.prog.globals[g]?).map (·.type)=some t∧W.var? Tryz.prog name=some cs∧DataW.trod (λ _=>()) Tryz.prog W 0 (λ _=>true) false fuel t cs.toList=some (d,p)) (ρ:Ren) :
  dV Tryz.prog ρ W (g,0) (.row t l.length false true 0 (T.ofList undef L))∧g < W.heap.size:=by
 obtain ⟨g',t',cs',fuel,p,e1,e2,e3,e4⟩:=hr
 obtain rfl:=Option.some.inj (hg.symm.trans e1)
 obtain rfl:=Option.some.inj (hty.symm.trans e2)
 obtain ⟨cs,hh,hs,_⟩:=hsh.1 g zero t hlt h0
 have hcs:cs'=cs:=by
  unfold World.var? at e3
  rw [hg] at e3
  simp only [Option.bind_some,hh,Option.some.injEq] at e3
  exact e3.symm
 subst hcs
 refine ⟨⟨cs',(0,0),hh,by omega,λ _=>⟨by omega,rfl⟩,λ q=>(nomatch q),λ i hi=>?_,.inl rfl⟩,(Array.getElem?_eq_some_iff.1 hh).1⟩
 have hz:(l.map Int.ofNat)[i]?=some (Int.ofNat l[i]):=by simp [hi]
 have h1:=nG ht he hc (hd ▸ e4) i _ hz
 refine ⟨.int k (.ofNat l[i]),by rw [← Array.getElem?_toList]; exact h1,?_⟩
 rw [T.get_ofList,List.getD_eq_getElem?_getD,hL i]
 simp only [List.getElem?_eq_getElem hi,Option.map_some,Option.getD_some]
 exact .inr rfl
theorem row_one {W:World} {g:Nat} {t:TypeId} (hsh:W.ShapedOpen Tryz.prog) (hlt:g < Tryz.prog.globals.size) (zero:Array Value) (h0:(((begin Tryz.prog (λ _ _=>0) default).world.heap[g]?).bind Obj.row?)=some (zero,t)) (hsz:zero.size=1) {v v':Value} {ρ:Ren}
  (hc:W.cell? ⟨g,0,none⟩=some v') (hv:fk ρ v v'):dV Tryz.prog ρ W (g,0) (.row t 1 false true 0 (.c v))∧g < W.heap.size:=by
 obtain ⟨cs,hh,hs,_⟩:=hsh.1 g zero t hlt h0
 refine ⟨⟨cs,(0,0),hh,by omega,λ _=>⟨by omega,rfl⟩,λ q=>(nomatch q),λ i hi=>?_,.inl rfl⟩,(Array.getElem?_eq_some_iff.1 hh).1⟩
 obtain rfl:i=0:=by omega
 refine ⟨v',?_,hv⟩
 unfold World.cell? at hc
 simp only [hh,Option.isSome_none,Bool.false_eq_true,if_false] at hc
 exact hc
theorem ua {H:Type} {enc:TypeId × Value→H} {P:Program} {w:World} {base:Nat} {sp:Nat→Bool} {fuel:Nat} {t:TypeId} {ms:_} {cs:List Value} {name:String} {d:DataW H} {p:List MemPlace}
  (ht:P.underlying t=some (.interface ms)) (h:DataW.trod enc P w base sp false fuel t cs=some (.iface name d,p)):∃ u v n p',cs=[.iface u v]∧DataW.trod enc P w base sp false n u v.cells.toList=some (d,p'):=by
 cases fuel with
 | zero=>simp [DataW.trod] at h
 | succ n =>
  unfold DataW.trod at h
  rw [ht] at h
  split at h <;> simp_all
  split at h <;> simp_all
  exact ⟨_,_,⟨rfl,rfl⟩,n,p,h.1⟩
theorem yF {H:Type} {enc:TypeId × Value→H} {P:Program} {w:World} {base:Nat} {sp:Nat→Bool} {held:Bool} {fuel:Nat} {t:TypeId} {cs:List Value} {d:DataW H} {p:List MemPlace}
  (h:DataW.trod enc P w base sp held fuel t cs=some (.ptr d,p)):∃ e a,P.underlying t=some (.pointer e)∧cs=[.pointer (some a)]:=by
 cases fuel with
 | zero=>simp [DataW.trod] at h
 | succ n =>
  unfold DataW.trod at h
  split at h <;> simp_all
  all_goals first
   | (simp [Option.bind_eq_some_iff] at h; done)
   | (split at h <;> simp_all; done)
   | (split at h <;> (try simp_all) <;> simp [Option.bind_eq_some_iff] at h; done)
theorem z0:(((begin Tryz.prog (λ _ _=>0) default).world.heap[0]?).bind Obj.row?)=some (⟨[.int .i64 0]⟩,3):=by kernel_rfl
theorem z4:(((begin Tryz.prog (λ _ _=>0) default).world.heap[4]?).bind Obj.row?)=some (⟨[.nilIface]⟩,62):=by kernel_rfl
theorem z32:(((begin Tryz.prog (λ _ _=>0) default).world.heap[5]?).bind Obj.row?)=some (⟨List.replicate 32 (.int .u8 0)⟩,394):=by kernel_rfl
theorem z64:(((begin Tryz.prog (λ _ _=>0) default).world.heap[6]?).bind Obj.row?)=some (⟨List.replicate 64 (.int .u8 0)⟩,395):=by kernel_rfl
theorem z20:(((begin Tryz.prog (λ _ _=>0) default).world.heap[7]?).bind Obj.row?)=some (⟨List.replicate 20 (.int .u64 0)⟩,423):=by kernel_rfl
noncomputable def O3 (m:Int) (u:TypeId) (off:Nat):List AO:=[.row 3 1 false true 0 (.c (.int .i64 m)),.dead,.dead,.dead,.row 62 1 false true 0 (.c (.iface u (.pointer (some ⟨16,off,none⟩)))),
 .row 394 32 false true 0 (T.ofList undef (u8L l32)),.row 395 64 false true 0 (T.ofList undef (u8L l64)),.row 423 20 false true 0 (T.ofList undef (Hr l20))]
noncomputable def kT (m:Int) (u:TypeId) (off:Nat):H:={ next:=17,objs:=T.ofList .dead (O3 m u off) }
def jE (B:Nat):Ren:=λ id=>if id < 16 then some (id,0) else if id=16 then some (B,0) else none
theorem cz (m:Int) (u:TypeId) (off i:Nat):(kT m u off).objs.get i=((O3 m u off)[i]?).getD .dead:=T.get_ofList _ _ _
theorem FN (m:Int) (u:TypeId) (off:Nat):HS (kT m u off) where
 n:=by show 16≤17; decide
 m:=⟨m,by unfold cell0; rw [cz]; rfl⟩
 e:=⟨u,_,by unfold cell0; rw [cz]; rfl⟩
 g:=by kernel_rfl
theorem gP {m:Int} {u:TypeId} {off id:Nat} (h:live ((kT m u off).objs.get id)=true):id < 8∧∃ e n fz c,(kT m u off).objs.get id=.row e n false true fz c:=by
 rw [cz] at h ⊢
 match id with
 | 0=>exact ⟨by decide,_,_,_,_,rfl⟩
 | 1=>exact nomatch h
 | 2=>exact nomatch h
 | 3=>exact nomatch h
 | 4=>exact ⟨by decide,_,_,_,_,rfl⟩
 | 5=>exact ⟨by decide,_,_,_,_,rfl⟩
 | 6=>exact ⟨by decide,_,_,_,_,rfl⟩
 | 7=>exact ⟨by decide,_,_,_,_,rfl⟩
 | n + 8=>exact nomatch h
theorem arz {m:Int} {u:TypeId} {off B:Nat} (b:Nat):¬ Wr (jE B) (kT m u off) b:=by
 rintro ⟨id,p,_,_,h⟩
 have hl:live ((kT m u off).objs.get id)=true:=by
  revert h
  cases (kT m u off).objs.get id <;> intro h <;> first | rfl | exact h
 obtain ⟨_,e,n,fz,c,e2⟩:=gP hl
 rw [e2] at h
 exact nomatch h
def iD : List (String × DataW Unit) := [("unicode/utf8.first", Rows.laid_unicode_utf8_first), ("unicode/utf8.acceptRanges", Rows.laid_unicode_utf8_acceptRanges), ("strconv.ErrSyntax", Rows.laid_strconv_ErrSyntax), ("strconv.ErrRange", Rows.laid_strconv_ErrRange), ("internal/strconv.uint64pow10", Rows.laid_internal_strconv_uint64pow10), ("math/bits.deBruijn32tab", Rows.laid_math_bits_deBruijn32tab), ("math/bits.deBruijn64tab", Rows.laid_math_bits_deBruijn64tab)]
theorem pP {W:World} (hsh:W.ShapedOpen Tryz.prog):∃ m,W.cell? ⟨0,0,none⟩=some (.int .i64 m):=by
 obtain ⟨cs,hh,hs,hr⟩:=hsh.1 0 _ 3 (of_decide_eq_true (by kernel_rfl)) z0
 have hs:cs.size=1:=hs
 obtain ⟨ts,hts,_,hall⟩:=hr (by kernel_rfl)
 have h3:Tryz.prog.cellTypes Tryz.prog.depth 3=some [3]:=by kernel_rfl
 rw [h3] at hts
 cases hts
 have h1:0 < cs.size:=by omega
 obtain ⟨u,hu',hok⟩:=hall 0 cs[0] (by simp [h1])
 have:u=3:=by simpa using hu'.symm
 subst this
 have hcell:W.cell? ⟨0,0,none⟩=some cs[0]:=by simp [World.cell?,hh,h1]
 rw [hcell]
 unfold Cell.ok at hok
 have hu3:Tryz.prog.underlying 3=some (.int .i64):=by kernel_rfl
 rw [hu3] at hok
 cases hv:cs[0] <;> rw [hv] at hok <;> first | (obtain ⟨rfl,_⟩:=hok; exact ⟨_,rfl⟩) | simp at hok
theorem xF {W:World} (hsh:W.ShapedOpen Tryz.prog) (hl:laidMet Tryz.prog iD W):∃ m u off B,dU Tryz.prog (jE B) (kT m u off) W:=by
 obtain ⟨ps,⟨_,_,_,_,_,_,_,_,_,_,⟨_,_,_,_,_,_,_,_,_,_,⟨_,_,_,_,_,_,_,_,_,_,⟨gx4,t4,cs4,fx4,px4,qx4,hg4,ht4,hv4,hd4,⟨gx3,t3,cs3,fx3,px3,qx3,hg3,ht3,hv3,hd3,⟨gx1,t1,cs1,fx1,px1,qx1,hg1,ht1,hv1,hd1,⟨gx2,t2,cs2,fx2,px2,qx2,hg2,ht2,hv2,hd2,_,_⟩,_⟩,_⟩,hps4⟩,hps3⟩,hps2⟩,hps1⟩,_,hwide⟩:=hl
 have hgE : Tryz.prog.globalNamed "strconv.ErrRange" = some 4 := by kernel_rfl
 obtain rfl:4=gx4:=Option.some.inj (hgE.symm.trans hg4)
 have htE:(Tryz.prog.globals[4]?).map (·.type)=some 62:=by kernel_rfl
 obtain rfl:62=t4:=Option.some.inj (htE.symm.trans ht4)
 have hu62:Tryz.prog.underlying 62=some (.interface (match Tryz.prog.underlying 62 with | some (.interface m)=>m | _=>default)):=by kernel_rfl
 obtain ⟨u,v,n,p',hcs,hin⟩:=ua hu62 hd4
 obtain ⟨e,a,hue,hva⟩:=yF hin
 have hcell:W.cell? ⟨4,0,none⟩=some (.iface u v):=by
  unfold World.var? at hv4
  rw [hgE] at hv4
  simp only [Option.bind_some] at hv4
  unfold World.cell?
  split at hv4
  ·rename_i c t fr hh
   cases hv4
   simp only [hh,Option.isSome_none,Bool.false_eq_true,if_false]
   rw [← Array.getElem?_toList,hcs]; rfl
  ·exact nomatch hv4
 have hmem:MemPlace.cell 4 0 ∈ ps:=by
  rw [hps1,hps2,hps3,hps4]
  refine List.mem_append_right _ (List.mem_append_right _ (List.mem_append_right _ (List.mem_append_left _ (List.mem_append_left _ ?_))))
  have:cs4.size=1:=by rw [← Array.length_toList,hcs]; rfl
  rw [this]
  simp [MemPlace.row]
 have hok:=(hwide 4 0 hmem).2 u v hcell
 have hv:∃ a:Addr,v=.pointer (some a)∧a.spot=none:=by
  unfold Value.okWide at hok
  rw [hue] at hok
  simp only at hok
  cases v with
  | pointer p =>
   cases p with
   | none=>simp [Value.cells] at hva
   | some a' =>
    refine ⟨a',rfl,?_⟩
    unfold Cell.okWide at hok
    rw [hue] at hok
    simp only [Cell.ok,hue] at hok
    exact hok.2.1
  | _=>simp [Cell.okWide,Cell.ok,hue] at hok
 obtain ⟨a',rfl,hspot⟩:=hv
 obtain ⟨m,hm⟩:=pP hsh
 refine ⟨m,u,a'.off,a'.block,?_⟩
 have r1 := row_of (l := l32) (L := u8L l32) (k := .u8) (e := 5) hsh (name := "math/bits.deBruijn32tab") (g := 5) (by kernel_rfl) (of_decide_eq_true (by kernel_rfl)) _ z32 (by kernel_rfl) (by kernel_rfl) (by kernel_rfl) (by kernel_rfl) (by kernel_rfl) (d := Rows.laid_math_bits_deBruijn32tab) (by kernel_rfl) (oT _) ⟨_, _, _, _, _, hg1, ht1, hv1, hd1⟩ (jE a'.block)
 have r2 := row_of (l := l64) (L := u8L l64) (k := .u8) (e := 5) hsh (name := "math/bits.deBruijn64tab") (g := 6) (by kernel_rfl) (of_decide_eq_true (by kernel_rfl)) _ z64 (by kernel_rfl) (by kernel_rfl) (by kernel_rfl) (by kernel_rfl) (by kernel_rfl) (d := Rows.laid_math_bits_deBruijn64tab) (by kernel_rfl) (oT _) ⟨_, _, _, _, _, hg2, ht2, hv2, hd2⟩ (jE a'.block)
 have r3 := row_of (l := l20) (L := Hr l20) (k := .u64) (e := 92) hsh (name := "internal/strconv.uint64pow10") (g := 7) (by kernel_rfl) (of_decide_eq_true (by kernel_rfl)) _ z20 (by kernel_rfl) (by kernel_rfl) (by kernel_rfl) (by kernel_rfl) (by kernel_rfl) (d := Rows.laid_internal_strconv_uint64pow10) (by kernel_rfl) (ql _) ⟨_, _, _, _, _, hg3, ht3, hv3, hd3⟩ (jE a'.block)
 have r0:=row_one (ρ:=jE a'.block) hsh (of_decide_eq_true (by kernel_rfl)) _ z0 rfl (v:=.int .i64 m) hm (.inr rfl)
 have rE:=row_one (ρ:=jE a'.block) hsh (of_decide_eq_true (by kernel_rfl)) _ z4 rfl (v:=.iface u (.pointer (some ⟨16,a'.off,none⟩))) hcell (.inr (by
  obtain ⟨ab,ao,asp⟩:=a'
  have hspot:asp=none:=hspot
  subst hspot
  simp [bY,bW,jE]))
 have hren:∀ id p,jE a'.block id=some p→(id < 16∧p=(id,0)) ∨ (id=16∧p=(a'.block,0)):=by
  intro id p e
  unfold jE at e
  split at e
  ·cases e; exact .inl ⟨by assumption,rfl⟩
  ·split at e
   ·cases e; exact .inr ⟨by assumption,rfl⟩
   ·exact nomatch e
 constructor
 ·intro id p e
  show id < 17
  rcases hren id p e with ⟨h,_⟩ | ⟨h,_⟩ <;> omega
 ·intro i j p q e1 e2 l1 l2 e
  have h1:=(gP l1).1
  have h2:=(gP l2).1
  rcases hren i p e1 with ⟨_,rfl⟩ | ⟨h,_⟩
  ·rcases hren j q e2 with ⟨_,rfl⟩ | ⟨h,_⟩
   ·exact e
   ·omega
  ·omega
 ·intro id p e
  rcases hren id p e with ⟨hl,rfl⟩ | ⟨rfl,rfl⟩
  ·match id with
   | 0=>rw [cz]; exact r0.1
   | 1=>rw [cz]; trivial
   | 2=>rw [cz]; trivial
   | 3=>rw [cz]; trivial
   | 4=>rw [cz]; exact rE.1
   | 5=>rw [cz]; exact r1.1
   | 6=>rw [cz]; exact r2.1
   | 7=>rw [cz]; exact r3.1
   | n + 8=>rw [cz]; trivial
  ·rw [cz]; trivial
 ·intro id e
  have h:=(gP e).1
  have:(16:Nat) + 1 < 2 ^ deep:=by decide
  omega
 ·intro id e
  have:17≤id:=e
  obtain ⟨n,rfl⟩:∃ n,id=n + 8:=⟨id - 8,by omega⟩
  rw [cz]; rfl
 ·intro g hg; simp [jE,hg]
 ·intro id p e hl
  have h:=(gP hl).1
  rcases hren id p e with ⟨_,rfl⟩ | ⟨h2,_⟩
  ·match id with
   | 0=>exact r0.2
   | 1=>rw [cz] at hl; exact nomatch hl
   | 2=>rw [cz] at hl; exact nomatch hl
   | 3=>rw [cz] at hl; exact nomatch hl
   | 4=>exact rE.2
   | 5=>exact r1.2
   | 6=>exact r2.2
   | 7=>exact r3.2
   | n + 8=>omega
  ·omega
end Go.Ev
namespace Go.Ev
open Go F Go.Proofs
set_option maxRecDepth 100000
set_option exponentiation.threshold 3000
set_option linter.unusedVariables false
theorem zw (ht:aA xR) {W:World} {m:Int} {u:TypeId} {off B:Nat} (hr:dU Tryz.prog (jE B) (kT m u off) W) {f n:Nat} {a:Value} {h':H} (ha:∀ ρ:Ren,VR ρ a a) (hrun:az EP KK n f [a] (kT m u off) (λ v h=>some (v,h))=some (.bool true,h'))
  {fn : Func} (hf : Tryz.prog.funcs[f]? = some fn) (hbody : fn.body.isNone = false) (hname : (fn.name == "runtime.NumGoroutine") = false) :
  Calls Tryz.prog f #[a] W λ e W'=>e=.returned (.bool true)∧W.heap.size≤W'.heap.size∧(∀ b,b < W.heap.size→W'.heap[b]?=W.heap[b]?)∧W'.os=W.os∧W'.output=W.output:=by
 obtain ⟨N,v,h2,hcall,he⟩:=cP hrun
 cases he
 have hx:=vJ (fU tP (PK ht)) (oe (fU tP (PK ht)).toTypesOK) N f _ (kT m u off) _ _ hcall (jE B) W [a] hr ⟨ha _,trivial⟩
 rcases hx with ⟨v',ρ',w',h1,_,_⟩ | ⟨fn',_,_,_,h2⟩
 ·exfalso
  unfold callFunc at h1
  rw [Sem.run_bind,run_program] at h1
  simp only [Result.andThen_ok,hf,hname,hbody,Bool.false_eq_true,if_false] at h1
  exact nomatch h1
 ·refine h2.mono ?_
  rintro e W' ⟨ρ',v',rfl,hv,s⟩
  rw [hv.bool]
  exact ⟨rfl,s.size,λ b hb=>s.same b hb (arz b),s.os,s.output⟩
end Go.Ev
namespace Go.Ev
open Go F Go.Proofs
set_option maxRecDepth 100000
set_option exponentiation.threshold 3000
set_option linter.unusedVariables false
theorem ahi (ht:aA xR) {W:World} {m:Int} {u:TypeId} {off B:Nat} (hr:dU Tryz.prog (jE B) (kT m u off) W) (s:List UInt8)
  {fn : Func} (hf : Tryz.prog.funcs[5]? = some fn) (hbody : fn.body.isNone = false) (hname : (fn.name == "runtime.NumGoroutine") = false) :
  Calls Tryz.prog 5 #[.string ⟨⟨s⟩⟩] W λ e W'=>e=.returned (.bool true)∧W.heap.size≤W'.heap.size∧(∀ b,b < W.heap.size→W'.heap[b]?=W.heap[b]?)∧W'.os=W.os∧W'.output=W.output:=by
 obtain ⟨h',e⟩:=atD (FN m u off) 0 (s:=s) (cD.refl _) (by show 17≤_; decide) (λ v h=>some (v,h))
 exact zw ht hr (λ ρ=>.of1 rfl) e hf hbody hname
end Go.Ev
