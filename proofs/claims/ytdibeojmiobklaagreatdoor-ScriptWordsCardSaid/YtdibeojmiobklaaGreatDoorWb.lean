/-
  DERIVED: THE SHELF's CONTRACTS AT THIS DUMP, IN PLAIN WORDS (tools/lay-plain.mjs out of 'TryzSw.lean', which tools/lay-shelf.mjs wrote): THE SAME DECLARATIONS UNDER THE SAME NAMES: 'import', 'namespace', 'open', 'def', 'theorem' AND NOTHING ELSE: no command of the shelf's: FOR A HAND-IN. Each laying: the table of numbers ('.._ren') and one theorem, a field a fact of the dump's own or the kernel's comparison; each contract: ONE APPLICATION.
-/
import Derived.Shelf.Strings.Builder1
import Derived.Shelf.Strings.Builder2
import Derived.Shelf.Strings.OnBuilder
import Derived.Shelf.Small.Utf8
import Derived.Shelf.Small.Strs
import Derived.Shelf.Strings.BuilderF
import Derived.Shelf.Strconv.Itoa0
import Derived.Shelf.Strconv.Itoa1
import Derived.Shelf.LaysM
import Derived.Shelf.Strconv.Itoa2
import Derived.Shelf.Strconv.Itoa3
import Derived.Shelf.Strings.Search1
import Derived.Shelf.Strings.Search2
import Derived.Shelf.Strings.Search3
import Derived.Shelf.Strings.Count
import Derived.Shelf.Strings.Shaped
import Derived.Shelf.Strings.Prefix
import Derived.Shelf.Strings.Runes
import Derived.Shelf.Strings.IndexAny
import Derived.Shelf.Strings.AsciiSet
import Derived.Shelf.Strings.IndexAnyAll
import Derived.Shelf.Bits.Mul64
import Derived.Shelf.Strings.Repeat
import Derived.Shelf.Unicode.DecodeSlow
import Derived.Test.YtdibeojmiobklaaGreatDoorProg
import Derived.Test.YtdibeojmiobklaaGreatDoorLb
import Derived.Lib.Walk
import Derived.Lib.ItoaMem
import Derived.WalkKit
import Derived.BigCall
import Derived.BigGuard
import Derived.Test.YtdibeojmiobklaaGreatDoorWa
import Derived.Test.YtdibeojmiobklaaGreatDoorEc
import Derived.Test.YtdibeojmiobklaaGreatDoorKb
import Derived.Test.YtdibeojmiobklaaGreatDoorMe
set_option linter.unusedVariables false
set_option linter.unusedSimpArgs false
namespace Go.Proofs
open Go.Shelf
def Tryz.lays150_ren:Go.Shelf.Ren:=⟨λ | 150=>14 | 153=>33 | 152=>67 | 226=>68 | 227=>69 | 228=>70 | 137=>149 | 119=>150 | 224=>151 | 225=>152 | 217=>244 | 266=>330 | n=>n,λ | 9=>9 | 4=>4 | 3=>3 | 5=>5 | 21=>21 | 117=>139 | 116=>138 | 0=>0 | 46=>122 | 124=>217 | n=>n,λ | n=>n⟩
theorem Tryz.lays150:Go.Proofs.Lays.n150 Tryz.prog Tryz.lays150_ren:={
  mixed:=by kernel_rfl
  f119:=Tryz.func150.trans (congrArg some (by kernel_rfl))
  f137:=Tryz.func149.trans (congrArg some (by kernel_rfl))
  f150:=Tryz.func14.trans (congrArg some (by kernel_rfl))
  f152:=Tryz.func67.trans (congrArg some (by kernel_rfl))
  f153:=Tryz.func33.trans (congrArg some (by kernel_rfl))
  f217:=Tryz.func244.trans (congrArg some (by kernel_rfl))
  f224:=Tryz.func151.trans (congrArg some (by kernel_rfl))
  f225:=Tryz.func152.trans (congrArg some (by kernel_rfl))
  f226:=Tryz.func68.trans (congrArg some (by kernel_rfl))
  f227:=Tryz.func69.trans (congrArg some (by kernel_rfl))
  f228:=Tryz.func70.trans (congrArg some (by kernel_rfl))
  f266:=Tryz.func330.trans (congrArg some (by kernel_rfl))
  t0:=Tryz.underlying0
  a0:=Tryz.isAgg0
  z0:=Tryz.sizeOf0
  v0:=Tryz.zeroValue0
  t3:=Tryz.underlying3
  a3:=Tryz.isAgg3
  z3:=Tryz.sizeOf3
  v3:=Tryz.zeroValue3
  t4:=Tryz.underlying4
  a4:=Tryz.isAgg4
  z4:=Tryz.sizeOf4
  v4:=Tryz.zeroValue4
  t5:=Tryz.underlying5
  a5:=Tryz.isAgg5
  z5:=Tryz.sizeOf5
  v5:=Tryz.zeroValue5
  t9:=Tryz.underlying9
  a9:=Tryz.isAgg9
  z9:=Tryz.sizeOf9
  v9:=Tryz.zeroValue9
  t21:=Tryz.underlying21
  a21:=Tryz.isAgg21
  z21:=Tryz.sizeOf21
  v21:=Tryz.zeroValue21
  t46:=Tryz.underlying122
  a46:=Tryz.isAgg122
  z46:=Tryz.sizeOf122
  v46:=Tryz.zeroValue122
  t116:=Tryz.underlying138
  a116:=Tryz.isAgg138
  z116:=Tryz.sizeOf138
  t117:=Tryz.underlying139
  a117:=Tryz.isAgg139
  z117:=Tryz.sizeOf139
  v117:=Tryz.zeroValue139
  t124:=Tryz.underlying217
  a124:=Tryz.isAgg217
  z124:=Tryz.sizeOf217
  v124:=Tryz.zeroValue217 }
open Go.RowKit Go.Lib in
theorem Tryz.strings_ContainsAny_laid (s chars:ByteArray) (w:World) (hs:s.size < 4294967281) (hcs:chars.size < 4294967281) (has:∀ (j:Nat) b,s.data.toList[j]?=some b→b.toNat < 128) (hac:∀ (j:Nat) b,chars.data.toList[j]?=some b→b.toNat < 128) :
    Calls Tryz.prog 14 #[.string s,.string chars] w λ e w'=>e=.returned (.bool (Lib.containsAny s.data.toList chars.data.toList))∧Below w.heap.size w w':=Any.strings_ContainsAny_laid Tryz.lays150 (by kernel_rfl) s chars w hs hcs has hac
end Go.Proofs
namespace Go.Ev
open Go F Go.Proofs Go.RowKit
set_option linter.unusedVariables false
set_option maxRecDepth 100000
theorem Step.below {P:Program} {ρ:Ren} {h:H} {w w':World} (hr:Rel P ρ h w) (b:Below w.heap.size w w'):Step P ρ h w ρ h w' where
  ext:=ρ.le_refl
  old:=λ _ _ e _=>e
  next:=Nat.le_refl _
  keep:=λ _ _ _=>rfl
  rel:=⟨hr.dom,hr.inj,λ id p e=>ORel.same (hr.obj id p e) λ hl=>b.block _ (hr.inside id p e hl),hr.small,hr.fresh,hr.glob,λ id p e hl=>Nat.lt_of_lt_of_le (hr.inside id p e hl) b.size⟩
  same:=λ k hk _=>b.block k hk
  own:=λ _ e _=>e
  size:=b.size
  tape:=b.tape
  os:=b.os
  output:=b.output
theorem CallOK.of_calls {P : Program} {ρ : Ren} {h : H} {w : World} {f : FuncId} {args' : List Value} {v v' : Value} {fn : Func} (hr : Rel P ρ h w) (h1 : P.funcs[f]? = some fn) (h2 : fn.body.isNone = false) (h3 : (fn.name == "runtime.NumGoroutine") = false)
    (hv:VR ρ v v') (c:Calls P f ⟨args'⟩ w λ e w'=>e=.returned v'∧Below w.heap.size w w'):CallOK P ρ h w f args' v h :=
  .inr ⟨fn,h1,h2,h3,c.mono λ e w' hq=>⟨ρ,v',hq.1,hv,Step.below hr hq.2⟩⟩
theorem below_grow (w:World) (k:Nat) (os:Array Obj):Below w.heap.size w (Sort.grow (w.drewN k) os):=by
  have h1:∀ k,Below w.heap.size w (w.drewN k):=by
    intro k
    induction k with
    | zero=>rw [World.drewN_zero]; exact Below.refl _ _
    | succ k ih=>exact ih.trans ⟨rfl,rfl,rfl,Nat.le_refl _,λ _ _=>rfl⟩
  refine (h1 k).trans ⟨rfl,rfl,rfl,by simp,λ i hi=>?_⟩
  have:i < (w.drewN k).heap.size:=Nat.lt_of_lt_of_le hi (h1 k).size
  show ((w.drewN k).heap ++ os)[i]?=_
  rw [Array.getElem?_append,if_pos this]
def pureX (gl:List AO) (q:List Value→Option Value) (args:List Value) (h:H):Option (Value × H) :=
  match q args with
  | some v=>bif sameG gl 0 h then some (v,h) else none
  | none=>none
theorem tab_of {ρ : Ren} {h : H} {w : World} (hr : Rel Tryz.prog ρ h w) (hs : sameG glob 0 h = true) : Lib.TabIs Tryz.prog w "internal/strconv.uint64pow10" .u64 Lib.pow10Tab := by
  have hr':=rel_G glob_ok hr hs
  have ho:=hr'.obj 0 (0,0) rfl
  have e0:(hzG glob).objs.get 0=.row 286 20 false true 0 (T.ofList undef (u64L l20)):=by rw [get_hzG]; rfl
  rw [e0] at ho
  obtain ⟨cs,fr,h1,h2,h3,h4,h5,h6⟩:=ho
  have hg : Tryz.prog.globalNamed "internal/strconv.uint64pow10" = some 0 := by kernel_rfl
  unfold Lib.TabIs World.var?
  rw [hg]
  simp only [Option.bind_some]
  have h1:w.heap[0]?=some (.cells cs 286 fr):=h1
  rw [h1]
  simp only [Option.some.injEq]
  have hz:=(h3 rfl).1
  apply Array.ext_getElem?
  intro i
  refine Eq.trans ?_ (show (Lib.pow10Tab.map λ z=>Value.int .u64 z)[i]?=(Lib.pow10Tab.map λ z=>Value.int .u64 z).toArray[i]? from (List.getElem?_toArray ..).symm)
  rw [List.getElem?_map]
  by_cases q:i < 20
  · obtain ⟨v',a,b⟩:=h5 i q
    have:(T.ofList undef (u64L l20)).get i=.int .u64 ((Lib.pow10Tab.getD i 0:Int))∧Lib.pow10Tab[i]?=some (Lib.pow10Tab.getD i 0):=by
      have hall:∀ i,i < 20→(T.ofList undef (u64L l20)).get i=.int .u64 ((Lib.pow10Tab.getD i 0:Int)):=by
        intro i hi
        rw [Lib.pow10Tab_at i hi]
        exact (sameInt_eq (allN_all (p:=λ i=>sameInt ((T.ofList undef (u64L l20)).get i) (.int .u64 ((10 ^ i:Nat):Int))) (show allN 20 _=true by kernel_rfl) i hi)).1
      exact ⟨hall i q,by rw [List.getD_eq_getElem?_getD,List.getElem?_eq_getElem (by rw [Lib.pow10Tab_length]; exact q)]; rfl⟩
    rw [this.1] at b
    rw [this.2,a]
    rcases b with b | b
    · exact nomatch b
    · simp only [den1,den0,Option.some.injEq] at b
      rw [← b]; rfl
  · rw [Array.getElem?_eq_none (by omega),List.getElem?_eq_none (by rw [Lib.pow10Tab_length]; omega)]
    rfl
theorem ground_same {ρ:Ren}:∀ {l l':List Value},(∀ v ∈ l,(∃ k n,v=.int k n) ∨ ∃ s,v=.string s)→All2 (VR ρ) l l'→l'=l
  | [],[],_,_=>rfl
  | v :: l,u :: l',hg,⟨h1,h2⟩=>by
    rw [ground_same (λ v hv=>hg v (List.mem_cons_of_mem _ hv)) h2]
    rcases hg v (List.mem_cons_self ..) with ⟨k,n,rfl⟩ | ⟨s,rfl⟩
    · rw [h1.int]
    · rw [h1.string]
  | [],_ :: _,_,h=>h.elim
  | _ :: _,[],_,h=>h.elim
theorem pureX_ok {f : FuncId} {fn : Func} {q : List Value → Option Value} (h1 : Tryz.prog.funcs[f]? = some fn) (h2 : fn.body.isNone = false) (h3 : (fn.name == "runtime.NumGoroutine") = false)
    (hg : ∀ args v, q args = some v → (∀ v ∈ args, (∃ k n, v = .int k n) ∨ ∃ s, v = .string s) ∧ (∀ ρ, VR ρ v v) ∧ ∀ w, Lib.TabIs Tryz.prog w "internal/strconv.uint64pow10" .u64 Lib.pow10Tab → Calls Tryz.prog f ⟨args⟩ w fun e w' => e = .returned v ∧ Below w.heap.size w w') :
    ExtOK Tryz.prog f (pureX glob q):=by
  intro ρ h w args args' v h' hr ha he
  unfold pureX at he
  split at he
  · rename_i v0 hq
    cases hs:sameG glob 0 h with
    | false=>rw [hs] at he; exact nomatch he
    | true =>
      rw [hs] at he
      cases he
      obtain ⟨g1,g2,g3⟩:=hg args v hq
      have:=ground_same g1 ha
      subst this
      exact CallOK.of_calls hr h1 h2 h3 (g2 ρ) (g3 w (tab_of hr hs))
  · exact nomatch he
theorem VR.str (ρ:Ren) (s:ByteArray):VR ρ (.string s) (.string s):=.of1 rfl
end Go.Ev
namespace Go.Ev
open Go F Go.Proofs Go.RowKit
set_option linter.unusedVariables false
set_option linter.unusedSimpArgs false
set_option maxRecDepth 100000
theorem digS_ok:∀ n:Nat,n < 16→32 < (digS n).toNat∧(digS n).toNat≤126:=by decide
theorem digS_inj:∀ m:Nat,m < 16→∀ n:Nat,n < 16→digS m=digS n→m=n:=by decide
theorem esc_ok (c:UInt8):∀ b ∈ esc c,32 < b.toNat∧b.toNat≤126:=by
  have hc:=c.toNat_lt
  intro b hb
  unfold esc at hb
  split at hb
  · rename_i h
    rw [List.mem_singleton] at hb
    subst hb
    exact ⟨h.1,h.2.1⟩
  · simp only [List.mem_cons,List.not_mem_nil,or_false] at hb
    rcases hb with rfl | rfl | rfl
    · decide
    · exact digS_ok _ (by omega)
    · exact digS_ok _ (by omega)
theorem wordS_ok (s:List UInt8):∀ b ∈ wordS s,32 < b.toNat∧b.toNat≤126:=by
  unfold wordS
  split
  · intro b hb
    rw [List.mem_singleton] at hb
    subst hb; decide
  · intro b hb
    unfold escL at hb
    rw [List.mem_flatten] at hb
    obtain ⟨l,hl,hb⟩:=hb
    obtain ⟨c,_,rfl⟩:=List.mem_map.1 hl
    exact esc_ok c b hb
theorem wordS_ne (s:List UInt8):wordS s ≠ []:=by
  unfold wordS
  split
  · simp
  · exact escL_ne (by assumption)
theorem esc_inj {c d:UInt8} {x y:List UInt8} (h:esc c ++ x=esc d ++ y):c=d∧x=y:=by
  have hc:=c.toNat_lt
  have hd:=d.toNat_lt
  unfold esc at h
  by_cases p:plainB c
  · by_cases q:plainB d
    · rw [if_pos p,if_pos q] at h
      exact List.cons.inj h
    · rw [if_pos p,if_neg q] at h
      have:=(List.cons.inj h).1
      subst this
      exact absurd rfl p.2.2
  · by_cases q:plainB d
    · rw [if_neg p,if_pos q] at h
      have:=(List.cons.inj h).1
      subst this
      exact absurd rfl q.2.2
    · rw [if_neg p,if_neg q] at h
      obtain ⟨_,h⟩:=List.cons.inj h
      obtain ⟨h1,h⟩:=List.cons.inj h
      obtain ⟨h2,h⟩:=List.cons.inj h
      have h1:=digS_inj _ (by omega) _ (by omega) h1
      have h2:=digS_inj _ (by omega) _ (by omega) h2
      exact ⟨UInt8.toNat_inj.1 (by omega),h⟩
theorem escL_inj:∀ {s t:List UInt8},escL s=escL t→s=t
  | [],[],_=>rfl
  | [],d :: t,h=>absurd h.symm (escL_ne (by simp))
  | c :: s,[],h=>absurd h (escL_ne (by simp))
  | c :: s,d :: t,h=>by
    obtain ⟨h1,h2⟩:=esc_inj (x:=escL s) (y:=escL t) h
    rw [h1,escL_inj h2]
theorem wordS_inj {s t:List UInt8} (h:wordS s=wordS t) (hn:wordS s ≠ [46]):s=t:=by
  by_cases p:s=[]
  · exact absurd (show wordS s=[46] from if_pos p) hn
  · by_cases q:t=[]
    · exact absurd (h.trans (show wordS t=[46] from if_pos q)) hn
    · rw [show wordS s=escL s from if_neg p,show wordS t=escL t from if_neg q] at h
      exact escL_inj h
theorem no_any:∀ l:List UInt8,(∀ b ∈ l,32 < b.toNat∧b.toNat≤126)→Lib.indexAny l [32,10]=-1
  | [],_=>rfl
  | b :: l,h=>by
    have hb:=h b (List.mem_cons_self ..)
    have ih:=no_any l λ b hb=>h b (List.mem_cons_of_mem _ hb)
    unfold Lib.indexAny
    have hc:([32,10]:List UInt8).contains b=false:=by
      simp only [List.contains_cons,List.contains_nil,Bool.or_false,Bool.or_eq_false_iff,beq_eq_false_iff_ne]
      constructor
      · rintro rfl; have:=hb.1; exact absurd this (by decide)
      · rintro rfl; have:=hb.1; exact absurd this (by decide)
    rw [hc,ih]
    rfl
def anyQ:List Value→Option Value
  | [.string ⟨⟨a⟩⟩,.string ⟨⟨c⟩⟩]=>bif Nat.ble a.length 1000000 && Nat.ble c.length 1000 && a.all (λ b=>Nat.blt b.toNat 128) && c.all (λ b=>Nat.blt b.toNat 128) then some (.bool (Lib.containsAny a c)) else none
  | _=>none
theorem ext14:ExtOK Tryz.prog 14 (pureX glob anyQ):=by
  refine pureX_ok Tryz.func14 (by kernel_rfl) (by kernel_rfl) λ args v hq=>?_
  unfold anyQ at hq
  split at hq
  · rename_i a c
    cases hb:(Nat.ble a.length 1000000 && Nat.ble c.length 1000 && a.all (λ b=>Nat.blt b.toNat 128) && c.all (λ b=>Nat.blt b.toNat 128)) with
    | false=>rw [hb] at hq; exact nomatch hq
    | true =>
      rw [hb] at hq
      cases hq
      simp only [Bool.and_eq_true] at hb
      obtain ⟨⟨⟨b1,b2⟩,b3⟩,b4⟩:=hb
      have b1:=Nat.le_of_ble_eq_true b1
      have b2:=Nat.le_of_ble_eq_true b2
      have hal:∀ l:List UInt8,l.all (λ b=>Nat.blt b.toNat 128)=true→∀ (j:Nat) b,l[j]?=some b→b.toNat < 128:=λ l h j b hj=>Nat.le_of_ble_eq_true (List.all_eq_true.1 h b (List.mem_of_getElem? hj))
      refine ⟨λ v hv=>?_,λ ρ=>.of1 rfl,λ w ht=>?_⟩
      · simp at hv
        rcases hv with rfl | rfl
        · exact .inr ⟨_,rfl⟩
        · exact .inr ⟨_,rfl⟩
      · exact Tryz.strings_ContainsAny_laid ⟨⟨a⟩⟩ ⟨⟨c⟩⟩ w (show a.length < _ by omega) (show c.length < _ by omega) (hal a b3) (hal c b4)
  · exact nomatch hq
variable {E : Env} (u : UB E) {rc : RC}
include u
theorem run4 (h11:∀ h,sameG glob 0 h=true→∀ k,rc 11 [] h k=k (.bool true) h)
    (h12:∀ {s:List UInt8} {h:H},s.length≤1000→h.next≤600000000→∀ k X,rc 12 [.string ⟨⟨s⟩⟩] h k=X→∃ h',X=k (.string ⟨⟨wordS s⟩⟩) h'∧h'.next≤h.next + 6001∧h.next≤h'.next∧∀ id,id < h.next→hget h' id=hget h id)
    (h13:∀ {s:List UInt8} {h:H},s.length≤1000→h.next≤700000000→∀ k,rc 13 [.string ⟨⟨s⟩⟩] h k=k (.string ⟨⟨wordS s⟩⟩) h)
    (h14:∀ {s:List UInt8} {h:H},s.length≤1000→sameG glob 0 h=true→∀ k,rc 14 [.string ⟨⟨wordS s⟩⟩,.string ⟨⟨[32,10]⟩⟩] h k=k (.bool false) h)
    {s t:List UInt8} {h:H} (hn:h.next≤500000000) (h16:16≤h.next) (hg:sameG glob 0 h=true) (k:Value→H→R) :
    ∃ h',p4 E rc (.string ⟨⟨s⟩⟩) (.string ⟨⟨t⟩⟩) h k=k (.bool true) h':=by
  have u3:=u.u3
  obtain ⟨X,e⟩:∃ X,p4 E rc (.string ⟨⟨s⟩⟩) (.string ⟨⟨t⟩⟩) h k=X:=⟨_,rfl⟩
  rw [e]
  unfold p4 at e
  rw [h11 h hg,onB_tt,joinR_eq] at e
  dsimp only at e
  unfold p4_3 at e
  rw [len_s u,bindO_some'] at e
  have hu:∀ f t u:R,onG undef f t u=u:=λ _ _ _=>rfl
  by_cases q1:1000 < s.length
  · rw [gtr_t u3 q1] at e
    simp only [↓joinV_eq,↓joinR_eq,↓onG_tt,↓onB_tt] at e
    exact ⟨h,e.symm⟩
  rw [gtr_f u3 (by omega)] at e
  have hlt:∀ K,bindO (lenV E h 9 (.string ⟨⟨t⟩⟩)) K=K (.int .i64 (.ofNat t.length)):=λ K=>by rw [len_s u]; rfl
  simp only [↓joinV_eq,↓onG_ff,↓onB_ff,↓hlt] at e
  by_cases q2:1000 < t.length
  · rw [gtr_t u3 q2] at e
    simp only [↓joinR_eq,↓onB_tt] at e
    exact ⟨h,e.symm⟩
  rw [gtr_f u3 (by omega)] at e
  simp only [↓joinR_eq,↓onB_ff] at e
  unfold p4_2 at e
  obtain ⟨h1,e1,n1,m1,f1⟩:=h12 (s:=s) (by omega) (by omega) _ X e
  replace e1:=e1.symm
  obtain ⟨h2,e2,n2,m2,f2⟩:=h12 (s:=t) (by omega) (by omega) _ X e1
  replace e2:=e2.symm
  have hg2:sameG glob 0 h2=true:=by
    have hl:∀ (gl:List AO) (i:Nat),(∀ j,j < gl.length→h2.objs.get (i + j)=h.objs.get (i + j))→sameG gl i h2=sameG gl i h:=by
      intro gl
      induction gl with
      | nil=>intro i _; rfl
      | cons o gl ih =>
        intro i e
        unfold sameG
        rw [show h2.objs.get i=h.objs.get i from e 0 (Nat.succ_pos _),ih (i + 1) λ j hj=>by
          have:=e (j + 1) (Nat.succ_lt_succ hj)
          rwa [show i + (j + 1)=i + 1 + j by omega] at this]
    rw [hl glob 0 λ j hj=>?_]
    · exact hg
    · have hj:j < 4:=hj
      have:=f2 j (by omega)
      rw [f1 j (by omega),hget_eq,hget_eq] at this
      rwa [Nat.zero_add]
  have c13:∀ K,rc 13 [.string ⟨⟨s⟩⟩] h2 K=K (.string ⟨⟨wordS s⟩⟩) h2:=λ K=>h13 (by omega) (by omega) K
  have c14:∀ K,rc 14 [.string ⟨⟨wordS s⟩⟩,.string ⟨⟨[32,10]⟩⟩] h2 K=K (.bool false) h2:=λ K=>h14 (by omega) hg2 K
  have d1:∀ cx cy K,binR (binC E .neq 9 cx cy) (.string ⟨⟨wordS s⟩⟩) (.string ⟨⟨wordS s⟩⟩) K=K (.bool false):=λ cx cy K=>by rw [sneq u,beq_self_eq_true]; rfl
  have d2:∀ cx cy K,binR (binC E .eql 9 cx cy) (.string ⟨⟨wordS s⟩⟩) (.string (ByteArray.mk #[])) K=K (.bool false):=λ cx cy K=>by
    rw [show (ByteArray.mk #[])=(⟨⟨[]⟩⟩:ByteArray) from rfl,seql u,beq_eq_false_iff_ne.2 (wordS_ne s)]
  simp only [↓c13,↓d1,↓joinV_eq,↓joinR_eq,↓onG_ff,↓onB_ff,↓c14,↓d2] at e2
  unfold p4_0 at e2
  by_cases q3:wordS s=wordS t
  · have d3:∀ cx cy K,binR (binC E .neq 9 cx cy) (.string ⟨⟨wordS s⟩⟩) (.string ⟨⟨wordS t⟩⟩) K=K (.bool false):=λ cx cy K=>by rw [sneq u,q3,beq_self_eq_true]; rfl
    have d4:∀ cx cy K,binR (binC E .eql 9 cx cy) (.string ⟨⟨s⟩⟩) (.string ⟨⟨t⟩⟩) K=K (.bool (s == t)):=λ cx cy K=>seql u
    have d5:∀ cx cy K,binR (binC E .eql 9 cx cy) (.string ⟨⟨wordS s⟩⟩) (.string ⟨⟨[46]⟩⟩) K=K (.bool (wordS s == [46])):=λ cx cy K=>seql u
    by_cases q4:s=t
    · simp only [↓d3,↓joinV_eq,↓onG_ff,↓onB_ff,↓d4,show (s == t)=true by rw [q4]; exact beq_self_eq_true _,↓onG_tt,↓onB_tt] at e2
      exact ⟨h2,e2.symm⟩
    · have q5:wordS s=[46]:=by
        by_cases q5:wordS s=[46]
        · exact q5
        · exact absurd (wordS_inj q3 q5) q4
      simp only [↓d3,↓joinV_eq,↓onG_ff,↓onB_ff,↓d4,show (s == t)=false from beq_eq_false_iff_ne.2 q4,↓d5,show (wordS s == [46])=true by rw [q5]; rfl] at e2
      exact ⟨h2,e2.symm⟩
  · have d3:∀ cx cy K,binR (binC E .neq 9 cx cy) (.string ⟨⟨wordS s⟩⟩) (.string ⟨⟨wordS t⟩⟩) K=K (.bool true):=λ cx cy K=>by rw [sneq u,beq_eq_false_iff_ne.2 q3]; rfl
    simp only [↓d3,↓joinV_eq,↓onG_tt,↓onB_tt,↓hu] at e2
    exact ⟨h2,e2.symm⟩
end Go.Ev
namespace Go.Ev
open Go F Go.Proofs
set_option maxRecDepth 100000
set_option exponentiation.threshold 3000
set_option linter.unusedVariables false
theorem ext_rem {t:ExtT} (ht:ExtAll t) {f:FuncId} (hf:f < 1000):ExtAll (t.ins 40 f none):=by
  intro g k' h
  rw [T.get_ins _ _ _ _ _ (Nat.lt_of_lt_of_le (Nat.succ_lt_succ hf) (Nat.le_of_ble_eq_true rfl))] at h
  by_cases e:g=f
  · rw [if_pos e] at h; exact nomatch h
  · rw [if_neg e] at h; exact ht g k' h
noncomputable def tW:ExtT:=(aw32.ins 40 32 none).ins 40 14 (some (pureX glob anyQ))
theorem tW_ok (h:ExtAll aw32):ExtAll tW:=ext_ins (ext_rem h (by decide)) (by decide) ext14
noncomputable def EW:Env:=EX tW
theorem EWe:EW=EX tW:=rfl
theorem elT60:ElT EW 60 5 1 ((EW.info 5).getD default) [.int .u8 (.ofNat 0)]:=⟨by kernel_rfl,by kernel_rfl,by kernel_rfl,of_decide_eq_true (by kernel_rfl),by kernel_rfl,rfl,by decide,by decide⟩
theorem ub:UB EW:=⟨by kernel_rfl,by kernel_rfl,by kernel_rfl,by kernel_rfl,by kernel_rfl,by kernel_rfl,by kernel_rfl,by kernel_rfl,⟨_,elT60⟩⟩
theorem tcW11 (m:Nat) {h:H} (hg:sameG glob 0 h=true) (k:Value→H→R):callF EW KK (m + 1) 11 [] h k=k (.bool true) h:=by
  show (funC EW KK 11).run _ _ _ _=_
  have e:funC EW KK 11=⟨λ _ args h c=>bindP (trueG glob args h) c⟩:=by kernel_rfl
  rw [e]
  show bindP (trueG glob [] h) k=_
  have:trueG glob [] h=some (.bool true,h):=by unfold trueG; rw [hg]; rfl
  rw [this]; rfl
theorem tcW148 (m:Nat) (v:Value) (h:H) (k:Value→H→R):callF EW KK (m + 1) 148 [v] h k=k v h:=by kernel_rfl
theorem tcW14 (m:Nat) {s:List UInt8} (hs:s.length≤1000) {h:H} (hg:sameG glob 0 h=true) (k:Value→H→R):callF EW KK (m + 1) 14 [.string ⟨⟨wordS s⟩⟩,.string ⟨⟨[32,10]⟩⟩] h k=k (.bool false) h:=by
  show (funC EW KK 14).run _ _ _ _=_
  have e:funC EW KK 14=⟨λ _ args h c=>bindP (pureX glob anyQ args h) c⟩:=by kernel_rfl
  rw [e]
  have hl:(wordS s).length≤1000000:=by
    unfold wordS
    split
    · exact (by decide:1≤1000000)
    · have:=escL_len s; omega
  have h1:Nat.ble (wordS s).length 1000000=true:=ble_t hl
  have h3:(wordS s).all (λ b=>Nat.blt b.toNat 128)=true:=List.all_eq_true.2 λ b hb=>ble_t (by have:=(wordS_ok s b hb).2; omega)
  have hq:anyQ [.string ⟨⟨wordS s⟩⟩,.string ⟨⟨[32,10]⟩⟩]=some (.bool false):=by
    show (bif Nat.ble (wordS s).length 1000000 && true && (wordS s).all (λ b=>Nat.blt b.toNat 128) && true then some (Value.bool (Lib.containsAny (wordS s) [32,10])) else none)=_
    rw [h1,h3]
    have:Lib.containsAny (wordS s) [32,10]=false:=by unfold Lib.containsAny; rw [no_any _ (wordS_ok s)]; rfl
    rw [this]; rfl
  have hp:pureX glob anyQ [.string ⟨⟨wordS s⟩⟩,.string ⟨⟨[32,10]⟩⟩] h=some (.bool false,h):=by unfold pureX; rw [hq]; simp only [hg,cond_true]
  show bindP (pureX glob anyQ _ h) k=_
  rw [hp]; rfl
theorem tcW66 (m:Nat) (a0:Value) (h:H) (k:Value→H→R):callF EW KK (m + 1) 66 [a0] h k=p66 EW (callF EW KK m) a0 h k:=by
  show (funC EW KK 66).run _ _ _ _=_
  rw [show funC EW KK 66=funB EW KK 66 from funC_funB (by kernel_rfl)]
  exact p66_eq tW _ a0 h k
theorem tcW31 (m:Nat) (a0 a1:Value) (h:H) (k:Value→H→R):callF EW KK (m + 1) 31 [a0,a1] h k=p31 EW (callF EW KK m) a0 a1 h k:=by
  show (funC EW KK 31).run _ _ _ _=_
  rw [show funC EW KK 31=funB EW KK 31 from funC_funB (by kernel_rfl)]
  exact p31_eq tW _ a0 a1 h k
theorem tcW32 (m:Nat) (a0:Value) (h:H) (k:Value→H→R):callF EW KK (m + 1) 32 [a0] h k=p32 EW (callF EW KK m) a0 h k:=by
  show (funC EW KK 32).run _ _ _ _=_
  rw [show funC EW KK 32=funB EW KK 32 from funC_funB (by kernel_rfl)]
  exact p32_eq tW _ a0 h k
theorem tcW12 (m:Nat) (a0:Value) (h:H) (k:Value→H→R):callF EW KK (m + 1) 12 [a0] h k=p12 EW (callF EW KK m) a0 h k:=by
  show (funC EW KK 12).run _ _ _ _=_
  rw [show funC EW KK 12=funB EW KK 12 from funC_funB (by kernel_rfl)]
  exact p12_eq tW _ a0 h k
theorem tcW13 (m:Nat) (a0:Value) (h:H) (k:Value→H→R):callF EW KK (m + 1) 13 [a0] h k=p13 EW (callF EW KK m) a0 h k:=by
  show (funC EW KK 13).run _ _ _ _=_
  rw [show funC EW KK 13=funB EW KK 13 from funC_funB (by kernel_rfl)]
  exact p13_eq tW _ a0 h k
theorem tcW4 (m:Nat) (a0 a1:Value) (h:H) (k:Value→H→R):callF EW KK (m + 1) 4 [a0,a1] h k=p4 EW (callF EW KK m) a0 a1 h k:=by
  show (funC EW KK 4).run _ _ _ _=_
  rw [show funC EW KK 4=funB EW KK 4 from funC_funB (by kernel_rfl)]
  rw [EWe]
  exact p4_eq tW _ a0 a1 h k
end Go.Ev
namespace Go.Ev
open Go F Go.Proofs
set_option maxRecDepth 100000
set_option exponentiation.threshold 3000
set_option linter.unusedVariables false
theorem rcB (m:Nat):RcB (callF EW KK (m + 3)):=by
  constructor
  · intro h bb s b hn hs x k X e
    obtain ⟨h',e1,b',n1,f1⟩:=run31 ub (rc:=callF EW KK (m + 2)) (λ b hn=>by
      obtain ⟨h',e1,r⟩:=run66 ub (rc:=callF EW KK (m + 1)) (λ v h k=>tcW148 m v h k) b hn
      exact ⟨h',λ k=>(tcW66 (m + 1) _ _ k).trans (e1 k),r⟩) b hn hs x
    exact ⟨h',e.symm.trans ((tcW31 (m + 2) _ _ _ k).trans (e1 k)),b',n1,f1⟩
  · intro h bb s b hne hn hs k X e
    obtain ⟨h',e1,n1,f1⟩:=run32 ub (rc:=callF EW KK (m + 2)) b hne hn hs
    exact ⟨h',e.symm.trans ((tcW32 (m + 2) _ _ k).trans (e1 k)),n1,f1⟩
theorem words_run {s t:List UInt8} {h:H} (hn:h.next≤500000000) (h16:16≤h.next) (hg:sameG glob 0 h=true) (k:Value→H→R) :
    ∃ h',callF EW KK 10 4 [.string ⟨⟨s⟩⟩,.string ⟨⟨t⟩⟩] h k=k (.bool true) h':=by
  obtain ⟨h',e⟩:=run4 ub (rc:=callF EW KK 9) (λ h hg k=>tcW11 8 hg k)
    (λ hs hn k X e=>run12 ub (rcB 5) hs hn k X ((tcW12 8 _ _ k).symm.trans e))
    (λ hs hn k=>(tcW13 8 _ _ k).trans (run13 ub hs hn k))
    (λ hs hg k=>tcW14 8 hs hg k) hn h16 hg k
  exact ⟨h',(tcW4 9 _ _ _ k).trans e⟩
theorem calls_words (ht:ExtAll aw32) {W:World} (hr:Rel Tryz.prog renG (hzG glob) W) (s t:List UInt8)
    {fn : Func} (hf : Tryz.prog.funcs[4]? = some fn) (hbody : fn.body.isNone = false) (hname : (fn.name == "runtime.NumGoroutine") = false) :
    Calls Tryz.prog 4 #[.string ⟨⟨s⟩⟩,.string ⟨⟨t⟩⟩] W λ e W'=>e=.returned (.bool true)∧W.heap.size≤W'.heap.size∧(∀ b,b < W.heap.size→W'.heap[b]?=W.heap[b]?)∧W'.os=W.os∧W'.output=W.output:=by
  obtain ⟨h2,hrun⟩:=words_run (s:=s) (t:=t) (h:=hzG glob) (by decide) (by decide) (by kernel_rfl) (λ v h=>some (v,h))
  obtain ⟨N,u,h',hcall,he⟩:=callF_callV hrun
  cases he
  have hx:=call_ok (env_of tW (tW_ok ht)) (region_ok (env_of tW (tW_ok ht)).toTypesOK) N 4 _ (hzG glob) _ _ hcall renG W [.string ⟨⟨s⟩⟩,.string ⟨⟨t⟩⟩] hr ⟨.of1 rfl,.of1 rfl,trivial⟩
  rcases hx with ⟨v',ρ',w',h1,_,_⟩ | ⟨fn',_,_,_,h2⟩
  · exfalso
    unfold callFunc at h1
    rw [Sem.run_bind,run_program] at h1
    simp only [Result.andThen_ok,hf,hname,hbody,Bool.false_eq_true,if_false] at h1
    exact nomatch h1
  · refine h2.mono ?_
    rintro e W' ⟨ρ',v',rfl,hv,s⟩
    rw [hv.bool]
    exact ⟨rfl,s.size,λ b hb=>s.same b hb (wr_G glob_ok b),s.os,s.output⟩
end Go.Ev
