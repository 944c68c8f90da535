/-
  THE LAW OF LAYER 34: lists of lines that differ only where both remember.
-/
import Derived.Test.YtdibeojmiobklaaGreatDoorTa
import Derived.Test.YtdibeojmiobklaaGreatDoorLb
import Derived.Test.YtdibeojmiobklaaGreatDoorEe
import Derived.Test.YtdibeojmiobklaaGreatDoorKb
import Derived.Test.YtdibeojmiobklaaGreatDoorEc
import Derived.Test.YtdibeojmiobklaaGreatDoorMe
set_option linter.unusedVariables false
set_option linter.unusedSimpArgs false
namespace Go.Ev
open Go F
set_option maxRecDepth 100000
set_option linter.unusedVariables false
set_option linter.unusedSimpArgs false
section law
variable {E : Env} (u : UE E) (u4 : E.und 4 = some .bool)
include u u4
omit u in
theorem eql_bool {cx cy a:Bool} {k:Value→R}:binR (binC E .eql 4 cx cy) (.bool a) (.bool a) k=k (.bool true):=by
  have hb:bin E .eql 4 cx cy (.bool a) (.bool a)=some (.bool true):=by
    have he:eqV E 4 cx cy (.bool a) (.bool a)=some true:=by
      unfold eqV; rw [u4]; cases a <;> rfl
    simp only [bin,he]
  unfold binR binC; rw [u4]
  show bindO (bin E .eql 4 cx cy (.bool a) (.bool a)) k=_
  rw [hb]; rfl
theorem run5 {rc:RC} {h:H} {v w:Value} {l l':List (List UInt8)} (hv:∀ X:Value→R,onSl v (bindO (lenV E h 33 v) X) (λ _ n _=>X (.int .i64 (.ofNat n)))=X (.int .i64 (.ofNat l.length)))
    (hw:∀ X:Value→R,onSl w (bindO (lenV E h 33 w) X) (λ _ n _=>X (.int .i64 (.ofNat n)))=X (.int .i64 (.ofNat l'.length))) (hs:l.length≤40→SL h v l) (hs':l'.length≤40→SL h w l') (h15:∀ k,rc 15 [] h k=k (.bool true) h)
    (h16:∀ {v l},SL h v l→∀ k,rc 16 [v] h k=k (.int .i64 (.ofNat (memN err4 l))) h)
    (h17:∀ {v l},SL h v l→∀ k,rc 17 [v] h k=k (.int .i64 (.ofNat (memN err4 l))) h)
    (h18:∀ {v w l l'},SL h v l→SL h w l'→∀ k,rc 18 [v,w] h k=k (.bool (agV l l')) h)
    (h19:∀ {v w l l'},SL h v l→SL h w l'→∀ k,rc 19 [v,w] h k=k (.bool (agV l l')) h) (k:Value→H→R):p5 E rc v w h k=k (.bool true) h:=by
  have u3:=u.u3
  unfold p5
  rw [h15,onB_tt,joinR_eq]
  refine (hv _).trans ?_
  by_cases q:40 < l.length
  · simp (disch:=omega) only [↓gtr_t u3,↓joinV_eq,↓joinR_eq,↓onG_tt,↓onB_tt]
  · rw [gtr_f u3 (by omega)]
    simp only [↓joinV_eq,↓onG_ff,↓onB_ff]
    rw [hw]
    by_cases q':40 < l'.length
    · rw [gtr_t u3 (by omega)]
      simp only [↓joinV_eq,↓joinR_eq,↓onB_tt]
    · rw [gtr_f u3 (by omega)]
      simp only [↓joinV_eq,↓joinR_eq,↓onB_ff]
      have s:=hs (by omega)
      have s':=hs' (by omega)
      unfold p5b
      rw [h16 s,h17 s,eql_t u3 rfl]
      simp only [↓joinV_eq,↓onG_tt]
      rw [h16 s',h17 s',eql_t u3 rfl]
      simp only [↓joinV_eq,↓onG_tt,↓onB_tt]
      rw [h18 s s']
      rw [h19 s s',eql_bool u4]
      simp only [↓joinV_eq,↓onG_tt,↓onB_tt]
      rw [h18 s s,agV_self]
end law
theorem ue_t:UE (EX aw34):=⟨by kernel_rfl,by kernel_rfl,by kernel_rfl,by kernel_rfl⟩
theorem und4_t:(EX aw34).und 4=some .bool:=by kernel_rfl
theorem tc15 (m:Nat) {h:H} (hg:sameG glob 0 h=true) (k:Value→H→R):callF (EX aw34) KK (m + 1) 15 [] h k=k (.bool true) h:=by
  show (funC (EX aw34) KK 15).run _ _ _ _=_
  have e:funC (EX aw34) KK 15=⟨λ _ args h c=>bindP (trueG glob args h) c⟩:=by kernel_rfl
  rw [e]
  show bindP (trueG glob [] h) k=_
  have:trueG glob [] h=some (.bool true,h):=by unfold trueG; rw [hg]; rfl
  rw [this]; rfl
theorem tc16 (m:Nat) (a0:Value) (h:H) (k:Value→H→R):callF (EX aw34) KK (m + 1) 16 [a0] h k=p16 (EX aw34) (callF (EX aw34) KK m) a0 h k:=by
  show (funC (EX aw34) KK 16).run _ _ _ _=_
  rw [funC_funB (by kernel_rfl)]
  exact p16_eq aw34 _ a0 h k
theorem tc17 (m:Nat) (a0:Value) (h:H) (k:Value→H→R):callF (EX aw34) KK (m + 1) 17 [a0] h k=p17 (EX aw34) (callF (EX aw34) KK m) a0 h k:=by
  show (funC (EX aw34) KK 17).run _ _ _ _=_
  rw [funC_funB (by kernel_rfl)]
  exact p17_eq aw34 _ a0 h k
theorem tc36 (m:Nat) (a0 a1:Value) (h:H) (k:Value→H→R):callF (EX aw34) KK (m + 1) 36 [a0,a1] h k=p36 (EX aw34) (callF (EX aw34) KK m) a0 a1 h k:=by
  show (funC (EX aw34) KK 36).run _ _ _ _=_
  rw [funC_funB (by kernel_rfl)]
  exact p36_eq aw34 _ a0 a1 h k
theorem tc8 (m:Nat) (a0 a1:Value) (h:H) (k:Value→H→R):callF (EX aw34) KK (m + 1) 8 [a0,a1] h k=p8 (EX aw34) (callF (EX aw34) KK m) a0 a1 h k:=by
  show (funC (EX aw34) KK 8).run _ _ _ _=_
  rw [funC_funB (by kernel_rfl)]
  exact p8_eq aw34 _ a0 a1 h k
theorem tc18 (m:Nat) (a0 a1:Value) (h:H) (k:Value→H→R):callF (EX aw34) KK (m + 1) 18 [a0,a1] h k=p18 (EX aw34) (callF (EX aw34) KK m) a0 a1 h k:=by
  show (funC (EX aw34) KK 18).run _ _ _ _=_
  rw [funC_funB (by kernel_rfl)]
  exact p18_eq aw34 _ a0 a1 h k
theorem tc19 (m:Nat) (a0 a1:Value) (h:H) (k:Value→H→R):callF (EX aw34) KK (m + 1) 19 [a0,a1] h k=p19 (EX aw34) (callF (EX aw34) KK m) a0 a1 h k:=by
  show (funC (EX aw34) KK 19).run _ _ _ _=_
  rw [funC_funB (by kernel_rfl)]
  exact p19_eq aw34 _ a0 a1 h k
theorem tc5 (m:Nat) (a0 a1:Value) (h:H) (k:Value→H→R):callF (EX aw34) KK (m + 1) 5 [a0,a1] h k=p5 (EX aw34) (callF (EX aw34) KK m) a0 a1 h k:=by
  show (funC (EX aw34) KK 5).run _ _ _ _=_
  rw [funC_funB (by kernel_rfl)]
  exact p5_eq aw34 _ a0 a1 h k
theorem agrees_run {h:H} {v w:Value} {l l':List (List UInt8)} (hg:sameG glob 0 h=true) (hn:h.1≤1000000000) (hv:∀ X:Value→R,onSl v (bindO (lenV (EX aw34) h 33 v) X) (λ _ n _=>X (.int .i64 (.ofNat n)))=X (.int .i64 (.ofNat l.length)))
    (hw:∀ X:Value→R,onSl w (bindO (lenV (EX aw34) h 33 w) X) (λ _ n _=>X (.int .i64 (.ofNat n)))=X (.int .i64 (.ofNat l'.length))) (s:l.length≤40→SL h v l) (s':l'.length≤40→SL h w l') (k:Value→H→R):callF (EX aw34) KK 10 5 [v,w] h k=k (.bool true) h:=by
  have q36:∀ m {v l},SL h v l→∀ s k,callF (EX aw34) KK (m + 1) 36 [v,.string ⟨⟨s⟩⟩] h k=k (idxV s l) h:=λ m _ _ s x k=>(tc36 m _ _ h k).trans (run36 ue_t s x k)
  have q16:∀ m {v l},SL h v l→∀ k,callF (EX aw34) KK (m + 2) 16 [v] h k=k (.int .i64 (.ofNat (memN err4 l))) h:=λ m _ _ s k=>(tc16 (m + 1) _ h k).trans (run16 ue_t s k (q36 m s err4))
  have q17:∀ m {v l},SL h v l→∀ k,callF (EX aw34) KK (m + 1) 17 [v] h k=k (.int .i64 (.ofNat (memN err4 l))) h:=λ m _ _ s k=>(tc17 m _ h k).trans (run17 ue_t s k)
  have q8:∀ m {v w l l'},SL h v l→SL h w l'→∀ k,callF (EX aw34) KK (m + 1) 8 [v,w] h k=k (.bool (decide (l=l'))) h:=λ m _ _ _ _ s s' k=>(tc8 m _ _ h k).trans (run8 ue_t s s' hn k)
  have q18:∀ m {v w l l'},SL h v l→SL h w l'→∀ k,callF (EX aw34) KK (m + 3) 18 [v,w] h k=k (.bool (agV l l')) h:=λ m _ _ _ _ s s' k=>(tc18 (m + 2) _ _ h k).trans (run18 ue_t s s' hn (q16 m) (q8 (m + 1)) k)
  have q19:∀ m {v w l l'},SL h v l→SL h w l'→∀ k,callF (EX aw34) KK (m + 2) 19 [v,w] h k=k (.bool (agV l l')) h:=λ m _ _ _ _ s s' k=>(tc19 (m + 1) _ _ h k).trans (run19 ue_t s s' hn (q17 m) k)
  exact (tc5 9 v w h k).trans (run5 ue_t und4_t hv hw s s' (tc15 8 hg) (q16 7) (q17 8) (q18 6) (q19 7) k)
end Go.Ev
namespace Go.Ev
open Go F Go.Proofs
set_option maxRecDepth 100000
set_option linter.unusedVariables false
set_option linter.unusedSimpArgs false
variable {P : Program} {ρ : Ren} {h : H} {w : World}
theorem Rel.put (hr:Rel P ρ h w) {p:Nat × Nat} {ob:AO} (hid:h.next + 1 < 2 ^ deep) (h16:16≤h.next)
    (hob:∀ ρ',ORel P ρ' w p ob) (hne:live ob=true→∀ j q,ρ j=some q→live (h.objs.get j)=true→q.1 ≠ p.1) (hin:live ob=true→p.1 < w.heap.size):Rel P (ρ.upd h.next p) (h.push ob) w:=by
  have hget:∀ k,(h.push ob).objs.get k=if k=h.next then ob else h.objs.get k:=by
    intro k
    show (T.ins deep h.objs h.next ob).get k=_
    rw [T.get_ins _ _ _ _ _ hid]
  have hn:ρ h.next=none:=hr.unmapped (Nat.le_refl _)
  have hle:ρ.le (ρ.upd h.next p):=Ren.le_upd hn
  constructor
  · intro j q e
    show j < h.next + 1
    by_cases ej:j=h.next
    · omega
    · rw [Ren.upd_other ej] at e
      have:=hr.dom j q e
      omega
  · intro i j a b ha hb hi hj e
    rw [hget] at hi hj
    by_cases ei:i=h.next <;> by_cases ej:j=h.next
    · omega
    · subst ei
      rw [if_pos rfl] at hi
      rw [if_neg ej] at hj
      rw [Ren.upd_same] at ha
      rw [Ren.upd_other ej] at hb
      cases ha
      exact absurd e.symm (hne hi j b hb hj)
    · subst ej
      rw [if_pos rfl] at hj
      rw [if_neg ei] at hi
      rw [Ren.upd_same] at hb
      rw [Ren.upd_other ei] at ha
      cases hb
      exact absurd e (hne hj i a ha hi)
    · rw [if_neg ei] at hi
      rw [if_neg ej] at hj
      rw [Ren.upd_other ei] at ha
      rw [Ren.upd_other ej] at hb
      exact hr.inj i j a b ha hb hi hj e
  · intro id q e
    rw [hget]
    by_cases ei:id=h.next
    · subst ei
      rw [if_pos rfl]
      rw [Ren.upd_same] at e
      cases e
      exact hob _
    · rw [if_neg ei]
      rw [Ren.upd_other ei] at e
      exact (hr.obj id q e).mono hle
  · intro id e
    rw [hget] at e
    by_cases ei:id=h.next
    · subst ei; exact hid
    · rw [if_neg ei] at e
      exact hr.small id e
  · intro id e
    have e':h.next + 1≤id:=e
    rw [hget,if_neg (by omega)]
    exact hr.fresh id (by omega)
  · intro g hg
    rw [Ren.upd_other (by omega)]
    exact hr.glob g hg
  · intro id q e hl
    rw [hget] at hl
    by_cases ei:id=h.next
    · subst ei
      rw [if_pos rfl] at hl
      rw [Ren.upd_same] at e
      cases e
      exact hin hl
    · rw [if_neg ei] at hl
      rw [Ren.upd_other ei] at e
      exact hr.inside id q e hl
def absC:Value→Value
  | .string s=>.string s
  | _=>unk
def argO (t:TypeId) (cs:Array Value):AO:=.row t cs.size false true 0 (T.ofList unk (cs.toList.map absC))
theorem argO_rel {b:Nat} {cs:Array Value} {t:TypeId} {fr:Nat × Nat} (hh:w.heap[b]?=some (.cells cs t fr)) (ρ':Ren):ORel P ρ' w (b,0) (argO t cs):=by
  refine ⟨cs,fr,hh,Nat.le_refl _,λ _=>⟨rfl,rfl⟩,λ e=>(nomatch e),λ i hi=>?_,.inl rfl⟩
  refine ⟨cs[i],Array.getElem?_eq_getElem hi,?_⟩
  rw [T.get_ofList,List.getD_eq_getElem?_getD,List.getElem?_map,Array.getElem?_toList,Array.getElem?_eq_getElem hi]
  show VR1 ρ' (absC cs[i]) cs[i]
  cases hv:cs[i] with
  | string s=>exact .inr rfl
  | _=>exact .inl rfl
inductive Arg (w:World):Value→List (List UInt8)→Prop
  | nil:Arg w (.slice none 0 0) []
  | row {b o cap:Nat} {cs:Array Value} {t:TypeId} {fr:Nat × Nat} {l:List (List UInt8)} (hh:w.heap[b]?=some (.cells cs t fr)) (hc:∀ i (hi:i < l.length),cs[o + i]?=some (.string ⟨⟨l[i]⟩⟩)) (hcap:l.length≤cap) :
      Arg w (.slice (some ⟨b,o,none⟩) l.length cap) l
def Kept (w:World) (ρ:Ren) (h:H):Prop:=∀ j q,ρ j=some q→live (h.objs.get j)=true→∀ cs t fr,w.heap[q.1]?=some (.cells cs t fr)→(∀ (o:Nat) (s:ByteArray),cs[o]? ≠ some (Value.string s)) ∨ (q.2=0∧h.objs.get j=argO t cs)
theorem sl_row {h:H} {j o cap:Nat} {cs:Array Value} {t:TypeId} {l:List (List UInt8)} (hj:l ≠ []→h.objs.get j=argO t cs) (hc:∀ i (hi:i < l.length),cs[o + i]?=some (.string ⟨⟨l[i]⟩⟩)) (hcap:l.length≤cap) (hl:l.length≤900000) :
    SL h (.slice (some ⟨j,o,none⟩) l.length (2 * cap)) l:=by
  by_cases e:l=[]
  · subst e
    exact .row (m:=o) (e:=0) (op:=false) (ro:=true) (fz:=0) (cells:=.c unk) (λ e=>absurd rfl e) (Nat.le_refl _) (λ i hi=>absurd hi (Nat.not_lt_zero _)) (by simp) (by simp)
  · have hpos:0 < l.length:=List.length_pos_iff.2 e
    refine .row (m:=cs.size) (e:=t) (op:=false) (ro:=true) (fz:=0) (cells:=T.ofList unk (cs.toList.map absC)) (λ _=>?_) ?_ (λ i hi=>?_) (by omega) hl
    · rw [hget_eq,hj e]; rfl
    · have:=(Array.getElem?_eq_some_iff.1 (hc (l.length - 1) (by omega))).1
      omega
    · rw [getF_ofList,List.getD_eq_getElem?_getD,List.getElem?_map,Array.getElem?_toList,hc i hi]
      rfl
theorem arg1 (hr:Rel P ρ h w) (hid:h.next + 1 < 2 ^ deep) (h16:16≤h.next) (hI:Kept w ρ h) {E:Env} (u:UE E) {v':Value} {l:List (List UInt8)} (a:Arg w v' l) :
    ∃ ρ' h' v,ρ.le ρ'∧Rel P ρ' h' w∧Kept w ρ' h'∧(∀ j,j < h.next→h'.objs.get j=h.objs.get j)∧h.next≤h'.next∧h'.next≤h.next + 1∧VR ρ' v v'∧(∀ b,Wr ρ' h' b→Wr ρ h b) ∧
      ∀ h'':H,(∀ j,j < h'.next→h''.objs.get j=h'.objs.get j)→(∀ X:Value→R,onSl v (bindO (lenV E h'' 33 v) X) (λ _ n _=>X (.int .i64 (.ofNat n)))=X (.int .i64 (.ofNat l.length)))∧(l.length≤900000→SL h'' v l):=by
  cases a with
  | nil =>
    refine ⟨ρ,h,.slice none 0 0,ρ.le_refl,hr,hI,λ _ _=>rfl,Nat.le_refl _,Nat.le_succ _,.of1 rfl,λ _ e=>e,λ h'' _=>⟨λ X=>onLen u .nil X,λ _=>.nil⟩⟩
  | row hh hc hcap =>
    rename_i b o cap cs t fr
    have hlen:∀ (A:Addr) (h'':H) (X:Value→R),onSl (.slice (some A) l.length (2 * cap)) (bindO (lenV E h'' 33 (.slice (some A) l.length (2 * cap))) X) (λ _ n _=>X (.int .i64 (.ofNat n)))=X (.int .i64 (.ofNat l.length)):=λ _ _ _=>rfl
    have hbs:b < w.heap.size:=(Array.getElem?_eq_some_iff.1 hh).1
    have hvr:∀ (ρ':Ren) (j:Nat) (x:Nat),ρ' j=some (b,x)→VR ρ' (.slice (some ⟨j,o,none⟩) l.length (2 * cap)) (.slice (some ⟨b,o,none⟩) l.length cap):=by
      intro ρ' j x e
      refine .of1 ?_
      have h2:(if (2 * cap) % 2=0 then 2 * cap / 2 else 2 * cap / 2 + x)=cap:=by rw [if_pos (by omega)]; omega
      simp only [den1,den0,e,h2]
    by_cases ex:l ≠ []∧∃ j q,ρ j=some q∧live (h.objs.get j)=true∧q.1=b
    · obtain ⟨hne,j,⟨q1,q2⟩,e1,e2,e3⟩:=ex
      have e3:q1=b:=e3
      subst e3
      have hpos:0 < l.length:=List.length_pos_iff.2 hne
      have hj:h.objs.get j=argO t cs:=by
        rcases hI j _ e1 e2 cs t fr hh with e | e
        · exact absurd (hc 0 hpos) (e _ _)
        · exact e.2
      refine ⟨ρ,h,.slice (some ⟨j,o,none⟩) l.length (2 * cap),ρ.le_refl,hr,hI,λ _ _=>rfl,Nat.le_refl _,Nat.le_succ _,hvr ρ j q2 e1,λ _ e=>e,λ h'' hh''=>⟨hlen _ _,λ hl=>sl_row (t:=t) (λ _=>?_) hc hcap hl⟩⟩
      rw [hh'' j (hr.dom j _ e1),hj]
    · have hput:∀ ob:AO,(ob=.dead ∨ (ob=argO t cs∧l ≠ []))→Rel P (ρ.upd h.next (b,0)) (h.push ob) w:=by
        intro ob hob
        refine hr.put hid h16 (λ ρ'=>?_) (λ hl j q e1 e2 e3=>?_) (λ _=>hbs)
        · rcases hob with e | e
          · rw [e]; trivial
          · rw [e.1]; exact argO_rel hh ρ'
        · rcases hob with e | e
          · rw [e] at hl; exact nomatch hl
          · exact ex ⟨e.2,j,q,e1,e2,e3⟩
      have hob:∃ ob:AO,(ob=.dead ∨ (ob=argO t cs∧l ≠ []))∧(l ≠ []→ob=argO t cs):=by
        by_cases e:l=[]
        · exact ⟨.dead,.inl rfl,λ e'=>absurd e e'⟩
        · exact ⟨argO t cs,.inr ⟨rfl,e⟩,λ _=>rfl⟩
      obtain ⟨ob,hob,hob2⟩:=hob
      have hget:∀ k,(h.push ob).objs.get k=if k=h.next then ob else h.objs.get k:=by
        intro k
        show (T.ins deep h.objs h.next ob).get k=_
        rw [T.get_ins _ _ _ _ _ hid]
      have hnone:ρ h.next=none:=hr.unmapped (Nat.le_refl _)
      have hdead:live ob=true→ob=argO t cs:=λ hl=>by
        rcases hob with e | e
        · rw [e] at hl; exact nomatch hl
        · exact e.1
      refine ⟨ρ.upd h.next (b,0),h.push ob,.slice (some ⟨h.next,o,none⟩) l.length (2 * cap),Ren.le_upd hnone,hput ob hob,?_,λ j hj=>?_,Nat.le_succ _,Nat.le_refl _,hvr _ _ 0 Ren.upd_same,?_,λ h'' hh''=>⟨hlen _ _,λ hl=>sl_row (t:=t) (λ hne=>?_) hc hcap hl⟩⟩
      · intro j q e1 e2 cs' t' fr' e3
        rw [hget] at e2 ⊢
        by_cases ej:j=h.next
        · rw [if_pos ej] at e2 ⊢
          subst ej
          rw [Ren.upd_same] at e1
          cases e1
          rw [show w.heap[b]?=_ from hh] at e3
          cases e3
          exact .inr ⟨rfl,hdead e2⟩
        · rw [if_neg ej] at e2 ⊢
          rw [Ren.upd_other ej] at e1
          exact hI j q e1 e2 cs' t' fr' e3
      · rw [hget,if_neg (by omega)]
      · rintro b' ⟨id,p,e1,e2,e3⟩
        rw [hget] at e3
        by_cases ej:id=h.next
        · rw [if_pos ej] at e3
          rcases hob with e | e
          · rw [e] at e3; exact nomatch e3
          · rw [e.1] at e3; exact nomatch e3
        · rw [if_neg ej] at e3
          rw [Ren.upd_other ej] at e1
          exact ⟨id,p,e1,e2,e3⟩
      · rw [hh'' h.next (Nat.lt_succ_self _),hget,if_pos rfl,hob2 hne]
theorem glob_kept {gl:List AO} (hgl:okG gl=true) (hs:sameG gl 0 (hzG gl)=true) (hr:Rel P renG (hzG gl) w):Kept w renG (hzG gl):=by
  intro j q e1 e2 cs t fr hh
  left
  intro o s hc
  rcases okG_get hgl j with ⟨_,e⟩ | ⟨hj,e,n,fz,c,g1,g2⟩
  · rw [e] at e2; exact nomatch e2
  · have hsr:=sameG_get hs j _ g1
    rw [Nat.zero_add] at hsr
    obtain ⟨_,_,_,_,_,h3⟩:=sameRow_inv hsr
    have ho:=hr.obj j q e1
    rw [g2] at ho
    obtain ⟨cs',fr',k1,k2,k3,k4,k5,k6⟩:=ho
    rw [hh] at k1
    cases k1
    have hlt:=(Array.getElem?_eq_some_iff.1 hc).1
    have hn:o < n:=by rw [← (k3 rfl).1]; exact hlt
    obtain ⟨v',a,b⟩:=k5 o hn
    obtain ⟨_,kk,m,h4⟩:=h3 o hn
    rw [hc] at a
    cases a
    rw [h4] at b
    rcases b with b | b
    · exact nomatch b
    · exact nomatch b
theorem sameG_congr {h h':H}:∀ (gl:List AO) (i:Nat),(∀ j,j < gl.length→h'.objs.get (i + j)=h.objs.get (i + j))→sameG gl i h'=sameG gl i h
  | [],i,_=>rfl
  | o :: gl,i,e=>by
    unfold sameG
    have e0:h'.objs.get i=h.objs.get i:=e 0 (Nat.succ_pos _)
    have ih:sameG gl (i + 1) h'=sameG gl (i + 1) h:=sameG_congr gl (i + 1) λ j hj=>by
      have:=e (j + 1) (Nat.succ_lt_succ hj)
      rwa [show i + (j + 1)=i + 1 + j by omega] at this
    rw [e0,ih]
theorem glob_same:sameG glob 0 (hzG glob)=true:=by kernel_rfl
theorem calls_agrees (ht:ExtAll aw34) {W:World} (hr:Rel Tryz.prog renG (hzG glob) W) {v w:Value} {l l':List (List UInt8)} (a:Arg W v l) (a':Arg W w l')
    {fn : Func} (hf : Tryz.prog.funcs[5]? = some fn) (hbody : fn.body.isNone = false) (hname : (fn.name == "runtime.NumGoroutine") = false) :
    Calls Tryz.prog 5 #[v,w] W λ e W'=>e=.returned (.bool true)∧W.heap.size≤W'.heap.size∧(∀ b,b < W.heap.size→W'.heap[b]?=W.heap[b]?)∧W'.os=W.os∧W'.output=W.output:=by
  have h16:(hzG glob).next=16:=rfl
  have hdeep:(18:Nat) + 1 < 2 ^ deep:=by decide
  obtain ⟨ρ1,h1,va,l1,r1,k1,s1,n1,m1,v1,w1,f1⟩:=arg1 hr (by omega) (by omega) (glob_kept glob_ok glob_same hr) ue_t a
  obtain ⟨ρ2,h2,wa,l2,r2,k2,s2,n2,m2,v2,w2,f2⟩:=arg1 r1 (by omega) (by omega) k1 ue_t a'
  have g1:=f1 h2 λ j hj=>s2 j hj
  have g2:=f2 h2 λ j _=>rfl
  have hg:sameG glob 0 h2=true:=by
    rw [sameG_congr (h:=hzG glob) glob 0 λ j hj=>?_]
    · exact glob_same
    · have:j < 4:=hj
      rw [s2 _ (by omega),s1 _ (by omega)]
  have hrun:=agrees_run hg (show h2.next≤1000000000 by omega) g1.1 g2.1 (λ e=>g1.2 (by omega)) (λ e=>g2.2 (by omega)) (λ v h=>some (v,h))
  obtain ⟨N,u,h',hcall,he⟩:=callF_callV hrun
  cases he
  have hx:=call_ok (env_of aw34 ht) (region_ok (env_of aw34 ht).toTypesOK) N 5 _ h2 _ _ hcall ρ2 W [v,w] r2 ⟨v1.mono l2,v2,trivial⟩
  rcases hx with ⟨v',ρ',w',h1,_,_⟩ | ⟨fn',_,_,_,h2⟩
  · exfalso
    unfold callFunc at h1
    rw [Sem.run_bind,run_program] at h1
    simp only [Result.andThen_ok,hf,hname,hbody,Bool.false_eq_true,if_false] at h1
    exact nomatch h1
  · refine h2.mono ?_
    rintro e W' ⟨ρ',v',rfl,hv,s⟩
    rw [hv.bool]
    exact ⟨rfl,s.size,λ b hb=>s.same b hb λ hw=>wr_G glob_ok b (w1 b (w2 b hw)),s.os,s.output⟩
end Go.Ev
