/-
  The hot functions of a program: a record's fields.
-/
import Derived.Test.YtdibeojmiobklaaGreatDoorLa
import Derived.Test.YtdibeojmiobklaaGreatDoorMe
import Derived.Test.YtdibeojmiobklaaGreatDoorKb
import Derived.Test.YtdibeojmiobklaaGreatDoorEe
set_option linter.unusedVariables false
set_option linter.unusedSimpArgs false
namespace Go.Ev
open Go F Go.Proofs
set_option maxRecDepth 100000
set_option exponentiation.threshold 3000
set_option linter.unusedSimpArgs false
set_option linter.unusedVariables false
theorem c333 (m:Nat) (a0 a1:Value) (h:H) (k:Value→H→R):callF EE KK (m + 1) 355 [a0,a1] h k=q333 EE (callF EE KK m) a0 a1 h k:=by
  show (funC (EX ext0) KK 355).run _ _ _ _=_
  rw [funC_funB (by kernel_rfl)]
  exact q333_eq ext0 _ a0 a1 h k
theorem c332 (m:Nat) (a0 a1:Value) (h:H) (k:Value→H→R):callF EE KK (m + 1) 354 [a0,a1] h k=q332 EE (callF EE KK m) a0 a1 h k:=by
  show (funC (EX ext0) KK 354).run _ _ _ _=_
  rw [funC_funB (by kernel_rfl)]
  exact q332_eq ext0 _ a0 a1 h k
theorem c334 (m:Nat) (a0 a1:Value) (h:H) (k:Value→H→R):callF EE KK (m + 1) 356 [a0,a1] h k=q334 EE (callF EE KK m) a0 a1 h k:=by
  show (funC (EX ext0) KK 356).run _ _ _ _=_
  rw [funC_funB (by kernel_rfl)]
  exact q334_eq ext0 _ a0 a1 h k
theorem c285 (m:Nat) (a0 a1 a2:Value) (h:H) (k:Value→H→R):callF EE KK (m + 1) 289 [a0,a1,a2] h k=q285 EE (callF EE KK m) a0 a1 a2 h k:=by
  show (funC (EX ext0) KK 289).run _ _ _ _=_
  rw [funC_funB (by kernel_rfl)]
  exact q285_eq ext0 _ a0 a1 a2 h k
theorem c192 (m:Nat) (a0 a1:Value) (h:H) (k:Value→H→R):callF EE KK (m + 1) 185 [a0,a1] h k=q192 EE (callF EE KK m) a0 a1 h k:=by
  show (funC (EX ext0) KK 185).run _ _ _ _=_
  rw [funC_funB (by kernel_rfl)]
  exact q192_eq ext0 _ a0 a1 h k
theorem c209 (m:Nat) (a0:Value) (h:H) (k:Value→H→R):callF EE KK (m + 1) 180 [a0] h k=q209 EE (callF EE KK m) a0 h k:=by
  show (funC (EX ext0) KK 180).run _ _ _ _=_
  rw [funC_funB (by kernel_rfl)]
  exact q209_eq ext0 _ a0 h k
theorem c284 (m:Nat) (a0:Value) (h:H) (k:Value→H→R):callF EE KK (m + 1) 288 [a0] h k=q284 EE (callF EE KK m) a0 h k:=by
  show (funC (EX ext0) KK 288).run _ _ _ _=_
  rw [funC_funB (by kernel_rfl)]
  exact q284_eq ext0 _ a0 h k
theorem c96 (m:Nat) (a0:Value) (h:H) (k:Value→H→R):callF EE KK (m + 1) 202 [a0] h k=q96 EE (callF EE KK m) a0 h k:=by
  show (funC (EX ext0) KK 202).run _ _ _ _=_
  rw [funC_funB (by kernel_rfl)]
  exact q96_eq ext0 _ a0 h k
theorem und75:EE.und 50=some (.slice 3):=by kernel_rfl
theorem size3:EE.size 3=some 1:=by kernel_rfl
def recL (A:Addr) (n c:Nat):List Value:=[.slice (some A) n c]
theorem allr (A:Addr) (n c:Nat):allF (λ v=>cell1F v) (recL A n c)=true:=rfl
theorem lenr (A:Addr) (n c:Nat):lenF (recL A n c)=1:=rfl
theorem geq_t {E:Env} {ty m n:Nat} {cx cy:Bool} {k:Value→R} (hE:E.und ty=some (.int .i64)) (h:n≤m):binR (binC E .geq ty cx cy) (.int .i64 (.ofNat m)) (.int .i64 (.ofNat n)) k=k (.bool true):=by rw [geq_i64 hE,ble_t h]
set_option maxHeartbeats 1000000 in
theorem has_run (m:Nat) {h:H} {A:Addr} {n c i:Nat} (hi:i < n) (hn:h.next≤1000000000) (k:Value→H→R) :
    callF EE KK (m + 1) 355 [.agg ⟨recL A n c⟩,.int .i64 (.ofNat i)] h k=k (.bool true) (hpush h (.row 264 1 false false 0 (T.ofList unk (recL A n c)))):=by
  have hrow:∀ k,onRow (hget (hpush h (.row 264 1 false false 0 (T.ofList unk (recL A n c)))) h.next) k=k 264 1 false false 0 (T.ofList unk (recL A n c)):=λ k=>by rw [get_push_eq _ _ hn]; rfl
  have e0:∀ s k,onSl (getF (T.ofList unk (recL A n c)) 0) s k=k A n c:=λ s k=>by rw [getF_ofList]; rfl
  rw [c333]
  unfold q333
  simp (disch:=first | omega | (simp only [Nat.add_eq,Nat.mul_eq,Nat.succ_eq_add_one]; omega)) only [↓onCells_agg,↓allr,↓ifB_true,↓lenr,↓ifB_ble,↓letH_eq,↓geq_t und3,↓joinV_eq,↓onG_tt,↓onB_tt,↓onPtr_ptr,↓hrow,↓e0,↓lss_t und3]
def natAt:Value→Nat
  | .int .i64 (.ofNat w)=>w
  | _=>0
noncomputable def sumF (c:T Value):Nat→Nat→Nat→Nat
  | 0,_,x=>x
  | d + 1,o,x=>sumF c d (o + 1) (x + natAt (getF c o))
def Small (c:T Value) (o n:Nat):Prop:=∀ j,j < n→∃ w,getF c (o + j)=.int .i64 (.ofNat w)∧w≤1000000
noncomputable def step332 (v77:Value) (n107:Nat) (k111:FEnv [5]→H→R):(FEnv [5,13]→H→R)→FEnv [5,13]→H→R:=
  (λ k112=>(λ e113=>(λ h114=>(binR (binC EE Go.BinOp.lss 3 (isC (Go.Operand.tmp 13)) (isC (Go.Operand.tmp 12))) e113.2.1 (Value.int Go.IntKind.i64 (Int.ofNat n107)) (λ v115=>(@joinR [] (λ e116=>(λ h117=>(@joinR (5 :: []) (λ e118=>(λ h119=>(binR (binC EE Go.BinOp.add 3 (isC (Go.Operand.tmp 13)) (isC (Go.Operand.const (Value.int Go.IntKind.i64 1)))) e113.2.1 (Value.int Go.IntKind.i64 (Int.ofNat 1)) (λ v120=>(k112 (e118.1,(v120,())) h119))))) (λ k121=>(onNat e113.2.1 none (λ n122=>(onSl v77 none (λ a123=>(λ n124=>(λ n125=>(ifB (Nat.ble (Nat.succ n122) n124) (addOffF a123 (Nat.mul n122 1) (λ v126=>(onPtr v126 (λ a127=>(onRow (hget h117 a127.1) (λ x128=>(λ n129=>(λ x130=>(λ x131=>(λ n132=>(λ t133=>(ifB (Nat.ble (Nat.succ a127.2) n129) (binR (binC EE Go.BinOp.add 3 (isC (Go.Operand.tmp 17)) (isC (Go.Operand.tmp 18))) e113.1 (@getF Go.Value t133 a127.2) (λ v134=>(k121 (v134,()) h117)))))))))))))))))))))))))) (λ k135=>(onB v115 (k111 (e113.1,()) h114) (k135 () h114)))))))))
noncomputable def g332b (E:Env) (rc:RC) (a0 a1:Value) (h:H) (k:Value→H→R):R :=
  (onCells a0 (λ l68=>(ifB (allF (λ v69=>(cell1F v69)) l68) (ifB (Nat.ble h.1 1000000000) (letH (hpush h (AO.row 264 (lenF l68) Bool.false Bool.false 0 (@T.ofList Go.Value unk l68))) (λ h70=>(onRow (hget h70 h.1) (λ x71=>(λ n72=>(λ x73=>(λ x74=>(λ n75=>(λ t76=>(ifB (Nat.ble (Nat.succ 0) n72) (bindO (sliceV E 50 (@getF Go.Value t76 0) none (some a1) none) (λ v77=>(onSl v77 (bindO (lenV E h70 50 v77) (λ v78=>(@joinR (5 :: []) (λ e79=>(λ h80=>(k e79.1 h80))) (λ k81=>(@loopF (5 :: (13 :: [])) (λ k82=>(λ e83=>(λ h84=>(binR (binC E Go.BinOp.lss 3 (isC (Go.Operand.tmp 13)) (isC (Go.Operand.tmp 12))) e83.2.1 v78 (λ v85=>(@joinR [] (λ e86=>(λ h87=>(@joinR (5 :: []) (λ e88=>(λ h89=>(binR (binC E Go.BinOp.add 3 (isC (Go.Operand.tmp 13)) (isC (Go.Operand.const (Value.int Go.IntKind.i64 1)))) e83.2.1 (Value.int Go.IntKind.i64 (Int.ofNat 1)) (λ v90=>(k82 (e88.1,(v90,())) h89))))) (λ k91=>(onNat e83.2.1 none (λ n92=>(onSl v77 none (λ a93=>(λ n94=>(λ n95=>(ifB (Nat.ble (Nat.succ n92) n94) (addOffF a93 (Nat.mul n92 1) (λ v96=>(onPtr v96 (λ a97=>(onRow (hget h87 a97.1) (λ x98=>(λ n99=>(λ x100=>(λ x101=>(λ n102=>(λ t103=>(ifB (Nat.ble (Nat.succ a97.2) n99) (binR (binC E Go.BinOp.add 3 (isC (Go.Operand.tmp 17)) (isC (Go.Operand.tmp 18))) e83.1 (@getF Go.Value t103 a97.2) (λ v104=>(k91 (v104,()) h87)))))))))))))))))))))))))) (λ k105=>(onB v85 (k81 (e83.1,()) h84) (k105 () h84))))))))) bigN ((Value.int Go.IntKind.i64 (Int.ofNat 0)),((Value.int Go.IntKind.i64 (Int.ofNat 0)),())) h70))))) (λ a106=>(λ n107=>(λ n108=>(@joinR (5 :: []) (λ e109=>(λ h110=>(k e109.1 h110))) (λ k111=>(@loopF (5 :: (13 :: [])) (step332 v77 n107 k111) bigN ((Value.int Go.IntKind.i64 (Int.ofNat 0)),((Value.int Go.IntKind.i64 (Int.ofNat 0)),())) h70)))))))))))))))))))))))
theorem g332b_eq (rc:RC) (a0 a1:Value) (h:H) (k:Value→H→R):q332 EE rc a0 a1 h k=g332b EE rc a0 a1 h k:=by kernel_rfl
theorem loop332 {b o n cc:Nat} {e mm fz:Nat} {op ro:Bool} {cw:T Value} (k111:FEnv [5]→H→R) (hs:Small cw o n) (hm:o + n≤mm) (hn:n≤1000000):∀ (d i N x:Nat) (h:H),i + d=n→d < N→x≤i * 1000000→hget h b=.row e mm op ro fz cw →
    loopF (ks:=[5,13]) (step332 (.slice (some ⟨b,o,none⟩) n cc) n k111) N (.int .i64 (.ofNat x),(.int .i64 (.ofNat i),())) h=k111 (.int .i64 (.ofNat (sumF cw d (o + i) x)),()) h:=by
  intro d
  induction d with
  | zero =>
    intro i N x h hi hN hx hq
    obtain ⟨N,rfl⟩:∃ M,N=M + 1:=⟨N - 1,by omega⟩
    rw [loopF_one]
    unfold step332
    simp (disch:=omega) only [↓lss_f und3,↓joinR_eq,↓onB_ff]
    rfl
  | succ d ih =>
    intro i N x h hi hN hx hq
    obtain ⟨N,rfl⟩:∃ M,N=M + 1:=⟨N - 1,by omega⟩
    obtain ⟨w,hw,hw2⟩:=hs i (by omega)
    have hqr:∀ k,onRow (hget h b) k=k e mm op ro fz cw:=λ k=>by rw [hq]; rfl
    have hmul:(i + 1) * 1000000=i * 1000000 + 1000000:=by omega
    have key:=ih (i + 1) N (x + w) h (by omega) (by omega) (by omega) hq
    rw [loopF_one]
    generalize loopF (ks:=[5,13]) (step332 (.slice (some ⟨b,o,none⟩) n cc) n k111) N=L at key ⊢
    unfold step332
    simp (disch:=first | omega | (simp only [Nat.add_eq,Nat.mul_eq,Nat.succ_eq_add_one]; omega)) only [↓lss_t und3,↓joinR_eq,↓onB_tt,↓onNat_int,↓onSl_sl,↓ifB_ble,↓addOffF_eq,↓onPtr_ptr,↓hqr]
    rw [show i.mul 1=i from Nat.mul_one i,hw]
    simp (disch:=first | omega | (simp only [Nat.add_eq,Nat.mul_eq,Nat.succ_eq_add_one]; omega)) only [↓add_i64 und3]
    rw [key]
    show _=k111 (.int .i64 (.ofNat (sumF cw d (o + i + 1) (x + natAt (getF cw (o + i))))),()) h
    rw [hw]
    rfl
theorem slice_hi3 {E:Env} {t e l c b o m:Nat} {kd:IntKind} (hE:E.und t=some (.slice e)) (hs:E.size e=some 1) (h1:m≤c / 2) :
    sliceV E t (.slice (some ⟨b,o,none⟩) l c) none (some (.int kd (.ofNat m))) none=some (.slice (some ⟨b,o,none⟩) m c):=by
  have e1:2 * (c / 2) + c % 2=c:=by omega
  have h2:Nat.ble m (c / 2)=true:=ble_t h1
  simp only [sliceV,hE,hs,bound,h2,cond_true,Option.isNone_none,Option.isSome_some,Bool.or_true,Bool.and_true,openBit]
  cases hc:Nat.beq (c / 2) 0 <;> simp [hc,e1]
theorem cells1 (A:Addr) (n c:Nat):cellsF (T.ofList unk (recL A n c)) 1 0=recL A n c:=by
  show [getF _ 0]=_
  rw [getF_ofList]; rfl
set_option maxHeartbeats 1000000 in
theorem ahead_run (m:Nat) {h:H} {b o n c i:Nat} {e mm fz:Nat} {op ro:Bool} {cw:T Value} (hi:i≤c / 2) (hs:Small cw o i) (hm:o + i≤mm) (hi2:i≤900000) (hb:b < h.next) (hq:hget h b=.row e mm op ro fz cw) (hn:h.next≤1000000000) (k:Value→H→R) :
    callF EE KK (m + 1) 354 [.agg ⟨recL ⟨b,o,none⟩ n c⟩,.int .i64 (.ofNat i)] h k=k (.int .i64 (.ofNat (sumF cw i o 0))) (hpush h (.row 264 1 false false 0 (T.ofList unk (recL ⟨b,o,none⟩ n c)))):=by
  have hrow:∀ k,onRow (hget (hpush h (.row 264 1 false false 0 (T.ofList unk (recL ⟨b,o,none⟩ n c)))) h.next) k=k 264 1 false false 0 (T.ofList unk (recL ⟨b,o,none⟩ n c)):=λ k=>by rw [get_push_eq _ _ hn]; rfl
  have e0:getF (T.ofList unk (recL ⟨b,o,none⟩ n c)) 0=.slice (some ⟨b,o,none⟩) n c:=by rw [getF_ofList]; rfl
  rw [c332,g332b_eq]
  unfold g332b
  simp (disch:=first | omega | (simp only [Nat.add_eq,Nat.mul_eq,Nat.succ_eq_add_one]; omega)) only [↓onCells_agg,↓allr,↓ifB_true,↓lenr,↓ifB_ble,↓letH_eq,↓hrow]
  rw [e0,slice_hi3 und75 size3 hi]
  simp (disch:=first | omega | (simp only [Nat.add_eq,Nat.mul_eq,Nat.succ_eq_add_one]; omega)) only [↓bindO_some',↓onSl_sl,↓joinR_eq]
  have:=loop332 (cc:=c) (b:=b) (o:=o) (n:=i) (λ e109 h110=>k e109.1 h110) hs hm (by omega) i 0 bigN 0 (hpush h (.row 264 1 false false 0 (T.ofList unk (recL ⟨b,o,none⟩ n c)))) (by omega) (by unfold bigN; omega) (by omega) (by rw [get_push_ne _ _ hn hb,hq])
  rw [Nat.add_zero] at this
  exact this
set_option maxHeartbeats 1000000 in
theorem fsize_run (m:Nat) {h:H} {b o n c:Nat} {e mm fz:Nat} {op ro:Bool} {cw:T Value} (hi:n≤c / 2) (hs:Small cw o n) (hm:o + n≤mm) (hi2:n≤900000) (hb:b < h.next) (hq:hget h b=.row e mm op ro fz cw) (hn:h.next + 10≤1000000000) (k:Value→H→R) :
    callF EE KK (m + 2) 288 [.agg ⟨recL ⟨b,o,none⟩ n c⟩] h k=k (.int .i64 (.ofNat (sumF cw n o 0))) (hpush (hpush h (.row 264 1 false false 0 (T.ofList unk (recL ⟨b,o,none⟩ n c)))) (.row 264 1 false false 0 (T.ofList unk (recL ⟨b,o,none⟩ n c)))):=by
  have hrow:∀ k,onRow (hget (hpush h (.row 264 1 false false 0 (T.ofList unk (recL ⟨b,o,none⟩ n c)))) h.next) k=k 264 1 false false 0 (T.ofList unk (recL ⟨b,o,none⟩ n c)):=λ k=>by rw [get_push_eq _ _ (by omega)]; rfl
  have e0:∀ s k,onSl (getF (T.ofList unk (recL ⟨b,o,none⟩ n c)) 0) s k=k ⟨b,o,none⟩ n c:=λ s k=>by rw [getF_ofList]; rfl
  rw [c284]
  unfold q284
  simp (disch:=first | omega | (simp only [Nat.add_eq,Nat.mul_eq,Nat.succ_eq_add_one]; omega)) only [↓onCells_agg,↓allr,↓ifB_true,↓lenr,↓ifB_ble,↓letH_eq,↓hrow,↓e0]
  rw [cells1,ahead_run m hi hs hm hi2 (by rw [next_push]; omega) (by rw [get_push_ne _ _ (by omega) hb,hq]) (by rw [next_push]; omega)]
set_option maxHeartbeats 1000000 in
theorem fat_run (m:Nat) {h:H} {b o n c i:Nat} {e mm fz:Nat} {op ro:Bool} {cw:T Value} (hin:i < n) (hi:i≤c / 2) (hs:Small cw o i) (hm:o + i≤mm) (hi2:i≤900000) (hb:b < h.next) (hq:hget h b=.row e mm op ro fz cw) (hn:h.next + 10≤1000000000) :
    ∃ h',Old h h'∧h'.next≤h.next + 3∧∀ k:Value→H→R,callF EE KK (m + 2) 356 [.agg ⟨recL ⟨b,o,none⟩ n c⟩,.int .i64 (.ofNat i)] h k=k (.int .i64 (.ofNat (sumF cw i o 0))) h':=by
  have o1:Old h (hpush h (.row 264 1 false false 0 (T.ofList unk (recL ⟨b,o,none⟩ n c)))):=(Old.refl h).push _ (by omega)
  generalize hh1:hpush h (.row 264 1 false false 0 (T.ofList unk (recL ⟨b,o,none⟩ n c)))=g1 at o1
  have n1:g1.next=h.next + 1:=by rw [← hh1]; rfl
  have o2:Old g1 (hpush g1 (.row 264 1 false false 0 (T.ofList unk (recL ⟨b,o,none⟩ n c)))):=(Old.refl g1).push _ (by omega)
  generalize hh2:hpush g1 (.row 264 1 false false 0 (T.ofList unk (recL ⟨b,o,none⟩ n c)))=g2 at o2
  have n2:g2.next=h.next + 2:=by rw [← hh2,next_push,n1]
  have o3:Old g2 (hpush g2 (.row 264 1 false false 0 (T.ofList unk (recL ⟨b,o,none⟩ n c)))):=(Old.refl g2).push _ (by omega)
  generalize hh3:hpush g2 (.row 264 1 false false 0 (T.ofList unk (recL ⟨b,o,none⟩ n c)))=g3 at o3
  have n3:g3.next=h.next + 3:=by rw [← hh3,next_push,n2]
  have r1:hget g1 h.next=.row 264 1 false false 0 (T.ofList unk (recL ⟨b,o,none⟩ n c)):=by rw [← hh1,get_push_eq _ _ (by omega)]
  have k1:∀ k,onRow (hget g1 h.next) k=k 264 1 false false 0 (T.ofList unk (recL ⟨b,o,none⟩ n c)):=λ k=>by rw [r1]; rfl
  have k2:∀ k,onRow (hget g2 h.next) k=k 264 1 false false 0 (T.ofList unk (recL ⟨b,o,none⟩ n c)):=λ k=>by rw [o2.2 _ (by omega),r1]; rfl
  have w1:∀ k,callF EE KK (m + 1) 355 [.agg ⟨recL ⟨b,o,none⟩ n c⟩,.int .i64 (.ofNat i)] g1 k=k (.bool true) g2:=λ k=>by rw [has_run m hin (by omega),hh2]
  have w2:∀ k,callF EE KK (m + 1) 354 [.agg ⟨recL ⟨b,o,none⟩ n c⟩,.int .i64 (.ofNat i)] g2 k=k (.int .i64 (.ofNat (sumF cw i o 0))) g3:=λ k=>by
    rw [ahead_run m hi hs hm hi2 (by omega) (by rw [o2.2 _ (by omega),o1.2 _ hb,hq]) (by omega),hh3]
  refine ⟨g3,o1.trans (o2.trans o3),by omega,λ k=>?_⟩
  rw [c334]
  unfold q334
  simp (disch:=first | omega | (simp only [Nat.add_eq,Nat.mul_eq,Nat.succ_eq_add_one]; omega)) only [↓onCells_agg,↓allr,↓ifB_true,↓lenr,↓ifB_ble,↓letH_eq]
  rw [hh1]
  simp (disch:=first | omega | (simp only [Nat.add_eq,Nat.mul_eq,Nat.succ_eq_add_one]; omega)) only [↓k1,↓ifB_ble]
  rw [cells1]
  simp (disch:=first | omega | (simp only [Nat.add_eq,Nat.mul_eq,Nat.succ_eq_add_one]; omega)) only [↓w1,↓onB_tt,↓joinR_eq,↓k2,↓ifB_ble]
  rw [cells1]
  simp only [↓w2]
set_option maxHeartbeats 1000000 in
theorem vsize_run (m:Nat) {h:H} {A:Addr} {at0 size:Nat} (hn:h.next≤1000000000) (k:Value→H→R) :
    callF EE KK (m + 1) 180 [.agg ⟨viewV A at0 size⟩] h k=k (.int .i64 (.ofNat size)) (hpush h (.row 78 3 false false 0 (T.ofList unk (viewV A at0 size)))):=by
  have hrow:∀ k,onRow (hget (hpush h (.row 78 3 false false 0 (T.ofList unk (viewV A at0 size)))) h.next) k=k 78 3 false false 0 (T.ofList unk (viewV A at0 size)):=λ k=>by rw [get_push_eq _ _ hn]; rfl
  have e2:getF (T.ofList unk (viewV A at0 size)) 2=.int .i64 (.ofNat size):=by rw [getF_ofList]; rfl
  rw [c209]
  unfold q209
  simp (disch:=first | omega | (simp only [Nat.add_eq,Nat.mul_eq,Nat.succ_eq_add_one]; omega)) only [↓onCells_agg,↓allv,↓ifB_true,↓lenv,↓ifB_ble,↓letH_eq,↓hrow]
  rw [show Nat.add 0 2=2 from rfl,e2]
end Go.Ev
namespace Go.Ev
open Go F Go.Proofs
set_option linter.unusedVariables false
noncomputable def onAgg (v:Value) (k:List Value→R):R:=CV.rec (motive:=λ _=>R) none none k (asC v)
theorem onAgg_some {v:Value} {k:List Value→R} {r} (h:onAgg v k=some r):∃ l,v=.agg ⟨l⟩∧k l=some r:=by
  cases v with
  | agg a=>exact ⟨a.1,rfl,h⟩
  | _=>exact nomatch h
noncomputable def onRec (v:Value) (k:Nat→Nat→Nat→Nat→R):R :=
  onAgg v λ l=>ifB (Nat.beq (lenF l) 1) (nthF 0 l λ s=>onSl s none λ ad n c=>onAt ad λ b o=>k b o n c)
theorem onRec_some {v:Value} {k:Nat→Nat→Nat→Nat→R} {r} (h:onRec v k=some r):∃ b o n c,v=.agg ⟨recL ⟨b,o,none⟩ n c⟩∧k b o n c=some r:=by
  unfold onRec at h
  obtain ⟨l,ev,h⟩:=onAgg_some h
  obtain ⟨hl,h⟩:=ifB_some h
  obtain ⟨s,e0,h⟩:=nthF_some h
  obtain ⟨ad,n,c,es,h⟩:=onSl_some' h
  obtain ⟨b,o,ed,h⟩:=onAt_some h
  have hl:=Nat.eq_of_beq_eq_true hl
  rw [lenF_eq] at hl
  refine ⟨b,o,n,c,?_,h⟩
  match l,hl with
  | [a],_ =>
    simp at e0
    rw [ev,e0,es,ed]
    rfl
noncomputable def sumQ (c:T Value) (d:Nat):Nat→Nat→(Nat→R)→R :=
  Nat.rec (motive:=λ _=>Nat→Nat→(Nat→R)→R) (λ _ x k=>fcN x k) (λ _ ih o x k=>onI64 (getF c o) λ w=>ifB (Nat.ble w 1000000) (ih (Nat.succ o) (Nat.add x w) k)) d
theorem sumQ_some {c:T Value}:∀ {d o x:Nat} {k:Nat→R} {r},sumQ c d o x k=some r→Small c o d∧k (sumF c d o x)=some r
  | 0,o,x,k,r,h=>by
    have h:fcN x k=some r:=h
    rw [fcN_eq] at h
    exact ⟨λ j hj=>absurd hj (Nat.not_lt_zero j),h⟩
  | d + 1,o,x,k,r,h=>by
    have h:(onI64 (getF c o) λ w=>ifB (Nat.ble w 1000000) (sumQ c d (Nat.succ o) (Nat.add x w) k))=some r:=h
    obtain ⟨w,e,h⟩:=onI64_some h
    obtain ⟨hb,h⟩:=ifB_some h
    obtain ⟨hs,hk⟩:=sumQ_some h
    refine ⟨λ j hj=>?_,?_⟩
    · cases j with
      | zero=>exact ⟨w,e,Nat.le_of_ble_eq_true hb⟩
      | succ j =>
        obtain ⟨w2,e2,h2⟩:=hs j (by omega)
        exact ⟨w2,by rw [← e2]; congr 1; omega,h2⟩
    · show k (sumF c d (o + 1) (x + natAt (getF c o)))=some r
      rw [e]
      exact hk
noncomputable def hasQ (args:List Value) (h:H):R :=
  nthF 0 args λ v=>nthF 1 args λ vi=>ifB (Nat.beq (lenF args) 2) (onI64 vi λ i=>onRec v λ b o n c=>ifB (Nat.ble (Nat.succ i) n) (ifB (Nat.ble h.1 1000000000) (some (.bool true,h))))
theorem hasQ_ok {args:List Value} {h:H} {r:Value × H} (hq:hasQ args h=some r):Quick 355 args h r:=by
  unfold hasQ at hq
  obtain ⟨v,e0,hq⟩:=nthF_some hq
  obtain ⟨vi,e1,hq⟩:=nthF_some hq
  obtain ⟨hl,hq⟩:=ifB_some hq
  have hl:=Nat.eq_of_beq_eq_true hl
  rw [lenF_eq] at hl
  have ha:=args2 e0 e1 hl
  obtain ⟨i,ei,hq⟩:=onI64_some hq
  obtain ⟨b,o,n,c,ev,hq⟩:=onRec_some hq
  obtain ⟨q1,hq⟩:=ifB_some hq
  obtain ⟨q2,hq⟩:=ifB_some hq
  have hq:=Option.some.inj hq
  subst hq
  have q2:=Nat.le_of_ble_eq_true q2
  refine ⟨rfl,_,rfl,λ _ _ q=>q,1,_,(Old.refl h).push (.row 264 1 false false 0 (T.ofList unk (recL ⟨b,o,none⟩ n c))) q2,λ k=>?_⟩
  rw [ha,ev,ei]
  exact has_run 0 (Nat.le_of_ble_eq_true q1) q2 k
noncomputable def aheadP (v vi:Value) (h:H) (k:Nat→Nat→Nat→R):R :=
  onI64 vi λ i=>onRec v λ b o n c=>ifB (Nat.ble i (Nat.div c 2)) (ifB (Nat.ble i 900000) (ifB (Nat.ble (Nat.succ b) h.1) (ifB (Nat.ble (Nat.add h.1 10) 1000000000) (onRow (hget h b) λ _ mm _ _ _ cw=>ifB (Nat.ble (Nat.add o i) mm) (sumQ cw i o 0 λ x=>k i n x)))))
theorem aheadP_some {v vi:Value} {h:H} {k:Nat→Nat→Nat→R} {r} (hq:aheadP v vi h k=some r) :
    ∃ b o n c i e mm op ro fz cw,v=.agg ⟨recL ⟨b,o,none⟩ n c⟩∧vi=.int .i64 (.ofNat i)∧i≤c / 2∧i≤900000∧b < h.next∧h.next + 10≤1000000000∧hget h b=.row e mm op ro fz cw∧o + i≤mm∧Small cw o i∧k i n (sumF cw i o 0)=some r:=by
  unfold aheadP at hq
  obtain ⟨i,ei,hq⟩:=onI64_some hq
  obtain ⟨b,o,n,c,ev,hq⟩:=onRec_some hq
  obtain ⟨q1,hq⟩:=ifB_some hq
  obtain ⟨q2,hq⟩:=ifB_some hq
  obtain ⟨q3,hq⟩:=ifB_some hq
  obtain ⟨q4,hq⟩:=ifB_some hq
  obtain ⟨e,mm,op,ro,fz,cw,hr,hq⟩:=onRow_some hq
  obtain ⟨q5,hq⟩:=ifB_some hq
  obtain ⟨hs,hq⟩:=sumQ_some hq
  exact ⟨b,o,n,c,i,e,mm,op,ro,fz,cw,ev,ei,Nat.le_of_ble_eq_true q1,Nat.le_of_ble_eq_true q2,Nat.le_of_ble_eq_true q3,Nat.le_of_ble_eq_true q4,hr,Nat.le_of_ble_eq_true q5,hs,hq⟩
noncomputable def aheadQ (args:List Value) (h:H):R :=
  nthF 0 args λ v=>nthF 1 args λ vi=>ifB (Nat.beq (lenF args) 2) (aheadP v vi h λ _ _ x=>some (.int .i64 (.ofNat x),h))
theorem aheadQ_ok {args:List Value} {h:H} {r:Value × H} (hq:aheadQ args h=some r):Quick 354 args h r:=by
  unfold aheadQ at hq
  obtain ⟨v,e0,hq⟩:=nthF_some hq
  obtain ⟨vi,e1,hq⟩:=nthF_some hq
  obtain ⟨hl,hq⟩:=ifB_some hq
  have hl:=Nat.eq_of_beq_eq_true hl
  rw [lenF_eq] at hl
  have ha:=args2 e0 e1 hl
  obtain ⟨b,o,n,c,i,e,mm,op,ro,fz,cw,ev,ei,q1,q2,q3,q4,hr,q5,hs,hq⟩:=aheadP_some hq
  have hq:=Option.some.inj hq
  subst hq
  refine ⟨rfl,_,rfl,λ _ _ q=>q,1,_,(Old.refl h).push (.row 264 1 false false 0 (T.ofList unk (recL ⟨b,o,none⟩ n c))) (by omega),λ k=>?_⟩
  rw [ha,ev,ei]
  exact ahead_run 0 q1 hs q5 q2 q3 hr (by omega) k
noncomputable def fatQ (args:List Value) (h:H):R :=
  nthF 0 args λ v=>nthF 1 args λ vi=>ifB (Nat.beq (lenF args) 2) (aheadP v vi h λ i n x=>ifB (Nat.ble (Nat.succ i) n) (some (.int .i64 (.ofNat x),h)))
theorem fatQ_ok {args:List Value} {h:H} {r:Value × H} (hq:fatQ args h=some r):Quick 356 args h r:=by
  unfold fatQ at hq
  obtain ⟨v,e0,hq⟩:=nthF_some hq
  obtain ⟨vi,e1,hq⟩:=nthF_some hq
  obtain ⟨hl,hq⟩:=ifB_some hq
  have hl:=Nat.eq_of_beq_eq_true hl
  rw [lenF_eq] at hl
  have ha:=args2 e0 e1 hl
  obtain ⟨b,o,n,c,i,e,mm,op,ro,fz,cw,ev,ei,q1,q2,q3,q4,hr,q5,hs,hq⟩:=aheadP_some hq
  obtain ⟨q6,hq⟩:=ifB_some hq
  have hq:=Option.some.inj hq
  subst hq
  obtain ⟨h',ho,_,hk⟩:=fat_run 0 (Nat.le_of_ble_eq_true q6) q1 hs q5 q2 q3 hr q4
  refine ⟨rfl,_,rfl,λ _ _ q=>q,2,h',ho,λ k=>?_⟩
  rw [ha,ev,ei]
  exact hk k
noncomputable def fsizeQ (args:List Value) (h:H):R :=
  nthF 0 args λ v=>ifB (Nat.beq (lenF args) 1) (onRec v λ b o n c=>ifB (Nat.ble n (Nat.div c 2)) (ifB (Nat.ble n 900000) (ifB (Nat.ble (Nat.succ b) h.1) (ifB (Nat.ble (Nat.add h.1 10) 1000000000) (onRow (hget h b) λ _ mm _ _ _ cw=>ifB (Nat.ble (Nat.add o n) mm) (sumQ cw n o 0 λ x=>some (.int .i64 (.ofNat x),h)))))))
theorem args1 {args:List Value} {v0:Value} (h0:args[0]?=some v0) (hl:args.length=1):args=[v0]:=by
  match args,hl with
  | [a],_=>simp at h0; rw [h0]
theorem fsizeQ_ok {args:List Value} {h:H} {r:Value × H} (hq:fsizeQ args h=some r):Quick 288 args h r:=by
  unfold fsizeQ at hq
  obtain ⟨v,e0,hq⟩:=nthF_some hq
  obtain ⟨hl,hq⟩:=ifB_some hq
  have hl:=Nat.eq_of_beq_eq_true hl
  rw [lenF_eq] at hl
  have ha:=args1 e0 hl
  obtain ⟨b,o,n,c,ev,hq⟩:=onRec_some hq
  obtain ⟨q1,hq⟩:=ifB_some hq
  obtain ⟨q2,hq⟩:=ifB_some hq
  obtain ⟨q3,hq⟩:=ifB_some hq
  obtain ⟨q4,hq⟩:=ifB_some hq
  obtain ⟨e,mm,op,ro,fz,cw,hr,hq⟩:=onRow_some hq
  obtain ⟨q5,hq⟩:=ifB_some hq
  obtain ⟨hs,hq⟩:=sumQ_some hq
  have hq:=Option.some.inj hq
  subst hq
  have q4:h.next + 10≤1000000000:=Nat.le_of_ble_eq_true q4
  refine ⟨rfl,_,rfl,λ _ _ q=>q,2,_,((Old.refl h).push (.row 264 1 false false 0 (T.ofList unk (recL ⟨b,o,none⟩ n c))) (by omega)).push (.row 264 1 false false 0 (T.ofList unk (recL ⟨b,o,none⟩ n c))) (by rw [next_push]; omega),λ k=>?_⟩
  rw [ha,ev]
  exact fsize_run 0 (Nat.le_of_ble_eq_true q1) hs (Nat.le_of_ble_eq_true q5) (Nat.le_of_ble_eq_true q2) (Nat.le_of_ble_eq_true q3) hr q4 k
noncomputable def vsizeQ (args:List Value) (h:H):R :=
  nthF 0 args λ v=>ifB (Nat.beq (lenF args) 1) (onView v λ p at0 size=>onPtr p λ _=>ifB (Nat.ble h.1 1000000000) (some (.int .i64 (.ofNat size),h)))
theorem vsizeQ_ok {args:List Value} {h:H} {r:Value × H} (hq:vsizeQ args h=some r):Quick 180 args h r:=by
  unfold vsizeQ at hq
  obtain ⟨v,e0,hq⟩:=nthF_some hq
  obtain ⟨hl,hq⟩:=ifB_some hq
  have hl:=Nat.eq_of_beq_eq_true hl
  rw [lenF_eq] at hl
  have ha:=args1 e0 hl
  obtain ⟨pv,at0,size,ev,hs,hat,hq⟩:=onView_some hq
  obtain ⟨A,eA,hq⟩:=onPtr_some hq
  obtain ⟨q,hq⟩:=ifB_some hq
  have hq:=Option.some.inj hq
  subst hq
  refine ⟨rfl,_,rfl,λ _ _ q=>q,1,_,(Old.refl h).push (.row 78 3 false false 0 (T.ofList unk (viewV A at0 size))) (Nat.le_of_ble_eq_true q),λ k=>?_⟩
  rw [ha,ev,eA]
  exact vsize_run 0 (Nat.le_of_ble_eq_true q) k
end Go.Ev
namespace Go.Ev
open Go F Go.Proofs
set_option maxRecDepth 100000
set_option linter.unusedSimpArgs false
set_option linter.unusedVariables false
set_option exponentiation.threshold 3000
theorem sameW_view (A:Addr) (a s:Nat):sameW (.agg ⟨viewV A a s⟩) (.agg ⟨viewV A a s⟩)=true:=by
  simp [viewV,sameW,sameV,sameL,same0]
theorem sameW_ptr (A:Addr):sameW (.pointer (some A)) (.pointer (some A))=true:=by
  simp [sameW,sameV,same0]
theorem sameW_sl (A:Addr) (n c:Nat):sameW (.slice (some A) n c) (.slice (some A) n c)=true:=by
  simp [sameW,sameV,same0]
theorem sameW_int (k:IntKind) (n:Int):sameW (.int k n) (.int k n)=true:=by
  simp [sameW,sameV,same0]
theorem ifB_sv (A:Addr) (a s:Nat) (k:R):ifB (sameW (.agg ⟨viewV A a s⟩) (.agg ⟨viewV A a s⟩)) k=k:=ifB_of (sameW_view A a s) k
theorem ifB_sp (A:Addr) (k:R):ifB (sameW (.pointer (some A)) (.pointer (some A))) k=k:=ifB_of (sameW_ptr A) k
theorem ifB_ss (A:Addr) (n c:Nat) (k:R):ifB (sameW (.slice (some A) n c) (.slice (some A) n c)) k=k:=ifB_of (sameW_sl A n c) k
theorem ifB_si (kd:IntKind) (n:Int) (k:R):ifB (sameW (.int kd n) (.int kd n)) k=k:=ifB_of (sameW_int kd n) k
theorem cells3 (A:Addr) (a s:Nat):cellsF (T.ofList unk (viewV A a s)) 3 0=viewV A a s:=by
  show [getF _ 0,getF _ 1,getF _ 2]=_
  rw [getF_ofList,getF_ofList,getF_ofList]; rfl
set_option maxHeartbeats 4000000 in
theorem get_run (m:Nat) {h:H} {p:ArP} {b o n c i at0 size w:Nat} {s:List UInt8} {e mm fz:Nat} {op ro:Bool} {cw:T Value} (hin:i < n) (hi:i≤c / 2) (hs:Small cw o i) (hw:getF cw (o + i)=.int .i64 (.ofNat w)) (hm:o + i < mm) (hi2:i≤900000) (hb:b < h.next) (hq:hget h b=.row e mm op ro fz cw)
    (h1:sumF cw i o 0 + w≤size) (hsz:size≤4611686018427387904) (hat:at0≤4611686018427387904) (x:ArOK h p (at0 + sumF cw i o 0) w) (hby:bytesC (cellsF p.cq w ((at0 + sumF cw i o 0) % 4096))=some s) (hwm:w=1 ∨ w=2 ∨ w=4 ∨ w=8) (hn:h.next + 60≤1000000000) :
    ∃ h',Old h h'∧∀ k:Value→H→R,callF EE KK (m + 9) 289 [.agg ⟨recL ⟨b,o,none⟩ n c⟩,.agg ⟨viewV ⟨p.b,0,none⟩ at0 size⟩,.int .i64 (.ofNat i)] h k=k (.tuple ⟨[.int .u64 (.ofNat (ldv s 0 0)),.int .i64 (.ofNat 0)]⟩) h':=by
  have o1:Old h (hpush h (.row 264 1 false false 0 (T.ofList unk (recL ⟨b,o,none⟩ n c)))):=(Old.refl h).push _ (by omega)
  generalize hh1:hpush h (.row 264 1 false false 0 (T.ofList unk (recL ⟨b,o,none⟩ n c)))=g1 at o1
  have n1:g1.next=h.next + 1:=by rw [← hh1]; rfl
  have o2:Old g1 (hpush g1 (.row 78 3 false false 0 (T.ofList unk (viewV ⟨p.b,0,none⟩ at0 size)))):=(Old.refl g1).push _ (by omega)
  generalize hh2:hpush g1 (.row 78 3 false false 0 (T.ofList unk (viewV ⟨p.b,0,none⟩ at0 size)))=g2 at o2
  have n2:g2.next=h.next + 2:=by rw [← hh2,next_push,n1]
  have o3:Old g2 (hpush g2 (.row 264 1 false false 0 (T.ofList unk (recL ⟨b,o,none⟩ n c)))):=(Old.refl g2).push _ (by omega)
  generalize hh3:hpush g2 (.row 264 1 false false 0 (T.ofList unk (recL ⟨b,o,none⟩ n c)))=g3 at o3
  have n3:g3.next=h.next + 3:=by rw [← hh3,next_push,n2]
  have o13:Old h g3:=o1.trans (o2.trans o3)
  obtain ⟨g4,o4,n4,hfat⟩:=fat_run (m + 6) (h:=g3) hin hi hs (Nat.le_of_lt hm) hi2 (Nat.lt_of_lt_of_le hb o13.1) (by rw [o13.2 _ hb,hq]) (by omega)
  obtain ⟨g5,o5,hld⟩:=vload_run m (h:=g4) h1 hsz hat ((x.old o13).old o4) hby hwm (by omega)
  have r1:hget g1 h.next=.row 264 1 false false 0 (T.ofList unk (recL ⟨b,o,none⟩ n c)):=by rw [← hh1,get_push_eq _ _ (by omega)]
  have r2:hget g2 h.next=.row 264 1 false false 0 (T.ofList unk (recL ⟨b,o,none⟩ n c)):=by rw [o2.2 _ (by omega),r1]
  have r3:hget g3 h.next=.row 264 1 false false 0 (T.ofList unk (recL ⟨b,o,none⟩ n c)):=by rw [o3.2 _ (by omega),r2]
  have r4:hget g4 h.next=.row 264 1 false false 0 (T.ofList unk (recL ⟨b,o,none⟩ n c)):=by rw [o4.2 _ (by omega),r3]
  have v2:hget g2 g1.next=.row 78 3 false false 0 (T.ofList unk (viewV ⟨p.b,0,none⟩ at0 size)):=by rw [← hh2,get_push_eq _ _ (by omega)]
  have v3:hget g3 g1.next=.row 78 3 false false 0 (T.ofList unk (viewV ⟨p.b,0,none⟩ at0 size)):=by rw [o3.2 _ (by omega),v2]
  have v4:hget g4 g1.next=.row 78 3 false false 0 (T.ofList unk (viewV ⟨p.b,0,none⟩ at0 size)):=by rw [o4.2 _ (by omega),v3]
  have b3:hget g3 b=.row e mm op ro fz cw:=by rw [o13.2 _ hb,hq]
  have b4:hget g4 b=.row e mm op ro fz cw:=by rw [o4.2 _ (by omega),b3]
  have k2:∀ k,onRow (hget g2 h.next) k=k 264 1 false false 0 (T.ofList unk (recL ⟨b,o,none⟩ n c)):=λ k=>by rw [r2]; rfl
  have k3:∀ k,onRow (hget g3 h.next) k=k 264 1 false false 0 (T.ofList unk (recL ⟨b,o,none⟩ n c)):=λ k=>by rw [r3]; rfl
  have k4:∀ k,onRow (hget g4 h.next) k=k 264 1 false false 0 (T.ofList unk (recL ⟨b,o,none⟩ n c)):=λ k=>by rw [r4]; rfl
  have l3:∀ k,onRow (hget g3 g1.next) k=k 78 3 false false 0 (T.ofList unk (viewV ⟨p.b,0,none⟩ at0 size)):=λ k=>by rw [v3]; rfl
  have l4:∀ k,onRow (hget g4 g1.next) k=k 78 3 false false 0 (T.ofList unk (viewV ⟨p.b,0,none⟩ at0 size)):=λ k=>by rw [v4]; rfl
  have q3:∀ k,onRow (hget g3 b) k=k e mm op ro fz cw:=λ k=>by rw [b3]; rfl
  have q4:∀ k,onRow (hget g4 b) k=k e mm op ro fz cw:=λ k=>by rw [b4]; rfl
  have e0:getF (T.ofList unk (recL ⟨b,o,none⟩ n c)) 0=.slice (some ⟨b,o,none⟩) n c:=by rw [getF_ofList]; rfl
  have w1:∀ k,callF EE KK (m + 8) 355 [.agg ⟨recL ⟨b,o,none⟩ n c⟩,.int .i64 (.ofNat i)] g2 k=k (.bool true) g3:=λ k=>by rw [has_run (m + 7) hin (by omega),hh3]
  have hmk:H.mk (Nat.add g3.1 0) g3.2=g3:=by cases g3; rfl
  refine ⟨g5,o13.trans (o4.trans o5),λ k=>?_⟩
  rw [c285]
  unfold q285
  simp (disch:=first | omega | (simp only [Nat.add_eq,Nat.mul_eq,Nat.succ_eq_add_one]; omega)) only [↓onCells_agg,↓allr,↓ifB_true,↓lenr,↓ifB_ble,↓letH_eq]
  rw [hh1]
  simp (disch:=first | omega | (simp only [Nat.add_eq,Nat.mul_eq,Nat.succ_eq_add_one]; omega)) only [↓onCells_agg,↓allv,↓ifB_true,↓lenv,↓ifB_ble,↓letH_eq]
  rw [hh2]
  simp (disch:=first | omega | (simp only [Nat.add_eq,Nat.mul_eq,Nat.succ_eq_add_one]; omega)) only [↓k2,↓ifB_ble]
  rw [cells1]
  simp (disch:=first | omega | (simp only [Nat.add_eq,Nat.mul_eq,Nat.succ_eq_add_one]; omega)) only [↓w1,↓onB_tt,↓joinR_eq,↓ifB_ble,↓letH_eq]
  rw [hmk]
  simp (disch:=first | omega | (simp only [Nat.add_eq,Nat.mul_eq,Nat.succ_eq_add_one]; omega)) only [↓l3,↓k3,↓ifB_ble,↓onNat_int]
  rw [e0]
  simp (disch:=first | omega | (simp only [Nat.add_eq,Nat.mul_eq,Nat.succ_eq_add_one]; omega)) only [↓onSl_sl,↓ifB_ble,↓addOffF_eq,↓onPtr_ptr,↓q3]
  have w2:∀ k,callF EE KK (m + 8) 356 [.agg ⟨recL ⟨b,o,none⟩ n c⟩,.int .i64 (.ofNat i)] g3 k=k (.int .i64 (.ofNat (sumF cw i o 0))) g4:=hfat
  have hmul:i.mul 1=i:=Nat.mul_one i
  rw [cells1,cells3,hmul,hw,w2]
  simp (disch:=first | omega | (simp only [Nat.add_eq,Nat.mul_eq,Nat.succ_eq_add_one]; omega)) only [↓l4,↓ifB_ble]
  rw [cells3]
  simp (disch:=first | omega | (simp only [Nat.add_eq,Nat.mul_eq,Nat.succ_eq_add_one]; omega)) only [↓ifB_sv,↓ifB_sp,↓k4,↓ifB_ble]
  rw [e0]
  simp (disch:=first | omega | (simp only [Nat.add_eq,Nat.mul_eq,Nat.succ_eq_add_one]; omega)) only [↓ifB_ss,↓ifB_si,↓ifB_sp,↓q4,↓ifB_ble]
  rw [hw]
  simp (disch:=first | omega | (simp only [Nat.add_eq,Nat.mul_eq,Nat.succ_eq_add_one]; omega)) only [↓ifB_si,↓hld,↓onTup_tup,↓nthF_zero,↓nthF_one]
  rfl
noncomputable def getQ (args:List Value) (h:H):R :=
  nthF 0 args λ vr=>nthF 1 args λ vv=>nthF 2 args λ vi=>ifB (Nat.beq (lenF args) 3) (onI64 vi λ i=>onRec vr λ b o n c =>
  ifB (Nat.ble (Nat.succ i) n) (ifB (Nat.ble i (Nat.div c 2)) (ifB (Nat.ble i 900000) (ifB (Nat.ble (Nat.succ b) h.1) (ifB (Nat.ble (Nat.add h.1 60) 1000000000) (
  onRow (hget h b) λ _ mm _ _ _ cw=>ifB (Nat.ble (Nat.succ (Nat.add o i)) mm) (onI64 (getF cw (Nat.add o i)) λ w=>ifB (Nat.beq w 1 || Nat.beq w 2 || Nat.beq w 4 || Nat.beq w 8) (
  sumQ cw i o 0 λ x=>onView vv λ p at0 size=>ifB (Nat.ble (Nat.add x w) size) (fcN (Nat.add at0 x) λ a =>
  arQ p a w h λ cq=>ldQ cq w (Nat.mod a 4096) 0 0 λ y=>some (.tuple ⟨[.int .u64 (.ofNat y),.int .i64 (.ofNat 0)]⟩,h))))))))))
theorem getQ_ok {args:List Value} {h:H} {r:Value × H} (hq:getQ args h=some r):Quick 289 args h r:=by
  unfold getQ at hq
  obtain ⟨vr,e0,hq⟩:=nthF_some hq
  obtain ⟨vv,e1,hq⟩:=nthF_some hq
  obtain ⟨vi,e2,hq⟩:=nthF_some hq
  obtain ⟨hl,hq⟩:=ifB_some hq
  have hl:=Nat.eq_of_beq_eq_true hl
  rw [lenF_eq] at hl
  have ha:=args3 e0 e1 e2 hl
  obtain ⟨i,ei,hq⟩:=onI64_some hq
  obtain ⟨b,o,n,c,er,hq⟩:=onRec_some hq
  obtain ⟨q1,hq⟩:=ifB_some hq
  obtain ⟨q2,hq⟩:=ifB_some hq
  obtain ⟨q3,hq⟩:=ifB_some hq
  obtain ⟨q4,hq⟩:=ifB_some hq
  obtain ⟨q5,hq⟩:=ifB_some hq
  obtain ⟨e,mm,op,ro,fz,cw,hrow,hq⟩:=onRow_some hq
  obtain ⟨q6,hq⟩:=ifB_some hq
  obtain ⟨w,hw,hq⟩:=onI64_some hq
  obtain ⟨hm,hq⟩:=ifB_some hq
  obtain ⟨hs,hq⟩:=sumQ_some hq
  obtain ⟨pv,at0,size,ev,hsz,hat,hq⟩:=onView_some hq
  obtain ⟨q7,hq⟩:=ifB_some hq
  rw [fcN_eq] at hq
  obtain ⟨p,ep,hok,_,hq⟩:=arQ_some hq
  obtain ⟨s,hs2,hq⟩:=ldQ_some (j:=0) hq rfl
  have hq:=Option.some.inj hq
  subst hq
  have hm:w=1 ∨ w=2 ∨ w=4 ∨ w=8:=by
    simp only [Bool.or_eq_true] at hm
    rcases hm with ((q | q) | q) | q
    · exact .inl (Nat.eq_of_beq_eq_true q)
    · exact .inr (.inl (Nat.eq_of_beq_eq_true q))
    · exact .inr (.inr (.inl (Nat.eq_of_beq_eq_true q)))
    · exact .inr (.inr (.inr (Nat.eq_of_beq_eq_true q)))
  obtain ⟨h',ho,hk⟩:=get_run 0 (n:=n) (c:=c) (Nat.le_of_ble_eq_true q1) (Nat.le_of_ble_eq_true q2) hs hw (Nat.le_of_ble_eq_true q6) (Nat.le_of_ble_eq_true q3) (Nat.le_of_ble_eq_true q4) hrow (Nat.le_of_ble_eq_true q7) hsz hat hok hs2 hm (Nat.le_of_ble_eq_true q5)
  refine ⟨rfl,_,rfl,λ _ _ q=>q,9,h',ho,λ k=>?_⟩
  rw [ha,er,ev,ep,ei]
  exact hk k
end Go.Ev
namespace Go.Ev
open Go F Go.Proofs
set_option maxRecDepth 100000
set_option linter.unusedSimpArgs false
set_option linter.unusedVariables false
set_option maxHeartbeats 2000000 in
theorem vbytes_run (n:Nat) {h:H} {p:ArP} {at0 size a m:Nat} {s:List UInt8} (h1:a + m≤size) (hs:size≤4611686018427387904) (hat:at0≤4611686018427387904) (x:ArOK h p (at0 + a) m) (hby:bytesC (cellsF p.cq m ((at0 + a) % 4096))=some s) (hroom:h.next + 30≤1000000000) :
    ∃ h',Old h h'∧∀ k:Value→H→R,callF EE KK (n + 7) 287 [.agg ⟨viewV ⟨p.b,0,none⟩ at0 size⟩,.int .i64 (.ofNat a),.int .i64 (.ofNat m)] h k=k (.tuple ⟨[.string ⟨⟨s⟩⟩,.int .i64 (.ofNat 0)]⟩) h':=by
  have o1:Old h (hpush h (.row 78 3 false false 0 (T.ofList unk (viewV ⟨p.b,0,none⟩ at0 size)))):=(Old.refl h).push _ (by omega)
  generalize hh1:hpush h (.row 78 3 false false 0 (T.ofList unk (viewV ⟨p.b,0,none⟩ at0 size)))=g1 at o1
  have n1:g1.next=h.next + 1:=by rw [← hh1]; rfl
  have o2:Old g1 (hpush g1 (.row 78 3 false false 0 (T.ofList unk (viewV ⟨p.b,0,none⟩ at0 size)))):=(Old.refl g1).push _ (by omega)
  generalize hh2:hpush g1 (.row 78 3 false false 0 (T.ofList unk (viewV ⟨p.b,0,none⟩ at0 size)))=g2 at o2
  have n2:g2.next=h.next + 2:=by rw [← hh2,next_push,n1]
  have r1:hget g1 h.next=.row 78 3 false false 0 (T.ofList unk (viewV ⟨p.b,0,none⟩ at0 size)):=by rw [← hh1,get_push_eq _ _ (by omega)]
  have r2:hget g2 h.next=.row 78 3 false false 0 (T.ofList unk (viewV ⟨p.b,0,none⟩ at0 size)):=by rw [o2.2 _ (by omega),r1]
  have k1:∀ k,onRow (hget g1 h.next) k=k 78 3 false false 0 (T.ofList unk (viewV ⟨p.b,0,none⟩ at0 size)):=λ k=>by rw [r1]; rfl
  have k2:∀ k,onRow (hget g2 h.next) k=k 78 3 false false 0 (T.ofList unk (viewV ⟨p.b,0,none⟩ at0 size)):=λ k=>by rw [r2]; rfl
  have e0:getF (T.ofList unk (viewV ⟨p.b,0,none⟩ at0 size)) 0=.pointer (some ⟨p.b,0,none⟩):=by rw [getF_ofList]; rfl
  have e1:getF (T.ofList unk (viewV ⟨p.b,0,none⟩ at0 size)) 1=.int .i64 (.ofNat at0):=by rw [getF_ofList]; rfl
  have m1:=x.m1
  obtain ⟨h',ho,hx,hl⟩:=bytes_run n ((x.old o1).old o2) hby (by omega)
  refine ⟨h',o1.trans (o2.trans ho),λ k=>?_⟩
  have w2:∀ k,callF EE KK (n + 6) 95 [.agg ⟨viewV ⟨p.b,0,none⟩ at0 size⟩,.int .i64 (.ofNat a),.int .i64 (.ofNat m)] g1 k=k (.int .i64 (.ofNat 0)) g2:=λ k=>by rw [vcheck_run (n + 5) h1 hs (by omega),hh2]
  rw [callF_succ,sh283_eq]
  unfold sh283
  simp (disch:=first | omega | (simp only [Nat.add_eq,Nat.mul_eq,Nat.succ_eq_add_one]; omega)) only [↓onCells_agg,↓allv,↓ifB_true,↓lenv,↓ifB_ble,↓letH_eq]
  rw [hh1]
  simp (disch:=first | omega | (simp only [Nat.add_eq,Nat.mul_eq,Nat.succ_eq_add_one]; omega)) only [↓k1,↓ifB_ble]
  rw [cells3]
  simp (disch:=first | omega | (simp only [Nat.add_eq,Nat.mul_eq,Nat.succ_eq_add_one]; omega)) only [↓w2,↓neq_f und34,↓joinR_eq,↓onB_ff,↓k2,↓ifB_ble]
  rw [show Nat.add 0 1=1 from rfl,e0,e1]
  simp (disch:=first | omega | (simp only [Nat.add_eq,Nat.mul_eq,Nat.succ_eq_add_one]; omega)) only [↓add_i64 und3,↓hl,↓onTup_tup,↓nthF_zero,↓nthF_one]
  rfl
noncomputable def vbytesQ (args:List Value) (h:H):R :=
  nthF 0 args λ v=>nthF 1 args λ va=>nthF 2 args λ vm=>ifB (Nat.beq (lenF args) 3) (onI64 va λ a=>onI64 vm λ m =>
  onView v λ p at0 size=>ifB (Nat.ble (Nat.add a m) size) (ifB (Nat.ble (Nat.add h.1 30) 1000000000) (fcN (Nat.add at0 a) λ b =>
  arQ p b m h λ c=>Bool.rec (motive:=λ _=>R) (ifB (allB c) (some (.tuple ⟨[unk,.int .i64 (.ofNat 0)]⟩,h)))
    (bytQ c m (Nat.mod b 4096) λ s=>some (.tuple ⟨[.string ⟨⟨s⟩⟩,.int .i64 (.ofNat 0)]⟩,h)) (Nat.ble m 12))))
theorem vbytesQ_ok {args:List Value} {h:H} {r:Value × H} (hq:vbytesQ args h=some r):Quick 287 args h r:=by
  unfold vbytesQ at hq
  obtain ⟨v,e0,hq⟩:=nthF_some hq
  obtain ⟨va,e1,hq⟩:=nthF_some hq
  obtain ⟨vm,e2,hq⟩:=nthF_some hq
  obtain ⟨hl,hq⟩:=ifB_some hq
  have hl:=Nat.eq_of_beq_eq_true hl
  rw [lenF_eq] at hl
  have ha:=args3 e0 e1 e2 hl
  obtain ⟨a,ea,hq⟩:=onI64_some hq
  obtain ⟨m,em,hq⟩:=onI64_some hq
  obtain ⟨pv,at0,size,ev,hs,hat,hq⟩:=onView_some hq
  obtain ⟨hsz,hq⟩:=ifB_some hq
  obtain ⟨hroom,hq⟩:=ifB_some hq
  rw [fcN_eq] at hq
  obtain ⟨p,ep,hok,_,hq⟩:=arQ_some hq
  cases hm:Nat.ble m 12 with
  | false =>
    rw [hm] at hq
    obtain ⟨hb,hq⟩:=ifB_some hq
    obtain ⟨s,hs2⟩:=allB_bytes hb m ((at0 + a) % 4096)
    have hq:=Option.some.inj hq
    subst hq
    obtain ⟨h',ho,hk⟩:=vbytes_run 0 (Nat.le_of_ble_eq_true hsz) hs hat hok hs2 (Nat.le_of_ble_eq_true hroom)
    refine ⟨rfl,.tuple ⟨[.string ⟨⟨s⟩⟩,.int .i64 (.ofNat 0)]⟩,rfl,λ ρ u q=>?_,7,h',ho,λ k=>?_⟩
    · obtain ⟨l,rfl,hl⟩:=q.tuple
      match l,hl with
      | [u1,u2],⟨_,h2,_⟩=>exact .inr ⟨_,_,rfl,rfl,.inl (.inl rfl),h2,trivial⟩
    · rw [ha,ev,ep,ea,em]
      exact hk k
  | true =>
  rw [hm] at hq
  obtain ⟨s,hs2,hq⟩:=bytQ_some hq
  have hq:=Option.some.inj hq
  subst hq
  obtain ⟨h',ho,hk⟩:=vbytes_run 0 (Nat.le_of_ble_eq_true hsz) hs hat hok hs2 (Nat.le_of_ble_eq_true hroom)
  refine ⟨rfl,_,rfl,λ _ _ q=>q,7,h',ho,λ k=>?_⟩
  rw [ha,ev,ep,ea,em]
  exact hk k
end Go.Ev
namespace Go.Ev
open Go F Go.Proofs
set_option maxRecDepth 100000
noncomputable def ext1:ExtT:=(((ext0.ins 40 260 (some writeX)).ins 40 32 (some stringX)).ins 40 86 (some fillX)).ins 40 84 (some (quick EE KK 100 84 checkQ))
noncomputable def E1:Env:=EX ext1
theorem e1_ok:ExtAll ext1 :=
  ext_ins (ext_ins (ext_ins (ext_ins ext0_ok (by decide) (writeX_ok EE_ok)) (by decide) (stringX_ok EE_ok)) (by decide) (fill_ok EE_ok)) (by decide) (quick_ok EE_ok EE_ok λ _ _ _ h=>checkQ_ok h)
theorem E1_ok:EnvOK Tryz.prog E1 planOK:=env_of ext1 e1_ok
noncomputable def ext2:ExtT:=ext1.ins 40 178 (some (quick E1 KK 100 178 bytesQ))
noncomputable def E2:Env:=EX ext2
theorem e2_ok:ExtAll ext2:=ext_ins e1_ok (by decide) (quick_ok EE_ok E1_ok λ _ _ _ h=>bytesQ_ok h)
theorem E2_ok:EnvOK Tryz.prog E2 planOK:=env_of ext2 e2_ok
noncomputable def ext3:ExtT:=ext2.ins 40 118 (some (quick E2 KK 100 118 loadQ))
noncomputable def E3:Env:=EX ext3
theorem e3_ok:ExtAll ext3:=ext_ins e2_ok (by decide) (quick_ok EE_ok E2_ok λ _ _ _ h=>loadQ_ok h)
theorem E3_ok:EnvOK Tryz.prog E3 planOK:=env_of ext3 e3_ok
noncomputable def ext4:ExtT:=((ext3.ins 40 52 (some (quick E3 KK 100 52 vloadQ))).ins 40 95 (some (quick E3 KK 100 95 vcheckQ))).ins 40 94 (some (quick E3 KK 100 94 vwholeQ))
noncomputable def E4:Env:=EX ext4
theorem e4_ok:ExtAll ext4 :=
  ext_ins (ext_ins (ext_ins e3_ok (by decide) (quick_ok EE_ok E3_ok λ _ _ _ h=>vloadQ_ok h)) (by decide) (quick_ok EE_ok E3_ok λ _ _ _ h=>vcheckQ_ok h)) (by decide) (quick_ok EE_ok E3_ok λ _ _ _ h=>vwholeQ_ok h)
theorem E4_ok:EnvOK Tryz.prog E4 planOK:=env_of ext4 e4_ok
noncomputable def ext5:ExtT:=((((ext4.ins 40 355 (some (quick E4 KK 100 355 hasQ))).ins 40 354 (some (quick E4 KK 100 354 aheadQ))).ins 40 356 (some (quick E4 KK 100 356 fatQ))).ins 40 288 (some (quick E4 KK 100 288 fsizeQ))).ins 40 180 (some (quick E4 KK 100 180 vsizeQ))
theorem e5_ok:ExtAll ext5 :=
  ext_ins (ext_ins (ext_ins (ext_ins (ext_ins e4_ok (by decide) (quick_ok EE_ok E4_ok λ _ _ _ h=>hasQ_ok h)) (by decide) (quick_ok EE_ok E4_ok λ _ _ _ h=>aheadQ_ok h)) (by decide) (quick_ok EE_ok E4_ok λ _ _ _ h=>fatQ_ok h)) (by decide) (quick_ok EE_ok E4_ok λ _ _ _ h=>fsizeQ_ok h)) (by decide) (quick_ok EE_ok E4_ok λ _ _ _ h=>vsizeQ_ok h)
theorem E5_ok:EnvOK Tryz.prog (EX ext5) planOK:=env_of ext5 e5_ok
noncomputable def ext6:ExtT:=ext5.ins 40 289 (some (quick (EX ext5) KK 100 289 getQ))
theorem e6_ok:ExtAll ext6:=ext_ins e5_ok (by decide) (quick_ok EE_ok E5_ok λ _ _ _ h=>getQ_ok h)
theorem E6_ok:EnvOK Tryz.prog (EX ext6) planOK:=env_of ext6 e6_ok
noncomputable def ext7:ExtT:=ext6.ins 40 287 (some (quick (EX ext6) KK 100 287 vbytesQ))
theorem e7_ok:ExtAll ext7:=ext_ins e6_ok (by decide) (quick_ok EE_ok E6_ok λ _ _ _ h=>vbytesQ_ok h)
noncomputable def ext8:ExtT:=(ext7.ins 40 312 (some primCount)).ins 40 330 (some primIndexByte)
theorem n312:ExternAt Tryz.prog 312 Extern.BytealgCount.count:=⟨fnAt 312,by kernel_rfl,by kernel_rfl,by kernel_rfl,by kernel_rfl,by kernel_rfl⟩
theorem n330:ExternAt Tryz.prog 330 Extern.BytealgIndexByte.indexByte:=⟨fnAt 330,by kernel_rfl,by kernel_rfl,by kernel_rfl,by kernel_rfl,by kernel_rfl⟩
theorem e8_ok:ExtAll ext8:=ext_ins (ext_ins e7_ok (by decide) (count_ok n312)) (by decide) (indexByte_ok n330)
end Go.Ev
namespace Go.Ev
open Go F Go.Proofs
set_option maxRecDepth 100000
noncomputable def u8L (l:List Nat):List Value:=List.rec (motive:=λ _=>List Value) [] (λ a _ ih=>.int .u8 (.ofNat a) :: ih) l
noncomputable def u64L (l:List Nat):List Value:=List.rec (motive:=λ _=>List Value) [] (λ a _ ih=>.int .u64 (.ofNat a) :: ih) l
noncomputable def l32:List Nat:=[0,1,28,2,29,14,24,3,30,22,20,15,25,17,4,8,31,27,13,23,21,19,16,7,26,12,18,6,11,5,10,9]
noncomputable def l64:List Nat:=[0,1,56,2,57,49,28,3,61,58,42,50,38,29,17,4,62,47,59,36,45,43,51,22,53,39,33,30,24,18,12,5,63,55,48,27,60,41,37,16,46,35,44,21,52,32,23,11,54,26,40,15,34,20,31,10,25,14,19,9,13,8,7,6]
noncomputable def l20:List Nat:=[1,10,100,1000,10000,100000,1000000,10000000,100000000,1000000000,10000000000,100000000000,1000000000000,10000000000000,100000000000000,1000000000000000,10000000000000000,100000000000000000,1000000000000000000,10000000000000000000]
noncomputable def glob:List AO:=[.row 286 20 false true 0 (T.ofList undef (u64L l20)),.dead,.row 384 32 false true 0 (T.ofList undef (u8L l32)),.row 385 64 false true 0 (T.ofList undef (u8L l64))]
theorem glob_ok:okG glob=true:=by kernel_rfl
noncomputable def aw02:ExtT:=ext8.ins 40 580 (some (trueG glob))
noncomputable def aw02w:ExtT:=aw02.ins 40 573 (some (trueG glob))
noncomputable def aw03:ExtT:=aw02w.ins 40 557 (some (trueG glob))
noncomputable def aw03w:ExtT:=aw03.ins 40 541 (some (trueG glob))
noncomputable def aw04:ExtT:=aw03w.ins 40 515 (some (trueG glob))
noncomputable def aw04w:ExtT:=aw04.ins 40 465 (some (trueG glob))
noncomputable def aw05:ExtT:=aw04w.ins 40 389 (some (trueG glob))
noncomputable def aw05w:ExtT:=aw05.ins 40 327 (some (trueG glob))
noncomputable def aw06:ExtT:=aw05w.ins 40 644 (some (trueG glob))
noncomputable def aw06w:ExtT:=aw06.ins 40 642 (some (trueG glob))
noncomputable def aw07:ExtT:=aw06w.ins 40 645 (some (trueG glob))
noncomputable def aw07w:ExtT:=aw07.ins 40 643 (some (trueG glob))
noncomputable def aw08:ExtT:=aw07w.ins 40 640 (some (trueG glob))
noncomputable def aw08w:ExtT:=aw08.ins 40 636 (some (trueG glob))
noncomputable def aw09:ExtT:=aw08w.ins 40 634 (some (trueG glob))
noncomputable def aw09w:ExtT:=aw09.ins 40 632 (some (trueG glob))
noncomputable def aw10:ExtT:=aw09w.ins 40 631 (some (trueG glob))
noncomputable def aw10w:ExtT:=aw10.ins 40 628 (some (trueG glob))
noncomputable def aw11:ExtT:=aw10w.ins 40 635 (some (trueG glob))
noncomputable def aw11w:ExtT:=aw11.ins 40 633 (some (trueG glob))
noncomputable def aw12:ExtT:=aw11w.ins 40 630 (some (trueG glob))
noncomputable def aw12w:ExtT:=aw12.ins 40 627 (some (trueG glob))
noncomputable def aw13:ExtT:=aw12w.ins 40 624 (some (trueG glob))
noncomputable def aw13w:ExtT:=aw13.ins 40 622 (some (trueG glob))
noncomputable def aw14:ExtT:=aw13w.ins 40 625 (some (trueG glob))
noncomputable def aw14w:ExtT:=aw14.ins 40 623 (some (trueG glob))
noncomputable def aw15:ExtT:=aw14w.ins 40 618 (some (trueG glob))
noncomputable def aw15w:ExtT:=aw15.ins 40 610 (some (trueG glob))
noncomputable def aw16:ExtT:=aw15w.ins 40 599 (some (trueG glob))
noncomputable def aw16w:ExtT:=aw16.ins 40 587 (some (trueG glob))
noncomputable def aw17:ExtT:=aw16w.ins 40 550 (some (trueG glob))
noncomputable def aw17w:ExtT:=aw17.ins 40 530 (some (trueG glob))
noncomputable def aw18:ExtT:=aw17w.ins 40 578 (some (trueG glob))
noncomputable def aw18w:ExtT:=aw18.ins 40 571 (some (trueG glob))
noncomputable def aw19:ExtT:=aw18w.ins 40 576 (some (trueG glob))
noncomputable def aw19w:ExtT:=aw19.ins 40 566 (some (trueG glob))
noncomputable def aw20:ExtT:=aw19w.ins 40 551 (some (trueG glob))
noncomputable def aw20w:ExtT:=aw20.ins 40 531 (some (trueG glob))
noncomputable def aw21:ExtT:=aw20w.ins 40 364 (some (trueG glob))
noncomputable def aw21w:ExtT:=aw21.ins 40 307 (some (trueG glob))
noncomputable def aw22:ExtT:=aw21w.ins 40 243 (some (trueG glob))
noncomputable def aw22w:ExtT:=aw22.ins 40 147 (some (trueG glob))
noncomputable def aw23:ExtT:=aw22w.ins 40 552 (some (trueG glob))
noncomputable def aw23w:ExtT:=aw23.ins 40 532 (some (trueG glob))
noncomputable def aw24:ExtT:=aw23w.ins 40 553 (some (trueG glob))
noncomputable def aw24w:ExtT:=aw24.ins 40 533 (some (trueG glob))
noncomputable def aw25:ExtT:=aw24w.ins 40 505 (some (trueG glob))
noncomputable def aw25w:ExtT:=aw25.ins 40 443 (some (trueG glob))
noncomputable def aw26:ExtT:=aw25w.ins 40 365 (some (trueG glob))
noncomputable def aw26w:ExtT:=aw26.ins 40 308 (some (trueG glob))
noncomputable def aw27:ExtT:=aw26w.ins 40 220 (some (trueG glob))
noncomputable def aw27w:ExtT:=aw27.ins 40 122 (some (trueG glob))
noncomputable def aw28:ExtT:=aw27w.ins 40 53 (some (trueG glob))
noncomputable def aw28w:ExtT:=aw28.ins 40 24 (some (trueG glob))
noncomputable def aw29:ExtT:=aw28w.ins 40 6 (some (trueG glob))
noncomputable def aw29w:ExtT:=aw29.ins 40 321 (some (trueG glob))
noncomputable def aw30:ExtT:=aw29w.ins 40 242 (some (trueG glob))
noncomputable def aw30w:ExtT:=aw30.ins 40 146 (some (trueG glob))
noncomputable def aw31:ExtT:=aw30w.ins 40 65 (some (trueG glob))
noncomputable def aw31w:ExtT:=aw31.ins 40 30 (some (trueG glob))
noncomputable def aw32:ExtT:=aw31w.ins 40 11 (some (trueG glob))
noncomputable def aw32w:ExtT:=aw32.ins 40 161 (some (trueG glob))
noncomputable def aw33:ExtT:=aw32w.ins 40 73 (some (trueG glob))
noncomputable def aw33w:ExtT:=aw33.ins 40 35 (some (trueG glob))
noncomputable def aw34:ExtT:=aw33w.ins 40 15 (some (trueG glob))
def runAt (t:ExtT) (f:FuncId):Prop:=callS t 1000 f [] (hzG glob) (λ v _=>some (v,hzG glob))=some (.bool true,hzG glob)
end Go.Ev
