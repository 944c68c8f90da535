/-
  Functions of the law as plain Lean, printed by a program.
-/
import Derived.Test.YtdibeojmiobklaaGreatDoorLb
set_option linter.unusedVariables false
set_option linter.unusedSimpArgs false
namespace Go.Ev
open Go F Go.Proofs
set_option maxRecDepth 100000
set_option linter.unusedVariables false
noncomputable def p12_0 (rc:RC)(a b:H)(E:Env)(c:Value)(d:FEnv []→H→R):R:=rc 31 [.pointer (some (Addr.mk a.1 0 none)),.int .u8 (.ofNat 92)] b λ _ e=>binR (binC E .quo 5 false true) c (.int .u8 (.ofNat 16)) λ f=>bindO (indexV E 9 (.string ⟨⟨[48,49,50,51,52,53,54,55,56,57,97,98,99,100,101,102]⟩⟩) f) λ g=>rc 31 [.pointer (some (Addr.mk a.1 0 none)),g] e λ _ h=>binR (binC E .rem 5 false true) c (.int .u8 (.ofNat 16)) λ i=>bindO (indexV E 9 (.string ⟨⟨[48,49,50,51,52,53,54,55,56,57,97,98,99,100,101,102]⟩⟩) i) λ j=>rc 31 [.pointer (some (Addr.mk a.1 0 none)),j] h λ _ l=>d () l
noncomputable def p12_1 (a:FEnv []→H→R)(rc:RC)(b c:H)(E:Env)(d:Value):R:=@joinR [] (λ _ e=>a () e) λ e=>p12_0 rc b c E d e
noncomputable def p12_2 (E:Env)(a a0:Value)(rc:RC)(b:H)(c:FEnv []→H→R):(FEnv [10]→H→R)→FEnv [10]→H→R:=λ d e f=>binR (binC E .lss 3 false false) e.1 a λ g=>@joinR [] (λ _ h=>@joinR [] (λ _ i=>binR (binC E .add 3 false true) e.1 (.int .i64 (.ofNat 1)) λ j=>d (j,()) i) λ i=>bindO (indexV E 9 a0 e.1) λ j=>binR (binC E .gtr 5 false true) j (.int .u8 (.ofNat 32)) λ l=>joinV (λ m n=>joinV (λ o p=>onB l (joinV (λ _ q=>joinV (λ _ r=>p12_1 i rc b r E j) λ r=>r undef q) λ q=>q undef p) (joinV (λ q r=>joinV (λ s t=>onB o (p12_1 i rc b t E j) (@joinR [] (λ _ u=>i () u) λ u=>onB s (p12_0 rc b t E j u) (rc 31 [.pointer (some (Addr.mk b.1 0 none)),j] t λ _ v=>u () v))) λ s=>onG o (s undef r) (binR (binC E .neq 5 false true) q (.int .u8 (.ofNat 92)) λ t=>s t r) (s undef r)) λ q=>onG o (q undef p) (q j p) (q undef p))) λ o=>onG l (o undef n) (binR (binC E .leq 5 false true) m (.int .u8 (.ofNat 126)) λ p=>o p n) (o undef n)) λ m=>onG l (m undef h) (m j h) (m undef h)) λ h=>onB g (c () f) (h () f)
noncomputable def p12 (E:Env)(rc:RC)(a0:Value)(h:H)(k:Value→H→R):R:=binR (binC E .eql 9 false true) a0 (.string (ByteArray.mk #[])) λ a=>@joinR [2] (λ _ b=>ifB (Nat.ble b.1 1000000000) (letH (hpush b (.row 62 2 false false 0 (T.ofList unk [.pointer none,.slice none 0 0]))) λ c=>bindO (lenV E c 9 a0) λ d=>@joinR [] (λ _ e=>rc 32 [.pointer (some (Addr.mk b.1 0 none))] e λ f g=>k f g) λ e=>@loopF [10] (p12_2 E d a0 rc b e) bigN (.int .i64 (.ofNat 0),()) c)) λ b=>onB a (b (.string (ByteArray.mk #[]),()) h) (k (.string ⟨⟨[46]⟩⟩) h)
theorem p12_eq (t:ExtT)(rc:RC)(a0:Value)(h:H)(k:Value→H→R):(funB (EX t) KK 12).run rc [a0] h k = p12 (EX t) rc a0 h k:=by kernel_rfl
noncomputable def p13_0 (a:H)(E:Env)(b:FEnv [3,4])(c:Value)(d:FEnv [3]→H→R):R:=ifB (Nat.ble a.1 1000000000) (letH (H.mk a.1 a.2) λ e=>binR (binC E .add 9 false true) b.1 (.string ⟨⟨[92]⟩⟩) λ f=>binR (binC E .quo 5 false true) c (.int .u8 (.ofNat 16)) λ g=>binR (binC E .quo 5 false true) c (.int .u8 (.ofNat 16)) λ h=>binR (binC E .add 5 false true) h (.int .u8 (.ofNat 1)) λ i=>bindO (sliceV E 9 (.string ⟨⟨[48,49,50,51,52,53,54,55,56,57,97,98,99,100,101,102]⟩⟩) (some g) (some i) none) λ j=>binR (binC E .add 9 false false) f j λ l=>binR (binC E .rem 5 false true) c (.int .u8 (.ofNat 16)) λ m=>binR (binC E .rem 5 false true) c (.int .u8 (.ofNat 16)) λ n=>binR (binC E .add 5 false true) n (.int .u8 (.ofNat 1)) λ o=>bindO (sliceV E 9 (.string ⟨⟨[48,49,50,51,52,53,54,55,56,57,97,98,99,100,101,102]⟩⟩) (some m) (some o) none) λ p=>binR (binC E .add 9 false false) l p λ q=>d (q,()) e)
noncomputable def p13_1 (a:FEnv [3]→H→R)(b:H)(E:Env)(c:FEnv [3,4])(d:Value):R:=@joinR [3] (λ e f=>a (e.1,()) f) λ e=>p13_0 b E c d e
noncomputable def p13_2 (E:Env)(a0:Value)(a:FEnv [3]→H→R):(FEnv [3,4]→H→R)→FEnv [3,4]→H→R:=λ b c d=>bindO (lenV E d 9 a0) λ e=>binR (binC E .lss 3 false false) c.2.1 e λ f=>@joinR [] (λ _ g=>@joinR [3] (λ h i=>binR (binC E .add 3 false true) c.2.1 (.int .i64 (.ofNat 1)) λ j=>b (h.1,(j,())) i) λ h=>bindO (indexV E 9 a0 c.2.1) λ i=>binR (binC E .lss 5 false true) i (.int .u8 (.ofNat 33)) λ j=>joinV (λ l m=>joinV (λ n o=>onB j (joinV (λ p q=>joinV (λ r s=>onB n (@joinR [3] (λ t u=>h (t.1,()) u) λ t=>onB r (binR (binC E .add 3 false true) c.2.1 (.int .i64 (.ofNat 1)) λ u=>bindO (sliceV E 9 a0 (some c.2.1) (some u) none) λ v=>binR (binC E .add 9 false false) c.1 v λ w=>t (w,()) s) (p13_0 s E c i t)) (p13_1 h s E c i)) λ r=>onG n (binR (binC E .eql 5 false true) p (.int .u8 (.ofNat 92)) λ s=>r s q) (r undef q) (r undef q)) λ p=>onG n (p i o) (p undef o) (p undef o)) (joinV (λ _ p=>joinV (λ _ q=>p13_1 h q E c i) λ q=>q undef p) λ p=>p undef o)) λ n=>onG j (binR (binC E .gtr 5 false true) l (.int .u8 (.ofNat 126)) λ o=>n o m) (n undef m) (n undef m)) λ l=>onG j (l i g) (l undef g) (l undef g)) λ g=>onB f (a (c.1,()) d) (g () d)
noncomputable def p13 (E:Env)(rc:RC)(a0:Value)(h:H)(k:Value→H→R):R:=@joinR [3] (λ a b=>binR (binC E .eql 9 false true) a.1 (.string (ByteArray.mk #[])) λ c=>@joinR [2] (λ _ d=>k a.1 d) λ d=>onB c (d (.string (ByteArray.mk #[]),()) b) (k (.string ⟨⟨[46]⟩⟩) b)) λ a=>@loopF [3,4] (p13_2 E a0 a) bigN (.string (ByteArray.mk #[]),(.int .i64 (.ofNat 0),())) h
theorem p13_eq (t:ExtT)(rc:RC)(a0:Value)(h:H)(k:Value→H→R):(funB (EX t) KK 13).run rc [a0] h k = p13 (EX t) rc a0 h k:=by kernel_rfl
noncomputable def p31 (E:Env)(rc:RC)(a0:Value)(a1:Value)(h:H)(k:Value→H→R):R:=rc 66 [a0] h λ _ a=>bindO (nilV a0) λ b=>onPtr b λ c=>onRow (hget a c.1) λ _ d _ _ _ e=>ifB (Nat.ble (Nat.succ (Nat.add c.2 1)) d) (@Option.rec (List Value) (λ _=>R) none (λ f=>ifB (Nat.ble a.1 1000000000) (letH (hpush a (.row 5 1 false false 0 (T.ofList unk f))) λ g=>bindP (heavyB E g Builtin.append [getF e (Nat.add c.2 1),.slice (some (Addr.mk a.1 0 none)) 1 2] [60,60]) λ i j=>bindO (nilV a0) λ l=>onPtr l λ m=>onCells i λ n=>onRow (hget j m.1) λ o p q r s t=>ifB (notB r) (ifB (Nat.beq (lenF n) 1) (ifB (Nat.ble s (Nat.add m.2 1)) (ifB (Nat.ble (Nat.add (Nat.add m.2 1) 1) p) (ifB (Nat.ble p 1000000000) (ifB (allF (λ u=>cell1F u) n) (letH (hset j m.1 (.row o p q false s (putF t (Nat.add m.2 1) n))) λ u=>k .nilIface u)))))))) (fillV (λ f=>some (Nat.mul f 1,1)) (List.flatten (List.replicate 1 (cellsOfV (.int .u8 (.ofNat 0))))) [(0,a1)]))
theorem p31_eq (t:ExtT)(rc:RC)(a0:Value)(a1:Value)(h:H)(k:Value→H→R):(funB (EX t) KK 31).run rc [a0,a1] h k = p31 (EX t) rc a0 a1 h k:=by kernel_rfl
noncomputable def p66 (E:Env)(rc:RC)(a0:Value)(h:H)(k:Value→H→R):R:=bindO (nilV a0) λ a=>onPtr a λ _=>onPtr a λ b=>onRow (hget h b.1) λ _ c _ _ _ d=>ifB (Nat.ble (Nat.succ b.2) c) (binR (binC E .eql 59 false true) (getF d b.2) (.pointer none) λ e=>@joinR [] (λ _ f=>k (.tuple ⟨[]⟩) f) λ f=>onB e (bindO (nilV a0) λ g=>onPtr g λ _=>onPtr g λ i=>onRow (hget h i.1) λ _ j _ _ _ l=>ifB (Nat.ble (Nat.succ i.2) j) (binR (binC E .neq 59 false false) (getF l i.2) a0 λ m=>@joinR [] (λ _ n=>f () n) λ n=>onB m (n () h) none)) (bindO (convV E h 59 214 a0) λ g=>rc 148 [g] h λ i j=>bindO (convV E j 214 59 i) λ l=>bindO (nilV a0) λ m=>onPtr m λ _=>onPtr m λ n=>onCells l λ o=>onRow (hget j n.1) λ p q r s t u=>ifB (notB s) (ifB (Nat.beq (lenF o) 1) (ifB (Nat.ble t n.2) (ifB (Nat.ble (Nat.add n.2 1) q) (ifB (Nat.ble q 1000000000) (ifB (allF (λ v=>cell1F v) o) (letH (hset j n.1 (.row p q r false t (putF u n.2 o))) λ v=>f () v))))))))
theorem p66_eq (t:ExtT)(rc:RC)(a0:Value)(h:H)(k:Value→H→R):(funB (EX t) KK 66).run rc [a0] h k = p66 (EX t) rc a0 h k:=by kernel_rfl
noncomputable def p32 (E:Env)(rc:RC)(a0:Value)(h:H)(k:Value→H→R):R:=ifB (Nat.ble h.1 1000000000) (letH (H.mk h.1 h.2) λ a=>bindO (nilV a0) λ b=>onPtr b λ c=>onRow (hget a c.1) λ _ d _ _ _ e=>ifB (Nat.ble (Nat.succ (Nat.add c.2 1)) d) (bindO (builtinV E a Builtin.unsafeSliceData [getF e (Nat.add c.2 1)] [60]) λ f=>bindO (nilV a0) λ g=>onPtr g λ i=>onRow (hget a i.1) λ _ j _ _ _ l=>ifB (Nat.ble (Nat.succ (Nat.add i.2 1)) j) (joinL (λ m=>bindP (heavyB E a Builtin.unsafeString [f,m] [134,3]) λ n o=>k n o) λ m=>onSl (getF l (Nat.add i.2 1)) (bindO (lenV E a 60 (getF l (Nat.add i.2 1))) m) λ _ n _=>m (.int .i64 (.ofNat n)))))
theorem p32_eq (t:ExtT)(rc:RC)(a0:Value)(h:H)(k:Value→H→R):(funB (EX t) KK 32).run rc [a0] h k = p32 (EX t) rc a0 h k:=by kernel_rfl
noncomputable def p4_0 (E:Env)(a b:Value)(k:Value→H→R)(a1 a0:Value)(c:H):R:=binR (binC E .neq 9 false false) a b λ d=>joinV (λ e f=>joinV (λ g h=>joinV (λ i j=>onB d (joinV (λ l m=>joinV (λ n o=>onB i (k n o) (k (.bool true) o)) λ n=>onG i (binR (binC E .eql 9 false true) l (.string ⟨⟨[46]⟩⟩) λ o=>n o m) (n undef m) (n undef m)) λ l=>onG i (l a j) (l undef j) (l undef j)) (joinV (λ _ l=>joinV (λ _ m=>k (.bool true) m) λ m=>m undef l) λ l=>l undef j)) λ i=>onG d (binR (binC E .eql 9 false false) e g λ j=>i j h) (i undef h) (i undef h)) λ g=>onG d (g a1 f) (g undef f) (g undef f)) λ e=>onG d (e a0 c) (e undef c) (e undef c)
noncomputable def p4_1 (E:Env)(a b:Value)(k:Value→H→R)(a1 a0:Value)(c:H):R:=@joinR [4] (λ _ d=>p4_0 E a b k a1 a0 d) λ _=>k (.bool false) c
noncomputable def p4_2 (rc:RC)(a0:Value)(a:H)(a1:Value)(E:Env)(k:Value→H→R)(b:FEnv [4]):R:=rc 12 [a0] a λ c d=>rc 12 [a1] d λ e f=>rc 13 [a0] f λ g h=>binR (binC E .neq 9 false false) c g λ i=>joinV (λ j l=>joinV (λ m n=>onB i (joinV (λ o p=>joinV (λ q r=>onB m (@joinR [4] (λ _ s=>p4_0 E c e k a1 a0 s) λ s=>onB q (s (b.1,()) r) (k (.bool false) r)) (p4_1 E c e k a1 a0 r)) λ q=>onG m (binR (binC E .eql 9 false true) o (.string (ByteArray.mk #[])) λ r=>q r p) (q undef p) (q undef p)) λ o=>onG m (o c n) (o undef n) (o undef n)) (joinV (λ _ o=>joinV (λ _ p=>p4_1 E c e k a1 a0 p) λ p=>p undef o) λ o=>o undef n)) λ m=>onG i (rc 14 [j,.string ⟨⟨[32,10]⟩⟩] l m) (m undef l) (m undef l)) λ j=>onG i (j c h) (j undef h) (j undef h)
noncomputable def p4_3 (E:Env)(a:H)(a0:Value)(rc:RC)(a1:Value)(k:Value→H→R)(b:FEnv [4]):R:=bindO (lenV E a 9 a0) λ c=>binR (binC E .gtr 3 false true) c (.int .i64 (.ofNat 1000)) λ d=>joinV (λ e f=>joinV (λ g h=>joinV (λ i j=>onB d (@joinR [4] (λ l m=>p4_2 rc a0 m a1 E k l) λ l=>onB i (l (b.1,()) j) (k (.bool true) j)) (@joinR [4] (λ l m=>p4_2 rc a0 m a1 E k l) λ _=>k (.bool true) j)) λ i=>onG d (binR (binC E .gtr 3 false true) g (.int .i64 (.ofNat 1000)) λ j=>i j h) (i undef h) (i undef h)) λ g=>onG d (bindO (lenV E f 9 e) λ h=>g h f) (g undef f) (g undef f)) λ e=>onG d (e a1 a) (e undef a) (e undef a)
noncomputable def p4 (E:Env)(rc:RC)(a0:Value)(a1:Value)(h:H)(k:Value→H→R):R:=rc 11 [] h λ a b=>onB a (@joinR [4] (λ c d=>p4_3 E d a0 rc a1 k c) λ _=>k (.bool false) b) (@joinR [4] (λ c d=>p4_3 E d a0 rc a1 k c) λ c=>c (.bool false,()) b)
theorem p4_eq (t:ExtT)(rc:RC)(a0:Value)(a1:Value)(h:H)(k:Value→H→R):(funB (EX t) KK 4).run rc [a0,a1] h k = p4 (EX t) rc a0 a1 h k:=by kernel_rfl
end Go.Ev
namespace Go.Ev
open Go F
set_option linter.unusedVariables false
set_option linter.unusedSimpArgs false
structure ElT (E:Env) (t e s:Nat) (i:TypeInfo) (z:List Value):Prop where
  u:E.und t=some (.slice e)
  inf:E.info e=some i
  sz:i.size=s
  bt:i.bytes≤1000
  zc:zeroCellsV E e=some z
  zl:z.length=s
  s0:1≤s
  s1:s≤100
inductive OL (e s:Nat) (h:H):Value→Nat→List Value→Prop
  | nil:OL e s h (.slice none 0 0) 0 []
  | row {b n fz:Nat} {op:Bool} {cells:T Value} {L:List Value} (hb:b < h.next) (hq:hget h b=.row e (n * s) op false 0 cells) (hL:L.length=n * s)
      (hc:∀ i,i < L.length→getF cells i=L.getD i unk) (hn:0 < n):OL e s h (.slice (some ⟨b,0,none⟩) n (2 * n + op.toNat)) n L
def blkOf:Value→Option Nat
  | .slice (some a) _ _=>some a.block
  | _=>none
theorem OL.keep {e s n:Nat} {h h':H} {v:Value} {L:List Value} (o:OL e s h v n L) (hn:h.next≤h'.next) (hk:∀ b,blkOf v=some b→b < h.next→hget h' b=hget h b):OL e s h' v n L:=by
  cases o with
  | nil=>exact .nil
  | row hb hq hL hc hp=>exact .row (fz:=0) (Nat.lt_of_lt_of_le hb hn) ((hk _ rfl hb).trans hq) hL hc hp
theorem OL.blk {e s n:Nat} {h:H} {v:Value} {L:List Value} (o:OL e s h v n L) (b:Nat) (hb:blkOf v=some b):b < h.next:=by
  cases o with
  | nil=>exact nomatch hb
  | row h1=>cases hb; exact h1
theorem append1 {E:Env} {t e s n:Nat} {i:TypeInfo} {z xs:List Value} (T1:ElT E t e s i z) {h:H} {v:Value} {L:List Value} (o:OL e s h v n L) (hx:xs.length=s) (hc1:xs.all cell1=true)
    (hn:h.next + 2≤1000000000) (hn2:n≤9000) :
    ∃ v' h',heavyB E (hpush h (.row e s false false 0 (T.ofList unk xs))) .append [v,.slice (some ⟨h.next,0,none⟩) 1 2] [t,t]=some (v',h')∧OL e s h' v' (n + 1) (L ++ xs)∧h'.next=h.next + 2 ∧
      blkOf v'=some (h.next + 1)∧∀ id,id < h.next→blkOf v ≠ some id→hget h' id=hget h id:=by
  obtain ⟨s0,s1⟩:=And.intro T1.s0 T1.s1
  have hg1:(hpush h (.row e s false false 0 (T.ofList unk xs))).objs.get h.next=.row e s false false 0 (T.ofList unk xs):=by
    rw [← hget_eq]; exact get_push_eq _ _ (by omega)
  have hnx:(hpush h (.row e s false false 0 (T.ofList unk xs))).next=h.next + 1:=rfl
  have hroom:room (hpush h (.row e s false false 0 (T.ofList unk xs)))=true:=ble_t (by rw [hnx]; omega)
  have hsrc:srcN (hpush h (.row e s false false 0 (T.ofList unk xs))) s 1 (.slice (some ⟨h.next,0,none⟩) 1 2)=some xs:=by
    have:Nat.ble (0 + 1 * s) s=true:=ble_t (by omega)
    simp only [srcN,hg1,this,cond_true]
    rw [Nat.one_mul,← hx,show (0:Nat)=0 from rfl]
    exact congrArg some (cells_back xs xs.length rfl)
  have hnews:newsV (hpush h (.row e s false false 0 (T.ofList unk xs))) s z false (.slice (some ⟨h.next,0,none⟩) 1 2)=some (1,xs):=by
    simp only [newsV,cond_false,lenN,hsrc]
  obtain ⟨s',hs'⟩:∃ s',i.size=s' + 1:=⟨s - 1,by rw [T1.sz]; omega⟩
  have hnum:numAt E [t]=some false:=by simp only [numAt,T1.u]
  have hss:s' + 1=s:=by rw [← hs',T1.sz]
  have hzb:Nat.beq z.length (s' + 1)=true:=beq_t (by rw [T1.zl,hss])
  have hbt:=T1.bt
  have b1:Nat.ble ((n + 1) * (i.bytes + 1)) 1000000000=true:=ble_t (Nat.le_trans (Nat.mul_le_mul (show n + 1≤9001 by omega) (show i.bytes + 1≤1001 by omega)) (by decide))
  have b2:Nat.ble ((n + 1) * (s' + 1)) 1000000000=true:=ble_t (Nat.le_trans (Nat.mul_le_mul (show n + 1≤9001 by omega) (show s' + 1≤100 by omega)) (by decide))
  have hnews':newsV (hpush h (.row e s false false 0 (T.ofList unk xs))) (s' + 1) z false (.slice (some ⟨h.next,0,none⟩) 1 2)=some (1,xs):=by rw [hss]; exact hnews
  have hnx':=hnx
  rw [hpush_eq] at hnews' hroom hnx'
  cases o with
  | nil =>
    have b1':Nat.ble ((0 + 1) * (i.bytes + 1)) 1000000000=true:=b1
    have b2':Nat.ble ((0 + 1) * (s' + 1)) 1000000000=true:=b2
    have e0:heavyB E (hpush h (.row e s false false 0 (T.ofList unk xs))) .append [.slice none 0 0,.slice (some ⟨h.next,0,none⟩) 1 2] [t,t]=some (.slice (some ⟨h.next + 1,0,none⟩) 1 3,hpush (hpush h (.row e s false false 0 (T.ofList unk xs))) (.row e s true false 0 (T.ofList unk xs))):=by
      rw [hpush_eq]
      simp only [heavyB,hnum,appendV,T1.u,T1.inf,T1.zc,hs',hnews',b1',b2',hzb,Bool.and_self,cond_true,Nat.zero_div,show Nat.ble (0 + 1) 0=false from rfl,cond_false,hroom,Nat.beq_refl,hnx',hpush_eq]
      simp only [Nat.zero_add,Nat.one_mul,hss,Nat.mul_one]
    refine ⟨_,_,e0,?_,rfl,rfl,λ id hid _=>?_⟩
    · have hq:hget (hpush (hpush h (.row e s false false 0 (T.ofList unk xs))) (.row e s true false 0 (T.ofList unk xs))) (h.next + 1)=.row e ((0 + 1) * s) true false 0 (T.ofList unk xs):=by
        rw [show h.next + 1=(hpush h (.row e s false false 0 (T.ofList unk xs))).next from rfl,get_push_eq _ _ (by rw [hnx]; omega),Nat.zero_add,Nat.one_mul]
      exact .row (n:=1) (op:=true) (fz:=0) (show h.next + 1 < h.next + 2 by omega) hq (by simp [hx]) (λ j hj=>by rw [getF_ofList,List.nil_append]) (by omega)
    · rw [get_push_ne _ _ (by rw [hnx]; omega) (by rw [hnx]; omega),get_push_ne _ _ (by omega) hid]
  | row hb hq hL hc hp =>
    rename_i b fz op cells
    have hqp:(hpush h (.row e s false false 0 (T.ofList unk xs))).objs.get b=.row e (n * s) op false 0 cells:=by
      rw [← hget_eq,get_push_ne _ _ (by omega) hb,hq]
    rw [hpush_eq] at hqp
    have g1:Nat.ble (n + 1) n=false:=ble_f (by omega)
    have hl1:∀ op:Bool,(2 * n + op.toNat) / 2=n:=λ op=>by cases op <;> simp [Bool.toNat] <;> omega
    cases op with
    | false =>
      have h2:Nat.beq ((2 * n + Bool.toNat false) % 2) 0=true:=beq_t (by simp [Bool.toNat])
      have h3:Nat.ble (0 + n * (s' + 1)) (n * s)=true:=ble_t (by rw [hss]; omega)
      have e0:heavyB E (hpush h (.row e s false false 0 (T.ofList unk xs))) .append [.slice (some ⟨b,0,none⟩) n (2 * n + Bool.toNat false),.slice (some ⟨h.next,0,none⟩) 1 2] [t,t] =
          some (.slice (some ⟨h.next + 1,0,none⟩) (n + 1) (2 * (n + 1) + 1),hpush (hpush h (.row e s false false 0 (T.ofList unk xs))) (.row e ((n + 1) * s) true false 0 (T.ofList unk (cellsF cells (n * s) 0 ++ xs)))):=by
        rw [hpush_eq]
        simp only [heavyB,hnum,appendV,T1.u,T1.inf,T1.zc,hs',hnews',b1,b2,hzb,Bool.and_self,cond_true,cond_false,hl1,g1,hroom,hqp,h2,h3,hnx',hpush_eq,cellsF_eq]
        simp only [hss]
      refine ⟨_,_,e0,?_,rfl,rfl,λ id hid _=>?_⟩
      · have hq2:hget (hpush (hpush h (.row e s false false 0 (T.ofList unk xs))) (.row e ((n + 1) * s) true false 0 (T.ofList unk (cellsF cells (n * s) 0 ++ xs)))) (h.next + 1)=.row e ((n + 1) * s) true false 0 (T.ofList unk (cellsF cells (n * s) 0 ++ xs)):=by
          rw [show h.next + 1=(hpush h (.row e s false false 0 (T.ofList unk xs))).next from rfl,get_push_eq _ _ (by rw [hnx]; omega)]
        refine .row (n:=n + 1) (op:=true) (fz:=0) (show h.next + 1 < h.next + 2 by omega) hq2 (by rw [List.length_append,hL,hx,Nat.succ_mul]) (λ j hj=>?_) (by omega)
        have hcl:cellsF cells (n * s) 0=L:=by
          rw [cellsF_eq,← hL]
          exact cells_ofList L cells 0 λ k hk=>by rw [Nat.zero_add,← getF_eq,hc k hk]
        rw [getF_ofList,hcl]
      · rw [get_push_ne _ _ (by rw [hnx]; omega) (by rw [hnx]; omega),get_push_ne _ _ (by omega) hid]
    | true =>
      have h2:Nat.beq ((2 * n + Bool.toNat true) % 2) 0=false:=beq_f (by simp [Bool.toNat])
      have h4:Nat.beq n n=true:=Nat.beq_refl n
      have h5:Nat.beq (n * (s' + 1)) (n * s)=true:=beq_t (by rw [hss])
      have h6:Nat.ble 0 (n * s)=true:=ble_t (Nat.zero_le _)
      have h7:Nat.beq e e=true:=Nat.beq_refl e
      have e0:heavyB E (hpush h (.row e s false false 0 (T.ofList unk xs))) .append [.slice (some ⟨b,0,none⟩) n (2 * n + Bool.toNat true),.slice (some ⟨h.next,0,none⟩) 1 2] [t,t] =
          some (.slice (some ⟨h.next + 1,0,none⟩) (n + 1) (2 * (n + 1) + 1),hpush (hset (hpush h (.row e s false false 0 (T.ofList unk xs))) b .dead) (.row e ((n + 1) * s) true false 0 (putCells cells (n * s) xs))):=by
        rw [hpush_eq]
        simp only [heavyB,hnum,appendV,T1.u,T1.inf,T1.zc,hs',hnews',b1,b2,hzb,Bool.and_self,cond_true,cond_false,hl1,g1,hroom,hqp,h2,h4,h5,h6,h7,Nat.beq_refl,hc1,Bool.not_false,hnx',hpush_eq,hset_eq]
        simp only [hss]
      have hnx2:(hset (hpush h (.row e s false false 0 (T.ofList unk xs))) b .dead).next=h.next + 1:=rfl
      refine ⟨_,_,e0,?_,rfl,rfl,λ id hid hne=>?_⟩
      · have hq2:hget (hpush (hset (hpush h (.row e s false false 0 (T.ofList unk xs))) b .dead) (.row e ((n + 1) * s) true false 0 (putCells cells (n * s) xs))) (h.next + 1)=.row e ((n + 1) * s) true false 0 (putCells cells (n * s) xs):=by
          rw [← hnx2,get_push_eq _ _ (by rw [hnx2]; omega)]
        refine .row (n:=n + 1) (op:=true) (fz:=0) (show h.next + 1 < h.next + 2 by omega) hq2 (by rw [List.length_append,hL,hx,Nat.succ_mul]) (λ j hj=>?_) (by omega)
        have hns:n * s + xs.length≤1000000000:=Nat.le_trans (Nat.add_le_add (Nat.mul_le_mul hn2 s1) (show xs.length≤100 by omega)) (by decide)
        rw [getF_eq,get_putCells _ _ _ hns]
        rw [List.length_append] at hj
        by_cases q:j < L.length
        · rw [if_neg (by omega),← getF_eq,hc j q,List.getD_eq_getElem?_getD,List.getD_eq_getElem?_getD,List.getElem?_append_left q]
        · rw [if_pos (by omega),List.getD_eq_getElem?_getD,List.getD_eq_getElem?_getD,List.getElem?_append_right (by omega),hL]
      · rw [get_push_ne _ _ (by rw [hnx2]; omega) (by rw [hnx2]; omega),get_set _ _ _ _ (by omega),if_neg (λ e=>hne (by rw [e]; rfl)),get_push_ne _ _ (by omega) hid]
end Go.Ev
namespace Go.Ev
open Go F Go.Proofs
set_option linter.unusedVariables false
set_option linter.unusedSimpArgs false
set_option maxRecDepth 100000
structure UB (E:Env):Prop where
  u3:E.und 3=some (.int .i64)
  u5:E.und 5=some (.int .u8)
  u9:E.und 9=some .string
  u59:E.und 59=some (.pointer 62)
  z62:E.size 62=some (1 + 1)
  u214:E.und 214=some .unsafePointer
  u134:E.und 134=some (.pointer 5)
  z5:E.size 5=some 1
  l60:∃ i,ElT E 60 5 1 i [.int .u8 (.ofNat 0)]
section u8
variable {E : Env} {m n : Nat} {cx cy : Bool} {k : Value → R} {ty : TypeId} (hE : E.und ty = some (.int .u8))
include hE
theorem gtr_u8:binR (binC E .gtr ty cx cy) (.int .u8 (.ofNat m)) (.int .u8 (.ofNat n)) k=k (.bool (Nat.ble (n + 1) m)):=by
  unfold binR binC; rw [hE]; rfl
theorem lss_u8:binR (binC E .lss ty cx cy) (.int .u8 (.ofNat m)) (.int .u8 (.ofNat n)) k=k (.bool (Nat.ble (m + 1) n)):=by
  unfold binR binC; rw [hE]; rfl
theorem leq_u8:binR (binC E .leq ty cx cy) (.int .u8 (.ofNat m)) (.int .u8 (.ofNat n)) k=k (.bool (Nat.ble m n)):=by
  unfold binR binC; rw [hE]; rfl
theorem eql_u8:binR (binC E .eql ty cx cy) (.int .u8 (.ofNat m)) (.int .u8 (.ofNat n)) k=k (.bool (Nat.beq m n)):=by
  unfold binR binC; rw [hE]; rfl
theorem neq_u8:binR (binC E .neq ty cx cy) (.int .u8 (.ofNat m)) (.int .u8 (.ofNat n)) k=k (.bool (!Nat.beq m n)):=by
  unfold binR binC; rw [hE,← notB_eq]; rfl
theorem quo_u8 (h:1≤n) (h2:m≤255):binR (binC E .quo ty cx cy) (.int .u8 (.ofNat m)) (.int .u8 (.ofNat n)) k=k (.int .u8 (.ofNat (m / n))):=by
  unfold binR binC; rw [hE]
  show Bool.rec (motive:=λ _=>R) _ (k (.int .u8 (.ofNat (m / n)))) (andB (Nat.ble 1 n) (Nat.ble m 255))=_
  rw [Nat.ble_eq_true_of_le h,Nat.ble_eq_true_of_le h2]; rfl
theorem rem_u8 (h:1≤n) (h2:m≤255):binR (binC E .rem ty cx cy) (.int .u8 (.ofNat m)) (.int .u8 (.ofNat n)) k=k (.int .u8 (.ofNat (m % n))):=by
  unfold binR binC; rw [hE]
  show Bool.rec (motive:=λ _=>R) _ (k (.int .u8 (.ofNat (m % n)))) (andB (Nat.ble 1 n) (Nat.ble m 255))=_
  rw [Nat.ble_eq_true_of_le h,Nat.ble_eq_true_of_le h2]; rfl
theorem add_u8 (h:m + n≤255):binR (binC E .add ty cx cy) (.int .u8 (.ofNat m)) (.int .u8 (.ofNat n)) k=k (.int .u8 (.ofNat (m + n))):=by
  unfold binR binC; rw [hE]
  show Bool.rec (motive:=λ _=>R) _ (k (.int .u8 (.ofNat (m + n)))) (Nat.ble (m + n) 255)=_
  rw [Nat.ble_eq_true_of_le h]
end u8
def byteV (b:UInt8):Value:=.int .u8 (.ofNat b.toNat)
structure BI (h:H) (bb:Nat) (s:List UInt8):Prop where
  ex:∃ c v,hget h bb=.row 62 2 false false 0 c∧((getF c 0=.pointer none∧s=[]) ∨ getF c 0=.pointer (some ⟨bb,0,none⟩))∧getF c 1=v∧OL 5 1 h v s.length (s.map byteV)∧∀ p,blkOf v=some p→bb < p
  lt:bb < h.next
theorem BI.new {h:H} (hn:h.next≤1000000000):BI (hpush h (.row 62 2 false false 0 (T.ofList unk [.pointer none,.slice none 0 0]))) h.next [] :=
  ⟨⟨_,.slice none 0 0,get_push_eq _ _ hn,.inl ⟨rfl,rfl⟩,rfl,.nil,λ p hp=>(nomatch hp)⟩,Nat.lt_succ_self _⟩
variable {E : Env} (u : UB E) {rc : RC}
include u
theorem run66 (h148:∀ v h k,rc 148 [v] h k=k v h) {h:H} {bb:Nat} {s:List UInt8} (b:BI h bb s) (hn:h.next≤900000000) :
    ∃ h',(∀ k,p66 E rc (.pointer (some ⟨bb,0,none⟩)) h k=k (.tuple ⟨[]⟩) h')∧h'.next=h.next∧(∀ id,id ≠ bb→hget h' id=hget h id) ∧
      ∃ c v,hget h' bb=.row 62 2 false false 0 c∧getF c 0=.pointer (some ⟨bb,0,none⟩)∧getF c 1=v∧OL 5 1 h' v s.length (s.map byteV)∧∀ p,blkOf v=some p→bb < p:=by
  obtain ⟨⟨c,v,hq,h0,h1,o,hv⟩,hlt⟩:=b
  have hqr:∀ k,onRow (hget h bb) k=k 62 2 false false 0 c:=λ k=>by rw [hq]; rfl
  rcases h0 with ⟨h0,hs⟩ | h0
  · -- its first use
    have e1:∀ cx cy k,binR (binC E .eql 59 cx cy) (getF c 0) (.pointer none) k=k (.bool true):=λ cx cy k=>by rw [h0]; exact eql_nil2 u.u59
    refine ⟨hset h bb (.row 62 2 false false 0 (insF 40 c 0 (.pointer (some ⟨bb,0,none⟩)))),λ k=>?_,rfl,λ id hid=>by rw [get_set _ _ _ _ (by omega),if_neg hid],insF 40 c 0 (.pointer (some ⟨bb,0,none⟩)),v,get_set_eq _ _ _ (by omega),?_,?_,?_,hv⟩
    · have hup:=conv_up (h:=h) (b:=bb) u.u59 u.u214 u.z62 hq (by omega)
      have hdown:=conv_down (h:=h) (b:=bb) u.u214 u.u59 u.z62 hq (by omega)
      unfold p66
      simp (disch:=first | omega | (simp only [Nat.add_eq,Nat.mul_eq,Nat.succ_eq_add_one]; omega)) only [↓bindO_nil,↓onPtr_ptr,↓hqr,↓ifB_ble,↓e1,↓joinR_eq,↓onB_tt]
      rw [hup,bindO_some',h148,hdown,bindO_some']
      simp (disch:=first | omega | (simp only [Nat.add_eq,Nat.mul_eq,Nat.succ_eq_add_one]; omega)) only [↓bindO_nil,↓onPtr_ptr,↓onCells_ptr,↓hqr]
      show letH (hset h bb (.row 62 2 false false 0 (putF c 0 [.pointer (some ⟨bb,0,none⟩)]))) _=_
      rw [letH_eq]
      rfl
    · rw [getF_ins _ _ _ _ (by omega),if_pos rfl]
    · rw [getF_ins _ _ _ _ (by omega),if_neg (by omega),h1]
    · exact o.keep (Nat.le_refl _) λ p hp _=>by rw [get_set _ _ _ _ (by omega),if_neg (by have:=hv p hp; omega)]
  · have e1:∀ cx cy k,binR (binC E .eql 59 cx cy) (getF c 0) (.pointer none) k=k (.bool false):=λ cx cy k=>by rw [h0]; exact eql_nil u.u59
    have e2:∀ cx cy k,binR (binC E .neq 59 cx cy) (getF c 0) (.pointer (some ⟨bb,0,none⟩)) k=k (.bool false):=λ cx cy k=>by rw [h0]; exact neq_self u.u59 u.z62
    refine ⟨h,λ k=>?_,rfl,λ _ _=>rfl,c,v,hq,h0,h1,o,hv⟩
    unfold p66
    simp (disch:=first | omega | (simp only [Nat.add_eq,Nat.mul_eq,Nat.succ_eq_add_one]; omega)) only [↓bindO_nil,↓onPtr_ptr,↓hqr,↓ifB_ble,↓e1,↓e2,↓joinR_eq,↓onB_ff]
theorem run31 (h66:∀ {h:H} {bb:Nat} {s:List UInt8},BI h bb s→h.next≤900000000→∃ h',(∀ k,rc 66 [.pointer (some ⟨bb,0,none⟩)] h k=k (.tuple ⟨[]⟩) h')∧h'.next=h.next∧(∀ id,id ≠ bb→hget h' id=hget h id) ∧
      ∃ c v,hget h' bb=.row 62 2 false false 0 c∧getF c 0=.pointer (some ⟨bb,0,none⟩)∧getF c 1=v∧OL 5 1 h' v s.length (s.map byteV)∧∀ p,blkOf v=some p→bb < p)
    {h:H} {bb:Nat} {s:List UInt8} (b:BI h bb s) (hn:h.next≤800000000) (hs:s.length≤8000) (x:UInt8) :
    ∃ h',(∀ k,p31 E rc (.pointer (some ⟨bb,0,none⟩)) (byteV x) h k=k .nilIface h')∧BI h' bb (s ++ [x])∧h'.next=h.next + 2∧∀ id,id < bb→hget h' id=hget h id:=by
  obtain ⟨i,T1⟩:=u.l60
  obtain ⟨h1,e1,n1,k1,c,v,hq,h0,hv1,o,hv⟩:=h66 b (by omega)
  have hlt:=b.lt
  obtain ⟨v2,h2,e2,o2,n2,b2,f2⟩:=append1 T1 o (xs:=[byteV x]) rfl rfl (by omega) (by omega)
  have hqr:∀ k,onRow (hget h1 bb) k=k 62 2 false false 0 c:=λ k=>by rw [hq]; rfl
  have hq2:hget h2 bb=.row 62 2 false false 0 c:=by rw [f2 bb (by omega) (λ e=>Nat.lt_irrefl _ (hv bb e)),hq]
  have hqr2:∀ k,onRow (hget h2 bb) k=k 62 2 false false 0 c:=λ k=>by rw [hq2]; rfl
  have hoc:∀ k,onCells v2 k=k [v2]:=λ k=>by cases o2 with | row=>rfl
  have hcl:cell1F v2=true:=by cases o2 with | row=>rfl
  have hal:allF (λ u=>cell1F u) [v2]=true:=by rw [allF_cons,hcl]; rfl
  refine ⟨hset h2 bb (.row 62 2 false false 0 (insF 40 c 1 v2)),λ k=>?_,⟨⟨insF 40 c 1 v2,v2,get_set_eq _ _ _ (by omega),.inr ?_,?_,?_,?_⟩,?_⟩,?_,λ id hid=>?_⟩
  · unfold p31
    rw [e1]
    simp (disch:=first | omega | (simp only [Nat.add_eq,Nat.mul_eq,Nat.succ_eq_add_one]; omega)) only [↓bindO_nil,↓onPtr_ptr,↓hqr,↓ifB_ble]
    rw [show fillV (λ f=>some (Nat.mul f 1,1)) (List.flatten (List.replicate 1 (cellsOfV (.int .u8 (.ofNat 0))))) [(0,byteV x)]=some [byteV x] from rfl]
    dsimp only
    rw [show Nat.add 0 1=1 from rfl,hv1]
    simp (disch:=omega) only [↓ifB_ble,letH_eq]
    rw [e2]
    simp only [↓bindP_some',↓hoc,↓bindO_nil,↓onPtr_ptr,↓hqr2,hal]
    rfl
  · rw [getF_ins _ _ _ _ (by omega),if_neg (by omega),h0]
  · rw [getF_ins _ _ _ _ (by omega),if_pos rfl]
  · rw [List.length_append,List.map_append]
    exact o2.keep (Nat.le_refl _) λ p hp _=>by rw [b2] at hp; cases hp; rw [get_set _ _ _ _ (by omega),if_neg (by omega)]
  · intro p hp; rw [b2] at hp; cases hp; omega
  · show bb < h2.next; omega
  · show h2.next=_; omega
  · rw [get_set _ _ _ _ (by omega),if_neg (by omega),f2 id (by omega) (λ e=>by have:=hv id e; omega),k1 id (by omega)]
omit u in
theorem bytesC_byteV:∀ s:List UInt8,bytesC (s.map byteV)=some s
  | []=>rfl
  | b :: l=>by
    have hb:Nat.blt b.toNat 256=true:=ble_t b.toNat_lt
    show (bif Nat.blt b.toNat 256 then (match bytesC (l.map byteV) with | some r=>some (UInt8.ofNat b.toNat :: r) | none=>none) else none)=_
    rw [hb,bytesC_byteV l]
    simp
theorem run32 {h:H} {bb:Nat} {s:List UInt8} (b:BI h bb s) (hne:s ≠ []) (hn:h.next≤900000000) (hs:s.length≤8000) :
    ∃ h',(∀ k,p32 E rc (.pointer (some ⟨bb,0,none⟩)) h k=k (.string ⟨⟨s⟩⟩) h')∧h'.next=h.next∧∀ id,id < bb→hget h' id=hget h id:=by
  obtain ⟨⟨c,v,hq,h0,h1,o,hv⟩,hlt⟩:=b
  have hqr:∀ k,onRow (hget h bb) k=k 62 2 false false 0 c:=λ k=>by rw [hq]; rfl
  have hh:(H.mk h.1 h.2)=h:=rfl
  have hpos:0 < s.length:=List.length_pos_iff.2 hne
  generalize hL:s.map byteV=L at o
  generalize hnl:s.length=n at o
  cases o with
  | nil=>omega
  | row hb hr hl hc hp =>
    rename_i sb fz op cs
    subst hnl
    have hcl:cellsFrom cs 0 s.length=s.map byteV:=by
      rw [Nat.mul_one] at hl
      rw [hL,← hl]
      exact cells_ofList L cs 0 λ j hj=>by rw [Nat.zero_add,← getF_eq,hc j hj]
    have hus:heavyB E h .unsafeString [.pointer (some ⟨sb,0,none⟩),.int .i64 (.ofNat s.length)] [134,3]=some (.string ⟨⟨s⟩⟩,hset h sb (.row 5 (s.length * 1) op false s.length cs)):=by
      rw [hget_eq] at hr
      obtain ⟨m,hm⟩:∃ m,s.length=m + 1:=⟨s.length - 1,by omega⟩
      have hby:=bytesC_byteV s
      rw [← hcl,hm] at hby
      rw [hm] at hr ⊢
      have g1:Nat.ble (m + 1) ((m + 1) * 1)=true:=ble_t (by omega)
      have g2:Nat.ble m 1000000000=true:=ble_t (by omega)
      have g3:Nat.ble 0 (m + 1)=true:=ble_t (by omega)
      rw [hset_eq]
      simp only [heavyB,u.u134,hr,u.z5,Nat.beq_refl,g1,g2,g3,Bool.and_self,cond_true,hby]
    refine ⟨hset h sb (.row 5 (s.length * 1) op false s.length cs),λ k=>?_,rfl,λ id hid=>by rw [get_set _ _ _ _ (by omega),if_neg (by have:=hv sb rfl; omega)]⟩
    unfold p32
    rw [hh]
    simp (disch:=first | omega | (simp only [Nat.add_eq,Nat.mul_eq,Nat.succ_eq_add_one]; omega)) only [↓ifB_ble,↓letH_eq,↓bindO_nil,↓onPtr_ptr,↓hqr]
    rw [show Nat.add 0 1=1 from rfl,h1,slice_data (by cases op <;> simp [Bool.toNat] <;> omega)]
    simp (disch:=first | omega | (simp only [Nat.add_eq,Nat.mul_eq,Nat.succ_eq_add_one]; omega)) only [↓bindO_some',↓bindO_nil,↓onPtr_ptr,↓hqr,↓ifB_ble]
    rw [joinL_eq,onSl_sl]
    dsimp only
    rw [hus]
    rfl
end Go.Ev
namespace Go.Ev
open Go F Go.Proofs
set_option linter.unusedVariables false
set_option linter.unusedSimpArgs false
set_option maxRecDepth 100000
def digL:List UInt8:=[48,49,50,51,52,53,54,55,56,57,97,98,99,100,101,102]
def digS (n:Nat):UInt8:=digL.getD n 0
def plainB (c:UInt8):Prop:=32 < c.toNat∧c.toNat≤126∧c.toNat ≠ 92
instance (c:UInt8):Decidable (plainB c):=by unfold plainB; infer_instance
def esc (c:UInt8):List UInt8:=if plainB c then [c] else [92,digS (c.toNat / 16),digS (c.toNat % 16)]
def escL (s:List UInt8):List UInt8:=(s.map esc).flatten
def wordS (s:List UInt8):List UInt8:=if s=[] then [46] else escL s
theorem esc_len (c:UInt8):(esc c).length≤3:=by unfold esc; split <;> simp
theorem esc_ne (c:UInt8):esc c ≠ []:=by unfold esc; split <;> simp
theorem escL_len:∀ s:List UInt8,(escL s).length≤3 * s.length
  | []=>Nat.le_refl _
  | c :: s=>by
    show (esc c ++ escL s).length≤_
    have:=esc_len c
    have:=escL_len s
    rw [List.length_append,List.length_cons]
    omega
theorem escL_ne:∀ {s:List UInt8},s ≠ []→escL s ≠ []
  | [],h=>absurd rfl h
  | c :: s,_=>by
    show esc c ++ escL s ≠ []
    intro e
    exact esc_ne c (List.append_eq_nil_iff.1 e).1
theorem digL_get (n:Nat) (h:n < 16):digL[n]?=some (digS n):=by
  unfold digS
  rw [List.getD_eq_getElem?_getD,List.getElem?_eq_getElem (show n < digL.length from h)]
  rfl
variable {E : Env} (u : UB E) {rc : RC}
include u
theorem idx_s {s:List UInt8} {j:Nat} {b:UInt8} {kd:IntKind} (h:s[j]?=some b):indexV E 9 (.string ⟨⟨s⟩⟩) (.int kd (.ofNat j))=some (byteV b):=by
  unfold indexV; rw [u.u9]; simp only [h]; rfl
theorem len_s {h:H} {s:List UInt8}:lenV E h 9 (.string ⟨⟨s⟩⟩)=some (.int .i64 (.ofNat s.length)):=by
  unfold lenV; rw [u.u9]; rfl
theorem sl_s {s:List UInt8} {j:Nat} {b:UInt8} {kd kd':IntKind} (h:s[j]?=some b):sliceV E 9 (.string ⟨⟨s⟩⟩) (some (.int kd (.ofNat j))) (some (.int kd' (.ofNat (j + 1)))) none=some (.string ⟨⟨[b]⟩⟩):=by
  have hlt:=(List.getElem?_eq_some_iff.1 h).1
  have g1:Nat.ble (j + 1) s.length=true:=ble_t hlt
  have g2:Nat.ble j (j + 1)=true:=ble_t (Nat.le_succ _)
  unfold sliceV; rw [u.u9]
  simp only [bound,g1,cond_true,g2]
  congr 3
  rw [show j + 1 - j=1 by omega,List.drop_eq_getElem_cons hlt]
  have:=(List.getElem?_eq_some_iff.1 h).2
  rw [this]; rfl
theorem sadd {cx cy:Bool} {a b:List UInt8} {k:Value→R} (h:a.length + b.length≤1000000000):binR (binC E .add 9 cx cy) (.string ⟨⟨a⟩⟩) (.string ⟨⟨b⟩⟩) k=k (.string ⟨⟨a ++ b⟩⟩):=by
  have hb:bin E .add 9 cx cy (.string ⟨⟨a⟩⟩) (.string ⟨⟨b⟩⟩)=some (.string ⟨⟨a ++ b⟩⟩):=by
    simp only [bin,ble_t h,cond_true]
  unfold binR binC; rw [u.u9]
  show bindO (bin E .add 9 cx cy (.string ⟨⟨a⟩⟩) (.string ⟨⟨b⟩⟩)) k=_
  rw [hb]; rfl
theorem seql {cx cy:Bool} {a b:List UInt8} {k:Value→R}:binR (binC E .eql 9 cx cy) (.string ⟨⟨a⟩⟩) (.string ⟨⟨b⟩⟩) k=k (.bool (a == b)):=by
  have hb:bin E .eql 9 cx cy (.string ⟨⟨a⟩⟩) (.string ⟨⟨b⟩⟩)=some (.bool (a == b)):=by
    simp only [bin,eqBytes_eq]
  unfold binR binC; rw [u.u9]
  show bindO (bin E .eql 9 cx cy (.string ⟨⟨a⟩⟩) (.string ⟨⟨b⟩⟩)) k=_
  rw [hb]; rfl
theorem sneq {cx cy:Bool} {a b:List UInt8} {k:Value→R}:binR (binC E .neq 9 cx cy) (.string ⟨⟨a⟩⟩) (.string ⟨⟨b⟩⟩) k=k (.bool (!(a == b))):=by
  have hb:bin E .neq 9 cx cy (.string ⟨⟨a⟩⟩) (.string ⟨⟨b⟩⟩)=some (.bool (!(a == b))):=by
    simp only [bin,eqBytes_eq]
  unfold binR binC; rw [u.u9]
  show bindO (bin E .neq 9 cx cy (.string ⟨⟨a⟩⟩) (.string ⟨⟨b⟩⟩)) k=_
  rw [hb]; rfl
structure RcB (rc:RC):Prop where
  wb:∀ {h:H} {bb:Nat} {s:List UInt8},BI h bb s→h.next≤800000000→s.length≤8000→∀ (x:UInt8) k X,rc 31 [.pointer (some ⟨bb,0,none⟩),byteV x] h k=X→∃ h',X=k .nilIface h'∧BI h' bb (s ++ [x])∧h'.next=h.next + 2∧∀ id,id < bb→hget h' id=hget h id
  st:∀ {h:H} {bb:Nat} {s:List UInt8},BI h bb s→s ≠ []→h.next≤900000000→s.length≤8000→∀ k X,rc 32 [.pointer (some ⟨bb,0,none⟩)] h k=X→∃ h',X=k (.string ⟨⟨s⟩⟩) h'∧h'.next=h.next∧∀ id,id < bb→hget h' id=hget h id
theorem round12 (q:RcB rc) {s:List UInt8} (c:FEnv []→H→R) (LL:FEnv [10]→H→R) {i:Nat} {b:UInt8} {h g:H} {t:List UInt8} (hi:s[i]?=some b) (hs:s.length≤1000) (bi:BI h g.1 t) (hn:h.next≤700000000) (ht:t.length≤3 * i) (X:R)
    (e:p12_2 E (.int .i64 (.ofNat s.length)) (.string ⟨⟨s⟩⟩) rc g c LL (.int .i64 (.ofNat i),()) h=X) :
    ∃ h',X=LL (.int .i64 (.ofNat (i + 1)),()) h'∧BI h' g.1 (t ++ esc b)∧h'.next≤h.next + 6∧h.next≤h'.next∧∀ id,id < g.1→hget h' id=hget h id:=by
  have u3:=u.u3
  have u5:=u.u5
  have hlt:=(List.getElem?_eq_some_iff.1 hi).1
  have hb:=b.toNat_lt
  have hidx:=idx_s u (kd:=.i64) hi
  have hesc:∀ (K:FEnv []→H→R) (X:R),p12_0 rc g h E (byteV b) K=X→∃ h',X=K () h'∧BI h' g.1 (t ++ [92,digS (b.toNat / 16),digS (b.toNat % 16)])∧h'.next=h.next + 6∧∀ id,id < g.1→hget h' id=hget h id:=by
    intro K X e
    have cq:∀ K:Value→R,binR (binC E .quo 5 false true) (byteV b) (.int .u8 (.ofNat 16)) K=K (.int .u8 (.ofNat (b.toNat / 16))):=λ K=>quo_u8 u5 (by omega) (by omega)
    have cr:∀ K:Value→R,binR (binC E .rem 5 false true) (byteV b) (.int .u8 (.ofNat 16)) K=K (.int .u8 (.ofNat (b.toNat % 16))):=λ K=>rem_u8 u5 (by omega) (by omega)
    have i1:=idx_s u (kd:=.u8) (digL_get (b.toNat / 16) (by omega))
    have i2:=idx_s u (kd:=.u8) (digL_get (b.toNat % 16) (by omega))
    unfold digL at i1 i2
    unfold p12_0 at e
    obtain ⟨h1,e1,b1,n1,f1⟩:=q.wb bi (by omega) (by omega) 92 _ X e
    replace e1:=e1.symm
    simp only [↓cq,↓i1,↓bindO_some'] at e1
    obtain ⟨h2,e2,b2,n2,f2⟩:=q.wb b1 (by omega) (by simp; omega) _ _ X e1
    replace e2:=e2.symm
    simp only [↓cr,↓i2,↓bindO_some'] at e2
    obtain ⟨h3,e3,b3,n3,f3⟩:=q.wb b2 (by omega) (by simp; omega) _ _ X e2
    exact ⟨h3,e3,by simpa using b3,by omega,λ id hid=>by rw [f3 id hid,f2 id hid,f1 id hid]⟩
  unfold p12_2 at e
  rw [lss_t u3 hlt,joinR_eq] at e
  simp only [onB_tt] at e
  rw [joinR_eq,hidx,bindO_some'] at e
  have hadd:∀ (K:Value→R),binR (binC E .add 3 false true) (.int .i64 (.ofNat i)) (.int .i64 (.ofNat 1)) K=K (.int .i64 (.ofNat (i + 1))):=λ K=>add_i64 u3 (by omega)
  have c1:∀ K:Value→R,binR (binC E .gtr 5 false true) (byteV b) (.int .u8 (.ofNat 32)) K=K (.bool (decide (32 < b.toNat))):=λ K=>by
    unfold byteV; rw [gtr_u8 u5]
    congr 2
    by_cases c:32 < b.toNat
    · rw [ble_t (by omega),decide_eq_true c]
    · rw [ble_f (by omega),decide_eq_false c]
  have c2:∀ K:Value→R,binR (binC E .leq 5 false true) (byteV b) (.int .u8 (.ofNat 126)) K=K (.bool (decide (b.toNat≤126))):=λ K=>by
    unfold byteV; rw [leq_u8 u5]
    congr 2
    by_cases c:b.toNat≤126
    · rw [ble_t c,decide_eq_true c]
    · rw [ble_f (by omega),decide_eq_false c]
  have c3:∀ K:Value→R,binR (binC E .neq 5 false true) (byteV b) (.int .u8 (.ofNat 92)) K=K (.bool (decide (b.toNat ≠ 92))):=λ K=>by
    unfold byteV; rw [neq_u8 u5]
    congr 2
    by_cases c:b.toNat=92
    · rw [beq_t c,decide_eq_false (λ h=>h c)]; rfl
    · rw [beq_f c,decide_eq_true c]; rfl
  have hu:∀ f t u:R,onG undef f t u=u:=λ _ _ _=>rfl
  by_cases q1:32 < b.toNat
  · by_cases q2:b.toNat≤126
    · by_cases q3:b.toNat=92
      · simp only [↓c1,↓c2,↓c3,decide_eq_true q1,decide_eq_true q2,decide_eq_false (show ¬ b.toNat ≠ 92 from λ h=>h q3),↓joinV_eq,↓joinR_eq,↓onG_tt,↓onB_tt,↓onB_ff,↓hadd] at e
        obtain ⟨h',e1,b1,n1,f1⟩:=hesc _ X e
        rw [show esc b=[92,digS (b.toNat / 16),digS (b.toNat % 16)] from if_neg λ h=>h.2.2 q3]
        exact ⟨h',e1,b1,by omega,by omega,f1⟩
      · simp only [↓c1,↓c2,↓c3,decide_eq_true q1,decide_eq_true q2,decide_eq_true q3,↓joinV_eq,↓joinR_eq,↓onG_tt,↓onB_tt,↓onB_ff,↓hadd] at e
        obtain ⟨h',e1,b1,n1,f1⟩:=q.wb bi (by omega) (by omega) b _ X e
        rw [show esc b=[b] from if_pos ⟨q1,q2,q3⟩]
        exact ⟨h',e1,b1,by omega,by omega,f1⟩
    · simp only [↓c1,↓c2,decide_eq_true q1,decide_eq_false q2,↓joinV_eq,↓joinR_eq,↓onG_tt,↓onG_ff,↓onB_tt,↓onB_ff,↓hadd] at e
      unfold p12_1 at e
      simp only [↓joinR_eq,↓hadd] at e
      obtain ⟨h',e1,b1,n1,f1⟩:=hesc _ X e
      rw [show esc b=[92,digS (b.toNat / 16),digS (b.toNat % 16)] from if_neg λ h=>q2 h.2.1]
      exact ⟨h',e1,b1,by omega,by omega,f1⟩
  · simp only [↓c1,decide_eq_false q1,↓joinV_eq,↓joinR_eq,↓onG_ff,↓onB_tt,↓onB_ff,↓hadd] at e
    unfold p12_1 at e
    simp only [↓joinR_eq,↓hadd] at e
    obtain ⟨h',e1,b1,n1,f1⟩:=hesc _ X e
    rw [show esc b=[92,digS (b.toNat / 16),digS (b.toNat % 16)] from if_neg λ h=>q1 h.1]
    exact ⟨h',e1,b1,by omega,by omega,f1⟩
omit u in
theorem escL_take {s:List UInt8} {i:Nat} {b:UInt8} (h:s[i]?=some b):escL (s.take (i + 1))=escL (s.take i) ++ esc b:=by
  have hlt:=(List.getElem?_eq_some_iff.1 h).1
  have hb:=(List.getElem?_eq_some_iff.1 h).2
  rw [show s.take (i + 1)=s.take i ++ [b] by rw [← hb]; exact (List.take_append_getElem hlt).symm]
  unfold escL
  simp
theorem loop12 (q:RcB rc) {s:List UInt8} (c:FEnv []→H→R) {g:H} (hs:s.length≤1000) (X:R):∀ (d i N:Nat) (h:H),i + d=s.length→d < N→BI h g.1 (escL (s.take i))→h.next + 6 * d≤700000000 →
    loopF (ks:=[10]) (p12_2 E (.int .i64 (.ofNat s.length)) (.string ⟨⟨s⟩⟩) rc g c) N (.int .i64 (.ofNat i),()) h=X→∃ h',X=c () h'∧BI h' g.1 (escL s)∧h'.next≤h.next + 6 * d∧h.next≤h'.next∧∀ id,id < g.1→hget h' id=hget h id:=by
  intro d
  induction d with
  | zero =>
    intro i N h hi hN bi hn e
    obtain ⟨N,rfl⟩:∃ M,N=M + 1:=⟨N - 1,by omega⟩
    obtain rfl:i=s.length:=by omega
    rw [loopF_one] at e
    unfold p12_2 at e
    rw [lss_f u.u3 (Nat.le_refl _),joinR_eq] at e
    rw [List.take_length] at bi
    exact ⟨h,e.symm,bi,by omega,Nat.le_refl _,λ _ _=>rfl⟩
  | succ d ih =>
    intro i N h hi hN bi hn e
    obtain ⟨N,rfl⟩:∃ M,N=M + 1:=⟨N - 1,by omega⟩
    rw [loopF_one] at e
    have hget:s[i]?=some (s[i]'(by omega)):=List.getElem?_eq_getElem _
    obtain ⟨h1,e1,b1,n1,m1,f1⟩:=round12 u q c _ hget hs bi (by omega) (by have:=escL_len (s.take i); rw [List.length_take] at this; omega) X e
    rw [← escL_take hget] at b1
    obtain ⟨h2,e2,b2,n2,m2,f2⟩:=ih (i + 1) N h1 (by omega) (by omega) b1 (by omega) e1.symm
    exact ⟨h2,e2,b2,by omega,by omega,λ id hid=>by rw [f2 id hid,f1 id hid]⟩
theorem run12 (q:RcB rc) {s:List UInt8} (hs:s.length≤1000) {h:H} (hn:h.next≤600000000) (k:Value→H→R) (X:R) (e:p12 E rc (.string ⟨⟨s⟩⟩) h k=X) :
    ∃ h',X=k (.string ⟨⟨wordS s⟩⟩) h'∧h'.next≤h.next + 6001∧h.next≤h'.next∧∀ id,id < h.next→hget h' id=hget h id:=by
  unfold p12 at e
  rw [show (ByteArray.mk #[])=(⟨⟨[]⟩⟩:ByteArray) from rfl,seql u,joinR_eq] at e
  by_cases hz:s=[]
  · rw [show (s == [])=true by rw [hz]; rfl,onB_tt] at e
    exact ⟨h,by rw [show wordS s=[46] from if_pos hz]; exact e.symm,by omega,Nat.le_refl _,λ _ _=>rfl⟩
  · rw [show (s == [])=false from beq_eq_false_iff_ne.2 hz,onB_ff] at e
    dsimp only at e
    rw [ifB_ble (by omega),letH_eq,len_s u,bindO_some',joinR_eq] at e
    have bi:=BI.new (h:=h) (by omega)
    obtain ⟨h1,e1,b1,n1,m1,f1⟩:=loop12 u q _ hs X s.length 0 bigN _ (by omega) (by unfold bigN; omega) bi (by show h.next + 1 + _≤_; omega) e
    have hl:=escL_len s
    obtain ⟨h2,e2,n2,f2⟩:=q.st b1 (escL_ne hz) (by have:(hpush h (.row 62 2 false false 0 (T.ofList unk [.pointer none,.slice none 0 0]))).next=h.next + 1:=rfl; omega) (by omega) _ X e1.symm
    refine ⟨h2,by rw [show wordS s=escL s from if_neg hz]; exact e2,?_,?_,λ id hid=>?_⟩
    · have:(hpush h (.row 62 2 false false 0 (T.ofList unk [.pointer none,.slice none 0 0]))).next=h.next + 1:=rfl
      omega
    · have:(hpush h (.row 62 2 false false 0 (T.ofList unk [.pointer none,.slice none 0 0]))).next=h.next + 1:=rfl
      omega
    · rw [f2 id hid,f1 id hid,get_push_ne _ _ (by omega) hid]
theorem round13 {s:List UInt8} (c:FEnv [3]→H→R) (LL:FEnv [3,4]→H→R) {i:Nat} {b:UInt8} {h:H} {t:List UInt8} (hi:s[i]?=some b) (hs:s.length≤1000) (hn:h.next≤700000000) (ht:t.length≤3 * i) :
    p13_2 E (.string ⟨⟨s⟩⟩) c LL (.string ⟨⟨t⟩⟩,(.int .i64 (.ofNat i),())) h=LL (.string ⟨⟨t ++ esc b⟩⟩,(.int .i64 (.ofNat (i + 1)),())) h:=by
  have u3:=u.u3
  have u5:=u.u5
  have hlt:=(List.getElem?_eq_some_iff.1 hi).1
  have hb:=b.toNat_lt
  have hidx:=idx_s u (kd:=.i64) hi
  have hadd:∀ (K:Value→R),binR (binC E .add 3 false true) (.int .i64 (.ofNat i)) (.int .i64 (.ofNat 1)) K=K (.int .i64 (.ofNat (i + 1))):=λ K=>add_i64 u3 (by omega)
  have cq:∀ K:Value→R,binR (binC E .quo 5 false true) (byteV b) (.int .u8 (.ofNat 16)) K=K (.int .u8 (.ofNat (b.toNat / 16))):=λ K=>quo_u8 u5 (by omega) (by omega)
  have cr:∀ K:Value→R,binR (binC E .rem 5 false true) (byteV b) (.int .u8 (.ofNat 16)) K=K (.int .u8 (.ofNat (b.toNat % 16))):=λ K=>rem_u8 u5 (by omega) (by omega)
  have a1:∀ K:Value→R,binR (binC E .add 5 false true) (.int .u8 (.ofNat (b.toNat / 16))) (.int .u8 (.ofNat 1)) K=K (.int .u8 (.ofNat (b.toNat / 16 + 1))):=λ K=>add_u8 u5 (by omega)
  have a2:∀ K:Value→R,binR (binC E .add 5 false true) (.int .u8 (.ofNat (b.toNat % 16))) (.int .u8 (.ofNat 1)) K=K (.int .u8 (.ofNat (b.toNat % 16 + 1))):=λ K=>add_u8 u5 (by omega)
  have i1:=sl_s u (kd:=.u8) (kd':=.u8) (digL_get (b.toNat / 16) (by omega))
  have i2:=sl_s u (kd:=.u8) (kd':=.u8) (digL_get (b.toNat % 16) (by omega))
  have i3:=sl_s u (kd:=.i64) (kd':=.i64) hi
  unfold digL at i1 i2
  have sa:∀ {cx cy:Bool} {a b:List UInt8} {k:Value→R},a.length + b.length≤1000000000→binR (binC E .add 9 cx cy) (.string ⟨⟨a⟩⟩) (.string ⟨⟨b⟩⟩) k=k (.string ⟨⟨a ++ b⟩⟩):=λ h=>sadd u h
  have hesc:∀ (o:Value) (K:FEnv [3]→H→R),p13_0 h E (.string ⟨⟨t⟩⟩,(o,())) (byteV b) K=K (.string ⟨⟨t ++ [92] ++ [digS (b.toNat / 16)] ++ [digS (b.toNat % 16)]⟩⟩,()) h:=by
    intro o K
    unfold p13_0
    rw [ifB_ble (by omega),letH_eq,show H.mk h.1 h.2=h from rfl]
    simp (disch:=(simp only [List.length_append,List.length_cons,List.length_nil]; omega)) only [↓cq,↓cr,↓a1,↓a2,↓i1,↓i2,↓bindO_some',↓sa]
  have c1:∀ K:Value→R,binR (binC E .lss 5 false true) (byteV b) (.int .u8 (.ofNat 33)) K=K (.bool (decide (b.toNat < 33))):=λ K=>by
    unfold byteV; rw [lss_u8 u5]
    congr 2
    by_cases c:b.toNat < 33
    · rw [ble_t (by omega),decide_eq_true c]
    · rw [ble_f (by omega),decide_eq_false c]
  have c2:∀ K:Value→R,binR (binC E .gtr 5 false true) (byteV b) (.int .u8 (.ofNat 126)) K=K (.bool (decide (126 < b.toNat))):=λ K=>by
    unfold byteV; rw [gtr_u8 u5]
    congr 2
    by_cases c:126 < b.toNat
    · rw [ble_t (by omega),decide_eq_true c]
    · rw [ble_f (by omega),decide_eq_false c]
  have c3:∀ K:Value→R,binR (binC E .eql 5 false true) (byteV b) (.int .u8 (.ofNat 92)) K=K (.bool (decide (b.toNat=92))):=λ K=>by
    unfold byteV; rw [eql_u8 u5]
    congr 2
    by_cases c:b.toNat=92
    · rw [beq_t c,decide_eq_true c]
    · rw [beq_f c,decide_eq_false c]
  have hfin:t ++ [92] ++ [digS (b.toNat / 16)] ++ [digS (b.toNat % 16)]=t ++ [92,digS (b.toNat / 16),digS (b.toNat % 16)]:=by simp
  unfold p13_2
  rw [len_s u,bindO_some',lss_t u3 hlt,joinR_eq]
  simp only [onB_tt]
  rw [joinR_eq,hidx,bindO_some']
  by_cases q1:b.toNat < 33
  · simp only [↓c1,decide_eq_true q1,↓joinV_eq,↓joinR_eq,↓onG_tt,↓onB_tt]
    unfold p13_1
    simp only [↓joinR_eq,↓hesc,↓hadd]
    rw [hfin,show esc b=[92,digS (b.toNat / 16),digS (b.toNat % 16)] from if_neg λ h=>by have:=h.1; omega]
  · by_cases q2:126 < b.toNat
    · simp only [↓c1,↓c2,decide_eq_false q1,decide_eq_true q2,↓joinV_eq,↓joinR_eq,↓onG_tt,↓onG_ff,↓onB_tt,↓onB_ff]
      unfold p13_1
      simp only [↓joinR_eq,↓hesc,↓hadd]
      rw [hfin,show esc b=[92,digS (b.toNat / 16),digS (b.toNat % 16)] from if_neg λ h=>by have:=h.2.1; omega]
    · by_cases q3:b.toNat=92
      · simp only [↓c1,↓c2,↓c3,decide_eq_false q1,decide_eq_false q2,decide_eq_true q3,↓joinV_eq,↓joinR_eq,↓onG_tt,↓onG_ff,↓onB_tt,↓onB_ff,↓hesc,↓hadd]
        rw [hfin,show esc b=[92,digS (b.toNat / 16),digS (b.toNat % 16)] from if_neg λ h=>h.2.2 q3]
      · simp (disch:=(simp only [List.length_append,List.length_cons,List.length_nil]; omega)) only [↓c1,↓c2,↓c3,decide_eq_false q1,decide_eq_false q2,decide_eq_false q3,↓joinV_eq,↓joinR_eq,↓onG_tt,↓onG_ff,↓onB_tt,↓onB_ff,↓hadd,↓i3,↓bindO_some',↓sa]
        rw [show esc b=[b] from if_pos ⟨by omega,by omega,q3⟩]
theorem loop13 {s:List UInt8} (c:FEnv [3]→H→R) (hs:s.length≤1000) {h:H} (hn:h.next≤700000000):∀ (d i N:Nat),i + d=s.length→d < N →
    loopF (ks:=[3,4]) (p13_2 E (.string ⟨⟨s⟩⟩) c) N (.string ⟨⟨escL (s.take i)⟩⟩,(.int .i64 (.ofNat i),())) h=c (.string ⟨⟨escL s⟩⟩,()) h:=by
  intro d
  induction d with
  | zero =>
    intro i N hi hN
    obtain ⟨N,rfl⟩:∃ M,N=M + 1:=⟨N - 1,by omega⟩
    obtain rfl:i=s.length:=by omega
    rw [loopF_one]
    unfold p13_2
    rw [len_s u,bindO_some',lss_f u.u3 (Nat.le_refl _),joinR_eq,List.take_length]
    rfl
  | succ d ih =>
    intro i N hi hN
    obtain ⟨N,rfl⟩:∃ M,N=M + 1:=⟨N - 1,by omega⟩
    have hget:s[i]?=some (s[i]'(by omega)):=List.getElem?_eq_getElem _
    rw [loopF_one,round13 u c _ hget hs hn (by have:=escL_len (s.take i); rw [List.length_take] at this; omega),← escL_take hget]
    exact ih (i + 1) N (by omega) (by omega)
theorem run13 {s:List UInt8} (hs:s.length≤1000) {h:H} (hn:h.next≤700000000) (k:Value→H→R):p13 E rc (.string ⟨⟨s⟩⟩) h k=k (.string ⟨⟨wordS s⟩⟩) h:=by
  unfold p13
  rw [joinR_eq,show (ByteArray.mk #[])=(⟨⟨[]⟩⟩:ByteArray) from rfl]
  refine (loop13 u _ hs hn s.length 0 bigN (by omega) (by unfold bigN; omega)).trans ?_
  dsimp only
  rw [seql u,joinR_eq]
  by_cases hz:s=[]
  · subst hz; rfl
  · rw [show (escL s == [])=false from beq_eq_false_iff_ne.2 (escL_ne hz),onB_ff,show wordS s=escL s from if_neg hz]
end Go.Ev
