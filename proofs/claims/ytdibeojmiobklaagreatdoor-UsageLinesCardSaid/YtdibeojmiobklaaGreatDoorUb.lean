/-
  The document's lines of a report's rows.
-/
import Derived.Test.YtdibeojmiobklaaGreatDoorUa
import Derived.Test.YtdibeojmiobklaaGreatDoorKa
import Derived.Test.YtdibeojmiobklaaGreatDoorLa
import Derived.Test.YtdibeojmiobklaaGreatDoorLb
import Derived.Test.YtdibeojmiobklaaGreatDoorEc
import Derived.Test.YtdibeojmiobklaaGreatDoorKb
import Derived.Test.YtdibeojmiobklaaGreatDoorMe
set_option linter.unusedVariables false
set_option linter.unusedSimpArgs false
namespace Go.Ev
open Go F Go.Proofs
set_option linter.unusedVariables false
set_option linter.unusedSimpArgs false
set_option maxRecDepth 100000
variable {E : Env} (u : UW E) {rc : RC} (q : RcU E rc)
include u
theorem lss_int {cx cy:Bool} {m:Nat} {z:Int} {k:Value→R}:binR (binC E .lss 3 cx cy) (.int .i64 (.ofNat m)) (.int .i64 z) k=k (.bool (decide ((m:Int) < z))):=by
  cases z with
  | ofNat n =>
    rw [lss_i64 u.u3]
    congr 2
    by_cases h:m < n
    · rw [ble_t (by omega),decide_eq_true (by show (m:Int) < (n:Int); omega)]
    · rw [ble_f (by omega),decide_eq_false (by show ¬ (m:Int) < (n:Int); omega)]
  | negSucc n =>
    rw [decide_eq_false (by have:=Int.negSucc_lt_zero n; omega)]
    unfold binR binC; rw [u.u3]; rfl
theorem loop10_2 {a h:H} {dp:Int} {m fz:Nat} {op ro:Bool} {C:T Value} {e:TypeId} (hrow:hget h a.1=.row e m op ro fz C) (hm:2≤m) (hC:getF C 1=.int .i64 dp) (b:FEnv [6,7]→H→R) :
    ∀ (d k N:Nat) (s:List UInt8),k + d=dN dp→d < N→s.length + 2 * d≤1000 →
      loopF (ks:=[6,7]) (p10_2 a E b) N (.string ⟨⟨s⟩⟩,(.int .i64 (.ofNat k),())) h=b (.string ⟨⟨s ++ Lib.repeatL [32,32] d⟩⟩,(.int .i64 (.ofNat (k + d)),())) h:=by
  have u3:=u.u3
  have hr:∀ k,onRow (hget h a.1) k=k e m op ro fz C:=λ k=>by rw [hrow]; rfl
  have hdl:=dN_le dp
  intro d
  induction d with
  | zero =>
    intro k N s hk hN hs
    obtain ⟨N,rfl⟩:∃ M,N=M + 1:=⟨N - 1,by omega⟩
    rw [loopF_one]
    unfold p10_2
    rw [hr,ifB_ble hm,hC,lss_int u]
    by_cases c:(k:Int) < dp
    · have h3:k=300:=by unfold dN at hk; omega
      rw [decide_eq_true c]
      simp (disch:=omega) only [↓joinV_eq,↓onG_tt,↓lss_f u3,↓onB_tt,↓onB_ff,↓joinR_eq]
      rw [show Lib.repeatL [32,32] 0=[] from rfl,List.append_nil]
      rfl
    · rw [decide_eq_false c]
      simp (disch:=omega) only [↓joinV_eq,↓onG_ff,↓onB_ff,↓joinR_eq]
      rw [show Lib.repeatL [32,32] 0=[] from rfl,List.append_nil]
      rfl
  | succ d ih =>
    intro k N s hk hN hs
    obtain ⟨N,rfl⟩:∃ M,N=M + 1:=⟨N - 1,by omega⟩
    have key:=ih (k + 1) N (s ++ [32,32]) (by omega) (by omega) (by simp only [List.length_append,List.length_cons,List.length_nil]; omega)
    rw [loopF_one]
    generalize loopF (ks:=[6,7]) (p10_2 a E b) N=L at key ⊢
    unfold p10_2
    rw [hr,ifB_ble hm,hC,lss_int u]
    have c:(k:Int) < dp:=by unfold dN at hk; omega
    rw [decide_eq_true c]
    simp (disch:=omega) only [↓joinV_eq,↓onG_tt,↓lss_t u3,↓onB_tt,↓joinR_eq]
    unfold p10_1
    rw [joinR_eq,str_add u (by simp only [List.length_append,List.length_cons,List.length_nil]; omega)]
    simp (disch:=omega) only [↓add_i64 u3]
    refine Eq.trans key ?_
    rw [List.append_assoc,show [32,32] ++ Lib.repeatL [32,32] d=Lib.repeatL [32,32] (d + 1) from rfl,show k + 1 + d=k + (d + 1) by omega]
def tails (ns:List Int):List UInt8:=(ns.map λ n=>32 :: Lib.itoa n).flatten
include q
theorem loop10_0 {CI:T Value} {ns:List Int} {h bb:H} (hl:ns.length=5) (hns:∀ n ∈ ns,i64 n) (hC:∀ i,i < 5→getF CI i=.int .i64 (ns.getD i 0)) (hq:hget h bb.1=.row 3 5 false false 0 CI) (hg:sameG glob 0 h=true) (c:FEnv [6,60]→H→R) :
    ∀ (d i N:Nat) (s:List UInt8),i + d=5→d < N→s.length + 22 * d≤10000 →
      loopF (ks:=[6,60]) (p10_0 E (.int .i64 (.ofNat 5)) bb rc c) N (.string ⟨⟨s⟩⟩,(.int .i64 (.ofNat i),())) h=c (.string ⟨⟨s ++ tails (ns.drop i)⟩⟩,(.int .i64 (.ofNat 5),())) h:=by
  have u3:=u.u3
  have hqr:∀ k,onRow (hget h bb.1) k=k 3 5 false false 0 CI:=λ k=>by rw [hq]; rfl
  intro d
  induction d with
  | zero =>
    intro i N s hi hN hs
    obtain ⟨N,rfl⟩:∃ M,N=M + 1:=⟨N - 1,by omega⟩
    obtain rfl:i=5:=by omega
    rw [loopF_one]
    unfold p10_0
    simp (disch:=omega) only [↓lss_f u3,↓joinR_eq,↓onB_ff]
    rw [List.drop_eq_nil_of_le (by omega),show tails []=[] from rfl,List.append_nil]
  | succ d ih =>
    intro i N s hi hN hs
    obtain ⟨N,rfl⟩:∃ M,N=M + 1:=⟨N - 1,by omega⟩
    have hi5:i < 5:=by omega
    have hCi:=hC i hi5
    have hmem:ns.getD i 0 ∈ ns:=by
      rw [List.getD_eq_getElem?_getD,List.getElem?_eq_getElem (by omega)]
      exact List.getElem_mem ..
    have hin:=hns _ hmem
    have hln:=Lib.itoa_length_le _ hin.1 hin.2
    have key:=ih (i + 1) N (s ++ [32] ++ Lib.itoa (ns.getD i 0)) (by omega) (by omega) (by simp only [List.length_append,List.length_cons,List.length_nil]; omega)
    rw [loopF_one]
    generalize loopF (ks:=[6,60]) (p10_0 E (.int .i64 (.ofNat 5)) bb rc c) N=LL at key ⊢
    unfold p10_0
    simp (disch:=first | omega | (simp only [Nat.add_eq,Nat.mul_eq,Nat.succ_eq_add_one]; omega)) only [↓lss_t u3,↓joinR_eq,↓onB_tt,↓onNat_int,↓ifB_ble,↓addOffF_eq,↓onPtr_ptr,↓hqr]
    rw [show Nat.mul i 1=i from Nat.mul_one i,Nat.zero_add,hCi,str_add u (by simp only [List.length_append,List.length_cons,List.length_nil]; omega),q.itoa h hg _ hin]
    unfold strV
    rw [str_add u (by simp only [List.length_append,List.length_cons,List.length_nil]; omega)]
    simp (disch:=omega) only [↓add_i64 u3]
    refine Eq.trans key ?_
    have:ns.drop i=ns.getD i 0 :: ns.drop (i + 1):=by
      rw [List.getD_eq_getElem?_getD,List.getElem?_eq_getElem (by omega)]
      exact List.drop_eq_getElem_cons (by omega)
    rw [this]
    unfold tails
    simp
omit u q
theorem line_eq (r:Rw):Lib.repeatL [32,32] (dN r.dp) ++ Lib.decDigits r.hd ++ [32] ++ Lib.decDigits r.kd ++ [32] ++ nameOr r.nm ++ tails (nums r)=lineL r:=by
  unfold lineL
  rw [show ([Lib.decDigits r.hd,Lib.decDigits r.kd,nameOr r.nm] ++ (nums r).map Lib.itoa)=Lib.decDigits r.hd :: ([Lib.decDigits r.kd,nameOr r.nm] ++ (nums r).map Lib.itoa) from rfl,Lib.join_cons]
  unfold Lib.joinTail tails
  simp [nums]
include u q
theorem round10 {b o cc e m fz B:Nat} {op ro:Bool} {cells:T Value} {rows:List Rw} (hok:∀ r ∈ rows,r.ok∧r.nm.length≤100) (hm:o + 9 * rows.length≤m) (hc:∀ i (hi:i < rows.length),cellsF cells 9 (o + 9 * i)=rowC rows[i])
    (hlen:rows.length≤40) (hB:16≤B) (hbB:b < B) (kk:FEnv [3]→H→R) (LL:FEnv [3,12]→H→R) {i n:Nat} {v:Value} {L:List Value} {h:H} (hi:i < rows.length) (hrow:hget h b=.row e m op ro fz cells) (ob:OL 9 1 h v n L) (hov:∀ p,blkOf v=some p→B≤p)
    (hBn:B≤h.next) (hn:h.next≤800000000) (hnn:n≤1000) (hg:sameG glob 0 h=true) :
    ∃ v' h',p10_3 E (.int .i64 (.ofNat rows.length)) (.slice (some ⟨b,o,none⟩) rows.length cc) rc kk LL (v,(.int .i64 (.ofNat i),())) h=LL (v',(.int .i64 (.ofNat (i + 1)),())) h'∧OL 9 1 h' v' (n + 1) (L ++ [strV (lineL rows[i])])∧h'.next=h.next + 4 ∧
      (∀ p,blkOf v'=some p→B≤p)∧(∀ id,id < B→hget h' id=hget h id):=by
  have u3:=u.u3
  obtain ⟨inf,T1⟩:=u.l33
  have hqr:∀ k,onRow (hget h b) k=k e m op ro fz cells:=λ k=>by rw [hrow]; rfl
  have hci:=hc i hi
  generalize hr:rows[i]=r at hci
  have hrok:=hok r (by rw [← hr]; exact List.getElem_mem ..)
  have h9:Nat.mul i 9=9 * i:=Nat.mul_comm i 9
  obtain ⟨x1,hx1⟩:∃ x1,x1=hset (hpush h (.row 30 9 false false 0 (T.ofList unk zero9))) h.next (.row 30 9 false false 0 (rowT r)):=⟨_,rfl⟩
  have nx1:x1.1=h.next + 1:=by rw [hx1]; rfl
  have gx1:hget x1 h.next=.row 30 9 false false 0 (rowT r):=by rw [hx1]; exact get_set_eq _ _ _ (by omega)
  have ox1:∀ id,id < h.next→hget x1 id=hget h id:=λ id hid=>by rw [hx1,get_set _ _ _ _ (by omega),if_neg (by omega),get_push_ne _ _ (by omega) hid]
  obtain ⟨x4,hx4⟩:∃ x4,x4=hpush x1 (.row 3 5 false false 0 (T.ofList unk ((nums r).map λ n=>.int .i64 n))):=⟨_,rfl⟩
  have nx4:x4.1=h.next + 2:=by rw [hx4]; show x1.1 + 1=_; omega
  have gx4:hget x4 x1.1=.row 3 5 false false 0 (T.ofList unk ((nums r).map λ n=>.int .i64 n)):=by rw [hx4]; exact get_push_eq _ _ (by show x1.1≤_; omega)
  have ox4:∀ id,id < h.next + 1→hget x4 id=hget x1 id:=λ id hid=>by rw [hx4]; exact get_push_ne _ _ (by show x1.1≤_; omega) (by show id < x1.1; omega)
  have keep4:∀ id,id < h.next→hget x4 id=hget h id:=λ id hid=>by rw [ox4 id (by omega),ox1 id hid]
  have hnl:(nums r).length=5:=rfl
  have hni:∀ n ∈ nums r,i64 n:=by
    intro n hn
    simp only [nums,List.mem_cons,List.not_mem_nil,or_false] at hn
    rcases hn with rfl | rfl | rfl | rfl | rfl
    · exact hrok.1.a
    · exact hrok.1.b
    · exact hrok.1.c
    · exact hrok.1.d
    · exact hrok.1.e
  have hnc:∀ i,i < 5→getF (T.ofList unk ((nums r).map λ n=>Value.int .i64 n)) i=.int .i64 ((nums r).getD i 0):=by
    intro i hi
    rw [getF_ofList,List.getD_eq_getElem?_getD,List.getElem?_map,List.getD_eq_getElem?_getD,List.getElem?_eq_getElem (by rw [hnl]; exact hi)]
    rfl
  have hg4:sameG glob 0 x4=true:=by rw [sameG_fr (h:=h) λ id hid=>keep4 id (by omega)]; exact hg
  have hg1:sameG glob 0 x1=true:=by rw [sameG_fr (h:=h) λ id hid=>ox1 id (by omega)]; exact hg
  obtain ⟨l1,l2⟩:=line_len r hrok.1 hrok.2
  have hdl:=dN_le r.dp
  have d1:(Lib.decDigits r.hd).length≤20:=by rw [Lib.decDigits_length]; exact Lib.nDigits_le20 _ hrok.1.hd
  have d2:(Lib.decDigits r.kd).length≤20:=by rw [Lib.decDigits_length]; exact Lib.nDigits_le20 _ hrok.1.kd
  have d3:=hrok.2
  have d4:(Lib.repeatL [32,32] (dN r.dp)).length=dN r.dp * 2:=Lib.repeatL_length _ _
  obtain ⟨t0,t1,t2,t3,t4,t5,t6,t7,t8⟩:=rowT_get r
  obtain ⟨X,e⟩:∃ X,p10_3 E (.int .i64 (.ofNat rows.length)) (.slice (some ⟨b,o,none⟩) rows.length cc) rc kk LL (v,(.int .i64 (.ofNat i),())) h=X:=⟨_,rfl⟩
  rw [e]
  unfold p10_3 at e
  have hl9:lenF (rowC r)=9:=rfl
  have ha9:allF (λ x=>cell1F x) (rowC r)=true:=rfl
  have hnb:notB false=true:=rfl
  rw [lss_t u3 hi,joinR_eq] at e
  simp only [onB_tt] at e
  rw [joinR_eq] at e
  simp (disch:=first | omega | (simp only [Nat.add_eq,Nat.mul_eq,Nat.succ_eq_add_one]; omega)) only [↓onNat_int,↓onSl_sl,↓ifB_ble,↓addOffF_eq,↓onPtr_ptr,↓hqr] at e
  rw [h9,hci,hl9,ha9] at e
  simp (disch:=first | omega | (simp only [Nat.add_eq,Nat.mul_eq,Nat.succ_eq_add_one]; omega)) only [↓ifB_ble,↓letH_eq] at e
  rw [show hget (hpush h (.row 30 9 false false 0 (T.ofList unk [.int .u64 (.ofNat 0),.int .i64 (.ofNat 0),.int .u64 (.ofNat 0),.string (ByteArray.mk #[]),.int .i64 (.ofNat 0),.int .i64 (.ofNat 0),.int .i64 (.ofNat 0),.int .i64 (.ofNat 0),.int .i64 (.ofNat 0)]))) h.1=.row 30 9 false false 0 (T.ofList unk zero9) from get_push_eq _ _ (by omega)] at e
  simp only [onRow_row,hnb,ifB_true,Nat.beq_refl,letH_eq] at e
  simp (disch:=first | omega | (simp only [Nat.add_eq,Nat.mul_eq,Nat.succ_eq_add_one]; omega)) only [↓ifB_ble] at e
  rw [show hset (hpush h (.row 30 9 false false 0 (T.ofList unk [.int .u64 (.ofNat 0),.int .i64 (.ofNat 0),.int .u64 (.ofNat 0),.string (ByteArray.mk #[]),.int .i64 (.ofNat 0),.int .i64 (.ofNat 0),.int .i64 (.ofNat 0),.int .i64 (.ofNat 0),.int .i64 (.ofNat 0)]))) h.1 (.row 30 9 false false 0 (putF (T.ofList unk zero9) 0 (rowC r)))=x1 from hx1.symm] at e
  rw [joinR_eq,show (ByteArray.mk #[])=(⟨⟨[]⟩⟩:ByteArray) from rfl,loop10_2 u gx1 (by omega) t1 _ (dN r.dp) 0 bigN [] (by omega) (by unfold bigN; omega) (by simp only [List.length_nil]; omega)] at e
  dsimp only at e
  rw [show H.mk x1.1 x1.2=x1 from rfl] at e
  rw [List.nil_append] at e
  have hx1r:∀ k,onRow (hget x1 h.next) k=k 30 9 false false 0 (rowT r):=λ k=>by rw [gx1]; rfl
  have hss:∀ (s:List UInt8) (k:R),ifB (sameW (.string ⟨⟨s⟩⟩) (.string ⟨⟨s⟩⟩)) k=k:=λ s k=>ifB_of (sameW_str s) k
  have hsp:∀ (k:R) (A:Addr),ifB (sameW (.pointer (some A)) (.pointer (some A))) k=k:=λ k A=>ifB_sp A k
  have hsi:∀ (k:R) (n:Nat),ifB (sameW (.int .u64 (.ofNat n)) (.int .u64 (.ofNat n))) k=k:=λ k n=>ifB_si _ _ k
  have hf:∀ n,n < 18446744073709551616→∀ k,rc 25 [.int .u64 (.ofNat n),.int .i64 (.ofNat 10)] x1 k=k (.string ⟨⟨Lib.decDigits n⟩⟩) x1:=λ n hn k=>q.fmt x1 hg1 n hn k
  have hsa:∀ {cx cy:Bool} {a b:List UInt8} {k:Value→R},a.length + b.length≤1000000000→binR (binC E .add 9 cx cy) (.string ⟨⟨a⟩⟩) (.string ⟨⟨b⟩⟩) k=k (.string ⟨⟨a ++ b⟩⟩):=λ h=>str_add u h
  simp (disch:=first | omega | (simp only [Nat.add_eq,Nat.mul_eq,Nat.succ_eq_add_one]; omega) | (simp only [List.length_append,List.length_cons,List.length_nil]; omega) | exact hrok.1.hd | exact hrok.1.kd) only [↓ifB_ble,↓hx1r,↓t0,↓t2,↓hf,↓hss,↓hsp,↓hsi,↓hsa] at e
  rw [t3,str_eq u] at e
  generalize hs0:Lib.repeatL [32,32] (dN r.dp) ++ Lib.decDigits r.hd ++ [32] ++ Lib.decDigits r.kd ++ [32]=s0 at e
  have ls0:s0.length≤1000:=by rw [← hs0]; simp only [List.length_append,List.length_cons,List.length_nil]; omega
  have hjn:∀ (K:FEnv [6]→H→R),joinR (ks:=[6]) K (λ c1=>onB (.bool (r.nm == [])) (c1 (.string ⟨⟨s0⟩⟩,()) x1) (c1 (.string ⟨⟨s0 ++ [46]⟩⟩,()) x1))=K (.string ⟨⟨s0 ++ if r.nm=[] then [46] else []⟩⟩,()) x1:=by
    intro K
    rw [joinR_eq]
    by_cases hz:r.nm=[]
    · rw [show (r.nm == [])=true by rw [hz]; rfl,onB_tt,if_pos hz]
    · rw [show (r.nm == [])=false from beq_eq_false_iff_ne.2 hz,onB_ff,if_neg hz,List.append_nil]
  rw [hjn] at e
  have ln:(if r.nm=[] then [46] else ([]:List UInt8)).length≤1:=by split <;> decide
  have hfill5:fillV (λ r=>some (Nat.mul r 1,1)) (List.flatten (List.replicate 5 (cellsOfV (.int .i64 (.ofNat 0))))) [(0,.int .i64 r.a),(1,.int .i64 r.b),(2,.int .i64 r.c),(3,.int .i64 r.d),(4,.int .i64 r.e)]=some ((nums r).map λ n=>.int .i64 n):=rfl
  simp (disch:=first | omega | (simp only [Nat.add_eq,Nat.mul_eq,Nat.succ_eq_add_one]; omega) | (simp only [List.length_append]; omega)) only [↓ifB_ble,↓hx1r,↓t3,↓t4,↓t5,↓t6,↓t7,↓t8,↓hsa] at e
  rw [hfill5,orec_some none] at e
  rw [joinL_eq] at e
  dsimp only at e
  rw [joinR_eq,show hpush x1 (.row 3 5 false false 0 (T.ofList unk ((nums r).map λ n=>Value.int .i64 n)))=x4 from hx4.symm] at e
  rw [loop10_0 u q hnl hni hnc gx4 hg4 _ 5 0 bigN _ (by omega) (by unfold bigN; omega) (by simp only [List.length_append]; omega)] at e
  dsimp only at e
  have hline:s0 ++ (if r.nm=[] then [46] else []) ++ r.nm ++ tails ((nums r).drop 0)=lineL r:=by
    rw [← line_eq r,hs0,List.drop_zero,List.append_assoc s0]
    congr 2
    unfold nameOr
    split
    · rename_i hz; rw [hz]; rfl
    · rfl
  rw [hline] at e
  have hfill1:fillV (λ r=>some (Nat.mul r 1,1)) (List.flatten (List.replicate 1 (cellsOfV (.string ⟨⟨[]⟩⟩)))) [(0,.string ⟨⟨lineL r⟩⟩)]=some [strV (lineL r)]:=rfl
  have hob5:=ob.keep (h':=x4) (by show _≤x4.1; omega) (λ p _ hp=>keep4 p hp)
  obtain ⟨v6,h6,e6,o6,n6,b6,f6⟩:=append1 T1 hob5 (xs:=[strV (lineL r)]) rfl rfl (by show x4.1 + 2≤_; omega) (by omega)
  rw [hfill1,orec_some none] at e
  simp (disch:=omega) only [↓ifB_ble,letH_eq] at e
  rw [e6] at e
  simp (disch:=omega) only [↓bindP_some',↓add_i64 u3] at e
  refine ⟨v6,h6,e.symm,o6,by rw [n6]; show x4.1 + 2=_; omega,λ p hp=>by rw [b6] at hp; cases hp; show _≤x4.1 + 1; omega,λ id hid=>by rw [f6 id (by show _ < x4.1; omega) (λ e=>by have:=hov _ e; omega),keep4 id (by omega)]⟩
theorem loop10_3 {b o cc e m fz B:Nat} {op ro:Bool} {cells:T Value} {rows:List Rw} (hok:∀ r ∈ rows,r.ok∧r.nm.length≤100) (hm:o + 9 * rows.length≤m) (hc:∀ i (hi:i < rows.length),cellsF cells 9 (o + 9 * i)=rowC rows[i])
    (hlen:rows.length≤40) (hB:16≤B) (hbB:b < B) (kk:FEnv [3]→H→R) :
    ∀ (d i N:Nat) (v:Value) (L:List Value) (h:H),i + d=rows.length→d < N→(rows ≠ []→hget h b=.row e m op ro fz cells)→OL 9 1 h v i L→(∀ p,blkOf v=some p→B≤p)→B≤h.next→h.next + 4 * d≤800000000→sameG glob 0 h=true →
      ∃ v' h',loopF (ks:=[3,12]) (p10_3 E (.int .i64 (.ofNat rows.length)) (.slice (some ⟨b,o,none⟩) rows.length cc) rc kk) N (v,(.int .i64 (.ofNat i),())) h=kk (v',()) h'∧OL 9 1 h' v' rows.length (L ++ (rows.drop i).map λ r=>strV (lineL r)) ∧
        h'.next=h.next + 4 * d∧(∀ p,blkOf v'=some p→B≤p)∧(∀ id,id < B→hget h' id=hget h id):=by
  intro d
  induction d with
  | zero =>
    intro i N v L h hi hN hrow ob hov hBn hn hg
    obtain ⟨N,rfl⟩:∃ M,N=M + 1:=⟨N - 1,by omega⟩
    obtain rfl:i=rows.length:=by omega
    refine ⟨v,h,?_,?_,rfl,hov,λ _ _=>rfl⟩
    · rw [loopF_one]
      unfold p10_3
      rw [lss_f u.u3 (Nat.le_refl _),joinR_eq]
      rfl
    · rw [List.drop_eq_nil_of_le (Nat.le_refl _),List.map_nil,List.append_nil]; exact ob
  | succ d ih =>
    intro i N v L h hi hN hrow ob hov hBn hn hg
    obtain ⟨N,rfl⟩:∃ M,N=M + 1:=⟨N - 1,by omega⟩
    have hlt:i < rows.length:=by omega
    have hne:rows ≠ []:=λ e=>by rw [e] at hlt; exact Nat.not_lt_zero _ hlt
    obtain ⟨v1,h1,e1,o1,n1,k1,f1⟩:=round10 u q (cc:=cc) hok hm hc hlen hB hbB kk (loopF (ks:=[3,12]) (p10_3 E (.int .i64 (.ofNat rows.length)) (.slice (some ⟨b,o,none⟩) rows.length cc) rc kk) N) hlt (hrow hne) ob hov hBn (by omega) (by omega) hg
    obtain ⟨v2,h2,e2,o2,n2,k2,f2⟩:=ih (i + 1) N v1 _ h1 (by omega) (by omega) (λ _=>by rw [f1 _ hbB]; exact hrow hne) o1 k1 (by omega) (by omega) (by rw [sameG_fr (h:=h) λ id hid=>f1 id (by omega)]; exact hg)
    refine ⟨v2,h2,?_,?_,by omega,k2,λ id hid=>by rw [f2 id hid,f1 id hid]⟩
    · rw [loopF_one,e1,e2]
    · rw [List.drop_eq_getElem_cons hlt,List.map_cons,List.append_cons]; exact o2
theorem run10 (u24:E.und 24=some (.slice 30)) {h:H} {v:Value} {rows:List Rw} (a:RL h v rows) (hok:∀ r ∈ rows,r.ok∧r.nm.length≤100) (hlen:rows.length≤40) (hn:h.next≤700000000) (h16:16≤h.next) (hg:sameG glob 0 h=true) (k:Value→H→R) :
    ∃ v' h',p10 E rc v h k=k v' h'∧OL 9 1 h' v' rows.length (rows.map λ r=>strV (lineL r))∧h'.next=h.next + 4 * rows.length∧(∀ p,blkOf v'=some p→h.next≤p)∧(∀ id,id < h.next→hget h' id=hget h id):=by
  cases a with
  | nil =>
    refine ⟨.slice none 0 0,h,?_,.nil,rfl,λ p hp=>(nomatch hp),λ _ _=>rfl⟩
    have hlv:lenV E h 24 (.slice none 0 0)=some (.int .i64 (.ofNat 0)):=by unfold lenV; rw [u24]; rfl
    unfold p10
    rw [joinL_eq,onSl_nil,hlv,bindO_some',joinR_eq,show bigN=999999 + 1 from rfl,loopF_one]
    unfold p10_3
    simp (disch:=omega) only [↓lss_f u.u3,↓joinR_eq,↓onB_ff]
  | row hq hm hc =>
    rename_i b o c e m fz op ro cells
    by_cases hr:rows=[]
    · subst hr
      refine ⟨.slice none 0 0,h,?_,.nil,rfl,λ p hp=>(nomatch hp),λ _ _=>rfl⟩
      unfold p10
      rw [joinL_eq,onSl_sl]
      simp only [List.length_nil]
      rw [joinR_eq,show bigN=999999 + 1 from rfl,loopF_one]
      unfold p10_3
      simp (disch:=omega) only [↓lss_f u.u3,↓joinR_eq,↓onB_ff]
    · obtain ⟨hq,hb⟩:=hq hr
      obtain ⟨v',h',e1,o1,n1,k1,f1⟩:=loop10_3 u q (cc:=c) hok hm hc hlen h16 hb (λ b c=>k b.1 c) rows.length 0 bigN (.slice none 0 0) [] h (by omega) (by unfold bigN; omega) (λ _=>hq) .nil (λ p hp=>(nomatch hp)) (Nat.le_refl _) (by omega) hg
      refine ⟨v',h',?_,o1,n1,k1,f1⟩
      unfold p10
      rw [joinL_eq,onSl_sl]
      dsimp only
      rw [joinR_eq]
      exact e1
end Go.Ev
namespace Go.Ev
open Go F Go.Proofs
set_option maxRecDepth 100000
set_option linter.unusedVariables false
noncomputable def p8_0 (E:Env)(a0:Value)(a1:Value)(k:Value→H→R)(k396:FEnv [4]→H→R)(v393:Value):(FEnv [4,13]→H→R)→FEnv [4,13]→H→R:=λ a b c=>binR (binC E .lss 3 false false) b.2.1 v393 λ d=>@joinR [] (λ _ e=>@joinR [4] (λ f g=>binR (binC E .add 3 false true) b.2.1 (.int .i64 (.ofNat 1)) λ h=>a (f.1,(h,())) g) λ f=>ifB (Nat.ble e.1 1000000000) (letH (H.mk e.1 e.2) λ g=>onNat b.2.1 none λ h=>onSl a0 none λ i j _=>ifB (Nat.ble (Nat.succ h) j) (addOffF i (Nat.mul h 1) λ l=>onPtr l λ m=>onRow (hget g m.1) λ _ n _ _ _ o=>ifB (Nat.ble (Nat.succ m.2) n) (onNat b.2.1 none λ p=>onSl a1 none λ q r _=>ifB (Nat.ble (Nat.succ p) r) (addOffF q (Nat.mul p 1) λ s=>onPtr s λ t=>onRow (hget g t.1) λ _ u _ _ _ v=>ifB (Nat.ble (Nat.succ t.2) u) (binR (binC E .neq 9 false false) (getF o m.2) (getF v t.2) λ w=>@joinR [4] (λ x y=>f (x.1,()) y) λ x=>onB w (x (b.1,()) g) (k (.bool false) g))))))) λ e=>onB d (k396 (b.1,()) c) (e () c)
noncomputable def p8_1 (E:Env)(a0:Value)(a1:Value)(k:Value→H→R)(k442:FEnv [4]→H→R)(n438:Nat):(FEnv [4,13]→H→R)→FEnv [4,13]→H→R:=λ a b c=>binR (binC E .lss 3 false false) b.2.1 (.int .i64 (.ofNat n438)) λ d=>@joinR [] (λ _ e=>@joinR [4] (λ f g=>binR (binC E .add 3 false true) b.2.1 (.int .i64 (.ofNat 1)) λ h=>a (f.1,(h,())) g) λ f=>ifB (Nat.ble e.1 1000000000) (letH (H.mk e.1 e.2) λ g=>onNat b.2.1 none λ h=>onSl a0 none λ i j _=>ifB (Nat.ble (Nat.succ h) j) (addOffF i (Nat.mul h 1) λ l=>onPtr l λ m=>onRow (hget g m.1) λ _ n _ _ _ o=>ifB (Nat.ble (Nat.succ m.2) n) (onNat b.2.1 none λ p=>onSl a1 none λ q r _=>ifB (Nat.ble (Nat.succ p) r) (addOffF q (Nat.mul p 1) λ s=>onPtr s λ t=>onRow (hget g t.1) λ _ u _ _ _ v=>ifB (Nat.ble (Nat.succ t.2) u) (binR (binC E .neq 9 false false) (getF o m.2) (getF v t.2) λ w=>@joinR [4] (λ x y=>f (x.1,()) y) λ x=>onB w (x (b.1,()) g) (k (.bool false) g))))))) λ e=>onB d (k442 (b.1,()) c) (e () c)
noncomputable def p8 (E:Env)(rc:RC)(a0 a1:Value)(h:H)(k:Value→H→R):R:=onSl a0 (bindO (lenV E h 33 a0) λ a=>onSl a1 (bindO (lenV E h 33 a1) λ b=>binR (binC E .neq 3 false false) a b λ c=>@joinR [4] (λ d e=>onSl a0 (bindO (lenV E e 33 a0) λ f=>@joinR [4] (λ _ g=>k (.bool true) g) λ g=>@loopF [4,13] (p8_0 E a0 a1 k g f) bigN (d.1,(.int .i64 (.ofNat 0),())) e) λ _ f _=>@joinR [4] (λ _ g=>k (.bool true) g) λ g=>@loopF [4,13] (p8_1 E a0 a1 k g f) bigN (d.1,(.int .i64 (.ofNat 0),())) e) λ d=>onB c (d (.bool false,()) h) (k (.bool false) h)) λ _ b _=>binR (binC E .neq 3 false false) a (.int .i64 (.ofNat b)) λ c=>@joinR [4] (λ d e=>onSl a0 (bindO (lenV E e 33 a0) λ f=>@joinR [4] (λ _ g=>k (.bool true) g) λ g=>@loopF [4,13] (p8_0 E a0 a1 k g f) bigN (d.1,(.int .i64 (.ofNat 0),())) e) λ _ f _=>@joinR [4] (λ _ g=>k (.bool true) g) λ g=>@loopF [4,13] (p8_1 E a0 a1 k g f) bigN (d.1,(.int .i64 (.ofNat 0),())) e) λ d=>onB c (d (.bool false,()) h) (k (.bool false) h)) λ _ a _=>onSl a1 (bindO (lenV E h 33 a1) λ b=>binR (binC E .neq 3 false false) (.int .i64 (.ofNat a)) b λ c=>@joinR [4] (λ d e=>onSl a0 (bindO (lenV E e 33 a0) λ f=>@joinR [4] (λ _ g=>k (.bool true) g) λ g=>@loopF [4,13] (p8_0 E a0 a1 k g f) bigN (d.1,(.int .i64 (.ofNat 0),())) e) λ _ f _=>@joinR [4] (λ _ g=>k (.bool true) g) λ g=>@loopF [4,13] (p8_1 E a0 a1 k g f) bigN (d.1,(.int .i64 (.ofNat 0),())) e) λ d=>onB c (d (.bool false,()) h) (k (.bool false) h)) λ _ b _=>binR (binC E .neq 3 false false) (.int .i64 (.ofNat a)) (.int .i64 (.ofNat b)) λ c=>@joinR [4] (λ d e=>onSl a0 (bindO (lenV E e 33 a0) λ f=>@joinR [4] (λ _ g=>k (.bool true) g) λ g=>@loopF [4,13] (p8_0 E a0 a1 k g f) bigN (d.1,(.int .i64 (.ofNat 0),())) e) λ _ f _=>@joinR [4] (λ _ g=>k (.bool true) g) λ g=>@loopF [4,13] (p8_1 E a0 a1 k g f) bigN (d.1,(.int .i64 (.ofNat 0),())) e) λ d=>onB c (d (.bool false,()) h) (k (.bool false) h)
theorem p8_eq (t:ExtT)(rc:RC)(a0 a1:Value)(h:H)(k:Value→H→R):(funB (EX t) KK 8).run rc [a0,a1] h k = p8 (EX t) rc a0 a1 h k:=by kernel_rfl
end Go.Ev
namespace Go.Ev
open Go F
set_option maxRecDepth 100000
set_option linter.unusedVariables false
set_option linter.unusedSimpArgs false
theorem ne_nil_of_lt {α:Type} {i:Nat} {l:List α} (h:i < l.length):l ≠ []:=λ e=>by rw [e] at h; exact Nat.not_lt_zero _ h
structure UE (E:Env):Prop where
  u3:E.und 3=some (.int .i64)
  u9:E.und 9=some .string
  u33:E.und 33=some (.slice 9)
  s9:E.size 9=some 1
inductive SL (h:H):Value→List (List UInt8)→Prop
  | nil:SL h (.slice none 0 0) []
  | row {b o c e m fz:Nat} {op ro:Bool} {cells:T Value} {l:List (List UInt8)} (hq:l ≠ []→hget h b=.row e m op ro fz cells) (hm:o + l.length≤m)
      (hc:∀ i (hi:i < l.length),getF cells (o + i)=.string ⟨⟨l[i]⟩⟩) (hcap:l.length≤c / 2) (hl:l.length≤900000):SL h (.slice (some ⟨b,o,none⟩) l.length c) l
variable {E : Env} (u : UE E)
include u
theorem str_neq {cx cy:Bool} {a b:List UInt8} {k:Value→R}:binR (binC E .neq 9 cx cy) (.string ⟨⟨a⟩⟩) (.string ⟨⟨b⟩⟩) k=k (.bool (!(a == b))):=by
  have hb:bin E .neq 9 cx cy (.string ⟨⟨a⟩⟩) (.string ⟨⟨b⟩⟩)=some (.bool (!(a == b))):=by
    simp only [bin,eqBytes_eq]
  unfold binR binC; rw [u.u9]
  show bindO (bin E .neq 9 cx cy (.string ⟨⟨a⟩⟩) (.string ⟨⟨b⟩⟩)) k=_
  rw [hb]; rfl
theorem len_nil (h:H):lenV E h 33 (.slice none 0 0)=some (.int .i64 (.ofNat 0)):=by
  unfold lenV; rw [u.u33]; rfl
omit u in
theorem onSl_nil (n c:Nat) (s:R) (k:Addr→Nat→Nat→R):onSl (.slice none n c) s k=s:=rfl
theorem loop8 {h:H} {b o c e m fz b' o' c' e' m' fz':Nat} {op ro op' ro':Bool} {cells cells':T Value} {l l':List (List UInt8)} (hq:l ≠ []→hget h b=.row e m op ro fz cells) (hm:o + l.length≤m)
    (hc:∀ i (hi:i < l.length),getF cells (o + i)=.string ⟨⟨l[i]⟩⟩) (hl:l.length≤900000)
    (hq':l' ≠ []→hget h b'=.row e' m' op' ro' fz' cells') (hm':o' + l'.length≤m') (hc':∀ i (hi:i < l'.length),getF cells' (o' + i)=.string ⟨⟨l'[i]⟩⟩) (hll:l.length=l'.length) (hn:h.1≤1000000000) (k:Value→H→R) :
    ∀ (d i N:Nat) (x:Value),i + d=l.length→d < N →
      loopF (ks:=[4,13]) (p8_1 E (.slice (some ⟨b,o,none⟩) l.length c) (.slice (some ⟨b',o',none⟩) l'.length c') k (λ _ g=>k (.bool true) g) l.length) N (x,(.int .i64 (.ofNat i),())) h=k (.bool (decide (l.drop i=l'.drop i))) h:=by
  have u3:=u.u3
  intro d
  induction d with
  | zero =>
    intro i N x hi hN
    obtain ⟨N,rfl⟩:∃ M,N=M + 1:=⟨N - 1,by omega⟩
    rw [loopF_one]
    unfold p8_1
    simp (disch:=omega) only [↓lss_f u3,↓joinR_eq,↓onB_ff]
    rw [List.drop_eq_nil_of_le (by omega),List.drop_eq_nil_of_le (by omega)]
    rfl
  | succ d ih =>
    intro i N x hi hN
    obtain ⟨N,rfl⟩:∃ M,N=M + 1:=⟨N - 1,by omega⟩
    have hlt:i < l.length:=by omega
    have hqr:∀ k,onRow (hget h b) k=k e m op ro fz cells:=λ k=>by rw [hq (ne_nil_of_lt hlt)]; rfl
    have hlt':i < l'.length:=by omega
    have hqr':∀ k,onRow (hget h b') k=k e' m' op' ro' fz' cells':=λ k=>by rw [hq' (ne_nil_of_lt hlt')]; rfl
    have hget:=hc i hlt
    have hget':=hc' i hlt'
    have key:=ih (i + 1) N x (by omega) (by omega)
    rw [loopF_one]
    generalize loopF (ks:=[4,13]) (p8_1 E (.slice (some ⟨b,o,none⟩) l.length c) (.slice (some ⟨b',o',none⟩) l'.length c') k (λ _ g=>k (.bool true) g) l.length) N=L at key ⊢
    unfold p8_1
    simp (disch:=first | omega | (simp only [Nat.add_eq,Nat.mul_eq,Nat.succ_eq_add_one]; omega)) only [↓lss_t u3,↓joinR_eq,↓onB_tt,↓onNat_int,↓onSl_sl,↓ifB_ble,↓letH_eq,↓addOffF_eq,↓onPtr_ptr,↓hqr,↓hqr']
    rw [show i.mul 1=i from Nat.mul_one i,hget,hget',str_neq u]
    have hd:l.drop i=l[i] :: l.drop (i + 1):=List.drop_eq_getElem_cons hlt
    have hd':l'.drop i=l'[i] :: l'.drop (i + 1):=List.drop_eq_getElem_cons hlt'
    rw [hd,hd']
    by_cases q:l[i]=l'[i]
    · have:(!(l[i] == l'[i]))=false:=by rw [q,beq_self_eq_true]; rfl
      rw [this]
      simp (disch:=first | omega | (simp only [Nat.add_eq,Nat.mul_eq,Nat.succ_eq_add_one]; omega)) only [↓onB_ff,↓add_i64 u3]
      refine key.trans ?_
      have hiff:∀ (a b:List UInt8) (A B:List (List UInt8)),a=b→decide (a :: A=b :: B)=decide (A=B):=λ a b A B e=>by subst e; simp
      rw [hiff _ _ _ _ q]
    · have:(!(l[i] == l'[i]))=true:=by rw [beq_eq_false_iff_ne.2 q]; rfl
      rw [this]
      have h2:decide (l[i] :: l.drop (i + 1)=l'[i] :: l'.drop (i + 1))=false:=by
        rw [decide_eq_false_iff_not]; intro e; injection e with e1 _; exact q e1
      rw [h2]
      rfl
theorem run8 {rc:RC} {h:H} {v w:Value} {l l':List (List UInt8)} (s:SL h v l) (s':SL h w l') (hn:h.1≤1000000000) (k:Value→H→R):p8 E rc v w h k=k (.bool (decide (l=l'))) h:=by
  have u3:=u.u3
  have hbig:bigN=999999 + 1:=rfl
  cases s with
  | nil =>
    cases s' with
    | nil =>
      unfold p8
      rw [onSl_nil,len_nil u]
      simp (disch:=omega) only [↓bindO_some',↓onSl_nil,len_nil u,↓neq_f u3,↓joinR_eq,↓onB_ff]
      rw [hbig,loopF_one]
      unfold p8_0
      simp (disch:=omega) only [↓lss_f u3,↓joinR_eq,↓onB_ff]
      rfl
    | row hq' hm' hc' hcap' hl' =>
      unfold p8
      rw [onSl_nil,len_nil u]
      by_cases q:l'.length=0
      · have:l'=[]:=List.eq_nil_of_length_eq_zero q
        subst this
        simp (disch:=first | omega | rfl) only [↓bindO_some',↓onSl_nil,↓onSl_sl,len_nil u,↓neq_f u3,↓joinR_eq,↓onB_ff]
        rw [hbig,loopF_one]
        unfold p8_0
        simp (disch:=omega) only [↓lss_f u3,↓joinR_eq,↓onB_ff]
        rfl
      · simp (disch:=omega) only [↓bindO_some',↓onSl_nil,↓onSl_sl,len_nil u,↓neq_t u3,↓joinR_eq,↓onB_tt]
        have:decide (([]:List (List UInt8))=l')=false:=by
          rw [decide_eq_false_iff_not]; intro e; rw [← e] at q; exact q rfl
        rw [this]
  | row hq hm hc hcap hl =>
    rename_i b o c e m fz op ro cells
    cases s' with
    | nil =>
      unfold p8
      by_cases q:l.length=0
      · have:l=[]:=List.eq_nil_of_length_eq_zero q
        subst this
        simp (disch:=first | omega | rfl) only [↓bindO_some',↓onSl_nil,↓onSl_sl,len_nil u,↓neq_f u3,↓joinR_eq,↓onB_ff]
        rw [hbig,loopF_one]
        unfold p8_1
        simp (disch:=first | omega | exact Nat.le_refl _) only [↓lss_f u3,↓joinR_eq,↓onB_ff]
        rfl
      · simp (disch:=omega) only [↓bindO_some',↓onSl_nil,↓onSl_sl,len_nil u,↓neq_t u3,↓joinR_eq,↓onB_tt]
        have:decide (l=([]:List (List UInt8)))=false:=by
          rw [decide_eq_false_iff_not]; intro e; rw [e] at q; exact q rfl
        rw [this]
    | row hq' hm' hc' hcap' hl' =>
      rename_i b' o' c' e' m' fz' op' ro' cells'
      unfold p8
      by_cases q:l.length=l'.length
      · simp (disch:=omega) only [↓onSl_sl,↓neq_f u3,↓joinR_eq,↓onB_ff]
        have:=loop8 u (c:=c) (c':=c') hq hm hc hl hq' hm' hc' q hn k l.length 0 bigN (.bool false) (by omega) (by unfold bigN; omega)
        rw [List.drop_zero,List.drop_zero] at this
        exact this
      · simp (disch:=omega) only [↓onSl_sl,↓neq_t u3,↓joinR_eq,↓onB_tt]
        have:decide (l=l')=false:=by
          rw [decide_eq_false_iff_not]; intro e; rw [e] at q; exact q rfl
        rw [this]
end Go.Ev
namespace Go.Ev
open Go F Go.Proofs
set_option linter.unusedVariables false
set_option linter.unusedSimpArgs false
set_option maxRecDepth 100000
structure U7 (E:Env):Prop where
  b30:∀ r:Rw,buildV E 30 [(0,.int .u64 (.ofNat r.hd)),(1,.int .i64 r.dp),(2,.int .u64 (.ofNat r.kd)),(3,.string ⟨⟨r.nm⟩⟩),(4,.int .i64 r.a),(5,.int .i64 r.b),(6,.int .i64 r.c),(7,.int .i64 r.d),(8,.int .i64 r.e)]=some (.agg ⟨rowC r⟩)
  u30:∃ fs,E.und 30=some (.struct fs)
  z30:E.size 30=some 9
  u24:E.und 24=some (.slice 30)
  u33:E.und 33=some (.slice 9)
  s9:E.size 9=some 1
variable {E : Env} (u : UW E) (w : U7 E) {rc : RC}
include w
theorem run7 {h:H} (r:Rw) (hn:h.next≤800000000) (k:Value→H→R):∃ h',p7 E rc (.agg ⟨rowC r⟩) h k=k (.agg ⟨rowC r⟩) h'∧h'.next=h.next + 2∧∀ id,id < h.next→hget h' id=hget h id:=by
  obtain ⟨x1,hx1⟩:∃ x1,x1=hpush h (.row 28 9 false false 0 (T.ofList unk (rowC r))):=⟨_,rfl⟩
  have nx1:x1.1=h.next + 1:=by rw [hx1]; rfl
  obtain ⟨x2,hx2⟩:∃ x2,x2=hpush x1 (.row 30 9 false false 0 (T.ofList unk zero9)):=⟨_,rfl⟩
  have nx2:x2.1=h.next + 2:=by rw [hx2]; show x1.1 + 1=_; omega
  have g1:hget x2 h.next=.row 28 9 false false 0 (T.ofList unk (rowC r)):=by rw [hx2,get_push_ne _ _ (by show x1.1≤_; omega) (by show _ < x1.1; omega),hx1,get_push_eq _ _ (by omega)]
  have g2:hget x2 x1.1=.row 30 9 false false 0 (T.ofList unk zero9):=by rw [hx2]; exact get_push_eq _ _ (by show x1.1≤_; omega)
  have g3:hget (hset x2 x1.1 (.row 30 9 false false 0 (rowT r))) x1.1=.row 30 9 false false 0 (rowT r):=get_set_eq _ _ _ (by omega)
  obtain ⟨fs,hfs⟩:=w.u30
  have hload:loadV E (hset x2 x1.1 (.row 30 9 false false 0 (rowT r))) 30 (Addr.mk x1.1 0 none)=some (.agg ⟨rowC r⟩):=by
    rw [hget_eq] at g3
    unfold loadV
    rw [hfs,w.z30]
    simp only [g3,isAggD,cond_true]
    rfl
  refine ⟨hset x2 x1.1 (.row 30 9 false false 0 (rowT r)),?_,nx2,λ id hid=>by rw [get_set _ _ _ _ (by omega),if_neg (by omega),hx2,get_push_ne _ _ (by show x1.1≤_; omega) (by show _ < x1.1; omega),hx1,get_push_ne _ _ (by omega) hid]⟩
  have ha9:allF (λ x=>cell1F x) (rowC r)=true:=rfl
  have hl9:lenF (rowC r)=9:=rfl
  have hnb:notB false=true:=rfl
  have hr1:∀ k,onRow (hget x2 h.next) k=k 28 9 false false 0 (T.ofList unk (rowC r)):=λ k=>by rw [g1]; rfl
  have hr2:∀ k,onRow (hget x2 x1.1) k=k 30 9 false false 0 (T.ofList unk zero9):=λ k=>by rw [g2]; rfl
  unfold p7
  rw [onCells_agg,ha9,hl9]
  simp (disch:=omega) only [↓ifB_true,↓ifB_ble,↓letH_eq]
  rw [show hpush h (.row 28 9 false false 0 (T.ofList unk (rowC r)))=x1 from hx1.symm]
  simp (disch:=omega) only [↓ifB_ble,↓letH_eq]
  rw [show hpush x1 (.row 30 9 false false 0 (T.ofList unk [.int .u64 (.ofNat 0),.int .i64 (.ofNat 0),.int .u64 (.ofNat 0),.string (ByteArray.mk #[]),.int .i64 (.ofNat 0),.int .i64 (.ofNat 0),.int .i64 (.ofNat 0),.int .i64 (.ofNat 0),.int .i64 (.ofNat 0)]))=x2 from hx2.symm]
  simp (disch:=omega) only [↓ifB_ble,↓hr1,↓hr2]
  have hb:buildV E 30 [(0,getF (T.ofList unk (rowC r)) 0),(1,getF (T.ofList unk (rowC r)) 1),(2,getF (T.ofList unk (rowC r)) 2),(3,getF (T.ofList unk (rowC r)) 3),(4,getF (T.ofList unk (rowC r)) 4),(5,getF (T.ofList unk (rowC r)) 5),(6,getF (T.ofList unk (rowC r)) 6),(7,getF (T.ofList unk (rowC r)) 7),(8,getF (T.ofList unk (rowC r)) 8)]=some (.agg ⟨rowC r⟩):=w.b30 r
  rw [hb,bindO_some',onCells_agg,hnb,hl9,ha9]
  simp only [ifB_true,Nat.beq_refl,letH_eq]
  rw [show putF (T.ofList unk zero9) 0 (rowC r)=rowT r from rfl,hload,bindO_some']
def flat (rows:List Rw):List Value:=(rows.map rowC).flatten
omit w in
theorem flat_len:∀ rows:List Rw,(flat rows).length=rows.length * 9
  | []=>rfl
  | r :: l=>by
    show (rowC r ++ flat l).length=_
    rw [List.length_append,flat_len l,List.length_cons]
    show 9 + l.length * 9=_
    omega
omit w in
theorem flatR_get:∀ (rows:List Rw) (i:Nat) (hi:i < rows.length) (j:Nat),j < 9→(flat rows).getD (9 * i + j) unk=(rowC rows[i]).getD j unk
  | r :: l,0,_,j,hj=>by
    show (rowC r ++ flat l).getD (9 * 0 + j) unk=(rowC r).getD j unk
    rw [List.getD_eq_getElem?_getD,List.getD_eq_getElem?_getD,Nat.mul_zero,Nat.zero_add,List.getElem?_append_left (show j < (rowC r).length from hj)]
  | r :: l,i + 1,hi,j,hj=>by
    show (rowC r ++ flat l).getD (9 * (i + 1) + j) unk=(rowC (l[i]'(Nat.lt_of_succ_lt_succ hi))).getD j unk
    rw [← flatR_get l i (Nat.lt_of_succ_lt_succ hi) j hj,List.getD_eq_getElem?_getD,List.getD_eq_getElem?_getD,List.getElem?_append_right (show 9≤_ by omega)]
    congr 2
    show 9 * (i + 1) + j - 9=_
    omega
omit w in
theorem RL.of_ol {h:H} {v:Value} {rows:List Rw} (o:OL 30 9 h v rows.length (flat rows)):RL h v rows:=by
  generalize hn:rows.length=n at o
  generalize hL:flat rows=L at o
  cases o with
  | nil =>
    have:rows=[]:=List.eq_nil_of_length_eq_zero hn
    subst this; exact .nil
  | row hb hq hl hc hp =>
    subst hn hL
    refine .row (m:=rows.length * 9) (λ _=>⟨hq,hb⟩) (by omega) λ i hi=>?_
    have hg:∀ j,j < 9→getF _ (0 + 9 * i + j)=(rowC rows[i]).getD j unk:=λ j hj=>by
      rw [Nat.zero_add,hc (9 * i + j) (by rw [flat_len]; omega),flatR_get rows i hi j hj]
    show [getF _ (0 + 9 * i),getF _ (0 + 9 * i + 1),getF _ (0 + 9 * i + 2),getF _ (0 + 9 * i + 3),getF _ (0 + 9 * i + 4),getF _ (0 + 9 * i + 5),getF _ (0 + 9 * i + 6),getF _ (0 + 9 * i + 7),getF _ (0 + 9 * i + 8)]=_
    rw [show getF _ (0 + 9 * i)=_ from hg 0 (by omega),hg 1 (by omega),hg 2 (by omega),hg 3 (by omega),hg 4 (by omega),hg 5 (by omega),hg 6 (by omega),hg 7 (by omega),hg 8 (by omega)]
    rfl
omit w in
theorem SL.of_ol {h:H} {v:Value} {l:List (List UInt8)} (o:OL 9 1 h v l.length (l.map strV)) (hl:l.length≤900000):SL h v l:=by
  generalize hn:l.length=n at o
  generalize hL:l.map strV=L at o
  cases o with
  | nil =>
    have:l=[]:=List.eq_nil_of_length_eq_zero hn
    subst this; exact .nil
  | row hb hq hlen hc hp =>
    rename_i op cells
    subst hn hL
    refine .row (o:=0) (m:=l.length * 1) (λ _=>hq) (by omega) (λ i hi=>?_) (by cases op <;> simp [Bool.toNat] <;> omega) hl
    rw [Nat.zero_add,hc i (by rw [List.length_map]; exact hi),List.getD_eq_getElem?_getD,List.getElem?_map,List.getElem?_eq_getElem hi]
    rfl
include u
omit w in
theorem loop3_0 (h7:∀ (h:H) (r:Rw),h.next≤800000000→∀ k X,rc 7 [.agg ⟨rowC r⟩] h k=X→∃ h',X=k (.agg ⟨rowC r⟩) h'∧h'.next=h.next + 2∧∀ id,id < h.next→hget h' id=hget h id) {b o cc e m fz B:Nat} {op ro:Bool} {cells:T Value} {rows:List Rw} (hm:o + 9 * rows.length≤m) (hc:∀ i (hi:i < rows.length),cellsF cells 9 (o + 9 * i)=rowC rows[i])
    (hlen:rows.length≤40) (hB:16≤B) (hbB:b < B) (k:Value→H→R) (kk:FEnv [2,3]→H→R) (x:Value) :
    ∀ (d i N:Nat) (v:Value) (h:H),i + d=rows.length→d < N→(rows ≠ []→hget h b=.row e m op ro fz cells)→OL 30 9 h v i (flat (rows.take i))→(∀ r ∈ rows.take i,r.nm.length≤100)→(∀ p,blkOf v=some p→B≤p)→B≤h.next→h.next + 5 * d≤800000000 →
      ∃ h',(∃ X,loopF (ks:=[2,3,13]) (p3_0 E (.int .i64 (.ofNat rows.length)) (.slice (some ⟨b,o,none⟩) rows.length cc) rc k kk) N (x,(v,(.int .i64 (.ofNat i),()))) h=X∧(X=k (.bool true) h' ∨ ((∀ r ∈ rows,r.nm.length≤100)∧∃ v',X=kk (x,(v',())) h'∧OL 30 9 h' v' rows.length (flat rows)))) ∧
        h'.next≤h.next + 5 * d∧B≤h'.next∧(∀ id,id < B→hget h' id=hget h id):=by
  have u3:=u.u3
  obtain ⟨inf,z,T1⟩:=u.l24
  intro d
  induction d with
  | zero =>
    intro i N v h hi hN hrow ob hnm hov hBn hn
    obtain ⟨N,rfl⟩:∃ M,N=M + 1:=⟨N - 1,by omega⟩
    obtain rfl:i=rows.length:=by omega
    rw [List.take_length] at ob hnm
    refine ⟨h,⟨_,rfl,.inr ⟨hnm,v,?_,ob⟩⟩,Nat.le_refl _,hBn,λ _ _=>rfl⟩
    rw [loopF_one]
    unfold p3_0
    rw [lss_f u3 (Nat.le_refl _),joinR_eq]
    rfl
  | succ d ih =>
    intro i N v h hi hN hrow ob hnm hov hBn hn
    obtain ⟨N,rfl⟩:∃ M,N=M + 1:=⟨N - 1,by omega⟩
    have hlt:i < rows.length:=by omega
    have hne:rows ≠ []:=λ e=>by rw [e] at hlt; exact Nat.not_lt_zero _ hlt
    have hrow':=hrow hne
    have hqr:∀ k,onRow (hget h b) k=k e m op ro fz cells:=λ k=>by rw [hrow']; rfl
    have hci:=hc i hlt
    have htake:rows.take (i + 1)=rows.take i ++ [rows[i]]:=List.take_append_getElem hlt ▸ rfl
    have h9:Nat.mul i 9=9 * i:=Nat.mul_comm i 9
    obtain ⟨x1,hx1⟩:∃ x1,x1=hset (hpush h (.row 28 9 false false 0 (T.ofList unk zero9))) h.next (.row 28 9 false false 0 (rowT rows[i])):=⟨_,rfl⟩
    have nx1:x1.1=h.next + 1:=by rw [hx1]; rfl
    have gx1:hget x1 h.next=.row 28 9 false false 0 (rowT rows[i]):=by rw [hx1]; exact get_set_eq _ _ _ (by omega)
    have ox1:∀ id,id < h.next→hget x1 id=hget h id:=λ id hid=>by rw [hx1,get_set _ _ _ _ (by omega),if_neg (by omega),get_push_ne _ _ (by omega) hid]
    obtain ⟨X,e⟩:∃ X,loopF (ks:=[2,3,13]) (p3_0 E (.int .i64 (.ofNat rows.length)) (.slice (some ⟨b,o,none⟩) rows.length cc) rc k kk) (N + 1) (x,(v,(.int .i64 (.ofNat i),()))) h=X:=⟨_,rfl⟩
    rw [e]
    rw [loopF_one] at e
    generalize hLL:loopF (ks:=[2,3,13]) (p3_0 E (.int .i64 (.ofNat rows.length)) (.slice (some ⟨b,o,none⟩) rows.length cc) rc k kk) N=LL at e
    unfold p3_0 at e
    generalize hr:rows[i]=r at hci hx1 gx1 htake
    have hl9:lenF (rowC r)=9:=rfl
    have ha9:allF (λ x=>cell1F x) (rowC r)=true:=rfl
    have hnb:notB false=true:=rfl
    obtain ⟨t0,t1,t2,t3,t4,t5,t6,t7,t8⟩:=rowT_get r
    have hx1r:∀ k,onRow (hget x1 h.next) k=k 28 9 false false 0 (rowT r):=λ k=>by rw [gx1]; rfl
    rw [lss_t u3 hlt,joinR_eq] at e
    simp only [onB_tt] at e
    rw [joinR_eq] at e
    simp (disch:=first | omega | (simp only [Nat.add_eq,Nat.mul_eq,Nat.succ_eq_add_one]; omega)) only [↓onNat_int,↓onSl_sl,↓ifB_ble,↓addOffF_eq,↓onPtr_ptr,↓hqr] at e
    rw [h9,hci,hl9,ha9] at e
    simp (disch:=first | omega | (simp only [Nat.add_eq,Nat.mul_eq,Nat.succ_eq_add_one]; omega)) only [↓ifB_ble,↓letH_eq] at e
    rw [show hget (hpush h (.row 28 9 false false 0 (T.ofList unk [.int .u64 (.ofNat 0),.int .i64 (.ofNat 0),.int .u64 (.ofNat 0),.string (ByteArray.mk #[]),.int .i64 (.ofNat 0),.int .i64 (.ofNat 0),.int .i64 (.ofNat 0),.int .i64 (.ofNat 0),.int .i64 (.ofNat 0)]))) h.1=.row 28 9 false false 0 (T.ofList unk zero9) from get_push_eq _ _ (by omega)] at e
    simp only [onRow_row,hnb,ifB_true,Nat.beq_refl,letH_eq] at e
    simp (disch:=first | omega | (simp only [Nat.add_eq,Nat.mul_eq,Nat.succ_eq_add_one]; omega)) only [↓ifB_ble] at e
    rw [show hset (hpush h (.row 28 9 false false 0 (T.ofList unk [.int .u64 (.ofNat 0),.int .i64 (.ofNat 0),.int .u64 (.ofNat 0),.string (ByteArray.mk #[]),.int .i64 (.ofNat 0),.int .i64 (.ofNat 0),.int .i64 (.ofNat 0),.int .i64 (.ofNat 0),.int .i64 (.ofNat 0)]))) h.1 (.row 28 9 false false 0 (putF (T.ofList unk zero9) 0 (rowC r)))=x1 from hx1.symm] at e
    have hls:∀ k,bindO (lenV E x1 9 (.string ⟨⟨r.nm⟩⟩)) k=k (.int .i64 (.ofNat r.nm.length)):=λ k=>by unfold lenV; rw [u.u9]; rfl
    simp (disch:=first | omega | (simp only [Nat.add_eq,Nat.mul_eq,Nat.succ_eq_add_one]; omega)) only [↓hx1r,↓ifB_ble,↓t3,↓hls] at e
    have k1:∀ id,id < B→hget x1 id=hget h id:=λ id hid=>ox1 id (by omega)
    by_cases hz:100 < r.nm.length
    · rw [gtr_t u3 hz] at e
      simp only [↓joinR_eq,↓onB_tt] at e
      exact ⟨x1,⟨_,rfl,.inl e.symm⟩,by show x1.1≤_; omega,by show _≤x1.1; omega,k1⟩
    · rw [gtr_f u3 (by omega),joinR_eq] at e
      simp (disch:=first | omega | (simp only [Nat.add_eq,Nat.mul_eq,Nat.succ_eq_add_one]; omega)) only [↓onB_ff,↓hx1r,↓ifB_ble] at e
      rw [show cellsF (rowT r) 9 0=rowC r from rfl] at e
      obtain ⟨x2,e2,n2,f2⟩:=h7 x1 r (by show x1.1≤_; omega) _ X e
      clear e
      have hfill9:fillV (λ a9=>some (Nat.mul a9 9,9)) (List.flatten (List.replicate 1 (cellsOfV (.agg (@List.toArray Value [.int .u64 (.ofNat 0),.int .i64 (.ofNat 0),.int .u64 (.ofNat 0),.string (ByteArray.mk #[]),.int .i64 (.ofNat 0),.int .i64 (.ofNat 0),.int .i64 (.ofNat 0),.int .i64 (.ofNat 0),.int .i64 (.ofNat 0)]))))) [(0,.agg ⟨rowC r⟩)]=some (rowC r):=rfl
      rw [hfill9,orec_some none] at e2
      have n2':x2.next=h.next + 3:=by rw [n2]; show x1.1 + 2=_; omega
      simp (disch:=omega) only [↓ifB_ble,letH_eq] at e2
      have f2':∀ id,id < h.next→hget x2 id=hget h id:=λ id hid=>by rw [f2 id (by show _ < x1.1; omega),ox1 id hid]
      obtain ⟨v3,x3,e3,o3,n3,b3,f3⟩:=append1 T1 (ob.keep (h':=x2) (by omega) (λ p _ hp=>f2' p hp)) (xs:=rowC r) rfl rfl (by omega) (by omega)
      rw [e3] at e2
      simp (disch:=omega) only [↓bindP_some',↓add_i64 u3] at e2
      have k3:∀ id,id < B→hget x3 id=hget h id:=λ id hid=>by rw [f3 id (by omega) (λ e=>by have:=hov _ e; omega),f2' id (by omega)]
      obtain ⟨h',⟨X',e4,hX⟩,n4,b4,f4⟩:=ih (i + 1) N v3 x3 (by omega) (by omega) (λ _=>by rw [k3 _ hbB]; exact hrow') (by rw [htake]; unfold flat at o3 ⊢; rw [List.map_append,List.flatten_append]; simpa using o3)
        (λ s hs=>by
          rw [htake,List.mem_append,List.mem_singleton] at hs
          rcases hs with hs | rfl
          · exact hnm s hs
          · omega) (λ p hp=>by rw [b3] at hp; cases hp; omega) (by omega) (by omega)
      rw [hLL] at e4
      refine ⟨h',⟨X',e2.trans e4,hX⟩,by omega,b4,λ id hid=>by rw [f4 id hid,k3 id hid]⟩
omit w in
theorem run3 (q:RcU E rc) (h6:∀ h,sameG glob 0 h=true→∀ k,rc 6 [] h k=k (.bool true) h)
    (h7:∀ (h:H) (r:Rw),h.next≤800000000→∀ k X,rc 7 [.agg ⟨rowC r⟩] h k=X→∃ h',X=k (.agg ⟨rowC r⟩) h'∧h'.next=h.next + 2∧∀ id,id < h.next→hget h' id=hget h id)
    (h8:∀ {h:H} {v w:Value} {l l':List (List UInt8)},SL h v l→SL h w l'→h.next≤1000000000→∀ k,rc 8 [v,w] h k=k (.bool (decide (l=l'))) h)
    (h9:∀ {h:H} {v:Value} {rows:List Rw},RL h v rows→(∀ r ∈ rows,r.ok∧r.nm.length≤100)→rows.length≤40→h.next≤700000000→16≤h.next→sameG glob 0 h=true→∀ k X,rc 9 [v] h k=X →
      ∃ v' h',X=k v' h'∧OL 9 1 h' v' rows.length (rows.map λ r=>strV (lineL r))∧h'.next=h.next + 15 * rows.length∧(∀ p,blkOf v'=some p→h.next≤p)∧(∀ id,id < h.next→hget h' id=hget h id))
    (h10:∀ {h:H} {v:Value} {rows:List Rw},RL h v rows→(∀ r ∈ rows,r.ok∧r.nm.length≤100)→rows.length≤40→h.next≤700000000→16≤h.next→sameG glob 0 h=true→∀ k X,rc 10 [v] h k=X →
      ∃ v' h',X=k v' h'∧OL 9 1 h' v' rows.length (rows.map λ r=>strV (lineL r))∧h'.next=h.next + 4 * rows.length∧(∀ p,blkOf v'=some p→h.next≤p)∧(∀ id,id < h.next→hget h' id=hget h id))
    {h:H} {v:Value} {rows:List Rw} (hlen:∀ (h':H) (X:Value→R),onSl v (bindO (lenV E h' 22 v) X) (λ _ n _=>X (.int .i64 (.ofNat n)))=X (.int .i64 (.ofNat rows.length))) (a:rows.length≤40→RL h v rows) (hok:∀ r ∈ rows,r.ok)
    (hn:h.next≤600000000) (h16:16≤h.next) (hg:sameG glob 0 h=true) (k:Value→H→R) :
    ∃ h',p3 E rc v h k=k (.bool true) h':=by
  have u3:=u.u3
  obtain ⟨X,e⟩:∃ X,p3 E rc v h k=X:=⟨_,rfl⟩
  rw [e]
  unfold p3 at e
  rw [h6 h hg,onB_tt,joinR_eq] at e
  unfold p3_1 at e
  dsimp only at e
  rw [joinL_eq] at e
  dsimp only at e
  rw [hlen] at e
  by_cases h40:40 < rows.length
  · rw [gtr_t u3 h40,joinR_eq] at e
    simp only [onB_tt] at e
    exact ⟨h,e.symm⟩
  · rw [gtr_f u3 (by omega),joinR_eq] at e
    simp only [onB_ff] at e
    rw [joinL_eq] at e
    dsimp only at e
    rw [hlen] at e
    rw [joinR_eq] at e
    have ha:=a (by omega)
    have hloop:∀ (kk:FEnv [2,3]→H→R) (X:R),loopF (ks:=[2,3,13]) (p3_0 E (.int .i64 (.ofNat rows.length)) v rc k kk) bigN (.bool false,(.slice none 0 0,(.int .i64 (.ofNat 0),()))) h=X →
        ∃ h',(X=k (.bool true) h' ∨ ((∀ r ∈ rows,r.nm.length≤100)∧∃ v',X=kk (.bool false,(v',())) h'∧OL 30 9 h' v' rows.length (flat rows)))∧h'.next≤h.next + 200∧h.next≤h'.next∧(∀ id,id < h.next→hget h' id=hget h id):=by
      intro kk X e
      by_cases hr:rows=[]
      · subst hr
        rw [show bigN=999999 + 1 from rfl,loopF_one] at e
        unfold p3_0 at e
        simp only [List.length_nil] at e
        simp (disch:=omega) only [↓lss_f u3,↓joinR_eq,↓onB_ff] at e
        exact ⟨h,.inr ⟨λ r hr=>(nomatch hr),_,e.symm,.nil⟩,by omega,Nat.le_refl _,λ _ _=>rfl⟩
      · cases ha with
        | nil=>exact absurd rfl hr
        | row hq hm hc =>
          obtain ⟨hq,hb⟩:=hq hr
          obtain ⟨h',⟨X',e1,hX⟩,n1,b1,f1⟩:=loop3_0 u h7 hm hc (by omega) h16 hb k kk (.bool false) rows.length 0 bigN (.slice none 0 0) h (by omega) (by unfold bigN; omega) (λ _=>hq) .nil (λ r hr=>(nomatch hr)) (λ p hp=>(nomatch hp)) (Nat.le_refl _) (by omega)
          have:X=X':=e.symm.trans e1
          subst this
          exact ⟨h',hX,by omega,b1,f1⟩
    obtain ⟨h1,hX,n1,b1,f1⟩:=hloop _ X e
    rcases hX with hX | ⟨hnm,v1,hX,o1⟩
    · exact ⟨h1,hX⟩
    · have hok':∀ r ∈ rows,r.ok∧r.nm.length≤100:=λ r hr=>⟨hok r hr,hnm r hr⟩
      have hg1:sameG glob 0 h1=true:=by rw [sameG_fr (h:=h) λ id hid=>f1 id (by omega)]; exact hg
      have ha1:RL h1 v rows:=by
        cases ha with
        | nil=>exact .nil
        | row hq hm hc=>exact .row (λ hr=>⟨by rw [f1 _ (hq hr).2]; exact (hq hr).1,by have:=(hq hr).2; omega⟩) hm hc
      obtain ⟨v2,h2,e2,o2,n2,k2,f2⟩:=h9 ha1 hok' (by omega) (by omega) (by omega) hg1 _ X hX.symm
      have hg2:sameG glob 0 h2=true:=by rw [sameG_fr (h:=h1) λ id hid=>f2 id (by omega)]; exact hg1
      have o1':OL 30 9 h2 v1 rows.length (flat rows):=o1.keep (by omega) λ p _ hp=>f2 p hp
      obtain ⟨v3,h3,e3,o3,n3,k3,f3⟩:=h10 (RL.of_ol o1') hok' (by omega) (by omega) (by omega) hg2 _ X e2.symm
      have o2':=o2.keep (h':=h3) (by omega) λ p _ hp=>f3 p hp
      have s2:SL h3 v2 (rows.map lineL):=SL.of_ol (by rw [List.length_map,List.map_map]; exact o2') (by rw [List.length_map]; omega)
      have s3:SL h3 v3 (rows.map lineL):=SL.of_ol (by rw [List.length_map,List.map_map]; exact o3) (by rw [List.length_map]; omega)
      have e4:=h8 s2 s3 (by omega) (λ o p=>k o p)
      refine ⟨h3,?_⟩
      rw [e3]
      refine Eq.trans e4 ?_
      simp
end Go.Ev
namespace Go.Ev
open Go F Go.Proofs
set_option maxRecDepth 100000
set_option linter.unusedVariables false
set_option linter.unusedSimpArgs false
variable {P : Program} {ρ : Ren} {h : H} {w : World}
theorem Rel.putU (hr:Rel P ρ h w) {p:Nat × Nat} {ob:AO} (hid:h.next + 1 < 2 ^ deep) (h16:16≤h.next)
    (hob:∀ ρ',ORel P ρ' w p ob) (hne:live ob=true→∀ j q,ρ j=some q→live (h.objs.get j)=true→q.1 ≠ p.1) (hin:live ob=true→p.1 < w.heap.size):Rel P (ρ.upd h.next p) (h.push ob) w:=by
  have hget:∀ k,(h.push ob).objs.get k=if k=h.next then ob else h.objs.get k:=by
    intro k
    show (T.ins deep h.objs h.next ob).get k=_
    rw [T.get_ins _ _ _ _ _ hid]
  have hn:ρ h.next=none:=hr.unmapped (Nat.le_refl _)
  have hle:ρ.le (ρ.upd h.next p):=Ren.le_upd hn
  constructor
  · intro j q e
    show j < h.next + 1
    by_cases ej:j=h.next
    · omega
    · rw [Ren.upd_other ej] at e
      have:=hr.dom j q e
      omega
  · intro i j a b ha hb hi hj e
    rw [hget] at hi hj
    by_cases ei:i=h.next <;> by_cases ej:j=h.next
    · omega
    · subst ei
      rw [if_pos rfl] at hi
      rw [if_neg ej] at hj
      rw [Ren.upd_same] at ha
      rw [Ren.upd_other ej] at hb
      cases ha
      exact absurd e.symm (hne hi j b hb hj)
    · subst ej
      rw [if_pos rfl] at hj
      rw [if_neg ei] at hi
      rw [Ren.upd_same] at hb
      rw [Ren.upd_other ei] at ha
      cases hb
      exact absurd e (hne hj i a ha hi)
    · rw [if_neg ei] at hi
      rw [if_neg ej] at hj
      rw [Ren.upd_other ei] at ha
      rw [Ren.upd_other ej] at hb
      exact hr.inj i j a b ha hb hi hj e
  · intro id q e
    rw [hget]
    by_cases ei:id=h.next
    · subst ei
      rw [if_pos rfl]
      rw [Ren.upd_same] at e
      cases e
      exact hob _
    · rw [if_neg ei]
      rw [Ren.upd_other ei] at e
      exact (hr.obj id q e).mono hle
  · intro id e
    rw [hget] at e
    by_cases ei:id=h.next
    · subst ei; exact hid
    · rw [if_neg ei] at e
      exact hr.small id e
  · intro id e
    have e':h.next + 1≤id:=e
    rw [hget,if_neg (by omega)]
    exact hr.fresh id (by omega)
  · intro g hg
    rw [Ren.upd_other (by omega)]
    exact hr.glob g hg
  · intro id q e hl
    rw [hget] at hl
    by_cases ei:id=h.next
    · subst ei
      rw [if_pos rfl] at hl
      rw [Ren.upd_same] at e
      cases e
      exact hin hl
    · rw [if_neg ei] at hl
      rw [Ren.upd_other ei] at e
      exact hr.inside id q e hl
def absR:Value→Value
  | .string s=>.string s
  | .int k n=>.int k n
  | _=>unk
def rowO (t:TypeId) (cs:Array Value):AO:=.row t cs.size false true 0 (T.ofList unk (cs.toList.map absR))
theorem rowO_rel {b:Nat} {cs:Array Value} {t:TypeId} {fr:Nat × Nat} (hh:w.heap[b]?=some (.cells cs t fr)) (ρ':Ren):ORel P ρ' w (b,0) (rowO t cs):=by
  refine ⟨cs,fr,hh,Nat.le_refl _,λ _=>⟨rfl,rfl⟩,λ e=>(nomatch e),λ i hi=>?_,.inl rfl⟩
  refine ⟨cs[i],Array.getElem?_eq_getElem hi,?_⟩
  rw [T.get_ofList,List.getD_eq_getElem?_getD,List.getElem?_map,Array.getElem?_toList,Array.getElem?_eq_getElem hi]
  show VR1 ρ' (absR cs[i]) cs[i]
  cases hv:cs[i] with
  | string s=>exact .inr rfl
  | int k n=>exact .inr rfl
  | _=>exact .inl rfl
inductive ArgR (w:World):Value→List Rw→Prop
  | nil:ArgR w (.slice none 0 0) []
  | row {b o cap:Nat} {cs:Array Value} {t:TypeId} {fr:Nat × Nat} {rows:List Rw} (hh:w.heap[b]?=some (.cells cs t fr)) (hc:∀ i (hi:i < rows.length),∀ j,j < 9→cs[o + i * 9 + j]?=some ((rowC rows[i]).getD j unk)) (hcap:rows.length≤cap) :
      ArgR w (.slice (some ⟨b,o,none⟩) rows.length cap) rows
theorem absR_row (r:Rw) (j:Nat) (hj:j < 9):absR ((rowC r).getD j unk)=(rowC r).getD j unk:=by
  match j,hj with
  | 0,_=>rfl
  | 1,_=>rfl
  | 2,_=>rfl
  | 3,_=>rfl
  | 4,_=>rfl
  | 5,_=>rfl
  | 6,_=>rfl
  | 7,_=>rfl
  | 8,_=>rfl
  | n + 9,h=>exact absurd h (by omega)
theorem argR {w:World} (hr:Rel P renG (hzG glob) w) {E:Env} (u22:E.und 22=some (.slice 28)) {v':Value} {rows:List Rw} (a:ArgR w v' rows) :
    ∃ ρ' h' v,Rel P ρ' h' w∧h'.next≤17∧16≤h'.next∧sameG glob 0 h'=true∧VR ρ' v v'∧(∀ b,¬ Wr ρ' h' b)∧RL h' v rows ∧
      ∀ (h'':H) (X:Value→R),onSl v (bindO (lenV E h'' 22 v) X) (λ _ n _=>X (.int .i64 (.ofNat n)))=X (.int .i64 (.ofNat rows.length)):=by
  have h16:(hzG glob).next=16:=rfl
  have hg0:sameG glob 0 (hzG glob)=true:=by kernel_rfl
  cases a with
  | nil =>
    refine ⟨renG,hzG glob,.slice none 0 0,hr,by omega,by omega,hg0,.of1 rfl,λ b=>wr_G glob_ok b,.nil,λ h'' X=>?_⟩
    have hlv:lenV E h'' 22 (.slice none 0 0)=some (.int .i64 (.ofNat 0)):=by unfold lenV; rw [u22]; rfl
    rw [onSl_nil,hlv]; rfl
  | row hh hc hcap =>
    rename_i b o cap cs t fr
    have hlen:∀ (A:Addr) (h'':H) (X:Value→R),onSl (.slice (some A) rows.length (2 * cap)) (bindO (lenV E h'' 22 (.slice (some A) rows.length (2 * cap))) X) (λ _ n _=>X (.int .i64 (.ofNat n)))=X (.int .i64 (.ofNat rows.length)):=λ _ _ _=>rfl
    have hbs:b < w.heap.size:=(Array.getElem?_eq_some_iff.1 hh).1
    have hdeep:(hzG glob).next + 1 < 2 ^ deep:=by rw [h16]; decide
    obtain ⟨ob,hob⟩:∃ ob:AO,(rows=[]∧ob=.dead) ∨ (rows ≠ []∧ob=rowO t cs):=by
      by_cases e:rows=[]
      · exact ⟨.dead,.inl ⟨e,rfl⟩⟩
      · exact ⟨rowO t cs,.inr ⟨e,rfl⟩⟩
    have hput:Rel P (renG.upd 16 (b,0)) ((hzG glob).push ob) w:=by
      refine hr.putU hdeep (by omega) (λ ρ'=>?_) (λ hl j q e1 e2 e3=>?_) (λ _=>hbs)
      · rcases hob with e | e
        · rw [e.2]; trivial
        · rw [e.2]; exact rowO_rel hh ρ'
      · rcases hob with e | e
        · rw [e.2] at hl; exact nomatch hl
        · -- the tables hold numbers alone
          have hpos:0 < rows.length:=List.length_pos_iff.2 e.1
          have hstr:=hc 0 hpos 3 (by omega)
          rcases okG_get glob_ok j with ⟨_,e4⟩ | ⟨hj,el,n,fz,c,g1,g2⟩
          · rw [e4] at e2; exact nomatch e2
          · have hsr:=sameG_get hg0 j _ g1
            rw [Nat.zero_add] at hsr
            obtain ⟨_,_,_,_,_,h3⟩:=sameRow_inv hsr
            have ho:=hr.obj j q e1
            rw [g2] at ho
            obtain ⟨cs',fr',k1,k2,k3,k4,k5,k6⟩:=ho
            rw [show q.1=b from e3,hh] at k1
            cases k1
            have hlt:=(Array.getElem?_eq_some_iff.1 hstr).1
            have hn:o + 0 * 9 + 3 < n:=by rw [← (k3 rfl).1]; exact hlt
            obtain ⟨v',a,b'⟩:=k5 _ hn
            obtain ⟨_,kk,m,h4⟩:=h3 _ hn
            rw [hstr] at a
            cases a
            rw [h4] at b'
            rcases b' with b' | b'
            · exact nomatch b'
            · exact nomatch b'
    have hget:∀ k,((hzG glob).push ob).objs.get k=if k=16 then ob else (hzG glob).objs.get k:=by
      intro k
      show (T.ins deep (hzG glob).objs 16 ob).get k=_
      rw [T.get_ins _ _ _ _ _ (by decide)]
    refine ⟨renG.upd 16 (b,0),(hzG glob).push ob,.slice (some ⟨16,o,none⟩) rows.length (2 * cap),hput,Nat.le_refl _,Nat.le_succ _,?_,?_,?_,?_,λ h'' X=>hlen _ _ _⟩
    · rw [sameG_fr (h:=hzG glob) λ id hid=>by rw [hget_eq,hget_eq,hget,if_neg (by omega)]]
      exact hg0
    · refine .of1 ?_
      have h2:(if (2 * cap) % 2=0 then 2 * cap / 2 else 2 * cap / 2 + 0)=cap:=by rw [if_pos (by omega)]; omega
      have e16:(renG.upd 16 (b,0)) 16=some (b,0):=Ren.upd_same
      simp only [den1,den0,e16,h2]
    · rintro b' ⟨id,p,e1,e2,e3⟩
      rw [hget] at e3
      by_cases ej:id=16
      · rw [if_pos ej] at e3
        rcases hob with e | e
        · rw [e.2] at e3; exact nomatch e3
        · rw [e.2] at e3; exact nomatch e3
      · rw [if_neg ej] at e3
        rw [Ren.upd_other ej] at e1
        exact wr_G glob_ok b' ⟨id,p,e1,e2,e3⟩
    · by_cases e:rows=[]
      · subst e
        exact .row (m:=o) (e:=0) (op:=false) (ro:=true) (fz:=0) (cells:=.c unk) (λ e=>absurd rfl e) (Nat.le_refl _) (λ i hi=>absurd hi (Nat.not_lt_zero _))
      · have hob':ob=rowO t cs:=by
          rcases hob with q | q
          · exact absurd q.1 e
          · exact q.2
        have hpos:0 < rows.length:=List.length_pos_iff.2 e
        refine .row (m:=cs.size) (e:=t) (op:=false) (ro:=true) (fz:=0) (cells:=T.ofList unk (cs.toList.map absR)) (λ _=>⟨by rw [hget_eq,hget,if_pos rfl,hob']; rfl,Nat.lt_succ_self _⟩) ?_ λ i hi=>?_
        · have:=(Array.getElem?_eq_some_iff.1 (hc (rows.length - 1) (by omega) 8 (by omega))).1
          omega
        · have hg:∀ j,j < 9→getF (T.ofList unk (cs.toList.map absR)) (o + 9 * i + j)=(rowC rows[i]).getD j unk:=λ j hj=>by
            rw [getF_ofList,List.getD_eq_getElem?_getD,List.getElem?_map,Array.getElem?_toList,show o + 9 * i + j=o + i * 9 + j by omega,hc i hi j hj]
            exact absR_row _ _ hj
          show [getF _ (o + 9 * i),getF _ (o + 9 * i + 1),getF _ (o + 9 * i + 2),getF _ (o + 9 * i + 3),getF _ (o + 9 * i + 4),getF _ (o + 9 * i + 5),getF _ (o + 9 * i + 6),getF _ (o + 9 * i + 7),getF _ (o + 9 * i + 8)]=_
          rw [show getF _ (o + 9 * i)=_ from hg 0 (by omega),hg 1 (by omega),hg 2 (by omega),hg 3 (by omega),hg 4 (by omega),hg 5 (by omega),hg 6 (by omega),hg 7 (by omega),hg 8 (by omega)]
          rfl
end Go.Ev
namespace Go.Ev
open Go F Go.Proofs
set_option maxRecDepth 100000
set_option exponentiation.threshold 3000
set_option linter.unusedVariables false
noncomputable def tU:ExtT:=(((aw29.ins 40 25 (some (pureX glob fmtQ))).ins 40 26 (some (pureX glob itoaQ))).ins 40 27 (some (pureX glob repQ))).ins 40 28 (some joinQ)
theorem tU_ok (h:ExtAll aw29):ExtAll tU:=ext_ins (ext_ins (ext_ins (ext_ins h (by decide) ext25) (by decide) ext26) (by decide) ext27) (by decide) ext28
noncomputable def EU:Env:=EX tU
theorem elT33:ElT EU 33 9 1 ((EU.info 9).getD default) [.string ⟨⟨[]⟩⟩]:=⟨by kernel_rfl,by kernel_rfl,by kernel_rfl,of_decide_eq_true (by kernel_rfl),by kernel_rfl,rfl,by decide,by decide⟩
theorem elT24:ElT EU 24 30 9 ((EU.info 30).getD default) zero9:=⟨by kernel_rfl,by kernel_rfl,by kernel_rfl,of_decide_eq_true (by kernel_rfl),by kernel_rfl,rfl,by decide,by decide⟩
theorem uw:UW EU:=⟨by kernel_rfl,by kernel_rfl,by kernel_rfl,by kernel_rfl,⟨_,elT33⟩,⟨_,_,elT24⟩,by kernel_rfl⟩
noncomputable def fs30:Array Field:=match EU.und 30 with | some (.struct fs)=>fs | _=>#[]
theorem b30 (hd:Nat) (dp:Int) (kd:Nat) (nm:List UInt8) (a b c d e:Int):buildV EU 30 [(0,.int .u64 (.ofNat hd)),(1,.int .i64 dp),(2,.int .u64 (.ofNat kd)),(3,.string ⟨⟨nm⟩⟩),(4,.int .i64 a),(5,.int .i64 b),(6,.int .i64 c),(7,.int .i64 d),(8,.int .i64 e)]=some (.agg ⟨[.int .u64 (.ofNat hd),.int .i64 dp,.int .u64 (.ofNat kd),.string ⟨⟨nm⟩⟩,.int .i64 a,.int .i64 b,.int .i64 c,.int .i64 d,.int .i64 e]⟩):=by kernel_rfl
theorem u7:U7 EU:=⟨λ r=>b30 _ _ _ _ _ _ _ _ _,⟨fs30,by kernel_rfl⟩,by kernel_rfl,by kernel_rfl,by kernel_rfl,by kernel_rfl⟩
theorem ueU:UE EU:=⟨by kernel_rfl,by kernel_rfl,by kernel_rfl,by kernel_rfl⟩
theorem tcU6 (m:Nat) {h:H} (hg:sameG glob 0 h=true) (k:Value→H→R):callF EU KK (m + 1) 6 [] h k=k (.bool true) h:=by
  show (funC EU KK 6).run _ _ _ _=_
  have e:funC EU KK 6=⟨λ _ args h c=>bindP (trueG glob args h) c⟩:=by kernel_rfl
  rw [e]
  show bindP (trueG glob [] h) k=_
  have:trueG glob [] h=some (.bool true,h):=by unfold trueG; rw [hg]; rfl
  rw [this]; rfl
theorem pure_run {q:List Value→Option Value} {args:List Value} {v:Value} (hq:q args=some v) {h:H} (hg:sameG glob 0 h=true) (k:Value→H→R):bindP (pureX glob q args h) k=k v h:=by
  have:pureX glob q args h=some (v,h):=by unfold pureX; rw [hq]; simp only [hg,cond_true]
  rw [this]; rfl
theorem rcU (m:Nat):RcU EU (callF EU KK (m + 1)):=by
  constructor
  · intro h hg n hn k
    show (funC EU KK 25).run _ _ _ _=_
    have e:funC EU KK 25=⟨λ _ args h c=>bindP (pureX glob fmtQ args h) c⟩:=by kernel_rfl
    rw [e]
    refine pure_run (q:=fmtQ) ?_ hg k
    have:Nat.blt n 18446744073709551616=true:=ble_t (by omega)
    show (bif Nat.blt n 18446744073709551616 then some (Value.string ⟨(Lib.decDigits n).toArray⟩) else none)=_
    rw [this]; rfl
  · intro h hg n hn k
    show (funC EU KK 26).run _ _ _ _=_
    have e:funC EU KK 26=⟨λ _ args h c=>bindP (pureX glob itoaQ args h) c⟩:=by kernel_rfl
    rw [e]
    refine pure_run (q:=itoaQ) ?_ hg k
    show (bif decide (-9223372036854775808≤n) && decide (n≤9223372036854775807) then some (Value.string ⟨(Lib.itoa n).toArray⟩) else none)=_
    rw [decide_eq_true hn.1,decide_eq_true hn.2]; rfl
  · intro h hg n hn k
    show (funC EU KK 27).run _ _ _ _=_
    have e:funC EU KK 27=⟨λ _ args h c=>bindP (pureX glob repQ args h) c⟩:=by kernel_rfl
    rw [e]
    refine pure_run (q:=repQ) ?_ hg k
    have:Nat.ble n 1000000=true:=ble_t (by omega)
    show (bif Nat.ble n 1000000 && true then some (Value.string ⟨(Lib.repeatL [32,32] n).toArray⟩) else none)=_
    rw [this]; rfl
  · intro h v n L o hp hn xs hL hsum k
    show (funC EU KK 28).run _ _ _ _=_
    have e:funC EU KK 28=⟨λ _ args h c=>bindP (joinQ args h) c⟩:=by kernel_rfl
    rw [e]
    show bindP (joinQ _ h) k=_
    cases o with
    | nil=>exact absurd hp (Nat.lt_irrefl 0)
    | row hb hq hlen hc hn0 =>
      rename_i b fz op cells
      rw [hget_eq,Nat.mul_one] at hq
      have hcl:cellsFrom cells 0 n=(xs.map λ s=>(⟨⟨s⟩⟩:ByteArray)).map Value.string:=by
        rw [Nat.mul_one] at hlen
        rw [← hlen,List.map_map]
        refine (cells_ofList L cells 0 λ j hj=>by rw [Nat.zero_add,← getF_eq,hc j hj]).trans ?_
        rw [hL]; rfl
      have b1:Nat.ble (0 + n) n=true:=ble_t (by omega)
      have b2:Nat.ble n ((2 * n + op.toNat) / 2)=true:=ble_t (by cases op <;> simp [Bool.toNat] <;> omega)
      have b3:Nat.ble n 1000=true:=ble_t hn
      have b4:Nat.blt 0 n=true:=ble_t hp
      have hxn:xs.length=n:=by rw [hL,List.length_map,Nat.mul_one] at hlen; exact hlen
      have hs:∀ xs:List (List UInt8),sumL (xs.map λ s=>(⟨⟨s⟩⟩:ByteArray))=(xs.map List.length).sum + xs.length:=by
        intro xs
        induction xs with
        | nil=>rfl
        | cons s l ih =>
          show (⟨⟨s⟩⟩:ByteArray).size + 1 + sumL (l.map λ s=>(⟨⟨s⟩⟩:ByteArray))=(s.length :: l.map List.length).sum + (l.length + 1)
          rw [ih,List.sum_cons,show (⟨⟨s⟩⟩:ByteArray).size=s.length from rfl]
          omega
      have b5:Nat.ble (sumL (xs.map λ s=>(⟨⟨s⟩⟩:ByteArray))) 100000000=true:=ble_t (by rw [hs]; omega)
      have hj:joinQ [.slice (some ⟨b,0,none⟩) n (2 * n + op.toNat),.string ⟨⟨[32]⟩⟩] h=some (strV (Lib.join xs [32]),h):=by
        unfold joinQ
        simp only [hq,b1,b2,b3,b4,show Nat.ble (ByteArray.size ⟨⟨[32]⟩⟩) 1000=true from rfl,Bool.and_self,cond_true,hcl,strsC_of,b5]
        rw [List.map_map,show (xs.map ((λ x:ByteArray=>x.data.toList) ∘ λ s=>(⟨⟨s⟩⟩:ByteArray)))=xs from List.map_id'' (λ _=>rfl) xs]
        rfl
      rw [hj]; rfl
theorem tcU7 (m:Nat) (a0:Value) (h:H) (k:Value→H→R):callF EU KK (m + 1) 7 [a0] h k=p7 EU (callF EU KK m) a0 h k:=by
  show (funC EU KK 7).run _ _ _ _=_
  rw [show funC EU KK 7=funB EU KK 7 from funC_funB (by kernel_rfl)]
  exact p7_eq tU _ a0 h k
theorem tcU8 (m:Nat) (a0 a1:Value) (h:H) (k:Value→H→R):callF EU KK (m + 1) 8 [a0,a1] h k=p8 EU (callF EU KK m) a0 a1 h k:=by
  show (funC EU KK 8).run _ _ _ _=_
  rw [show funC EU KK 8=funB EU KK 8 from funC_funB (by kernel_rfl)]
  exact p8_eq tU _ a0 a1 h k
theorem tcU9 (m:Nat) (a0:Value) (h:H) (k:Value→H→R):callF EU KK (m + 1) 9 [a0] h k=p9 EU (callF EU KK m) a0 h k:=by
  show (funC EU KK 9).run _ _ _ _=_
  rw [show funC EU KK 9=funB EU KK 9 from funC_funB (by kernel_rfl)]
  exact p9_eq tU _ a0 h k
theorem tcU10 (m:Nat) (a0:Value) (h:H) (k:Value→H→R):callF EU KK (m + 1) 10 [a0] h k=p10 EU (callF EU KK m) a0 h k:=by
  show (funC EU KK 10).run _ _ _ _=_
  rw [show funC EU KK 10=funB EU KK 10 from funC_funB (by kernel_rfl)]
  exact p10_eq tU _ a0 h k
theorem tcU3 (m:Nat) (a0:Value) (h:H) (k:Value→H→R):callF EU KK (m + 1) 3 [a0] h k=p3 EU (callF EU KK m) a0 h k:=by
  show (funC EU KK 3).run _ _ _ _=_
  rw [show funC EU KK 3=funB EU KK 3 from funC_funB (by kernel_rfl)]
  exact p3_eq tU _ a0 h k
theorem lines_run {h:H} {v:Value} {rows:List Rw} (hlen:∀ (h':H) (X:Value→R),onSl v (bindO (lenV EU h' 22 v) X) (λ _ n _=>X (.int .i64 (.ofNat n)))=X (.int .i64 (.ofNat rows.length))) (a:RL h v rows) (hok:∀ r ∈ rows,r.ok)
    (hn:h.next≤600000000) (h16:16≤h.next) (hg:sameG glob 0 h=true) (k:Value→H→R):∃ h',callF EU KK 10 3 [v] h k=k (.bool true) h':=by
  obtain ⟨h',e⟩:=run3 uw (rc:=callF EU KK 9) (rcU 8) (λ h hg k=>tcU6 8 hg k) (λ h r hn k X e=>by
      obtain ⟨h',e1,e2⟩:=run7 u7 (rc:=callF EU KK 8) r hn k
      exact ⟨h',e.symm.trans ((tcU7 8 _ h k).trans e1),e2⟩)
    (λ s s' hn k=>(tcU8 8 _ _ _ k).trans (run8 ueU s s' hn k))
    (λ a hok hl hn h16 hg k X e=>by
      obtain ⟨v',h',e1,e2⟩:=run9 uw (rcU 7) a hok hl hn h16 hg k
      exact ⟨v',h',e.symm.trans ((tcU9 8 _ _ k).trans e1),e2⟩)
    (λ a hok hl hn h16 hg k X e=>by
      obtain ⟨v',h',e1,e2⟩:=run10 uw (rcU 7) u7.u24 a hok hl hn h16 hg k
      exact ⟨v',h',e.symm.trans ((tcU10 8 _ _ k).trans e1),e2⟩) hlen (λ _=>a) hok hn h16 hg k
  exact ⟨h',(tcU3 9 _ _ k).trans e⟩
theorem calls_lines (ht:ExtAll aw29) {W:World} (hr:Rel Tryz.prog renG (hzG glob) W) {v:Value} {rows:List Rw} (a:ArgR W v rows) (hok:∀ r ∈ rows,r.ok)
    {fn : Func} (hf : Tryz.prog.funcs[3]? = some fn) (hbody : fn.body.isNone = false) (hname : (fn.name == "runtime.NumGoroutine") = false) :
    Calls Tryz.prog 3 #[v] W λ e W'=>e=.returned (.bool true)∧W.heap.size≤W'.heap.size∧(∀ b,b < W.heap.size→W'.heap[b]?=W.heap[b]?)∧W'.os=W.os∧W'.output=W.output:=by
  obtain ⟨ρ1,h1,va,r1,n1,m1,g1,v1,w1,l1,f1⟩:=argR hr uw.u22 a
  obtain ⟨h2,hrun⟩:=lines_run f1 l1 hok (by omega) m1 g1 (λ v h=>some (v,h))
  obtain ⟨N,u,h',hcall,he⟩:=callF_callV hrun
  cases he
  have hx:=call_ok (env_of tU (tU_ok ht)) (region_ok (env_of tU (tU_ok ht)).toTypesOK) N 3 _ h1 _ _ hcall ρ1 W [v] r1 ⟨v1,trivial⟩
  rcases hx with ⟨v',ρ',w',h1,_,_⟩ | ⟨fn',_,_,_,h2⟩
  · exfalso
    unfold callFunc at h1
    rw [Sem.run_bind,run_program] at h1
    simp only [Result.andThen_ok,hf,hname,hbody,Bool.false_eq_true,if_false] at h1
    exact nomatch h1
  · refine h2.mono ?_
    rintro e W' ⟨ρ',v',rfl,hv,s⟩
    rw [hv.bool]
    exact ⟨rfl,s.size,λ b hb=>s.same b hb (w1 b),s.os,s.output⟩
end Go.Ev
