/-
  WHICH COMMAND A WORD NAMES; does it take so many words: the script's functions in abstract memory.
-/
import Derived.Test.YtlahhbdihpbbgaaGreatDoorLb
import Derived.KernelRfl
import Derived.Test.YtlahhbdihpbbgaaGreatDoorQa
import Derived.Test.YtlahhbdihpbbgaaGreatDoorEc
import Derived.RowKit3
import Derived.Below
set_option linter.unusedVariables false
set_option linter.unusedSimpArgs false
namespace Go.Ev
open Go F
set_option linter.unusedVariables false
set_option linter.unusedSimpArgs false
structure Ad (E:Env) (t e s:Nat) (i:TypeInfo) (z:List Value):Prop where
 u:E.und t=some (.slice e)
 inf:E.info e=some i
 sz:i.size=s
 bt:i.bytes≤1000
 zc:bM E e=some z
 zl:z.length=s
 s0:1≤s
 s1:s≤100
inductive OL (e s:Nat) (h:H):Value→Nat→List Value→Prop
 | nil:OL e s h (.slice none 0 0) 0 []
 | row {b n fz:Nat} {op:Bool} {cells:T Value} {L:List Value} (hb:b < h.next) (hq:hget h b=.row e (n * s) op false 0 cells) (hL:L.length=n * s)
   (hc:∀ i,i < L.length→getF cells i=L.getD i unk) (hn:0 < n):OL e s h (.slice (some ⟨b,0,none⟩) n (2 * n + op.toNat)) n L
def dn:Value→Option Nat
 | .slice (some a) _ _=>some a.block
 | _=>none
theorem OL.keep {e s n:Nat} {h h':H} {v:Value} {L:List Value} (o:OL e s h v n L) (hn:h.next≤h'.next) (hk:∀ b,dn v=some b→b < h.next→hget h' b=hget h b):OL e s h' v n L:=by
 cases o with
 | nil=>exact .nil
 | row hb hq hL hc hp=>exact .row (fz:=0) (Nat.lt_of_lt_of_le hb hn) ((hk _ rfl hb).trans hq) hL hc hp
theorem OL.blk {e s n:Nat} {h:H} {v:Value} {L:List Value} (o:OL e s h v n L) (b:Nat) (hb:dn v=some b):b < h.next:=by
 cases o with
 | nil=>exact nomatch hb
 | row h1=>cases hb; exact h1
theorem wH {E:Env} {t e s n:Nat} {i:TypeInfo} {z xs:List Value} (T1:Ad E t e s i z) {h:H} {v:Value} {L:List Value} (o:OL e s h v n L) (hx:xs.length=s) (hc1:xs.all cell1=true)
  (hn:h.next + 2≤1000000000) (hn2:n≤9000) :
  ∃ v' h',bu E (ag h (.row e s false false 0 (T.ofList unk xs))) .append [v,.slice (some ⟨h.next,0,none⟩) 1 2] [t,t]=some (v',h')∧OL e s h' v' (n + 1) (L ++ xs)∧h'.next=h.next + 2 ∧
   dn v'=some (h.next + 1)∧∀ id,id < h.next→dn v ≠ some id→hget h' id=hget h id:=by
 obtain ⟨s0,s1⟩:=And.intro T1.s0 T1.s1
 have hg1:(ag h (.row e s false false 0 (T.ofList unk xs))).objs.get h.next=.row e s false false 0 (T.ofList unk xs):=by
  rw [← bI]; exact aD _ _ (by omega)
 have hnx:(ag h (.row e s false false 0 (T.ofList unk xs))).next=h.next + 1:=rfl
 have hroom:room (ag h (.row e s false false 0 (T.ofList unk xs)))=true:=be (by rw [hnx]; omega)
 have hsrc:lV (ag h (.row e s false false 0 (T.ofList unk xs))) s 1 (.slice (some ⟨h.next,0,none⟩) 1 2)=some xs:=by
  have:Nat.ble (0 + 1 * s) s=true:=be (by omega)
  simp only [lV,hg1,this,cond_true]
  rw [Nat.one_mul,← hx,show (0:Nat)=0 from rfl]
  exact congrArg some (mP xs xs.length rfl)
 have hnews:kI (ag h (.row e s false false 0 (T.ofList unk xs))) s z false (.slice (some ⟨h.next,0,none⟩) 1 2)=some (1,xs):=by
  simp only [kI,cond_false,gZ,hsrc]
 obtain ⟨s',hs'⟩:∃ s',i.size=s' + 1:=⟨s - 1,by rw [T1.sz]; omega⟩
 have hnum:ip E [t]=some false:=by simp only [ip,T1.u]
 have hss:s' + 1=s:=by rw [← hs',T1.sz]
 have hzb:Nat.beq z.length (s' + 1)=true:=lI (by rw [T1.zl,hss])
 have hbt:=T1.bt
 have b1:Nat.ble ((n + 1) * (i.bytes + 1)) 1000000000=true:=be (Nat.le_trans (Nat.mul_le_mul (show n + 1≤9001 by omega) (show i.bytes + 1≤1001 by omega)) (by decide))
 have b2:Nat.ble ((n + 1) * (s' + 1)) 1000000000=true:=be (Nat.le_trans (Nat.mul_le_mul (show n + 1≤9001 by omega) (show s' + 1≤100 by omega)) (by decide))
 have hnews':kI (ag h (.row e s false false 0 (T.ofList unk xs))) (s' + 1) z false (.slice (some ⟨h.next,0,none⟩) 1 2)=some (1,xs):=by rw [hss]; exact hnews
 have hnx':=hnx
 rw [cV] at hnews' hroom hnx'
 cases o with
 | nil =>
  have b1':Nat.ble ((0 + 1) * (i.bytes + 1)) 1000000000=true:=b1
  have b2':Nat.ble ((0 + 1) * (s' + 1)) 1000000000=true:=b2
  have e0:bu E (ag h (.row e s false false 0 (T.ofList unk xs))) .append [.slice none 0 0,.slice (some ⟨h.next,0,none⟩) 1 2] [t,t]=some (.slice (some ⟨h.next + 1,0,none⟩) 1 3,ag (ag h (.row e s false false 0 (T.ofList unk xs))) (.row e s true false 0 (T.ofList unk xs))):=by
   rw [cV]
   simp only [bu,hnum,gn,T1.u,T1.inf,T1.zc,hs',hnews',b1',b2',hzb,Bool.and_self,cond_true,Nat.zero_div,show Nat.ble (0 + 1) 0=false from rfl,cond_false,hroom,Nat.beq_refl,hnx',cV]
   simp only [Nat.zero_add,Nat.one_mul,hss,Nat.mul_one]
  refine ⟨_,_,e0,?_,rfl,rfl,λ id hid _=>?_⟩
  ·have hq:hget (ag (ag h (.row e s false false 0 (T.ofList unk xs))) (.row e s true false 0 (T.ofList unk xs))) (h.next + 1)=.row e ((0 + 1) * s) true false 0 (T.ofList unk xs):=by
    rw [show h.next + 1=(ag h (.row e s false false 0 (T.ofList unk xs))).next from rfl,aD _ _ (by rw [hnx]; omega),Nat.zero_add,Nat.one_mul]
   exact .row (n:=1) (op:=true) (fz:=0) (show h.next + 1 < h.next + 2 by omega) hq (by simp [hx]) (λ j hj=>by rw [aL,List.nil_append]) (by omega)
  ·rw [bp _ _ (by rw [hnx]; omega) (by rw [hnx]; omega),bp _ _ (by omega) hid]
 | row hb hq hL hc hp =>
  rename_i b fz op cells
  have hqp:(ag h (.row e s false false 0 (T.ofList unk xs))).objs.get b=.row e (n * s) op false 0 cells:=by
   rw [← bI,bp _ _ (by omega) hb,hq]
  rw [cV] at hqp
  have g1:Nat.ble (n + 1) n=false:=gG (by omega)
  have hl1:∀ op:Bool,(2 * n + op.toNat) / 2=n:=λ op=>by cases op <;> simp [Bool.toNat] <;> omega
  cases op with
  | false =>
   have h2:Nat.beq ((2 * n + Bool.toNat false) % 2) 0=true:=lI (by simp [Bool.toNat])
   have h3:Nat.ble (0 + n * (s' + 1)) (n * s)=true:=be (by rw [hss]; omega)
   have e0:bu E (ag h (.row e s false false 0 (T.ofList unk xs))) .append [.slice (some ⟨b,0,none⟩) n (2 * n + Bool.toNat false),.slice (some ⟨h.next,0,none⟩) 1 2] [t,t] =
     some (.slice (some ⟨h.next + 1,0,none⟩) (n + 1) (2 * (n + 1) + 1),ag (ag h (.row e s false false 0 (T.ofList unk xs))) (.row e ((n + 1) * s) true false 0 (T.ofList unk (ac cells (n * s) 0 ++ xs)))):=by
    rw [cV]
    simp only [bu,hnum,gn,T1.u,T1.inf,T1.zc,hs',hnews',b1,b2,hzb,Bool.and_self,cond_true,cond_false,hl1,g1,hroom,hqp,h2,h3,hnx',cV,dS]
    simp only [hss]
   refine ⟨_,_,e0,?_,rfl,rfl,λ id hid _=>?_⟩
   ·have hq2:hget (ag (ag h (.row e s false false 0 (T.ofList unk xs))) (.row e ((n + 1) * s) true false 0 (T.ofList unk (ac cells (n * s) 0 ++ xs)))) (h.next + 1)=.row e ((n + 1) * s) true false 0 (T.ofList unk (ac cells (n * s) 0 ++ xs)):=by
     rw [show h.next + 1=(ag h (.row e s false false 0 (T.ofList unk xs))).next from rfl,aD _ _ (by rw [hnx]; omega)]
    refine .row (n:=n + 1) (op:=true) (fz:=0) (show h.next + 1 < h.next + 2 by omega) hq2 (by rw [List.length_append,hL,hx,Nat.succ_mul]) (λ j hj=>?_) (by omega)
    have hcl:ac cells (n * s) 0=L:=by
     rw [dS,← hL]
     exact fN L cells 0 λ k hk=>by rw [Nat.zero_add,← cL,hc k hk]
    rw [aL,hcl]
   ·rw [bp _ _ (by rw [hnx]; omega) (by rw [hnx]; omega),bp _ _ (by omega) hid]
  | true =>
   have h2:Nat.beq ((2 * n + Bool.toNat true) % 2) 0=false:=fT (by simp [Bool.toNat])
   have h4:Nat.beq n n=true:=Nat.beq_refl n
   have h5:Nat.beq (n * (s' + 1)) (n * s)=true:=lI (by rw [hss])
   have h6:Nat.ble 0 (n * s)=true:=be (Nat.zero_le _)
   have h7:Nat.beq e e=true:=Nat.beq_refl e
   have e0:bu E (ag h (.row e s false false 0 (T.ofList unk xs))) .append [.slice (some ⟨b,0,none⟩) n (2 * n + Bool.toNat true),.slice (some ⟨h.next,0,none⟩) 1 2] [t,t] =
     some (.slice (some ⟨h.next + 1,0,none⟩) (n + 1) (2 * (n + 1) + 1),ag (hset (ag h (.row e s false false 0 (T.ofList unk xs))) b .dead) (.row e ((n + 1) * s) true false 0 (putCells cells (n * s) xs))):=by
    rw [cV]
    simp only [bu,hnum,gn,T1.u,T1.inf,T1.zc,hs',hnews',b1,b2,hzb,Bool.and_self,cond_true,cond_false,hl1,g1,hroom,hqp,h2,h4,h5,h6,h7,Nat.beq_refl,hc1,Bool.not_false,hnx',cV,gR]
    simp only [hss]
   have hnx2:(hset (ag h (.row e s false false 0 (T.ofList unk xs))) b .dead).next=h.next + 1:=rfl
   refine ⟨_,_,e0,?_,rfl,rfl,λ id hid hne=>?_⟩
   ·have hq2:hget (ag (hset (ag h (.row e s false false 0 (T.ofList unk xs))) b .dead) (.row e ((n + 1) * s) true false 0 (putCells cells (n * s) xs))) (h.next + 1)=.row e ((n + 1) * s) true false 0 (putCells cells (n * s) xs):=by
     rw [← hnx2,aD _ _ (by rw [hnx2]; omega)]
    refine .row (n:=n + 1) (op:=true) (fz:=0) (show h.next + 1 < h.next + 2 by omega) hq2 (by rw [List.length_append,hL,hx,Nat.succ_mul]) (λ j hj=>?_) (by omega)
    have hns:n * s + xs.length≤1000000000:=Nat.le_trans (Nat.add_le_add (Nat.mul_le_mul hn2 s1) (show xs.length≤100 by omega)) (by decide)
    rw [cL,cO _ _ _ hns]
    rw [List.length_append] at hj
    by_cases q:j < L.length
    ·rw [if_neg (by omega),← cL,hc j q,List.getD_eq_getElem?_getD,List.getD_eq_getElem?_getD,List.getElem?_append_left q]
    ·rw [if_pos (by omega),List.getD_eq_getElem?_getD,List.getD_eq_getElem?_getD,List.getElem?_append_right (by omega),hL]
   ·rw [bp _ _ (by rw [hnx2]; omega) (by rw [hnx2]; omega),cu _ _ _ _ (by omega),if_neg (λ e=>hne (by rw [e]; rfl)),bp _ _ (by omega) hid]
end Go.Ev
namespace Go.Ev
open Go F Go.Proofs
set_option linter.unusedVariables false
set_option linter.unusedSimpArgs false
set_option maxRecDepth 100000
structure US (E:Env):Prop where
 u3:E.und 3=some (.int .i64)
 u5:E.und 5=some (.int .u8)
 u9:E.und 9=some .string
section u8
variable {E : Env} {m n : Nat} {cx cy : Bool} {k : Value → R} {ty : TypeId} (hE : E.und ty = some (.int .u8))
include hE
theorem uk:binR (binC E .gtr ty cx cy) (.int .u8 (.ofNat m)) (.int .u8 (.ofNat n)) k=k (.bool (Nat.ble (n + 1) m)):=by
 unfold binR binC; rw [hE]; rfl
theorem Qn:binR (binC E .lss ty cx cy) (.int .u8 (.ofNat m)) (.int .u8 (.ofNat n)) k=k (.bool (Nat.ble (m + 1) n)):=by
 unfold binR binC; rw [hE]; rfl
theorem gv:binR (binC E .eql ty cx cy) (.int .u8 (.ofNat m)) (.int .u8 (.ofNat n)) k=k (.bool (Nat.beq m n)):=by
 unfold binR binC; rw [hE]; rfl
end u8
def gd (b:UInt8):Value:=.int .u8 (.ofNat b.toNat)
variable {E : Env} (u : US E) {rc : RC}
include u
theorem we {s:List UInt8} {j:Nat} {b:UInt8} {kd:IntKind} (h:s[j]?=some b):dD E 9 (.string ⟨⟨s⟩⟩) (.int kd (.ofNat j))=some (gd b):=by
 unfold dD; rw [u.u9]; simp only [h]; rfl
theorem nS {h:H} {s:List UInt8}:bv E h 9 (.string ⟨⟨s⟩⟩)=some (.int .i64 (.ofNat s.length)):=by
 unfold bv; rw [u.u9]; rfl
theorem am8 {cx cy:Bool} {a b:List UInt8} {k:Value→R} (h:a.length + b.length≤1000000000):binR (binC E .add 9 cx cy) (.string ⟨⟨a⟩⟩) (.string ⟨⟨b⟩⟩) k=k (.string ⟨⟨a ++ b⟩⟩):=by
 have hb:iz E .add 9 cx cy (.string ⟨⟨a⟩⟩) (.string ⟨⟨b⟩⟩)=some (.string ⟨⟨a ++ b⟩⟩):=by
  simp only [iz,be h,cond_true]
 unfold binR binC; rw [u.u9]
 show bindO (iz E .add 9 cx cy (.string ⟨⟨a⟩⟩) (.string ⟨⟨b⟩⟩)) k=_
 rw [hb]; rfl
theorem Aj {cx cy:Bool} {a b:List UInt8} {k:Value→R}:binR (binC E .eql 9 cx cy) (.string ⟨⟨a⟩⟩) (.string ⟨⟨b⟩⟩) k=k (.bool (a == b)):=by
 have hb:iz E .eql 9 cx cy (.string ⟨⟨a⟩⟩) (.string ⟨⟨b⟩⟩)=some (.bool (a == b)):=by
  simp only [iz,dy]
 unfold binR binC; rw [u.u9]
 show bindO (iz E .eql 9 cx cy (.string ⟨⟨a⟩⟩) (.string ⟨⟨b⟩⟩)) k=_
 rw [hb]; rfl
theorem ar0 {cx cy:Bool} {a b:List UInt8} {k:Value→R}:binR (binC E .neq 9 cx cy) (.string ⟨⟨a⟩⟩) (.string ⟨⟨b⟩⟩) k=k (.bool (!(a == b))):=by
 have hb:iz E .neq 9 cx cy (.string ⟨⟨a⟩⟩) (.string ⟨⟨b⟩⟩)=some (.bool (!(a == b))):=by
  simp only [iz,dy]
 unfold binR binC; rw [u.u9]
 show bindO (iz E .neq 9 cx cy (.string ⟨⟨a⟩⟩) (.string ⟨⟨b⟩⟩)) k=_
 rw [hb]; rfl
omit u in
theorem asn:(ByteArray.mk #[])=(⟨⟨[]⟩⟩:ByteArray):=rfl
end Go.Ev
namespace Go.Ev
open Go F Go.Proofs
set_option maxRecDepth 100000
set_option linter.unusedVariables false
noncomputable def rU (E:Env)(a a0 a1:Value)(rc:RC)(k:Value→H→R)(b:aa [4]→H→R):(aa [4,8]→H→R)→aa [4,8]→H→R:=λ c d e=>binR (binC E .lss 3 false false) d.2.1 a λ f=>@joinR [] (λ _ g=>@joinR [4] (λ h i=>binR (binC E .add 3 false true) d.2.1 (.int .i64 (.ofNat 1)) λ j=>c (h.1,(j,())) i) λ h=>onNat d.2.1 none λ i=>onSl a0 none λ j l _=>ifB (Nat.ble (Nat.succ i) l) (addOffF j (Nat.mul i 2) λ m=>onPtr m λ n=>onRow (hget g n.1) λ _ o _ _ _ p=>ifB (Nat.ble (Nat.add n.2 2) o) (yu a1 λ q r s=>rc q (ny r s [.agg ⟨ac p 2 n.2⟩]) g λ t u=>@joinR [4] (λ v w=>h (v.1,()) w) λ v=>onB t (v (d.1,()) u) (k d.2.1 u)))) λ g=>onB f (b (d.1,()) e) (g () e)
noncomputable def p38 (E:Env)(rc:RC)(a0:Value)(a1:Value)(h:H)(k:Value→H→R):R:=joinL (λ a=>@joinR [4] (λ _ b=>k (.int .i64 (.negSucc 0)) b) λ b=>@loopF [4,8] (rU E a a0 a1 rc k b) ft (.int .i64 (.ofNat 0),(.int .i64 (.ofNat 0),())) h) λ a=>onSl a0 (bindO (bv E h 75 a0) a) λ _ b _=>a (.int .i64 (.ofNat b))
theorem W3 (t:ak)(rc:RC)(a0:Value)(a1:Value)(h:H)(k:Value→H→R):(ax (EX t) KK 38).run rc [a0,a1] h k = p38 (EX t) rc a0 a1 h k:=by kernel_rfl
noncomputable def p40 (E:Env)(rc:RC)(a0:Value)(a1:Value)(h:H)(k:Value→H→R):R:=onCells a0 λ a=>ifB (allF (λ b=>cell1F b) a) (ifB (Nat.ble h.1 1000000000) (letH (ag h (.row 77 (lenF a) false false 0 (T.ofList unk a))) λ b=>ifB (Nat.ble b.1 1000000000) (letH (H.mk b.1 b.2) λ c=>onRow (hget c h.1) λ _ d _ _ _ e=>ifB (Nat.ble 1 d) (onPtr a1 λ f=>onRow (hget c f.1) λ _ g _ _ _ i=>ifB (Nat.ble (Nat.succ f.2) g) (onSl (getF i f.2) none λ j l _=>ifB (Nat.ble 1 l) (onRow (hget c j.1) λ _ m _ _ _ n=>ifB (Nat.ble (Nat.succ j.2) m) (binR (binC E .eql 9 false false) (getF e 0) (getF n j.2) λ o=>k o c)))))))
theorem agU (t:ak)(rc:RC)(a0:Value)(a1:Value)(h:H)(k:Value→H→R):(ax (EX t) KK 40).run rc [a0,a1] h k = p40 (EX t) rc a0 a1 h k:=by kernel_rfl
noncomputable def p41 (E:Env)(rc:RC)(a0:Value)(a1:Value)(h:H)(k:Value→H→R):R:=onCells a0 λ a=>ifB (allF (λ b=>cell1F b) a) (ifB (Nat.ble h.1 1000000000) (letH (ag h (.row 77 (lenF a) false false 0 (T.ofList unk a))) λ b=>@joinR [4] (λ _ c=>onRow (hget c h.1) λ _ d _ _ _ e=>ifB (Nat.ble 2 d) (bindO (bv E c 9 (getF e 1)) λ f=>binR (binC E .eql 3 false false) a1 f λ g=>k g c)) λ c=>onRow (hget b h.1) λ _ d _ _ _ e=>ifB (Nat.ble 2 d) (rc 63 [getF e 1,.string ⟨⟨[43]⟩⟩] b λ f g=>@joinR [4] (λ i j=>c (i.1,()) j) λ i=>onB f (onRow (hget g h.1) λ _ j _ _ _ l=>ifB (Nat.ble 2 j) (rc 63 [getF l 1,.string ⟨⟨[42]⟩⟩] g λ m n=>@joinR [4] (λ o p=>i (o.1,()) p) λ o=>onB m (o (.bool false,()) n) (k (.bool true) n))) (onRow (hget g h.1) λ _ j _ _ _ l=>ifB (Nat.ble 2 j) (bindO (bv E g 9 (getF l 1)) λ m=>binR (binC E .geq 3 false false) a1 m λ n=>k n g)))))
theorem adk (t:ak)(rc:RC)(a0:Value)(a1:Value)(h:H)(k:Value→H→R):(ax (EX t) KK 41).run rc [a0,a1] h k = p41 (EX t) rc a0 a1 h k:=by kernel_rfl
noncomputable def p42 (E:Env)(rc:RC)(a0:Value)(a1:Value)(a2:Value)(h:H)(k:Value→H→R):R:=@joinR [6,7] (λ a b=>k a.2.1 b) λ a=>binR (binC E .eql 5 false true) a1 (.int .u8 (.ofNat 76)) λ b=>@joinR [6,7] (λ c d=>a (c.1,(c.2.1,())) d) λ c=>onB b (binR (binC E .eql 5 false true) a1 (.int .u8 (.ofNat 104)) λ d=>@joinR [6,7] (λ e f=>c (e.1,(e.2.1,())) f) λ e=>onB d (binR (binC E .eql 5 false true) a1 (.int .u8 (.ofNat 111)) λ f=>@joinR [6,7] (λ g i=>e (g.1,(g.2.1,())) i) λ g=>onB f (binR (binC E .eql 5 false true) a1 (.int .u8 (.ofNat 110)) λ i=>@joinR [7,6] (λ j l=>g (j.2.1,(j.1,())) l) λ j=>onB i (binR (binC E .eql 5 false true) a1 (.int .u8 (.ofNat 109)) λ l=>@joinR [7,6] (λ m n=>j (m.1,(m.2.1,())) n) λ m=>onB l (binR (binC E .eql 5 false true) a1 (.int .u8 (.ofNat 107)) λ n=>@joinR [7,6] (λ o p=>m (o.1,(o.2.1,())) p) λ o=>onB n (binR (binC E .eql 5 false true) a1 (.int .u8 (.ofNat 99)) λ p=>@joinR [6] (λ q r=>o (.int .i64 (.ofNat 0),(q.1,())) r) λ q=>onB p (ifB (Nat.ble h.1 1000000000) (letH (H.mk (Nat.add h.1 1) h.2) λ r=>bindO (aT a0) λ s=>onPtr s λ t=>onRow (hget r t.1) λ _ u _ _ _ v=>ifB (Nat.ble (Nat.succ (Nat.add t.2 8)) u) (rc 66 [a2] r λ w x=>ifB (aj a0 a0) (ifB (aj a0 a0) (bindO (aT a0) λ y=>ifB (aj y s) (onPtr s λ z=>ifB (aj (.pointer (some (Addr.mk z.1 (Nat.add z.2 8) none))) (.pointer (some (Addr.mk t.1 (Nat.add t.2 8) none)))) (onRow (hget x t.1) λ _ a3 _ _ _ a4=>ifB (Nat.ble (Nat.succ (Nat.add t.2 8)) a3) (ifB (aj (getF a4 (Nat.add t.2 8)) (getF v (Nat.add t.2 8))) (@Option.rec (List Value) (λ _=>R) none (λ a5=>letH (hset x h.1 (.row 9 1 false false 0 (T.ofList unk a5))) λ a6=>cT (bu E a6 Builtin.append [getF v (Nat.add t.2 8),.slice (some (Addr.mk h.1 0 none)) 1 2] [30,30]) λ a7 a8=>ifB (aj a0 a0) (bindO (aT a0) λ a9=>onPtr a9 λ b0=>onCells a7 λ b1=>onRow (hget a8 b0.1) λ b2 b3 b4 b5 b6 b7=>ifB (notB b5) (ifB (Nat.beq (lenF b1) 1) (ifB (Nat.ble b6 (Nat.add b0.2 8)) (ifB (Nat.ble (Nat.add (Nat.add b0.2 8) 1) b3) (ifB (Nat.ble b3 1000000000) (ifB (allF (λ b8=>cell1F b8) b1) (letH (hset a8 b0.1 (.row b2 b3 b4 false b6 (putF b7 (Nat.add b0.2 8) b1))) λ b8=>q (.int .i64 (.ofNat 0),()) b8)))))))) (cG (λ a5=>some (Nat.mul a5 1,1)) (List.flatten (List.replicate 1 (cellsOfV (.string (ByteArray.mk #[]))))) [(0,w)])))))))))) (rc 65 [] h λ r s=>rc 64 [r,a2] s λ t u=>binR (binC E .lss 3 false true) t (.int .i64 (.ofNat 0)) λ v=>@joinR [6] (λ w x=>joinL (λ y=>bindO (aT a0) λ z=>onPtr z λ a3=>onCells y λ a4=>onRow (hget x a3.1) λ a5 a6 a7 a8 a9 b0=>ifB (notB a8) (ifB (Nat.beq (lenF a4) 1) (ifB (Nat.ble a9 (Nat.add a3.2 7)) (ifB (Nat.ble (Nat.add (Nat.add a3.2 7) 1) a6) (ifB (Nat.ble a6 1000000000) (ifB (allF (λ b1=>cell1F b1) a4) (letH (hset x a3.1 (.row a5 a6 a7 false a9 (putF b0 (Nat.add a3.2 7) a4))) λ b1=>q (w.1,()) b1))))))) λ y=>onNat t (bindO (aQ E x 3 5 t) y) λ z=>@Bool.rec (λ _=>R) (bindO (aQ E x 3 5 t) y) (y (.int .u8 (.ofNat z))) (Nat.ble z 255)) λ w=>onB v (w (.int .i64 (.ofNat 0),()) u) (k (.int .i64 (.ofNat 14)) u))) (rc 37 [a2] h λ p q=>onTup p λ r=>nthF 0 r λ s=>onTup p λ t=>nthF 1 t λ u=>bindO (aT a0) λ v=>onPtr v λ w=>onCells s λ x=>onRow (hget q w.1) λ y z a3 a4 a5 a6=>ifB (notB a4) (ifB (Nat.beq (lenF x) 1) (ifB (Nat.ble a5 (Nat.add w.2 6)) (ifB (Nat.ble (Nat.add (Nat.add w.2 6) 1) z) (ifB (Nat.ble z 1000000000) (ifB (allF (λ a7=>cell1F a7) x) (letH (hset q w.1 (.row y z a3 false a5 (putF a6 (Nat.add w.2 6) x))) λ a7=>o (u,(.int .i64 (.ofNat 0),())) a7)))))))) (rc 37 [a2] h λ n o=>onTup n λ p=>nthF 0 p λ q=>onTup n λ r=>nthF 1 r λ s=>bindO (aT a0) λ t=>onPtr t λ u=>onCells q λ v=>onRow (hget o u.1) λ w x y z a3 a4=>ifB (notB z) (ifB (Nat.beq (lenF v) 1) (ifB (Nat.ble a3 (Nat.add u.2 5)) (ifB (Nat.ble (Nat.add (Nat.add u.2 5) 1) x) (ifB (Nat.ble x 1000000000) (ifB (allF (λ a5=>cell1F a5) v) (letH (hset o u.1 (.row w x y false a3 (putF a4 (Nat.add u.2 5) v))) λ a5=>m (s,(.int .i64 (.ofNat 0),())) a5)))))))) (rc 37 [a2] h λ l m=>onTup l λ n=>nthF 0 n λ o=>onTup l λ p=>nthF 1 p λ q=>bindO (aT a0) λ r=>onPtr r λ s=>onCells o λ t=>onRow (hget m s.1) λ u v w x y z=>ifB (notB x) (ifB (Nat.beq (lenF t) 1) (ifB (Nat.ble y (Nat.add s.2 4)) (ifB (Nat.ble (Nat.add (Nat.add s.2 4) 1) v) (ifB (Nat.ble v 1000000000) (ifB (allF (λ a3=>cell1F a3) t) (letH (hset m s.1 (.row u v w false y (putF z (Nat.add s.2 4) t))) λ a3=>j (q,(.int .i64 (.ofNat 0),())) a3)))))))) (binR (binC E .eql 9 false true) a2 (.string ⟨⟨[110,111,110,101]⟩⟩) λ i=>@joinR [6] (λ j l=>rc 37 [a2] l λ m n=>onTup m λ o=>nthF 0 o λ p=>onTup m λ q=>nthF 1 q λ r=>bindO (aT a0) λ s=>onPtr s λ t=>onCells p λ u=>onRow (hget n t.1) λ v w x y z a3=>ifB (notB y) (ifB (Nat.beq (lenF u) 1) (ifB (Nat.ble z (Nat.add t.2 4)) (ifB (Nat.ble (Nat.add (Nat.add t.2 4) 1) w) (ifB (Nat.ble w 1000000000) (ifB (allF (λ a4=>cell1F a4) u) (letH (hset n t.1 (.row v w x false z (putF a3 (Nat.add t.2 4) u))) λ a4=>g (j.1,(r,())) a4))))))) λ j=>onB i (j (.int .i64 (.ofNat 0),()) h) (bindO (aT a0) λ l=>onPtr l λ m=>onRow (hget h m.1) λ n o p q r s=>ifB (notB q) (ifB (Nat.beq (lenF [.int .i64 (.negSucc 0)]) 1) (ifB (Nat.ble r (Nat.add m.2 4)) (ifB (Nat.ble (Nat.add (Nat.add m.2 4) 1) o) (ifB (Nat.ble o 1000000000) (ifB (allF (λ t=>cell1F t) [.int .i64 (.negSucc 0)]) (letH (hset h m.1 (.row n o p false r (putF s (Nat.add m.2 4) [.int .i64 (.negSucc 0)]))) λ t=>k (.int .i64 (.ofNat 0)) t))))))))) (bindO (aT a0) λ f=>onPtr f λ g=>onRow (hget h g.1) λ _ i _ _ _ j=>ifB (Nat.ble (Nat.succ (Nat.add g.2 3)) i) (@Option.rec (List Value) (λ _=>R) none (λ l=>ifB (Nat.ble h.1 1000000000) (letH (ag h (.row 9 1 false false 0 (T.ofList unk l))) λ m=>cT (bu E m Builtin.append [getF j (Nat.add g.2 3),.slice (some (Addr.mk h.1 0 none)) 1 2] [30,30]) λ n o=>bindO (aT a0) λ p=>onPtr p λ q=>onCells n λ r=>onRow (hget o q.1) λ s t u v w x=>ifB (notB v) (ifB (Nat.beq (lenF r) 1) (ifB (Nat.ble w (Nat.add q.2 3)) (ifB (Nat.ble (Nat.add (Nat.add q.2 3) 1) t) (ifB (Nat.ble t 1000000000) (ifB (allF (λ y=>cell1F y) r) (letH (hset o q.1 (.row s t u false w (putF x (Nat.add q.2 3) r))) λ y=>e (.int .i64 (.ofNat 0),(.int .i64 (.ofNat 0),())) y)))))))) (cG (λ l=>some (Nat.mul l 1,1)) (List.flatten (List.replicate 1 (cellsOfV (.string (ByteArray.mk #[]))))) [(0,a2)])))) (bindO (bv E h 9 a2) λ d=>binR (binC E .gtr 3 false true) d (.int .i64 (.ofNat 16)) λ e=>@joinR [6] (λ f g=>bindO (aT a0) λ i=>onPtr i λ j=>onCells a2 λ l=>onRow (hget g j.1) λ m n o p q r=>ifB (notB p) (ifB (Nat.beq (lenF l) 1) (ifB (Nat.ble q (Nat.add j.2 2)) (ifB (Nat.ble (Nat.add (Nat.add j.2 2) 1) n) (ifB (Nat.ble n 1000000000) (ifB (allF (λ s=>cell1F s) l) (letH (hset g j.1 (.row m n o false q (putF r (Nat.add j.2 2) l))) λ s=>c (f.1,(.int .i64 (.ofNat 0),())) s))))))) λ f=>onB e (f (.int .i64 (.ofNat 0),()) h) (k (.int .i64 (.ofNat 16)) h))
theorem abE (t:ak)(rc:RC)(a0:Value)(a1:Value)(a2:Value)(h:H)(k:Value→H→R):(ax (EX t) KK 42).run rc [a0,a1,a2] h k = p42 (EX t) rc a0 a1 a2 h k:=by kernel_rfl
noncomputable def rW (E:Env)(a a0 a1:Value)(k:Value→H→R)(b:aa [4]→H→R):(aa [4,8]→H→R)→aa [4,8]→H→R:=λ c d e=>binR (binC E .lss 3 false false) d.2.1 a λ f=>@joinR [] (λ _ g=>@joinR [4] (λ h i=>binR (binC E .add 3 false true) d.2.1 (.int .i64 (.ofNat 1)) λ j=>c (h.1,(j,())) i) λ h=>onNat d.2.1 none λ i=>onSl a0 none λ j l _=>ifB (Nat.ble (Nat.succ i) l) (addOffF j (Nat.mul i 1) λ m=>onPtr m λ n=>onRow (hget g n.1) λ _ o _ _ _ p=>ifB (Nat.ble (Nat.succ n.2) o) (binR (binC E .eql 9 false false) a1 (getF p n.2) λ q=>@joinR [4] (λ r s=>h (r.1,()) s) λ r=>onB q (r (d.1,()) g) (k d.2.1 g)))) λ g=>onB f (b (d.1,()) e) (g () e)
noncomputable def p64 (E:Env)(rc:RC)(a0:Value)(a1:Value)(h:H)(k:Value→H→R):R:=joinL (λ a=>@joinR [4] (λ _ b=>k (.int .i64 (.negSucc 0)) b) λ b=>@loopF [4,8] (rW E a a0 a1 k b) ft (.int .i64 (.ofNat 0),(.int .i64 (.ofNat 0),())) h) λ a=>onSl a0 (bindO (bv E h 30 a0) a) λ _ b _=>a (.int .i64 (.ofNat b))
theorem adf (t:ak)(rc:RC)(a0:Value)(a1:Value)(h:H)(k:Value→H→R):(ax (EX t) KK 64).run rc [a0,a1] h k = p64 (EX t) rc a0 a1 h k:=by kernel_rfl
noncomputable def p65 (E:Env)(rc:RC)(h:H)(k:Value→H→R):R:=ifB (Nat.ble h.1 1000000000) (letH (ag h (.row 9 5 false false 0 (T.ofList unk (lay (lay (lay (lay (lay (List.flatten (List.replicate 5 (cellsOfV (.string (ByteArray.mk #[]))))) 0 (cellsOfV (.string ⟨⟨[110,111,116,101]⟩⟩))) 1 (cellsOfV (.string ⟨⟨[97,108,108,111,99]⟩⟩))) 2 (cellsOfV (.string ⟨⟨[97,103,97,105,110]⟩⟩))) 3 (cellsOfV (.string ⟨⟨[107,105,108,108]⟩⟩))) 4 (cellsOfV (.string ⟨⟨[100,101,115,116,114,111,121]⟩⟩)))))) λ a=>k (.slice (some (Addr.mk h.1 0 none)) 5 10) a)
theorem ajH (t:ak)(rc:RC)(h:H)(k:Value→H→R):(ax (EX t) KK 65).run rc [] h k = p65 (EX t) rc h k:=by kernel_rfl
noncomputable def p66 (E:Env)(rc:RC)(a0:Value)(h:H)(k:Value→H→R):R:=binR (binC E .eql 9 false true) a0 (.string ⟨⟨[46]⟩⟩) λ a=>@joinR [2] (λ _ b=>k a0 b) λ b=>onB a (b (.string (ByteArray.mk #[]),()) h) (k (.string (ByteArray.mk #[])) h)
theorem Ug (t:ak)(rc:RC)(a0:Value)(h:H)(k:Value→H→R):(ax (EX t) KK 66).run rc [a0] h k = p66 (EX t) rc a0 h k:=by kernel_rfl
noncomputable def XS (a:aa [7,8,9,10,2,3,4,5,6])(k:Value→H→R)(b:H):R:=ifB (nT [a.1,a.2.1,a.2.2.2.1,.int .i64 (.ofNat 0),.int .i64 (.ofNat 0)]) (k (.tuple ⟨[a.1,a.2.1,a.2.2.2.1,.int .i64 (.ofNat 0),.int .i64 (.ofNat 0)]⟩) b)
noncomputable def Bu (E:Env)(a b:Value)(rc:RC)(k:Value→H→R)(c:aa [7,8,9,10,2,3,4,5,6]→H→R):(aa [7,8,9,10,2,3,4,5,6,22]→H→R)→aa [7,8,9,10,2,3,4,5,6,22]→H→R:=λ d e f=>binR (binC E .lss 3 false false) e.2.2.2.2.2.2.2.2.2.1 a λ g=>@joinR [] (λ _ h=>@joinR [7,8,9,10,2,3,4,5,6] (λ i j=>binR (binC E .add 3 false true) e.2.2.2.2.2.2.2.2.2.1 (.int .i64 (.ofNat 1)) λ l=>d (i.1,(i.2.1,(i.2.2.1,(i.2.2.2.1,(i.2.2.2.2.1,(i.2.2.2.2.2.1,(i.2.2.2.2.2.2.1,(i.2.2.2.2.2.2.2.1,(i.2.2.2.2.2.2.2.2.1,(l,())))))))))) j) λ i=>onNat e.2.2.2.2.2.2.2.2.2.1 none λ j=>onSl b none λ l m _=>ifB (Nat.ble (Nat.succ j) m) (addOffF l (Nat.mul j 1) λ n=>onPtr n λ o=>onRow (hget h o.1) λ _ p _ _ _ q=>ifB (Nat.ble (Nat.succ o.2) p) (rc 17 [getF q o.2] h λ r s=>joinL (λ t=>binR (binC E .eql 3 false true) t (.int .i64 (.ofNat 0)) λ u=>@joinR [] (λ _ v=>@joinR [7,8,14,9,10] (λ w x=>binR (binC E .neq 24 false true) w.2.2.1 (.int .i64 (.ofNat 0)) λ y=>@joinR [2,3,4,5,6] (λ z a0=>i (w.1,(w.2.1,(w.2.2.2.1,(w.2.2.2.2.1,(z.1,(z.2.1,(z.2.2.1,(z.2.2.2.1,(z.2.2.2.2.1,()))))))))) a0) λ z=>onB y (z (e.2.2.2.2.1,(e.2.2.2.2.2.1,(e.2.2.2.2.2.2.1,(e.2.2.2.2.2.2.2.1,(e.2.2.2.2.2.2.2.2.1,()))))) x) (binR (binC E .add 3 false true) e.2.2.2.2.2.2.2.2.2.1 (.int .i64 (.ofNat 1)) λ a0=>ifB (nT [.int .i64 (.ofNat 0),.int .i64 (.ofNat 0),.slice none 0 0,a0,w.2.2.1]) (k (.tuple ⟨[.int .i64 (.ofNat 0),.int .i64 (.ofNat 0),.slice none 0 0,a0,w.2.2.1]⟩) x))) λ w=>onB e.2.2.1 (@joinR [7,8,14,9,10] (λ x y=>w (x.1,(x.2.1,(x.2.2.1,(x.2.2.2.1,(x.2.2.2.2.1,()))))) y) λ x=>rc 18 [r] v λ y z=>onTup y λ a0=>nthF 0 a0 λ a1=>onTup y λ a2=>nthF 1 a2 λ a3=>onTup y λ a4=>nthF 2 a4 λ a5=>x (a1,(a3,(a5,(.bool true,(e.2.2.2.1,()))))) z) (@joinR [7,8,14,9,10] (λ x y=>w (x.1,(x.2.1,(x.2.2.1,(x.2.2.2.1,(x.2.2.2.2.1,()))))) y) λ x=>joinL (λ y=>binR (binC E .geq 3 false true) y (.int .i64 (.ofNat 1000)) λ z=>@joinR [14,10] (λ a0 a1=>x (e.1,(e.2.1,(a0.1,(e.2.2.1,(a0.2.1,()))))) a1) λ a0=>onB z (ifB (Nat.ble v.1 1000000000) (letH (ag v (.row 32 9 false false 0 (T.ofList unk [.int .i64 (.ofNat 0),.int .u8 (.ofNat 0),.string (ByteArray.mk #[]),.slice none 0 0,.int .i64 (.ofNat 0),.int .i64 (.ofNat 0),.int .i64 (.ofNat 0),.int .u8 (.ofNat 0),.slice none 0 0]))) λ a1=>binR (binC E .add 3 false true) e.2.2.2.2.2.2.2.2.2.1 (.int .i64 (.ofNat 1)) λ a2=>rc 19 [a2,r] a1 λ a3 a4=>onTup a3 λ a5=>nthF 0 a5 λ a6=>onTup a3 λ a7=>nthF 1 a7 λ a8=>onCells a6 λ a9=>onRow (hget a4 v.1) λ b0 b1 b2 b3 b4 b5=>ifB (notB b3) (ifB (Nat.beq (lenF a9) 9) (ifB (Nat.ble b4 0) (ifB (Nat.ble 9 b1) (ifB (Nat.ble b1 1000000000) (ifB (allF (λ b6=>cell1F b6) a9) (letH (hset a4 v.1 (.row b0 b1 b2 false b4 (putF b5 0 a9))) λ b6=>onRow (hget b6 v.1) λ _ b7 _ _ _ b8=>ifB (Nat.ble 9 b7) (@Option.rec (List Value) (λ _=>R) none (λ b9=>ifB (Nat.ble b6.1 1000000000) (letH (ag b6 (.row 32 9 false false 0 (T.ofList unk b9))) λ c0=>cT (bu E c0 Builtin.append [e.2.2.2.1,.slice (some (Addr.mk b6.1 0 none)) 1 2] [23,23]) λ c1 c2=>a0 (a8,(c1,())) c2)) (cG (λ b9=>some (Nat.mul b9 9,9)) (List.flatten (List.replicate 1 (cellsOfV (.agg (@List.toArray Value [.int .i64 (.ofNat 0),.int .u8 (.ofNat 0),.string (ByteArray.mk #[]),.slice none 0 0,.int .i64 (.ofNat 0),.int .i64 (.ofNat 0),.int .i64 (.ofNat 0),.int .u8 (.ofNat 0),.slice none 0 0]))))) [(0,.agg ⟨ac b8 9 0⟩)])))))))))) (a0 (.int .i64 (.ofNat 15),(e.2.2.2.1,())) v)) λ y=>onSl e.2.2.2.1 (bindO (bv E v 23 e.2.2.2.1) y) λ _ z _=>y (.int .i64 (.ofNat z)))) λ v=>onB u (v () s) (i (e.1,(e.2.1,(e.2.2.1,(e.2.2.2.1,(e.2.2.2.2.1,(e.2.2.2.2.2.1,(e.2.2.2.2.2.2.1,(e.2.2.2.2.2.2.2.1,(e.2.2.2.2.2.2.2.2.1,()))))))))) s)) λ t=>onSl r (bindO (bv E s 30 r) t) λ _ u _=>t (.int .i64 (.ofNat u))))) λ h=>onB g (c (e.1,(e.2.1,(e.2.2.1,(e.2.2.2.1,(e.2.2.2.2.1,(e.2.2.2.2.2.1,(e.2.2.2.2.2.2.1,(e.2.2.2.2.2.2.2.1,(e.2.2.2.2.2.2.2.2.1,()))))))))) f) (h () f)
noncomputable def p7 (E:Env)(rc:RC)(a0:Value)(h:H)(k:Value→H→R):R:=bindO (bv E h 9 a0) λ a=>binR (binC E .gtr 3 false true) a (.int .i64 (.ofNat 65536)) λ b=>@joinR [2,3,4,5,6] (λ c d=>rc 16 [a0,.string ⟨⟨[10]⟩⟩] d λ e f=>joinL (λ g=>@joinR [7,8,9,10,2,3,4,5,6] (λ i j=>onB i.2.2.1 (@joinR [2,3,4,5,6] (λ _ l=>XS i k l) λ _=>k (.tuple ⟨[.int .i64 (.ofNat 0),.int .i64 (.ofNat 0),.slice none 0 0,.int .i64 (.ofNat 0),.int .i64 (.ofNat 19)]⟩) j) (@joinR [2,3,4,5,6] (λ _ l=>XS i k l) λ l=>l (i.2.2.2.2.1,(i.2.2.2.2.2.1,(i.2.2.2.2.2.2.1,(i.2.2.2.2.2.2.2.1,(i.2.2.2.2.2.2.2.2.1,()))))) j)) λ i=>@loopF [7,8,9,10,2,3,4,5,6,22] (Bu E g e rc k i) ft (.int .i64 (.ofNat 0),(.int .i64 (.ofNat 0),(.bool false,(.slice none 0 0,(c.1,(c.2.1,(c.2.2.1,(c.2.2.2.1,(c.2.2.2.2.1,(.int .i64 (.ofNat 0),())))))))))) f) λ g=>onSl e (bindO (bv E f 30 e) g) λ _ i _=>g (.int .i64 (.ofNat i))) λ c=>onB b (c (.int .i64 (.ofNat 0),(.int .i64 (.ofNat 0),(.slice none 0 0,(.int .i64 (.ofNat 0),(.int .i64 (.ofNat 0),()))))) h) (k (.tuple ⟨[.int .i64 (.ofNat 0),.int .i64 (.ofNat 0),.slice none 0 0,.int .i64 (.ofNat 0),.int .i64 (.ofNat 16)]⟩) h)
theorem ap1 (t:ak)(rc:RC)(a0:Value)(h:H)(k:Value→H→R):(ax (EX t) KK 7).run rc [a0] h k = p7 (EX t) rc a0 h k:=by kernel_rfl
noncomputable def p17 (E:Env)(rc:RC)(a0:Value)(h:H)(k:Value→H→R):R:=rc 35 [a0,.func (.func 36) #[] #[]] h λ a b=>joinL (λ c=>binR (binC E .gtr 3 false true) c (.int .i64 (.ofNat 0)) λ d=>ae (λ e f=>ae (λ g i=>ae (λ j l=>ae (λ m n=>ae (λ o p=>onB d (@joinR [2] (λ _ q=>k a q) λ q=>q (.slice none 0 0,()) p) (@joinR [2] (λ _ q=>k a q) λ q=>onB o (q (.slice none 0 0,()) p) (k (.slice none 0 0) p))) λ o=>aB d (o undef n) (binR (binC E .eql 5 false true) m (.int .u8 (.ofNat 35)) λ p=>o p n) (o undef n)) λ m=>aB d (m undef l) (bindO (dD E 9 j (.int .i64 (.ofNat 0))) λ n=>m n l) (m undef l)) λ j=>aB d (j undef i) (onPtr g λ l=>onRow (hget i l.1) λ _ m _ _ _ n=>ifB (Nat.ble (Nat.succ l.2) m) (j (getF n l.2) i)) (j undef i)) λ g=>aB d (g undef f) (onSl e none λ i j _=>ifB (Nat.ble 1 j) (g (.pointer (some i)) f)) (g undef f)) λ e=>aB d (e undef b) (e a b) (e undef b)) λ c=>onSl a (bindO (bv E b 30 a) c) λ _ d _=>c (.int .i64 (.ofNat d))
theorem Re (t:ak)(rc:RC)(a0:Value)(h:H)(k:Value→H→R):(ax (EX t) KK 17).run rc [a0] h k = p17 (EX t) rc a0 h k:=by kernel_rfl
noncomputable def y9 (a0:Value)(a:H)(rc:RC)(E:Env)(k:Value→H→R)(b:aa [2,3,4]):R:=onSl a0 none λ c d _=>ifB (Nat.ble 2 d) (addOffF c 1 λ e=>onPtr e λ f=>onRow (hget a f.1) λ _ g _ _ _ h=>ifB (Nat.ble (Nat.succ f.2) g) (rc 37 [getF h f.2] a λ i j=>onTup i λ l=>nthF 0 l λ m=>onTup i λ n=>nthF 1 n λ o=>binR (binC E .neq 24 false true) o (.int .i64 (.ofNat 0)) λ p=>@joinR [2,3,4] (λ _ q=>onSl a0 none λ r s _=>ifB (Nat.ble 3 s) (addOffF r 2 λ t=>onPtr t λ u=>onRow (hget q u.1) λ _ v _ _ _ w=>ifB (Nat.ble (Nat.succ u.2) v) (rc 37 [getF w u.2] q λ x y=>onTup x λ z=>nthF 0 z λ a1=>onTup x λ a2=>nthF 1 a2 λ a3=>ifB (nT [m,a1,a3]) (k (.tuple ⟨[m,a1,a3]⟩) y)))) λ q=>onB p (q (b.1,(b.2.1,(b.2.2.1,()))) j) (ifB (nT [.int .i64 (.ofNat 0),.int .i64 (.ofNat 0),o]) (k (.tuple ⟨[.int .i64 (.ofNat 0),.int .i64 (.ofNat 0),o]⟩) j))))
noncomputable def p18 (E:Env)(rc:RC)(a0:Value)(h:H)(k:Value→H→R):R:=joinL (λ a=>binR (binC E .neq 3 false true) a (.int .i64 (.ofNat 3)) λ b=>ae (λ c d=>ae (λ e f=>ae (λ g i=>ae (λ j l=>onB b (@joinR [2,3,4] (λ m n=>y9 a0 n rc E k m) λ m=>onB j (m (.int .i64 (.ofNat 0),(.int .i64 (.ofNat 0),(.int .i64 (.ofNat 0),()))) l) (k (.tuple ⟨[.int .i64 (.ofNat 0),.int .i64 (.ofNat 0),.int .i64 (.ofNat 14)]⟩) l)) (@joinR [2,3,4] (λ m n=>y9 a0 n rc E k m) λ _=>k (.tuple ⟨[.int .i64 (.ofNat 0),.int .i64 (.ofNat 0),.int .i64 (.ofNat 14)]⟩) l)) λ j=>aB b (binR (binC E .neq 9 false true) g (.string ⟨⟨[97,114,101,110,97]⟩⟩) λ l=>j l i) (j undef i) (j undef i)) λ g=>aB b (onPtr e λ i=>onRow (hget f i.1) λ _ j _ _ _ l=>ifB (Nat.ble (Nat.succ i.2) j) (g (getF l i.2) f)) (g undef f) (g undef f)) λ e=>aB b (onSl c none λ f g _=>ifB (Nat.ble 1 g) (e (.pointer (some f)) d)) (e undef d) (e undef d)) λ c=>aB b (c a0 h) (c undef h) (c undef h)) λ a=>onSl a0 (bindO (bv E h 30 a0) a) λ _ b _=>a (.int .i64 (.ofNat b))
theorem U9 (t:ak)(rc:RC)(a0:Value)(h:H)(k:Value→H→R):(ax (EX t) KK 18).run rc [a0] h k = p18 (EX t) rc a0 h k:=by kernel_rfl
noncomputable def Pn (a:Value)(k:Value→H→R)(b:H):R:=ifB (nT [a,.int .i64 (.ofNat 0)]) (k (.tuple ⟨[a,.int .i64 (.ofNat 0)]⟩) b)
noncomputable def sc (E:Env)(a a0:Value)(k:Value→H→R)(b:aa [2,3]→H→R):(aa [2,3,21]→H→R)→aa [2,3,21]→H→R:=λ c d e=>binR (binC E .lss 3 false false) d.2.2.1 a λ f=>@joinR [] (λ _ g=>@joinR [2,3] (λ h i=>binR (binC E .add 3 false true) d.2.2.1 (.int .i64 (.ofNat 1)) λ j=>c (h.1,(h.2.1,(j,()))) i) λ h=>bindO (dD E 9 a0 d.2.2.1) λ i=>binR (binC E .lss 5 false true) i (.int .u8 (.ofNat 48)) λ j=>ae (λ l m=>ae (λ n o=>ae (λ p q=>ae (λ r s=>onB j (@joinR [2,3] (λ t u=>h (t.1,(t.2.1,())) u) λ t=>onB r (t (d.1,(d.2.1,())) s) (k (.tuple ⟨[.int .i64 (.ofNat 0),.int .i64 (.ofNat 14)]⟩) s)) (@joinR [2,3] (λ t u=>h (t.1,(t.2.1,())) u) λ _=>k (.tuple ⟨[.int .i64 (.ofNat 0),.int .i64 (.ofNat 14)]⟩) s)) λ r=>aB j (binR (binC E .gtr 5 false true) p (.int .u8 (.ofNat 57)) λ s=>r s q) (r undef q) (r undef q)) λ p=>aB j (bindO (dD E 9 l n) λ q=>p q o) (p undef o) (p undef o)) λ n=>aB j (n d.2.2.1 m) (n undef m) (n undef m)) λ l=>aB j (l a0 g) (l undef g) (l undef g)) λ g=>onB f (b (d.1,(d.2.1,())) e) (g () e)
noncomputable def wB (E:Env)(a:H)(a0:Value)(rc:RC)(k:Value→H→R)(b:aa [2,3]):R:=bindO (bv E a 9 a0) λ c=>@joinR [2,3] (λ d e=>rc 62 [a0] e λ f g=>onTup f λ h=>nthF 0 h λ i=>onTup f λ j=>nthF 1 j λ l=>binR (binC E .neq 62 false true) l .nilIface λ m=>ae (λ n o=>ae (λ p q=>onB m (@joinR [2,3] (λ _ r=>Pn i k r) λ r=>onB p (r (d.1,(d.2.1,())) q) (k (.tuple ⟨[.int .i64 (.ofNat 0),.int .i64 (.ofNat 3)]⟩) q)) (@joinR [2,3] (λ _ r=>Pn i k r) λ _=>k (.tuple ⟨[.int .i64 (.ofNat 0),.int .i64 (.ofNat 3)]⟩) q)) λ p=>aB m (binR (binC E .gtr 3 false true) n (.int .i64 (.ofNat 4294967296)) λ q=>p q o) (p undef o) (p undef o)) λ n=>aB m (n i g) (n undef g) (n undef g)) λ d=>@loopF [2,3,21] (sc E c a0 k d) ft (b.1,(b.2.1,(.int .i64 (.ofNat 0),()))) a
noncomputable def p37 (E:Env)(rc:RC)(a0:Value)(h:H)(k:Value→H→R):R:=binR (binC E .eql 9 false true) a0 (.string (ByteArray.mk #[])) λ a=>ae (λ b c=>ae (λ d e=>ae (λ f g=>ae (λ i j=>ae (λ l m=>ae (λ n o=>ae (λ p q=>ae (λ r s=>onB a (@joinR [2,3] (λ t u=>wB E u a0 rc k t) λ t=>onB r (t (.int .i64 (.ofNat 0),(.int .i64 (.ofNat 0),())) s) (k (.tuple ⟨[.int .i64 (.ofNat 0),.int .i64 (.ofNat 14)]⟩) s)) (@joinR [2,3] (λ t u=>wB E u a0 rc k t) λ _=>k (.tuple ⟨[.int .i64 (.ofNat 0),.int .i64 (.ofNat 14)]⟩) s)) λ r=>aB a (onB i (r (.bool false) q) (r p q)) (r undef q) (r undef q)) λ p=>aB i (p undef o) (binR (binC E .eql 5 false true) n (.int .u8 (.ofNat 48)) λ q=>p q o) (p undef o)) λ n=>aB i (n undef m) (bindO (dD E 9 l (.int .i64 (.ofNat 0))) λ o=>n o m) (n undef m)) λ l=>aB i (l undef j) (l a0 j) (l undef j)) λ i=>aB a (i f g) (i undef g) (i undef g)) λ f=>aB a (binR (binC E .gtr 3 false true) d (.int .i64 (.ofNat 1)) λ g=>f g e) (f undef e) (f undef e)) λ d=>aB a (bindO (bv E c 9 b) λ e=>d e c) (d undef c) (d undef c)) λ b=>aB a (b a0 h) (b undef h) (b undef h)
theorem Sf (t:ak)(rc:RC)(a0:Value)(h:H)(k:Value→H→R):(ax (EX t) KK 37).run rc [a0] h k = p37 (EX t) rc a0 h k:=by kernel_rfl
noncomputable def sn (E:Env)(a b:Value)(c:H)(rc:RC)(d e:H)(k:Value→H→R)(f:aa [5]→H→R):(aa [5,40]→H→R)→aa [5,40]→H→R:=λ g h i=>binR (binC E .lss 3 false false) h.2.1 a λ j=>@joinR [] (λ _ l=>@joinR [5] (λ m n=>binR (binC E .add 3 false true) h.2.1 (.int .i64 (.ofNat 1)) λ o=>g (m.1,(o,())) n) λ m=>onNat h.2.1 none λ n=>onSl b none λ o p _=>ifB (Nat.ble (Nat.succ n) p) (addOffF o (Nat.mul n 1) λ q=>onPtr q λ r=>onRow (hget l r.1) λ _ s _ _ _ t=>ifB (Nat.ble (Nat.succ r.2) s) (onRow (hget l c.1) λ _ u _ _ _ v=>ifB (Nat.ble 2 u) (onRow (hget l c.1) λ _ w _ _ _ x=>ifB (Nat.ble 2 w) (bindO (bv E l 9 (getF x 1)) λ y=>binR (binC E .sub 3 false true) y (.int .i64 (.ofNat 1)) λ z=>bindO (bn E l Builtin.min [h.2.1,z] [3,3]) λ a0=>bindO (dD E 9 (getF v 1) a0) λ a1=>rc 42 [.pointer (some (Addr.mk d.1 0 none)),a1,getF t r.2] l λ a2 a3=>binR (binC E .neq 24 false true) a2 (.int .i64 (.ofNat 0)) λ a4=>@joinR [5] (λ a5 a6=>m (a5.1,()) a6) λ a5=>onB a4 (a5 (h.1,()) a3) (onRow (hget a3 e.1) λ a6 a7 a8 a9 b0 b1=>ifB (notB a9) (ifB (Nat.beq (lenF (cellsOfV (.agg (@List.toArray Value [.int .i64 (.ofNat 0),.int .u8 (.ofNat 0),.string (ByteArray.mk #[]),.slice none 0 0,.int .i64 (.ofNat 0),.int .i64 (.ofNat 0),.int .i64 (.ofNat 0),.int .u8 (.ofNat 0),.slice none 0 0])))) 9) (ifB (Nat.ble b0 0) (ifB (Nat.ble 9 a7) (ifB (Nat.ble a7 1000000000) (ifB (allF (λ b2=>cell1F b2) (cellsOfV (.agg (@List.toArray Value [.int .i64 (.ofNat 0),.int .u8 (.ofNat 0),.string (ByteArray.mk #[]),.slice none 0 0,.int .i64 (.ofNat 0),.int .i64 (.ofNat 0),.int .i64 (.ofNat 0),.int .u8 (.ofNat 0),.slice none 0 0])))) (letH (hset a3 e.1 (.row a6 a7 a8 false b0 (putF b1 0 (cellsOfV (.agg (@List.toArray Value [.int .i64 (.ofNat 0),.int .u8 (.ofNat 0),.string (ByteArray.mk #[]),.slice none 0 0,.int .i64 (.ofNat 0),.int .i64 (.ofNat 0),.int .i64 (.ofNat 0),.int .u8 (.ofNat 0),.slice none 0 0])))))) λ b2=>bindO (aU E b2 32 (Addr.mk e.1 0 none)) λ b3=>ifB (nT [b3,a2]) (k (.tuple ⟨[b3,a2]⟩) b2))))))))))))) λ l=>onB j (f (h.1,()) i) (l () i)
noncomputable def wU (rc:RC)(a:H)(b:Value)(E:Env)(a0:Value)(h c:H)(k:Value→H→R)(d:aa [5]):R:=rc 39 [] a λ e f=>onNat b none λ g=>onSl e none λ i j _=>ifB (Nat.ble (Nat.succ g) j) (addOffF i (Nat.mul g 2) λ l=>onPtr l λ m=>onRow (hget f m.1) λ _ n _ _ _ o=>ifB (Nat.ble (Nat.add m.2 2) n) (ifB (Nat.ble f.1 1000000000) (letH (ag f (.row 77 2 false false 0 (T.ofList unk [.string (ByteArray.mk #[]),.string (ByteArray.mk #[])]))) λ p=>onRow (hget p f.1) λ q r s t u v=>ifB (notB t) (ifB (Nat.beq (lenF (ac o 2 m.2)) 2) (ifB (Nat.ble u 0) (ifB (Nat.ble 2 r) (ifB (Nat.ble r 1000000000) (ifB (allF (λ w=>cell1F w) (ac o 2 m.2)) (letH (hset p f.1 (.row q r s false u (putF v 0 (ac o 2 m.2)))) λ w=>joinL (λ x=>bindO (cg E 32 [(0,a0),(1,x)]) λ y=>ifB (Nat.ble w.1 1000000000) (letH (ag w (.row 32 9 false false 0 (T.ofList unk [.int .i64 (.ofNat 0),.int .u8 (.ofNat 0),.string (ByteArray.mk #[]),.slice none 0 0,.int .i64 (.ofNat 0),.int .i64 (.ofNat 0),.int .i64 (.ofNat 0),.int .u8 (.ofNat 0),.slice none 0 0]))) λ z=>onCells y λ a1=>onRow (hget z w.1) λ a2 a3 a4 a5 a6 a7=>ifB (notB a5) (ifB (Nat.beq (lenF a1) 9) (ifB (Nat.ble a6 0) (ifB (Nat.ble 9 a3) (ifB (Nat.ble a3 1000000000) (ifB (allF (λ a8=>cell1F a8) a1) (letH (hset z w.1 (.row a2 a3 a4 false a6 (putF a7 0 a1))) λ a8=>onRow (hget a8 h.1) λ _ a9 _ _ _ b0=>ifB (Nat.ble 1 a9) (bindO (dd E 30 (getF b0 0) (some (.int .i64 (.ofNat 1))) none none) λ b1=>joinL (λ b2=>@joinR [5] (λ _ b3=>onRow (hget b3 w.1) λ _ b4 _ _ _ b5=>ifB (Nat.ble 9 b4) (onRow (hget b3 c.1) λ b6 b7 b8 b9 c0 c1=>ifB (notB b9) (ifB (Nat.beq (lenF (ac b5 9 0)) 9) (ifB (Nat.ble c0 0) (ifB (Nat.ble 9 b7) (ifB (Nat.ble b7 1000000000) (ifB (allF (λ c2=>cell1F c2) (ac b5 9 0)) (letH (hset b3 c.1 (.row b6 b7 b8 false c0 (putF c1 0 (ac b5 9 0)))) λ c2=>bindO (aU E c2 32 (Addr.mk c.1 0 none)) λ c3=>ifB (nT [c3,.int .i64 (.ofNat 0)]) (k (.tuple ⟨[c3,.int .i64 (.ofNat 0)]⟩) c2))))))))) λ b3=>@loopF [5,40] (sn E b2 b1 f rc w c k b3) ft (d.1,(.int .i64 (.ofNat 0),())) a8) λ b2=>onSl b1 (bindO (bv E a8 30 b1) b2) λ _ b3 _=>b2 (.int .i64 (.ofNat b3))))))))))) λ x=>onNat b (bindO (aQ E w 3 5 b) x) λ y=>@Bool.rec (λ _=>R) (bindO (aQ E w 3 5 b) x) (x (.int .u8 (.ofNat y))) (Nat.ble y 255))))))))))
noncomputable def wJ (a b:H)(E:Env)(k:Value→H→R):R:=onRow (hget a b.1) λ c d e f g h=>ifB (notB f) (ifB (Nat.beq (lenF (cellsOfV (.agg (@List.toArray Value [.int .i64 (.ofNat 0),.int .u8 (.ofNat 0),.string (ByteArray.mk #[]),.slice none 0 0,.int .i64 (.ofNat 0),.int .i64 (.ofNat 0),.int .i64 (.ofNat 0),.int .u8 (.ofNat 0),.slice none 0 0])))) 9) (ifB (Nat.ble g 0) (ifB (Nat.ble 9 d) (ifB (Nat.ble d 1000000000) (ifB (allF (λ i=>cell1F i) (cellsOfV (.agg (@List.toArray Value [.int .i64 (.ofNat 0),.int .u8 (.ofNat 0),.string (ByteArray.mk #[]),.slice none 0 0,.int .i64 (.ofNat 0),.int .i64 (.ofNat 0),.int .i64 (.ofNat 0),.int .u8 (.ofNat 0),.slice none 0 0])))) (letH (hset a b.1 (.row c d e false g (putF h 0 (cellsOfV (.agg (@List.toArray Value [.int .i64 (.ofNat 0),.int .u8 (.ofNat 0),.string (ByteArray.mk #[]),.slice none 0 0,.int .i64 (.ofNat 0),.int .i64 (.ofNat 0),.int .i64 (.ofNat 0),.int .u8 (.ofNat 0),.slice none 0 0])))))) λ i=>bindO (aU E i 32 (Addr.mk b.1 0 none)) λ j=>ifB (nT [j,.int .i64 (.ofNat 14)]) (k (.tuple ⟨[j,.int .i64 (.ofNat 14)]⟩) i)))))))
noncomputable def vE (a:Value)(E:Env)(b:Value)(c:Value→R):R:=aB a (binR (binC E .sub 3 false true) b (.int .i64 (.ofNat 1)) c) (c undef) (c undef)
noncomputable def wN (a:Value)(b:Value→R)(c:Value)(E:Env)(d:H):R:=aB a (joinL b λ e=>onSl c (bindO (bv E d 30 c) e) λ _ f _=>e (.int .i64 (.ofNat f))) (b undef) (b undef)
noncomputable def p19 (E:Env)(rc:RC)(a0:Value)(a1:Value)(h:H)(k:Value→H→R):R:=onCells a1 λ a=>ifB (allF (λ b=>cell1F b) a) (ifB (Nat.ble h.1 1000000000) (letH (ag h (.row 30 (lenF a) false false 0 (T.ofList unk a))) λ b=>ifB (Nat.ble b.1 1000000000) (letH (ag b (.row 32 9 false false 0 (T.ofList unk [.int .i64 (.ofNat 0),.int .u8 (.ofNat 0),.string (ByteArray.mk #[]),.slice none 0 0,.int .i64 (.ofNat 0),.int .i64 (.ofNat 0),.int .i64 (.ofNat 0),.int .u8 (.ofNat 0),.slice none 0 0]))) λ c=>rc 39 [] c λ d e=>ifB (fx (allF (λ f=>eG f) []) (allF (λ f=>eG f) [.pointer (some (Addr.mk h.1 0 none))])) (rc 38 [d,.func (.func 40) ⟨[]⟩ ⟨[.pointer (some (Addr.mk h.1 0 none))]⟩] e λ f g=>ifB (Nat.ble g.1 1000000000) (letH (H.mk g.1 g.2) λ i=>binR (binC E .lss 3 false true) f (.int .i64 (.ofNat 0)) λ j=>joinL (λ l=>joinL (λ m=>joinL (λ n=>joinL (λ o=>ae (λ p q=>joinL (λ r=>ifB (aj r l) (joinL (λ s=>ifB (aj s m) (joinL (λ t=>ifB (aj t n) (joinL (λ u=>ifB (aj u o) (joinL (λ v=>joinL (λ w=>ae (λ x y=>joinL (λ z=>onB j (@joinR [5] (λ a2 a3=>wU rc a3 f E a0 h b k a2) λ a2=>onB z (a2 (.int .i64 (.ofNat 0),()) y) (wJ y b E k)) (@joinR [5] (λ a2 a3=>wU rc a3 f E a0 h b k a2) λ _=>wJ y b E k)) λ z=>aB j (onB x (z (.bool true)) (z (.bool false))) (z undef) (z undef)) λ x=>aB j (rc 41 [w,o] q x) (x undef q) (x undef q)) λ w=>aB j (onPtr v λ x=>onRow (hget q x.1) λ _ y _ _ _ z=>ifB (Nat.ble (Nat.add x.2 2) y) (w (.agg ⟨ac z 2 x.2⟩))) (w undef) (w undef)) λ v=>aB j (onNat l none λ w=>onSl p none λ x y _=>ifB (Nat.ble (Nat.succ w) y) (addOffF x (Nat.mul w 2) v)) (v undef) (v undef))) λ u=>vE j E n u)) λ t=>wN j t m E q)) λ s=>aB j (onRow (hget q h.1) λ _ t _ _ _ u=>ifB (Nat.ble 1 t) (s (getF u 0))) (s undef) (s undef))) λ r=>aB j (r f) (r undef) (r undef)) λ p=>aB j (rc 39 [] i p) (p undef i) (p undef i)) λ o=>vE j E n o) λ n=>wN j n m E i) λ m=>aB j (onRow (hget i h.1) λ _ n _ _ _ o=>ifB (Nat.ble 1 n) (m (getF o 0))) (m undef) (m undef)) λ l=>aB j (l f) (l undef) (l undef))))))
theorem Zq (t:ak)(rc:RC)(a0:Value)(a1:Value)(h:H)(k:Value→H→R):(ax (EX t) KK 19).run rc [a0,a1] h k = p19 (EX t) rc a0 a1 h k:=by kernel_rfl
end Go.Ev
namespace Go.Ev
open Go F Go.Proofs
set_option maxRecDepth 100000
set_option linter.unusedVariables false
noncomputable def ar4 (k:Value→H→R)(a:H):R:=ae (λ _ b=>ae (λ _ c=>ae (λ _ d=>ae (λ _ e=>ae (λ _ f=>k (.bool false) f) λ f=>f undef e) λ e=>e undef d) λ d=>d undef c) λ c=>c undef b) λ b=>b undef a
noncomputable def asi (k:Value→H→R)(a:H):R:=ae (λ _ b=>ae (λ _ c=>ae (λ _ d=>ae (λ _ e=>ae (λ _ f=>ar4 k f) λ f=>f undef e) λ e=>e undef d) λ d=>d undef c) λ c=>c undef b) λ b=>b undef a
noncomputable def ar3 (k:Value→H→R)(a:H):R:=ae (λ _ b=>ae (λ _ c=>ae (λ _ d=>ae (λ _ e=>ae (λ _ f=>asi k f) λ f=>f undef e) λ e=>e undef d) λ d=>d undef c) λ c=>c undef b) λ b=>b undef a
noncomputable def ash (k:Value→H→R)(a:H):R:=ae (λ _ b=>ae (λ _ c=>ae (λ _ d=>ae (λ _ e=>ae (λ _ f=>ar3 k f) λ f=>f undef e) λ e=>e undef d) λ d=>d undef c) λ c=>c undef b) λ b=>b undef a
noncomputable def ast (k:Value→H→R)(a:H):R:=ae (λ _ b=>ae (λ _ c=>ae (λ _ d=>ae (λ _ e=>ae (λ _ f=>ash k f) λ f=>f undef e) λ e=>e undef d) λ d=>d undef c) λ c=>c undef b) λ b=>b undef a
noncomputable def ar6 (k:Value→H→R)(a:H):R:=ae (λ _ b=>ae (λ _ c=>ae (λ _ d=>ae (λ _ e=>ae (λ _ f=>ast k f) λ f=>f undef e) λ e=>e undef d) λ d=>d undef c) λ c=>c undef b) λ b=>b undef a
noncomputable def An (a:Value)(b:Value→H→R)(c:H)(d:Value):R:=aB a (b undef c) (onPtr d λ e=>onRow (hget c e.1) λ _ f _ _ _ g=>ifB (Nat.ble (Nat.succ e.2) f) (b (getF g e.2) c)) (b undef c)
noncomputable def arB (a:Value)(b:Value→H→R)(c:H)(E:Env)(d e:Value):R:=aB a (b undef c) (binR (binC E .eql 5 false false) d e λ f=>b f c) (b undef c)
noncomputable def arj (a:Value)(b:Value→H→R)(c:H)(E:Env)(d e:Value):R:=aB a (b undef c) (binR (binC E .eql 3 false false) d e λ f=>b f c) (b undef c)
noncomputable def p9 (E:Env)(rc:RC)(a0:Value)(a1:Value)(h:H)(k:Value→H→R):R:=onCells a0 λ a=>ifB (allF (λ b=>cell1F b) a) (ifB (Nat.ble h.1 1000000000) (letH (ag h (.row 34 (lenF a) false false 0 (T.ofList unk a))) λ b=>onCells a1 λ c=>ifB (allF (λ d=>cell1F d) c) (ifB (Nat.ble b.1 1000000000) (letH (ag b (.row 34 (lenF c) false false 0 (T.ofList unk c))) λ d=>onRow (hget d h.1) λ _ e _ _ _ f=>ifB (Nat.ble 1 e) (onRow (hget d b.1) λ _ g _ _ _ i=>ifB (Nat.ble 1 g) (binR (binC E .eql 3 false false) (getF f 0) (getF i 0) λ j=>ae (λ l m=>ae (λ n o=>ae (λ p q=>ae (λ r s=>ae (λ t u=>onB j (ae (λ _ v=>ae (λ _ w=>ae (λ _ x=>ae (λ _ y=>ae (λ _ z=>ar6 k z) λ z=>z undef y) λ y=>y undef x) λ x=>x undef w) λ w=>w undef v) λ v=>v undef u) (ae (λ v w=>ae (λ x y=>ae (λ z a2=>ae (λ a3 a4=>ae (λ a5 a6=>onB t (ar6 k a6) (ae (λ a7 a8=>ae (λ a9 b0=>ae (λ b1 b2=>ae (λ b3 b4=>ae (λ b5 b6=>onB a5 (ast k b6) (ae (λ b7 b8=>ae (λ b9 c0=>ae (λ c1 c2=>ae (λ c3 c4=>ae (λ c5 c6=>onB b5 (ash k c6) (ae (λ c7 c8=>ae (λ c9 d0=>ae (λ d1 d2=>ae (λ d3 d4=>ae (λ d5 d6=>onB c5 (ar3 k d6) (ae (λ d7 d8=>ae (λ d9 e0=>ae (λ e1 e2=>ae (λ e3 e4=>ae (λ e5 e6=>onB d5 (asi k e6) (ae (λ e7 e8=>ae (λ e9 f0=>ae (λ f1 f2=>ae (λ f3 f4=>ae (λ f5 f6=>onB e5 (ar4 k f6) (ae (λ f7 f8=>ae (λ f9 g0=>ae (λ g1 g2=>ae (λ g3 g4=>ae (λ g5 g6=>onB f5 (k (.bool false) g6) (k g5 g6)) λ g5=>aB f5 (g5 undef g4) (rc 24 [f9,g3] g4 g5) (g5 undef g4)) λ g3=>An f5 g3 g2 g1) λ g1=>aB f5 (g1 undef g0) (g1 (.pointer (some (Addr.mk b.1 8 none))) g0) (g1 undef g0)) λ f9=>An f5 f9 f8 f7) λ f7=>aB f5 (f7 undef f6) (f7 (.pointer (some (Addr.mk h.1 8 none))) f6) (f7 undef f6))) λ f5=>aB e5 (f5 undef f4) (rc 24 [e9,f3] f4 f5) (f5 undef f4)) λ f3=>An e5 f3 f2 f1) λ f1=>aB e5 (f1 undef f0) (f1 (.pointer (some (Addr.mk b.1 3 none))) f0) (f1 undef f0)) λ e9=>An e5 e9 e8 e7) λ e7=>aB e5 (e7 undef e6) (e7 (.pointer (some (Addr.mk h.1 3 none))) e6) (e7 undef e6))) λ e5=>arB d5 e5 e4 E d9 e3) λ e3=>An d5 e3 e2 e1) λ e1=>aB d5 (e1 undef e0) (e1 (.pointer (some (Addr.mk b.1 7 none))) e0) (e1 undef e0)) λ d9=>An d5 d9 d8 d7) λ d7=>aB d5 (d7 undef d6) (d7 (.pointer (some (Addr.mk h.1 7 none))) d6) (d7 undef d6))) λ d5=>arj c5 d5 d4 E c9 d3) λ d3=>An c5 d3 d2 d1) λ d1=>aB c5 (d1 undef d0) (d1 (.pointer (some (Addr.mk b.1 6 none))) d0) (d1 undef d0)) λ c9=>An c5 c9 c8 c7) λ c7=>aB c5 (c7 undef c6) (c7 (.pointer (some (Addr.mk h.1 6 none))) c6) (c7 undef c6))) λ c5=>arj b5 c5 c4 E b9 c3) λ c3=>An b5 c3 c2 c1) λ c1=>aB b5 (c1 undef c0) (c1 (.pointer (some (Addr.mk b.1 5 none))) c0) (c1 undef c0)) λ b9=>An b5 b9 b8 b7) λ b7=>aB b5 (b7 undef b6) (b7 (.pointer (some (Addr.mk h.1 5 none))) b6) (b7 undef b6))) λ b5=>arj a5 b5 b4 E a9 b3) λ b3=>An a5 b3 b2 b1) λ b1=>aB a5 (b1 undef b0) (b1 (.pointer (some (Addr.mk b.1 4 none))) b0) (b1 undef b0)) λ a9=>An a5 a9 a8 a7) λ a7=>aB a5 (a7 undef a6) (a7 (.pointer (some (Addr.mk h.1 4 none))) a6) (a7 undef a6))) λ a5=>aB t (a5 undef a4) (binR (binC E .eql 9 false false) x a3 λ a6=>a5 a6 a4) (a5 undef a4)) λ a3=>An t a3 a2 z) λ z=>aB t (z undef y) (z (.pointer (some (Addr.mk b.1 2 none))) y) (z undef y)) λ x=>An t x w v) λ v=>aB t (v undef u) (v (.pointer (some (Addr.mk h.1 2 none))) u) (v undef u))) λ t=>arB j t s E n r) λ r=>An j r q p) λ p=>aB j (p undef o) (p (.pointer (some (Addr.mk b.1 1 none))) o) (p undef o)) λ n=>An j n m l) λ l=>aB j (l undef d) (l (.pointer (some (Addr.mk h.1 1 none))) d) (l undef d)))))))
theorem asl (t:ak)(rc:RC)(a0:Value)(a1:Value)(h:H)(k:Value→H→R):(ax (EX t) KK 9).run rc [a0,a1] h k = p9 (EX t) rc a0 a1 h k:=by kernel_rfl
noncomputable def alf (E:Env)(a a0 a1:Value)(k:Value→H→R)(b:aa [4]→H→R):(aa [4,13]→H→R)→aa [4,13]→H→R:=λ c d e=>binR (binC E .lss 3 false false) d.2.1 a λ f=>@joinR [] (λ _ g=>@joinR [4] (λ h i=>binR (binC E .add 3 false true) d.2.1 (.int .i64 (.ofNat 1)) λ j=>c (h.1,(j,())) i) λ h=>ifB (Nat.ble g.1 1000000000) (letH (H.mk g.1 g.2) λ i=>onNat d.2.1 none λ j=>onSl a0 none λ l m _=>ifB (Nat.ble (Nat.succ j) m) (addOffF l (Nat.mul j 1) λ n=>onPtr n λ o=>onRow (hget i o.1) λ _ p _ _ _ q=>ifB (Nat.ble (Nat.succ o.2) p) (onNat d.2.1 none λ r=>onSl a1 none λ s t _=>ifB (Nat.ble (Nat.succ r) t) (addOffF s (Nat.mul r 1) λ u=>onPtr u λ v=>onRow (hget i v.1) λ _ w _ _ _ x=>ifB (Nat.ble (Nat.succ v.2) w) (binR (binC E .neq 9 false false) (getF q o.2) (getF x v.2) λ y=>@joinR [4] (λ z a2=>h (z.1,()) a2) λ z=>onB y (z (d.1,()) i) (k (.bool false) i))))))) λ g=>onB f (b (d.1,()) e) (g () e)
noncomputable def p24 (E:Env)(rc:RC)(a0:Value)(a1:Value)(h:H)(k:Value→H→R):R:=joinL (λ a=>joinL (λ b=>binR (binC E .neq 3 false false) a b λ c=>@joinR [4] (λ d e=>joinL (λ f=>@joinR [4] (λ _ g=>k (.bool true) g) λ g=>@loopF [4,13] (alf E f a0 a1 k g) ft (d.1,(.int .i64 (.ofNat 0),())) e) λ f=>onSl a0 (bindO (bv E e 30 a0) f) λ _ g _=>f (.int .i64 (.ofNat g))) λ d=>onB c (d (.bool false,()) h) (k (.bool false) h)) λ b=>onSl a1 (bindO (bv E h 30 a1) b) λ _ c _=>b (.int .i64 (.ofNat c))) λ a=>onSl a0 (bindO (bv E h 30 a0) a) λ _ b _=>a (.int .i64 (.ofNat b))
theorem arv (t:ak)(rc:RC)(a0:Value)(a1:Value)(h:H)(k:Value→H→R):(ax (EX t) KK 24).run rc [a0,a1] h k = p24 (EX t) rc a0 a1 h k:=by kernel_rfl
noncomputable def p10 (E:Env)(rc:RC)(a0:Value)(h:H)(k:Value→H→R):R:=onCells a0 λ a=>ifB (allF (λ b=>cell1F b) a) (ifB (Nat.ble h.1 1000000000) (letH (ag h (.row 32 (lenF a) false false 0 (T.ofList unk a))) λ b=>ifB (Nat.ble b.1 1000000000) (letH (ag b (.row 34 9 false false 0 (T.ofList unk [.int .i64 (.ofNat 0),.int .u8 (.ofNat 0),.string (ByteArray.mk #[]),.slice none 0 0,.int .i64 (.ofNat 0),.int .i64 (.ofNat 0),.int .i64 (.ofNat 0),.int .u8 (.ofNat 0),.slice none 0 0]))) λ c=>onRow (hget c h.1) λ _ d _ _ _ e=>ifB (Nat.ble 1 d) (onRow (hget c h.1) λ _ f _ _ _ g=>ifB (Nat.ble 2 f) (onRow (hget c h.1) λ _ i _ _ _ j=>ifB (Nat.ble 3 i) (onRow (hget c h.1) λ _ l _ _ _ m=>ifB (Nat.ble 4 l) (onRow (hget c h.1) λ _ n _ _ _ o=>ifB (Nat.ble 5 n) (onRow (hget c h.1) λ _ p _ _ _ q=>ifB (Nat.ble 6 p) (onRow (hget c h.1) λ _ r _ _ _ s=>ifB (Nat.ble 7 r) (onRow (hget c h.1) λ _ t _ _ _ u=>ifB (Nat.ble 8 t) (onRow (hget c h.1) λ _ v _ _ _ w=>ifB (Nat.ble 9 v) (bindO (cg E 34 [(0,getF e 0),(1,getF g 1),(2,getF j 2),(3,getF m 3),(4,getF o 4),(5,getF q 5),(6,getF s 6),(7,getF u 7),(8,getF w 8)]) λ x=>onCells x λ y=>onRow (hget c b.1) λ z a1 a2 a3 a4 a5=>ifB (notB a3) (ifB (Nat.beq (lenF y) 9) (ifB (Nat.ble a4 0) (ifB (Nat.ble 9 a1) (ifB (Nat.ble a1 1000000000) (ifB (allF (λ a6=>cell1F a6) y) (letH (hset c b.1 (.row z a1 a2 false a4 (putF a5 0 y))) λ a6=>bindO (aU E a6 34 (Addr.mk b.1 0 none)) λ a7=>k a7 a6))))))))))))))))))
theorem arN (t:ak)(rc:RC)(a0:Value)(h:H)(k:Value→H→R):(ax (EX t) KK 10).run rc [a0] h k = p10 (EX t) rc a0 h k:=by kernel_rfl
end Go.Ev
namespace Go.Ev
open Go F Go.Proofs
set_option linter.unusedVariables false
set_option linter.unusedSimpArgs false
set_option maxRecDepth 100000
variable {E : Env} (u : US E) {rc : RC}
include u
end Go.Ev
namespace Go.Ev
open Go F Go.Proofs
set_option linter.unusedVariables false
set_option linter.unusedSimpArgs false
set_option maxRecDepth 100000
def rS (w : Bs) : Bs := if w = str "." then [] else w
variable {E : Env} (u : US E) {rc : RC}
include u
theorem adP {w:Bs} {h:H} (k:Value→H→R):p66 E rc (.string ⟨⟨w⟩⟩) h k=k (.string ⟨⟨rS w⟩⟩) h:=by
 unfold p66 rS
 rw [Aj u,ai]
 by_cases q:w=[46]
 ·subst q; rfl
 ·rw [show (w == [46]) = false from beq_eq_false_iff_ne.2 q, aM, if_neg (show ¬ w = str "." from q)]
end Go.Ev
namespace Go.Ev
open Go F Go.Proofs
set_option linter.unusedVariables false
set_option linter.unusedSimpArgs false
set_option maxRecDepth 100000
variable {E : Env} (u : US E) {rc : RC}
include u
end Go.Ev
namespace Go.Ev
open Go F Go.Proofs
set_option linter.unusedVariables false
set_option linter.unusedSimpArgs false
set_option maxRecDepth 100000
def aF (s:Bs):Value:=.string ⟨⟨s⟩⟩
def SO (h:H) (v:Value) (l:List Bs):Prop:=OL 9 1 h v l.length (l.map aF)
theorem rp {E:Env} {i:TypeInfo} (T1:Ad E 30 9 1 i [.string ⟨⟨[]⟩⟩]) {h:H} {v:Value} {l:List Bs} (o:SO h v l) (hn:h.next + 2≤1000000000) (hl:l.length≤9000) (s:Bs) :
  ∃ v' h',bu E (ag h (.row 9 1 false false 0 (T.ofList unk [aF s]))) .append [v,.slice (some ⟨h.next,0,none⟩) 1 2] [30,30]=some (v',h')∧SO h' v' (l ++ [s])∧h'.next=h.next + 2 ∧
   dn v'=some (h.next + 1)∧∀ id,id < h.next→dn v ≠ some id→hget h' id=hget h id:=by
 obtain ⟨v',h',e,o',n,b,f⟩:=wH T1 o (xs:=[aF s]) rfl rfl hn hl
 refine ⟨v',h',e,?_,n,b,f⟩
 unfold SO
 rw [List.length_append,List.map_append]
 exact o'
variable {E : Env} (u : US E) {i30 : TypeInfo} (T1 : Ad E 30 9 1 i30 [.string ⟨⟨[]⟩⟩]) {rc : RC}
include u T1
end Go.Ev
namespace Go.Ev
open Go F Go.Proofs
set_option linter.unusedVariables false
set_option linter.unusedSimpArgs false
set_option maxRecDepth 100000
variable {E : Env} (u : US E) {i30 : TypeInfo} (T1 : Ad E 30 9 1 i30 [.string ⟨⟨[]⟩⟩]) {rc : RC}
include u T1
def fl (acc:Bs):List Bs:=if acc=[] then [] else [acc]
end Go.Ev
namespace Go.Ev
open Go F Go.Proofs Go.RowKit
set_option linter.unusedVariables false
set_option maxRecDepth 100000
theorem Step.below {P:Program} {ρ:Ren} {h:H} {w w':World} (hr:dU P ρ h w) (b:Below w.heap.size w w'):Step P ρ h w ρ h w' where
 ext:=ρ.le_refl
 old:=λ _ _ e _=>e
 next:=Nat.le_refl _
 keep:=λ _ _ _=>rfl
 rel:=⟨hr.dom,hr.inj,λ id p e=>dV.same (hr.obj id p e) λ hl=>b.block _ (hr.inside id p e hl),hr.small,hr.fresh,hr.glob,λ id p e hl=>Nat.lt_of_lt_of_le (hr.inside id p e hl) b.size⟩
 same:=λ k hk _=>b.block k hk
 own:=λ _ e _=>e
 size:=b.size
 tape:=b.tape
 os:=b.os
 output:=b.output
theorem cN.of_calls {P : Program} {ρ : Ren} {h : H} {w : World} {f : FuncId} {args' : List Value} {v v' : Value} {fn : Func} (hr : dU P ρ h w) (h1 : P.funcs[f]? = some fn) (h2 : fn.body.isNone = false) (h3 : (fn.name == "runtime.NumGoroutine") = false)
  (hv:VR ρ v v') (c:Calls P f ⟨args'⟩ w λ e w'=>e=.returned v'∧Below w.heap.size w w'):cN P ρ h w f args' v h :=
 .inr ⟨fn,h1,h2,h3,c.mono λ e w' hq=>⟨ρ,v',hq.1,hv,Step.below hr hq.2⟩⟩
theorem Step.adopt {P:Program} {ρ:Ren} {h:H} {w w':World} (hr:dU P ρ h w) (hroom:room h=true) {A x:Nat} {ob:AO} (b:Below w.heap.size w w') (hA:w.heap.size≤A) (hA2:A < w'.heap.size)
  (hob:∀ ρ',ρ.le ρ'→dV P ρ' w' (A,x) ob):Step P ρ h w (ρ.upd h.next (A,x)) (h.push ob) w':=by
 have hroom:=Nat.le_of_ble_eq_true hroom
 exact Step.give hr (id:=h.next) (p:=(A,x)) (O:=h.objs) (w':=w') (ob:=ob) (hr.unmapped (Nat.le_refl _)) rfl (cX (by omega)) (λ _=>.inl rfl)
  (λ j q hq hl=>by
   have hlt:=hr.inside j q hq hl
   exact ⟨by show q.1 ≠ A; omega,b.block _ hlt⟩) hA2 hob (λ k hk _=>b.block k hk) (λ hl=>absurd hl (by show ¬ A < w.heap.size; omega)) b.size b.tape b.os b.output
theorem cN.of_grow {P : Program} {ρ : Ren} {h : H} {w : World} {f : FuncId} {args' : List Value} {v : Value} {fn : Func} {ob : AO} (hr : dU P ρ h w) (h1 : P.funcs[f]? = some fn) (h2 : fn.body.isNone = false) (h3 : (fn.name == "runtime.NumGoroutine") = false) (hroom : room h = true)
  (c:Calls P f ⟨args'⟩ w λ e w'=>∃ v' A x,e=.returned v'∧Below w.heap.size w w'∧w.heap.size≤A∧A < w'.heap.size∧(∀ ρ',ρ.le ρ'→dV P ρ' w' (A,x) ob)∧VR (ρ.upd h.next (A,x)) v v'):cN P ρ h w f args' v (h.push ob) :=
 .inr ⟨fn,h1,h2,h3,c.mono λ e w' hq=>by
  obtain ⟨v',A,x,e1,b,a1,a2,ho,hv⟩:=hq
  exact ⟨_,v',e1,hv,Step.adopt hr hroom b a1 a2 ho⟩⟩
def cell0 (h:H) (g:Nat):Option Value:=match h.objs.get g with
 | .row _ 1 false _ _ c=>some (c.get 0)
 | _=>none
theorem ng {P:Program} {ρ:Ren} {h:H} {w:World} (hr:dU P ρ h w) {g:Nat} (hg:g < 16) {v:Value} (e:cell0 h g=some v):∃ v',w.cell? ⟨g,0,none⟩=some v'∧fk ρ v v':=by
 unfold cell0 at e
 have ho:=hr.obj g (g,0) (hr.glob g hg)
 split at e
 ·rename_i hq
  cases e
  rw [hq] at ho
  obtain ⟨cs,fr,k1,k2,k3,k4,k5,k6⟩:=ho
  obtain ⟨v',a,b⟩:=k5 0 (by omega)
  refine ⟨v',?_,b⟩
  unfold World.cell?
  simp only [Option.isSome_none,Bool.false_eq_true,if_false]
  rw [show w.heap[g]?=_ from k1]
  exact a
 ·exact nomatch e
theorem ru {P:Program} {ρ:Ren} {w:World} {A:Nat} {fr:Nat × Nat} {e:TypeId} {cs:Array Value} (xs:List (List UInt8)) (hh:w.heap[A]?=some (.cells cs e fr)) (hsz:cs.size=xs.length) (hfr:fr.2≤0)
  (hc:∀ i:Nat,cs[i]?=(xs.map λ s=>Value.string ⟨⟨s⟩⟩)[i]?):dV P ρ w (A,0) (.row e xs.length false false 0 (T.ofList unk (xs.map λ s=>Value.string ⟨⟨s⟩⟩))):=by
 refine ⟨cs,fr,hh,by omega,λ _=>⟨hsz,rfl⟩,λ q=>(nomatch q),λ i hi=>?_,.inr hfr⟩
 have h1:(xs.map λ s=>Value.string ⟨⟨s⟩⟩)[i]?=some (Value.string ⟨⟨xs[i]⟩⟩):=by simp [hi]
 refine ⟨Value.string ⟨⟨xs[i]⟩⟩,(hc i).trans h1,?_⟩
 rw [T.get_ofList,List.getD_eq_getElem?_getD,h1]
 exact .inr rfl
theorem ov {ρ:Ren} {id A n:Nat}:VR (ρ.upd id (A,0)) (.slice (some ⟨id,0,none⟩) n (2 * n)) (.slice (some ⟨A,0,none⟩) n n):=by
 have e1:2 * n % 2=0:=by omega
 have e2:2 * n / 2=n:=by omega
 exact VR.of1 (by simp [bY,bW,Ren.upd_same,e1,e2])
theorem wg (l:List ByteArray):l.map Value.string=(l.map λ x=>x.data.toList).map λ s=>Value.string ⟨⟨s⟩⟩:=by
 rw [List.map_map]; rfl
end Go.Ev
namespace Go.Ev
open Go F Go.Proofs
set_option linter.unusedVariables false
set_option linter.unusedSimpArgs false
set_option maxRecDepth 100000
structure Fr (h h':H) (n:Nat):Prop where
 le:h.next≤h'.next
 ub:h'.next≤h.next + n
 old:∀ id,id < h.next→hget h' id=hget h id
theorem Fr.refl (h:H) (n:Nat):Fr h h n:=⟨Nat.le_refl _,by omega,λ _ _=>rfl⟩
theorem Fr.trans {a b c:H} {m n k:Nat} (h1:Fr a b m) (h2:Fr b c n) (hk:m + n≤k):Fr a c k:=by
 have:=h1.le; have:=h1.ub; have:=h2.le; have:=h2.ub
 exact ⟨by omega,by omega,λ id hid=>(h2.old id (by omega)).trans (h1.old id hid)⟩
theorem Fr.mono {a b:H} {m n:Nat} (h1:Fr a b m) (hk:m≤n):Fr a b n:=⟨h1.le,by have:=h1.ub; omega,h1.old⟩
theorem Fr.push {h:H} (o:AO) (hn:h.next≤1000000000):Fr h (ag h o) 1:=⟨Nat.le_succ _,Nat.le_refl _,λ id hid=>bp _ _ (by omega) hid⟩
def ux (rc:RC) (Q:H→Prop):Prop:=∀ (w:Bs) (h:H),w.length≤100000→w ≠ []→w.all fE=true→Q h→h.next≤900000000 →
 (gb 0 w≤9223372036854775807∧∀ k:Value→H→R,rc 62 [.string ⟨⟨w⟩⟩] h k=k (.tuple ⟨[.int .i64 (.ofNat (gb 0 w)),.nilIface]⟩) h) ∨
 (9223372036854775807 < gb 0 w∧∃ n t a,∀ k:Value→H→R,rc 62 [.string ⟨⟨w⟩⟩] h k=k (.tuple ⟨[.int .i64 n,.iface t a]⟩) (ag h .dead))
section
variable {E : Env} {ms : Array (String × TypeId)}
theorem GB {ty:TypeId} {m:_} (h:E.und ty=some (.interface m)) {cx:Bool} {k:Value→R}:binR (binC E .neq ty cx true) .nilIface .nilIface k=k (.bool false):=by
 have hb:iz E .neq ty cx true .nilIface .nilIface=some (.bool false):=by simp only [iz,yv,h,Bool.or_true,cond_true,Bool.not_true]
 unfold binR binC; rw [h]
 show bindO (iz E .neq ty cx true .nilIface .nilIface) k=_
 rw [hb]; rfl
theorem yZ {ty:TypeId} {m:_} (h:E.und ty=some (.interface m)) {cx cy:Bool} {t:TypeId} {a:Value} {k:Value→R}:binR (binC E .neq ty cx cy) (.iface t a) .nilIface k=k (.bool true):=by
 have hb:iz E .neq ty cx cy (.iface t a) .nilIface=some (.bool true):=by simp only [iz,yv,h,Bool.not_false]
 unfold binR binC; rw [h]
 show bindO (iz E .neq ty cx cy (.iface t a) .nilIface) k=_
 rw [hb]; rfl
end
variable {E : Env} (u : US E) {rc : RC}
include u
theorem ahb {w:Bs} (hl:w.length≤1000000000) (k:Value→H→R) (c:aa [2,3]→H→R) (x y:Value) {h:H}:∀ (d i N:Nat),i + d=w.length→d < N →
  loopF (ks:=[2,3,21]) (sc E (.int .i64 (.ofNat w.length)) (.string ⟨⟨w⟩⟩) k c) N (x,(y,(.int .i64 (.ofNat i),()))) h =
   if (w.drop i).all fE=true then c (x,(y,())) h else k (.tuple ⟨[.int .i64 (.ofNat 0),.int .i64 (.ofNat 14)]⟩) h:=by
 have u3:=u.u3
 have u5:=u.u5
 intro d
 induction d with
 | zero =>
  intro i N hi hN
  obtain ⟨N,rfl⟩:∃ M,N=M + 1:=⟨N - 1,by omega⟩
  obtain rfl:i=w.length:=by omega
  rw [ce]
  unfold sc
  rw [iu u3 (Nat.le_refl _),ai,List.drop_length]
  rfl
 | succ d ih =>
  intro i N hi hN
  obtain ⟨N,rfl⟩:∃ M,N=M + 1:=⟨N - 1,by omega⟩
  have hlt:i < w.length:=by omega
  have hget:w[i]?=some (w[i]'hlt):=List.getElem?_eq_getElem _
  rw [ce,List.drop_eq_getElem_cons hlt,List.all_cons]
  have key:=ih (i + 1) N (by omega) (by omega)
  generalize w[i]'hlt=b at hget ⊢
  generalize loopF (ks:=[2,3,21]) (sc E (.int .i64 (.ofNat w.length)) (.string ⟨⟨w⟩⟩) k c) N=L at key ⊢
  have hadd:∀ (K:Value→R),binR (binC E .add 3 false true) (.int .i64 (.ofNat i)) (.int .i64 (.ofNat 1)) K=K (.int .i64 (.ofNat (i + 1))):=λ K=>dl u3 (by omega)
  have c1:∀ K:Value→R,binR (binC E .lss 5 false true) (gd b) (.int .u8 (.ofNat 48)) K=K (.bool (Nat.ble (b.toNat + 1) 48)):=λ K=>by unfold gd; rw [Qn u5]
  have c2:∀ K:Value→R,binR (binC E .gtr 5 false true) (gd b) (.int .u8 (.ofNat 57)) K=K (.bool (Nat.ble (57 + 1) b.toNat)):=λ K=>by unfold gd; rw [uk u5]
  have hbi:∀ K:Value→R,bindO (dD E 9 (.string ⟨⟨w⟩⟩) (.int .i64 (.ofNat i))) K=K (gd b):=λ K=>by rw [we u (kd:=.i64) hget]; rfl
  unfold sc
  dsimp only
  rw [km u3 hlt,ai]
  simp only [aK]
  rw [ai,hbi,c1]
  by_cases q1:b.toNat < 48
  ·have hd:fE b=false:=by unfold fE; rw [gG (show b.toNat < 48 by omega)]; rfl
   rw [be (show b.toNat + 1≤48 by omega)]
   simp only [↓bz,↓ai,↓eC,↓aK]
   rw [hd]; rfl
  ·rw [gG (show 48 < b.toNat + 1 by omega)]
   simp only [↓bz,↓ai,↓dO,↓hbi,↓c2]
   by_cases q2:57 < b.toNat
   ·have hd:fE b=false:=by unfold fE; rw [gG (show 57 < b.toNat by omega),Bool.and_false]
    simp only [be (show 57 + 1≤b.toNat by omega),↓bz,↓ai,↓dO,↓aK,↓aM]
    rw [hd]; rfl
   ·have hd:fE b=true:=by unfold fE; rw [be (show 48≤b.toNat by omega),be (show b.toNat≤57 by omega)]; rfl
    simp only [gG (show b.toNat < 57 + 1 by omega),↓bz,↓ai,↓dO,↓aK,↓aM,↓hadd]
    rw [key,hd,Bool.true_and]
theorem aig {Q:H→Prop} (hA:ux rc Q) {mi:_} (u62:E.und 62=some (.interface mi)) {w:Bs} (hl:w.length≤100000) (hne:w ≠ []) (hz:¬ (1 < w.length∧w[0]?=some 48)) {h:H} (hq:Q h) (hn:h.next≤900000000) (x y:Value) (k:Value→H→R) (X:R) (e:wB E h (.string ⟨⟨w⟩⟩) rc k (x,(y,()))=X) :
  ∃ h',X=k (.tuple ⟨[.int .i64 (.ofNat (cC w).1),.int .i64 (.ofNat (cC w).2)]⟩) h'∧Fr h h' 1:=by
 have u3:=u.u3
 unfold wB at e
 rw [nS u,bw,ai] at e
 dsimp only at e
 rw [ahb u (by omega) k _ x y w.length 0 ft (by omega) (by unfold ft; omega),List.drop_zero] at e
 by_cases hd:w.all fE=true
 ·rw [if_pos hd] at e
  have hnb:¬ (w=[] ∨ (1 < w.length∧w[0]?=some 48) ∨ w.all fE=false):=by
   rintro (e | e | e)
   ·exact hne e
   ·exact hz e
   ·rw [hd] at e; exact nomatch e
  rcases hA w h hl hne hd hq hn with ⟨hv,hk⟩ | ⟨hv,n,t,a,hk⟩
  ·rw [hk] at e
   simp only [↓bJ,↓bK,↓cd,↓GB u62] at e
   by_cases q:4294967296 < gb 0 w
   ·simp only [↓bz,↓ai,↓dO,↓mB u3 q,↓aK,↓aM] at e
    refine ⟨h,?_,Fr.refl _ _⟩
    rw [show cC w=(0,3) by unfold cC; rw [if_neg hnb,if_pos q]]
    exact e.symm
   ·have q':gb 0 w≤4294967296:=by omega
    simp only [↓bz,↓ai,↓dO,↓lG u3 q',↓aK,↓aM] at e
    refine ⟨h,?_,Fr.refl _ _⟩
    rw [show cC w=(gb 0 w,0) by unfold cC; rw [if_neg hnb,if_neg q]]
    exact e.symm
  ·rw [hk] at e
   simp only [↓bJ,↓bK,↓cd,↓yZ u62,↓bz,↓ai,↓eC,↓aK,↓aM] at e
   refine ⟨_,?_,Fr.push .dead (by omega)⟩
   rw [show cC w=(0,3) by unfold cC; rw [if_neg hnb,if_pos (by omega)]]
   exact e.symm
 ·rw [if_neg hd] at e
  have hf:w.all fE=false:=by simpa using hd
  refine ⟨h,?_,Fr.refl _ _⟩
  rw [show cC w=(0,14) from if_pos (.inr (.inr hf))]
  exact e.symm
theorem amo {Q:H→Prop} (hA:ux rc Q) {mi:_} (u62:E.und 62=some (.interface mi)) {w:Bs} (hl:w.length≤100000) {h:H} (hq:Q h) (hn:h.next≤900000000) (k:Value→H→R) (X:R) (e:p37 E rc (.string ⟨⟨w⟩⟩) h k=X) :
  ∃ h',X=k (.tuple ⟨[.int .i64 (.ofNat (cC w).1),.int .i64 (.ofNat (cC w).2)]⟩) h'∧Fr h h' 1:=by
 have u3:=u.u3
 have u5:=u.u5
 have hlen:∀ K,bindO (bv E h 9 (.string ⟨⟨w⟩⟩)) K=K (.int .i64 (.ofNat w.length)):=λ K=>by rw [nS u]; rfl
 have htail:=λ hne hz x y=>aig u hA u62 hl hne hz hq hn x y k X
 unfold p37 at e
 rw [asn,Aj u] at e
 cases w with
 | nil =>
  simp only [show (([]:Bs) == [])=true from rfl,↓bz,↓ai,↓eC,↓aK] at e
  refine ⟨h,?_,Fr.refl _ _⟩
  rw [show cC []=(0,14) from if_pos (.inl rfl)]
  exact e.symm
 | cons b w =>
  have h0:((b :: w:Bs) == [])=false:=rfl
  by_cases q1:1 < (b :: w).length
  ·have hx:∀ K:Value→R,bindO (dD E 9 (.string ⟨⟨b :: w⟩⟩) (.int .i64 (.ofNat 0))) K=K (gd b):=λ K=>by rw [we u (kd:=.i64) (s:=b :: w) (j:=0) (b:=b) rfl]; rfl
   have he:∀ K:Value→R,binR (binC E .eql 5 false true) (gd b) (.int .u8 (.ofNat 48)) K=K (.bool (Nat.beq b.toNat 48)):=λ K=>by unfold gd; rw [gv u5]
   by_cases q2:b.toNat=48
   ·simp only [h0,↓bz,↓ai,↓dO,↓aM,↓hlen,↓mB u3 q1,↓eC,↓aK,↓hx,↓he,lI q2] at e
    have hb:b=48:=UInt8.toNat_inj.1 q2
    refine ⟨h,?_,Fr.refl _ _⟩
    rw [show cC (b :: w)=(0,14) from if_pos (.inr (.inl ⟨q1,by rw [hb]; rfl⟩))]
    exact e.symm
   ·simp only [h0,↓bz,↓ai,↓dO,↓aM,↓hlen,↓mB u3 q1,↓eC,↓aK,↓hx,↓he,fT q2] at e
    exact htail (by simp) (λ ⟨_,e⟩=>q2 (by rw [List.getElem?_cons_zero] at e; rw [Option.some.inj e]; rfl)) _ _ e
  ·have q1':(b :: w).length≤1:=by omega
   simp only [h0,↓bz,↓ai,↓dO,↓aM,↓hlen,↓lG u3 q1'] at e
   exact htail (by simp) (λ ⟨e,_⟩=>q1 e) _ _ e
end Go.Ev
namespace Go.Ev
open Go F Go.Proofs
set_option linter.unusedVariables false
set_option linter.unusedSimpArgs false
set_option maxRecDepth 100000
theorem eP (k:R):ifB true k=k:=rfl
inductive WL (h:H):Value→List Bs→Prop
 | nil:WL h (.slice none 0 0) []
 | row {b o m c fz:Nat} {op ro:Bool} {cells:T Value} {l:List Bs} (hb:b < h.next) (hq:hget h b=.row 9 m op ro fz cells) (hm:o + l.length≤m) (hcap:l.length≤c / 2)
   (hc:∀ i,(hi:i < l.length)→getF cells (o + i)=aF l[i]):WL h (.slice (some ⟨b,o,none⟩) l.length c) l
theorem WL.frB {B:Nat} {h h':H} {v:Value} {l:List Bs} (o:WL h v l) (hn:h.next≤h'.next) (hk:∀ id,id < h.next→hget h' id=hget h id):WL h' v l:=by
 cases o with
 | nil=>exact .nil
 | row hb hq hm hcap hc=>exact .row (Nat.lt_of_lt_of_le hb hn) ((hk _ hb).trans hq) hm hcap hc
theorem WL.fr {h h':H} {n:Nat} {v:Value} {l:List Bs} (o:WL h v l) (f:Fr h h' n):WL h' v l:=o.frB (B:=0) f.le f.old
theorem SO.wl {h:H} {v:Value} {l:List Bs} (o:SO h v l):WL h v l:=by
 unfold SO at o
 generalize hn:l.length=n at o
 generalize hl:l.map aF=L at o
 cases o with
 | nil =>
  obtain rfl:l=[]:=List.length_eq_zero_iff.1 hn
  exact .nil
 | row hb hq hL hc hp =>
  subst hn hl
  rename_i b fz op cells
  refine .row (o:=0) (c:=2 * l.length + op.toNat) hb hq (by omega) (by omega) λ i hi=>?_
  rw [Nat.zero_add,hc i (by simpa using hi),List.getD_eq_getElem?_getD,List.getElem?_map,List.getElem?_eq_getElem hi]
  rfl
theorem zI {h:H} (l:List Bs) (hn:h.next≤1000000000):WL (ag h (.row 9 l.length false false 0 (T.ofList unk (l.map aF)))) (.slice (some ⟨h.next,0,none⟩) l.length (2 * l.length)) l:=by
 refine .row (show h.next < h.next + 1 by omega) (aD _ _ (by omega)) (by omega) (by omega) λ i hi=>?_
 rw [aL,Nat.zero_add,List.getD_eq_getElem?_getD,List.getElem?_map,List.getElem?_eq_getElem hi]
 rfl
variable {E : Env} (u : US E) {rc : RC}
theorem kS {h h':H} {v:Value} {l:List Bs} (o:WL h v l) (u30:E.und 30=some (.slice 9)) (K:Value→R):onSl v (bindO (bv E h' 30 v) K) (λ _ n _=>K (.int .i64 (.ofNat n)))=K (.int .i64 (.ofNat l.length)):=by
 cases o with
 | nil =>
  rw [qH]
  have:bv E h' 30 (.slice none 0 0)=some (.int .i64 (.ofNat 0)):=by unfold bv; rw [u30]; rfl
  rw [this]; rfl
 | row=>rw [bZ]
def A9 (rc:RC) (Q:H→Prop):Prop:=∀ (w:Bs) (h:H),w.length≤100000→Q h→h.next≤900000000→∀ (k:Value→H→R) (X:R),rc 37 [.string ⟨⟨w⟩⟩] h k=X →
 ∃ h',X=k (.tuple ⟨[.int .i64 (.ofNat (cC w).1),.int .i64 (.ofNat (cC w).2)]⟩) h'∧Fr h h' 1
def anf (Q:H→Prop):Prop:=∀ h h' n,Q h→Fr h h' n→Q h'
def small (l:List Bs):Prop:=∀ s ∈ l,s.length≤100000
theorem dK {ty m n:Nat} {cx cy:Bool} {k:Value→R} (hE:E.und ty=some (.int .i64)):binR (binC E .neq ty cx cy) (.int .i64 (.ofNat m)) (.int .i64 (.ofNat n)) k=k (.bool (!Nat.beq m n)):=vj hE
include u
theorem ak6 {Q:H→Prop} (hQ:anf Q) (hN:A9 rc Q) (u24:E.und 24=some (.int .i64)) (u30:E.und 30=some (.slice 9)) {v:Value} {l:List Bs} {h:H} (o:WL h v l) (hs:small l) (hq:Q h) (hn:h.next≤800000000) (k:Value→H→R) (X:R) (e:p18 E rc v h k=X) :
  ∃ h',X=k (.tuple ⟨[.int .i64 (.ofNat (cW l).1),.int .i64 (.ofNat (cW l).2.1),.int .i64 (.ofNat (cW l).2.2)]⟩) h'∧Fr h h' 2:=by
 have u3:=u.u3
 have hlen:=λ h'=>kS (E:=E) (h':=h') o u30
 unfold p18 at e
 rw [cJ] at e
 rw [hlen,dK u3] at e
 by_cases q3:l.length=3
 ·obtain ⟨a,b,c,rfl⟩:∃ a b c,l=[a,b,c]:=by
   match l,q3 with
   | [a,b,c],_=>exact ⟨a,b,c,rfl⟩
  have ha:a.length≤100000:=hs a (by simp)
  have hb':b.length≤100000:=hs b (by simp)
  have hc':c.length≤100000:=hs c (by simp)
  obtain ⟨bk,of,m,cap,fz,op,ro,cells,hb,hq9,hm,hcap,hcell,hv⟩:∃ bk of m cap fz op ro cells,bk < h.next∧hget h bk=.row 9 m op ro fz cells∧of + 3≤m∧3≤cap / 2∧(∀ i,(hi:i < 3)→getF cells (of + i)=aF ([a,b,c][i]'hi))∧v=.slice (some ⟨bk,of,none⟩) 3 cap:=by
   cases o with
   | row hb hq hm hcap hc=>exact ⟨_,_,_,_,_,_,_,_,hb,hq,hm,hcap,hc,rfl⟩
  subst hv
  have hqr:∀ h':H,hget h' bk=.row 9 m op ro fz cells→∀ K,onRow (hget h' bk) K=K 9 m op ro fz cells:=λ h' e K=>by rw [e]; rfl
  have c0:=hcell 0 (by omega)
  have c1:=hcell 1 (by omega)
  have c2:=hcell 2 (by omega)
  simp only [show (!Nat.beq [a,b,c].length 3)=false from rfl,↓bz,↓ai,↓dO,↓aM,↓bZ,↓aG,↓hqr h hq9,show Nat.ble 1 3=true from rfl,↓eP] at e
  rw [au (show of + 1≤m by omega)] at e
  rw [show getF cells of=aF a from c0] at e
  unfold aF at e
  rw [ar0 u] at e
  by_cases qa : a = str "arena"
  ·rw [show (!(a == [97,114,101,110,97]))=false by rw [qa]; rfl] at e
   simp only [↓aM] at e
   unfold y9 at e
   simp only [↓bZ,show Nat.ble 2 3=true from rfl,↓eP,↓co,↓aG,↓hqr h hq9] at e
   rw [au (show of + 1 + 1≤m by omega),show getF cells (of + 1)=aF b from c1] at e
   obtain ⟨h1,e1,f1⟩:=hN b h hb' hq (by omega) _ _ e
   replace e1:=e1.symm
   simp only [↓bJ,↓bK,↓cd] at e1
   rw [dK u24] at e1
   have hf:cW [a,b,c]=if (cC b).2=0 then ((cC b).1,(cC c).1,(cC c).2) else (0,0,(cC b).2):=if_pos qa
   by_cases qb:(cC b).2=0
   ·rw [hf,if_pos qb]
    have hq1:hget h1 bk=.row 9 m op ro fz cells:=(f1.old bk hb).trans hq9
    rw [show (!Nat.beq (cC b).2 0)=false by rw [qb]; rfl] at e1
    simp only [↓ai,↓aM,↓bZ,show Nat.ble 3 3=true from rfl,↓eP,↓co,↓aG,↓hqr h1 hq1] at e1
    rw [au (show of + 2 + 1≤m by omega),show getF cells (of + 2)=aF c from c2] at e1
    have hn1:=f1.ub
    obtain ⟨h2,e2,f2⟩:=hN c h1 hc' (hQ _ _ _ hq f1) (by omega) _ _ e1
    replace e2:=e2.symm
    simp only [↓bJ,↓bK,↓cd] at e2
    exact ⟨h2,e2.symm,f1.trans f2 (Nat.le_refl _)⟩
   ·rw [hf,if_neg qb]
    rw [show (!Nat.beq (cC b).2 0)=true by rw [fT qb]; rfl] at e1
    simp only [↓ai,↓aK] at e1
    exact ⟨h1,e1.symm,f1.mono (by omega)⟩
  ·have hf:cW [a,b,c]=(0,0,14):=if_neg qa
   rw [hf]
   rw [show (!(a == [97,114,101,110,97]))=true by rw [beq_eq_false_iff_ne.2 (show ¬ a=[97,114,101,110,97] from qa)]; rfl] at e
   simp only [↓aK] at e
   exact ⟨h,e.symm,Fr.refl _ _⟩
 ·have hf:cW l=(0,0,14):=by
   unfold cW
   split
   ·simp at q3
   ·rfl
  rw [hf]
  rw [show (!Nat.beq l.length 3)=true by rw [fT q3]; rfl] at e
  simp only [↓bz,↓ai,↓eC,↓aK] at e
  exact ⟨h,e.symm,Fr.refl _ _⟩
omit u
theorem jk:∀ (s acc:Bs),∀ x ∈ cK acc s,x ≠ []
 | [],acc,x,hx=>by
  unfold cK at hx
  split at hx
  ·exact nomatch hx
  ·rw [List.mem_singleton.1 hx]; assumption
 | b :: s,acc,x,hx=>by
  unfold cK at hx
  split at hx
  ·split at hx
   ·exact jk s _ x hx
   ·rcases List.mem_cons.1 hx with rfl | h
    ·assumption
    ·exact jk s _ x h
  ·exact jk s _ x hx
theorem ig:∀ (s acc:Bs),∀ x ∈ cK acc s,x.length≤acc.length + s.length
 | [],acc,x,hx=>by
  unfold cK at hx
  split at hx
  ·exact nomatch hx
  ·rw [List.mem_singleton.1 hx]; simp
 | b :: s,acc,x,hx=>by
  unfold cK at hx
  split at hx
  ·split at hx
   ·have:=ig s _ x hx; simp at this ⊢; omega
   ·rcases List.mem_cons.1 hx with rfl | h
    ·simp
    ·have:=ig s _ x h; simp at this ⊢; omega
  ·have:=ig s _ x hx; simp at this ⊢; omega
def gT:Value→Prop
 | .slice _ _ c=>c % 2=0
 | _=>True
def qm (rc:RC):Prop:=∀ (s:Bs) (h:H),s.length≤100000→h.next≤900000000→∀ (k:Value→H→R),rc 35 [.string ⟨⟨s⟩⟩,.func (.func 36) #[] #[]] h k =
 k (.slice (some ⟨h.next,0,none⟩) (bd s).length (2 * (bd s).length)) (ag h (.row 9 (bd s).length false false 0 (T.ofList unk ((bd s).map aF))))
include u
theorem alh (hF:qm rc) (u30:E.und 30=some (.slice 9)) {s:Bs} {h:H} (hs:s.length≤100000) (hn:h.next≤800000000) (k:Value→H→R) (X:R) (e:p17 E rc (.string ⟨⟨s⟩⟩) h k=X) :
  ∃ h' v,X=k v h'∧WL h' v (bX s)∧gT v∧Fr h h' 1:=by
 have u3:=u.u3
 have u5:=u.u5
 unfold p17 at e
 rw [hF s h hs (by omega)] at e
 have o:=zI (h:=h) (bd s) (by omega)
 have f:Fr h (ag h (.row 9 (bd s).length false false 0 (T.ofList unk ((bd s).map aF)))) 1:=Fr.push _ (by omega)
 generalize hh:ag h (.row 9 (bd s).length false false 0 (T.ofList unk ((bd s).map aF)))=h1 at e o f
 have cl:gT (Value.slice (some ⟨h.next,0,none⟩) (bd s).length (2 * (bd s).length)):=show 2 * (bd s).length % 2=0 by omega
 generalize hv:Value.slice (some ⟨h.next,0,none⟩) (bd s).length (2 * (bd s).length)=v at e o cl
 have hlen:=λ h'=>kS (E:=E) (h':=h') o u30
 rw [cJ] at e
 rw [hlen] at e
 cases hw:bd s with
 | nil =>
  have hz:(bd s).length=0:=by rw [hw]; rfl
  rw [hz,lG u3 (Nat.le_refl _)] at e
  simp only [↓bz,↓ai,↓dO,↓aM] at e
  refine ⟨h1,v,e.symm,?_,cl,f⟩
  rw [show bX s=[] by unfold bX; rw [hw]]
  rw [hw] at o; exact o
 | cons w r =>
  have hlt:0 < (bd s).length:=by rw [hw]; exact Nat.succ_pos _
  rw [mB u3 hlt] at e
  have hq9:hget h1 h.next=.row 9 (bd s).length false false 0 (T.ofList unk ((bd s).map aF)):=by rw [← hh]; exact aD _ _ (by omega)
  have c0:getF (T.ofList unk ((bd s).map aF)) 0=aF w:=by rw [aL,hw]; rfl
  have hqr:∀ K,onRow (hget h1 h.next) K=K 9 (bd s).length false false 0 (T.ofList unk ((bd s).map aF)):=λ K=>by rw [hq9]; rfl
  subst hv
  simp only [↓bz,↓ai,↓eC,↓aK,↓bZ,↓aG,↓hqr] at e
  rw [au (show 1≤(bd s).length by omega),au (show 0 + 1≤(bd s).length by omega),c0] at e
  have hne:w ≠ []:=jk s [] w (by show w ∈ bd s; rw [hw]; simp)
  obtain ⟨b,w',rfl⟩:∃ b w',w=b :: w':=by
   cases w with
   | nil=>exact absurd rfl hne
   | cons b w'=>exact ⟨b,w',rfl⟩
  unfold aF at e
  rw [we u (kd:=.i64) (s:=b :: w') (j:=0) (b:=b) rfl,bw] at e
  unfold gd at e
  rw [gv u5] at e
  by_cases q:b.toNat=35
  ·have hb:b=35:=UInt8.toNat_inj.1 q
   rw [lI q,aK] at e
   refine ⟨h1,_,e.symm,?_,rfl,f⟩
   rw [show bX s=[] by unfold bX; rw [hw]; exact if_pos (by rw [hb]; rfl)]
   exact .nil
  ·rw [fT q,aM] at e
   refine ⟨h1,_,e.symm,?_,cl,f⟩
   rw [show bX s=bd s by unfold bX; rw [hw]; exact if_neg (λ hh=>q (by rw [List.getElem?_cons_zero] at hh; rw [Option.some.inj hh]; rfl))]
   exact o
end Go.Ev
namespace Go.Ev
open Go F Go.Proofs
set_option linter.unusedVariables false
set_option linter.unusedSimpArgs false
set_option maxRecDepth 100000
def aI:List (Bs × Bs):=[([112,111,111,108],[76,104]),([98,108,111,99,107],[76,104,110]),([115,116,114,100,117,112],[76,104,116]),([114,101,97,100],[104,110,109]),([119,114,105,116,101],[104,110,116]),([114,101,115,105,122,101],[104,110]),([97,112,112,101,110,100],[104,43]),([115,105,122,101],[104]),([97,108,108,111,99],[104,110,109]),([111,98,106,101,99,116,115],[104]),([108,111,97,100],[104,107,110,109]),([115,116,111,114,101],[104,107,110,116]),([102,114,101,101],[104,107]),([98,101,103,105,110],[104,109]),([103,114,111,119],[104,43]),([98,108,97,110,107],[104,110]),([115,104,114,105,110,107],[104,110]),([102,105,110,105,115,104],[104]),([97,98,111,114,116],[104]),([108,105,109,105,116],[104,111]),([115,101,116],[104,116,110]),([103,101,116],[104,116]),([100,114,111,112],[104,116]),([99,108,101,97,110],[104,99,110]),([112,114,101],[104,99,110]),([107,105,108,108],[104,110]),([114,117,110],[104,110]),([100,101,115,116,114,111,121],[104]),([99,108,101,97,114],[104]),([115,116,101,97,108],[104,104]),([114,101,112,97,114,101,110,116],[104,104,104]),([114,101,102,101,114],[104,104]),([117,110,108,105,110,107],[104,104]),([116,114,105,109],[]),([107,101,101,112],[110]),([114,101,102,117,115,101],[110]),([114,101,112,111,114,116],[104]),([108,111,103],[]),([102,105,110,100],[42]),([100,111,111,109],[104,104]),([100,111,111,109,101,100],[104,104])]
def gi:List (Bs × Bs)→List Value
 | []=>[]
 | (a,b) :: r=>aF a :: aF b :: gi r
theorem oG:∀ (l:List (Bs × Bs)) (i:Nat) (h:i < l.length),(gi l).getD (2 * i) unk=aF l[i].1∧(gi l).getD (2 * i + 1) unk=aF l[i].2
 | (a,b) :: r,0,_=>⟨rfl,rfl⟩
 | (a,b) :: r,i + 1,h=>by
  have:=oG r i (by simpa using h)
  rw [show 2 * (i + 1)=2 * i + 1 + 1 by omega]
  exact this
def cF:AO:=.row 77 82 false false 0 (T.ofList unk (gi aI))
noncomputable def p39 (E:Env) (rc:RC) (h:H) (k:Value→H→R):R:=ifB (Nat.ble h.1 1000000000) (letH (ag h cF) λ a=>k (.slice (some (Addr.mk h.1 0 none)) 41 82) a)
theorem adD (t:ak) (rc:RC) (h:H) (k:Value→H→R):(ax (EX t) KK 39).run rc [] h k=p39 (EX t) rc h k:=by kernel_rfl
theorem Dp (E:Env) (rc:RC) (h:H) (k:Value→H→R):p39 E rc h k=ifB (Nat.ble h.1 1000000000) (letH (ag h cF) λ a=>k (.slice (some (Addr.mk h.1 0 none)) 41 82) a):=rfl
theorem xe {i:Nat} (hi:i < 41):getF (T.ofList unk (gi aI)) (2 * i)=aF (aI.getD i ([],[])).1∧getF (T.ofList unk (gi aI)) (2 * i + 1)=aF (aI.getD i ([],[])).2:=by
 have h:=oG aI i hi
 rw [aL,aL,List.getD_eq_getElem?_getD (l:=aI),List.getElem?_eq_getElem (show i < aI.length from hi)]
 exact h
def dE (w:Bs):List (Bs × Bs)→Nat
 | []=>0
 | x :: l=>if x.1=w then 0 else dE w l + 1
def jw (r:Bs) (n:Nat):Bool:=if Lib.hasSuffix r [43] then Nat.ble r.length n else if Lib.hasSuffix r [42] then true else Nat.beq n r.length
def tM (b:UInt8):Sg:=if b=76 then .L else if b=104 then .h else if b=111 then .o else if b=110 then .n else if b=109 then .m else if b=107 then .k else if b=99 then .c else .t
theorem yp:aI.map Prod.fst=dL.map Form.word:=by decide
def iV (r:Bs) (f:Form):Bool:=((Lib.hasSuffix r [43] && f.more && Nat.beq f.rest.length r.length) || (Lib.hasSuffix r [42] && !Lib.hasSuffix r [43] && f.more && Nat.beq f.rest.length 0) || (!Lib.hasSuffix r [42] && !Lib.hasSuffix r [43] && !f.more && Nat.beq f.rest.length r.length)) &&
 (List.range 5).all (λ i=>(!f.more && Nat.ble f.rest.length i) || decide (tM (r.getD (min i (r.length - 1)) 0)=f.rest.getD i .t)) && Nat.ble r.length 4
def f0:Form:=⟨[],[],false⟩
theorem BR:(List.range 41).all (λ i=>iV (aI.getD i ([],[])).2 (dL.getD i f0))=true:=by decide
theorem wj {r:Bs} {f:Form} (h:iV r f=true) (n:Nat):jw r n=lK f n:=by
 unfold iV at h
 simp only [Bool.and_eq_true,Bool.or_eq_true,Bool.not_eq_true'] at h
 unfold jw lK
 rcases h.1.1 with ((⟨⟨h1,h2⟩,h3⟩ | ⟨⟨⟨h1,h2⟩,h3⟩,h4⟩) | ⟨⟨⟨h1,h2⟩,h3⟩,h4⟩)
 ·rw [if_pos h1,if_pos h2,Nat.eq_of_beq_eq_true h3]
 ·rw [if_neg (by rw [h2]; exact Bool.false_ne_true),if_pos h1,if_pos h3,Nat.eq_of_beq_eq_true h4]
  exact (Nat.ble_eq_true_of_le (Nat.zero_le n)).symm
 ·rw [if_neg (by rw [h2]; exact Bool.false_ne_true),if_neg (by rw [h1]; exact Bool.false_ne_true),if_neg (by rw [h3]; exact Bool.false_ne_true),Nat.eq_of_beq_eq_true h4]
theorem pY {α:Type} {l:List α} {i:Nat} {d:α} (h:l.length≤i):l.getD i d=d:=by rw [List.getD_eq_getElem?_getD,List.getElem?_eq_none h]; rfl
theorem apW {r:Bs} {f:Form} (h:iV r f=true) {n i:Nat} (hn:lK f n=true) (hi:i < n):tM (r.getD (min i (r.length - 1)) 0)=f.rest.getD i .t:=by
 unfold iV at h
 rw [Bool.and_eq_true,Bool.and_eq_true] at h
 have hr:=Nat.le_of_ble_eq_true h.2
 have hall:=List.all_eq_true.1 h.1.2
 have key:∀ i,i < 5→i < f.rest.length ∨ f.more=true→tM (r.getD (min i (r.length - 1)) 0)=f.rest.getD i .t:=by
  intro i hi hm
  have:=hall i (by simpa using hi)
  rw [Bool.or_eq_true,Bool.and_eq_true] at this
  rcases this with ⟨h1,h2⟩ | h1
  ·have h2:=Nat.le_of_ble_eq_true h2
   rcases hm with hm | hm
   ·omega
   ·rw [hm] at h1; exact nomatch h1
  ·exact of_decide_eq_true h1
 by_cases hm:f.more=true
 ·by_cases h5:i < 5
  ·exact key i h5 (.inr hm)
  ·have h4:=key 4 (by omega) (.inr hm)
   have hlen:f.rest.length≤4:=by
    simp only [Bool.and_eq_true,Bool.or_eq_true,Bool.not_eq_true'] at h
    rcases h.1.1 with ((⟨⟨h1,h2⟩,h3⟩ | ⟨⟨⟨h1,h2⟩,h3⟩,h4⟩) | ⟨⟨⟨h1,h2⟩,h3⟩,h4⟩)
    ·rw [Nat.eq_of_beq_eq_true h3]; exact hr
    ·rw [Nat.eq_of_beq_eq_true h4]; omega
    ·rw [hm] at h3; exact nomatch h3
   rw [show min i (r.length - 1)=min 4 (r.length - 1) by omega,h4,pY (l:=f.rest) (i:=4) (by omega),pY (l:=f.rest) (by omega)]
 ·unfold lK at hn
  rw [if_neg hm] at hn
  have hn:=Nat.eq_of_beq_eq_true hn
  have hlen:f.rest.length≤4:=by
   simp only [Bool.and_eq_true,Bool.or_eq_true,Bool.not_eq_true'] at h
   rcases h.1.1 with ((⟨⟨h1,h2⟩,h3⟩ | ⟨⟨⟨h1,h2⟩,h3⟩,h4⟩) | ⟨⟨⟨h1,h2⟩,h3⟩,h4⟩)
   ·exact absurd h2 hm
   ·exact absurd h3 hm
   ·rw [Nat.eq_of_beq_eq_true h4]; exact hr
  exact key i (by omega) (.inl (by omega))
theorem sD (w:Bs):∀ (t:List (Bs × Bs)) (l:List Form) (i:Nat),t.map Prod.fst=l.map Form.word→lH w l i=if dE w t < t.length then some (i + dE w t,l.getD (dE w t) f0) else none
 | [],[],i,_=>rfl
 | [],_ :: _,i,h=>nomatch h
 | _ :: _,[],i,h=>nomatch h
 | x :: t,f :: l,i,h=>by
  rw [List.map_cons,List.map_cons,List.cons.injEq] at h
  unfold lH dE
  rw [← h.1]
  by_cases q:x.1=w
  ·rw [if_pos q,if_pos q]; simp
  ·rw [if_neg q,if_neg q,sD w t l (i + 1) h.2]
   simp only [List.length_cons,Nat.add_lt_add_iff_right]
   by_cases q2:dE w t < t.length
   ·rw [if_pos q2,if_pos q2]
    congr 2
    omega
   ·rw [if_neg q2,if_neg q2]
end Go.Ev
namespace Go.Ev
open Go F Go.Proofs
set_option linter.unusedVariables false
set_option linter.unusedSimpArgs false
set_option maxRecDepth 100000
structure cD (h h':H):Prop where
 le:h.next≤h'.next
 old:∀ id,id < h.next→hget h' id=hget h id
theorem Fr.from {h h':H} {n:Nat} (f:Fr h h' n):cD h h':=⟨f.le,f.old⟩
theorem cD.trans {a b c:H} (h1:cD a b) (h2:cD b c):cD a c:=⟨Nat.le_trans h1.le h2.le,λ id hid=>(h2.old id (Nat.lt_of_lt_of_le hid h1.le)).trans (h1.old id hid)⟩
theorem cD.refl (h:H):cD h h:=⟨Nat.le_refl _,λ _ _=>rfl⟩
theorem WL.from {h h':H} {v:Value} {l:List Bs} (o:WL h v l) (f:cD h h'):WL h' v l:=o.frB (B:=0) f.le f.old
theorem hmk (h:H):H.mk h.1 h.2=h:=rfl
variable {E : Env} (u : US E) {rc : RC}
structure LV (h:H) (pb:Nat) (l:List Bs):Prop where
 lt:pb < h.next
 ex:∃ cp v,hget h pb=.row 30 1 false false 0 cp∧getF cp 0=v∧WL h v l
theorem LV.from {h h':H} {pb:Nat} {l:List Bs} (o:LV h pb l) (f:cD h h'):LV h' pb l:=by
 obtain ⟨lt,cp,v,e1,e2,e3⟩:=o
 exact ⟨Nat.lt_of_lt_of_le lt f.le,cp,v,(f.old _ lt).trans e1,e2,e3.from f⟩
include u
theorem ao1 {h:H} {pb:Nat} {w0:Bs} {l:List Bs} (o:LV h pb (w0 :: l)) (hn:h.next≤900000000) (a b:Bs) (k:Value→H→R) (X:R) (e:p40 E rc (.agg ⟨[aF a,aF b]⟩) (.pointer (some ⟨pb,0,none⟩)) h k=X) :
  ∃ h',X=k (.bool (a == w0)) h'∧Fr h h' 1:=by
 have f:Fr h (ag h (.row 77 2 false false 0 (T.ofList unk [aF a,aF b]))) 1:=Fr.push _ (by omega)
 have e0:hget (ag h (.row 77 2 false false 0 (T.ofList unk [aF a,aF b]))) h.next=.row 77 2 false false 0 (T.ofList unk [aF a,aF b]):=aD _ _ (by omega)
 have o1:=o.from f.from
 unfold p40 at e
 change (ifB true (ifB (Nat.ble h.1 1000000000) (letH (ag h (.row 77 2 false false 0 (T.ofList unk [aF a,aF b]))) _)))=X at e
 rw [eP,au (show h.1≤1000000000 by show h.next≤_; omega),aJ] at e
 generalize ag h (.row 77 2 false false 0 (T.ofList unk [aF a,aF b]))=h1 at f e0 o1 e
 have hn1:=f.ub
 have hle1:=f.le
 obtain ⟨lt,cp,v,e1,e2,e3⟩:=o1
 rw [au (show h1.1≤1000000000 by show h1.next≤_; omega),aJ,hmk] at e
 cases e3 with
 | row hb hq hm hcap hc =>
  rename_i bk of m cap fz op ro cells
  have hq0:∀ K,onRow (hget h1 h.1) K=K 77 2 false false 0 (T.ofList unk [aF a,aF b]):=λ K=>by rw [show h.1=h.next from rfl,e0]; rfl
  have hq1:∀ K,onRow (hget h1 pb) K=K 30 1 false false 0 cp:=λ K=>by rw [e1]; rfl
  have hq2:∀ K,onRow (hget h1 bk) K=K 9 m op ro fz cells:=λ K=>by rw [hq]; rfl
  have c0:getF cells of=aF w0:=hc 0 (by simp)
  have hm':of + 1≤m:=by simp at hm; omega
  simp only [↓hq0,show Nat.ble 1 2=true from rfl,↓eP,↓aG,↓hq1,show Nat.ble (Nat.succ 0) 1=true from rfl,e2,↓bZ,↓hq2] at e
  rw [au (show 1≤(w0 :: l).length by simp),au (show of + 1≤m from hm'),c0] at e
  rw [show getF (T.ofList unk [aF a,aF b]) 0=aF a from rfl] at e
  unfold aF at e
  rw [Aj u] at e
  exact ⟨h1,e.symm,f⟩
omit u
theorem y8 (f:FuncId) (a b:Array Value) (k:FuncId→Array Value→Array Value→R):yu (.func (.func f) a b) k=k f a b:=rfl
def C40 (rc:RC) (h0:H) (pb:Nat) (w0:Bs):Prop:=∀ (a b:Bs) (g:H),cD h0 g→g.next≤900000000→∀ (k:Value→H→R) (X:R),rc 40 [.agg ⟨[aF a,aF b]⟩,.pointer (some ⟨pb,0,none⟩)] g k=X→∃ g',X=k (.bool (a == w0)) g'∧Fr g g' 1
include u
theorem aax {h0:H} {pb tb:Nat} {w0:Bs} (hC:C40 rc h0 pb w0) (ht:hget h0 tb=cF) (hlt:tb < h0.next) (k:Value→H→R) (b:aa [4]→H→R) (X:R):∀ (d i N:Nat) (x:Value) (g:H),i + d=41→d < N→cD h0 g→g.next + d≤900000000 →
  loopF (ks:=[4,8]) (rU E (.int .i64 (.ofNat 41)) (.slice (some ⟨tb,0,none⟩) 41 82) (.func (.func 40) ⟨[]⟩ ⟨[.pointer (some ⟨pb,0,none⟩)]⟩) rc k b) N (x,(.int .i64 (.ofNat i),())) g=X →
  ∃ g',Fr g g' d∧X=if dE w0 (aI.drop i) < d then k (.int .i64 (.ofNat (i + dE w0 (aI.drop i)))) g' else b (x,()) g':=by
 have u3:=u.u3
 intro d
 induction d with
 | zero =>
  intro i N x g hi hN hf hn e
  obtain ⟨N,rfl⟩:∃ M,N=M + 1:=⟨N - 1,by omega⟩
  rw [ce] at e
  unfold rU at e
  dsimp only at e
  rw [iu u3 (show 41≤i by omega),ai] at e
  exact ⟨g,Fr.refl _ _,by rw [if_neg (Nat.not_lt_zero _)]; exact e.symm⟩
 | succ d ih =>
  intro i N x g hi hN hf hn e
  obtain ⟨N,rfl⟩:∃ M,N=M + 1:=⟨N - 1,by omega⟩
  have hi41:i < 41:=by omega
  rw [ce] at e
  generalize hL:loopF (ks:=[4,8]) (rU E (.int .i64 (.ofNat 41)) (.slice (some ⟨tb,0,none⟩) 41 82) (.func (.func 40) ⟨[]⟩ ⟨[.pointer (some ⟨pb,0,none⟩)]⟩) rc k b) N=L at e
  have htg:hget g tb=cF:=(hf.old _ hlt).trans ht
  have hqr:∀ K,onRow (hget g tb) K=K 77 82 false false 0 (T.ofList unk (gi aI)):=λ K=>by rw [htg]; rfl
  obtain ⟨t1,t2⟩:=xe hi41
  unfold rU at e
  dsimp only at e
  rw [km u3 hi41,ai,aK] at e
  dsimp only at e
  rw [ai,cn,bZ,au (show i + 1≤41 by omega),co,aG] at e
  dsimp only at e
  rw [hqr,au (show 0 + i.mul 2 + 2≤82 by show 0 + i * 2 + 2≤82; omega),y8] at e
  rw [show ny (⟨[]⟩:Array Value) ⟨[.pointer (some ⟨pb,0,none⟩)]⟩ [.agg ⟨ac (T.ofList unk (gi aI)) 2 (0 + i.mul 2)⟩]=[.agg ⟨[aF (aI.getD i ([],[])).1,aF (aI.getD i ([],[])).2]⟩,.pointer (some ⟨pb,0,none⟩)] by
   show [Value.agg ⟨[getF (T.ofList unk (gi aI)) (0 + i * 2),getF (T.ofList unk (gi aI)) (0 + i * 2 + 1)]⟩,_]=_
   rw [show 0 + i * 2=2 * i by omega,t1,t2]] at e
  obtain ⟨g1,e1,f1⟩:=hC _ _ g hf (by omega) _ _ e
  replace e1:=e1.symm
  rw [ai] at e1
  have hd:aI.drop i=aI.getD i ([],[]) :: aI.drop (i + 1):=by
   rw [List.drop_eq_getElem_cons (show i < aI.length from hi41),List.getD_eq_getElem?_getD,List.getElem?_eq_getElem (show i < aI.length from hi41)]
   rfl
  have hub:=f1.ub
  by_cases q:(aI.getD i ([],[])).1=w0
  ·rw [show ((aI.getD i ([],[])).1 == w0)=true by rw [q]; exact beq_self_eq_true _,aK] at e1
   refine ⟨g1,f1.mono (by omega),?_⟩
   rw [hd]
   unfold dE
   rw [if_pos q,if_pos (by omega)]
   exact e1.symm
  ·rw [show ((aI.getD i ([],[])).1 == w0)=false from beq_eq_false_iff_ne.2 q,aM] at e1
   dsimp only at e1
   rw [dl u3 (by omega),← hL] at e1
   obtain ⟨g2,f2,e2⟩:=ih (i + 1) N x g1 (by omega) (by omega) (hf.trans f1.from) (by omega) e1
   refine ⟨g2,f1.trans f2 (by omega),?_⟩
   rw [hd]
   unfold dE
   rw [if_neg q,e2]
   by_cases q2:dE w0 (aI.drop (i + 1)) < d
   ·rw [if_pos q2,if_pos (by omega),show i + 1 + dE w0 (aI.drop (i + 1))=i + (dE w0 (aI.drop (i + 1)) + 1) by omega]
   ·rw [if_neg q2,if_neg (by omega)]
theorem amc {h:H} {pb tb:Nat} {w0:Bs} (hC:C40 rc h pb w0) (ht:hget h tb=cF) (hlt:tb < h.next) (hn:h.next≤800000000) (k:Value→H→R) (X:R)
  (e:p38 E rc (.slice (some ⟨tb,0,none⟩) 41 82) (.func (.func 40) ⟨[]⟩ ⟨[.pointer (some ⟨pb,0,none⟩)]⟩) h k=X) :
  ∃ h',Fr h h' 41∧X=if dE w0 aI < 41 then k (.int .i64 (.ofNat (dE w0 aI))) h' else k (.int .i64 (.negSucc 0)) h':=by
 unfold p38 at e
 rw [cJ,bZ] at e
 dsimp only at e
 rw [ai] at e
 obtain ⟨g,f,e1⟩:=aax u hC ht hlt k _ X 41 0 ft _ h (by omega) (by unfold ft; omega) (cD.refl _) (by omega) e
 rw [List.drop_zero,Nat.zero_add] at e1
 exact ⟨g,f,e1⟩
omit u
def OY (rc:RC):Prop:=∀ (s p:Bs) (h:H),s.length≤100000→∀ k:Value→H→R,rc 63 [.string ⟨⟨s⟩⟩,.string ⟨⟨p⟩⟩] h k=k (.bool (Lib.hasSuffix s p)) h
include u
theorem aow (hS:OY rc) {h:H} (hn:h.next≤900000000) {a r:Bs} (hr:r.length≤1000) (n:Nat) (k:Value→H→R) (X:R) (e:p41 E rc (.agg ⟨[aF a,aF r]⟩) (.int .i64 (.ofNat n)) h k=X) :
  ∃ h',X=k (.bool (jw r n)) h'∧Fr h h' 1:=by
 have u3:=u.u3
 have f:Fr h (ag h (.row 77 2 false false 0 (T.ofList unk [aF a,aF r]))) 1:=Fr.push _ (by omega)
 have e0:hget (ag h (.row 77 2 false false 0 (T.ofList unk [aF a,aF r]))) h.next=.row 77 2 false false 0 (T.ofList unk [aF a,aF r]):=aD _ _ (by omega)
 unfold p41 at e
 change (ifB true (ifB (Nat.ble h.1 1000000000) (letH (ag h (.row 77 2 false false 0 (T.ofList unk [aF a,aF r]))) _)))=X at e
 rw [eP,au (show h.1≤1000000000 by show h.next≤_; omega),aJ] at e
 generalize ag h (.row 77 2 false false 0 (T.ofList unk [aF a,aF r]))=h1 at f e0 e
 have hq0:∀ K,onRow (hget h1 h.1) K=K 77 2 false false 0 (T.ofList unk [aF a,aF r]):=λ K=>by rw [show h.1=h.next from rfl,e0]; rfl
 have g1:getF (T.ofList unk [aF a,aF r]) 1=.string ⟨⟨r⟩⟩:=rfl
 have hlen:∀ K,bindO (bv E h1 9 (.string ⟨⟨r⟩⟩)) K=K (.int .i64 (.ofNat r.length)):=λ K=>by rw [nS u]; rfl
 refine ⟨h1,?_,f⟩
 unfold jw
 rw [ai,hq0,show Nat.ble 2 2=true from rfl,eP,g1,hS r [43] h1 (by omega),ai] at e
 by_cases q1:Lib.hasSuffix r [43]=true
 ·rw [if_pos q1]
  rw [q1,aK,hq0,show Nat.ble 2 2=true from rfl,eP,g1,hlen,kh u3] at e
  exact e.symm
 ·have q1':Lib.hasSuffix r [43]=false:=by simpa using q1
  rw [if_neg q1]
  rw [q1',aM,hq0,show Nat.ble 2 2=true from rfl,eP,g1,hS r [42] h1 (by omega),ai] at e
  by_cases q2:Lib.hasSuffix r [42]=true
  ·rw [if_pos q2]
   rw [q2,aK] at e
   exact e.symm
  ·have q2':Lib.hasSuffix r [42]=false:=by simpa using q2
   rw [if_neg q2]
   rw [q2',aM] at e
   dsimp only at e
   rw [hq0,show Nat.ble 2 2=true from rfl,eP,g1,hlen,fJ u3] at e
   exact e.symm
end Go.Ev
