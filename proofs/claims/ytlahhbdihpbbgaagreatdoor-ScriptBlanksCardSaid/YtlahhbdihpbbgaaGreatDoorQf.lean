/-
  SCRIPT BLANKS, the whole: the law's function answers true.
-/
import Derived.Test.YtlahhbdihpbbgaaGreatDoorLb
import Derived.KernelRfl
import Derived.Test.YtlahhbdihpbbgaaGreatDoorQd
import Derived.Test.YtlahhbdihpbbgaaGreatDoorQb
import Derived.Test.YtlahhbdihpbbgaaGreatDoorQe
import Derived.Test.YtlahhbdihpbbgaaGreatDoorEc
import Derived.Test.YtlahhbdihpbbgaaGreatDoorKb
import Derived.Test.YtlahhbdihpbbgaaGreatDoorMe
import Derived.Lib.AtoiAllCases
import Derived.Test.YtlahhbdihpbbgaaGreatDoorQa
set_option linter.unusedVariables false
set_option linter.unusedSimpArgs false
namespace Go.Ev
open Go F Go.Proofs
set_option maxRecDepth 100000
set_option linter.unusedVariables false
noncomputable def ard (E:Env)(a b c:Value)(rc:RC)(k:Value→H→R)(d:aa [2]→H→R):(aa [2,66]→H→R)→aa [2,66]→H→R:=λ e f g=>binR (binC E .lss 3 false false) f.2.1 a λ h=>@joinR [] (λ _ i=>@joinR [2] (λ j l=>binR (binC E .add 3 false true) f.2.1 (.int .i64 (.ofNat 1)) λ m=>e (j.1,(m,())) l) λ j=>ifB (Nat.ble i.1 1000000000) (letH (H.mk i.1 i.2) λ l=>onNat f.2.1 none λ m=>onSl b none λ n o _=>ifB (Nat.ble (Nat.succ m) o) (addOffF n (Nat.mul m 9) λ p=>onPtr p λ q=>onRow (hget l q.1) λ _ r _ _ _ s=>ifB (Nat.ble (Nat.add q.2 9) r) (onNat f.2.1 none λ t=>onSl c none λ u v _=>ifB (Nat.ble (Nat.succ t) v) (addOffF u (Nat.mul t 9) λ w=>onPtr w λ x=>onRow (hget l x.1) λ _ y _ _ _ z=>ifB (Nat.ble (Nat.add x.2 9) y) (rc 10 [.agg ⟨ac s 9 q.2⟩] l λ a0 a1=>ifB (aj c c) (ifB (aj f.2.1 f.2.1) (onNat f.2.1 none λ a2=>onSl c none λ a3 a4 _=>ifB (Nat.ble (Nat.succ a2) a4) (addOffF a3 (Nat.mul a2 9) λ a5=>ifB (aj a5 w) (onPtr w λ a6=>onRow (hget a1 a6.1) λ _ a7 _ _ _ a8=>ifB (Nat.ble (Nat.add a6.2 9) a7) (ifB (aj (.agg ⟨ac a8 9 a6.2⟩) (.agg ⟨ac z 9 x.2⟩)) (rc 10 [.agg ⟨ac z 9 x.2⟩] a1 λ a9 b0=>rc 9 [a0,a9] b0 λ b1 b2=>onB b1 (@joinR [2] (λ b3 b4=>j (b3.1,()) b4) λ _=>k (.bool false) b2) (@joinR [2] (λ b3 b4=>j (b3.1,()) b4) λ b3=>b3 (f.1,()) b2))))))))))))) λ i=>onB h (d (f.1,()) g) (i () g)
noncomputable def arJ (k:Value→H→R)(E:Env)(a b:Value)(rc:RC)(c:aa [2])(d:H):R:=joinL (λ e=>@joinR [2] (λ _ f=>k (.bool true) f) λ f=>@loopF [2,66] (ard E e a b rc k f) ft (c.1,(.int .i64 (.ofNat 0),())) d) λ e=>onSl a (bindO (bv E d 23 a) e) λ _ f _=>e (.int .i64 (.ofNat f))
noncomputable def ar8 (k:Value→H→R)(E:Env)(a b:Value)(rc:RC)(c:H):R:=@joinR [2] (λ d e=>arJ k E a b rc d e) λ _=>k (.bool false) c
noncomputable def arp (a:Value)(E:Env)(b c:Value)(d:Value→H→R)(e:H):R:=aB a (binR (binC E .neq 3 false false) b c λ f=>d f e) (d undef e) (d undef e)
noncomputable def arH (a:Value)(b:Value→H→R)(c:H)(d:Value)(E:Env):R:=aB a (joinL (λ e=>b e c) λ e=>onSl d (bindO (bv E c 23 d) e) λ _ f _=>e (.int .i64 (.ofNat f))) (b undef c) (b undef c)
noncomputable def ass (k:Value→H→R)(E:Env)(a b:Value)(rc:RC)(c:H):R:=ae (λ _ d=>ae (λ _ e=>ae (λ _ f=>ae (λ _ g=>ae (λ _ h=>ar8 k E a b rc h) λ h=>h undef g) λ g=>g undef f) λ f=>f undef e) λ e=>e undef d) λ d=>d undef c
noncomputable def asc (k:Value→H→R)(E:Env)(a b:Value)(rc:RC)(c:H):R:=ae (λ _ d=>ae (λ _ e=>ae (λ _ f=>ass k E a b rc f) λ f=>f undef e) λ e=>e undef d) λ d=>d undef c
noncomputable def arq (E:Env)(a:H)(a0:Value)(rc:RC)(k:Value→H→R)(b:aa [2]):R:=bindO (bv E a 9 a0) λ c=>binR (binC E .gtr 3 false true) c (.int .i64 (.ofNat 8000)) λ d=>@joinR [2] (λ e f=>rc 7 [a0] f λ g h=>onTup g λ i=>nthF 0 i λ j=>onTup g λ l=>nthF 1 l λ m=>onTup g λ n=>nthF 2 n λ o=>onTup g λ p=>nthF 3 p λ q=>onTup g λ r=>nthF 4 r λ s=>rc 12 [a0,.string ⟨⟨[32]⟩⟩,.string ⟨⟨[32,32,32]⟩⟩] h λ t u=>rc 12 [t,.string ⟨⟨[10]⟩⟩,.string ⟨⟨[32,10,32,32]⟩⟩] u λ v w=>binR (binC E .add 9 true false) (.string ⟨⟨[32]⟩⟩) v λ x=>binR (binC E .add 9 false true) x (.string ⟨⟨[10,32,32,35,32,120,10,32,32,32]⟩⟩) λ y=>rc 7 [y] w λ z a1=>onTup z λ a2=>nthF 0 a2 λ a3=>onTup z λ a4=>nthF 1 a4 λ a5=>onTup z λ a6=>nthF 2 a6 λ a7=>onTup z λ a8=>nthF 3 a8 λ a9=>onTup z λ b0=>nthF 4 b0 λ b1=>binR (binC E .neq 3 false false) j a3 λ b2=>ae (λ b3 b4=>ae (λ b5 b6=>ae (λ b7 b8=>onB b2 (ae (λ b9 c0=>ae (λ c1 c2=>ae (λ c3 c4=>onB b7 (ae (λ c5 c6=>ae (λ c7 c8=>ae (λ c9 d0=>onB c3 (ae (λ d1 d2=>ae (λ d3 d4=>ae (λ d5 d6=>ae (λ d7 d8=>ae (λ d9 e0=>onB c9 (@joinR [2] (λ e1 e2=>arJ k E o a7 rc e1 e2) λ e1=>onB d9 (e1 (e.1,()) e0) (k (.bool false) e0)) (ar8 k E o a7 rc e0)) λ d9=>arp c9 E d3 d7 d9 d8) λ d7=>arH c9 d7 d6 d5 E) λ d5=>aB c9 (d5 a7 d4) (d5 undef d4) (d5 undef d4)) λ d3=>arH c9 d3 d2 d1 E) λ d1=>aB c9 (d1 o d0) (d1 undef d0) (d1 undef d0)) (ass k E o a7 rc d0)) λ c9=>aB c3 (binR (binC E .neq 24 false false) c5 c7 λ d0=>c9 d0 c8) (c9 undef c8) (c9 undef c8)) λ c7=>aB c3 (c7 b1 c6) (c7 undef c6) (c7 undef c6)) λ c5=>aB c3 (c5 s c4) (c5 undef c4) (c5 undef c4)) (asc k E o a7 rc c4)) λ c3=>arp b7 E b9 c1 c3 c2) λ c1=>aB b7 (c1 a9 c0) (c1 undef c0) (c1 undef c0)) λ b9=>aB b7 (b9 q b8) (b9 undef b8) (b9 undef b8)) (ae (λ _ b9=>ae (λ _ c0=>ae (λ _ c1=>asc k E o a7 rc c1) λ c1=>c1 undef c0) λ c0=>c0 undef b9) λ b9=>b9 undef b8)) λ b7=>arp b2 E b3 b5 b7 b6) λ b5=>aB b2 (b5 a5 b4) (b5 undef b4) (b5 undef b4)) λ b3=>aB b2 (b3 m a1) (b3 undef a1) (b3 undef a1)) λ e=>onB d (e (b.1,()) a) (k (.bool true) a)
noncomputable def pl5 (E:Env)(rc:RC)(a0:Value)(h:H)(k:Value→H→R):R:=rc 6 [] h λ a b=>onB a (@joinR [2] (λ c d=>arq E d a0 rc k c) λ _=>k (.bool false) b) (@joinR [2] (λ c d=>arq E d a0 rc k c) λ c=>c (.bool false,()) b)
theorem ar2 (t:ak)(rc:RC)(a0:Value)(h:H)(k:Value→H→R):(ax (EX t) KK 5).run rc [a0] h k = pl5 (EX t) rc a0 h k:=by kernel_rfl
end Go.Ev
namespace Go.Ev
open Go F Go.Proofs
set_option linter.unusedVariables false
set_option linter.unusedSimpArgs false
set_option maxRecDepth 100000
theorem arh {E:Env} (hE:E.und 3=some (.int .i64)) {cx cy:Bool} {a:Int} {k:Value→R}:binR (binC E .eql 3 cx cy) (.int .i64 a) (.int .i64 a) k=k (.bool true):=by
 cases a with
 | ofNat m=>exact (fJ hE).trans (by rw [Nat.beq_refl])
 | negSucc m =>
  have hb:iz E .eql 3 cx cy (.int .i64 (.negSucc m)) (.int .i64 (.negSucc m))=some (.bool true):=by
   show some (Value.bool (Int.negSucc m == Int.negSucc m))=_
   rw [beq_self_eq_true]
  unfold binR binC; rw [hE]
  show bindO (iz E .eql 3 cx cy (.int .i64 (.negSucc m)) (.int .i64 (.negSucc m))) k=_
  rw [hb]; rfl
variable {E : Env} (u : US E) {rc : RC}
include u
theorem ary {h:H} {v v':Value} {l:List Bs} (o:WL h v l) (o':WL h v' l) (hn:h.next≤900000000) (hl:l.length≤100000) (k:Value→H→R) (b:aa [4]→H→R):∀ (d i N:Nat) (x:Value),i + d=l.length→d < N →
  loopF (ks:=[4,13]) (alf E (.int .i64 (.ofNat l.length)) v v' k b) N (x,(.int .i64 (.ofNat i),())) h=b (x,()) h:=by
 have u3:=u.u3
 intro d
 induction d with
 | zero =>
  intro i N x hi hN
  obtain ⟨N,rfl⟩:∃ M,N=M + 1:=⟨N - 1,by omega⟩
  rw [ce]
  unfold alf
  dsimp only
  rw [iu u3 (show l.length≤i by omega),ai]
  rfl
 | succ d ih =>
  intro i N x hi hN
  obtain ⟨N,rfl⟩:∃ M,N=M + 1:=⟨N - 1,by omega⟩
  have hlt:i < l.length:=by omega
  have key:=ih (i + 1) N x (by omega) (by omega)
  rw [ce]
  generalize loopF (ks:=[4,13]) (alf E (.int .i64 (.ofNat l.length)) v v' k b) N=L at key ⊢
  cases o with
  | nil=>exact absurd hlt (Nat.not_lt_zero _)
  | row hb hq hm hcap hc =>
   cases o' with
   | nil=>exact absurd hlt (Nat.not_lt_zero _)
   | row hb' hq' hm' hcap' hc' =>
    rename_i bk of m cap fz op ro cells bk' of' m' cap' fz' op' ro' cells'
    have hqr:∀ KK,onRow (hget h bk) KK=KK 9 m op ro fz cells:=λ KK=>by rw [hq]; rfl
    have hqr':∀ KK,onRow (hget h bk') KK=KK 9 m' op' ro' fz' cells':=λ KK=>by rw [hq']; rfl
    unfold alf
    dsimp only
    rw [km u3 hlt,ai,aK]
    dsimp only
    rw [ai,au (show h.1≤1000000000 by show h.next≤_; omega),aJ,hmk,cn,bZ,au (show i + 1≤l.length by omega),co,aG]
    dsimp only
    rw [hqr,au (show of + i.mul 1 + 1≤m by show of + i * 1 + 1≤m; omega),cn,bZ,au (show i + 1≤l.length by omega),co,aG]
    dsimp only
    rw [hqr',au (show of' + i.mul 1 + 1≤m' by show of' + i * 1 + 1≤m'; omega),show of + i.mul 1=of + i by show of + i * 1=_; omega,show of' + i.mul 1=of' + i by show of' + i * 1=_; omega,hc i hlt,hc' i hlt]
    unfold aF
    rw [ar0 u,beq_self_eq_true,ai]
    rw [show (!true)=false from rfl,aM]
    dsimp only
    rw [dl u3 (by omega),key]
variable (u30 : E.und 30 = some (.slice 9))
include u30
theorem asd {h:H} {v v':Value} {l:List Bs} (o:WL h v l) (o':WL h v' l) (hn:h.next≤900000000) (hl:l.length≤100000) (k:Value→H→R):p24 E rc v v' h k=k (.bool true) h:=by
 have u3:=u.u3
 unfold p24
 rw [cJ]
 rw [kS (E:=E) (h':=h) o u30,cJ,kS (E:=E) (h':=h) o' u30,dK u3,Nat.beq_refl,show (!true)=false from rfl]
 rw [ai,aM]
 dsimp only
 rw [cJ,kS (E:=E) (h':=h) o u30,ai]
 have hb:l.length < ft:=by unfold ft; omega
 rw [ary u o o' hn hl k _ l.length 0 ft _ (Nat.zero_add _) hb]
omit u u30
def Alike (rc:RC):Prop:=∀ (h:H) (v v':Value) (l:List Bs) (k:Value→H→R),WL h v l→WL h v' l→h.next≤900000000→l.length≤100000→rc 24 [v,v'] h k=k (.bool true) h
include u
theorem ata (hA:Alike rc) {h:H} (hn:h.next≤800000000) {x:iq} {on tx on' tx':Value} (s1:WL h on x.on) (s2:WL h tx x.texts) (s1':WL h on' x.on) (s2':WL h tx' x.texts) (c1:cell1F on=true) (c2:cell1F tx=true) (c1':cell1F on'=true) (c2':cell1F tx'=true)
  (hl1:x.on.length≤100000) (hl2:x.texts.length≤100000) (k:Value→H→R):∃ h',Fr h h' 2∧p9 E rc (.agg ⟨dJ x on tx⟩) (.agg ⟨dJ x on' tx'⟩) h k=k (.bool true) h':=by
 have u3:=u.u3
 have u5:=u.u5
 have f1:Fr h (ag h (.row 34 9 false false 0 (T.ofList unk (dJ x on tx)))) 1:=Fr.push _ (by omega)
 have e1:hget (ag h (.row 34 9 false false 0 (T.ofList unk (dJ x on tx)))) h.next=.row 34 9 false false 0 (T.ofList unk (dJ x on tx)):=aD _ _ (by omega)
 have n1:(ag h (.row 34 9 false false 0 (T.ofList unk (dJ x on tx)))).next=h.next + 1:=rfl
 have hall:∀ on tx,cell1F on=true→cell1F tx=true→allF (λ b=>cell1F b) (dJ x on tx)=true:=λ on tx a b=>by
  rw [qO]; unfold dJ; simp only [List.all_cons,List.all_nil,a,b]; rfl
 unfold p9
 rw [bC,dF (hall _ _ c1 c2),au (show h.1≤1000000000 by show h.next≤_; omega),aJ,show lenF (dJ x on tx)=9 from rfl]
 generalize ag h (.row 34 9 false false 0 (T.ofList unk (dJ x on tx)))=h1 at f1 e1 n1 ⊢
 have f2:Fr h1 (ag h1 (.row 34 9 false false 0 (T.ofList unk (dJ x on' tx')))) 1:=Fr.push _ (by omega)
 have e2:hget (ag h1 (.row 34 9 false false 0 (T.ofList unk (dJ x on' tx')))) h1.next=.row 34 9 false false 0 (T.ofList unk (dJ x on' tx')):=aD _ _ (by omega)
 have n2:(ag h1 (.row 34 9 false false 0 (T.ofList unk (dJ x on' tx')))).next=h1.next + 1:=rfl
 rw [bC,dF (hall _ _ c1' c2'),au (show h1.1≤1000000000 by show h1.next≤_; omega),aJ,show lenF (dJ x on' tx')=9 from rfl]
 generalize ag h1 (.row 34 9 false false 0 (T.ofList unk (dJ x on' tx')))=h2 at f2 e2 n2 ⊢
 have e1':hget h2 h.next=.row 34 9 false false 0 (T.ofList unk (dJ x on tx)):=(f2.old _ (by omega)).trans e1
 have hq1:∀ KK,onRow (hget h2 h.1) KK=KK 34 9 false false 0 (T.ofList unk (dJ x on tx)):=λ KK=>by rw [show h.1=h.next from rfl,e1']; rfl
 have hq2:∀ KK,onRow (hget h2 h1.1) KK=KK 34 9 false false 0 (T.ofList unk (dJ x on' tx')):=λ KK=>by rw [show h1.1=h1.next from rfl,e2]; rfl
 have g:∀ on tx i v,(dJ x on tx).getD i unk=v→getF (T.ofList unk (dJ x on tx)) i=v:=λ on tx i v e=>by rw [aL,e]
 have hf:Fr h h2 2:=f1.trans f2 (Nat.le_refl _)
 have a3:∀ KK,rc 24 [on,on'] h2 KK=KK (.bool true) h2:=λ KK=>hA h2 on on' x.on KK (s1.fr hf) (s1'.fr hf) (by omega) hl1
 have a8:∀ KK,rc 24 [tx,tx'] h2 KK=KK (.bool true) h2:=λ KK=>hA h2 tx tx' x.texts KK (s2.fr hf) (s2'.fr hf) (by omega) hl2
 refine ⟨h2,hf,?_⟩
 have b0:Nat.ble 1 9=true:=rfl
 have b1:Nat.ble (Nat.succ 1) 9=true:=rfl
 have b2:Nat.ble (Nat.succ 2) 9=true:=rfl
 have b3:Nat.ble (Nat.succ 3) 9=true:=rfl
 have b4:Nat.ble (Nat.succ 4) 9=true:=rfl
 have b5:Nat.ble (Nat.succ 5) 9=true:=rfl
 have b6:Nat.ble (Nat.succ 6) 9=true:=rfl
 have b7:Nat.ble (Nat.succ 7) 9=true:=rfl
 have b8:Nat.ble (Nat.succ 8) 9=true:=rfl
 have w0:=λ on tx=>g on tx 0 (.int .i64 (.ofNat x.line)) rfl
 have w1:=λ on tx=>g on tx 1 (.int .u8 (.ofNat x.op)) rfl
 have w2:=λ on tx=>g on tx 2 (.string ⟨⟨x.label⟩⟩) rfl
 have w3:=λ on tx=>g on tx 3 on rfl
 have w4:=λ on tx=>g on tx 4 (.int .i64 x.n) rfl
 have w5:=λ on tx=>g on tx 5 (.int .i64 x.m) rfl
 have w6:=λ on tx=>g on tx 6 (.int .i64 x.k) rfl
 have w7:=λ on tx=>g on tx 7 (.int .u8 (.ofNat x.kind)) rfl
 have w8:=λ on tx=>g on tx 8 tx rfl
 simp only [↓hq1,↓hq2,b0,b1,b2,b3,b4,b5,b6,b7,b8,↓eP,w0,w1,w2,w3,w4,w5,w6,w7,w8,↓arh u3,↓gv u5,↓Aj u,beq_self_eq_true,Nat.beq_refl,↓bz,↓aK,↓eC,An,arB,arj,↓aG,↓a3,↓a8]
end Go.Ev
namespace Go.Ev
open Go F Go.Proofs
set_option maxRecDepth 100000
set_option exponentiation.threshold 3000
set_option linter.unusedVariables false
noncomputable def tP:ak:=(((((xR.ins 40 16 (some pH)).ins 40 35 (some l5)).ins 40 63 (some Dh)).ins 40 11 (some HZ)).ins 40 12 (some AW)).ins 40 62 (some vb)
theorem PK (h:aA xR):aA tP:=ar (ar (ar (ar (ar (ar h (by decide) yl) (by decide) sZ) (by decide) EO) (by decide) I9) (by decide) Ao) (by decide) zM
noncomputable def EP:Env:=EX tP
theorem vO:EP=EX tP:=rfl
theorem us:US EP:=⟨by kernel_rfl,by kernel_rfl,by kernel_rfl⟩
theorem t30:Ad EP 30 9 1 ((EP.info 9).getD default) [.string ⟨⟨[]⟩⟩]:=⟨by kernel_rfl,by kernel_rfl,by kernel_rfl,of_decide_eq_true (by kernel_rfl),by kernel_rfl,rfl,by decide,by decide⟩
theorem t23:Ad EP 23 32 9 ((EP.info 32).getD default) aO:=⟨by kernel_rfl,by kernel_rfl,by kernel_rfl,of_decide_eq_true (by kernel_rfl),by kernel_rfl,rfl,by decide,by decide⟩
theorem DJ {ty:TypeId} {d:TypeDesc} (hu:EP.und ty=some d) (ha:gt d=true) (hz:EP.size ty=some 9):∀ (h:H) (b:Nat) (op ro:Bool) (fz:Nat) (cells:T Value),hget h b=.row ty 9 op ro fz cells→aU EP h ty ⟨b,0,none⟩=some (.agg ⟨ac cells 9 0⟩):=by
 intro h b op ro fz cells e
 rw [bI] at e
 unfold aU
 simp only [hu,hz,e,ha,cond_true,dS]
 rfl
theorem tn:CE EP 32:={ us with
 u24:=by kernel_rfl
 u30:=by kernel_rfl
 z9:=by kernel_rfl
 load:=DJ (d:=(EP.und 32).getD .bool) (by kernel_rfl) (by kernel_rfl) (by kernel_rfl)
 build:=λ a c=>by kernel_rfl }
theorem u62:∃ mi,EP.und 62=some (.interface mi):=⟨_,(by kernel_rfl:EP.und 62=some (.interface (match EP.und 62 with | some (.interface m)=>m | _=>default)))⟩
theorem tc0 {f:FuncId} {x:List Value→H→Option (Value × H)} (e:bN EP KK f=⟨λ _ args h c=>cT (x args h) c⟩) (m:Nat) (args:List Value) (h:H) (k:Value→H→R) {v:Value} {h':H} (hx:x args h=some (v,h')):az EP KK (m + 1) f args h k=k v h':=by
 show (bN EP KK f).run _ _ _ _=_
 rw [e]
 show cT (x args h) k=_
 rw [hx]; rfl
theorem asr:bN EP KK 16=⟨λ _ args h c=>cT (pH args h) c⟩:=by kernel_rfl
theorem ar1:bN EP KK 35=⟨λ _ args h c=>cT (l5 args h) c⟩:=by kernel_rfl
theorem arF:bN EP KK 63=⟨λ _ args h c=>cT (Dh args h) c⟩:=by kernel_rfl
theorem atp:bN EP KK 12=⟨λ _ args h c=>cT (AW args h) c⟩:=by kernel_rfl
theorem an8:bN EP KK 62=⟨λ _ args h c=>cT (vb args h) c⟩:=by kernel_rfl
theorem fc6:bN EP KK 6=⟨λ _ args h c=>cT (aV glob args h) c⟩:=by kernel_rfl
theorem arw (m:Nat) (a0:Value) (h:H) (k:Value→H→R):az EP KK (m + 1) 37 [a0] h k=p37 EP (az EP KK m) a0 h k:=by
 show (bN EP KK 37).run _ _ _ _=_
 rw [show bN EP KK 37=ax EP KK 37 from bB (by kernel_rfl),vO]
 exact Sf tP _ a0 h k
theorem arM (m:Nat) (a0:Value) (a1:Value) (h:H) (k:Value→H→R):az EP KK (m + 1) 38 [a0,a1] h k=p38 EP (az EP KK m) a0 a1 h k:=by
 show (bN EP KK 38).run _ _ _ _=_
 rw [show bN EP KK 38=ax EP KK 38 from bB (by kernel_rfl),vO]
 exact W3 tP _ a0 a1 h k
theorem ar5 (m:Nat) (h:H) (k:Value→H→R):az EP KK (m + 1) 39 [] h k=p39 EP (az EP KK m)  h k:=by
 show (bN EP KK 39).run _ _ _ _=_
 rw [show bN EP KK 39=ax EP KK 39 from bB (by kernel_rfl),vO]
 exact adD tP _  h k
theorem arK (m:Nat) (a0:Value) (a1:Value) (h:H) (k:Value→H→R):az EP KK (m + 1) 40 [a0,a1] h k=p40 EP (az EP KK m) a0 a1 h k:=by
 show (bN EP KK 40).run _ _ _ _=_
 rw [show bN EP KK 40=ax EP KK 40 from bB (by kernel_rfl),vO]
 exact agU tP _ a0 a1 h k
theorem asH (m:Nat) (a0:Value) (a1:Value) (h:H) (k:Value→H→R):az EP KK (m + 1) 41 [a0,a1] h k=p41 EP (az EP KK m) a0 a1 h k:=by
 show (bN EP KK 41).run _ _ _ _=_
 rw [show bN EP KK 41=ax EP KK 41 from bB (by kernel_rfl),vO]
 exact adk tP _ a0 a1 h k
theorem asa (m:Nat) (a0:Value) (a1:Value) (a2:Value) (h:H) (k:Value→H→R):az EP KK (m + 1) 42 [a0,a1,a2] h k=p42 EP (az EP KK m) a0 a1 a2 h k:=by
 show (bN EP KK 42).run _ _ _ _=_
 rw [show bN EP KK 42=ax EP KK 42 from bB (by kernel_rfl),vO]
 exact abE tP _ a0 a1 a2 h k
theorem asI (m:Nat) (a0:Value) (a1:Value) (h:H) (k:Value→H→R):az EP KK (m + 1) 64 [a0,a1] h k=p64 EP (az EP KK m) a0 a1 h k:=by
 show (bN EP KK 64).run _ _ _ _=_
 rw [show bN EP KK 64=ax EP KK 64 from bB (by kernel_rfl),vO]
 exact adf tP _ a0 a1 h k
theorem arL (m:Nat) (h:H) (k:Value→H→R):az EP KK (m + 1) 65 [] h k=p65 EP (az EP KK m)  h k:=by
 show (bN EP KK 65).run _ _ _ _=_
 rw [show bN EP KK 65=ax EP KK 65 from bB (by kernel_rfl),vO]
 exact ajH tP _  h k
theorem aro (m:Nat) (a0:Value) (h:H) (k:Value→H→R):az EP KK (m + 1) 66 [a0] h k=p66 EP (az EP KK m) a0 h k:=by
 show (bN EP KK 66).run _ _ _ _=_
 rw [show bN EP KK 66=ax EP KK 66 from bB (by kernel_rfl),vO]
 exact Ug tP _ a0 h k
theorem asm (m:Nat) (a0:Value) (h:H) (k:Value→H→R):az EP KK (m + 1) 17 [a0] h k=p17 EP (az EP KK m) a0 h k:=by
 show (bN EP KK 17).run _ _ _ _=_
 rw [show bN EP KK 17=ax EP KK 17 from bB (by kernel_rfl),vO]
 exact Re tP _ a0 h k
theorem asj (m:Nat) (a0:Value) (h:H) (k:Value→H→R):az EP KK (m + 1) 18 [a0] h k=p18 EP (az EP KK m) a0 h k:=by
 show (bN EP KK 18).run _ _ _ _=_
 rw [show bN EP KK 18=ax EP KK 18 from bB (by kernel_rfl),vO]
 exact U9 tP _ a0 h k
theorem asw (m:Nat) (a0:Value) (a1:Value) (h:H) (k:Value→H→R):az EP KK (m + 1) 19 [a0,a1] h k=p19 EP (az EP KK m) a0 a1 h k:=by
 show (bN EP KK 19).run _ _ _ _=_
 rw [show bN EP KK 19=ax EP KK 19 from bB (by kernel_rfl),vO]
 exact Zq tP _ a0 a1 h k
theorem tc7 (m:Nat) (a0:Value) (h:H) (k:Value→H→R):az EP KK (m + 1) 7 [a0] h k=p7 EP (az EP KK m) a0 h k:=by
 show (bN EP KK 7).run _ _ _ _=_
 rw [show bN EP KK 7=ax EP KK 7 from bB (by kernel_rfl),vO]
 exact ap1 tP _ a0 h k
theorem tc9 (m:Nat) (a0:Value) (a1:Value) (h:H) (k:Value→H→R):az EP KK (m + 1) 9 [a0,a1] h k=p9 EP (az EP KK m) a0 a1 h k:=by
 show (bN EP KK 9).run _ _ _ _=_
 rw [show bN EP KK 9=ax EP KK 9 from bB (by kernel_rfl),vO]
 exact asl tP _ a0 a1 h k
theorem asZ (m:Nat) (a0:Value) (h:H) (k:Value→H→R):az EP KK (m + 1) 10 [a0] h k=p10 EP (az EP KK m) a0 h k:=by
 show (bN EP KK 10).run _ _ _ _=_
 rw [show bN EP KK 10=ax EP KK 10 from bB (by kernel_rfl),vO]
 exact arN tP _ a0 h k
theorem atF (m:Nat) (a0:Value) (a1:Value) (h:H) (k:Value→H→R):az EP KK (m + 1) 24 [a0,a1] h k=p24 EP (az EP KK m) a0 a1 h k:=by
 show (bN EP KK 24).run _ _ _ _=_
 rw [show bN EP KK 24=ax EP KK 24 from bB (by kernel_rfl),vO]
 exact arv tP _ a0 a1 h k
theorem tc5 (m:Nat) (a0:Value) (h:H) (k:Value→H→R):az EP KK (m + 1) 5 [a0] h k=pl5 EP (az EP KK m) a0 h k:=by
 show (bN EP KK 5).run _ _ _ _=_
 rw [show bN EP KK 5=ax EP KK 5 from bB (by kernel_rfl),vO]
 exact ar2 tP _ a0 h k
end Go.Ev
namespace Go.Ev
open Go F Go.Proofs
set_option linter.unusedVariables false
set_option linter.unusedSimpArgs false
set_option maxRecDepth 100000
theorem WL.slice {h:H} {v:Value} {l:List Bs} (o:WL h v l):∃ a n c,v=.slice a n c:=by cases o <;> exact ⟨_,_,_,rfl⟩
theorem ark (x:iq) (a:Option Addr) (n c:Nat) (a':Option Addr) (n' c':Nat):cg EP 34 [(0,.int .i64 (.ofNat x.line)),(1,.int .u8 (.ofNat x.op)),(2,aF x.label),(3,.slice a n c),(4,.int .i64 x.n),(5,.int .i64 x.m),(6,.int .i64 x.k),(7,.int .u8 (.ofNat x.kind)),(8,.slice a' n' c')] =
  some (.agg ⟨dJ x (.slice a n c) (.slice a' n' c')⟩):=by kernel_rfl
theorem arE:∀ (h:H) (b:Nat) (op ro:Bool) (fz:Nat) (cells:T Value),hget h b=.row 34 9 op ro fz cells→aU EP h 34 ⟨b,0,none⟩=some (.agg ⟨ac cells 9 0⟩):=DJ (d:=(EP.und 34).getD .bool) (by kernel_rfl) (by kernel_rfl) (by kernel_rfl)
variable {rc : RC}
theorem ar9 {h:H} (hn:h.next≤800000000) {x:iq} {on tx:Value} (s1:WL h on x.on) (s2:WL h tx x.texts) (k:Value→H→R):∃ h',Fr h h' 2∧p10 EP rc (.agg ⟨dJ x on tx⟩) h k=k (.agg ⟨dJ x on tx⟩) h':=by
 have f1:Fr h (ag h (.row 32 9 false false 0 (T.ofList unk (dJ x on tx)))) 1:=Fr.push _ (by omega)
 have e1:hget (ag h (.row 32 9 false false 0 (T.ofList unk (dJ x on tx)))) h.next=.row 32 9 false false 0 (T.ofList unk (dJ x on tx)):=aD _ _ (by omega)
 have n1:(ag h (.row 32 9 false false 0 (T.ofList unk (dJ x on tx)))).next=h.next + 1:=rfl
 have hall:(dJ x on tx).all cell1F=true:=by
  unfold dJ; simp only [List.all_cons,List.all_nil,s1.cell1,s2.cell1]; rfl
 unfold p10
 rw [bC,dF (show allF (λ b=>cell1F b) (dJ x on tx)=true by rw [qO,hall]),au (show h.1≤1000000000 by show h.next≤_; omega),aJ,show lenF (dJ x on tx)=9 from rfl]
 have hz:([.int .i64 (.ofNat 0),.int .u8 (.ofNat 0),.string (ByteArray.mk #[]),.slice none 0 0,.int .i64 (.ofNat 0),.int .i64 (.ofNat 0),.int .i64 (.ofNat 0),.int .u8 (.ofNat 0),.slice none 0 0]:List Value)=aO:=rfl
 rw [hz]
 generalize ag h (.row 32 9 false false 0 (T.ofList unk (dJ x on tx)))=h1 at f1 e1 n1 ⊢
 have f2:Fr h1 (ag h1 (.row 34 9 false false 0 (T.ofList unk aO))) 1:=Fr.push _ (by omega)
 have e2:hget (ag h1 (.row 34 9 false false 0 (T.ofList unk aO))) h1.next=.row 34 9 false false 0 (T.ofList unk aO):=aD _ _ (by omega)
 have n2:(ag h1 (.row 34 9 false false 0 (T.ofList unk aO))).next=h1.next + 1:=rfl
 rw [au (show h1.1≤1000000000 by show h1.next≤_; omega),aJ]
 generalize ag h1 (.row 34 9 false false 0 (T.ofList unk aO))=h2 at f2 e2 n2 ⊢
 have e1':hget h2 h.next=.row 32 9 false false 0 (T.ofList unk (dJ x on tx)):=(f2.old _ (by omega)).trans e1
 have hq1:∀ KK,onRow (hget h2 h.1) KK=KK 32 9 false false 0 (T.ofList unk (dJ x on tx)):=λ KK=>by rw [show h.1=h.next from rfl,e1']; rfl
 have g:∀ i v,(dJ x on tx).getD i unk=v→getF (T.ofList unk (dJ x on tx)) i=v:=λ i v e=>by rw [aL,e]
 have w0:=g 0 (.int .i64 (.ofNat x.line)) rfl
 have w1:=g 1 (.int .u8 (.ofNat x.op)) rfl
 have w2:=g 2 (aF x.label) rfl
 have w3:=g 3 on rfl
 have w4:=g 4 (.int .i64 x.n) rfl
 have w5:=g 5 (.int .i64 x.m) rfl
 have w6:=g 6 (.int .i64 x.k) rfl
 have w7:=g 7 (.int .u8 (.ofNat x.kind)) rfl
 have w8:=g 8 tx rfl
 have b1:Nat.ble 1 9=true:=rfl
 have b2:Nat.ble 2 9=true:=rfl
 have b3:Nat.ble 3 9=true:=rfl
 have b4:Nat.ble 4 9=true:=rfl
 have b5:Nat.ble 5 9=true:=rfl
 have b6:Nat.ble 6 9=true:=rfl
 have b7:Nat.ble 7 9=true:=rfl
 have b8:Nat.ble 8 9=true:=rfl
 have b9:Nat.ble 9 9=true:=rfl
 simp only [↓hq1,b1,b2,b3,b4,b5,b6,b7,b8,b9,↓eP,w0,w1,w2,w3,w4,w5,w6,w7,w8]
 obtain ⟨a,n,c,rfl⟩:=s1.slice
 obtain ⟨a',n',c',rfl⟩:=s2.slice
 rw [ark,bw,bC,show h1.1=h1.next from rfl,AV e2 rfl hall,arE _ _ false false 0 _ (cm _ _ _ (by omega)),bw,jj _ rfl]
 exact ⟨_,⟨by show h.next≤h2.next; omega,by show h2.next≤_; omega,λ id hid=>by rw [dA _ _ (by omega) (by omega),f2.old _ (by omega),f1.old _ hid]⟩,rfl⟩
end Go.Ev
namespace Go.Ev
open Go F Go.Proofs
set_option maxRecDepth 100000
set_option exponentiation.threshold 3000
set_option linter.unusedVariables false
set_option linter.unusedSimpArgs false
theorem kE (h:H) (i:Nat):h.objs.get i=hget h i:=(bI h i).symm
structure HS (hS:H):Prop where
 n:16≤hS.next
 m:∃ m,cell0 hS 0=some (.int .i64 m)
 e:∃ t a,cell0 hS 4=some (.iface t a)
 g:iW glob 0 hS=true
theorem mL {hS h:H} (f:cD hS h) {g:Nat} (hg:g < hS.next):cell0 h g=cell0 hS g:=by
 unfold cell0
 rw [kE,kE,f.old g hg]
theorem mj {hS h:H} (f:cD hS h):∀ (gl:List AO) (i:Nat),i + gl.length≤hS.next→iW gl i hS=true→iW gl i h=true
 | [],_,_,_=>rfl
 | o :: l,i,hi,hs=>by
  unfold iW at hs ⊢
  rw [Bool.and_eq_true] at hs
  rw [kE,f.old i (by simp at hi; omega),← kE,hs.1,mj f l (i + 1) (by simp at hi; omega) hs.2]
  rfl
theorem vq:∀ (w:Bs) (n:Nat),n≤gb n w
 | [],n=>Nat.le_refl _
 | b :: w,n=>by
  unfold gb
  have:=vq w (10 * n + (b.toNat - 48))
  omega
theorem vD:∀ (w:Bs) (acc:Nat),w.all fE=true→acc < 18446744073709551616→Lib.parseUint10 acc w=if gb acc w < 18446744073709551616 then .ok (gb acc w) else .range
 | [],acc,_,ha=>by unfold Lib.parseUint10 gb; rw [if_pos ha]
 | c :: r,acc,hd,ha=>by
  rw [List.all_cons,Bool.and_eq_true] at hd
  have hc:48≤c.toNat∧c.toNat≤57:=by
   have:=hd.1
   unfold fE at this
   rw [Bool.and_eq_true] at this
   exact ⟨Nat.le_of_ble_eq_true this.1,Nat.le_of_ble_eq_true this.2⟩
  unfold Lib.parseUint10 gb
  rw [if_pos hc]
  have hge:=vq r (10 * acc + (c.toNat - 48))
  by_cases q1:1844674407370955162≤acc
  ·rw [if_pos q1,if_neg (by omega)]
  ·rw [if_neg q1]
   by_cases q2:18446744073709551616≤acc * 10 + (c.toNat - 48)
   ·rw [if_pos q2,if_neg (by omega)]
   ·rw [if_neg q2,vD r _ hd.2 (by omega),show acc * 10 + (c.toNat - 48)=10 * acc + (c.toNat - 48) by omega]
theorem oa {w:Bs} (hne:w ≠ []) (hd:w.all fE=true):Lib.atoiAll w=if gb 0 w≤9223372036854775807 then .ok (gb 0 w:Int) else .range:=by
 cases w with
 | nil=>exact absurd rfl hne
 | cons c r =>
  have hc:48≤c.toNat:=by
   rw [List.all_cons,Bool.and_eq_true] at hd
   have:=hd.1
   unfold fE at this
   rw [Bool.and_eq_true] at this
   exact Nat.le_of_ble_eq_true this.1
  have hp:Lib.parseMag (c :: r)=if gb 0 (c :: r) < 18446744073709551616 then .ok (gb 0 (c :: r)) else .range:=by
   unfold Lib.parseMag
   rw [if_neg (by simp)]
   exact vD _ 0 hd (by decide)
  have h43:¬ (c.toNat=43 ∨ c.toNat=45):=by omega
  have h45:¬ c.toNat=45:=by omega
  unfold Lib.atoiAll
  simp only [if_neg h43,hp]
  by_cases q:gb 0 (c :: r) < 18446744073709551616
  ·rw [if_pos q]
   simp only
   by_cases q2:gb 0 (c :: r)≤9223372036854775807
   ·rw [if_pos q2,if_neg (by omega),if_neg (by omega),if_neg h45]
   ·rw [if_neg q2,if_pos ⟨h45,by omega⟩]
  ·rw [if_neg q,if_neg (by omega)]
variable {hS : H} (hs : HS hS)
include hs
theorem r62 (m:Nat):ux (az EP KK (m + 1)) (cD hS):=by
 intro w h hl hne hd hq hn
 have hb:Nat.ble w.length 1000000=true:=be (by omega)
 by_cases q:gb 0 w≤9223372036854775807
 ·refine .inl ⟨q,λ k=>tc0 an8 m _ h k ?_⟩
  show (bif Nat.ble w.length 1000000 then _ else none)=_
  rw [hb,cond_true,oa hne hd,if_pos q]
  rfl
 ·refine .inr ⟨by omega,Lib.atoiSat w,223,.pointer (some ⟨h.next,0,none⟩),λ k=>?_⟩
  obtain ⟨t,a,hc⟩:=hs.e
  have hc':cell0 h 4=some (.iface t a):=(mL hq (by have:=hs.n; omega)).trans hc
  have hroom:room h=true:=be (by omega)
  refine tc0 an8 m _ h k (h':=ag h .dead) ?_
  show (bif Nat.ble w.length 1000000 then _ else none)=_
  rw [hb,cond_true,oa hne hd,if_neg q,cV]
  simp only [hc',hroom,cond_true]
theorem r37 (m:Nat):A9 (az EP KK (m + 2)) (cD hS):=by
 intro w h hl hq hn k X e
 obtain ⟨mi,hu⟩:=u62
 exact amo us (rc:=az EP KK (m + 1)) (r62 hs m) hu hl hq hn k X ((arw (m + 1) _ h k).symm.trans e)
omit hs in
theorem r65 (m:Nat) (h:H) (k:Value→H→R) (hn:h.next≤900000000):az EP KK (m + 1) 65 [] h k=k (.slice (some ⟨h.next,0,none⟩) 5 10) (ag h (.row 9 5 false false 0 (T.ofList unk (ch.map aF)))):=by
 rw [arL]
 unfold p65
 rw [au (show h.1≤1000000000 by show h.next≤_; omega),aJ]
 rfl
omit hs in
theorem afw {w:Bs} {h:H} {tb:Nat} (hq:hget h tb=.row 9 5 false false 0 (T.ofList unk (ch.map aF))) (k:Value→H→R) (k':aa [4]→H→R) :
  ∀ (d i N:Nat) (x:Value),i + d=5→d < N →
   loopF (ks:=[4,8]) (rW EP (.int .i64 (.ofNat 5)) (.slice (some ⟨tb,0,none⟩) 5 10) (aF w) k k') N (x,(.int .i64 (.ofNat i),())) h=if jq w (ch.drop i) < d then k (.int .i64 (.ofNat (i + jq w (ch.drop i)))) h else k' (x,()) h:=by
 have u3:=us.u3
 intro d
 induction d with
 | zero =>
  intro i N x hi hN
  obtain ⟨N,rfl⟩:∃ M,N=M + 1:=⟨N - 1,by omega⟩
  rw [ce]
  unfold rW
  dsimp only
  rw [iu u3 (show 5≤i by omega),ai,if_neg (Nat.not_lt_zero _)]
  rfl
 | succ d ih =>
  intro i N x hi hN
  obtain ⟨N,rfl⟩:∃ M,N=M + 1:=⟨N - 1,by omega⟩
  have hlt:i < 5:=by omega
  have hlt':i < ch.length:=hlt
  have key:=ih (i + 1) N x (by omega) (by omega)
  have hqr:∀ KK,onRow (hget h tb) KK=KK 9 5 false false 0 (T.ofList unk (ch.map aF)):=λ KK=>by rw [hq]; rfl
  have hcell:getF (T.ofList unk (ch.map aF)) i=aF (ch[i]'hlt'):=by
   rw [aL,List.getD_eq_getElem?_getD,List.getElem?_map,List.getElem?_eq_getElem hlt']; rfl
  rw [ce]
  generalize loopF (ks:=[4,8]) (rW EP (.int .i64 (.ofNat 5)) (.slice (some ⟨tb,0,none⟩) 5 10) (aF w) k k') N=L at key ⊢
  unfold rW
  dsimp only
  rw [km u3 hlt,ai,aK]
  dsimp only
  rw [ai,cn,bZ,au (show i + 1≤5 by omega),co,aG]
  dsimp only
  rw [hqr,au (show 0 + i.mul 1 + 1≤5 by show 0 + i * 1 + 1≤5; omega),show 0 + i.mul 1=i by show 0 + i * 1=i; omega,hcell]
  unfold aF
  rw [Aj us,ai,List.drop_eq_getElem_cons hlt']
  unfold jq
  by_cases q:ch[i]=w
  ·rw [show (w == ch[i])=true by rw [q]; exact beq_self_eq_true _,if_pos q,if_pos (by omega)]
   rfl
  ·rw [show (w == ch[i])=false from beq_eq_false_iff_ne.2 (Ne.symm q),if_neg q,aM]
   dsimp only
   rw [dl u3 (by omega),key]
   by_cases q2:jq w (ch.drop (i + 1)) < d
   ·rw [if_pos q2,if_pos (by omega),show i + 1 + jq w (ch.drop (i + 1))=i + (jq w (ch.drop (i + 1)) + 1) by omega]
   ·rw [if_neg q2,if_neg (by omega)]
omit hs in
theorem r64 (m:Nat) (h:H) (tb:Nat) (w:Bs) (k:Value→H→R) (hq:hget h tb=.row 9 5 false false 0 (T.ofList unk (ch.map aF))) :
  az EP KK (m + 1) 64 [.slice (some ⟨tb,0,none⟩) 5 10,aF w] h k=k (if jq w ch < 5 then .int .i64 (.ofNat (jq w ch)) else .int .i64 (.negSucc 0)) h:=by
 rw [asI]
 unfold p64
 rw [cJ,bZ]
 dsimp only
 rw [ai,afw hq k _ 5 0 ft _ rfl (by unfold ft; omega),List.drop_zero,Nat.zero_add]
 split <;> rfl
theorem akC (m:Nat):iE (az EP KK (m + 2)) (cD hS) where
 num:=r37 hs m
 kinds:=λ h k hn=>r65 (m + 1) h k hn
 index:=λ h tb w k hq=>r64 (m + 1) h tb w k hq
 plain:=λ w h k=>(aro (m + 1) _ h k).trans (adP us k)
theorem r42 (m:Nat):o0 (az EP KK (m + 3)) (cD hS):=λ B b h x w c k X cr hq hn hw h1 h2 e =>
 ak3 us t30 (rc:=az EP KK (m + 2)) (akC hs m) cr hq hn hw h1 h2 c ((asa (m + 2) _ _ _ h k).symm.trans e)
omit hs in
theorem r39 (m:Nat):zV (az EP KK (m + 1)):=λ h k hn=>by
 rw [ar5,Dp,au (show h.1≤1000000000 by show h.next≤_; omega),aJ]
omit hs in
theorem r38 (m:Nat):Pp (az EP KK (m + 2)):=λ h pb tb w0 l k X lv ht hlt hn e =>
 amc us (rc:=az EP KK (m + 1)) (h:=h) (λ a b g hf hg k X e=>ao1 us (rc:=az EP KK m) (lv.from hf) hg a b k X ((arK m _ _ g k).symm.trans e)) ht hlt hn k X ((arM (m + 1) _ _ h k).symm.trans e)
omit hs in
theorem r63 (m:Nat):OY (az EP KK (m + 1)):=λ s p h hl k=>tc0 arF m _ h k (by
 show (bif Nat.ble s.length 4000000000 then _ else none)=_
 rw [be (by omega)]; rfl)
omit hs in
theorem r41 (m:Nat):PQ (az EP KK (m + 2)):=λ h a r n k X hn hr e=>aow us (rc:=az EP KK (m + 1)) (r63 m) hn hr n k X ((asH (m + 1) _ _ h k).symm.trans e)
theorem r19 (m:Nat):BE (az EP KK (m + 4)) (cD hS):=λ line v w0 l h k X hq hn o cl hsm hl e =>
 apw tn (rc:=az EP KK (m + 3)) (r39 (m + 2)) (r38 (m + 1)) (r41 (m + 1)) (r42 hs m) hq hn o (.inl cl) hsm hl line k X ((asw (m + 3) _ _ h k).symm.trans e)
omit hs in
theorem r35 (m:Nat):qm (az EP KK (m + 1)):=λ s h hl hn k=>tc0 ar1 m _ h k (by
 have hr:room h=true:=be (by omega)
 show (bif Nat.ble s.length 4000000000 && room h then _ else none)=_
 rw [be (by omega),hr,cV]; rfl)
omit hs in
theorem r17 (m:Nat):pQ (az EP KK (m + 2)):=λ s h k X hl hn e=>alh us (rc:=az EP KK (m + 1)) (r35 m) tn.u30 hl hn k X ((asm (m + 1) _ h k).symm.trans e)
theorem r18 (m:Nat):oM (az EP KK (m + 3)) (cD hS):=λ v l h k X o hsm hq hn e =>
 ak6 us (rc:=az EP KK (m + 2)) (λ h h' n q f=>q.trans f.from) (r37 hs m) tn.u24 tn.u30 o hsm hq hn k X ((asj (m + 2) _ h k).symm.trans e)
theorem r16 (m:Nat):wA (az EP KK (m + 1)) (cD hS):=λ s h hl hq hn k=>tc0 asr m _ h k (by
 have hr:room h=true:=be (by omega)
 obtain ⟨mm,hm⟩:=hs.m
 have hc:cell0 h 0=some (.int .i64 mm):=(mL hq (by have:=hs.n; omega)).trans hm
 show (match cell0 h 0 with
  | some (.int .i64 m)=>bif Nat.ble s.length 4000000000 && room h then some (Value.slice (some ⟨h.next,0,none⟩) (aR s).length (2 * (aR s).length),h.push (.row 9 (aR s).length false false 0 (T.ofList unk ((aR s).map aF)))) else none
  | _=>none)=_
 rw [hc,be (by omega),hr,cV]; rfl)
theorem oA (m:Nat) {s:Bs} (hl:s.length≤70000) (hls:j6 (aR s)) {h:H} (hq:cD hS h) (hn:h.next≤600000000) (k:Value→H→R) (X:R) (e:az EP KK (m + 5) 7 [aF s] h k=X) :
  rz 32 h.next h (80 * (s.length + 2)) k X (eB s) :=
 asb tn (rc:=az EP KK (m + 4)) t23 (by kernel_rfl) (r16 hs (m + 3)) (r17 (m + 2)) (r18 hs (m + 1)) (r19 hs m) hl hls hq hn k X ((tc7 (m + 4) _ h k).symm.trans e)
end Go.Ev
namespace Go.Ev
open Go F Go.Proofs
set_option maxRecDepth 100000
set_option exponentiation.threshold 3000
set_option linter.unusedVariables false
set_option linter.unusedSimpArgs false
theorem u4:EP.und 4=some .bool:=by kernel_rfl
variable {hS : H} (hs : HS hS)
include hs
theorem r6 (m:Nat) {h:H} (hq:cD hS h) (k:Value→H→R):az EP KK (m + 1) 6 [] h k=k (.bool true) h:=tc0 fc6 m _ h k (by
 unfold aV
 rw [mj hq glob 0 (by have:=hs.n; show 0 + 8≤_; omega) hs.g]; rfl)
end Go.Ev
namespace Go.Ev
open Go F Go.Proofs
set_option maxRecDepth 100000
set_option exponentiation.threshold 3000
set_option linter.unusedVariables false
set_option linter.unusedSimpArgs false
theorem LR.len {h:H} {L:List Value} {l:List iq} (r:LR h L l):L.length=l.length * 9:=by
 induction r with
 | nil=>rfl
 | snoc r s1 s2 ih=>rw [List.length_append,List.length_append,ih,show (dJ _ _ _).length=9 from rfl]; simp; omega
theorem LR.at {h:H} {L:List Value} {l:List iq} (r:LR h L l):∀ (i:Nat) (hi:i < l.length),∃ on tx,(∀ j,j < 9→L.getD (i * 9 + j) unk=(dJ l[i] on tx).getD j unk)∧SO h on (l[i]).on∧SO h tx (l[i]).texts:=by
 induction r with
 | nil=>intro i hi; exact absurd hi (Nat.not_lt_zero _)
 | snoc r s1 s2 ih =>
  rename_i L l c on tx
  intro i hi
  have hl:=r.len
  rw [List.length_append,List.length_singleton] at hi
  by_cases q:i < l.length
  ·obtain ⟨on',tx',h1,h2,h3⟩:=ih i q
   refine ⟨on',tx',λ j hj=>?_,?_,?_⟩
   ·rw [List.getElem_append_left q,← h1 j hj,List.getD_eq_getElem?_getD,List.getD_eq_getElem?_getD,List.getElem?_append_left (by omega)]
   ·rw [List.getElem_append_left q]; exact h2
   ·rw [List.getElem_append_left q]; exact h3
  ·obtain rfl:i=l.length:=by omega
   refine ⟨on,tx,λ j hj=>?_,?_,?_⟩
   ·rw [List.getElem_append_right (Nat.le_refl _),List.getD_eq_getElem?_getD,List.getElem?_append_right (by omega),show l.length * 9 + j - L.length=j by omega,← List.getD_eq_getElem?_getD]
    simp
   ·rw [List.getElem_append_right (Nat.le_refl _)]; simpa using s1
   ·rw [List.getElem_append_right (Nat.le_refl _)]; simpa using s2
theorem CL.at {ty:TypeId} {h:H} {v:Value} {l:List iq} (c:CL ty h v l) {i:Nat} (hi:i < l.length):∃ b cp cells op on tx,v=.slice (some ⟨b,0,none⟩) l.length cp∧b < h.next∧hget h b=.row ty (l.length * 9) op false 0 cells∧ac cells 9 (i * 9)=dJ l[i] on tx∧SO h on (l[i]).on∧SO h tx (l[i]).texts:=by
 obtain ⟨L,o,r⟩:=c
 obtain ⟨on,tx,h1,h2,h3⟩:=r.at i hi
 have hL:=r.len
 generalize hn:l.length=n at o
 cases o with
 | nil=>rw [hn] at hi; exact absurd hi (Nat.not_lt_zero _)
 | row hb hq hLn hc hp =>
  rename_i b fz op cells
  refine ⟨b,_,cells,op,on,tx,rfl,hb,hq,?_,h2,h3⟩
  rw [dS,show (9:Nat)=(dJ l[i] on tx).length from rfl]
  refine fN _ _ _ λ j hj=>?_
  have hj:j < 9:=hj
  rw [show i * (dJ l[i] on tx).length=i * 9 from rfl,← cL,hc _ (by rw [hL]; omega)]
  exact h1 j hj
theorem are {h:H} {x:iq} {on tx:Value} (s1:SO h on x.on) (s2:SO h tx x.texts):aj (.agg ⟨dJ x on tx⟩) (.agg ⟨dJ x on tx⟩)=true:=by
 have h1:fV on on=true:=by
  rcases s1.form with ⟨rfl,_⟩ | ⟨b,c,cells,op,rfl,_⟩
  ·rfl
  ·simp [fV]
 have h2:fV tx tx=true:=by
  rcases s2.form with ⟨rfl,_⟩ | ⟨b,c,cells,op,rfl,_⟩
  ·rfl
  ·simp [fV]
 have h3:∀ l:Bs,fV (aF l) (aF l)=true:=λ l=>by show g9 l l=true; rw [dy]; simp
 have h4:∀ (k:IntKind) (n:Int),fV (.int k n) (.int k n)=true:=λ k n=>by simp [fV]
 show mN (dJ x on tx) (dJ x on tx)=true
 unfold dJ
 simp only [mN,h1,h2,h3,h4,Bool.and_self]
theorem arn (a:Addr) (n c:Nat):aj (.slice (some a) n c) (.slice (some a) n c)=true:=by simp [aj,iC,fV]
variable {hS : H} (hs : HS hS)
omit hs in
theorem r24 (m:Nat):Alike (az EP KK (m + 1)):=λ h v v' l k o o' hn hl=>(atF m v v' h k).trans (asd us tn.u30 o o' hn hl k)
omit hs in
theorem r9 (m:Nat) {h:H} (hn:h.next≤800000000) {x:iq} {on tx on' tx':Value} (s1:SO h on x.on) (s2:SO h tx x.texts) (s1':SO h on' x.on) (s2':SO h tx' x.texts) (ho:ae4 x) (k:Value→H→R) :
  ∃ h',Fr h h' 2∧az EP KK (m + 2) 9 [.agg ⟨dJ x on tx⟩,.agg ⟨dJ x on' tx'⟩] h k=k (.bool true) h':=by
 obtain ⟨h',f,e⟩:=ata us (rc:=az EP KK (m + 1)) (r24 m) hn s1.wl s2.wl s1'.wl s2'.wl s1.cell1 s2.cell1 s1'.cell1 s2'.cell1 (by have:=ho.1; omega) (by have:=ho.2; omega) k
 exact ⟨h',f,(tc9 (m + 1) _ _ h k).trans e⟩
omit hs in
theorem r10 (m:Nat) {h:H} (hn:h.next≤800000000) {x:iq} {on tx:Value} (s1:SO h on x.on) (s2:SO h tx x.texts) (k:Value→H→R):∃ h',Fr h h' 2∧az EP KK (m + 1) 10 [.agg ⟨dJ x on tx⟩] h k=k (.agg ⟨dJ x on tx⟩) h':=by
 obtain ⟨h',f,e⟩:=ar9 (rc:=az EP KK m) hn s1.wl s2.wl k
 exact ⟨h',f,(asZ m _ h k).trans e⟩
theorem SO.fr {h h':H} {n:Nat} {v:Value} {l:List Bs} (o:SO h v l) (f:Fr h h' n):SO h' v l:=o.keep f.le λ b _ hl=>f.old b hl
theorem aso (m:Nat) {l:List iq} (hl:l.length≤1000) (hok:∀ c ∈ l,ae4 c) {v w:Value} (k:Value→H→R) (b:aa [2]→H→R) (X:R):∀ (d i N:Nat) (x:Value) (h:H),i + d=l.length→d < N→CL 32 h v l→CL 32 h w l→h.next + 6 * d≤700000000 →
  loopF (ks:=[2,66]) (ard EP (.int .i64 (.ofNat l.length)) v w (az EP KK (m + 2)) k b) N (x,(.int .i64 (.ofNat i),())) h=X→∃ h',X=b (x,()) h':=by
 have u3:=us.u3
 intro d
 induction d with
 | zero =>
  intro i N x h hi hN c1 c2 hn e
  obtain ⟨N,rfl⟩:∃ M,N=M + 1:=⟨N - 1,by omega⟩
  rw [ce] at e
  unfold ard at e
  dsimp only at e
  rw [iu u3 (show l.length≤i by omega),ai] at e
  exact ⟨h,e.symm⟩
 | succ d ih =>
  intro i N x h hi hN c1 c2 hn e
  obtain ⟨N,rfl⟩:∃ M,N=M + 1:=⟨N - 1,by omega⟩
  have hlt:i < l.length:=by omega
  rw [ce] at e
  generalize hL:loopF (ks:=[2,66]) (ard EP (.int .i64 (.ofNat l.length)) v w (az EP KK (m + 2)) k b) N=L at e
  obtain ⟨b1,cp1,na,op1,on1,tx1,rfl,hb1,hq1,hc1,s1,s2⟩:=c1.at hlt
  obtain ⟨b2,cp2,cells2,op2,on2,tx2,rfl,hb2,hq2,hc2,s1',s2'⟩:=c2.at hlt
  have hcok:=hok _ (List.getElem_mem hlt)
  generalize l[i]'hlt=c at hc1 hc2 s1 s2 s1' s2' hcok
  have hi9:0 + i.mul 9 + 9≤l.length * 9:=by show 0 + i * 9 + 9≤_; omega
  have hz:0 + i.mul 9=i * 9:=Nat.zero_add _
  have hqr1:∀ KK,onRow (hget h b1) KK=KK 32 (l.length * 9) op1 false 0 na:=λ KK=>by rw [hq1]; rfl
  have hqr2:∀ KK,onRow (hget h b2) KK=KK 32 (l.length * 9) op2 false 0 cells2:=λ KK=>by rw [hq2]; rfl
  unfold ard at e
  dsimp only at e
  rw [km u3 hlt,ai,aK] at e
  dsimp only at e
  rw [ai,au (show h.1≤1000000000 by show h.next≤_; omega),aJ,hmk,cn,bZ,au (show i + 1≤l.length by omega),co,aG] at e
  dsimp only at e
  rw [hqr1,au hi9,cn,bZ,au (show i + 1≤l.length by omega),co,aG] at e
  dsimp only at e
  rw [hqr2,au hi9,hz,hc1,hc2] at e
  obtain ⟨h1,f1,e1⟩:=r10 (m + 1) (h:=h) (by omega) s1 s2 _
  rw [e1] at e
  have hub1:=f1.ub
  have hqr2':∀ KK,onRow (hget h1 b2) KK=KK 32 (l.length * 9) op2 false 0 cells2:=λ KK=>by rw [f1.old _ hb2,hq2]; rfl
  rw [arn,eP,zD,eP,cn,bZ,au (show i + 1≤l.length by omega),co,hz,A7,eP,aG] at e
  dsimp only at e
  rw [hqr2',au (show i * 9 + 9≤l.length * 9 by omega),hc2,are s1' s2',eP] at e
  obtain ⟨h2,f2,e2⟩:=r10 (m + 1) (h:=h1) (by omega) (s1'.fr f1) (s2'.fr f1) _
  rw [e2] at e
  have hub2:=f2.ub
  have f12:=f1.trans f2 (Nat.le_refl _)
  obtain ⟨h3,f3,e3⟩:=r9 m (h:=h2) (by omega) (s1.fr f12) (s2.fr f12) (s1'.fr f12) (s2'.fr f12) hcok _
  rw [e3] at e
  have hub3:=f3.ub
  have f13:=f12.trans f3 (Nat.le_refl _)
  rw [aK,ai] at e
  dsimp only at e
  rw [dl u3 (by omega),← hL] at e
  exact ih (i + 1) N x h3 (by omega) (by omega) (c1.fr f13) (c2.fr f13) (by omega) e
end Go.Ev
namespace Go.Ev
open Go F Go.Proofs
set_option maxRecDepth 100000
set_option exponentiation.threshold 3000
set_option linter.unusedVariables false
set_option linter.unusedSimpArgs false
theorem akq {E:Env} {ty:TypeId} (hE:E.und ty=some (.int .i64)) {cx cy:Bool} {n:Nat} {k:Value→R}:binR (binC E .neq ty cx cy) (.int .i64 (.ofNat n)) (.int .i64 (.ofNat n)) k=k (.bool false):=(vj hE).trans (by rw [Nat.beq_refl]; rfl)
variable {hS : H} (hs : HS hS)
include hs
theorem r12 (m:Nat) {s a b:Bs} (hl:s.length≤1000000) (ha:1≤a.length) (hb:b.length≤1000000) {h:H} (hq:cD hS h) (k:Value→H→R):az EP KK (m + 1) 12 [aF s,.string ⟨⟨a⟩⟩,.string ⟨⟨b⟩⟩] h k=k (aF (Lib.replaceAll s a b)) h:=tc0 atp m _ h k (by
 obtain ⟨mm,hm⟩:=hs.m
 have hc:cell0 h 0=some (.int .i64 mm):=(mL hq (by have:=hs.n; omega)).trans hm
 show (match cell0 h 0 with
  | some (.int .i64 m)=>bif Nat.ble s.length 1000000 && Nat.ble 1 a.length && Nat.ble b.length 1000000 then some (Value.string ⟨⟨Lib.replaceAll s a b⟩⟩,h) else none
  | _=>none)=_
 rw [hc,be hl,be ha,be hb]; rfl)
theorem atD (m:Nat) {s:Bs} {h:H} (hq:cD hS h) (hn:h.next≤100000000) (k:Value→H→R):∃ h',az EP KK (m + 6) 5 [aF s] h k=k (.bool true) h':=by
 have u3:=us.u3
 have u24:=tn.u24
 have u23:EP.und 23=some (.slice 32):=by kernel_rfl
 rw [tc5]
 generalize hX:pl5 EP (az EP KK (m + 5)) (aF s) h k=X
 unfold pl5 at hX
 rw [r6 hs (m + 4) hq,aK,ai] at hX
 unfold arq at hX
 dsimp only at hX
 have hlen:∀ KK',bindO (bv EP h 9 (aF s)) KK'=KK' (.int .i64 (.ofNat s.length)):=λ KK'=>by unfold aF; rw [nS us]; rfl
 rw [hlen] at hX
 by_cases q:8000 < s.length
 ·rw [mB u3 q,ai,aK] at hX
  exact ⟨h,hX.symm⟩
 rw [lG u3 (by omega),ai,aM] at hX
 dsimp only at hX
 have hw1:∀ x ∈ aR s,(bd x).length≤8000:=λ x hx=>by
  have:=ara x
  have:=afI s x hx
  omega
 have hw2:∀ x ∈ aR (p8 s),(bd x).length≤8000:=ako (λ l=>l.length≤8000) ⟨by decide,by decide,by decide⟩ hw1
 have hwl:(p8 s).length≤33000:=by
  have:=BX s
  unfold p8 AS
  simp only [List.length_cons,List.length_append,List.length_nil]
  omega
 have ok1:j6 (aR s):=λ x hx=>⟨by have:=afI s x hx; omega,hw1 x hx⟩
 have ok2:j6 (aR (p8 s)):=λ x hx=>⟨by have:=afI (p8 s) x hx; omega,hw2 x hx⟩
 obtain ⟨h1,v1,f1,e1,c1,_⟩:=oA hs m (by omega) ok1 hq (by omega) _ _ hX
 replace e1:=e1.symm
 have hub1:=f1.ub
 have hq1:cD hS h1:=hq.trans f1.from
 have hl1:(Lib.replaceAll s [32] [32,32,32]).length≤1000000:=by
  rw [is (by decide)]
  have:=aaD 32 [32,32,32] s
  simp at this ⊢
  omega
 simp only [↓bJ,↓bK,↓ly,↓cd] at e1
 rw [r12 hs (m + 4) (by omega) (by decide) (by decide) hq1,r12 hs (m + 4) hl1 (by decide) (by decide) hq1,arl] at e1
 have hr:=BX s
 unfold aF at e1
 rw [am8 us (by simp; omega),am8 us (by simp; omega)] at e1
 rw [show ([32] ++ rep s ++ [10,32,32,35,32,120,10,32,32,32]:Bs)=p8 s by unfold p8 AS; simp] at e1
 obtain ⟨h2,v2,f2,e2,c2,_⟩:=oA hs m (by omega) ok2 hq1 (by omega) _ _ e1
 have hub2:=f2.ub
 rw [akr (by omega)] at e2 c2
 obtain ⟨hk1,hk2⟩:=ari hw1
 generalize eB s=r at e1 e2 c1 c2 hk1 hk2
 clear e1 hX
 replace e2:=e2.symm
 have c1':CL 32 h2 v1 r.2.2.1:=c1.fr f2.fr
 have hlen1:∀ (K:Value→R) (hx:H),onSl v1 (bindO (bv EP hx 23 v1) K) (λ _ n _=>K (.int .i64 (.ofNat n)))=K (.int .i64 (.ofNat r.2.2.1.length)):=λ K hx=>tJ u23 (h':=hx) c1' K
 have hlen2:∀ (K:Value→R) (hx:H),onSl v2 (bindO (bv EP hx 23 v2) K) (λ _ n _=>K (.int .i64 (.ofNat n)))=K (.int .i64 (.ofNat r.2.2.1.length)):=λ K hx=>tJ u23 (h':=hx) c2 K
 simp only [↓bJ,↓bK,↓ly,↓cd,↓akq u3,↓akq u24,↓bz,↓ai,↓cJ,↓dO,↓aM,arp,arH,↓hlen1,↓hlen2,arJ] at e2
 exact (aso (m + 3) hk1 hk2 k _ X r.2.2.1.length 0 ft _ h2 (Nat.zero_add _) (by unfold ft; omega) c1' c2 (by omega) e2).imp λ h' e=>e
end Go.Ev
