/-
  WHICH COMMAND A WORD NAMES; does it take so many words: the script's functions in abstract memory.
-/
import Derived.Test.YtlahhbdihpbbgaaGreatDoorLb
import Derived.Test.YtlahhbdihpbbgaaGreatDoorSa
import Derived.RowKit3
import Derived.Below
noncomputable section
set_option linter.unusedVariables false
set_option linter.unusedSimpArgs false
set_option maxRecDepth 100000
open Nat (ble beq)
namespace Go.Ev
open Go F
structure Ad (E:Env) (t e s:Nat) (i:TypeInfo) (z:List Value):Prop where
 u:E.und t=some (.slice e)
 inf:E.info e=some i
 sz:i.size=s
 bt:i.bytes<=1000
 zc:bM E e=some z
 zl:z.length=s
 s0:1<=s
 s1:s<=100
inductive OL (e s:Nat) (h:H):Value->Nat->List Value->Prop
 | nil:OL e s h (.slice none 0 0) 0 []
 | row {b n fz:Nat} {op:Bool} {cells:T Value} {L:List Value} (hb:b<h.next) (hq:hget h b=.row e (n*s) op false 0 cells) (hL:L.length=n*s)
   (hc:∀i,i<L.length->getF cells i=L.getD i unk) (hn:0<n):OL e s h (.slice (some ⟨b,0,none⟩) n (2*n+op.toNat)) n L
def dn:Value->Option Nat
 |.slice (some a) _ _=>some a.block
 | _=>none
theorem OL.keep {e s n:Nat} {h h':H} {v:Value} {L:List Value} (o:OL e s h v n L) (hn:h.next<=h'.next) (hk:∀b,dn v=some b->b<h.next->hget h' b=hget h b):OL e s h' v n L:=by
 cases o with
 | nil=>exact .nil
 | row hb hq hL hc hp=>exact .row (fz:=0) (Nat.lt_of_lt_of_le hb hn) ((hk _ rfl hb).trans hq) hL hc hp
theorem OL.blk {e s n:Nat} {h:H} {v:Value} {L:List Value} (o:OL e s h v n L) (b:Nat) (hb:dn v=some b):b<h.next:=by
 cases o with
 | nil=>exact nomatch hb
 | row h1=>cases hb;exact h1
theorem wH {E:Env} {t e s n:Nat} {i:TypeInfo} {z xs:List Value} (T1:Ad E t e s i z) {h:H} {v:Value} {L:List Value} (o:OL e s h v n L) (hx:xs.length=s) (hc1:xs.all cell1=true)
  (hn:h.next+2<=1000000000) (hn2:n<=9000):
  ∃v' h',bu E (ag h (.row e s false false 0 (T.ofList unk xs))) .append [v,.slice (some ⟨h.next,0,none⟩) 1 2] [t,t]=some (v',h')/\OL e s h' v' (n+1) (L++xs)/\h'.next=h.next+2 /\
   dn v'=some (h.next+1)/\∀id,id<h.next->dn v≠some id->hget h' id=hget h id:=by
 obtain⟨s0,s1⟩:=And.intro T1.s0 T1.s1;have hg1:(ag h (.row e s false false 0 (T.ofList unk xs))).objs.get h.next=.row e s false false 0 (T.ofList unk xs):=by rw[<-bI];exact aD _ _ (by omega)
 have hnx:(ag h (.row e s false false 0 (T.ofList unk xs))).next=h.next+1:=rfl;have hroom:room (ag h (.row e s false false 0 (T.ofList unk xs)))=true:=be (by rw[hnx];omega);have hsrc:lV (ag h (.row e s false false 0 (T.ofList unk xs))) s 1 (.slice (some ⟨h.next,0,none⟩) 1 2)=some xs:=by have:ble (0+1*s) s=true:=be (by omega);simp only[lV,hg1,this,cond_true];rw[Nat.one_mul,<-hx,show (0:Nat)=0 from rfl];exact congrArg some (mP xs xs.length rfl)
 have hnews:kI (ag h (.row e s false false 0 (T.ofList unk xs))) s z false (.slice (some ⟨h.next,0,none⟩) 1 2)=some (1,xs):=by simp only[kI,cond_false,gZ,hsrc]
 obtain⟨s',hs'⟩:∃s',i.size=s'+1:=⟨s-1,by rw[T1.sz];omega⟩;have hnum:ip E [t]=some false:=by simp only[ip,T1.u]
 have hss:s'+1=s:=by rw[<-hs',T1.sz]
 have hzb:beq z.length (s'+1)=true:=lI (by rw[T1.zl,hss]);have hbt:=T1.bt;have b1:ble ((n+1)*(i.bytes+1)) 1000000000=true:=be (Nat.le_trans (Nat.mul_le_mul (show n+1<=9001 by omega) (show i.bytes+1<=1001 by omega)) (by decide));have b2:ble ((n+1)*(s'+1)) 1000000000=true:=be (Nat.le_trans (Nat.mul_le_mul (show n+1<=9001 by omega) (show s'+1<=100 by omega)) (by decide));have hnews':kI (ag h (.row e s false false 0 (T.ofList unk xs))) (s'+1) z false (.slice (some ⟨h.next,0,none⟩) 1 2)=some (1,xs):=by rw[hss];exact hnews
 have hnx':=hnx;rw[cV] at hnews' hroom hnx';cases o with
 | nil=>
  have b1':ble ((0+1)*(i.bytes+1)) 1000000000=true:=b1;have b2':ble ((0+1)*(s'+1)) 1000000000=true:=b2;have e0:bu E (ag h (.row e s false false 0 (T.ofList unk xs))) .append [.slice none 0 0,.slice (some ⟨h.next,0,none⟩) 1 2] [t,t]=some (.slice (some ⟨h.next+1,0,none⟩) 1 3,ag (ag h (.row e s false false 0 (T.ofList unk xs))) (.row e s true false 0 (T.ofList unk xs))):=by rw[cV];simp only[bu,hnum,gn,T1.u,T1.inf,T1.zc,hs',hnews',b1',b2',hzb,Bool.and_self,cond_true,Nat.zero_div,show ble (0+1) 0=false from rfl,cond_false,hroom,Nat.beq_refl,hnx',cV];simp only[Nat.zero_add,Nat.one_mul,hss,Nat.mul_one]
  refine⟨_,_,e0,?_,rfl,rfl,λid hid _=>?_⟩
  ·have hq:hget (ag (ag h (.row e s false false 0 (T.ofList unk xs))) (.row e s true false 0 (T.ofList unk xs))) (h.next+1)=.row e ((0+1)*s) true false 0 (T.ofList unk xs):=by rw[show h.next+1=(ag h (.row e s false false 0 (T.ofList unk xs))).next from rfl,aD _ _ (by rw[hnx];omega),Nat.zero_add,Nat.one_mul]
   exact .row (n:=1) (op:=true) (fz:=0) (show h.next+1<h.next+2 by omega) hq (by simp[hx]) (λj hj=>by rw[aL,List.nil_append]) (by omega)
  ·rw[bp _ _ (by rw[hnx];omega) (by rw[hnx];omega),bp _ _ (by omega) hid]
 | row hb hq hL hc hp=>
  rename_i b fz op cells;have hqp:(ag h (.row e s false false 0 (T.ofList unk xs))).objs.get b=.row e (n*s) op false 0 cells:=by rw[<-bI,bp _ _ (by omega) hb,hq]
  rw[cV] at hqp;have g1:ble (n+1) n=false:=gG (by omega);have hl1:∀op:Bool,(2*n+op.toNat) / 2=n:=λop=>by cases op <;> simp[Bool.toNat] <;> omega
  cases op with
  | false=>
   have h2:beq ((2*n+Bool.toNat false)%2) 0=true:=lI (by simp[Bool.toNat]);have h3:ble (0+n*(s'+1)) (n*s)=true:=be (by rw[hss];omega);have e0:bu E (ag h (.row e s false false 0 (T.ofList unk xs))) .append [.slice (some ⟨b,0,none⟩) n (2*n+Bool.toNat false),.slice (some ⟨h.next,0,none⟩) 1 2] [t,t] =
     some (.slice (some ⟨h.next+1,0,none⟩) (n+1) (2*(n+1)+1),ag (ag h (.row e s false false 0 (T.ofList unk xs))) (.row e ((n+1)*s) true false 0 (T.ofList unk (ac cells (n*s) 0++xs)))):=by
    rw[cV];simp only[bu,hnum,gn,T1.u,T1.inf,T1.zc,hs',hnews',b1,b2,hzb,Bool.and_self,cond_true,cond_false,hl1,g1,hroom,hqp,h2,h3,hnx',cV,dS];simp only[hss]
   refine⟨_,_,e0,?_,rfl,rfl,λid hid _=>?_⟩
   ·have hq2:hget (ag (ag h (.row e s false false 0 (T.ofList unk xs))) (.row e ((n+1)*s) true false 0 (T.ofList unk (ac cells (n*s) 0++xs)))) (h.next+1)=.row e ((n+1)*s) true false 0 (T.ofList unk (ac cells (n*s) 0++xs)):=by rw[show h.next+1=(ag h (.row e s false false 0 (T.ofList unk xs))).next from rfl,aD _ _ (by rw[hnx];omega)]
    refine .row (n:=n+1) (op:=true) (fz:=0) (show h.next+1<h.next+2 by omega) hq2 (by rw[List.length_append,hL,hx,Nat.succ_mul]) (λj hj=>?_) (by omega);have hcl:ac cells (n*s) 0=L:=by rw[dS,<-hL];exact fN L cells 0 λk hk=>by rw[Nat.zero_add,<-cL,hc k hk]
    rw[aL,hcl]
   ·rw[bp _ _ (by rw[hnx];omega) (by rw[hnx];omega),bp _ _ (by omega) hid]
  | true=>
   have h2:beq ((2*n+Bool.toNat true)%2) 0=false:=fT (by simp[Bool.toNat]);have h4:beq n n=true:=Nat.beq_refl n;have h5:beq (n*(s'+1)) (n*s)=true:=lI (by rw[hss]);have h6:ble 0 (n*s)=true:=be (Nat.zero_le _);have h7:beq e e=true:=Nat.beq_refl e;have e0:bu E (ag h (.row e s false false 0 (T.ofList unk xs))) .append [.slice (some ⟨b,0,none⟩) n (2*n+Bool.toNat true),.slice (some ⟨h.next,0,none⟩) 1 2] [t,t] =
     some (.slice (some ⟨h.next+1,0,none⟩) (n+1) (2*(n+1)+1),ag (hset (ag h (.row e s false false 0 (T.ofList unk xs))) b .dead) (.row e ((n+1)*s) true false 0 (putCells cells (n*s) xs))):=by
    rw[cV];simp only[bu,hnum,gn,T1.u,T1.inf,T1.zc,hs',hnews',b1,b2,hzb,Bool.and_self,cond_true,cond_false,hl1,g1,hroom,hqp,h2,h4,h5,h6,h7,Nat.beq_refl,hc1,Bool.not_false,hnx',cV,gR];simp only[hss]
   have hnx2:(hset (ag h (.row e s false false 0 (T.ofList unk xs))) b .dead).next=h.next+1:=rfl;refine⟨_,_,e0,?_,rfl,rfl,λid hid hne=>?_⟩
   ·have hq2:hget (ag (hset (ag h (.row e s false false 0 (T.ofList unk xs))) b .dead) (.row e ((n+1)*s) true false 0 (putCells cells (n*s) xs))) (h.next+1)=.row e ((n+1)*s) true false 0 (putCells cells (n*s) xs):=by rw[<-hnx2,aD _ _ (by rw[hnx2];omega)]
    refine .row (n:=n+1) (op:=true) (fz:=0) (show h.next+1<h.next+2 by omega) hq2 (by rw[List.length_append,hL,hx,Nat.succ_mul]) (λj hj=>?_) (by omega);have hns:n*s+xs.length<=1000000000:=Nat.le_trans (Nat.add_le_add (Nat.mul_le_mul hn2 s1) (show xs.length<=100 by omega)) (by decide);rw[cL,cO _ _ _ hns];rw[List.length_append] at hj;by_cases q:j<L.length
    ·rw[if_neg (by omega),<-cL,hc j q,List.getD_eq_getElem?_getD,List.getD_eq_getElem?_getD,List.getElem?_append_left q]
    ·rw[if_pos (by omega),List.getD_eq_getElem?_getD,List.getD_eq_getElem?_getD,List.getElem?_append_right (by omega),hL]
   ·rw[bp _ _ (by rw[hnx2];omega) (by rw[hnx2];omega),cu _ _ _ _ (by omega),if_neg (λe=>hne (by rw[e];rfl)),bp _ _ (by omega) hid]
end Go.Ev
namespace Go.Ev
open Go F Go.Proofs
section
structure US (E:Env):Prop where
 u3:E.und 3=some (.int .i64)
 u5:E.und 5=some (.int .u8)
 u9:E.und 9=some .string
section u8
variable {E : Env} {m n : Nat} {cx cy : Bool} {k : Value -> R} {ty : TypeId} (hE : E.und ty = some (.int .u8))
include hE
theorem uk:binR (binC E .gtr ty cx cy) (.int .u8 (.ofNat m)) (.int .u8 (.ofNat n)) k=k (.bool (ble (n+1) m)):=by unfold binR binC;rw[hE];rfl
theorem Qn:binR (binC E .lss ty cx cy) (.int .u8 (.ofNat m)) (.int .u8 (.ofNat n)) k=k (.bool (ble (m+1) n)):=by unfold binR binC;rw[hE];rfl
theorem gv:binR (binC E .eql ty cx cy) (.int .u8 (.ofNat m)) (.int .u8 (.ofNat n)) k=k (.bool (beq m n)):=by unfold binR binC;rw[hE];rfl
theorem atr:binR (binC E .neq ty cx cy) (.int .u8 (.ofNat m)) (.int .u8 (.ofNat n)) k=k (.bool (!beq m n)):=by unfold binR binC;rw[hE,<-oX];rfl
end u8
def gd (b:UInt8):Value:=.int .u8 (.ofNat b.toNat)
variable {E : Env} (u : US E) {rc : RC}
include u
theorem we {s:List UInt8} {j:Nat} {b:UInt8} {kd:IntKind} (h:s[j]?=some b):dD E 9 (.string ⟨⟨s⟩⟩) (.int kd (.ofNat j))=some (gd b):=by unfold dD;rw[u.u9];simp only[h];rfl
theorem nS {h:H} {s:List UInt8}:bv E h 9 (.string ⟨⟨s⟩⟩)=some (.int .i64 (.ofNat s.length)):=by unfold bv;rw[u.u9];rfl
theorem auu {s:List UInt8} {j:Nat} {b:UInt8} {kd kd':IntKind} (h:s[j]?=some b):dd E 9 (.string ⟨⟨s⟩⟩) (some (.int kd (.ofNat j))) (some (.int kd' (.ofNat (j+1)))) none=some (.string ⟨⟨[b]⟩⟩):=by
 have hlt:=(List.getElem?_eq_some_iff.1 h).1;have g1:ble (j+1) s.length=true:=be hlt;have g2:ble j (j+1)=true:=be (Nat.le_succ _);unfold dd;rw[u.u9];simp only[bound,g1,cond_true,g2]
 congr 3
 rw[show j+1-j=1 by omega,List.drop_eq_getElem_cons hlt];have:=(List.getElem?_eq_some_iff.1 h).2;rw[this];rfl
theorem am8 {cx cy:Bool} {a b:List UInt8} {k:Value->R} (h:a.length+b.length<=1000000000):binR (binC E .add 9 cx cy) (.string ⟨⟨a⟩⟩) (.string ⟨⟨b⟩⟩) k=k (.string ⟨⟨a++b⟩⟩):=by
 have hb:iz E .add 9 cx cy (.string ⟨⟨a⟩⟩) (.string ⟨⟨b⟩⟩)=some (.string ⟨⟨a++b⟩⟩):=by simp only[iz,be h,cond_true]
 unfold binR binC;rw[u.u9];show bindO (iz E .add 9 cx cy (.string ⟨⟨a⟩⟩) (.string ⟨⟨b⟩⟩)) k=_;rw[hb];rfl
theorem Aj {cx cy:Bool} {a b:List UInt8} {k:Value->R}:binR (binC E .eql 9 cx cy) (.string ⟨⟨a⟩⟩) (.string ⟨⟨b⟩⟩) k=k (.bool (a==b)):=by
 have hb:iz E .eql 9 cx cy (.string ⟨⟨a⟩⟩) (.string ⟨⟨b⟩⟩)=some (.bool (a==b)):=by simp only[iz,dy]
 unfold binR binC;rw[u.u9];show bindO (iz E .eql 9 cx cy (.string ⟨⟨a⟩⟩) (.string ⟨⟨b⟩⟩)) k=_;rw[hb];rfl
theorem ar0 {cx cy:Bool} {a b:List UInt8} {k:Value->R}:binR (binC E .neq 9 cx cy) (.string ⟨⟨a⟩⟩) (.string ⟨⟨b⟩⟩) k=k (.bool (!(a==b))):=by
 have hb:iz E .neq 9 cx cy (.string ⟨⟨a⟩⟩) (.string ⟨⟨b⟩⟩)=some (.bool (!(a==b))):=by simp only[iz,dy]
 unfold binR binC;rw[u.u9];show bindO (iz E .neq 9 cx cy (.string ⟨⟨a⟩⟩) (.string ⟨⟨b⟩⟩)) k=_;rw[hb];rfl
omit u in
theorem asn:(ByteArray.mk #[])=(⟨⟨[]⟩⟩:ByteArray):=rfl
end
def rU (E:Env)(a a0 a1:Value)(rc:RC)(k:Value->H->R)(b:aa [4]->H->R):(aa [4,8]->H->R)->aa [4,8]->H->R:=λc d e=>binR (binC E .lss 3 false false) d.2.1 a λf=>@joinR [] (λ_ g=>@joinR [4] (λh i=>binR (binC E .add 3 false true) d.2.1 (.int .i64 (.ofNat 1)) λj=>c (h.1,(j,())) i) λh=>onNat d.2.1 none λi=>onSl a0 none λj l _=>ifB (ble (Nat.succ i) l) (addOffF j (Nat.mul i 2) λm=>onPtr m λn=>onRow (hget g n.1) λ_ o _ _ _ p=>ifB (ble (Nat.add n.2 2) o) (yu a1 λq r s=>rc q (ny r s [.agg ⟨ac p 2 n.2⟩]) g λt u=>@joinR [4] (λv w=>h (v.1,()) w) λv=>onB t (v (d.1,()) u) (k d.2.1 u)))) λg=>onB f (b (d.1,()) e) (g () e)
def p38 (E:Env)(rc:RC)(a0:Value)(a1:Value)(h:H)(k:Value->H->R):R:=joinL (λa=>@joinR [4] (λ_ b=>k (.int .i64 (.negSucc 0)) b) λb=>@loopF [4,8] (rU E a a0 a1 rc k b) ft (.int .i64 (.ofNat 0),(.int .i64 (.ofNat 0),())) h) λa=>onSl a0 (bindO (bv E h 75 a0) a) λ_ b _=>a (.int .i64 (.ofNat b))
theorem W3 (t:ak)(rc:RC)(a0:Value)(a1:Value)(h:H)(k:Value->H->R):(ax (EX t) KK 38).run rc [a0,a1] h k = p38 (EX t) rc a0 a1 h k:=by kernel_rfl
def p40 (E:Env)(rc:RC)(a0:Value)(a1:Value)(h:H)(k:Value->H->R):R:=onCells a0 λa=>ifB (allF (λb=>cell1F b) a) (ifB (ble h.1 1000000000) (letH (ag h (.row 77 (lenF a) false false 0 (T.ofList unk a))) λb=>ifB (ble b.1 1000000000) (letH (H.mk b.1 b.2) λc=>onRow (hget c h.1) λ_ d _ _ _ e=>ifB (ble 1 d) (onPtr a1 λf=>onRow (hget c f.1) λ_ g _ _ _ i=>ifB (ble (Nat.succ f.2) g) (onSl (getF i f.2) none λj l _=>ifB (ble 1 l) (onRow (hget c j.1) λ_ m _ _ _ n=>ifB (ble (Nat.succ j.2) m) (binR (binC E .eql 9 false false) (getF e 0) (getF n j.2) λo=>k o c)))))))
theorem agU (t:ak)(rc:RC)(a0:Value)(a1:Value)(h:H)(k:Value->H->R):(ax (EX t) KK 40).run rc [a0,a1] h k = p40 (EX t) rc a0 a1 h k:=by kernel_rfl
def p41 (E:Env)(rc:RC)(a0:Value)(a1:Value)(h:H)(k:Value->H->R):R:=onCells a0 λa=>ifB (allF (λb=>cell1F b) a) (ifB (ble h.1 1000000000) (letH (ag h (.row 77 (lenF a) false false 0 (T.ofList unk a))) λb=>@joinR [4] (λ_ c=>onRow (hget c h.1) λ_ d _ _ _ e=>ifB (ble 2 d) (bindO (bv E c 9 (getF e 1)) λf=>binR (binC E .eql 3 false false) a1 f λg=>k g c)) λc=>onRow (hget b h.1) λ_ d _ _ _ e=>ifB (ble 2 d) (rc 63 [getF e 1,.string ⟨⟨[43]⟩⟩] b λf g=>@joinR [4] (λi j=>c (i.1,()) j) λi=>onB f (onRow (hget g h.1) λ_ j _ _ _ l=>ifB (ble 2 j) (rc 63 [getF l 1,.string ⟨⟨[42]⟩⟩] g λm n=>@joinR [4] (λo p=>i (o.1,()) p) λo=>onB m (o (.bool false,()) n) (k (.bool true) n))) (onRow (hget g h.1) λ_ j _ _ _ l=>ifB (ble 2 j) (bindO (bv E g 9 (getF l 1)) λm=>binR (binC E .geq 3 false false) a1 m λn=>k n g)))))
theorem adk (t:ak)(rc:RC)(a0:Value)(a1:Value)(h:H)(k:Value->H->R):(ax (EX t) KK 41).run rc [a0,a1] h k = p41 (EX t) rc a0 a1 h k:=by kernel_rfl
def p42 (E:Env)(rc:RC)(a0:Value)(a1:Value)(a2:Value)(h:H)(k:Value->H->R):R:=@joinR [6,7] (λa b=>k a.2.1 b) λa=>binR (binC E .eql 5 false true) a1 (.int .u8 (.ofNat 76)) λb=>@joinR [6,7] (λc d=>a (c.1,(c.2.1,())) d) λc=>onB b (binR (binC E .eql 5 false true) a1 (.int .u8 (.ofNat 104)) λd=>@joinR [6,7] (λe f=>c (e.1,(e.2.1,())) f) λe=>onB d (binR (binC E .eql 5 false true) a1 (.int .u8 (.ofNat 111)) λf=>@joinR [6,7] (λg i=>e (g.1,(g.2.1,())) i) λg=>onB f (binR (binC E .eql 5 false true) a1 (.int .u8 (.ofNat 110)) λi=>@joinR [7,6] (λj l=>g (j.2.1,(j.1,())) l) λj=>onB i (binR (binC E .eql 5 false true) a1 (.int .u8 (.ofNat 109)) λl=>@joinR [7,6] (λm n=>j (m.1,(m.2.1,())) n) λm=>onB l (binR (binC E .eql 5 false true) a1 (.int .u8 (.ofNat 107)) λn=>@joinR [7,6] (λo p=>m (o.1,(o.2.1,())) p) λo=>onB n (binR (binC E .eql 5 false true) a1 (.int .u8 (.ofNat 99)) λp=>@joinR [6] (λq r=>o (.int .i64 (.ofNat 0),(q.1,())) r) λq=>onB p (ifB (ble h.1 1000000000) (letH (H.mk (Nat.add h.1 1) h.2) λr=>bindO (aT a0) λs=>onPtr s λt=>onRow (hget r t.1) λ_ u _ _ _ v=>ifB (ble (Nat.succ (Nat.add t.2 8)) u) (rc 66 [a2] r λw x=>ifB (aj a0 a0) (ifB (aj a0 a0) (bindO (aT a0) λy=>ifB (aj y s) (onPtr s λz=>ifB (aj (.pointer (some (Addr.mk z.1 (Nat.add z.2 8) none))) (.pointer (some (Addr.mk t.1 (Nat.add t.2 8) none)))) (onRow (hget x t.1) λ_ a3 _ _ _ a4=>ifB (ble (Nat.succ (Nat.add t.2 8)) a3) (ifB (aj (getF a4 (Nat.add t.2 8)) (getF v (Nat.add t.2 8))) (@Option.rec (List Value) (λ_=>R) none (λa5=>letH (hset x h.1 (.row 9 1 false false 0 (T.ofList unk a5))) λa6=>cT (bu E a6 Builtin.append [getF v (Nat.add t.2 8),.slice (some (Addr.mk h.1 0 none)) 1 2] [30,30]) λa7 a8=>ifB (aj a0 a0) (bindO (aT a0) λa9=>onPtr a9 λb0=>onCells a7 λb1=>onRow (hget a8 b0.1) λb2 b3 b4 b5 b6 b7=>ifB (notB b5) (ifB (beq (lenF b1) 1) (ifB (ble b6 (Nat.add b0.2 8)) (ifB (ble (Nat.add (Nat.add b0.2 8) 1) b3) (ifB (ble b3 1000000000) (ifB (allF (λb8=>cell1F b8) b1) (letH (hset a8 b0.1 (.row b2 b3 b4 false b6 (putF b7 (Nat.add b0.2 8) b1))) λb8=>q (.int .i64 (.ofNat 0),()) b8)))))))) (cG (λa5=>some (Nat.mul a5 1,1)) (List.flatten (List.replicate 1 (cellsOfV (.string (ByteArray.mk #[]))))) [(0,w)])))))))))) (rc 65 [] h λr s=>rc 64 [r,a2] s λt u=>binR (binC E .lss 3 false true) t (.int .i64 (.ofNat 0)) λv=>@joinR [6] (λw x=>joinL (λy=>bindO (aT a0) λz=>onPtr z λa3=>onCells y λa4=>onRow (hget x a3.1) λa5 a6 a7 a8 a9 b0=>ifB (notB a8) (ifB (beq (lenF a4) 1) (ifB (ble a9 (Nat.add a3.2 7)) (ifB (ble (Nat.add (Nat.add a3.2 7) 1) a6) (ifB (ble a6 1000000000) (ifB (allF (λb1=>cell1F b1) a4) (letH (hset x a3.1 (.row a5 a6 a7 false a9 (putF b0 (Nat.add a3.2 7) a4))) λb1=>q (w.1,()) b1))))))) λy=>onNat t (bindO (aQ E x 3 5 t) y) λz=>@Bool.rec (λ_=>R) (bindO (aQ E x 3 5 t) y) (y (.int .u8 (.ofNat z))) (ble z 255)) λw=>onB v (w (.int .i64 (.ofNat 0),()) u) (k (.int .i64 (.ofNat 14)) u))) (rc 37 [a2] h λp q=>onTup p λr=>nthF 0 r λs=>onTup p λt=>nthF 1 t λu=>bindO (aT a0) λv=>onPtr v λw=>onCells s λx=>onRow (hget q w.1) λy z a3 a4 a5 a6=>ifB (notB a4) (ifB (beq (lenF x) 1) (ifB (ble a5 (Nat.add w.2 6)) (ifB (ble (Nat.add (Nat.add w.2 6) 1) z) (ifB (ble z 1000000000) (ifB (allF (λa7=>cell1F a7) x) (letH (hset q w.1 (.row y z a3 false a5 (putF a6 (Nat.add w.2 6) x))) λa7=>o (u,(.int .i64 (.ofNat 0),())) a7)))))))) (rc 37 [a2] h λn o=>onTup n λp=>nthF 0 p λq=>onTup n λr=>nthF 1 r λs=>bindO (aT a0) λt=>onPtr t λu=>onCells q λv=>onRow (hget o u.1) λw x y z a3 a4=>ifB (notB z) (ifB (beq (lenF v) 1) (ifB (ble a3 (Nat.add u.2 5)) (ifB (ble (Nat.add (Nat.add u.2 5) 1) x) (ifB (ble x 1000000000) (ifB (allF (λa5=>cell1F a5) v) (letH (hset o u.1 (.row w x y false a3 (putF a4 (Nat.add u.2 5) v))) λa5=>m (s,(.int .i64 (.ofNat 0),())) a5)))))))) (rc 37 [a2] h λl m=>onTup l λn=>nthF 0 n λo=>onTup l λp=>nthF 1 p λq=>bindO (aT a0) λr=>onPtr r λs=>onCells o λt=>onRow (hget m s.1) λu v w x y z=>ifB (notB x) (ifB (beq (lenF t) 1) (ifB (ble y (Nat.add s.2 4)) (ifB (ble (Nat.add (Nat.add s.2 4) 1) v) (ifB (ble v 1000000000) (ifB (allF (λa3=>cell1F a3) t) (letH (hset m s.1 (.row u v w false y (putF z (Nat.add s.2 4) t))) λa3=>j (q,(.int .i64 (.ofNat 0),())) a3)))))))) (binR (binC E .eql 9 false true) a2 (.string ⟨⟨[110,111,110,101]⟩⟩) λi=>@joinR [6] (λj l=>rc 37 [a2] l λm n=>onTup m λo=>nthF 0 o λp=>onTup m λq=>nthF 1 q λr=>bindO (aT a0) λs=>onPtr s λt=>onCells p λu=>onRow (hget n t.1) λv w x y z a3=>ifB (notB y) (ifB (beq (lenF u) 1) (ifB (ble z (Nat.add t.2 4)) (ifB (ble (Nat.add (Nat.add t.2 4) 1) w) (ifB (ble w 1000000000) (ifB (allF (λa4=>cell1F a4) u) (letH (hset n t.1 (.row v w x false z (putF a3 (Nat.add t.2 4) u))) λa4=>g (j.1,(r,())) a4))))))) λj=>onB i (j (.int .i64 (.ofNat 0),()) h) (bindO (aT a0) λl=>onPtr l λm=>onRow (hget h m.1) λn o p q r s=>ifB (notB q) (ifB (beq (lenF [.int .i64 (.negSucc 0)]) 1) (ifB (ble r (Nat.add m.2 4)) (ifB (ble (Nat.add (Nat.add m.2 4) 1) o) (ifB (ble o 1000000000) (ifB (allF (λt=>cell1F t) [.int .i64 (.negSucc 0)]) (letH (hset h m.1 (.row n o p false r (putF s (Nat.add m.2 4) [.int .i64 (.negSucc 0)]))) λt=>k (.int .i64 (.ofNat 0)) t))))))))) (bindO (aT a0) λf=>onPtr f λg=>onRow (hget h g.1) λ_ i _ _ _ j=>ifB (ble (Nat.succ (Nat.add g.2 3)) i) (@Option.rec (List Value) (λ_=>R) none (λl=>ifB (ble h.1 1000000000) (letH (ag h (.row 9 1 false false 0 (T.ofList unk l))) λm=>cT (bu E m Builtin.append [getF j (Nat.add g.2 3),.slice (some (Addr.mk h.1 0 none)) 1 2] [30,30]) λn o=>bindO (aT a0) λp=>onPtr p λq=>onCells n λr=>onRow (hget o q.1) λs t u v w x=>ifB (notB v) (ifB (beq (lenF r) 1) (ifB (ble w (Nat.add q.2 3)) (ifB (ble (Nat.add (Nat.add q.2 3) 1) t) (ifB (ble t 1000000000) (ifB (allF (λy=>cell1F y) r) (letH (hset o q.1 (.row s t u false w (putF x (Nat.add q.2 3) r))) λy=>e (.int .i64 (.ofNat 0),(.int .i64 (.ofNat 0),())) y)))))))) (cG (λl=>some (Nat.mul l 1,1)) (List.flatten (List.replicate 1 (cellsOfV (.string (ByteArray.mk #[]))))) [(0,a2)])))) (bindO (bv E h 9 a2) λd=>binR (binC E .gtr 3 false true) d (.int .i64 (.ofNat 16)) λe=>@joinR [6] (λf g=>bindO (aT a0) λi=>onPtr i λj=>onCells a2 λl=>onRow (hget g j.1) λm n o p q r=>ifB (notB p) (ifB (beq (lenF l) 1) (ifB (ble q (Nat.add j.2 2)) (ifB (ble (Nat.add (Nat.add j.2 2) 1) n) (ifB (ble n 1000000000) (ifB (allF (λs=>cell1F s) l) (letH (hset g j.1 (.row m n o false q (putF r (Nat.add j.2 2) l))) λs=>c (f.1,(.int .i64 (.ofNat 0),())) s))))))) λf=>onB e (f (.int .i64 (.ofNat 0),()) h) (k (.int .i64 (.ofNat 16)) h))
theorem abE (t:ak)(rc:RC)(a0:Value)(a1:Value)(a2:Value)(h:H)(k:Value->H->R):(ax (EX t) KK 42).run rc [a0,a1,a2] h k = p42 (EX t) rc a0 a1 a2 h k:=by kernel_rfl
def rW (E:Env)(a a0 a1:Value)(k:Value->H->R)(b:aa [4]->H->R):(aa [4,8]->H->R)->aa [4,8]->H->R:=λc d e=>binR (binC E .lss 3 false false) d.2.1 a λf=>@joinR [] (λ_ g=>@joinR [4] (λh i=>binR (binC E .add 3 false true) d.2.1 (.int .i64 (.ofNat 1)) λj=>c (h.1,(j,())) i) λh=>onNat d.2.1 none λi=>onSl a0 none λj l _=>ifB (ble (Nat.succ i) l) (addOffF j (Nat.mul i 1) λm=>onPtr m λn=>onRow (hget g n.1) λ_ o _ _ _ p=>ifB (ble (Nat.succ n.2) o) (binR (binC E .eql 9 false false) a1 (getF p n.2) λq=>@joinR [4] (λr s=>h (r.1,()) s) λr=>onB q (r (d.1,()) g) (k d.2.1 g)))) λg=>onB f (b (d.1,()) e) (g () e)
def p64 (E:Env)(rc:RC)(a0:Value)(a1:Value)(h:H)(k:Value->H->R):R:=joinL (λa=>@joinR [4] (λ_ b=>k (.int .i64 (.negSucc 0)) b) λb=>@loopF [4,8] (rW E a a0 a1 k b) ft (.int .i64 (.ofNat 0),(.int .i64 (.ofNat 0),())) h) λa=>onSl a0 (bindO (bv E h 30 a0) a) λ_ b _=>a (.int .i64 (.ofNat b))
theorem adf (t:ak)(rc:RC)(a0:Value)(a1:Value)(h:H)(k:Value->H->R):(ax (EX t) KK 64).run rc [a0,a1] h k = p64 (EX t) rc a0 a1 h k:=by kernel_rfl
def p65 (E:Env)(rc:RC)(h:H)(k:Value->H->R):R:=ifB (ble h.1 1000000000) (letH (ag h (.row 9 5 false false 0 (T.ofList unk (lay (lay (lay (lay (lay (List.flatten (List.replicate 5 (cellsOfV (.string (ByteArray.mk #[]))))) 0 (cellsOfV (.string ⟨⟨[110,111,116,101]⟩⟩))) 1 (cellsOfV (.string ⟨⟨[97,108,108,111,99]⟩⟩))) 2 (cellsOfV (.string ⟨⟨[97,103,97,105,110]⟩⟩))) 3 (cellsOfV (.string ⟨⟨[107,105,108,108]⟩⟩))) 4 (cellsOfV (.string ⟨⟨[100,101,115,116,114,111,121]⟩⟩)))))) λa=>k (.slice (some (Addr.mk h.1 0 none)) 5 10) a)
theorem ajH (t:ak)(rc:RC)(h:H)(k:Value->H->R):(ax (EX t) KK 65).run rc [] h k = p65 (EX t) rc h k:=by kernel_rfl
def p66 (E:Env)(rc:RC)(a0:Value)(h:H)(k:Value->H->R):R:=binR (binC E .eql 9 false true) a0 (.string ⟨⟨[46]⟩⟩) λa=>@joinR [2] (λ_ b=>k a0 b) λb=>onB a (b (.string (ByteArray.mk #[]),()) h) (k (.string (ByteArray.mk #[])) h)
theorem Ug (t:ak)(rc:RC)(a0:Value)(h:H)(k:Value->H->R):(ax (EX t) KK 66).run rc [a0] h k = p66 (EX t) rc a0 h k:=by kernel_rfl
def XS (a:aa [7,8,9,10,2,3,4,5,6])(k:Value->H->R)(b:H):R:=ifB (nT [a.1,a.2.1,a.2.2.2.1,.int .i64 (.ofNat 0),.int .i64 (.ofNat 0)]) (k (.tuple ⟨[a.1,a.2.1,a.2.2.2.1,.int .i64 (.ofNat 0),.int .i64 (.ofNat 0)]⟩) b)
def Bu (E:Env)(a b:Value)(rc:RC)(k:Value->H->R)(c:aa [7,8,9,10,2,3,4,5,6]->H->R):(aa [7,8,9,10,2,3,4,5,6,22]->H->R)->aa [7,8,9,10,2,3,4,5,6,22]->H->R:=λd e f=>binR (binC E .lss 3 false false) e.2.2.2.2.2.2.2.2.2.1 a λg=>@joinR [] (λ_ h=>@joinR [7,8,9,10,2,3,4,5,6] (λi j=>binR (binC E .add 3 false true) e.2.2.2.2.2.2.2.2.2.1 (.int .i64 (.ofNat 1)) λl=>d (i.1,(i.2.1,(i.2.2.1,(i.2.2.2.1,(i.2.2.2.2.1,(i.2.2.2.2.2.1,(i.2.2.2.2.2.2.1,(i.2.2.2.2.2.2.2.1,(i.2.2.2.2.2.2.2.2.1,(l,())))))))))) j) λi=>onNat e.2.2.2.2.2.2.2.2.2.1 none λj=>onSl b none λl m _=>ifB (ble (Nat.succ j) m) (addOffF l (Nat.mul j 1) λn=>onPtr n λo=>onRow (hget h o.1) λ_ p _ _ _ q=>ifB (ble (Nat.succ o.2) p) (rc 17 [getF q o.2] h λr s=>joinL (λt=>binR (binC E .eql 3 false true) t (.int .i64 (.ofNat 0)) λu=>@joinR [] (λ_ v=>@joinR [7,8,14,9,10] (λw x=>binR (binC E .neq 24 false true) w.2.2.1 (.int .i64 (.ofNat 0)) λy=>@joinR [2,3,4,5,6] (λz a0=>i (w.1,(w.2.1,(w.2.2.2.1,(w.2.2.2.2.1,(z.1,(z.2.1,(z.2.2.1,(z.2.2.2.1,(z.2.2.2.2.1,()))))))))) a0) λz=>onB y (z (e.2.2.2.2.1,(e.2.2.2.2.2.1,(e.2.2.2.2.2.2.1,(e.2.2.2.2.2.2.2.1,(e.2.2.2.2.2.2.2.2.1,()))))) x) (binR (binC E .add 3 false true) e.2.2.2.2.2.2.2.2.2.1 (.int .i64 (.ofNat 1)) λa0=>ifB (nT [.int .i64 (.ofNat 0),.int .i64 (.ofNat 0),.slice none 0 0,a0,w.2.2.1]) (k (.tuple ⟨[.int .i64 (.ofNat 0),.int .i64 (.ofNat 0),.slice none 0 0,a0,w.2.2.1]⟩) x))) λw=>onB e.2.2.1 (@joinR [7,8,14,9,10] (λx y=>w (x.1,(x.2.1,(x.2.2.1,(x.2.2.2.1,(x.2.2.2.2.1,()))))) y) λx=>rc 18 [r] v λy z=>onTup y λa0=>nthF 0 a0 λa1=>onTup y λa2=>nthF 1 a2 λa3=>onTup y λa4=>nthF 2 a4 λa5=>x (a1,(a3,(a5,(.bool true,(e.2.2.2.1,()))))) z) (@joinR [7,8,14,9,10] (λx y=>w (x.1,(x.2.1,(x.2.2.1,(x.2.2.2.1,(x.2.2.2.2.1,()))))) y) λx=>joinL (λy=>binR (binC E .geq 3 false true) y (.int .i64 (.ofNat 1000)) λz=>@joinR [14,10] (λa0 a1=>x (e.1,(e.2.1,(a0.1,(e.2.2.1,(a0.2.1,()))))) a1) λa0=>onB z (ifB (ble v.1 1000000000) (letH (ag v (.row 32 9 false false 0 (T.ofList unk [.int .i64 (.ofNat 0),.int .u8 (.ofNat 0),.string (ByteArray.mk #[]),.slice none 0 0,.int .i64 (.ofNat 0),.int .i64 (.ofNat 0),.int .i64 (.ofNat 0),.int .u8 (.ofNat 0),.slice none 0 0]))) λa1=>binR (binC E .add 3 false true) e.2.2.2.2.2.2.2.2.2.1 (.int .i64 (.ofNat 1)) λa2=>rc 19 [a2,r] a1 λa3 a4=>onTup a3 λa5=>nthF 0 a5 λa6=>onTup a3 λa7=>nthF 1 a7 λa8=>onCells a6 λa9=>onRow (hget a4 v.1) λb0 b1 b2 b3 b4 b5=>ifB (notB b3) (ifB (beq (lenF a9) 9) (ifB (ble b4 0) (ifB (ble 9 b1) (ifB (ble b1 1000000000) (ifB (allF (λb6=>cell1F b6) a9) (letH (hset a4 v.1 (.row b0 b1 b2 false b4 (putF b5 0 a9))) λb6=>onRow (hget b6 v.1) λ_ b7 _ _ _ b8=>ifB (ble 9 b7) (@Option.rec (List Value) (λ_=>R) none (λb9=>ifB (ble b6.1 1000000000) (letH (ag b6 (.row 32 9 false false 0 (T.ofList unk b9))) λc0=>cT (bu E c0 Builtin.append [e.2.2.2.1,.slice (some (Addr.mk b6.1 0 none)) 1 2] [23,23]) λc1 c2=>a0 (a8,(c1,())) c2)) (cG (λb9=>some (Nat.mul b9 9,9)) (List.flatten (List.replicate 1 (cellsOfV (.agg (@List.toArray Value [.int .i64 (.ofNat 0),.int .u8 (.ofNat 0),.string (ByteArray.mk #[]),.slice none 0 0,.int .i64 (.ofNat 0),.int .i64 (.ofNat 0),.int .i64 (.ofNat 0),.int .u8 (.ofNat 0),.slice none 0 0]))))) [(0,.agg ⟨ac b8 9 0⟩)])))))))))) (a0 (.int .i64 (.ofNat 15),(e.2.2.2.1,())) v)) λy=>onSl e.2.2.2.1 (bindO (bv E v 23 e.2.2.2.1) y) λ_ z _=>y (.int .i64 (.ofNat z)))) λv=>onB u (v () s) (i (e.1,(e.2.1,(e.2.2.1,(e.2.2.2.1,(e.2.2.2.2.1,(e.2.2.2.2.2.1,(e.2.2.2.2.2.2.1,(e.2.2.2.2.2.2.2.1,(e.2.2.2.2.2.2.2.2.1,()))))))))) s)) λt=>onSl r (bindO (bv E s 30 r) t) λ_ u _=>t (.int .i64 (.ofNat u))))) λh=>onB g (c (e.1,(e.2.1,(e.2.2.1,(e.2.2.2.1,(e.2.2.2.2.1,(e.2.2.2.2.2.1,(e.2.2.2.2.2.2.1,(e.2.2.2.2.2.2.2.1,(e.2.2.2.2.2.2.2.2.1,()))))))))) f) (h () f)
def p7 (E:Env)(rc:RC)(a0:Value)(h:H)(k:Value->H->R):R:=bindO (bv E h 9 a0) λa=>binR (binC E .gtr 3 false true) a (.int .i64 (.ofNat 65536)) λb=>@joinR [2,3,4,5,6] (λc d=>rc 16 [a0,.string ⟨⟨[10]⟩⟩] d λe f=>joinL (λg=>@joinR [7,8,9,10,2,3,4,5,6] (λi j=>onB i.2.2.1 (@joinR [2,3,4,5,6] (λ_ l=>XS i k l) λ_=>k (.tuple ⟨[.int .i64 (.ofNat 0),.int .i64 (.ofNat 0),.slice none 0 0,.int .i64 (.ofNat 0),.int .i64 (.ofNat 19)]⟩) j) (@joinR [2,3,4,5,6] (λ_ l=>XS i k l) λl=>l (i.2.2.2.2.1,(i.2.2.2.2.2.1,(i.2.2.2.2.2.2.1,(i.2.2.2.2.2.2.2.1,(i.2.2.2.2.2.2.2.2.1,()))))) j)) λi=>@loopF [7,8,9,10,2,3,4,5,6,22] (Bu E g e rc k i) ft (.int .i64 (.ofNat 0),(.int .i64 (.ofNat 0),(.bool false,(.slice none 0 0,(c.1,(c.2.1,(c.2.2.1,(c.2.2.2.1,(c.2.2.2.2.1,(.int .i64 (.ofNat 0),())))))))))) f) λg=>onSl e (bindO (bv E f 30 e) g) λ_ i _=>g (.int .i64 (.ofNat i))) λc=>onB b (c (.int .i64 (.ofNat 0),(.int .i64 (.ofNat 0),(.slice none 0 0,(.int .i64 (.ofNat 0),(.int .i64 (.ofNat 0),()))))) h) (k (.tuple ⟨[.int .i64 (.ofNat 0),.int .i64 (.ofNat 0),.slice none 0 0,.int .i64 (.ofNat 0),.int .i64 (.ofNat 16)]⟩) h)
theorem ap1 (t:ak)(rc:RC)(a0:Value)(h:H)(k:Value->H->R):(ax (EX t) KK 7).run rc [a0] h k = p7 (EX t) rc a0 h k:=by kernel_rfl
def p17 (E:Env)(rc:RC)(a0:Value)(h:H)(k:Value->H->R):R:=rc 35 [a0,.func (.func 36) #[] #[]] h λa b=>joinL (λc=>binR (binC E .gtr 3 false true) c (.int .i64 (.ofNat 0)) λd=>ae (λe f=>ae (λg i=>ae (λj l=>ae (λm n=>ae (λo p=>onB d (@joinR [2] (λ_ q=>k a q) λq=>q (.slice none 0 0,()) p) (@joinR [2] (λ_ q=>k a q) λq=>onB o (q (.slice none 0 0,()) p) (k (.slice none 0 0) p))) λo=>aB d (o undef n) (binR (binC E .eql 5 false true) m (.int .u8 (.ofNat 35)) λp=>o p n) (o undef n)) λm=>aB d (m undef l) (bindO (dD E 9 j (.int .i64 (.ofNat 0))) λn=>m n l) (m undef l)) λj=>aB d (j undef i) (onPtr g λl=>onRow (hget i l.1) λ_ m _ _ _ n=>ifB (ble (Nat.succ l.2) m) (j (getF n l.2) i)) (j undef i)) λg=>aB d (g undef f) (onSl e none λi j _=>ifB (ble 1 j) (g (.pointer (some i)) f)) (g undef f)) λe=>aB d (e undef b) (e a b) (e undef b)) λc=>onSl a (bindO (bv E b 30 a) c) λ_ d _=>c (.int .i64 (.ofNat d))
theorem Re (t:ak)(rc:RC)(a0:Value)(h:H)(k:Value->H->R):(ax (EX t) KK 17).run rc [a0] h k = p17 (EX t) rc a0 h k:=by kernel_rfl
def y9 (a0:Value)(a:H)(rc:RC)(E:Env)(k:Value->H->R)(b:aa [2,3,4]):R:=onSl a0 none λc d _=>ifB (ble 2 d) (addOffF c 1 λe=>onPtr e λf=>onRow (hget a f.1) λ_ g _ _ _ h=>ifB (ble (Nat.succ f.2) g) (rc 37 [getF h f.2] a λi j=>onTup i λl=>nthF 0 l λm=>onTup i λn=>nthF 1 n λo=>binR (binC E .neq 24 false true) o (.int .i64 (.ofNat 0)) λp=>@joinR [2,3,4] (λ_ q=>onSl a0 none λr s _=>ifB (ble 3 s) (addOffF r 2 λt=>onPtr t λu=>onRow (hget q u.1) λ_ v _ _ _ w=>ifB (ble (Nat.succ u.2) v) (rc 37 [getF w u.2] q λx y=>onTup x λz=>nthF 0 z λa1=>onTup x λa2=>nthF 1 a2 λa3=>ifB (nT [m,a1,a3]) (k (.tuple ⟨[m,a1,a3]⟩) y)))) λq=>onB p (q (b.1,(b.2.1,(b.2.2.1,()))) j) (ifB (nT [.int .i64 (.ofNat 0),.int .i64 (.ofNat 0),o]) (k (.tuple ⟨[.int .i64 (.ofNat 0),.int .i64 (.ofNat 0),o]⟩) j))))
def p18 (E:Env)(rc:RC)(a0:Value)(h:H)(k:Value->H->R):R:=joinL (λa=>binR (binC E .neq 3 false true) a (.int .i64 (.ofNat 3)) λb=>ae (λc d=>ae (λe f=>ae (λg i=>ae (λj l=>onB b (@joinR [2,3,4] (λm n=>y9 a0 n rc E k m) λm=>onB j (m (.int .i64 (.ofNat 0),(.int .i64 (.ofNat 0),(.int .i64 (.ofNat 0),()))) l) (k (.tuple ⟨[.int .i64 (.ofNat 0),.int .i64 (.ofNat 0),.int .i64 (.ofNat 14)]⟩) l)) (@joinR [2,3,4] (λm n=>y9 a0 n rc E k m) λ_=>k (.tuple ⟨[.int .i64 (.ofNat 0),.int .i64 (.ofNat 0),.int .i64 (.ofNat 14)]⟩) l)) λj=>aB b (binR (binC E .neq 9 false true) g (.string ⟨⟨[97,114,101,110,97]⟩⟩) λl=>j l i) (j undef i) (j undef i)) λg=>aB b (onPtr e λi=>onRow (hget f i.1) λ_ j _ _ _ l=>ifB (ble (Nat.succ i.2) j) (g (getF l i.2) f)) (g undef f) (g undef f)) λe=>aB b (onSl c none λf g _=>ifB (ble 1 g) (e (.pointer (some f)) d)) (e undef d) (e undef d)) λc=>aB b (c a0 h) (c undef h) (c undef h)) λa=>onSl a0 (bindO (bv E h 30 a0) a) λ_ b _=>a (.int .i64 (.ofNat b))
theorem U9 (t:ak)(rc:RC)(a0:Value)(h:H)(k:Value->H->R):(ax (EX t) KK 18).run rc [a0] h k = p18 (EX t) rc a0 h k:=by kernel_rfl
def Pn (a:Value)(k:Value->H->R)(b:H):R:=ifB (nT [a,.int .i64 (.ofNat 0)]) (k (.tuple ⟨[a,.int .i64 (.ofNat 0)]⟩) b)
def sc (E:Env)(a a0:Value)(k:Value->H->R)(b:aa [2,3]->H->R):(aa [2,3,21]->H->R)->aa [2,3,21]->H->R:=λc d e=>binR (binC E .lss 3 false false) d.2.2.1 a λf=>@joinR [] (λ_ g=>@joinR [2,3] (λh i=>binR (binC E .add 3 false true) d.2.2.1 (.int .i64 (.ofNat 1)) λj=>c (h.1,(h.2.1,(j,()))) i) λh=>bindO (dD E 9 a0 d.2.2.1) λi=>binR (binC E .lss 5 false true) i (.int .u8 (.ofNat 48)) λj=>ae (λl m=>ae (λn o=>ae (λp q=>ae (λr s=>onB j (@joinR [2,3] (λt u=>h (t.1,(t.2.1,())) u) λt=>onB r (t (d.1,(d.2.1,())) s) (k (.tuple ⟨[.int .i64 (.ofNat 0),.int .i64 (.ofNat 14)]⟩) s)) (@joinR [2,3] (λt u=>h (t.1,(t.2.1,())) u) λ_=>k (.tuple ⟨[.int .i64 (.ofNat 0),.int .i64 (.ofNat 14)]⟩) s)) λr=>aB j (binR (binC E .gtr 5 false true) p (.int .u8 (.ofNat 57)) λs=>r s q) (r undef q) (r undef q)) λp=>aB j (bindO (dD E 9 l n) λq=>p q o) (p undef o) (p undef o)) λn=>aB j (n d.2.2.1 m) (n undef m) (n undef m)) λl=>aB j (l a0 g) (l undef g) (l undef g)) λg=>onB f (b (d.1,(d.2.1,())) e) (g () e)
def wB (E:Env)(a:H)(a0:Value)(rc:RC)(k:Value->H->R)(b:aa [2,3]):R:=bindO (bv E a 9 a0) λc=>@joinR [2,3] (λd e=>rc 62 [a0] e λf g=>onTup f λh=>nthF 0 h λi=>onTup f λj=>nthF 1 j λl=>binR (binC E .neq 62 false true) l .nilIface λm=>ae (λn o=>ae (λp q=>onB m (@joinR [2,3] (λ_ r=>Pn i k r) λr=>onB p (r (d.1,(d.2.1,())) q) (k (.tuple ⟨[.int .i64 (.ofNat 0),.int .i64 (.ofNat 3)]⟩) q)) (@joinR [2,3] (λ_ r=>Pn i k r) λ_=>k (.tuple ⟨[.int .i64 (.ofNat 0),.int .i64 (.ofNat 3)]⟩) q)) λp=>aB m (binR (binC E .gtr 3 false true) n (.int .i64 (.ofNat 4294967296)) λq=>p q o) (p undef o) (p undef o)) λn=>aB m (n i g) (n undef g) (n undef g)) λd=>@loopF [2,3,21] (sc E c a0 k d) ft (b.1,(b.2.1,(.int .i64 (.ofNat 0),()))) a
def p37 (E:Env)(rc:RC)(a0:Value)(h:H)(k:Value->H->R):R:=binR (binC E .eql 9 false true) a0 (.string (ByteArray.mk #[])) λa=>ae (λb c=>ae (λd e=>ae (λf g=>ae (λi j=>ae (λl m=>ae (λn o=>ae (λp q=>ae (λr s=>onB a (@joinR [2,3] (λt u=>wB E u a0 rc k t) λt=>onB r (t (.int .i64 (.ofNat 0),(.int .i64 (.ofNat 0),())) s) (k (.tuple ⟨[.int .i64 (.ofNat 0),.int .i64 (.ofNat 14)]⟩) s)) (@joinR [2,3] (λt u=>wB E u a0 rc k t) λ_=>k (.tuple ⟨[.int .i64 (.ofNat 0),.int .i64 (.ofNat 14)]⟩) s)) λr=>aB a (onB i (r (.bool false) q) (r p q)) (r undef q) (r undef q)) λp=>aB i (p undef o) (binR (binC E .eql 5 false true) n (.int .u8 (.ofNat 48)) λq=>p q o) (p undef o)) λn=>aB i (n undef m) (bindO (dD E 9 l (.int .i64 (.ofNat 0))) λo=>n o m) (n undef m)) λl=>aB i (l undef j) (l a0 j) (l undef j)) λi=>aB a (i f g) (i undef g) (i undef g)) λf=>aB a (binR (binC E .gtr 3 false true) d (.int .i64 (.ofNat 1)) λg=>f g e) (f undef e) (f undef e)) λd=>aB a (bindO (bv E c 9 b) λe=>d e c) (d undef c) (d undef c)) λb=>aB a (b a0 h) (b undef h) (b undef h)
theorem Sf (t:ak)(rc:RC)(a0:Value)(h:H)(k:Value->H->R):(ax (EX t) KK 37).run rc [a0] h k = p37 (EX t) rc a0 h k:=by kernel_rfl
def sn (E:Env)(a b:Value)(c:H)(rc:RC)(d e:H)(k:Value->H->R)(f:aa [5]->H->R):(aa [5,40]->H->R)->aa [5,40]->H->R:=λg h i=>binR (binC E .lss 3 false false) h.2.1 a λj=>@joinR [] (λ_ l=>@joinR [5] (λm n=>binR (binC E .add 3 false true) h.2.1 (.int .i64 (.ofNat 1)) λo=>g (m.1,(o,())) n) λm=>onNat h.2.1 none λn=>onSl b none λo p _=>ifB (ble (Nat.succ n) p) (addOffF o (Nat.mul n 1) λq=>onPtr q λr=>onRow (hget l r.1) λ_ s _ _ _ t=>ifB (ble (Nat.succ r.2) s) (onRow (hget l c.1) λ_ u _ _ _ v=>ifB (ble 2 u) (onRow (hget l c.1) λ_ w _ _ _ x=>ifB (ble 2 w) (bindO (bv E l 9 (getF x 1)) λy=>binR (binC E .sub 3 false true) y (.int .i64 (.ofNat 1)) λz=>bindO (bn E l Builtin.min [h.2.1,z] [3,3]) λa0=>bindO (dD E 9 (getF v 1) a0) λa1=>rc 42 [.pointer (some (Addr.mk d.1 0 none)),a1,getF t r.2] l λa2 a3=>binR (binC E .neq 24 false true) a2 (.int .i64 (.ofNat 0)) λa4=>@joinR [5] (λa5 a6=>m (a5.1,()) a6) λa5=>onB a4 (a5 (h.1,()) a3) (onRow (hget a3 e.1) λa6 a7 a8 a9 b0 b1=>ifB (notB a9) (ifB (beq (lenF (cellsOfV (.agg (@List.toArray Value [.int .i64 (.ofNat 0),.int .u8 (.ofNat 0),.string (ByteArray.mk #[]),.slice none 0 0,.int .i64 (.ofNat 0),.int .i64 (.ofNat 0),.int .i64 (.ofNat 0),.int .u8 (.ofNat 0),.slice none 0 0])))) 9) (ifB (ble b0 0) (ifB (ble 9 a7) (ifB (ble a7 1000000000) (ifB (allF (λb2=>cell1F b2) (cellsOfV (.agg (@List.toArray Value [.int .i64 (.ofNat 0),.int .u8 (.ofNat 0),.string (ByteArray.mk #[]),.slice none 0 0,.int .i64 (.ofNat 0),.int .i64 (.ofNat 0),.int .i64 (.ofNat 0),.int .u8 (.ofNat 0),.slice none 0 0])))) (letH (hset a3 e.1 (.row a6 a7 a8 false b0 (putF b1 0 (cellsOfV (.agg (@List.toArray Value [.int .i64 (.ofNat 0),.int .u8 (.ofNat 0),.string (ByteArray.mk #[]),.slice none 0 0,.int .i64 (.ofNat 0),.int .i64 (.ofNat 0),.int .i64 (.ofNat 0),.int .u8 (.ofNat 0),.slice none 0 0])))))) λb2=>bindO (aU E b2 32 (Addr.mk e.1 0 none)) λb3=>ifB (nT [b3,a2]) (k (.tuple ⟨[b3,a2]⟩) b2))))))))))))) λl=>onB j (f (h.1,()) i) (l () i)
def wU (rc:RC)(a:H)(b:Value)(E:Env)(a0:Value)(h c:H)(k:Value->H->R)(d:aa [5]):R:=rc 39 [] a λe f=>onNat b none λg=>onSl e none λi j _=>ifB (ble (Nat.succ g) j) (addOffF i (Nat.mul g 2) λl=>onPtr l λm=>onRow (hget f m.1) λ_ n _ _ _ o=>ifB (ble (Nat.add m.2 2) n) (ifB (ble f.1 1000000000) (letH (ag f (.row 77 2 false false 0 (T.ofList unk [.string (ByteArray.mk #[]),.string (ByteArray.mk #[])]))) λp=>onRow (hget p f.1) λq r s t u v=>ifB (notB t) (ifB (beq (lenF (ac o 2 m.2)) 2) (ifB (ble u 0) (ifB (ble 2 r) (ifB (ble r 1000000000) (ifB (allF (λw=>cell1F w) (ac o 2 m.2)) (letH (hset p f.1 (.row q r s false u (putF v 0 (ac o 2 m.2)))) λw=>joinL (λx=>bindO (cg E 32 [(0,a0),(1,x)]) λy=>ifB (ble w.1 1000000000) (letH (ag w (.row 32 9 false false 0 (T.ofList unk [.int .i64 (.ofNat 0),.int .u8 (.ofNat 0),.string (ByteArray.mk #[]),.slice none 0 0,.int .i64 (.ofNat 0),.int .i64 (.ofNat 0),.int .i64 (.ofNat 0),.int .u8 (.ofNat 0),.slice none 0 0]))) λz=>onCells y λa1=>onRow (hget z w.1) λa2 a3 a4 a5 a6 a7=>ifB (notB a5) (ifB (beq (lenF a1) 9) (ifB (ble a6 0) (ifB (ble 9 a3) (ifB (ble a3 1000000000) (ifB (allF (λa8=>cell1F a8) a1) (letH (hset z w.1 (.row a2 a3 a4 false a6 (putF a7 0 a1))) λa8=>onRow (hget a8 h.1) λ_ a9 _ _ _ b0=>ifB (ble 1 a9) (bindO (dd E 30 (getF b0 0) (some (.int .i64 (.ofNat 1))) none none) λb1=>joinL (λb2=>@joinR [5] (λ_ b3=>onRow (hget b3 w.1) λ_ b4 _ _ _ b5=>ifB (ble 9 b4) (onRow (hget b3 c.1) λb6 b7 b8 b9 c0 c1=>ifB (notB b9) (ifB (beq (lenF (ac b5 9 0)) 9) (ifB (ble c0 0) (ifB (ble 9 b7) (ifB (ble b7 1000000000) (ifB (allF (λc2=>cell1F c2) (ac b5 9 0)) (letH (hset b3 c.1 (.row b6 b7 b8 false c0 (putF c1 0 (ac b5 9 0)))) λc2=>bindO (aU E c2 32 (Addr.mk c.1 0 none)) λc3=>ifB (nT [c3,.int .i64 (.ofNat 0)]) (k (.tuple ⟨[c3,.int .i64 (.ofNat 0)]⟩) c2))))))))) λb3=>@loopF [5,40] (sn E b2 b1 f rc w c k b3) ft (d.1,(.int .i64 (.ofNat 0),())) a8) λb2=>onSl b1 (bindO (bv E a8 30 b1) b2) λ_ b3 _=>b2 (.int .i64 (.ofNat b3))))))))))) λx=>onNat b (bindO (aQ E w 3 5 b) x) λy=>@Bool.rec (λ_=>R) (bindO (aQ E w 3 5 b) x) (x (.int .u8 (.ofNat y))) (ble y 255))))))))))
def wJ (a b:H)(E:Env)(k:Value->H->R):R:=onRow (hget a b.1) λc d e f g h=>ifB (notB f) (ifB (beq (lenF (cellsOfV (.agg (@List.toArray Value [.int .i64 (.ofNat 0),.int .u8 (.ofNat 0),.string (ByteArray.mk #[]),.slice none 0 0,.int .i64 (.ofNat 0),.int .i64 (.ofNat 0),.int .i64 (.ofNat 0),.int .u8 (.ofNat 0),.slice none 0 0])))) 9) (ifB (ble g 0) (ifB (ble 9 d) (ifB (ble d 1000000000) (ifB (allF (λi=>cell1F i) (cellsOfV (.agg (@List.toArray Value [.int .i64 (.ofNat 0),.int .u8 (.ofNat 0),.string (ByteArray.mk #[]),.slice none 0 0,.int .i64 (.ofNat 0),.int .i64 (.ofNat 0),.int .i64 (.ofNat 0),.int .u8 (.ofNat 0),.slice none 0 0])))) (letH (hset a b.1 (.row c d e false g (putF h 0 (cellsOfV (.agg (@List.toArray Value [.int .i64 (.ofNat 0),.int .u8 (.ofNat 0),.string (ByteArray.mk #[]),.slice none 0 0,.int .i64 (.ofNat 0),.int .i64 (.ofNat 0),.int .i64 (.ofNat 0),.int .u8 (.ofNat 0),.slice none 0 0])))))) λi=>bindO (aU E i 32 (Addr.mk b.1 0 none)) λj=>ifB (nT [j,.int .i64 (.ofNat 14)]) (k (.tuple ⟨[j,.int .i64 (.ofNat 14)]⟩) i)))))))
def vE (a:Value)(E:Env)(b:Value)(c:Value->R):R:=aB a (binR (binC E .sub 3 false true) b (.int .i64 (.ofNat 1)) c) (c undef) (c undef)
def wN (a:Value)(b:Value->R)(c:Value)(E:Env)(d:H):R:=aB a (joinL b λe=>onSl c (bindO (bv E d 30 c) e) λ_ f _=>e (.int .i64 (.ofNat f))) (b undef) (b undef)
def p19 (E:Env)(rc:RC)(a0:Value)(a1:Value)(h:H)(k:Value->H->R):R:=onCells a1 λa=>ifB (allF (λb=>cell1F b) a) (ifB (ble h.1 1000000000) (letH (ag h (.row 30 (lenF a) false false 0 (T.ofList unk a))) λb=>ifB (ble b.1 1000000000) (letH (ag b (.row 32 9 false false 0 (T.ofList unk [.int .i64 (.ofNat 0),.int .u8 (.ofNat 0),.string (ByteArray.mk #[]),.slice none 0 0,.int .i64 (.ofNat 0),.int .i64 (.ofNat 0),.int .i64 (.ofNat 0),.int .u8 (.ofNat 0),.slice none 0 0]))) λc=>rc 39 [] c λd e=>ifB (fx (allF (λf=>eG f) []) (allF (λf=>eG f) [.pointer (some (Addr.mk h.1 0 none))])) (rc 38 [d,.func (.func 40) ⟨[]⟩ ⟨[.pointer (some (Addr.mk h.1 0 none))]⟩] e λf g=>ifB (ble g.1 1000000000) (letH (H.mk g.1 g.2) λi=>binR (binC E .lss 3 false true) f (.int .i64 (.ofNat 0)) λj=>joinL (λl=>joinL (λm=>joinL (λn=>joinL (λo=>ae (λp q=>joinL (λr=>ifB (aj r l) (joinL (λs=>ifB (aj s m) (joinL (λt=>ifB (aj t n) (joinL (λu=>ifB (aj u o) (joinL (λv=>joinL (λw=>ae (λx y=>joinL (λz=>onB j (@joinR [5] (λa2 a3=>wU rc a3 f E a0 h b k a2) λa2=>onB z (a2 (.int .i64 (.ofNat 0),()) y) (wJ y b E k)) (@joinR [5] (λa2 a3=>wU rc a3 f E a0 h b k a2) λ_=>wJ y b E k)) λz=>aB j (onB x (z (.bool true)) (z (.bool false))) (z undef) (z undef)) λx=>aB j (rc 41 [w,o] q x) (x undef q) (x undef q)) λw=>aB j (onPtr v λx=>onRow (hget q x.1) λ_ y _ _ _ z=>ifB (ble (Nat.add x.2 2) y) (w (.agg ⟨ac z 2 x.2⟩))) (w undef) (w undef)) λv=>aB j (onNat l none λw=>onSl p none λx y _=>ifB (ble (Nat.succ w) y) (addOffF x (Nat.mul w 2) v)) (v undef) (v undef))) λu=>vE j E n u)) λt=>wN j t m E q)) λs=>aB j (onRow (hget q h.1) λ_ t _ _ _ u=>ifB (ble 1 t) (s (getF u 0))) (s undef) (s undef))) λr=>aB j (r f) (r undef) (r undef)) λp=>aB j (rc 39 [] i p) (p undef i) (p undef i)) λo=>vE j E n o) λn=>wN j n m E i) λm=>aB j (onRow (hget i h.1) λ_ n _ _ _ o=>ifB (ble 1 n) (m (getF o 0))) (m undef) (m undef)) λl=>aB j (l f) (l undef) (l undef))))))
theorem Zq (t:ak)(rc:RC)(a0:Value)(a1:Value)(h:H)(k:Value->H->R):(ax (EX t) KK 19).run rc [a0,a1] h k = p19 (EX t) rc a0 a1 h k:=by kernel_rfl
def atv (a:aa [7,8,9,10,2,3,4,5,6])(k:Value->H->R)(b:H):R:=ifB (nT [a.1,a.2.1,a.2.2.2.1,.int .i64 (.ofNat 0),.int .i64 (.ofNat 0)]) (k (.tuple ⟨[a.1,a.2.1,a.2.2.2.1,.int .i64 (.ofNat 0),.int .i64 (.ofNat 0)]⟩) b)
def asy (E:Env)(a:aa [7,8,14,9,10])(b:aa [7,8,9,10,2,3,4,5,6]->H->R)(c:aa [7,8,9,10,2,3,4,5,6,23])(d:H)(k:Value->H->R):R:=binR (binC E .neq 3 false true) a.2.2.1 (.int .i64 (.ofNat 0)) λe=>@joinR [2,3,4,5,6] (λf g=>b (a.1,(a.2.1,(a.2.2.2.1,(a.2.2.2.2.1,(f.1,(f.2.1,(f.2.2.1,(f.2.2.2.1,(f.2.2.2.2.1,()))))))))) g) λf=>onB e (f (c.2.2.2.2.1,(c.2.2.2.2.2.1,(c.2.2.2.2.2.2.1,(c.2.2.2.2.2.2.2.1,(c.2.2.2.2.2.2.2.2.1,()))))) d) (binR (binC E .add 3 false true) c.2.2.2.2.2.2.2.2.2.1 (.int .i64 (.ofNat 1)) λg=>ifB (nT [.int .i64 (.ofNat 0),.int .i64 (.ofNat 0),.slice none 0 0,g,a.2.2.1]) (k (.tuple ⟨[.int .i64 (.ofNat 0),.int .i64 (.ofNat 0),.slice none 0 0,g,a.2.2.1]⟩) d))
def ate (a:aa [7,8,9,10,2,3,4,5,6,23])(E:Env)(b:aa [7,8,9,10,2,3,4,5,6]->H->R)(k:Value->H->R)(rc:RC)(c:Value)(d:H):R:=onB a.2.2.1 (@joinR [7,8,14,9,10] (λe f=>asy E e b a f k) λe=>rc 22 [c] d λf g=>onTup f λh=>nthF 0 h λi=>onTup f λj=>nthF 1 j λl=>onTup f λm=>nthF 2 m λn=>e (i,(l,(n,(.bool true,(a.2.2.2.1,()))))) g) (@joinR [7,8,14,9,10] (λe f=>asy E e b a f k) λe=>joinL (λf=>binR (binC E .eql 3 false true) f (.int .i64 (.ofNat 1000)) λg=>@joinR [14,10] (λh i=>e (a.1,(a.2.1,(h.1,(a.2.2.1,(h.2.1,()))))) i) λh=>onB g (binR (binC E .add 3 false true) a.2.2.2.2.2.2.2.2.2.1 (.int .i64 (.ofNat 1)) λi=>rc 23 [i,c] d λj l=>onTup j λm=>nthF 0 m λn=>onTup j λo=>nthF 1 o λp=>ifB (ble l.1 1000000000) (letH (ag l (.row 34 9 false false 0 (T.ofList unk [.int .i64 (.ofNat 0),.int .u8 (.ofNat 0),.string (ByteArray.mk #[]),.slice none 0 0,.int .i64 (.ofNat 0),.int .i64 (.ofNat 0),.int .i64 (.ofNat 0),.int .u8 (.ofNat 0),.slice none 0 0]))) λq=>onCells n λr=>onRow (hget q l.1) λs t u v w x=>ifB (notB v) (ifB (beq (lenF r) 9) (ifB (ble w 0) (ifB (ble 9 t) (ifB (ble t 1000000000) (ifB (allF (λy=>cell1F y) r) (letH (hset q l.1 (.row s t u false w (putF x 0 r))) λy=>onRow (hget y l.1) λ_ z _ _ _ a0=>ifB (ble 9 z) (@Option.rec (List Value) (λ_=>R) none (λa1=>ifB (ble y.1 1000000000) (letH (ag y (.row 34 9 false false 0 (T.ofList unk a1))) λa2=>cT (bu E a2 Builtin.append [a.2.2.2.1,.slice (some (Addr.mk y.1 0 none)) 1 2] [27,27]) λa3 a4=>h (p,(a3,())) a4)) (cG (λa1=>some (Nat.mul a1 9,9)) (List.flatten (List.replicate 1 (cellsOfV (.agg (@List.toArray Value [.int .i64 (.ofNat 0),.int .u8 (.ofNat 0),.string (ByteArray.mk #[]),.slice none 0 0,.int .i64 (.ofNat 0),.int .i64 (.ofNat 0),.int .i64 (.ofNat 0),.int .u8 (.ofNat 0),.slice none 0 0]))))) [(0,.agg ⟨ac a0 9 0⟩)])))))))))) (h (.int .i64 (.ofNat 15),(a.2.2.2.1,())) d)) λf=>onSl a.2.2.2.1 (bindO (bv E d 27 a.2.2.2.1) f) λ_ g _=>f (.int .i64 (.ofNat g)))
def asZ (E:Env)(a b:Value)(rc:RC)(k:Value->H->R)(c:aa [7,8,9,10,2,3,4,5,6]->H->R):(aa [7,8,9,10,2,3,4,5,6,23]->H->R)->aa [7,8,9,10,2,3,4,5,6,23]->H->R:=λd e f=>binR (binC E .lss 3 false false) e.2.2.2.2.2.2.2.2.2.1 a λg=>@joinR [] (λ_ h=>@joinR [7,8,9,10,2,3,4,5,6] (λi j=>binR (binC E .add 3 false true) e.2.2.2.2.2.2.2.2.2.1 (.int .i64 (.ofNat 1)) λl=>d (i.1,(i.2.1,(i.2.2.1,(i.2.2.2.1,(i.2.2.2.2.1,(i.2.2.2.2.2.1,(i.2.2.2.2.2.2.1,(i.2.2.2.2.2.2.2.1,(i.2.2.2.2.2.2.2.2.1,(l,())))))))))) j) λi=>onNat e.2.2.2.2.2.2.2.2.2.1 none λj=>onSl b none λl m _=>ifB (ble (Nat.succ j) m) (addOffF l (Nat.mul j 1) λn=>onPtr n λo=>onRow (hget h o.1) λ_ p _ _ _ q=>ifB (ble (Nat.succ o.2) p) (rc 21 [getF q o.2] h λr s=>joinL (λt=>binR (binC E .eql 3 false true) t (.int .i64 (.ofNat 0)) λu=>ae (λv w=>ae (λx y=>ae (λz a0=>ae (λa1 a2=>ae (λa3 a4=>onB u (@joinR [] (λ_ a5=>ate e E i k rc r a5) λa5=>onB a3 (a5 () a4) (i (e.1,(e.2.1,(e.2.2.1,(e.2.2.2.1,(e.2.2.2.2.1,(e.2.2.2.2.2.1,(e.2.2.2.2.2.2.1,(e.2.2.2.2.2.2.2.1,(e.2.2.2.2.2.2.2.2.1,()))))))))) a4)) (@joinR [] (λ_ a5=>ate e E i k rc r a5) λ_=>i (e.1,(e.2.1,(e.2.2.1,(e.2.2.2.1,(e.2.2.2.2.1,(e.2.2.2.2.2.1,(e.2.2.2.2.2.2.1,(e.2.2.2.2.2.2.2.1,(e.2.2.2.2.2.2.2.2.1,()))))))))) a4)) λa3=>aB u (binR (binC E .eql 5 false true) a1 (.int .u8 (.ofNat 35)) λa4=>a3 a4 a2) (a3 undef a2) (a3 undef a2)) λa1=>aB u (bindO (dD E 9 z (.int .i64 (.ofNat 0))) λa2=>a1 a2 a0) (a1 undef a0) (a1 undef a0)) λz=>aB u (onPtr x λa0=>onRow (hget y a0.1) λ_ a1 _ _ _ a2=>ifB (ble (Nat.succ a0.2) a1) (z (getF a2 a0.2) y)) (z undef y) (z undef y)) λx=>aB u (onSl v none λy z _=>ifB (ble 1 z) (x (.pointer (some y)) w)) (x undef w) (x undef w)) λv=>aB u (v r s) (v undef s) (v undef s)) λt=>onSl r (bindO (bv E s 30 r) t) λ_ u _=>t (.int .i64 (.ofNat u))))) λh=>onB g (c (e.1,(e.2.1,(e.2.2.1,(e.2.2.2.1,(e.2.2.2.2.1,(e.2.2.2.2.2.1,(e.2.2.2.2.2.2.1,(e.2.2.2.2.2.2.2.1,(e.2.2.2.2.2.2.2.2.1,()))))))))) f) (h () f)
def p8 (E:Env)(rc:RC)(a0:Value)(h:H)(k:Value->H->R):R:=bindO (bv E h 9 a0) λa=>binR (binC E .gtr 3 false true) a (.int .i64 (.ofNat 65536)) λb=>@joinR [2,3,4,5,6] (λc d=>rc 20 [a0] d λe f=>joinL (λg=>@joinR [7,8,9,10,2,3,4,5,6] (λi j=>onB i.2.2.1 (@joinR [2,3,4,5,6] (λ_ l=>atv i k l) λ_=>k (.tuple ⟨[.int .i64 (.ofNat 0),.int .i64 (.ofNat 0),.slice none 0 0,.int .i64 (.ofNat 0),.int .i64 (.ofNat 19)]⟩) j) (@joinR [2,3,4,5,6] (λ_ l=>atv i k l) λl=>l (i.2.2.2.2.1,(i.2.2.2.2.2.1,(i.2.2.2.2.2.2.1,(i.2.2.2.2.2.2.2.1,(i.2.2.2.2.2.2.2.2.1,()))))) j)) λi=>@loopF [7,8,9,10,2,3,4,5,6,23] (asZ E g e rc k i) ft (.int .i64 (.ofNat 0),(.int .i64 (.ofNat 0),(.bool false,(.slice none 0 0,(c.1,(c.2.1,(c.2.2.1,(c.2.2.2.1,(c.2.2.2.2.1,(.int .i64 (.ofNat 0),())))))))))) f) λg=>onSl e (bindO (bv E f 30 e) g) λ_ i _=>g (.int .i64 (.ofNat i))) λc=>onB b (c (.int .i64 (.ofNat 0),(.int .i64 (.ofNat 0),(.slice none 0 0,(.int .i64 (.ofNat 0),(.int .i64 (.ofNat 0),()))))) h) (k (.tuple ⟨[.int .i64 (.ofNat 0),.int .i64 (.ofNat 0),.slice none 0 0,.int .i64 (.ofNat 0),.int .i64 (.ofNat 16)]⟩) h)
theorem auT (t:ak)(rc:RC)(a0:Value)(h:H)(k:Value->H->R):(ax (EX t) KK 8).run rc [a0] h k = p8 (EX t) rc a0 h k:=by kernel_rfl
def ar2 (E:Env)(a0:Value)(a:aa [3,4]->H->R):(aa [3,4,5]->H->R)->aa [3,4,5]->H->R:=λb c d=>bindO (bv E d 9 a0) λe=>binR (binC E .lss 3 false false) c.2.2.1 e λf=>@joinR [] (λ_ g=>@joinR [3,4] (λh i=>binR (binC E .add 3 false true) c.2.2.1 (.int .i64 (.ofNat 1)) λj=>b (h.1,(h.2.1,(j,()))) i) λh=>bindO (dD E 9 a0 c.2.2.1) λi=>binR (binC E .eql 5 false true) i (.int .u8 (.ofNat 10)) λj=>@joinR [3,4] (λl m=>h (l.1,(l.2.1,())) m) λl=>onB j (binR (binC E .add 3 false true) c.2.2.1 (.int .i64 (.ofNat 1)) λm=>bindO (dd E 9 a0 (some c.2.2.1) (some m) none) λn=>binR (binC E .add 9 false false) c.2.1 n λo=>l (c.1,(o,())) g) (@Option.rec (List Value) (λ_=>R) none (λm=>ifB (ble g.1 1000000000) (letH (ag g (.row 9 1 false false 0 (T.ofList unk m))) λn=>cT (bu E n Builtin.append [c.1,.slice (some (Addr.mk g.1 0 none)) 1 2] [30,30]) λo p=>l (o,(.string (ByteArray.mk #[]),())) p)) (cG (λm=>some (Nat.mul m 1,1)) (List.flatten (List.replicate 1 (cellsOfV (.string (ByteArray.mk #[]))))) [(0,c.2.1)]))) λg=>onB f (a (c.1,(c.2.1,())) d) (g () d)
def p20 (E:Env)(rc:RC)(a0:Value)(h:H)(k:Value->H->R):R:=@joinR [3,4] (λa b=>@Option.rec (List Value) (λ_=>R) none (λc=>ifB (ble b.1 1000000000) (letH (ag b (.row 9 1 false false 0 (T.ofList unk c))) λd=>cT (bu E d Builtin.append [a.1,.slice (some (Addr.mk b.1 0 none)) 1 2] [30,30]) λe f=>k e f)) (cG (λc=>some (Nat.mul c 1,1)) (List.flatten (List.replicate 1 (cellsOfV (.string (ByteArray.mk #[]))))) [(0,a.2.1)])) λa=>@loopF [3,4,5] (ar2 E a0 a) ft (.slice none 0 0,(.string (ByteArray.mk #[]),(.int .i64 (.ofNat 0),()))) h
theorem atP (t:ak)(rc:RC)(a0:Value)(h:H)(k:Value->H->R):(ax (EX t) KK 20).run rc [a0] h k = p20 (EX t) rc a0 h k:=by kernel_rfl
def asv (E:Env)(a:aa [4])(b:aa [4,3]->H->R)(c:aa [4,3,5])(d:H):R:=binR (binC E .neq 9 false true) a.1 (.string (ByteArray.mk #[])) λe=>@joinR [3] (λf g=>b (.string (ByteArray.mk #[]),(f.1,())) g) λf=>onB e (f (c.2.1,()) d) (@Option.rec (List Value) (λ_=>R) none (λg=>ifB (ble d.1 1000000000) (letH (ag d (.row 9 1 false false 0 (T.ofList unk g))) λh=>cT (bu E h Builtin.append [c.2.1,.slice (some (Addr.mk d.1 0 none)) 1 2] [30,30]) λi j=>f (i,()) j)) (cG (λg=>some (Nat.mul g 1,1)) (List.flatten (List.replicate 1 (cellsOfV (.string (ByteArray.mk #[]))))) [(0,a.1)]))
def ara (E:Env)(a0:Value)(a:aa [3]->H->R):(aa [4,3,5]->H->R)->aa [4,3,5]->H->R:=λb c d=>bindO (bv E d 9 a0) λe=>binR (binC E .leq 3 false false) c.2.2.1 e λf=>@joinR [] (λ_ g=>@joinR [4,3] (λh i=>binR (binC E .add 3 false true) c.2.2.1 (.int .i64 (.ofNat 1)) λj=>b (h.1,(h.2.1,(j,()))) i) λh=>bindO (bv E g 9 a0) λi=>binR (binC E .lss 3 false false) c.2.2.1 i λj=>ae (λl m=>ae (λn o=>ae (λp q=>ae (λr s=>onB j (@joinR [4] (λt u=>asv E t h c u) λt=>t (c.1,()) s) (@joinR [4] (λt u=>asv E t h c u) λt=>onB r (t (c.1,()) s) (binR (binC E .add 3 false true) c.2.2.1 (.int .i64 (.ofNat 1)) λu=>bindO (dd E 9 a0 (some c.2.2.1) (some u) none) λv=>binR (binC E .add 9 false false) c.1 v λw=>h (w,(c.2.1,())) s))) λr=>aB j (r undef q) (binR (binC E .neq 5 false true) p (.int .u8 (.ofNat 32)) λs=>r s q) (r undef q)) λp=>aB j (p undef o) (bindO (dD E 9 l n) λq=>p q o) (p undef o)) λn=>aB j (n undef m) (n c.2.2.1 m) (n undef m)) λl=>aB j (l undef g) (l a0 g) (l undef g)) λg=>onB f (a (c.2.1,()) d) (g () d)
def p21 (E:Env)(rc:RC)(a0:Value)(h:H)(k:Value->H->R):R:=@joinR [3] (λa b=>k a.1 b) λa=>@loopF [4,3,5] (ara E a0 a) ft (.string (ByteArray.mk #[]),(.slice none 0 0,(.int .i64 (.ofNat 0),()))) h
theorem atY (t:ak)(rc:RC)(a0:Value)(h:H)(k:Value->H->R):(ax (EX t) KK 21).run rc [a0] h k = p21 (EX t) rc a0 h k:=by kernel_rfl
def asQ (a0:Value)(a:H)(rc:RC)(E:Env)(k:Value->H->R)(b:aa [2,3,4]):R:=onSl a0 none λc d _=>ifB (ble 2 d) (addOffF c 1 λe=>onPtr e λf=>onRow (hget a f.1) λ_ g _ _ _ h=>ifB (ble (Nat.succ f.2) g) (rc 43 [getF h f.2] a λi j=>onTup i λl=>nthF 0 l λm=>onTup i λn=>nthF 1 n λo=>binR (binC E .neq 3 false true) o (.int .i64 (.ofNat 0)) λp=>@joinR [2,3,4] (λ_ q=>onSl a0 none λr s _=>ifB (ble 3 s) (addOffF r 2 λt=>onPtr t λu=>onRow (hget q u.1) λ_ v _ _ _ w=>ifB (ble (Nat.succ u.2) v) (rc 43 [getF w u.2] q λx y=>onTup x λz=>nthF 0 z λa1=>onTup x λa2=>nthF 1 a2 λa3=>ifB (nT [m,a1,a3]) (k (.tuple ⟨[m,a1,a3]⟩) y)))) λq=>onB p (q (b.1,(b.2.1,(b.2.2.1,()))) j) (ifB (nT [.int .i64 (.ofNat 0),.int .i64 (.ofNat 0),o]) (k (.tuple ⟨[.int .i64 (.ofNat 0),.int .i64 (.ofNat 0),o]⟩) j))))
def p22 (E:Env)(rc:RC)(a0:Value)(h:H)(k:Value->H->R):R:=onSl a0 none λa b _=>ifB (ble 1 b) (onRow (hget h a.1) λ_ c _ _ _ d=>ifB (ble (Nat.succ a.2) c) (binR (binC E .neq 9 false true) (getF d a.2) (.string ⟨⟨[97,114,101,110,97]⟩⟩) λe=>ae (λf g=>ae (λi j=>ae (λl m=>onB e (@joinR [2,3,4] (λn o=>asQ a0 o rc E k n) λn=>onB l (n (.int .i64 (.ofNat 0),(.int .i64 (.ofNat 0),(.int .i64 (.ofNat 0),()))) m) (k (.tuple ⟨[.int .i64 (.ofNat 0),.int .i64 (.ofNat 0),.int .i64 (.ofNat 14)]⟩) m)) (@joinR [2,3,4] (λn o=>asQ a0 o rc E k n) λ_=>k (.tuple ⟨[.int .i64 (.ofNat 0),.int .i64 (.ofNat 0),.int .i64 (.ofNat 14)]⟩) m)) λl=>aB e (binR (binC E .neq 3 false true) i (.int .i64 (.ofNat 3)) λm=>l m j) (l undef j) (l undef j)) λi=>aB e (joinL (λj=>i j g) λj=>onSl f (bindO (bv E g 30 f) j) λ_ l _=>j (.int .i64 (.ofNat l))) (i undef g) (i undef g)) λf=>aB e (f a0 h) (f undef h) (f undef h)))
theorem atJ (t:ak)(rc:RC)(a0:Value)(h:H)(k:Value->H->R):(ax (EX t) KK 22).run rc [a0] h k = p22 (EX t) rc a0 h k:=by kernel_rfl
def asq (a:aa [2,3,4,5])(k:Value->H->R)(b:aa [2,3])(c:H):R:=@joinR [2,3] (λ_ d=>ifB (nT [a.2.2.1,.int .i64 (.ofNat 0)]) (k (.tuple ⟨[a.2.2.1,.int .i64 (.ofNat 0)]⟩) d)) λd=>onB a.2.2.2.1 (d (b.1,(b.2.1,())) c) (k (.tuple ⟨[.int .i64 (.ofNat 0),.int .i64 (.ofNat 3)]⟩) c)
def asV (E:Env)(a:aa [2,3,4,5,6])(a0:Value)(b:aa [2,3,4,5]->H->R)(c:aa [2,3])(d:H):R:=binR (binC E .mul 3 true false) (.int .i64 (.ofNat 10)) a.2.2.1 λe=>bindO (dD E 9 a0 a.2.2.2.2.1) λf=>binR (binC E .sub 5 false true) f (.int .u8 (.ofNat 48)) λg=>joinL (λh=>binR (binC E .add 3 false false) e h λi=>binR (binC E .gtr 3 false true) i (.int .i64 (.ofNat 4294967296)) λj=>@joinR [5,4] (λl m=>b (c.1,(c.2.1,(l.2.1,(l.1,())))) m) λl=>onB j (l (a.2.2.2.1,(i,())) d) (l (.bool true,(.int .i64 (.ofNat 4294967297),())) d)) λh=>onNat g (bindO (aQ E d 5 3 g) h) λi=>@Bool.rec (λ_=>R) (bindO (aQ E d 5 3 g) h) (h (.int .i64 (.ofNat i))) (ble i 9223372036854775807)
def arO (E:Env)(a0:Value)(k:Value->H->R)(a:aa [2,3,4,5]->H->R):(aa [2,3,4,5,6]->H->R)->aa [2,3,4,5,6]->H->R:=λb c d=>bindO (bv E d 9 a0) λe=>binR (binC E .lss 3 false false) c.2.2.2.2.1 e λf=>@joinR [] (λ_ g=>@joinR [2,3,4,5] (λh i=>binR (binC E .add 3 false true) c.2.2.2.2.1 (.int .i64 (.ofNat 1)) λj=>b (h.1,(h.2.1,(h.2.2.1,(h.2.2.2.1,(j,()))))) i) λh=>bindO (dD E 9 a0 c.2.2.2.2.1) λi=>binR (binC E .lss 5 false true) i (.int .u8 (.ofNat 48)) λj=>ae (λl m=>ae (λn o=>ae (λp q=>ae (λr s=>onB j (@joinR [2,3] (λt u=>asV E c a0 h t u) λt=>onB r (t (c.1,(c.2.1,())) s) (k (.tuple ⟨[.int .i64 (.ofNat 0),.int .i64 (.ofNat 14)]⟩) s)) (@joinR [2,3] (λt u=>asV E c a0 h t u) λ_=>k (.tuple ⟨[.int .i64 (.ofNat 0),.int .i64 (.ofNat 14)]⟩) s)) λr=>aB j (binR (binC E .gtr 5 false true) p (.int .u8 (.ofNat 57)) λs=>r s q) (r undef q) (r undef q)) λp=>aB j (bindO (dD E 9 l n) λq=>p q o) (p undef o) (p undef o)) λn=>aB j (n c.2.2.2.2.1 m) (n undef m) (n undef m)) λl=>aB j (l a0 g) (l undef g) (l undef g)) λg=>onB f (a (c.1,(c.2.1,(c.2.2.1,(c.2.2.2.1,())))) d) (g () d)
def p43 (E:Env)(rc:RC)(a0:Value)(h:H)(k:Value->H->R):R:=@joinR [2,3,4,5] (λa b=>bindO (bv E b 9 a0) λc=>binR (binC E .eql 3 false true) c (.int .i64 (.ofNat 0)) λd=>ae (λe f=>ae (λg i=>ae (λj l=>ae (λm n=>ae (λo p=>ae (λq r=>ae (λs t=>ae (λu v=>onB d (@joinR [2,3] (λw x=>asq a k w x) λw=>onB u (w (a.1,(a.2.1,())) v) (k (.tuple ⟨[.int .i64 (.ofNat 0),.int .i64 (.ofNat 14)]⟩) v)) (@joinR [2,3] (λw x=>asq a k w x) λ_=>k (.tuple ⟨[.int .i64 (.ofNat 0),.int .i64 (.ofNat 14)]⟩) v)) λu=>aB d (onB m (u (.bool false) t) (u s t)) (u undef t) (u undef t)) λs=>aB m (s undef r) (binR (binC E .eql 5 false true) q (.int .u8 (.ofNat 48)) λt=>s t r) (s undef r)) λq=>aB m (q undef p) (bindO (dD E 9 o (.int .i64 (.ofNat 0))) λr=>q r p) (q undef p)) λo=>aB m (o undef n) (o a0 n) (o undef n)) λm=>aB d (m j l) (m undef l) (m undef l)) λj=>aB d (binR (binC E .gtr 3 false true) g (.int .i64 (.ofNat 1)) λl=>j l i) (j undef i) (j undef i)) λg=>aB d (bindO (bv E f 9 e) λi=>g i f) (g undef f) (g undef f)) λe=>aB d (e a0 b) (e undef b) (e undef b)) λa=>@loopF [2,3,4,5,6] (arO E a0 k a) ft (.int .i64 (.ofNat 0),(.int .i64 (.ofNat 0),(.int .i64 (.ofNat 0),(.bool false,(.int .i64 (.ofNat 0),()))))) h
theorem asW (t:ak)(rc:RC)(a0:Value)(h:H)(k:Value->H->R):(ax (EX t) KK 43).run rc [a0] h k = p43 (EX t) rc a0 h k:=by kernel_rfl
def aaD (a h b:H)(E:Env)(k:Value->H->R):R:=onRow (hget a h.1) λ_ c _ _ _ d=>ifB (ble 9 c) (onRow (hget a b.1) λe f g i j l=>ifB (notB i) (ifB (beq (lenF (ac d 9 0)) 9) (ifB (ble j 0) (ifB (ble 9 f) (ifB (ble f 1000000000) (ifB (allF (λm=>cell1F m) (ac d 9 0)) (letH (hset a b.1 (.row e f g false j (putF l 0 (ac d 9 0)))) λm=>bindO (aU E m 34 (Addr.mk b.1 0 none)) λn=>ifB (nT [n,.int .i64 (.ofNat 0)]) (k (.tuple ⟨[n,.int .i64 (.ofNat 0)]⟩) m))))))))
def p45 (E:Env)(rc:RC)(a0:Value)(a1:Value)(a2:Value)(h:H)(k:Value->H->R):R:=onCells a0 λa=>ifB (allF (λb=>cell1F b) a) (ifB (ble h.1 1000000000) (letH (ag h (.row 34 (lenF a) false false 0 (T.ofList unk a))) λb=>ifB (ble b.1 1000000000) (letH (ag b (.row 34 9 false false 0 (T.ofList unk [.int .i64 (.ofNat 0),.int .u8 (.ofNat 0),.string (ByteArray.mk #[]),.slice none 0 0,.int .i64 (.ofNat 0),.int .i64 (.ofNat 0),.int .i64 (.ofNat 0),.int .u8 (.ofNat 0),.slice none 0 0]))) λc=>rc 43 [a2] c λd e=>onTup d λf=>nthF 0 f λg=>onTup d λi=>nthF 1 i λj=>@joinR [7] (λ_ l=>onRow (hget l h.1) λ_ m _ _ _ n=>ifB (ble 9 m) (onRow (hget l b.1) λo p q r s t=>ifB (notB r) (ifB (beq (lenF (ac n 9 0)) 9) (ifB (ble s 0) (ifB (ble 9 p) (ifB (ble p 1000000000) (ifB (allF (λu=>cell1F u) (ac n 9 0)) (letH (hset l b.1 (.row o p q false s (putF t 0 (ac n 9 0)))) λu=>bindO (aU E u 34 (Addr.mk b.1 0 none)) λv=>ifB (nT [v,j]) (k (.tuple ⟨[v,j]⟩) u))))))))) λl=>binR (binC E .eql 5 false true) a1 (.int .u8 (.ofNat 76)) λm=>@joinR [7] (λn o=>l (n.1,()) o) λn=>onB m (binR (binC E .eql 5 false true) a1 (.int .u8 (.ofNat 104)) λo=>@joinR [7] (λp q=>n (p.1,()) q) λp=>onB o (binR (binC E .eql 5 false true) a1 (.int .u8 (.ofNat 79)) λq=>@joinR [7] (λr s=>p (r.1,()) s) λr=>onB q (binR (binC E .eql 5 false true) a1 (.int .u8 (.ofNat 78)) λs=>@joinR [7] (λt u=>r (t.1,()) u) λt=>onB s (binR (binC E .eql 5 false true) a1 (.int .u8 (.ofNat 77)) λu=>@joinR [7] (λv w=>t (v.1,()) w) λv=>onB u (binR (binC E .eql 5 false true) a1 (.int .u8 (.ofNat 75)) λw=>@joinR [7] (λx y=>v (x.1,()) y) λx=>onB w (binR (binC E .eql 5 false true) a1 (.int .u8 (.ofNat 107)) λy=>@joinR [7] (λz a3=>x (z.1,()) a3) λ_=>onB y (onRow (hget e h.1) λ_ z _ _ _ a3=>ifB (ble 9 z) (cT (bu E e Builtin.append [.slice none 0 0,getF a3 8] [30,30]) λa4 a5=>rc 68 [a2] a5 λa6 a7=>@Option.rec (List Value) (λ_=>R) none (λa8=>ifB (ble a7.1 1000000000) (letH (ag a7 (.row 9 1 false false 0 (T.ofList unk a8))) λa9=>cT (bu E a9 Builtin.append [a4,.slice (some (Addr.mk a7.1 0 none)) 1 2] [30,30]) λb0 b1=>onCells b0 λb2=>onRow (hget b1 h.1) λb3 b4 b5 b6 b7 b8=>ifB (notB b6) (ifB (beq (lenF b2) 1) (ifB (ble b7 8) (ifB (ble 9 b4) (ifB (ble b4 1000000000) (ifB (allF (λb9=>cell1F b9) b2) (letH (hset b1 h.1 (.row b3 b4 b5 false b7 (putF b8 8 b2))) λb9=>aaD b9 h b E k)))))))) (cG (λa8=>some (Nat.mul a8 1,1)) (List.flatten (List.replicate 1 (cellsOfV (.string (ByteArray.mk #[]))))) [(0,a6)]))) (rc 67 [a2] e λz a3=>bindO (bn E a3 Builtin.max [z,.int .i64 (.ofNat 0)] [3,3]) λa4=>joinL (λa5=>onCells a5 λa6=>onRow (hget a3 h.1) λa7 a8 a9 b0 b1 b2=>ifB (notB b0) (ifB (beq (lenF a6) 1) (ifB (ble b1 7) (ifB (ble 8 a8) (ifB (ble a8 1000000000) (ifB (allF (λb3=>cell1F b3) a6) (letH (hset a3 h.1 (.row a7 a8 a9 false b1 (putF b2 7 a6))) λb3=>binR (binC E .lss 3 false true) z (.int .i64 (.ofNat 0)) λb4=>@joinR [7] (λ_ b5=>aaD b5 h b E k) λb5=>onB b4 (b5 (.int .i64 (.ofNat 0),()) b3) (onRow (hget b3 h.1) λ_ b6 _ _ _ b7=>ifB (ble 9 b6) (onRow (hget b3 b.1) λb8 b9 c0 c1 c2 c3=>ifB (notB c1) (ifB (beq (lenF (ac b7 9 0)) 9) (ifB (ble c2 0) (ifB (ble 9 b9) (ifB (ble b9 1000000000) (ifB (allF (λc4=>cell1F c4) (ac b7 9 0)) (letH (hset b3 b.1 (.row b8 b9 c0 false c2 (putF c3 0 (ac b7 9 0)))) λc4=>bindO (aU E c4 34 (Addr.mk b.1 0 none)) λc5=>ifB (nT [c5,.int .i64 (.ofNat 14)]) (k (.tuple ⟨[c5,.int .i64 (.ofNat 14)]⟩) c4)))))))))))))))) λa5=>onNat a4 (bindO (aQ E a3 3 5 a4) a5) λa6=>@Bool.rec (λ_=>R) (bindO (aQ E a3 3 5 a4) a5) (a5 (.int .u8 (.ofNat a6))) (ble a6 255))) (onCells g λy=>onRow (hget e h.1) λz a3 a4 a5 a6 a7=>ifB (notB a5) (ifB (beq (lenF y) 1) (ifB (ble a6 6) (ifB (ble 7 a3) (ifB (ble a3 1000000000) (ifB (allF (λa8=>cell1F a8) y) (letH (hset e h.1 (.row z a3 a4 false a6 (putF a7 6 y))) λa8=>x (.int .i64 (.ofNat 0),()) a8)))))))) (onCells g λw=>onRow (hget e h.1) λx y z a3 a4 a5=>ifB (notB a3) (ifB (beq (lenF w) 1) (ifB (ble a4 5) (ifB (ble 6 y) (ifB (ble y 1000000000) (ifB (allF (λa6=>cell1F a6) w) (letH (hset e h.1 (.row x y z false a4 (putF a5 5 w))) λa6=>v (.int .i64 (.ofNat 0),()) a6)))))))) (onCells g λu=>onRow (hget e h.1) λv w x y z a3=>ifB (notB y) (ifB (beq (lenF u) 1) (ifB (ble z 4) (ifB (ble 5 w) (ifB (ble w 1000000000) (ifB (allF (λa4=>cell1F a4) u) (letH (hset e h.1 (.row v w x false z (putF a3 4 u))) λa4=>t (.int .i64 (.ofNat 0),()) a4)))))))) (binR (binC E .eql 9 false true) a2 (.string ⟨⟨[110,111,110,101]⟩⟩) λs=>@joinR [7] (λt u=>onCells g λv=>onRow (hget u h.1) λw x y z a3 a4=>ifB (notB z) (ifB (beq (lenF v) 1) (ifB (ble a3 4) (ifB (ble 5 x) (ifB (ble x 1000000000) (ifB (allF (λa5=>cell1F a5) v) (letH (hset u h.1 (.row w x y false a3 (putF a4 4 v))) λa5=>r (t.1,()) a5))))))) λt=>onB s (t (.int .i64 (.ofNat 0),()) e) (onRow (hget e h.1) λu v w x y z=>ifB (notB x) (ifB (beq (lenF [.int .i64 (.negSucc 0)]) 1) (ifB (ble y 4) (ifB (ble 5 v) (ifB (ble v 1000000000) (ifB (allF (λa3=>cell1F a3) [.int .i64 (.negSucc 0)]) (letH (hset e h.1 (.row u v w false y (putF z 4 [.int .i64 (.negSucc 0)]))) λa3=>aaD a3 h b E k))))))))) (onRow (hget e h.1) λ_ q _ _ _ r=>ifB (ble 4 q) (cT (bu E e Builtin.append [.slice none 0 0,getF r 3] [30,30]) λs t=>@Option.rec (List Value) (λ_=>R) none (λu=>ifB (ble t.1 1000000000) (letH (ag t (.row 9 1 false false 0 (T.ofList unk u))) λv=>cT (bu E v Builtin.append [s,.slice (some (Addr.mk t.1 0 none)) 1 2] [30,30]) λw x=>onCells w λy=>onRow (hget x h.1) λz a3 a4 a5 a6 a7=>ifB (notB a5) (ifB (beq (lenF y) 1) (ifB (ble a6 3) (ifB (ble 4 a3) (ifB (ble a3 1000000000) (ifB (allF (λa8=>cell1F a8) y) (letH (hset x h.1 (.row z a3 a4 false a6 (putF a7 3 y))) λa8=>aaD a8 h b E k)))))))) (cG (λu=>some (Nat.mul u 1,1)) (List.flatten (List.replicate 1 (cellsOfV (.string (ByteArray.mk #[]))))) [(0,a2)])))) (onCells a2 λo=>onRow (hget e h.1) λp q r s t u=>ifB (notB s) (ifB (beq (lenF o) 1) (ifB (ble t 2) (ifB (ble 3 q) (ifB (ble q 1000000000) (ifB (allF (λv=>cell1F v) o) (letH (hset e h.1 (.row p q r false t (putF u 2 o))) λv=>bindO (bv E v 9 a2) λw=>binR (binC E .gtr 3 false true) w (.int .i64 (.ofNat 16)) λx=>@joinR [7] (λ_ y=>aaD y h b E k) λy=>onB x (y (.int .i64 (.ofNat 0),()) v) (onRow (hget v h.1) λ_ z _ _ _ a3=>ifB (ble 9 z) (onRow (hget v b.1) λa4 a5 a6 a7 a8 a9=>ifB (notB a7) (ifB (beq (lenF (ac a3 9 0)) 9) (ifB (ble a8 0) (ifB (ble 9 a5) (ifB (ble a5 1000000000) (ifB (allF (λb0=>cell1F b0) (ac a3 9 0)) (letH (hset v b.1 (.row a4 a5 a6 false a8 (putF a9 0 (ac a3 9 0)))) λb0=>bindO (aU E b0 34 (Addr.mk b.1 0 none)) λb1=>ifB (nT [b1,.int .i64 (.ofNat 16)]) (k (.tuple ⟨[b1,.int .i64 (.ofNat 16)]⟩) b0)))))))))))))))))))
theorem atD (t:ak)(rc:RC)(a0:Value)(a1:Value)(a2:Value)(h:H)(k:Value->H->R):(ax (EX t) KK 45).run rc [a0,a1,a2] h k = p45 (EX t) rc a0 a1 a2 h k:=by kernel_rfl
def ar4 (E:Env)(a:Value)(h:H)(a0:Value)(k:Value->H->R)(b:aa [2]->H->R):(aa [2,7]->H->R)->aa [2,7]->H->R:=λc d e=>binR (binC E .lss 3 false false) d.2.1 a λf=>@joinR [] (λ_ g=>@joinR [2] (λi j=>binR (binC E .add 3 false true) d.2.1 (.int .i64 (.ofNat 1)) λl=>c (i.1,(l,())) j) λi=>onNat d.2.1 none λj=>ifB (ble (Nat.succ j) 5) (addOffF (Addr.mk h.1 0 none) (Nat.mul j 1) λl=>onPtr l λm=>onRow (hget g m.1) λ_ n _ _ _ o=>ifB (ble (Nat.succ m.2) n) (binR (binC E .eql 9 false false) (getF o m.2) a0 λp=>@joinR [2] (λq r=>i (q.1,()) r) λq=>onB p (q (d.1,()) g) (k d.2.1 g)))) λg=>onB f (b (d.1,()) e) (g () e)
def p67 (E:Env)(rc:RC)(a0:Value)(h:H)(k:Value->H->R):R:=ifB (ble h.1 1000000000) (letH (ag h (.row 9 5 false false 0 (T.ofList unk (lay (lay (lay (lay (lay (List.flatten (List.replicate 5 (cellsOfV (.string (ByteArray.mk #[]))))) 0 (cellsOfV (.string ⟨⟨[110,111,116,101]⟩⟩))) 1 (cellsOfV (.string ⟨⟨[97,108,108,111,99]⟩⟩))) 2 (cellsOfV (.string ⟨⟨[97,103,97,105,110]⟩⟩))) 3 (cellsOfV (.string ⟨⟨[107,105,108,108]⟩⟩))) 4 (cellsOfV (.string ⟨⟨[100,101,115,116,114,111,121]⟩⟩)))))) λa=>joinL (λb=>@joinR [2] (λ_ c=>k (.int .i64 (.negSucc 0)) c) λc=>@loopF [2,7] (ar4 E b h a0 k c) ft (.int .i64 (.ofNat 0),(.int .i64 (.ofNat 0),())) a) λb=>b (.int .i64 (.ofNat 5)))
theorem atu (t:ak)(rc:RC)(a0:Value)(h:H)(k:Value->H->R):(ax (EX t) KK 67).run rc [a0] h k = p67 (EX t) rc a0 h k:=by kernel_rfl
def p68 (E:Env)(rc:RC)(a0:Value)(h:H)(k:Value->H->R):R:=binR (binC E .eql 9 false true) a0 (.string ⟨⟨[46]⟩⟩) λa=>@joinR [2] (λ_ b=>k a0 b) λb=>onB a (b (.string (ByteArray.mk #[]),()) h) (k (.string (ByteArray.mk #[])) h)
theorem atB (t:ak)(rc:RC)(a0:Value)(h:H)(k:Value->H->R):(ax (EX t) KK 68).run rc [a0] h k = p68 (EX t) rc a0 h k:=by kernel_rfl
def auL (k:Value->H->R)(a:H):R:=ae (λ_ b=>ae (λ_ c=>ae (λ_ d=>ae (λ_ e=>ae (λ_ f=>k (.bool false) f) λf=>f undef e) λe=>e undef d) λd=>d undef c) λc=>c undef b) λb=>b undef a
def aug (k:Value->H->R)(a:H):R:=ae (λ_ b=>ae (λ_ c=>ae (λ_ d=>ae (λ_ e=>ae (λ_ f=>auL k f) λf=>f undef e) λe=>e undef d) λd=>d undef c) λc=>c undef b) λb=>b undef a
def aul (k:Value->H->R)(a:H):R:=ae (λ_ b=>ae (λ_ c=>ae (λ_ d=>ae (λ_ e=>ae (λ_ f=>aug k f) λf=>f undef e) λe=>e undef d) λd=>d undef c) λc=>c undef b) λb=>b undef a
def auy (k:Value->H->R)(a:H):R:=ae (λ_ b=>ae (λ_ c=>ae (λ_ d=>ae (λ_ e=>ae (λ_ f=>aul k f) λf=>f undef e) λe=>e undef d) λd=>d undef c) λc=>c undef b) λb=>b undef a
def auG (k:Value->H->R)(a:H):R:=ae (λ_ b=>ae (λ_ c=>ae (λ_ d=>ae (λ_ e=>ae (λ_ f=>auy k f) λf=>f undef e) λe=>e undef d) λd=>d undef c) λc=>c undef b) λb=>b undef a
def aue (k:Value->H->R)(a:H):R:=ae (λ_ b=>ae (λ_ c=>ae (λ_ d=>ae (λ_ e=>ae (λ_ f=>auG k f) λf=>f undef e) λe=>e undef d) λd=>d undef c) λc=>c undef b) λb=>b undef a
def OF (a:Value)(b:Value->H->R)(c:H)(d:Value):R:=aB a (b undef c) (onPtr d λe=>onRow (hget c e.1) λ_ f _ _ _ g=>ifB (ble (Nat.succ e.2) f) (b (getF g e.2) c)) (b undef c)
def atE (a:Value)(b:Value->H->R)(c:H)(E:Env)(d e:Value):R:=aB a (b undef c) (binR (binC E .eql 5 false false) d e λf=>b f c) (b undef c)
def atd (a:Value)(b:Value->H->R)(c:H)(E:Env)(d e:Value):R:=aB a (b undef c) (binR (binC E .eql 3 false false) d e λf=>b f c) (b undef c)
def p9 (E:Env)(rc:RC)(a0:Value)(a1:Value)(h:H)(k:Value->H->R):R:=onCells a0 λa=>ifB (allF (λb=>cell1F b) a) (ifB (ble h.1 1000000000) (letH (ag h (.row 34 (lenF a) false false 0 (T.ofList unk a))) λb=>onCells a1 λc=>ifB (allF (λd=>cell1F d) c) (ifB (ble b.1 1000000000) (letH (ag b (.row 34 (lenF c) false false 0 (T.ofList unk c))) λd=>onRow (hget d h.1) λ_ e _ _ _ f=>ifB (ble 1 e) (onRow (hget d b.1) λ_ g _ _ _ i=>ifB (ble 1 g) (binR (binC E .eql 3 false false) (getF f 0) (getF i 0) λj=>ae (λl m=>ae (λn o=>ae (λp q=>ae (λr s=>ae (λt u=>onB j (ae (λ_ v=>ae (λ_ w=>ae (λ_ x=>ae (λ_ y=>ae (λ_ z=>aue k z) λz=>z undef y) λy=>y undef x) λx=>x undef w) λw=>w undef v) λv=>v undef u) (ae (λv w=>ae (λx y=>ae (λz a2=>ae (λa3 a4=>ae (λa5 a6=>onB t (aue k a6) (ae (λa7 a8=>ae (λa9 b0=>ae (λb1 b2=>ae (λb3 b4=>ae (λb5 b6=>onB a5 (auG k b6) (ae (λb7 b8=>ae (λb9 c0=>ae (λc1 c2=>ae (λc3 c4=>ae (λc5 c6=>onB b5 (auy k c6) (ae (λc7 c8=>ae (λc9 d0=>ae (λd1 d2=>ae (λd3 d4=>ae (λd5 d6=>onB c5 (aul k d6) (ae (λd7 d8=>ae (λd9 e0=>ae (λe1 e2=>ae (λe3 e4=>ae (λe5 e6=>onB d5 (aug k e6) (ae (λe7 e8=>ae (λe9 f0=>ae (λf1 f2=>ae (λf3 f4=>ae (λf5 f6=>onB e5 (auL k f6) (ae (λf7 f8=>ae (λf9 g0=>ae (λg1 g2=>ae (λg3 g4=>ae (λg5 g6=>onB f5 (k (.bool false) g6) (k g5 g6)) λg5=>aB f5 (g5 undef g4) (rc 24 [f9,g3] g4 g5) (g5 undef g4)) λg3=>OF f5 g3 g2 g1) λg1=>aB f5 (g1 undef g0) (g1 (.pointer (some (Addr.mk b.1 8 none))) g0) (g1 undef g0)) λf9=>OF f5 f9 f8 f7) λf7=>aB f5 (f7 undef f6) (f7 (.pointer (some (Addr.mk h.1 8 none))) f6) (f7 undef f6))) λf5=>aB e5 (f5 undef f4) (rc 24 [e9,f3] f4 f5) (f5 undef f4)) λf3=>OF e5 f3 f2 f1) λf1=>aB e5 (f1 undef f0) (f1 (.pointer (some (Addr.mk b.1 3 none))) f0) (f1 undef f0)) λe9=>OF e5 e9 e8 e7) λe7=>aB e5 (e7 undef e6) (e7 (.pointer (some (Addr.mk h.1 3 none))) e6) (e7 undef e6))) λe5=>atE d5 e5 e4 E d9 e3) λe3=>OF d5 e3 e2 e1) λe1=>aB d5 (e1 undef e0) (e1 (.pointer (some (Addr.mk b.1 7 none))) e0) (e1 undef e0)) λd9=>OF d5 d9 d8 d7) λd7=>aB d5 (d7 undef d6) (d7 (.pointer (some (Addr.mk h.1 7 none))) d6) (d7 undef d6))) λd5=>atd c5 d5 d4 E c9 d3) λd3=>OF c5 d3 d2 d1) λd1=>aB c5 (d1 undef d0) (d1 (.pointer (some (Addr.mk b.1 6 none))) d0) (d1 undef d0)) λc9=>OF c5 c9 c8 c7) λc7=>aB c5 (c7 undef c6) (c7 (.pointer (some (Addr.mk h.1 6 none))) c6) (c7 undef c6))) λc5=>atd b5 c5 c4 E b9 c3) λc3=>OF b5 c3 c2 c1) λc1=>aB b5 (c1 undef c0) (c1 (.pointer (some (Addr.mk b.1 5 none))) c0) (c1 undef c0)) λb9=>OF b5 b9 b8 b7) λb7=>aB b5 (b7 undef b6) (b7 (.pointer (some (Addr.mk h.1 5 none))) b6) (b7 undef b6))) λb5=>atd a5 b5 b4 E a9 b3) λb3=>OF a5 b3 b2 b1) λb1=>aB a5 (b1 undef b0) (b1 (.pointer (some (Addr.mk b.1 4 none))) b0) (b1 undef b0)) λa9=>OF a5 a9 a8 a7) λa7=>aB a5 (a7 undef a6) (a7 (.pointer (some (Addr.mk h.1 4 none))) a6) (a7 undef a6))) λa5=>aB t (a5 undef a4) (binR (binC E .eql 9 false false) x a3 λa6=>a5 a6 a4) (a5 undef a4)) λa3=>OF t a3 a2 z) λz=>aB t (z undef y) (z (.pointer (some (Addr.mk b.1 2 none))) y) (z undef y)) λx=>OF t x w v) λv=>aB t (v undef u) (v (.pointer (some (Addr.mk h.1 2 none))) u) (v undef u))) λt=>atE j t s E n r) λr=>OF j r q p) λp=>aB j (p undef o) (p (.pointer (some (Addr.mk b.1 1 none))) o) (p undef o)) λn=>OF j n m l) λl=>aB j (l undef d) (l (.pointer (some (Addr.mk h.1 1 none))) d) (l undef d)))))))
theorem aus (t:ak)(rc:RC)(a0:Value)(a1:Value)(h:H)(k:Value->H->R):(ax (EX t) KK 9).run rc [a0,a1] h k = p9 (EX t) rc a0 a1 h k:=by kernel_rfl
def arY (E:Env)(a a0 a1:Value)(k:Value->H->R)(b:aa [4]->H->R):(aa [4,13]->H->R)->aa [4,13]->H->R:=λc d e=>binR (binC E .lss 3 false false) d.2.1 a λf=>@joinR [] (λ_ g=>@joinR [4] (λh i=>binR (binC E .add 3 false true) d.2.1 (.int .i64 (.ofNat 1)) λj=>c (h.1,(j,())) i) λh=>ifB (ble g.1 1000000000) (letH (H.mk g.1 g.2) λi=>onNat d.2.1 none λj=>onSl a0 none λl m _=>ifB (ble (Nat.succ j) m) (addOffF l (Nat.mul j 1) λn=>onPtr n λo=>onRow (hget i o.1) λ_ p _ _ _ q=>ifB (ble (Nat.succ o.2) p) (onNat d.2.1 none λr=>onSl a1 none λs t _=>ifB (ble (Nat.succ r) t) (addOffF s (Nat.mul r 1) λu=>onPtr u λv=>onRow (hget i v.1) λ_ w _ _ _ x=>ifB (ble (Nat.succ v.2) w) (binR (binC E .neq 9 false false) (getF q o.2) (getF x v.2) λy=>@joinR [4] (λz a2=>h (z.1,()) a2) λz=>onB y (z (d.1,()) i) (k (.bool false) i))))))) λg=>onB f (b (d.1,()) e) (g () e)
def p24 (E:Env)(rc:RC)(a0:Value)(a1:Value)(h:H)(k:Value->H->R):R:=joinL (λa=>joinL (λb=>binR (binC E .neq 3 false false) a b λc=>@joinR [4] (λd e=>joinL (λf=>@joinR [4] (λ_ g=>k (.bool true) g) λg=>@loopF [4,13] (arY E f a0 a1 k g) ft (d.1,(.int .i64 (.ofNat 0),())) e) λf=>onSl a0 (bindO (bv E e 30 a0) f) λ_ g _=>f (.int .i64 (.ofNat g))) λd=>onB c (d (.bool false,()) h) (k (.bool false) h)) λb=>onSl a1 (bindO (bv E h 30 a1) b) λ_ c _=>b (.int .i64 (.ofNat c))) λa=>onSl a0 (bindO (bv E h 30 a0) a) λ_ b _=>a (.int .i64 (.ofNat b))
theorem atZ (t:ak)(rc:RC)(a0:Value)(a1:Value)(h:H)(k:Value->H->R):(ax (EX t) KK 24).run rc [a0,a1] h k = p24 (EX t) rc a0 a1 h k:=by kernel_rfl
def p10 (E:Env)(rc:RC)(a0:Value)(h:H)(k:Value->H->R):R:=onCells a0 λa=>ifB (allF (λb=>cell1F b) a) (ifB (ble h.1 1000000000) (letH (ag h (.row 32 (lenF a) false false 0 (T.ofList unk a))) λb=>ifB (ble b.1 1000000000) (letH (ag b (.row 34 9 false false 0 (T.ofList unk [.int .i64 (.ofNat 0),.int .u8 (.ofNat 0),.string (ByteArray.mk #[]),.slice none 0 0,.int .i64 (.ofNat 0),.int .i64 (.ofNat 0),.int .i64 (.ofNat 0),.int .u8 (.ofNat 0),.slice none 0 0]))) λc=>onRow (hget c h.1) λ_ d _ _ _ e=>ifB (ble 1 d) (onRow (hget c h.1) λ_ f _ _ _ g=>ifB (ble 2 f) (onRow (hget c h.1) λ_ i _ _ _ j=>ifB (ble 3 i) (onRow (hget c h.1) λ_ l _ _ _ m=>ifB (ble 4 l) (onRow (hget c h.1) λ_ n _ _ _ o=>ifB (ble 5 n) (onRow (hget c h.1) λ_ p _ _ _ q=>ifB (ble 6 p) (onRow (hget c h.1) λ_ r _ _ _ s=>ifB (ble 7 r) (onRow (hget c h.1) λ_ t _ _ _ u=>ifB (ble 8 t) (onRow (hget c h.1) λ_ v _ _ _ w=>ifB (ble 9 v) (bindO (cg E 34 [(0,getF e 0),(1,getF g 1),(2,getF j 2),(3,getF m 3),(4,getF o 4),(5,getF q 5),(6,getF s 6),(7,getF u 7),(8,getF w 8)]) λx=>onCells x λy=>onRow (hget c b.1) λz a1 a2 a3 a4 a5=>ifB (notB a3) (ifB (beq (lenF y) 9) (ifB (ble a4 0) (ifB (ble 9 a1) (ifB (ble a1 1000000000) (ifB (allF (λa6=>cell1F a6) y) (letH (hset c b.1 (.row z a1 a2 false a4 (putF a5 0 y))) λa6=>bindO (aU E a6 34 (Addr.mk b.1 0 none)) λa7=>k a7 a6))))))))))))))))))
theorem atM (t:ak)(rc:RC)(a0:Value)(h:H)(k:Value->H->R):(ax (EX t) KK 10).run rc [a0] h k = p10 (EX t) rc a0 h k:=by kernel_rfl
section
theorem atC {E:Env} {m n:Nat} {cx cy:Bool} {k:Value->R} {ty:TypeId} (hE:E.und ty=some (.int .u8)) (h:n<=m) (h2:m<=255):binR (binC E .sub ty cx cy) (.int .u8 (.ofNat m)) (.int .u8 (.ofNat n)) k=k (.int .u8 (.ofNat (m-n))):=by unfold binR binC;rw[hE];show Bool.rec (motive:=λ_=>R) _ (k (.int .u8 (.ofNat (m-n)))) (fx (ble n m) (ble m 255))=_;rw[Nat.ble_eq_true_of_le h,Nat.ble_eq_true_of_le h2];rfl
def gN (v:Nat):Nat:=if 4294967296<v then 4294967297 else v
def gB (v:Nat):Bool:=decide (4294967296<v)
variable {E : Env} (u : US E) {rc : RC}
include u
theorem atf {w:Bs} {i:Nat} {b:UInt8} (hi:w[i]?=some b) (hl:w.length<=1000000000) (k:Value->H->R) (c:aa [2,3,4,5]->H->R) (LL:aa [2,3,4,5,6]->H->R) (x y:Value) {v:Nat} {h:H}:
  arO E (.string ⟨⟨w⟩⟩) k c LL (x,(y,(.int .i64 (.ofNat (gN v)),(.bool (gB v),(.int .i64 (.ofNat i),()))))) h =
   if fE b then LL (x,(y,(.int .i64 (.ofNat (gN (10*v+(b.toNat-48)))),(.bool (gB (10*v+(b.toNat-48))),(.int .i64 (.ofNat (i+1)),()))))) h
   else k (.tuple ⟨[.int .i64 (.ofNat 0),.int .i64 (.ofNat 14)]⟩) h:=by
 have u3:=u.u3;have u5:=u.u5;have hlt:=(List.getElem?_eq_some_iff.1 hi).1;have hb:=b.toNat_lt;have hidx:=we u (kd:=.i64) hi;have hadd:∀(K:Value->R),binR (binC E .add 3 false true) (.int .i64 (.ofNat i)) (.int .i64 (.ofNat 1)) K=K (.int .i64 (.ofNat (i+1))):=λK=>dl u3 (by omega);have c1:∀K:Value->R,binR (binC E .lss 5 false true) (gd b) (.int .u8 (.ofNat 48)) K=K (.bool (ble (b.toNat+1) 48)):=λK=>by unfold gd;rw[Qn u5]
 have c2:∀K:Value->R,binR (binC E .gtr 5 false true) (gd b) (.int .u8 (.ofNat 57)) K=K (.bool (ble (57+1) b.toNat)):=λK=>by unfold gd;rw[uk u5]
 have hbi:∀K:Value->R,bindO (dD E 9 (.string ⟨⟨w⟩⟩) (.int .i64 (.ofNat i))) K=K (gd b):=λK=>by rw[hidx];rfl
 unfold arO;rw[nS u,bw];dsimp only;rw[km u3 hlt,ai];simp only[aK];rw[ai,hbi,c1];by_cases q1:b.toNat<48
 ·have hd:fE b=false:=by unfold fE;rw[gG (show b.toNat<48 by omega)];rfl
  rw[be (show b.toNat+1<=48 by omega)];simp only[↓bz,↓ai,↓eC,↓aK];rw[hd];rfl
 ·rw[gG (show 48<b.toNat+1 by omega)];simp only[↓bz,↓ai,↓dO,↓hbi,↓c2];by_cases q2:57<b.toNat
  ·have hd:fE b=false:=by unfold fE;rw[gG (show 57<b.toNat by omega),Bool.and_false]
   simp only[be (show 57+1<=b.toNat by omega),↓bz,↓ai,↓dO,↓aK,↓aM];rw[hd];rfl
  ·have hd:fE b=true:=by unfold fE;rw[be (show 48<=b.toNat by omega),be (show b.toNat<=57 by omega)];rfl
   simp only[gG (show b.toNat<57+1 by omega),↓bz,↓ai,↓dO,↓aK,↓aM];rw[hd,if_pos rfl];unfold asV;have hn:gN v<=4294967297:=by unfold gN;split <;> omega
   have d1:∀K:Value->R,binR (binC E .mul 3 true false) (.int .i64 (.ofNat 10)) (.int .i64 (.ofNat (gN v))) K=K (.int .i64 (.ofNat (10*gN v))):=λK=>vR u3 (by omega);have d2:∀K:Value->R,binR (binC E .sub 5 false true) (gd b) (.int .u8 (.ofNat 48)) K=K (.int .u8 (.ofNat (b.toNat-48))):=λK=>atC u5 (by omega) (by omega);have d3:∀K:Value->R,binR (binC E .add 3 false false) (.int .i64 (.ofNat (10*gN v))) (.int .i64 (.ofNat (b.toNat-48))) K=K (.int .i64 (.ofNat (10*gN v+(b.toNat-48)))):=λK=>dl u3 (by omega);have d4:∀(x:Value->R) (K:Value->R),onNat (.int .u8 (.ofNat (b.toNat-48))) (bindO (aQ E h 5 3 (.int .u8 (.ofNat (b.toNat-48)))) K) (λi=>@Bool.rec (λ_=>R) (bindO (aQ E h 5 3 (.int .u8 (.ofNat (b.toNat-48)))) K) (K (.int .i64 (.ofNat i))) (ble i 9223372036854775807))=K (.int .i64 (.ofNat (b.toNat-48))):=λx K=>by show @Bool.rec (λ_=>R) _ _ (ble (b.toNat-48) 9223372036854775807)=_;rw[be (by omega)]
   dsimp only;rw[d1,hbi,d2];rw[cJ];dsimp only;rw[d4 (λ_=>none),d3];by_cases q3:4294967296<10*gN v+(b.toNat-48)
   ·rw[mB u3 q3];have h4:4294967296<10*v+(b.toNat-48):=by unfold gN at q3;split at q3 <;> omega
    simp only[↓ai,↓aK,↓hadd];rw[show gN (10*v+(b.toNat-48))=4294967297 from if_pos h4,show gB (10*v+(b.toNat-48))=true from decide_eq_true h4]
   ·rw[lG u3 (by omega)];have h5:gN v=v/\¬ 4294967296<v:=by
     unfold gN at q3 ⊢;by_cases q:4294967296<v
     ·rw[if_pos q] at q3;omega
     ·rw[if_neg q];exact⟨rfl,q⟩
    have h4:¬ 4294967296<10*v+(b.toNat-48):=by rw[h5.1] at q3;omega
    simp only[↓ai,↓aM,↓hadd];rw[show gN (10*v+(b.toNat-48))=10*v+(b.toNat-48) from if_neg h4,show gB (10*v+(b.toNat-48))=false from decide_eq_false h4,show gB v=false from decide_eq_false h5.2,h5.1]
theorem aty {w:Bs} (hl:w.length<=1000000000) (k:Value->H->R) (c:aa [2,3,4,5]->H->R) (x y:Value) {h:H}:∀(d i N v:Nat),i+d=w.length->d<N ->
  loopF (ks:=[2,3,4,5,6]) (arO E (.string ⟨⟨w⟩⟩) k c) N (x,(y,(.int .i64 (.ofNat (gN v)),(.bool (gB v),(.int .i64 (.ofNat i),()))))) h =
   if (w.drop i).all fE=true then c (x,(y,(.int .i64 (.ofNat (gN (gb v (w.drop i)))),(.bool (gB (gb v (w.drop i))),())))) h else k (.tuple ⟨[.int .i64 (.ofNat 0),.int .i64 (.ofNat 14)]⟩) h:=by
 intro d
 induction d with
 | zero=>
  intro i N v hi hN;obtain⟨N,rfl⟩:∃M,N=M+1:=⟨N-1,by omega⟩;obtain rfl:i=w.length:=by omega
  rw[ce];unfold arO;rw[nS u,bw];dsimp only;rw[iu u.u3 (Nat.le_refl _),ai,List.drop_length];rfl
 | succ d ih=>
  intro i N v hi hN;obtain⟨N,rfl⟩:∃M,N=M+1:=⟨N-1,by omega⟩;have hlt:i<w.length:=by omega
  have hget:w[i]?=some (w[i]'hlt):=List.getElem?_eq_getElem _;rw[ce,List.drop_eq_getElem_cons hlt,List.all_cons];refine (atf u hget hl k c _ x y).trans ?_;by_cases q:fE (w[i]'hlt)=true
  ·refine (if_pos q).trans ((ih (i+1) N _ (by omega) (by omega)).trans ?_);rw[q,Bool.true_and];rfl
  ·have qf:fE (w[i]'hlt)=false:=by
    cases e:fE (w[i]'hlt) with
    | false=>rfl
    | true=>exact absurd e q
   rw[if_neg q,qf,Bool.false_and,if_neg Bool.false_ne_true]
theorem ato {w:Bs} (hl:w.length<=100000) {h:H} (k:Value->H->R):p43 E rc (.string ⟨⟨w⟩⟩) h k=k (.tuple ⟨[.int .i64 (.ofNat (cC w).1),.int .i64 (.ofNat (cC w).2)]⟩) h:=by
 have u3:=u.u3;have u5:=u.u5;unfold p43;rw[ai];have hloop:=aty (E:=E) u (w:=w) (by omega) k;refine ((hloop _ _ _ w.length 0 ft 0 (by omega) (by unfold ft;omega)).trans ?_);rw[List.drop_zero];by_cases hd:w.all fE=true
 ·rw[if_pos hd];dsimp only;rw[nS u,bw];have hlen:∀K,bindO (bv E h 9 (.string ⟨⟨w⟩⟩)) K=K (.int .i64 (.ofNat w.length)):=λK=>by rw[nS u];rfl
  cases w with
  | nil=> rw[show (([]:Bs).length)=0 from rfl,sq u3 rfl];simp only[↓bz,↓ai,↓eC,↓aK];rfl
  | cons b w=>
   have hfin:∀(x:aa [2,3]),asq (.int .i64 (.ofNat 0),(.int .i64 (.ofNat 0),(.int .i64 (.ofNat (gN (gb 0 (b :: w)))),(.bool (gB (gb 0 (b :: w))),())))) k x h =
     if 4294967296<gb 0 (b :: w) then k (.tuple ⟨[.int .i64 (.ofNat 0),.int .i64 (.ofNat 3)]⟩) h else k (.tuple ⟨[.int .i64 (.ofNat (gb 0 (b :: w))),.int .i64 (.ofNat 0)]⟩) h:=by
    intro x;unfold asq;rw[ai];dsimp only;by_cases q:4294967296<gb 0 (b :: w)
    ·rw[show gB (gb 0 (b :: w))=true from decide_eq_true q,aK,if_pos q]
    ·rw[show gB (gb 0 (b :: w))=false from decide_eq_false q,aM,if_neg q,show gN (gb 0 (b :: w))=gb 0 (b :: w) from if_neg q];rfl
   rw[oh u3 (by simp)];by_cases q1:1<(b :: w).length
   ·have hg:∀K:Value->R,binR (binC E .gtr 3 false true) (.int .i64 (.ofNat (b :: w).length)) (.int .i64 (.ofNat 1)) K=K (.bool true):=λK=>mB u3 q1;have hx:∀K:Value->R,bindO (dD E 9 (.string ⟨⟨b :: w⟩⟩) (.int .i64 (.ofNat 0))) K=K (gd b):=λK=>by rw[we u (kd:=.i64) (s:=b :: w) (j:=0) (b:=b) rfl];rfl
    have he:∀K:Value->R,binR (binC E .eql 5 false true) (gd b) (.int .u8 (.ofNat 48)) K=K (.bool (beq b.toNat 48)):=λK=>by unfold gd;rw[gv u5]
    by_cases q2:b.toNat=48
    ·simp only[↓bz,↓ai,↓dO,↓aM,↓hlen,↓hg,↓eC,↓aK,↓hx,↓he,lI q2];have hb:b=48:=UInt8.toNat_inj.1 q2;rw[show cC (b :: w)=(0,14) from if_pos (.inr (.inl ⟨q1,by rw[hb];rfl⟩))]
    ·simp only[↓bz,↓ai,↓dO,↓aM,↓hlen,↓hg,↓eC,↓aK,↓hx,↓he,fT q2,↓hfin];have hnb:¬ ((b :: w)=[] \/ (1<(b :: w).length/\(b :: w)[0]?=some 48) \/ (b :: w).all fE=false):=by
      rintro (e | ⟨_,e⟩ | e)
      ·exact nomatch e
      ·rw[List.getElem?_cons_zero] at e;exact q2 (by rw[Option.some.inj e];rfl)
      ·rw[hd] at e;exact nomatch e
     unfold cC;rw[if_neg hnb];split <;> rfl
   ·have hg:∀K:Value->R,binR (binC E .gtr 3 false true) (.int .i64 (.ofNat (b :: w).length)) (.int .i64 (.ofNat 1)) K=K (.bool false):=λK=>lG u3 (by omega);simp only[↓bz,↓ai,↓dO,↓aM,↓hlen,↓hg,↓hfin];have hnb:¬ ((b :: w)=[] \/ (1<(b :: w).length/\(b :: w)[0]?=some 48) \/ (b :: w).all fE=false):=by
     rintro (e | ⟨e,_⟩ | e)
     ·exact nomatch e
     ·exact q1 e
     ·rw[hd] at e;exact nomatch e
    unfold cC;rw[if_neg hnb];split <;> rfl
 ·rw[if_neg hd];have hf:w.all fE=false:=by simpa using hd
  rw[show cC w=(0,14) from if_pos (.inr (.inr hf))]
end
section
def rS (w : Bs):Bs:= if w = str "." then [] else w
variable {E : Env} (u : US E) {rc : RC}
include u
theorem auW {w:Bs} {h:H} (k:Value->H->R):p68 E rc (.string ⟨⟨w⟩⟩) h k=k (.string ⟨⟨rS w⟩⟩) h:=by
 unfold p68 rS;rw[Aj u,ai];by_cases q:w=[46]
 ·subst q;rfl
 ·rw[show (w==[46]) = false from beq_eq_false_iff_ne.2 q, aM, if_neg (show ¬ w = str "." from q)]
theorem adP {w:Bs} {h:H} (k:Value->H->R):p66 E rc (.string ⟨⟨w⟩⟩) h k=k (.string ⟨⟨rS w⟩⟩) h:=by
 unfold p66 rS;rw[Aj u,ai];by_cases q:w=[46]
 ·subst q;rfl
 ·rw[show (w==[46]) = false from beq_eq_false_iff_ne.2 q, aM, if_neg (show ¬ w = str "." from q)]
end
section
variable {E : Env} (u : US E) {rc : RC}
include u
theorem att {w:Bs} {h h1:H} {cells:T Value} (hq:hget h1 h.next=.row 9 5 false false 0 cells) (hc:∀i,(hi:i<ch.length)->getF cells i=.string ⟨⟨ch[i]⟩⟩) (k:Value->H->R) (k':aa [2]->H->R):
  ∀(d i N:Nat) (x:Value),i+d=ch.length->d<N ->
   loopF (ks:=[2,7]) (ar4 E (.int .i64 (.ofNat 5)) h (.string ⟨⟨w⟩⟩) k k') N (x,(.int .i64 (.ofNat i),())) h1=if jq w (ch.drop i)<d then k (.int .i64 (.ofNat (i+jq w (ch.drop i)))) h1 else k' (x,()) h1:=by
 have u3:=u.u3;have h5:ch.length=5:=rfl;intro d
 induction d with
 | zero=> intro i N x hi hN;obtain⟨N,rfl⟩:∃M,N=M+1:=⟨N-1,by omega⟩;rw[ce];unfold ar4;simp (disch:=omega) only[↓iu u3,↓ai,↓aM];rw[if_neg (Nat.not_lt_zero _)]
 | succ d ih=>
  intro i N x hi hN;obtain⟨N,rfl⟩:∃M,N=M+1:=⟨N-1,by omega⟩;have hlt:i<ch.length:=by omega
  have hqr:∀k,onRow (hget h1 h.1) k=k 9 5 false false 0 cells:=λk=>by rw[show h.1=h.next from rfl,hq];rfl
  have hget:=hc i hlt;have key:=ih (i+1) N x (by omega) (by omega);rw[ce];generalize loopF (ks:=[2,7]) (ar4 E (.int .i64 (.ofNat 5)) h (.string ⟨⟨w⟩⟩) k k') N=L at key ⊢;unfold ar4;simp (disch:=first | omega | (simp only[Nat.add_eq,Nat.mul_eq,Nat.succ_eq_add_one];omega)) only[↓km u3,↓ai,↓aK,↓cn,↓au,↓co,↓aG,↓hqr];rw[show 0+i.mul 1=i from (Nat.zero_add _).trans (Nat.mul_one i),hget,Aj u];have hd:ch.drop i=ch[i] :: ch.drop (i+1):=List.drop_eq_getElem_cons hlt;rw[hd];unfold jq;by_cases q:ch[i]=w
  ·rw[show (ch[i]==w)=true by rw[q];exact beq_self_eq_true _,if_pos q,if_pos (by omega)];rfl
  ·rw[show (ch[i]==w)=false from beq_eq_false_iff_ne.2 q,if_neg q];simp (disch:=first | omega | (simp only[Nat.add_eq,Nat.mul_eq,Nat.succ_eq_add_one];omega)) only[↓aM,↓dl u3];rw[key];by_cases q2:jq w (ch.drop (i+1))<d
   ·rw[if_pos q2,if_pos (by omega)];have:i+1+jq w (ch.drop (i+1))=i+(jq w (ch.drop (i+1))+1):=by omega
    rw[this]
   ·rw[if_neg q2,if_neg (by omega)]
theorem aup {w:Bs} {h:H} (hn:h.next<=900000000) (k:Value->H->R) (X:R) (e:p67 E rc (.string ⟨⟨w⟩⟩) h k=X):
  ∃h',X=k (if jq w ch<5 then .int .i64 (.ofNat (jq w ch)) else .int .i64 (.negSucc 0)) h'/\h'.next=h.next+1/\∀id,id<h.next->hget h' id=hget h id:=by
 have u3:=u.u3;unfold p67 at e;rw[au (by omega),aJ,cJ] at e;dsimp only at e;rw[ai] at e;obtain⟨h1,hh1⟩:∃h1,ag h (.row 9 5 false false 0 (T.ofList unk (ch.map λs=>Value.string ⟨⟨s⟩⟩)))=h1:=⟨_,rfl⟩;have hrow:(ag h (.row 9 5 false false 0 (T.ofList unk (lay (lay (lay (lay (lay (List.flatten (List.replicate 5 (cellsOfV (.string (ByteArray.mk #[]))))) 0 (cellsOfV (.string ⟨⟨[110,111,116,101]⟩⟩))) 1 (cellsOfV (.string ⟨⟨[97,108,108,111,99]⟩⟩))) 2 (cellsOfV (.string ⟨⟨[97,103,97,105,110]⟩⟩))) 3 (cellsOfV (.string ⟨⟨[107,105,108,108]⟩⟩))) 4 (cellsOfV (.string ⟨⟨[100,101,115,116,114,111,121]⟩⟩))))))=h1:=by rw[<-hh1];rfl
 rw[hrow] at e;have hq:hget h1 h.next=.row 9 5 false false 0 (T.ofList unk (ch.map λs=>Value.string ⟨⟨s⟩⟩)):=by rw[<-hh1];exact aD _ _ (by omega)
 have hc:∀i,(hi:i<ch.length)->getF (T.ofList unk (ch.map λs=>Value.string ⟨⟨s⟩⟩)) i=.string ⟨⟨ch[i]⟩⟩:=by
  intro i hi;have hi':i<5:=hi;rw[cL,T.get_ofList]
  match i,hi' with
  | 0,_=>rfl
  | 1,_=>rfl
  | 2,_=>rfl
  | 3,_=>rfl
  | 4,_=>rfl
 refine⟨h1,?_,by rw[<-hh1];rfl,λid hid=>by rw[<-hh1];exact bp _ _ (by omega) hid⟩;rw[<-e,att u hq hc k _ 5 0 ft _ rfl (by unfold ft;omega),List.drop_zero,Nat.zero_add];split <;> rfl
end
section
def aF (s:Bs):Value:=.string ⟨⟨s⟩⟩
def SO (h:H) (v:Value) (l:List Bs):Prop:=OL 9 1 h v l.length (l.map aF)
def No (acc:Bs):Bs->List Bs
 | []=>[acc]
 | b :: s=>if b=10 then acc :: No [] s else No (acc ++ [b]) s
theorem ari:∀(s acc:Bs),No acc s=match aR s with | []=>[acc] | l :: r=>(acc++l) :: r
 | [],acc=>by simp[No,aR]
 | b :: s,acc=>by
  unfold No aR;have ih:=ari s;have hne:=xG s;by_cases hb:b=10
  ·rw[if_pos hb,if_pos hb,ih];cases h:aR s with
   | nil=>exact absurd h hne
   | cons l r=>simp
  ·rw[if_neg hb,if_neg hb,ih];cases h:aR s with
   | nil=>exact absurd h hne
   | cons l r=>simp[yX]
theorem ar9 (s:Bs):No [] s=aR s:=by
 rw[ari];have hne:=xG s;cases h:aR s with
 | nil=>exact absurd h hne
 | cons l r=>rfl
theorem rp {E:Env} {i:TypeInfo} (T1:Ad E 30 9 1 i [.string ⟨⟨[]⟩⟩]) {h:H} {v:Value} {l:List Bs} (o:SO h v l) (hn:h.next+2<=1000000000) (hl:l.length<=9000) (s:Bs):
  ∃v' h',bu E (ag h (.row 9 1 false false 0 (T.ofList unk [aF s]))) .append [v,.slice (some ⟨h.next,0,none⟩) 1 2] [30,30]=some (v',h')/\SO h' v' (l ++ [s])/\h'.next=h.next+2 /\
   dn v'=some (h.next+1)/\∀id,id<h.next->dn v≠some id->hget h' id=hget h id:=by
 obtain⟨v',h',e,o',n,b,f⟩:=wH T1 o (xs:=[aF s]) rfl rfl hn hl;refine⟨v',h',e,?_,n,b,f⟩;unfold SO;rw[List.length_append,List.map_append];exact o'
variable {E : Env} (u : US E) {i30 : TypeInfo} (T1 : Ad E 30 9 1 i30 [.string ⟨⟨[]⟩⟩]) {rc : RC}
include u T1
theorem atx {w:Bs} (hw:w.length<=8000) (a:aa [3,4]->H->R) (X:R):∀(d i N:Nat) (h:H) (v:Value) (l:List Bs) (acc:Bs),i+d=w.length->d<N->SO h v l->h.next+2*d<=900000000->l.length<=i->acc.length<=i ->
  loopF (ks:=[3,4,5]) (ar2 E (.string ⟨⟨w⟩⟩) a) N (v,(aF acc,(.int .i64 (.ofNat i),()))) h=X ->
  ∃h' v' l' acc',X=a (v',(aF acc',())) h'/\SO h' v' l'/\l' ++ [acc']=l++No acc (w.drop i)/\l'.length<=w.length/\h'.next<=h.next+2*d/\h.next<=h'.next/\(∀id,id<h.next->dn v≠some id->hget h' id=hget h id)/\(∀b,dn v'=some b->dn v=some b \/ h.next<=b):=by
 have u3:=u.u3;have u5:=u.u5;intro d
 induction d with
 | zero=>
  intro i N h v l acc hi hN o hn hl ha e;obtain⟨N,rfl⟩:∃M,N=M+1:=⟨N-1,by omega⟩;obtain rfl:i=w.length:=by omega
  rw[ce] at e;unfold ar2 at e;rw[nS u,bw] at e;dsimp only at e;rw[iu u3 (Nat.le_refl _),ai] at e;exact⟨h,v,l,acc,e.symm,o,by rw[List.drop_length];rfl,hl,by omega,Nat.le_refl _,λ_ _ _=>rfl,λb hb=>.inl hb⟩
 | succ d ih=>
  intro i N h v l acc hi hN o hn hl ha e;obtain⟨N,rfl⟩:∃M,N=M+1:=⟨N-1,by omega⟩;have hlt:i<w.length:=by omega
  have hget:w[i]?=some (w[i]'hlt):=List.getElem?_eq_getElem _;generalize hb:w[i]'hlt=b at hget;have hidx:=we u (kd:=.i64) hget;rw[ce] at e;generalize hL:loopF (ks:=[3,4,5]) (ar2 E (.string ⟨⟨w⟩⟩) a) N=L at e;unfold ar2 at e;rw[nS u,bw] at e;dsimp only at e;rw[km u3 hlt,ai,aK] at e;dsimp only at e;rw[ai,hidx,bw] at e;unfold gd at e;rw[gv u5] at e;have hd:w.drop i=b :: w.drop (i+1):=by rw[List.drop_eq_getElem_cons hlt,hb]
  by_cases q:b.toNat=10
  ·have hb10:b=10:=UInt8.toNat_inj.1 q;obtain⟨v',h',e1,o1,n1,b1,f1⟩:=rp T1 o (by omega) (by omega) acc;rw[lI q] at e;have hbp:∀K:Value->H->R,cT (some (v',h')) K=K v' h':=λ_=>rfl;have hf:cG (λm=>some (Nat.mul m 1,1)) (List.flatten (List.replicate 1 (cellsOfV (.string (ByteArray.mk #[]))))) [(0,aF acc)]=some [aF acc]:=rfl;simp only[↓ai,↓aK,↓hf] at e;rw[au (by omega),aJ] at e;have e1':bu E (ag h (.row 9 1 false false 0 (T.ofList unk [aF acc]))) .append [v,.slice (some (Addr.mk h.1 0 none)) 1 2] [30,30]=some (v',h'):=e1;rw[e1',hbp,dl u3 (by omega),<-hL] at e;obtain⟨h2,v2,l2,acc2,r1,r2,r3,r4,r5,r6,r7,r8⟩:=ih (i+1) N h' v' (l ++ [acc]) [] (by omega) (by omega) o1 (by omega) (by simp;omega) (by simp) e;refine⟨h2,v2,l2,acc2,r1,r2,?_,r4,by omega,by omega,λid hid hne=>?_,λb hb=>?_⟩
   ·rw[r3,hd,No,if_pos hb10];simp
   ·rw[r7 id (by omega) (by rw[b1];intro hh;cases hh;omega),f1 id hid hne]
   ·rcases r8 b hb with r | r
    ·rw[b1] at r;cases r;exact .inr (by omega)
    ·exact .inr (by omega)
  ·rw[fT q] at e;have i3:=auu u (kd:=.i64) (kd':=.i64) hget;simp only[aK,aM,ai] at e;rw[dl u3 (by omega)] at e;rw[i3,bw] at e;unfold aF at e;rw[am8 u (by simp;omega)] at e;rw[dl u3 (by omega),<-hL] at e;obtain⟨h',v',l',acc',r1,r2,r3,r4,r5,r6,r7,r8⟩:=ih (i+1) N h v l (acc ++ [b]) (by omega) (by omega) o (by omega) (by omega) (by simp;omega) e;refine⟨h',v',l',acc',r1,r2,?_,r4,by omega,r6,r7,r8⟩;rw[r3,hd,No,if_neg (λhh=>q (by rw[hh];rfl))]
theorem auP {w:Bs} (hw:w.length<=8000) {h:H} (hn:h.next<=800000000) (k:Value->H->R) (X:R) (e:p20 E rc (.string ⟨⟨w⟩⟩) h k=X):
  ∃h' v,X=k v h'/\SO h' v (aR w)/\h'.next<=h.next+16002/\h.next<=h'.next/\(∀id,id<h.next->hget h' id=hget h id)/\(∀b,dn v=some b->h.next<=b):=by
 unfold p20 at e;rw[ai] at e;obtain⟨h1,v1,l1,a1,r1,r2,r3,r4,r5,r6,r7,r8⟩:=atx u T1 hw _ X w.length 0 ft h (.slice none 0 0) [] [] (by omega) (by unfold ft;omega) .nil (by omega) (Nat.le_refl _) (Nat.le_refl _) e;rw[List.drop_zero,List.nil_append,ar9] at r3;obtain⟨v',h',e1,o1,n1,b1,f1⟩:=rp T1 r2 (by omega) (by omega) a1;have hbp:∀K:Value->H->R,cT (some (v',h')) K=K v' h':=λ_=>rfl;have hf:cG (λm=>some (Nat.mul m 1,1)) (List.flatten (List.replicate 1 (cellsOfV (.string (ByteArray.mk #[]))))) [(0,aF a1)]=some [aF a1]:=rfl;replace r1:=r1.symm;simp only[hf] at r1;rw[au (by omega),aJ] at r1;have e1':bu E (ag h1 (.row 9 1 false false 0 (T.ofList unk [aF a1]))) .append [v1,.slice (some (Addr.mk h1.1 0 none)) 1 2] [30,30]=some (v',h'):=e1;rw[e1',hbp] at r1;rw[r3] at o1;refine⟨h',v',r1.symm,o1,by omega,by omega,λid hid=>?_,λb hb=>by rw[b1] at hb;cases hb;omega⟩;have hne:dn v1≠some id:=λhh=>by
  rcases r8 id hh with r | r
  ·exact nomatch r
  ·omega
 rw[f1 id (by omega) hne,r7 id hid (by simp[dn])]
end
section
variable {E : Env} (u : US E) {i30 : TypeInfo} (T1 : Ad E 30 9 1 i30 [.string ⟨⟨[]⟩⟩]) {rc : RC}
include u T1
def fl (acc:Bs):List Bs:=if acc=[] then [] else [acc]
theorem ass {h:H} {v:Value} {l:List Bs} {acc:Bs} (o:SO h v l) (hn:h.next+2<=900000000) (hl:l.length<=9000) (b:aa [4,3]->H->R) (z y:Value) (X:R) (e:asv E (aF acc,()) b (z,(v,(y,()))) h=X):
  ∃h' v',X=b (aF [],(v',())) h'/\SO h' v' (l++fl acc)/\h'.next<=h.next+2/\h.next<=h'.next/\(∀id,id<h.next->dn v≠some id->hget h' id=hget h id)/\(∀b,dn v'=some b->dn v=some b \/ h.next<=b):=by
 unfold asv at e;dsimp only at e;rw[show (aF acc)=Value.string ⟨⟨acc⟩⟩ from rfl,show (ByteArray.mk #[])=(⟨⟨[]⟩⟩:ByteArray) from rfl,ar0 u,ai] at e;by_cases q:acc=[]
 ·rw[show (!(acc==[]))=false by rw[q];rfl,aM] at e;exact⟨h,v,e.symm,by rw[fl,if_pos q,List.append_nil];exact o,by omega,Nat.le_refl _,λ_ _ _=>rfl,λb hb=>.inl hb⟩
 ·rw[show (!(acc==[]))=true by rw[beq_eq_false_iff_ne.2 q];rfl,aK] at e;obtain⟨v',h',e1,o1,n1,b1,f1⟩:=rp T1 o (by omega) hl acc;have hbp:∀K:Value->H->R,cT (some (v',h')) K=K v' h':=λ_=>rfl;have hf:cG (λm=>some (Nat.mul m 1,1)) (List.flatten (List.replicate 1 (cellsOfV (.string (⟨⟨[]⟩⟩:ByteArray))))) [(0,.string ⟨⟨acc⟩⟩)]=some [aF acc]:=rfl;simp only[hf] at e;rw[au (by omega),aJ] at e;have e1':bu E (ag h (.row 9 1 false false 0 (T.ofList unk [aF acc]))) .append [v,.slice (some (Addr.mk h.1 0 none)) 1 2] [30,30]=some (v',h'):=e1;rw[e1',hbp] at e;exact⟨h',v',e.symm,by rw[fl,if_neg q];exact o1,by omega,by omega,f1,λb hb=>by rw[b1] at hb;cases hb;exact .inr (by omega)⟩
omit u T1 in
theorem arp (acc:Bs) (s:Bs):cK acc (32 :: s)=fl acc++cK [] s:=by rw[cK,if_pos rfl];unfold fl;split <;> rfl
omit u T1 in
theorem asc (acc:Bs):cK acc []=fl acc:=rfl
theorem atN {w:Bs} (hw:w.length<=8000) (a:aa [3]->H->R) (X:R):∀(d i N:Nat) (h:H) (v:Value) (l:List Bs) (acc:Bs),i+d=w.length->d+1<N->SO h v l->h.next+2*d+2<=900000000->l.length<=i->acc.length<=i ->
  loopF (ks:=[4,3,5]) (ara E (.string ⟨⟨w⟩⟩) a) N (aF acc,(v,(.int .i64 (.ofNat i),()))) h=X ->
  ∃h' v',X=a (v',()) h'/\SO h' v' (l++cK acc (w.drop i))/\h'.next<=h.next+2*d+2/\h.next<=h'.next/\(∀id,id<h.next->dn v≠some id->hget h' id=hget h id)/\(∀b,dn v'=some b->dn v=some b \/ h.next<=b):=by
 have u3:=u.u3;have u5:=u.u5;have hlen:∀(h:H) K,bindO (bv E h 9 (.string ⟨⟨w⟩⟩)) K=K (.int .i64 (.ofNat w.length)):=λh K=>by rw[nS u];rfl
 intro d
 induction d with
 | zero=>
  intro i N h v l acc hi hN o hn hl ha e;obtain⟨N,rfl⟩:∃M,N=M+1+1:=⟨N-2,by omega⟩;obtain rfl:i=w.length:=by omega
  rw[ce] at e;generalize hL:loopF (ks:=[4,3,5]) (ara E (.string ⟨⟨w⟩⟩) a) (N+1)=L at e;unfold ara at e;rw[hlen] at e;dsimp only at e;rw[wV u3,be (Nat.le_refl _),ai,aK] at e;dsimp only at e;rw[ai,hlen,iu u3 (Nat.le_refl _)] at e;simp only[↓bz,↓ai,↓dO,↓aM] at e;obtain⟨h1,v1,r1,r2,r3,r4,r5,r6⟩:=ass u T1 o (by omega) (by omega) _ _ _ X e;replace r1:=r1.symm;dsimp only at r1;rw[dl u3 (by omega),<-hL,ce] at r1;unfold ara at r1;rw[hlen] at r1;dsimp only at r1;rw[wV u3,gG (Nat.lt_succ_self _),ai,aM] at r1;exact⟨h1,v1,r1.symm,by rw[List.drop_length,asc];exact r2,by omega,r4,r5,r6⟩
 | succ d ih=>
  intro i N h v l acc hi hN o hn hl ha e;obtain⟨N,rfl⟩:∃M,N=M+1:=⟨N-1,by omega⟩;have hlt:i<w.length:=by omega
  have hget:w[i]?=some (w[i]'hlt):=List.getElem?_eq_getElem _;generalize hb:w[i]'hlt=b at hget;have hd:w.drop i=b :: w.drop (i+1):=by rw[List.drop_eq_getElem_cons hlt,hb]
  have hidx:∀K:Value->R,bindO (dD E 9 (.string ⟨⟨w⟩⟩) (.int .i64 (.ofNat i))) K=K (gd b):=λK=>by rw[we u (kd:=.i64) hget];rfl
  have hne:∀K:Value->R,binR (binC E .neq 5 false true) (gd b) (.int .u8 (.ofNat 32)) K=K (.bool (!beq b.toNat 32)):=λK=>by unfold gd;rw[atr u5]
  have hadd:∀(K:Value->R),binR (binC E .add 3 false true) (.int .i64 (.ofNat i)) (.int .i64 (.ofNat 1)) K=K (.int .i64 (.ofNat (i+1))):=λK=>dl u3 (by omega);rw[ce] at e;generalize hL:loopF (ks:=[4,3,5]) (ara E (.string ⟨⟨w⟩⟩) a) N=L at e;unfold ara at e;rw[hlen] at e;dsimp only at e;rw[wV u3,be (by omega),ai,aK] at e;dsimp only at e;rw[ai,hlen,km u3 hlt] at e;by_cases q:b.toNat=32
  ·have hb32:b=32:=UInt8.toNat_inj.1 q;have hq:(!beq b.toNat 32)=false:=by rw[lI q];rfl
   simp only[↓bz,↓ai,↓eC,↓aK,↓hidx,↓hne,hq,↓aM] at e;obtain⟨h1,v1,r1,r2,r3,r4,r5,r6⟩:=ass u T1 o (by omega) (by omega) _ _ _ X e;replace r1:=r1.symm;dsimp only at r1;rw[hadd,<-hL] at r1;have hfl:(fl acc).length<=1:=by unfold fl;split <;> simp
   obtain⟨h2,v2,s1,s2,s3,s4,s5,s6⟩:=ih (i+1) N h1 v1 (l++fl acc) [] (by omega) (by omega) r2 (by omega) (by rw[List.length_append];omega) (Nat.zero_le _) r1;refine⟨h2,v2,s1,?_,by omega,by omega,λid hid hne=>?_,λb hb=>?_⟩
   ·rw[hd,hb32,arp,<-List.append_assoc];exact s2
   ·have:dn v1≠some id:=λhh=>by
     rcases r6 id hh with r | r
     ·exact hne r
     ·omega
    rw[s5 id (by omega) this,r5 id hid hne]
   ·rcases s6 b hb with r | r
    ·rcases r6 b r with r | r
     ·exact .inl r
     ·exact .inr r
    ·exact .inr (by omega)
  ·have hq:(!beq b.toNat 32)=true:=by rw[fT q];rfl
   have i3:=auu u (kd:=.i64) (kd':=.i64) hget;have hsl:∀K:Value->R,bindO (dd E 9 (.string ⟨⟨w⟩⟩) (some (.int .i64 (.ofNat i))) (some (.int .i64 (.ofNat (i+1)))) none) K=K (.string ⟨⟨[b]⟩⟩):=λK=>by rw[i3];rfl
   simp only[↓bz,↓ai,↓eC,↓aK,↓hidx,↓hne,hq,↓hadd,↓hsl] at e;unfold aF at e;rw[am8 u (by simp;omega)] at e;rw[<-hL] at e;obtain⟨h2,v2,s1,s2,s3,s4,s5,s6⟩:=ih (i+1) N h v l (acc ++ [b]) (by omega) (by omega) o (by omega) (by omega) (by simp;omega) e;refine⟨h2,v2,s1,?_,by omega,s4,s5,s6⟩;rw[hd,cK,if_neg (λhh=>q (by rw[hh];rfl))];exact s2
theorem auA {w:Bs} (hw:w.length<=8000) {h:H} (hn:h.next<=800000000) (k:Value->H->R) (X:R) (e:p21 E rc (.string ⟨⟨w⟩⟩) h k=X):
  ∃h' v,X=k v h'/\SO h' v (bd w)/\h'.next<=h.next+16002/\h.next<=h'.next/\(∀id,id<h.next->hget h' id=hget h id)/\(∀b,dn v=some b->h.next<=b):=by
 unfold p21 at e;rw[ai] at e;obtain⟨h1,v1,r1,r2,r3,r4,r5,r6⟩:=atN u T1 hw _ X w.length 0 ft h (.slice none 0 0) [] [] (by omega) (by unfold ft;omega) .nil (by omega) (Nat.le_refl _) (Nat.le_refl _) e;refine⟨h1,v1,r1,r2,by omega,r4,λid hid=>r5 id hid (by simp[dn]),λb hb=>?_⟩;rcases r6 b hb with r | r
 ·exact nomatch r
 ·exact r
end
end Go.Ev
namespace Go.Ev
open Go F Go.Proofs Go.RowKit
theorem Step.below {P:Program} {ρ:Ren} {h:H} {w w':World} (hr:dU P ρ h w) (b:Below w.heap.size w w'):Step P ρ h w ρ h w' where
 ext:=ρ.le_refl
 old:=λ_ _ e _=>e
 next:=Nat.le_refl _
 keep:=λ_ _ _=>rfl
 rel:=⟨hr.dom,hr.inj,λid p e=>dV.same (hr.obj id p e) λhl=>b.block _ (hr.inside id p e hl),hr.small,hr.fresh,hr.glob,λid p e hl=>Nat.lt_of_lt_of_le (hr.inside id p e hl) b.size⟩
 same:=λk hk _=>b.block k hk
 own:=λ_ e _=>e
 size:=b.size
 tape:=b.tape
 os:=b.os
 output:=b.output
theorem cN.of_calls {P : Program} {ρ : Ren} {h : H} {w : World} {f : FuncId} {args' : List Value} {v v' : Value} {fn : Func} (hr : dU P ρ h w) (h1 : P.funcs[f]? = some fn) (h2 : fn.body.isNone = false) (h3 : (fn.name== "runtime.NumGoroutine") = false)
  (hv:VR ρ v v') (c:Calls P f ⟨args'⟩ w λe w'=>e=.returned v'/\Below w.heap.size w w'):cN P ρ h w f args' v h:=
 .inr ⟨fn,h1,h2,h3,c.mono λe w' hq=>⟨ρ,v',hq.1,hv,Step.below hr hq.2⟩⟩
theorem Step.adopt {P:Program} {ρ:Ren} {h:H} {w w':World} (hr:dU P ρ h w) (hroom:room h=true) {A x:Nat} {ob:AO} (b:Below w.heap.size w w') (hA:w.heap.size<=A) (hA2:A<w'.heap.size)
  (hob:∀ρ',ρ.le ρ'->dV P ρ' w' (A,x) ob):Step P ρ h w (ρ.upd h.next (A,x)) (h.push ob) w':=by
 have hroom:=Nat.le_of_ble_eq_true hroom;exact Step.give hr (id:=h.next) (p:=(A,x)) (O:=h.objs) (w':=w') (ob:=ob) (hr.unmapped (Nat.le_refl _)) rfl (cX (by omega)) (λ_=>.inl rfl)
  (λj q hq hl=>by
   have hlt:=hr.inside j q hq hl
   exact⟨by show q.1≠A;omega,b.block _ hlt⟩) hA2 hob (λk hk _=>b.block k hk) (λhl=>absurd hl (by show ¬ A<w.heap.size;omega)) b.size b.tape b.os b.output
theorem cN.of_grow {P : Program} {ρ : Ren} {h : H} {w : World} {f : FuncId} {args' : List Value} {v : Value} {fn : Func} {ob : AO} (hr : dU P ρ h w) (h1 : P.funcs[f]? = some fn) (h2 : fn.body.isNone = false) (h3 : (fn.name== "runtime.NumGoroutine") = false) (hroom : room h = true)
  (c:Calls P f ⟨args'⟩ w λe w'=>∃v' A x,e=.returned v'/\Below w.heap.size w w'/\w.heap.size<=A/\A<w'.heap.size/\(∀ρ',ρ.le ρ'->dV P ρ' w' (A,x) ob)/\VR (ρ.upd h.next (A,x)) v v'):cN P ρ h w f args' v (h.push ob):=
 .inr ⟨fn,h1,h2,h3,c.mono λe w' hq=>by
  obtain⟨v',A,x,e1,b,a1,a2,ho,hv⟩:=hq
  exact⟨_,v',e1,hv,Step.adopt hr hroom b a1 a2 ho⟩⟩
def cell0 (h:H) (g:Nat):Option Value:=match h.objs.get g with
 |.row _ 1 false _ _ c=>some (c.get 0)
 | _=>none
theorem ng {P:Program} {ρ:Ren} {h:H} {w:World} (hr:dU P ρ h w) {g:Nat} (hg:g<16) {v:Value} (e:cell0 h g=some v):∃v',w.cell? ⟨g,0,none⟩=some v'/\fk ρ v v':=by
 unfold cell0 at e;have ho:=hr.obj g (g,0) (hr.glob g hg);split at e
 ·rename_i hq;cases e;rw[hq] at ho;obtain⟨cs,fr,k1,k2,k3,k4,k5,k6⟩:=ho;obtain⟨v',a,b⟩:=k5 0 (by omega);refine⟨v',?_,b⟩;unfold World.cell?;simp only[Option.isSome_none,Bool.false_eq_true,if_false];rw[show w.heap[g]?=_ from k1];exact a
 ·exact nomatch e
theorem ru {P:Program} {ρ:Ren} {w:World} {A:Nat} {fr:Nat × Nat} {e:TypeId} {cs:Array Value} (xs:List (List UInt8)) (hh:w.heap[A]?=some (.cells cs e fr)) (hsz:cs.size=xs.length) (hfr:fr.2<=0)
  (hc:∀i:Nat,cs[i]?=(xs.map λs=>Value.string ⟨⟨s⟩⟩)[i]?):dV P ρ w (A,0) (.row e xs.length false false 0 (T.ofList unk (xs.map λs=>Value.string ⟨⟨s⟩⟩))):=by
 refine⟨cs,fr,hh,by omega,λ_=>⟨hsz,rfl⟩,λq=>(nomatch q),λi hi=>?_,.inr hfr⟩;have h1:(xs.map λs=>Value.string ⟨⟨s⟩⟩)[i]?=some (Value.string ⟨⟨xs[i]⟩⟩):=by simp[hi]
 refine⟨Value.string ⟨⟨xs[i]⟩⟩,(hc i).trans h1,?_⟩;rw[T.get_ofList,List.getD_eq_getElem?_getD,h1];exact .inr rfl
theorem ov {ρ:Ren} {id A n:Nat}:VR (ρ.upd id (A,0)) (.slice (some ⟨id,0,none⟩) n (2*n)) (.slice (some ⟨A,0,none⟩) n n):=by
 have e1:2*n%2=0:=by omega
 have e2:2*n / 2=n:=by omega
 exact VR.of1 (by simp[bY,bW,Ren.upd_same,e1,e2])
theorem wg (l:List ByteArray):l.map Value.string=(l.map λx=>x.data.toList).map λs=>Value.string ⟨⟨s⟩⟩:=by rw[List.map_map];rfl
end Go.Ev
namespace Go.Ev
open Go F Go.Proofs
section
structure Fr (h h':H) (n:Nat):Prop where
 le:h.next<=h'.next
 ub:h'.next<=h.next+n
 old:∀id,id<h.next->hget h' id=hget h id
theorem Fr.refl (h:H) (n:Nat):Fr h h n:=⟨Nat.le_refl _,by omega,λ_ _=>rfl⟩
theorem Fr.trans {a b c:H} {m n k:Nat} (h1:Fr a b m) (h2:Fr b c n) (hk:m+n<=k):Fr a c k:=by have:=h1.le;have:=h1.ub;have:=h2.le;have:=h2.ub;exact⟨by omega,by omega,λid hid=>(h2.old id (by omega)).trans (h1.old id hid)⟩
theorem Fr.mono {a b:H} {m n:Nat} (h1:Fr a b m) (hk:m<=n):Fr a b n:=⟨h1.le,by have:=h1.ub;omega,h1.old⟩
theorem Fr.push {h:H} (o:AO) (hn:h.next<=1000000000):Fr h (ag h o) 1:=⟨Nat.le_succ _,Nat.le_refl _,λid hid=>bp _ _ (by omega) hid⟩
def ux (rc:RC) (Q:H->Prop):Prop:=∀(w:Bs) (h:H),w.length<=100000->w ≠ []->w.all fE=true->Q h->h.next<=900000000 ->
 (gb 0 w<=9223372036854775807/\∀k:Value->H->R,rc 62 [.string ⟨⟨w⟩⟩] h k=k (.tuple ⟨[.int .i64 (.ofNat (gb 0 w)),.nilIface]⟩) h) \/
 (9223372036854775807<gb 0 w/\∃n t a,∀k:Value->H->R,rc 62 [.string ⟨⟨w⟩⟩] h k=k (.tuple ⟨[.int .i64 n,.iface t a]⟩) (ag h .dead))
section
variable {E : Env} {ms : Array (String × TypeId)}
theorem GB {ty:TypeId} {m:_} (h:E.und ty=some (.interface m)) {cx:Bool} {k:Value->R}:binR (binC E .neq ty cx true) .nilIface .nilIface k=k (.bool false):=by
 have hb:iz E .neq ty cx true .nilIface .nilIface=some (.bool false):=by simp only[iz,yv,h,Bool.or_true,cond_true,Bool.not_true]
 unfold binR binC;rw[h];show bindO (iz E .neq ty cx true .nilIface .nilIface) k=_;rw[hb];rfl
theorem yZ {ty:TypeId} {m:_} (h:E.und ty=some (.interface m)) {cx cy:Bool} {t:TypeId} {a:Value} {k:Value->R}:binR (binC E .neq ty cx cy) (.iface t a) .nilIface k=k (.bool true):=by
 have hb:iz E .neq ty cx cy (.iface t a) .nilIface=some (.bool true):=by simp only[iz,yv,h,Bool.not_false]
 unfold binR binC;rw[h];show bindO (iz E .neq ty cx cy (.iface t a) .nilIface) k=_;rw[hb];rfl
end
variable {E : Env} (u : US E) {rc : RC}
include u
theorem ahb {w:Bs} (hl:w.length<=1000000000) (k:Value->H->R) (c:aa [2,3]->H->R) (x y:Value) {h:H}:∀(d i N:Nat),i+d=w.length->d<N ->
  loopF (ks:=[2,3,21]) (sc E (.int .i64 (.ofNat w.length)) (.string ⟨⟨w⟩⟩) k c) N (x,(y,(.int .i64 (.ofNat i),()))) h =
   if (w.drop i).all fE=true then c (x,(y,())) h else k (.tuple ⟨[.int .i64 (.ofNat 0),.int .i64 (.ofNat 14)]⟩) h:=by
 have u3:=u.u3;have u5:=u.u5;intro d
 induction d with
 | zero=>
  intro i N hi hN;obtain⟨N,rfl⟩:∃M,N=M+1:=⟨N-1,by omega⟩;obtain rfl:i=w.length:=by omega
  rw[ce];unfold sc;rw[iu u3 (Nat.le_refl _),ai,List.drop_length];rfl
 | succ d ih=>
  intro i N hi hN;obtain⟨N,rfl⟩:∃M,N=M+1:=⟨N-1,by omega⟩;have hlt:i<w.length:=by omega
  have hget:w[i]?=some (w[i]'hlt):=List.getElem?_eq_getElem _;rw[ce,List.drop_eq_getElem_cons hlt,List.all_cons];have key:=ih (i+1) N (by omega) (by omega);generalize w[i]'hlt=b at hget ⊢;generalize loopF (ks:=[2,3,21]) (sc E (.int .i64 (.ofNat w.length)) (.string ⟨⟨w⟩⟩) k c) N=L at key ⊢;have hadd:∀(K:Value->R),binR (binC E .add 3 false true) (.int .i64 (.ofNat i)) (.int .i64 (.ofNat 1)) K=K (.int .i64 (.ofNat (i+1))):=λK=>dl u3 (by omega);have c1:∀K:Value->R,binR (binC E .lss 5 false true) (gd b) (.int .u8 (.ofNat 48)) K=K (.bool (ble (b.toNat+1) 48)):=λK=>by unfold gd;rw[Qn u5]
  have c2:∀K:Value->R,binR (binC E .gtr 5 false true) (gd b) (.int .u8 (.ofNat 57)) K=K (.bool (ble (57+1) b.toNat)):=λK=>by unfold gd;rw[uk u5]
  have hbi:∀K:Value->R,bindO (dD E 9 (.string ⟨⟨w⟩⟩) (.int .i64 (.ofNat i))) K=K (gd b):=λK=>by rw[we u (kd:=.i64) hget];rfl
  unfold sc;dsimp only;rw[km u3 hlt,ai];simp only[aK];rw[ai,hbi,c1];by_cases q1:b.toNat<48
  ·have hd:fE b=false:=by unfold fE;rw[gG (show b.toNat<48 by omega)];rfl
   rw[be (show b.toNat+1<=48 by omega)];simp only[↓bz,↓ai,↓eC,↓aK];rw[hd];rfl
  ·rw[gG (show 48<b.toNat+1 by omega)];simp only[↓bz,↓ai,↓dO,↓hbi,↓c2];by_cases q2:57<b.toNat
   ·have hd:fE b=false:=by unfold fE;rw[gG (show 57<b.toNat by omega),Bool.and_false]
    simp only[be (show 57+1<=b.toNat by omega),↓bz,↓ai,↓dO,↓aK,↓aM];rw[hd];rfl
   ·have hd:fE b=true:=by unfold fE;rw[be (show 48<=b.toNat by omega),be (show b.toNat<=57 by omega)];rfl
    simp only[gG (show b.toNat<57+1 by omega),↓bz,↓ai,↓dO,↓aK,↓aM,↓hadd];rw[key,hd,Bool.true_and]
theorem aig {Q:H->Prop} (hA:ux rc Q) {mi:_} (u62:E.und 62=some (.interface mi)) {w:Bs} (hl:w.length<=100000) (hne:w ≠ []) (hz:¬ (1<w.length/\w[0]?=some 48)) {h:H} (hq:Q h) (hn:h.next<=900000000) (x y:Value) (k:Value->H->R) (X:R) (e:wB E h (.string ⟨⟨w⟩⟩) rc k (x,(y,()))=X):
  ∃h',X=k (.tuple ⟨[.int .i64 (.ofNat (cC w).1),.int .i64 (.ofNat (cC w).2)]⟩) h'/\Fr h h' 1:=by
 have u3:=u.u3;unfold wB at e;rw[nS u,bw,ai] at e;dsimp only at e;rw[ahb u (by omega) k _ x y w.length 0 ft (by omega) (by unfold ft;omega),List.drop_zero] at e;by_cases hd:w.all fE=true
 ·rw[if_pos hd] at e;have hnb:¬ (w=[] \/ (1<w.length/\w[0]?=some 48) \/ w.all fE=false):=by
   rintro (e | e | e)
   ·exact hne e
   ·exact hz e
   ·rw[hd] at e;exact nomatch e
  rcases hA w h hl hne hd hq hn with ⟨hv,hk⟩ | ⟨hv,n,t,a,hk⟩
  ·rw[hk] at e;simp only[↓bJ,↓bK,↓cd,↓GB u62] at e;by_cases q:4294967296<gb 0 w
   ·simp only[↓bz,↓ai,↓dO,↓mB u3 q,↓aK,↓aM] at e;refine⟨h,?_,Fr.refl _ _⟩;rw[show cC w=(0,3) by unfold cC;rw[if_neg hnb,if_pos q]];exact e.symm
   ·have q':gb 0 w<=4294967296:=by omega
    simp only[↓bz,↓ai,↓dO,↓lG u3 q',↓aK,↓aM] at e;refine⟨h,?_,Fr.refl _ _⟩;rw[show cC w=(gb 0 w,0) by unfold cC;rw[if_neg hnb,if_neg q]];exact e.symm
  ·rw[hk] at e;simp only[↓bJ,↓bK,↓cd,↓yZ u62,↓bz,↓ai,↓eC,↓aK,↓aM] at e;refine⟨_,?_,Fr.push .dead (by omega)⟩;rw[show cC w=(0,3) by unfold cC;rw[if_neg hnb,if_pos (by omega)]];exact e.symm
 ·rw[if_neg hd] at e;have hf:w.all fE=false:=by simpa using hd
  refine⟨h,?_,Fr.refl _ _⟩;rw[show cC w=(0,14) from if_pos (.inr (.inr hf))];exact e.symm
theorem amo {Q:H->Prop} (hA:ux rc Q) {mi:_} (u62:E.und 62=some (.interface mi)) {w:Bs} (hl:w.length<=100000) {h:H} (hq:Q h) (hn:h.next<=900000000) (k:Value->H->R) (X:R) (e:p37 E rc (.string ⟨⟨w⟩⟩) h k=X):
  ∃h',X=k (.tuple ⟨[.int .i64 (.ofNat (cC w).1),.int .i64 (.ofNat (cC w).2)]⟩) h'/\Fr h h' 1:=by
 have u3:=u.u3;have u5:=u.u5;have hlen:∀K,bindO (bv E h 9 (.string ⟨⟨w⟩⟩)) K=K (.int .i64 (.ofNat w.length)):=λK=>by rw[nS u];rfl
 have htail:=λhne hz x y=>aig u hA u62 hl hne hz hq hn x y k X;unfold p37 at e;rw[asn,Aj u] at e;cases w with
 | nil=> simp only[show (([]:Bs)==[])=true from rfl,↓bz,↓ai,↓eC,↓aK] at e;refine⟨h,?_,Fr.refl _ _⟩;rw[show cC []=(0,14) from if_pos (.inl rfl)];exact e.symm
 | cons b w=>
  have h0:((b :: w:Bs)==[])=false:=rfl;by_cases q1:1<(b :: w).length
  ·have hx:∀K:Value->R,bindO (dD E 9 (.string ⟨⟨b :: w⟩⟩) (.int .i64 (.ofNat 0))) K=K (gd b):=λK=>by rw[we u (kd:=.i64) (s:=b :: w) (j:=0) (b:=b) rfl];rfl
   have he:∀K:Value->R,binR (binC E .eql 5 false true) (gd b) (.int .u8 (.ofNat 48)) K=K (.bool (beq b.toNat 48)):=λK=>by unfold gd;rw[gv u5]
   by_cases q2:b.toNat=48
   ·simp only[h0,↓bz,↓ai,↓dO,↓aM,↓hlen,↓mB u3 q1,↓eC,↓aK,↓hx,↓he,lI q2] at e;have hb:b=48:=UInt8.toNat_inj.1 q2;refine⟨h,?_,Fr.refl _ _⟩;rw[show cC (b :: w)=(0,14) from if_pos (.inr (.inl ⟨q1,by rw[hb];rfl⟩))];exact e.symm
   ·simp only[h0,↓bz,↓ai,↓dO,↓aM,↓hlen,↓mB u3 q1,↓eC,↓aK,↓hx,↓he,fT q2] at e;exact htail (by simp) (λ⟨_,e⟩=>q2 (by rw[List.getElem?_cons_zero] at e;rw[Option.some.inj e];rfl)) _ _ e
  ·have q1':(b :: w).length<=1:=by omega
   simp only[h0,↓bz,↓ai,↓dO,↓aM,↓hlen,↓lG u3 q1'] at e;exact htail (by simp) (λ⟨e,_⟩=>q1 e) _ _ e
end
section
theorem eP (k:R):ifB true k=k:=rfl
inductive WL (h:H):Value->List Bs->Prop
 | nil:WL h (.slice none 0 0) []
 | row {b o m c fz:Nat} {op ro:Bool} {cells:T Value} {l:List Bs} (hb:b<h.next) (hq:hget h b=.row 9 m op ro fz cells) (hm:o+l.length<=m) (hcap:l.length<=c / 2)
   (hc:∀i,(hi:i<l.length)->getF cells (o+i)=aF l[i]):WL h (.slice (some ⟨b,o,none⟩) l.length c) l
theorem WL.frB {B:Nat} {h h':H} {v:Value} {l:List Bs} (o:WL h v l) (hn:h.next<=h'.next) (hk:∀id,id<h.next->hget h' id=hget h id):WL h' v l:=by
 cases o with
 | nil=>exact .nil
 | row hb hq hm hcap hc=>exact .row (Nat.lt_of_lt_of_le hb hn) ((hk _ hb).trans hq) hm hcap hc
theorem WL.fr {h h':H} {n:Nat} {v:Value} {l:List Bs} (o:WL h v l) (f:Fr h h' n):WL h' v l:=o.frB (B:=0) f.le f.old
theorem SO.wl {h:H} {v:Value} {l:List Bs} (o:SO h v l):WL h v l:=by
 unfold SO at o;generalize hn:l.length=n at o;generalize hl:l.map aF=L at o;cases o with
 | nil=> obtain rfl:l=[]:=List.length_eq_zero_iff.1 hn;exact .nil
 | row hb hq hL hc hp=> subst hn hl;rename_i b fz op cells;refine .row (o:=0) (c:=2*l.length+op.toNat) hb hq (by omega) (by omega) λi hi=>?_;rw[Nat.zero_add,hc i (by simpa using hi),List.getD_eq_getElem?_getD,List.getElem?_map,List.getElem?_eq_getElem hi];rfl
theorem zI {h:H} (l:List Bs) (hn:h.next<=1000000000):WL (ag h (.row 9 l.length false false 0 (T.ofList unk (l.map aF)))) (.slice (some ⟨h.next,0,none⟩) l.length (2*l.length)) l:=by refine .row (show h.next<h.next+1 by omega) (aD _ _ (by omega)) (by omega) (by omega) λi hi=>?_;rw[aL,Nat.zero_add,List.getD_eq_getElem?_getD,List.getElem?_map,List.getElem?_eq_getElem hi];rfl
variable {E : Env} (u : US E) {rc : RC}
theorem kS {h h':H} {v:Value} {l:List Bs} (o:WL h v l) (u30:E.und 30=some (.slice 9)) (K:Value->R):onSl v (bindO (bv E h' 30 v) K) (λ_ n _=>K (.int .i64 (.ofNat n)))=K (.int .i64 (.ofNat l.length)):=by
 cases o with
 | nil=>
  rw[qH];have:bv E h' 30 (.slice none 0 0)=some (.int .i64 (.ofNat 0)):=by unfold bv;rw[u30];rfl
  rw[this];rfl
 | row=>rw[bZ]
def A9 (rc:RC) (Q:H->Prop):Prop:=∀(w:Bs) (h:H),w.length<=100000->Q h->h.next<=900000000->∀(k:Value->H->R) (X:R),rc 37 [.string ⟨⟨w⟩⟩] h k=X ->
 ∃h',X=k (.tuple ⟨[.int .i64 (.ofNat (cC w).1),.int .i64 (.ofNat (cC w).2)]⟩) h'/\Fr h h' 1
def anf (Q:H->Prop):Prop:=∀h h' n,Q h->Fr h h' n->Q h'
def small (l:List Bs):Prop:=∀s∈l,s.length<=100000
theorem dK {ty m n:Nat} {cx cy:Bool} {k:Value->R} (hE:E.und ty=some (.int .i64)):binR (binC E .neq ty cx cy) (.int .i64 (.ofNat m)) (.int .i64 (.ofNat n)) k=k (.bool (!beq m n)):=vj hE
include u
theorem ak6 {Q:H->Prop} (hQ:anf Q) (hN:A9 rc Q) (u24:E.und 24=some (.int .i64)) (u30:E.und 30=some (.slice 9)) {v:Value} {l:List Bs} {h:H} (o:WL h v l) (hs:small l) (hq:Q h) (hn:h.next<=800000000) (k:Value->H->R) (X:R) (e:p18 E rc v h k=X):
  ∃h',X=k (.tuple ⟨[.int .i64 (.ofNat (cW l).1),.int .i64 (.ofNat (cW l).2.1),.int .i64 (.ofNat (cW l).2.2)]⟩) h'/\Fr h h' 2:=by
 have u3:=u.u3;have hlen:=λh'=>kS (E:=E) (h':=h') o u30;unfold p18 at e;rw[cJ] at e;rw[hlen,dK u3] at e;by_cases q3:l.length=3
 ·obtain⟨a,b,c,rfl⟩:∃a b c,l=[a,b,c]:=by
   match l,q3 with
   | [a,b,c],_=>exact⟨a,b,c,rfl⟩
  have ha:a.length<=100000:=hs a (by simp);have hb':b.length<=100000:=hs b (by simp);have hc':c.length<=100000:=hs c (by simp);obtain⟨bk,of,m,cap,fz,op,ro,cells,hb,hq9,hm,hcap,hcell,hv⟩:∃bk of m cap fz op ro cells,bk<h.next/\hget h bk=.row 9 m op ro fz cells/\of+3<=m/\3<=cap / 2/\(∀i,(hi:i<3)->getF cells (of+i)=aF ([a,b,c][i]'hi))/\v=.slice (some ⟨bk,of,none⟩) 3 cap:=by
   cases o with
   | row hb hq hm hcap hc=>exact⟨_,_,_,_,_,_,_,_,hb,hq,hm,hcap,hc,rfl⟩
  subst hv;have hqr:∀h':H,hget h' bk=.row 9 m op ro fz cells->∀K,onRow (hget h' bk) K=K 9 m op ro fz cells:=λh' e K=>by rw[e];rfl
  have c0:=hcell 0 (by omega);have c1:=hcell 1 (by omega);have c2:=hcell 2 (by omega);simp only[show (!beq [a,b,c].length 3)=false from rfl,↓bz,↓ai,↓dO,↓aM,↓bZ,↓aG,↓hqr h hq9,show ble 1 3=true from rfl,↓eP] at e;rw[au (show of+1<=m by omega)] at e;rw[show getF cells of=aF a from c0] at e;unfold aF at e;rw[ar0 u] at e;by_cases qa : a = str "arena"
  ·rw[show (!(a==[97,114,101,110,97]))=false by rw[qa];rfl] at e;simp only[↓aM] at e;unfold y9 at e;simp only[↓bZ,show ble 2 3=true from rfl,↓eP,↓co,↓aG,↓hqr h hq9] at e;rw[au (show of+1+1<=m by omega),show getF cells (of+1)=aF b from c1] at e;obtain⟨h1,e1,f1⟩:=hN b h hb' hq (by omega) _ _ e;replace e1:=e1.symm;simp only[↓bJ,↓bK,↓cd] at e1;rw[dK u24] at e1;have hf:cW [a,b,c]=if (cC b).2=0 then ((cC b).1,(cC c).1,(cC c).2) else (0,0,(cC b).2):=if_pos qa
   by_cases qb:(cC b).2=0
   ·rw[hf,if_pos qb];have hq1:hget h1 bk=.row 9 m op ro fz cells:=(f1.old bk hb).trans hq9;rw[show (!beq (cC b).2 0)=false by rw[qb];rfl] at e1;simp only[↓ai,↓aM,↓bZ,show ble 3 3=true from rfl,↓eP,↓co,↓aG,↓hqr h1 hq1] at e1;rw[au (show of+2+1<=m by omega),show getF cells (of+2)=aF c from c2] at e1;have hn1:=f1.ub;obtain⟨h2,e2,f2⟩:=hN c h1 hc' (hQ _ _ _ hq f1) (by omega) _ _ e1;replace e2:=e2.symm;simp only[↓bJ,↓bK,↓cd] at e2;exact⟨h2,e2.symm,f1.trans f2 (Nat.le_refl _)⟩
   ·rw[hf,if_neg qb];rw[show (!beq (cC b).2 0)=true by rw[fT qb];rfl] at e1;simp only[↓ai,↓aK] at e1;exact⟨h1,e1.symm,f1.mono (by omega)⟩
  ·have hf:cW [a,b,c]=(0,0,14):=if_neg qa;rw[hf];rw[show (!(a==[97,114,101,110,97]))=true by rw[beq_eq_false_iff_ne.2 (show ¬ a=[97,114,101,110,97] from qa)];rfl] at e;simp only[↓aK] at e;exact⟨h,e.symm,Fr.refl _ _⟩
 ·have hf:cW l=(0,0,14):=by
   unfold cW;split
   ·simp at q3
   ·rfl
  rw[hf];rw[show (!beq l.length 3)=true by rw[fT q3];rfl] at e;simp only[↓bz,↓ai,↓eC,↓aK] at e;exact⟨h,e.symm,Fr.refl _ _⟩
omit u
theorem jk:∀(s acc:Bs),∀x∈cK acc s,x ≠ []
 | [],acc,x,hx=>by
  unfold cK at hx;split at hx
  ·exact nomatch hx
  ·rw[List.mem_singleton.1 hx];assumption
 | b :: s,acc,x,hx=>by
  unfold cK at hx;split at hx
  ·split at hx
   ·exact jk s _ x hx
   ·rcases List.mem_cons.1 hx with rfl | h
    ·assumption
    ·exact jk s _ x h
  ·exact jk s _ x hx
theorem ig:∀(s acc:Bs),∀x∈cK acc s,x.length<=acc.length+s.length
 | [],acc,x,hx=>by
  unfold cK at hx;split at hx
  ·exact nomatch hx
  ·rw[List.mem_singleton.1 hx];simp
 | b :: s,acc,x,hx=>by
  unfold cK at hx;split at hx
  ·split at hx
   ·have:=ig s _ x hx;simp at this ⊢;omega
   ·rcases List.mem_cons.1 hx with rfl | h
    ·simp
    ·have:=ig s _ x h;simp at this ⊢;omega
  ·have:=ig s _ x hx;simp at this ⊢;omega
def gT:Value->Prop
 |.slice _ _ c=>c%2=0
 | _=>True
def qm (rc:RC):Prop:=∀(s:Bs) (h:H),s.length<=100000->h.next<=900000000->∀(k:Value->H->R),rc 35 [.string ⟨⟨s⟩⟩,.func (.func 36) #[] #[]] h k =
 k (.slice (some ⟨h.next,0,none⟩) (bd s).length (2*(bd s).length)) (ag h (.row 9 (bd s).length false false 0 (T.ofList unk ((bd s).map aF))))
include u
theorem alh (hF:qm rc) (u30:E.und 30=some (.slice 9)) {s:Bs} {h:H} (hs:s.length<=100000) (hn:h.next<=800000000) (k:Value->H->R) (X:R) (e:p17 E rc (.string ⟨⟨s⟩⟩) h k=X):
  ∃h' v,X=k v h'/\WL h' v (bX s)/\gT v/\Fr h h' 1:=by
 have u3:=u.u3;have u5:=u.u5;unfold p17 at e;rw[hF s h hs (by omega)] at e;have o:=zI (h:=h) (bd s) (by omega);have f:Fr h (ag h (.row 9 (bd s).length false false 0 (T.ofList unk ((bd s).map aF)))) 1:=Fr.push _ (by omega);generalize hh:ag h (.row 9 (bd s).length false false 0 (T.ofList unk ((bd s).map aF)))=h1 at e o f;have cl:gT (Value.slice (some ⟨h.next,0,none⟩) (bd s).length (2*(bd s).length)):=show 2*(bd s).length%2=0 by omega
 generalize hv:Value.slice (some ⟨h.next,0,none⟩) (bd s).length (2*(bd s).length)=v at e o cl;have hlen:=λh'=>kS (E:=E) (h':=h') o u30;rw[cJ] at e;rw[hlen] at e;cases hw:bd s with
 | nil=>
  have hz:(bd s).length=0:=by rw[hw];rfl
  rw[hz,lG u3 (Nat.le_refl _)] at e;simp only[↓bz,↓ai,↓dO,↓aM] at e;refine⟨h1,v,e.symm,?_,cl,f⟩;rw[show bX s=[] by unfold bX;rw[hw]];rw[hw] at o;exact o
 | cons w r=>
  have hlt:0<(bd s).length:=by rw[hw];exact Nat.succ_pos _
  rw[mB u3 hlt] at e;have hq9:hget h1 h.next=.row 9 (bd s).length false false 0 (T.ofList unk ((bd s).map aF)):=by rw[<-hh];exact aD _ _ (by omega)
  have c0:getF (T.ofList unk ((bd s).map aF)) 0=aF w:=by rw[aL,hw];rfl
  have hqr:∀K,onRow (hget h1 h.next) K=K 9 (bd s).length false false 0 (T.ofList unk ((bd s).map aF)):=λK=>by rw[hq9];rfl
  subst hv;simp only[↓bz,↓ai,↓eC,↓aK,↓bZ,↓aG,↓hqr] at e;rw[au (show 1<=(bd s).length by omega),au (show 0+1<=(bd s).length by omega),c0] at e;have hne:w ≠ []:=jk s [] w (by show w∈bd s;rw[hw];simp);obtain⟨b,w',rfl⟩:∃b w',w=b :: w':=by
   cases w with
   | nil=>exact absurd rfl hne
   | cons b w'=>exact⟨b,w',rfl⟩
  unfold aF at e;rw[we u (kd:=.i64) (s:=b :: w') (j:=0) (b:=b) rfl,bw] at e;unfold gd at e;rw[gv u5] at e;by_cases q:b.toNat=35
  ·have hb:b=35:=UInt8.toNat_inj.1 q;rw[lI q,aK] at e;refine⟨h1,_,e.symm,?_,rfl,f⟩;rw[show bX s=[] by unfold bX;rw[hw];exact if_pos (by rw[hb];rfl)];exact .nil
  ·rw[fT q,aM] at e;refine⟨h1,_,e.symm,?_,cl,f⟩;rw[show bX s=bd s by unfold bX;rw[hw];exact if_neg (λhh=>q (by rw[List.getElem?_cons_zero] at hh;rw[Option.some.inj hh];rfl))];exact o
end
def aI:List (Bs × Bs):=[([112,111,111,108],[76,104]),([98,108,111,99,107],[76,104,110]),([115,116,114,100,117,112],[76,104,116]),([114,101,97,100],[104,110,109]),([119,114,105,116,101],[104,110,116]),([114,101,115,105,122,101],[104,110]),([97,112,112,101,110,100],[104,43]),([115,105,122,101],[104]),([97,108,108,111,99],[104,110,109]),([111,98,106,101,99,116,115],[104]),([108,111,97,100],[104,107,110,109]),([115,116,111,114,101],[104,107,110,116]),([102,114,101,101],[104,107]),([98,101,103,105,110],[104,109]),([103,114,111,119],[104,43]),([98,108,97,110,107],[104,110]),([115,104,114,105,110,107],[104,110]),([102,105,110,105,115,104],[104]),([97,98,111,114,116],[104]),([108,105,109,105,116],[104,111]),([115,101,116],[104,116,110]),([103,101,116],[104,116]),([100,114,111,112],[104,116]),([99,108,101,97,110],[104,99,110]),([112,114,101],[104,99,110]),([107,105,108,108],[104,110]),([114,117,110],[104,110]),([100,101,115,116,114,111,121],[104]),([99,108,101,97,114],[104]),([115,116,101,97,108],[104,104]),([114,101,112,97,114,101,110,116],[104,104,104]),([114,101,102,101,114],[104,104]),([117,110,108,105,110,107],[104,104]),([116,114,105,109],[]),([107,101,101,112],[110]),([114,101,102,117,115,101],[110]),([114,101,112,111,114,116],[104]),([108,111,103],[]),([102,105,110,100],[42]),([100,111,111,109],[104,104]),([100,111,111,109,101,100],[104,104])]
def gi:List (Bs × Bs)->List Value
 | []=>[]
 | (a,b) :: r=>aF a :: aF b :: gi r
theorem oG:∀(l:List (Bs × Bs)) (i:Nat) (h:i<l.length),(gi l).getD (2*i) unk=aF l[i].1/\(gi l).getD (2*i+1) unk=aF l[i].2
 | (a,b) :: r,0,_=>⟨rfl,rfl⟩
 | (a,b) :: r,i+1,h=>by have:=oG r i (by simpa using h);rw[show 2*(i+1)=2*i+1+1 by omega];exact this
def cF:AO:=.row 77 82 false false 0 (T.ofList unk (gi aI))
def p39 (E:Env) (rc:RC) (h:H) (k:Value->H->R):R:=ifB (ble h.1 1000000000) (letH (ag h cF) λa=>k (.slice (some (Addr.mk h.1 0 none)) 41 82) a)
theorem adD (t:ak) (rc:RC) (h:H) (k:Value->H->R):(ax (EX t) KK 39).run rc [] h k=p39 (EX t) rc h k:=by kernel_rfl
theorem Dp (E:Env) (rc:RC) (h:H) (k:Value->H->R):p39 E rc h k=ifB (ble h.1 1000000000) (letH (ag h cF) λa=>k (.slice (some (Addr.mk h.1 0 none)) 41 82) a):=rfl
theorem xe {i:Nat} (hi:i<41):getF (T.ofList unk (gi aI)) (2*i)=aF (aI.getD i ([],[])).1/\getF (T.ofList unk (gi aI)) (2*i+1)=aF (aI.getD i ([],[])).2:=by have h:=oG aI i hi;rw[aL,aL,List.getD_eq_getElem?_getD (l:=aI),List.getElem?_eq_getElem (show i<aI.length from hi)];exact h
def dE (w:Bs):List (Bs × Bs)->Nat
 | []=>0
 | x :: l=>if x.1=w then 0 else dE w l+1
theorem asl (w:Bs):∀l,dE w l<=l.length
 | []=>Nat.le_refl _
 | x :: l=>by have:=asl w l;unfold dE;split <;> simp <;> omega
def jw (r:Bs) (n:Nat):Bool:=if Lib.hasSuffix r [43] then ble r.length n else if Lib.hasSuffix r [42] then true else beq n r.length
def tM (b:UInt8):Sg:=if b=76 then .L else if b=104 then .h else if b=111 then .o else if b=110 then .n else if b=109 then .m else if b=107 then .k else if b=99 then .c else .t
theorem yp:aI.map Prod.fst=dL.map Form.word:=by decide
def iV (r:Bs) (f:Form):Bool:=((Lib.hasSuffix r [43]&&f.more&&beq f.rest.length r.length)||(Lib.hasSuffix r [42] && !Lib.hasSuffix r [43]&&f.more&&beq f.rest.length 0)||(!Lib.hasSuffix r [42] && !Lib.hasSuffix r [43] && !f.more&&beq f.rest.length r.length)) &&
 (List.range 5).all (λi=>(!f.more&&ble f.rest.length i)||decide (tM (r.getD (min i (r.length-1)) 0)=f.rest.getD i .t))&&ble r.length 4
def f0:Form:=⟨[],[],false⟩
theorem BR:(List.range 41).all (λi=>iV (aI.getD i ([],[])).2 (dL.getD i f0))=true:=by decide
theorem wj {r:Bs} {f:Form} (h:iV r f=true) (n:Nat):jw r n=lK f n:=by
 unfold iV at h;simp only[Bool.and_eq_true,Bool.or_eq_true,Bool.not_eq_true'] at h;unfold jw lK;rcases h.1.1 with ((⟨⟨h1,h2⟩,h3⟩ | ⟨⟨⟨h1,h2⟩,h3⟩,h4⟩) | ⟨⟨⟨h1,h2⟩,h3⟩,h4⟩)
 ·rw[if_pos h1,if_pos h2,Nat.eq_of_beq_eq_true h3]
 ·rw[if_neg (by rw[h2];exact Bool.false_ne_true),if_pos h1,if_pos h3,Nat.eq_of_beq_eq_true h4];exact (Nat.ble_eq_true_of_le (Nat.zero_le n)).symm
 ·rw[if_neg (by rw[h2];exact Bool.false_ne_true),if_neg (by rw[h1];exact Bool.false_ne_true),if_neg (by rw[h3];exact Bool.false_ne_true),Nat.eq_of_beq_eq_true h4]
theorem pY {α:Type} {l:List α} {i:Nat} {d:α} (h:l.length<=i):l.getD i d=d:=by rw[List.getD_eq_getElem?_getD,List.getElem?_eq_none h];rfl
theorem apW {r:Bs} {f:Form} (h:iV r f=true) {n i:Nat} (hn:lK f n=true) (hi:i<n):tM (r.getD (min i (r.length-1)) 0)=f.rest.getD i .t:=by
 unfold iV at h;rw[Bool.and_eq_true,Bool.and_eq_true] at h;have hr:=Nat.le_of_ble_eq_true h.2;have hall:=List.all_eq_true.1 h.1.2;have key:∀i,i<5->i<f.rest.length \/ f.more=true->tM (r.getD (min i (r.length-1)) 0)=f.rest.getD i .t:=by
  intro i hi hm;have:=hall i (by simpa using hi);rw[Bool.or_eq_true,Bool.and_eq_true] at this;rcases this with ⟨h1,h2⟩ | h1
  ·have h2:=Nat.le_of_ble_eq_true h2;rcases hm with hm | hm
   ·omega
   ·rw[hm] at h1;exact nomatch h1
  ·exact of_decide_eq_true h1
 by_cases hm:f.more=true
 ·by_cases h5:i<5
  ·exact key i h5 (.inr hm)
  ·have h4:=key 4 (by omega) (.inr hm);have hlen:f.rest.length<=4:=by
    simp only[Bool.and_eq_true,Bool.or_eq_true,Bool.not_eq_true'] at h;rcases h.1.1 with ((⟨⟨h1,h2⟩,h3⟩ | ⟨⟨⟨h1,h2⟩,h3⟩,h4⟩) | ⟨⟨⟨h1,h2⟩,h3⟩,h4⟩)
    ·rw[Nat.eq_of_beq_eq_true h3];exact hr
    ·rw[Nat.eq_of_beq_eq_true h4];omega
    ·rw[hm] at h3;exact nomatch h3
   rw[show min i (r.length-1)=min 4 (r.length-1) by omega,h4,pY (l:=f.rest) (i:=4) (by omega),pY (l:=f.rest) (by omega)]
 ·unfold lK at hn;rw[if_neg hm] at hn;have hn:=Nat.eq_of_beq_eq_true hn;have hlen:f.rest.length<=4:=by
   simp only[Bool.and_eq_true,Bool.or_eq_true,Bool.not_eq_true'] at h;rcases h.1.1 with ((⟨⟨h1,h2⟩,h3⟩ | ⟨⟨⟨h1,h2⟩,h3⟩,h4⟩) | ⟨⟨⟨h1,h2⟩,h3⟩,h4⟩)
   ·exact absurd h2 hm
   ·exact absurd h3 hm
   ·rw[Nat.eq_of_beq_eq_true h4];exact hr
  exact key i (by omega) (.inl (by omega))
theorem sD (w:Bs):∀(t:List (Bs × Bs)) (l:List Form) (i:Nat),t.map Prod.fst=l.map Form.word->lH w l i=if dE w t<t.length then some (i+dE w t,l.getD (dE w t) f0) else none
 | [],[],i,_=>rfl
 | [],_ :: _,i,h=>nomatch h
 | _ :: _,[],i,h=>nomatch h
 | x :: t,f :: l,i,h=>by
  rw[List.map_cons,List.map_cons,List.cons.injEq] at h;unfold lH dE;rw[<-h.1];by_cases q:x.1=w
  ·rw[if_pos q,if_pos q];simp
  ·rw[if_neg q,if_neg q,sD w t l (i+1) h.2];simp only[List.length_cons,Nat.add_lt_add_iff_right];by_cases q2:dE w t<t.length
   ·rw[if_pos q2,if_pos q2]
    congr 2
    omega
   ·rw[if_neg q2,if_neg q2]
section
structure cD (h h':H):Prop where
 le:h.next<=h'.next
 old:∀id,id<h.next->hget h' id=hget h id
theorem Fr.from {h h':H} {n:Nat} (f:Fr h h' n):cD h h':=⟨f.le,f.old⟩
theorem cD.trans {a b c:H} (h1:cD a b) (h2:cD b c):cD a c:=⟨Nat.le_trans h1.le h2.le,λid hid=>(h2.old id (Nat.lt_of_lt_of_le hid h1.le)).trans (h1.old id hid)⟩
theorem cD.refl (h:H):cD h h:=⟨Nat.le_refl _,λ_ _=>rfl⟩
theorem WL.from {h h':H} {v:Value} {l:List Bs} (o:WL h v l) (f:cD h h'):WL h' v l:=o.frB (B:=0) f.le f.old
theorem hmk (h:H):H.mk h.1 h.2=h:=rfl
variable {E : Env} (u : US E) {rc : RC}
structure LV (h:H) (pb:Nat) (l:List Bs):Prop where
 lt:pb<h.next
 ex:∃cp v,hget h pb=.row 30 1 false false 0 cp/\getF cp 0=v/\WL h v l
theorem LV.from {h h':H} {pb:Nat} {l:List Bs} (o:LV h pb l) (f:cD h h'):LV h' pb l:=by obtain⟨lt,cp,v,e1,e2,e3⟩:=o;exact⟨Nat.lt_of_lt_of_le lt f.le,cp,v,(f.old _ lt).trans e1,e2,e3.from f⟩
include u
theorem ao1 {h:H} {pb:Nat} {w0:Bs} {l:List Bs} (o:LV h pb (w0 :: l)) (hn:h.next<=900000000) (a b:Bs) (k:Value->H->R) (X:R) (e:p40 E rc (.agg ⟨[aF a,aF b]⟩) (.pointer (some ⟨pb,0,none⟩)) h k=X):
  ∃h',X=k (.bool (a==w0)) h'/\Fr h h' 1:=by
 have f:Fr h (ag h (.row 77 2 false false 0 (T.ofList unk [aF a,aF b]))) 1:=Fr.push _ (by omega);have e0:hget (ag h (.row 77 2 false false 0 (T.ofList unk [aF a,aF b]))) h.next=.row 77 2 false false 0 (T.ofList unk [aF a,aF b]):=aD _ _ (by omega);have o1:=o.from f.from;unfold p40 at e;change (ifB true (ifB (ble h.1 1000000000) (letH (ag h (.row 77 2 false false 0 (T.ofList unk [aF a,aF b]))) _)))=X at e;rw[eP,au (show h.1<=1000000000 by show h.next<=_;omega),aJ] at e;generalize ag h (.row 77 2 false false 0 (T.ofList unk [aF a,aF b]))=h1 at f e0 o1 e;have hn1:=f.ub;have hle1:=f.le;obtain⟨lt,cp,v,e1,e2,e3⟩:=o1;rw[au (show h1.1<=1000000000 by show h1.next<=_;omega),aJ,hmk] at e;cases e3 with
 | row hb hq hm hcap hc=>
  rename_i bk of m cap fz op ro cells;have hq0:∀K,onRow (hget h1 h.1) K=K 77 2 false false 0 (T.ofList unk [aF a,aF b]):=λK=>by rw[show h.1=h.next from rfl,e0];rfl
  have hq1:∀K,onRow (hget h1 pb) K=K 30 1 false false 0 cp:=λK=>by rw[e1];rfl
  have hq2:∀K,onRow (hget h1 bk) K=K 9 m op ro fz cells:=λK=>by rw[hq];rfl
  have c0:getF cells of=aF w0:=hc 0 (by simp);have hm':of+1<=m:=by simp at hm;omega
  simp only[↓hq0,show ble 1 2=true from rfl,↓eP,↓aG,↓hq1,show ble (Nat.succ 0) 1=true from rfl,e2,↓bZ,↓hq2] at e;rw[au (show 1<=(w0 :: l).length by simp),au (show of+1<=m from hm'),c0] at e;rw[show getF (T.ofList unk [aF a,aF b]) 0=aF a from rfl] at e;unfold aF at e;rw[Aj u] at e;exact⟨h1,e.symm,f⟩
omit u
theorem y8 (f:FuncId) (a b:Array Value) (k:FuncId->Array Value->Array Value->R):yu (.func (.func f) a b) k=k f a b:=rfl
def C40 (rc:RC) (h0:H) (pb:Nat) (w0:Bs):Prop:=∀(a b:Bs) (g:H),cD h0 g->g.next<=900000000->∀(k:Value->H->R) (X:R),rc 40 [.agg ⟨[aF a,aF b]⟩,.pointer (some ⟨pb,0,none⟩)] g k=X->∃g',X=k (.bool (a==w0)) g'/\Fr g g' 1
include u
theorem aax {h0:H} {pb tb:Nat} {w0:Bs} (hC:C40 rc h0 pb w0) (ht:hget h0 tb=cF) (hlt:tb<h0.next) (k:Value->H->R) (b:aa [4]->H->R) (X:R):∀(d i N:Nat) (x:Value) (g:H),i+d=41->d<N->cD h0 g->g.next+d<=900000000 ->
  loopF (ks:=[4,8]) (rU E (.int .i64 (.ofNat 41)) (.slice (some ⟨tb,0,none⟩) 41 82) (.func (.func 40) ⟨[]⟩ ⟨[.pointer (some ⟨pb,0,none⟩)]⟩) rc k b) N (x,(.int .i64 (.ofNat i),())) g=X ->
  ∃g',Fr g g' d/\X=if dE w0 (aI.drop i)<d then k (.int .i64 (.ofNat (i+dE w0 (aI.drop i)))) g' else b (x,()) g':=by
 have u3:=u.u3;intro d
 induction d with
 | zero=> intro i N x g hi hN hf hn e;obtain⟨N,rfl⟩:∃M,N=M+1:=⟨N-1,by omega⟩;rw[ce] at e;unfold rU at e;dsimp only at e;rw[iu u3 (show 41<=i by omega),ai] at e;exact⟨g,Fr.refl _ _,by rw[if_neg (Nat.not_lt_zero _)];exact e.symm⟩
 | succ d ih=>
  intro i N x g hi hN hf hn e;obtain⟨N,rfl⟩:∃M,N=M+1:=⟨N-1,by omega⟩;have hi41:i<41:=by omega
  rw[ce] at e;generalize hL:loopF (ks:=[4,8]) (rU E (.int .i64 (.ofNat 41)) (.slice (some ⟨tb,0,none⟩) 41 82) (.func (.func 40) ⟨[]⟩ ⟨[.pointer (some ⟨pb,0,none⟩)]⟩) rc k b) N=L at e;have htg:hget g tb=cF:=(hf.old _ hlt).trans ht;have hqr:∀K,onRow (hget g tb) K=K 77 82 false false 0 (T.ofList unk (gi aI)):=λK=>by rw[htg];rfl
  obtain⟨t1,t2⟩:=xe hi41;unfold rU at e;dsimp only at e;rw[km u3 hi41,ai,aK] at e;dsimp only at e;rw[ai,cn,bZ,au (show i+1<=41 by omega),co,aG] at e;dsimp only at e;rw[hqr,au (show 0+i.mul 2+2<=82 by show 0+i*2+2<=82;omega),y8] at e
  rw[show ny (⟨[]⟩:Array Value) ⟨[.pointer (some ⟨pb,0,none⟩)]⟩ [.agg ⟨ac (T.ofList unk (gi aI)) 2 (0+i.mul 2)⟩]=[.agg ⟨[aF (aI.getD i ([],[])).1,aF (aI.getD i ([],[])).2]⟩,.pointer (some ⟨pb,0,none⟩)] by
   show [Value.agg ⟨[getF (T.ofList unk (gi aI)) (0+i*2),getF (T.ofList unk (gi aI)) (0+i*2+1)]⟩,_]=_
   rw[show 0+i*2=2*i by omega,t1,t2]] at e
  obtain⟨g1,e1,f1⟩:=hC _ _ g hf (by omega) _ _ e;replace e1:=e1.symm;rw[ai] at e1;have hd:aI.drop i=aI.getD i ([],[]) :: aI.drop (i+1):=by rw[List.drop_eq_getElem_cons (show i<aI.length from hi41),List.getD_eq_getElem?_getD,List.getElem?_eq_getElem (show i<aI.length from hi41)];rfl
  have hub:=f1.ub;by_cases q:(aI.getD i ([],[])).1=w0
  ·rw[show ((aI.getD i ([],[])).1==w0)=true by rw[q];exact beq_self_eq_true _,aK] at e1;refine⟨g1,f1.mono (by omega),?_⟩;rw[hd];unfold dE;rw[if_pos q,if_pos (by omega)];exact e1.symm
  ·rw[show ((aI.getD i ([],[])).1==w0)=false from beq_eq_false_iff_ne.2 q,aM] at e1;dsimp only at e1;rw[dl u3 (by omega),<-hL] at e1;obtain⟨g2,f2,e2⟩:=ih (i+1) N x g1 (by omega) (by omega) (hf.trans f1.from) (by omega) e1;refine⟨g2,f1.trans f2 (by omega),?_⟩;rw[hd];unfold dE;rw[if_neg q,e2];by_cases q2:dE w0 (aI.drop (i+1))<d
   ·rw[if_pos q2,if_pos (by omega),show i+1+dE w0 (aI.drop (i+1))=i+(dE w0 (aI.drop (i+1))+1) by omega]
   ·rw[if_neg q2,if_neg (by omega)]
theorem amc {h:H} {pb tb:Nat} {w0:Bs} (hC:C40 rc h pb w0) (ht:hget h tb=cF) (hlt:tb<h.next) (hn:h.next<=800000000) (k:Value->H->R) (X:R)
  (e:p38 E rc (.slice (some ⟨tb,0,none⟩) 41 82) (.func (.func 40) ⟨[]⟩ ⟨[.pointer (some ⟨pb,0,none⟩)]⟩) h k=X):
  ∃h',Fr h h' 41/\X=if dE w0 aI<41 then k (.int .i64 (.ofNat (dE w0 aI))) h' else k (.int .i64 (.negSucc 0)) h':=by
 unfold p38 at e;rw[cJ,bZ] at e;dsimp only at e;rw[ai] at e;obtain⟨g,f,e1⟩:=aax u hC ht hlt k _ X 41 0 ft _ h (by omega) (by unfold ft;omega) (cD.refl _) (by omega) e;rw[List.drop_zero,Nat.zero_add] at e1;exact⟨g,f,e1⟩
omit u
def OY (rc:RC):Prop:=∀(s p:Bs) (h:H),s.length<=100000->∀k:Value->H->R,rc 63 [.string ⟨⟨s⟩⟩,.string ⟨⟨p⟩⟩] h k=k (.bool (Lib.hasSuffix s p)) h
include u
theorem aow (hS:OY rc) {h:H} (hn:h.next<=900000000) {a r:Bs} (hr:r.length<=1000) (n:Nat) (k:Value->H->R) (X:R) (e:p41 E rc (.agg ⟨[aF a,aF r]⟩) (.int .i64 (.ofNat n)) h k=X):
  ∃h',X=k (.bool (jw r n)) h'/\Fr h h' 1:=by
 have u3:=u.u3;have f:Fr h (ag h (.row 77 2 false false 0 (T.ofList unk [aF a,aF r]))) 1:=Fr.push _ (by omega);have e0:hget (ag h (.row 77 2 false false 0 (T.ofList unk [aF a,aF r]))) h.next=.row 77 2 false false 0 (T.ofList unk [aF a,aF r]):=aD _ _ (by omega);unfold p41 at e;change (ifB true (ifB (ble h.1 1000000000) (letH (ag h (.row 77 2 false false 0 (T.ofList unk [aF a,aF r]))) _)))=X at e;rw[eP,au (show h.1<=1000000000 by show h.next<=_;omega),aJ] at e;generalize ag h (.row 77 2 false false 0 (T.ofList unk [aF a,aF r]))=h1 at f e0 e;have hq0:∀K,onRow (hget h1 h.1) K=K 77 2 false false 0 (T.ofList unk [aF a,aF r]):=λK=>by rw[show h.1=h.next from rfl,e0];rfl
 have g1:getF (T.ofList unk [aF a,aF r]) 1=.string ⟨⟨r⟩⟩:=rfl;have hlen:∀K,bindO (bv E h1 9 (.string ⟨⟨r⟩⟩)) K=K (.int .i64 (.ofNat r.length)):=λK=>by rw[nS u];rfl
 refine⟨h1,?_,f⟩;unfold jw;rw[ai,hq0,show ble 2 2=true from rfl,eP,g1,hS r [43] h1 (by omega),ai] at e;by_cases q1:Lib.hasSuffix r [43]=true
 ·rw[if_pos q1];rw[q1,aK,hq0,show ble 2 2=true from rfl,eP,g1,hlen,kh u3] at e;exact e.symm
 ·have q1':Lib.hasSuffix r [43]=false:=by simpa using q1
  rw[if_neg q1];rw[q1',aM,hq0,show ble 2 2=true from rfl,eP,g1,hS r [42] h1 (by omega),ai] at e;by_cases q2:Lib.hasSuffix r [42]=true
  ·rw[if_pos q2];rw[q2,aK] at e;exact e.symm
  ·have q2':Lib.hasSuffix r [42]=false:=by simpa using q2
   rw[if_neg q2];rw[q2',aM] at e;dsimp only at e;rw[hq0,show ble 2 2=true from rfl,eP,g1,hlen,fJ u3] at e;exact e.symm
end
end Go.Ev
