/-
  WHETHER ALL WORDS CAN BE WRITTEN, in abstract memory.
-/
import Derived.Test.YtglmdggjibmjcaaGreatDoorHb
import Derived.Test.YtglmdggjibmjcaaGreatDoorYa
noncomputable section
set_option linter.all false
set_option maxRecDepth 100000
open Nat (ble beq)
namespace Go.Ev
open Go F Go.Proofs
section
structure ug (E:Env) (t e s:Nat) (i:TypeInfo) (z:List Value):Prop where
 u:E.und t=some (.slice e)
 inf:E.info e=some i
 sz:i.size=s
 bt:i.bytes<=1000
 zc:cK E e=some z
 zl:z.length=s
 s0:1<=s
 s1:s<=100
inductive OL (e s:Nat) (h:H):Value->Nat->List Value->Prop
 | nil:OL e s h (.slice none 0 0) 0 []
 | row {b n fz:Nat} {op:Bool} {cells:T Value} {L:List Value} (hb:b<h.next) (hq:hget h b=.row e (n*s) op false 0 cells) (hL:L.length=n*s)
   (hc:∀i,i<L.length->getF cells i=L.getD i unk) (hn:0<n):OL e s h (.slice (some ⟨b,0,none⟩) n (2*n+op.toNat)) n L
def dv:Value->Option Nat
 |.slice (some a) _ _=>some a.block
 | _=>none
def OL.keep {e s n:Nat} {h h':H} {v:Value} {L:List Value} (o:OL e s h v n L) (hn:h.next<=h'.next) (hk:∀b,dv v=some b->b<h.next->hget h' b=hget h b):OL e s h' v n L:=by
 cases o with
 | nil=>exact .nil
 | row hb hq hL hc hp=>exact .row (fz:=0) (Jp hb hn) ((hk _ rfl hb).trans hq) hL hc hp
def OL.blk {e s n:Nat} {h:H} {v:Value} {L:List Value} (o:OL e s h v n L) (b:Nat) (hb:dv v=some b):b<h.next:=by
 cases o with
 | nil=>exact nomatch hb
 | row h1=>cases hb;exact h1
def ud {E:Env} {t e s n:Nat} {i:TypeInfo} {z xs:List Value} (T1:ug E t e s i z) {h:H} {v:Value} {L:List Value} (o:OL e s h v n L) (hx:xs.length=s) (hc1:xs.all cell1=true)
  (hn:h.next+2<=1000000000) (hn2:n<=9000):
  ∃v' h',ba E (ag h (.row e s false false 0 (T.ofList unk xs))) .append [v,.slice (some ⟨h.next,0,none⟩) 1 2] [t,t]=some (v',h')/\OL e s h' v' (n+1) (L++xs)/\h'.next=h.next+2 /\
   dv v'=some (h.next+1)/\∀id,id<h.next->dv v≠some id->hget h' id=hget h id:=by
 obtain⟨s0,s1⟩:=And.intro T1.s0 T1.s1;have hg1:(ag h (.row e s false false 0 (T.ofList unk xs))).objs.get h.next=.row e s false false 0 (T.ofList unk xs):=by rw[<-bv];exact az _ _ (by omega)
 have hnx:(ag h (.row e s false false 0 (T.ofList unk xs))).next=h.next+1:=rfl;have hroom:room (ag h (.row e s false false 0 (T.ofList unk xs)))=true:=aM (by rw[hnx];omega);have hsrc:lE (ag h (.row e s false false 0 (T.ofList unk xs))) s 1 (.slice (some ⟨h.next,0,none⟩) 1 2)=some xs:=by have:ble (0+1*s) s=true:=aM (by omega);simp only[lE,hg1,this,Jo];rw[Nat.one_mul,<-hx,show (0:Nat)=0 from rfl];exact congrArg some (qT xs xs.length rfl)
 have hnews:jl (ag h (.row e s false false 0 (T.ofList unk xs))) s z false (.slice (some ⟨h.next,0,none⟩) 1 2)=some (1,xs):=by simp only[jl,JP,ja,hsrc]
 obtain⟨s',hs'⟩:∃s',i.size=s'+1:=⟨s-1,by rw[T1.sz];omega⟩;have hnum:io E [t]=some false:=by simp only[io,T1.u]
 have hss:s'+1=s:=by rw[<-hs',T1.sz]
 have hzb:beq z.length (s'+1)=true:=gm (by rw[T1.zl,hss]);have hbt:=T1.bt;have b1:ble ((n+1)*(i.bytes+1)) 1000000000=true:=aM (JV (KP (show n+1<=9001 by omega) (show i.bytes+1<=1001 by omega)) (by decide));have b2:ble ((n+1)*(s'+1)) 1000000000=true:=aM (JV (KP (show n+1<=9001 by omega) (show s'+1<=100 by omega)) (by decide));have hnews':jl (ag h (.row e s false false 0 (T.ofList unk xs))) (s'+1) z false (.slice (some ⟨h.next,0,none⟩) 1 2)=some (1,xs):=by rw[hss];exact hnews
 have hnx':=hnx;rw[cY] at hnews' hroom hnx';cases o with
 | nil=>
  have b1':ble ((0+1)*(i.bytes+1)) 1000000000=true:=b1;have b2':ble ((0+1)*(s'+1)) 1000000000=true:=b2;have e0:ba E (ag h (.row e s false false 0 (T.ofList unk xs))) .append [.slice none 0 0,.slice (some ⟨h.next,0,none⟩) 1 2] [t,t]=some (.slice (some ⟨h.next+1,0,none⟩) 1 3,ag (ag h (.row e s false false 0 (T.ofList unk xs))) (.row e s true false 0 (T.ofList unk xs))):=by rw[cY];simp only[ba,Option.isSome_none,hnum,eT,T1.u,T1.inf,T1.zc,hs',hnews',b1',b2',hzb,Bool.and_self,Jo,Nat.zero_div,show ble (0+1) 0=false from rfl,JP,hroom,JQ,hnx',cY];simp only[JN,Nat.one_mul,hss,Nat.mul_one]
  refine⟨_,_,e0,?_,rfl,rfl,λid hid _=>?_⟩
  ·have hq:hget (ag (ag h (.row e s false false 0 (T.ofList unk xs))) (.row e s true false 0 (T.ofList unk xs))) (h.next+1)=.row e ((0+1)*s) true false 0 (T.ofList unk xs):=by rw[show h.next+1=(ag h (.row e s false false 0 (T.ofList unk xs))).next from rfl,az _ _ (by rw[hnx];omega),JN,Nat.one_mul]
   exact .row (n:=1) (op:=true) (fz:=0) (show h.next+1<h.next+2 by omega) hq (by simp[hx]) (λj hj=>by rw[aI,KE]) (by omega)
  ·rw[bN _ _ (by rw[hnx];omega) (by rw[hnx];omega),bN _ _ (by omega) hid]
 | row hb hq hL hc hp=>
  rename_i b fz op cells;have hqp:(ag h (.row e s false false 0 (T.ofList unk xs))).objs.get b=.row e (n*s) op false 0 cells:=by rw[<-bv,bN _ _ (by omega) hb,hq]
  rw[cY] at hqp;have g1:ble (n+1) n=false:=dt (by omega);have hl1:∀op:Bool,(2*n+op.toNat) / 2=n:=λop=>by cases op <;> simp[Bool.toNat] <;> omega
  cases op with
  | false=>
   have h2:beq ((2*n+Bool.toNat false)%2) 0=true:=gm (by simp[Bool.toNat]);have h3:ble (0+n*(s'+1)) (n*s)=true:=aM (by rw[hss];omega);have e0:ba E (ag h (.row e s false false 0 (T.ofList unk xs))) .append [.slice (some ⟨b,0,none⟩) n (2*n+Bool.toNat false),.slice (some ⟨h.next,0,none⟩) 1 2] [t,t] =
     some (.slice (some ⟨h.next+1,0,none⟩) (n+1) (2*(n+1)+1),ag (ag h (.row e s false false 0 (T.ofList unk xs))) (.row e ((n+1)*s) true false 0 (T.ofList unk (ae cells (n*s) 0++xs)))):=by
    rw[cY];simp only[ba,Option.isSome_none,hnum,eT,T1.u,T1.inf,T1.zc,hs',hnews',b1,b2,hzb,Bool.and_self,Jo,JP,hl1,g1,hroom,hqp,h2,h3,hnx',cY,dK];simp only[hss]
   refine⟨_,_,e0,?_,rfl,rfl,λid hid _=>?_⟩
   ·have hq2:hget (ag (ag h (.row e s false false 0 (T.ofList unk xs))) (.row e ((n+1)*s) true false 0 (T.ofList unk (ae cells (n*s) 0++xs)))) (h.next+1)=.row e ((n+1)*s) true false 0 (T.ofList unk (ae cells (n*s) 0++xs)):=by rw[show h.next+1=(ag h (.row e s false false 0 (T.ofList unk xs))).next from rfl,az _ _ (by rw[hnx];omega)]
    refine .row (n:=n+1) (op:=true) (fz:=0) (show h.next+1<h.next+2 by omega) hq2 (by rw[Jt,hL,hx,Nat.succ_mul]) (λj hj=>?_) (by omega);have hcl:ae cells (n*s) 0=L:=by rw[dK,<-hL];exact dD L cells 0 λk hk=>by rw[JN,<-bI,hc k hk]
    rw[aI,hcl]
   ·rw[bN _ _ (by rw[hnx];omega) (by rw[hnx];omega),bN _ _ (by omega) hid]
  | true=>
   have h2:beq ((2*n+Bool.toNat true)%2) 0=false:=dB (by simp[Bool.toNat]);have h4:beq n n=true:=JQ n;have h5:beq (n*(s'+1)) (n*s)=true:=gm (by rw[hss]);have h6:ble 0 (n*s)=true:=aM (JY _);have h7:beq e e=true:=JQ e;have e0:ba E (ag h (.row e s false false 0 (T.ofList unk xs))) .append [.slice (some ⟨b,0,none⟩) n (2*n+Bool.toNat true),.slice (some ⟨h.next,0,none⟩) 1 2] [t,t] =
     some (.slice (some ⟨h.next+1,0,none⟩) (n+1) (2*(n+1)+1),ag (hset (ag h (.row e s false false 0 (T.ofList unk xs))) b .dead) (.row e ((n+1)*s) true false 0 (putCells cells (n*s) xs))):=by
    rw[cY];simp only[ba,Option.isSome_none,hnum,eT,T1.u,T1.inf,T1.zc,hs',hnews',b1,b2,hzb,Bool.and_self,Jo,JP,hl1,g1,hroom,hqp,h2,h4,h5,h6,h7,JQ,hc1,Bool.not_false,hnx',cY,fi];simp only[hss]
   have hnx2:(hset (ag h (.row e s false false 0 (T.ofList unk xs))) b .dead).next=h.next+1:=rfl;refine⟨_,_,e0,?_,rfl,rfl,λid hid hne=>?_⟩
   ·have hq2:hget (ag (hset (ag h (.row e s false false 0 (T.ofList unk xs))) b .dead) (.row e ((n+1)*s) true false 0 (putCells cells (n*s) xs))) (h.next+1)=.row e ((n+1)*s) true false 0 (putCells cells (n*s) xs):=by rw[<-hnx2,az _ _ (by rw[hnx2];omega)]
    refine .row (n:=n+1) (op:=true) (fz:=0) (show h.next+1<h.next+2 by omega) hq2 (by rw[Jt,hL,hx,Nat.succ_mul]) (λj hj=>?_) (by omega);have hns:n*s+xs.length<=1000000000:=JV (Nat.add_le_add (KP hn2 s1) (show xs.length<=100 by omega)) (by decide);rw[bI,bJ _ _ _ hns];rw[Jt] at hj;by_cases q:j<L.length
    ·rw[if_neg (by omega),<-bI,hc j q,Jc,Jc,Kj q]
    ·rw[if_pos (by omega),Jc,Jc,KA (by omega),hL]
   ·rw[bN _ _ (by rw[hnx2];omega) (by rw[hnx2];omega),bS _ _ _ _ (by omega),if_neg (λe=>hne (by rw[e];rfl)),bN _ _ (by omega) hid]
structure US (E:Env):Prop where
 u3:E.und 3=some (.int .i64)
 u5:E.und 5=some (.int .u8)
 u9:E.und 9=some .string
section u8
variable {E : Env} {m n : Nat} {cx cy : Bool} {k : Value -> R} {ty : TypeId} (hE : E.und ty = some (.int .u8))
include hE
theorem agE:binR (binC E .gtr ty cx cy) (.int .u8 (.ofNat m)) (.int .u8 (.ofNat n)) k=k (.bool (ble (n+1) m)):=by unfold binR binC;rw[hE];rfl
theorem ah1:binR (binC E .lss ty cx cy) (.int .u8 (.ofNat m)) (.int .u8 (.ofNat n)) k=k (.bool (ble (m+1) n)):=by unfold binR binC;rw[hE];rfl
theorem hG:binR (binC E .eql ty cx cy) (.int .u8 (.ofNat m)) (.int .u8 (.ofNat n)) k=k (.bool (beq m n)):=by unfold binR binC;rw[hE];rfl
theorem Fg:binR (binC E .neq ty cx cy) (.int .u8 (.ofNat m)) (.int .u8 (.ofNat n)) k=k (.bool (!beq m n)):=by unfold binR binC;rw[hE,<-pq];rfl
end u8
def cF (b:UInt8):Value:=.int .u8 (.ofNat b.toNat)
section us
variable {E : Env} (u : US E) {rc : RC}
include u
theorem tg {s:List UInt8} {j:Nat} {b:UInt8} {kd:IntKind} (h:s[j]?=some b):dA E 9 (.string ⟨⟨s⟩⟩) (.int kd (.ofNat j))=some (cF b):=by unfold dA;rw[u.u9];simp only[h];rfl
theorem js {h:H} {s:List UInt8}:aX E h 9 (.string ⟨⟨s⟩⟩)=some (.int .i64 (.ofNat s.length)):=by unfold aX;rw[u.u9];rfl
theorem aqm {cx cy:Bool} {a b:List UInt8} {k:Value->R} (h:a.length+b.length<=1000000000):binR (binC E .add 9 cx cy) (.string ⟨⟨a⟩⟩) (.string ⟨⟨b⟩⟩) k=k (.string ⟨⟨a++b⟩⟩):=by
 have hb:ij E .add 9 cx cy (.string ⟨⟨a⟩⟩) (.string ⟨⟨b⟩⟩)=some (.string ⟨⟨a++b⟩⟩):=by simp only[ij,aM h,Jo]
 unfold binR binC;rw[u.u9];show bindO (ij E .add 9 cx cy (.string ⟨⟨a⟩⟩) (.string ⟨⟨b⟩⟩)) k=_;rw[hb];rfl
theorem rQ {cx cy:Bool} {a b:List UInt8} {k:Value->R}:binR (binC E .eql 9 cx cy) (.string ⟨⟨a⟩⟩) (.string ⟨⟨b⟩⟩) k=k (.bool (a==b)):=by
 have hb:ij E .eql 9 cx cy (.string ⟨⟨a⟩⟩) (.string ⟨⟨b⟩⟩)=some (.bool (a==b)):=by simp only[ij,eB]
 unfold binR binC;rw[u.u9];show bindO (ij E .eql 9 cx cy (.string ⟨⟨a⟩⟩) (.string ⟨⟨b⟩⟩)) k=_;rw[hb];rfl
theorem Tl {cx cy:Bool} {a b:List UInt8} {k:Value->R}:binR (binC E .neq 9 cx cy) (.string ⟨⟨a⟩⟩) (.string ⟨⟨b⟩⟩) k=k (.bool (!(a==b))):=by
 have hb:ij E .neq 9 cx cy (.string ⟨⟨a⟩⟩) (.string ⟨⟨b⟩⟩)=some (.bool (!(a==b))):=by simp only[ij,eB]
 unfold binR binC;rw[u.u9];show bindO (ij E .neq 9 cx cy (.string ⟨⟨a⟩⟩) (.string ⟨⟨b⟩⟩)) k=_;rw[hb];rfl
omit u in
theorem mG:(ByteArray.mk #[])=(⟨⟨[]⟩⟩:ByteArray):=rfl
end us
def ak (s:Bs):Value:=.string ⟨⟨s⟩⟩
def SO (h:H) (v:Value) (l:List Bs):Prop:=OL 9 1 h v l.length (l.map ak)
def qZ {E:Env} {i:TypeInfo} (T1:ug E 37 9 1 i [.string ⟨⟨[]⟩⟩]) {h:H} {v:Value} {l:List Bs} (o:SO h v l) (hn:h.next+2<=1000000000) (hl:l.length<=9000) (s:Bs):
  ∃v' h',ba E (ag h (.row 9 1 false false 0 (T.ofList unk [ak s]))) .append [v,.slice (some ⟨h.next,0,none⟩) 1 2] [37,37]=some (v',h')/\SO h' v' (l ++ [s])/\h'.next=h.next+2 /\
   dv v'=some (h.next+1)/\∀id,id<h.next->dv v≠some id->hget h' id=hget h id:=by
 obtain⟨v',h',e,o',n,b,f⟩:=ud T1 o (xs:=[ak s]) rfl rfl hn hl;refine⟨v',h',e,?_,n,b,f⟩;unfold SO;rw[Jt,List.map_append];exact o'
structure Fr (h h':H) (n:Nat):Prop where
 le:h.next<=h'.next
 ub:h'.next<=h.next+n
 old:∀id,id<h.next->hget h' id=hget h id
def Fr.refl (h:H) (n:Nat):Fr h h n:=⟨Jd _,by omega,λ_ _=>rfl⟩
def Fr.trans {a b c:H} {m n k:Nat} (h1:Fr a b m) (h2:Fr b c n) (hk:m+n<=k):Fr a c k:=by have:=h1.le;have:=h1.ub;have:=h2.le;have:=h2.ub;exact⟨by omega,by omega,λid hid=>(h2.old id (by omega)).trans (h1.old id hid)⟩
def Fr.mono {a b:H} {m n:Nat} (h1:Fr a b m) (hk:m<=n):Fr a b n:=⟨h1.le,by have:=h1.ub;omega,h1.old⟩
def Fr.push {h:H} (o:AO) (hn:h.next<=1000000000):Fr h (ag h o) 1:=⟨Nat.le_succ _,Jd _,λid hid=>bN _ _ (by omega) hid⟩
def di (k:R):ifB true k=k:=rfl
inductive WL (h:H):Value->List Bs->Prop
 | nil:WL h (.slice none 0 0) []
 | gar {a:Addr} (ha:a.spot.isSome=true):WL h (.slice (some a) 0 0) []
 | row {b o e m c fz:Nat} {op ro:Bool} {cells:T Value} {l:List Bs} (hb:b<h.next) (hq:l ≠ []->hget h b=.row e m op ro fz cells) (hm:o+l.length<=m) (hcap:l.length<=c / 2)
   (hc:∀i,(hi:i<l.length)->getF cells (o+i)=ak l[i]):WL h (.slice (some ⟨b,o,none⟩) l.length c) l
def WL.frB {B:Nat} {h h':H} {v:Value} {l:List Bs} (o:WL h v l) (hn:h.next<=h'.next) (hk:∀id,id<h.next->hget h' id=hget h id):WL h' v l:=by
 cases o with
 | nil=>exact .nil
 | gar ha=>exact .gar ha
 | row hb hq hm hcap hc=>exact .row (Jp hb hn) (λh=>(hk _ hb).trans (hq h)) hm hcap hc
def WL.fr {h h':H} {n:Nat} {v:Value} {l:List Bs} (o:WL h v l) (f:Fr h h' n):WL h' v l:=o.frB (B:=0) f.le f.old
def SO.wl {h:H} {v:Value} {l:List Bs} (o:SO h v l):WL h v l:=by
 unfold SO at o;generalize hn:l.length=n at o;generalize hl:l.map ak=L at o;cases o with
 | nil=> obtain rfl:l=[]:=List.length_eq_zero_iff.1 hn;exact .nil
 | row hb hq hL hc hp=> subst hn hl;rename_i b fz op cells;refine .row (o:=0) (c:=2*l.length+op.toNat) hb (λ_=>hq) (by omega) (by omega) λi hi=>?_;rw[JN,hc i (by simpa using hi),Jc,JX,Jn hi];rfl
def fv {E:Env} {h h':H} {v:Value} {l:List Bs} (o:WL h v l) (u37:E.und 37=some (.slice 9)) (K:Value->R):onSl v (bindO (aX E h' 37 v) K) (λ_ n _=>K (.int .i64 (.ofNat n)))=K (.int .i64 (.ofNat l.length)):=by
 cases o with
 | nil=>
  rw[ji];have:aX E h' 37 (.slice none 0 0)=some (.int .i64 (.ofNat 0)):=by unfold aX;rw[u37];rfl
  rw[this];rfl
 | gar ha=>rw[bp];rfl
 | row=>rw[bp]
def fY:List (Bs × Bs)->List Value
 | []=>[]
 | (a,b) :: r=>ak a :: ak b :: fY r
def nP:∀(l:List (Bs × Bs)) (i:Nat) (h:i<l.length),(fY l).getD (2*i) unk=ak l[i].1/\(fY l).getD (2*i+1) unk=ak l[i].2
 | (a,b) :: r,0,_=>⟨rfl,rfl⟩
 | (a,b) :: r,i+1,h=>by have:=nP r i (by simpa using h);rw[show 2*(i+1)=2*i+1+1 by omega];exact this
structure bu (h h':H):Prop where
 le:h.next<=h'.next
 old:∀id,id<h.next->hget h' id=hget h id
def Fr.from {h h':H} {n:Nat} (f:Fr h h' n):bu h h':=⟨f.le,f.old⟩
def bu.trans {a b c:H} (h1:bu a b) (h2:bu b c):bu a c:=⟨JV h1.le h2.le,λid hid=>(h2.old id (Jp hid h1.le)).trans (h1.old id hid)⟩
def bu.refl (h:H):bu h h:=⟨Jd _,λ_ _=>rfl⟩
def WL.from {h h':H} {v:Value} {l:List Bs} (o:WL h v l) (f:bu h h'):WL h' v l:=o.frB (B:=0) f.le f.old
def Ey (h:H):H.mk h.1 h.2=h:=rfl
def vW (f:FuncId) (a b:Array Value) (k:FuncId->Array Value->Array Value->R):D1 (.func (.func f) a b) k=k f a b:=rfl
structure dj (B:Nat) (h h':H) (n:Nat):Prop where
 le:h.next<=h'.next
 ub:h'.next<=h.next+n
 old:∀id,id<B->hget h' id=hget h id
def dj.refl (B:Nat) (h:H) (n:Nat):dj B h h n:=⟨Jd _,by omega,λ_ _=>rfl⟩
def dj.trans {B:Nat} {a b c:H} {m n k:Nat} (h1:dj B a b m) (h2:dj B b c n) (hk:m+n<=k):dj B a c k:=by have:=h1.le;have:=h1.ub;have:=h2.le;have:=h2.ub;exact⟨by omega,by omega,λid hid=>(h2.old id hid).trans (h1.old id hid)⟩
def dj.mono {B:Nat} {a b:H} {m n:Nat} (h1:dj B a b m) (hk:m<=n):dj B a b n:=⟨h1.le,by have:=h1.ub;omega,h1.old⟩
def Fr.b {B:Nat} {a b:H} {n:Nat} (f:Fr a b n) (h:B<=a.next):dj B a b n:=⟨f.le,f.ub,λid hid=>f.old id (by omega)⟩
def dj.fr {a b:H} {n:Nat} (f:dj a.next a b n):Fr a b n:=⟨f.le,f.ub,f.old⟩
def dj.from {a b:H} {n:Nat} (f:dj a.next a b n):bu a b:=⟨f.le,f.old⟩
def dj.set {B b:Nat} {h:H} (hb:B<=b) (hs:b<=1000000000) (o:AO):dj B h (hset h b o) 0:=⟨Jd _,Jd _,λid hid=>eS _ _ hs (by omega)⟩
def eu (cells:T Value) {j:Nat} (hj:j<=100) (v:Value) (i:Nat):getF (putF cells j [v]) i=if i=j then v else getF cells i:=by
 rw[bI,fF,bJ _ _ _ (by simp;omega),bI];by_cases q:i=j
 ·subst q;rw[if_pos (by simp),if_pos rfl];simp
 ·rw[if_neg (by simp;omega),if_neg q]
def aP {c:Bool} (h:c=true) (k:R):ifB c k=k:=by rw[h];rfl
def SO.form {h:H} {v:Value} {l:List Bs} (o:SO h v l):(v=.slice none 0 0/\l=[]) \/ ∃b c cells op,v=.slice (some ⟨b,0,none⟩) l.length c/\b<h.next/\hget h b=.row 9 l.length op false 0 cells:=by
 unfold SO at o;generalize hn:l.length=n at o;generalize hl:l.map ak=L at o;cases o with
 | nil=>exact .inl ⟨rfl,List.length_eq_zero_iff.1 hn⟩
 | row hb hq hL hc hp=> subst hn;rename_i b fz op cells;exact .inr ⟨b,_,cells,op,rfl,hb,by rw[hq,Nat.mul_one]⟩
def SO.cell1 {h:H} {v:Value} {l:List Bs} (o:SO h v l):cell1F v=true:=by rcases o.form with ⟨rfl,_⟩ | ⟨b,c,cells,op,rfl,_⟩ <;> rfl
def SO.cells {h:H} {v:Value} {l:List Bs} (o:SO h v l) (k:List Value->R):onCells v k=k [v]:=by rcases o.form with ⟨rfl,_⟩ | ⟨b,c,cells,op,rfl,_⟩ <;> rfl
def SO.same {h:H} {v:Value} {l:List Bs} (o:SO h v l):am v v=true:=by
 rcases o.form with ⟨rfl,_⟩ | ⟨b,c,cells,op,rfl,_⟩
 ·rfl
 ·simp[am,iT,gu]
def SO.keep {h h':H} {v:Value} {l:List Bs} (o:SO h v l) (hn:h.next<=h'.next) (hk:∀b,dv v=some b->b<h.next->hget h' b=hget h b):SO h' v l:=OL.keep o hn hk
def SO.blk {h:H} {v:Value} {l:List Bs} (o:SO h v l) (b:Nat) (hb:dv v=some b):b<h.next:=OL.blk o b hb
def SO.row9 {h:H} {v:Value} {l:List Bs} (o:SO h v l) {b:Nat} (hb:dv v=some b):∃n op cells,hget h b=.row 9 n op false 0 cells:=by
 rcases o.form with ⟨rfl,_⟩ | ⟨b',c,cells,op,rfl,_,e⟩
 ·exact nomatch hb
 ·cases hb;exact⟨_,_,_,e⟩
def gg (a:Addr):am (.pointer (some a)) (.pointer (some a))=true:=by simp[am,iT,gu]
def jF (k:IntKind) (n:Int) (K:List Value->R):onCells (.int k n) K=K [.int k n]:=rfl
def DV (s:Bs) (K:List Value->R):onCells (ak s) K=K [ak s]:=rfl
def oG (h:H) (o:AO):hset (H.mk (Nat.add h.1 1) h.2) h.1 o=ag h o:=rfl
def AP (s:Bs):dx (λm=>some (Nat.mul m 1,1)) (List.flatten (List.replicate 1 (cellsOfV (.string (ByteArray.mk #[]))))) [(0,ak s)]=some [ak s]:=rfl
def jj (l:List Value) (n:R) (f:List Value->R):@Option.rec (List Value) (λ_=>R) n f (some l)=f l:=rfl
def cg {o:Option (Value × H)} {v:Value} {h:H} (e:o=some (v,h)) (K:Value->H->R):cE o K=K v h:=by rw[e];rfl
def WL.cells {h:H} {v:Value} {l:List Bs} (o:WL h v l) (k:List Value->R):onCells v k=k [v]:=by cases o <;> rfl
def WL.cell1 {h:H} {v:Value} {l:List Bs} (o:WL h v l):cell1F v=true:=by cases o <;> rfl
def WL.same {h:H} {v:Value} {l:List Bs} (o:WL h v l):am v v=true:=by
 cases o with
 | nil=>rfl
 | gar=>simp[am,iT,gu]
 | row=>simp[am,iT,gu]
def iC (k:IntKind) (n:Int):am (.int k n) (.int k n)=true:=by simp[am,iT,gu]
end
abbrev qg:List Value:=[.int .i64 (.ofNat 0),.int .u8 (.ofNat 0),.string (ByteArray.mk #[]),.slice none 0 0,.int .i64 (.ofNat 0),.int .i64 (.ofNat 0),.int .i64 (.ofNat 0),.int .u8 (.ofNat 0),.slice none 0 0]
def p13 (E:Env) (rc:RC) (a0:Value) (h:H) (k:Value->H->R):R:=binR (binC E .lss 3 false true) a0 (.int .i64 (.ofNat 0)) λa=>ac (λb c=>ac (λd e=>onB a (@joinR [2] (λ_ f=>rc 26 [a0] f λg i=>k g i) λf=>onB d (f (.string (ByteArray.mk #[]),()) e) (k (.string (ByteArray.mk #[])) e)) (@joinR [2] (λ_ f=>rc 26 [a0] f λg i=>k g i) λ_=>k (.string (ByteArray.mk #[])) e)) λd=>aF a (binR (binC E .gtr 3 false true) b (.int .i64 (.ofNat 4294967296)) λe=>d e c) (d undef c) (d undef c)) λb=>aF a (b a0 h) (b undef h) (b undef h)
def Zg (t:aN) (rc:RC) (a0:Value) (h:H) (k:Value->H->R):(cf (EX t) KK 13).run rc [a0] h k=p13 (EX t) rc a0 h k:=by kernel_rfl
def p14 (E:Env) (rc:RC) (a0:Value) (a1:Value) (h:H) (k:Value->H->R):R:=rc 27 [a0] h λ_ a=>bindO (be a0) λb=>onPtr b λc=>onRow (hget a c.1) λ_ d _ _ _ e=>ifB (ble (Nat.succ (Nat.add c.2 1)) d) (cE (ba E a Builtin.append [getF e (Nat.add c.2 1),a1] [42,9]) λf g=>bindO (be a0) λi=>onPtr i λj=>onCells f λl=>onRow (hget g j.1) λm n o p q r=>ifB (notB p) (ifB (beq (lenF l) 1) (ifB (ble q (Nat.add j.2 1)) (ifB (ble (Nat.add (Nat.add j.2 1) 1) n) (ifB (ble n 1000000000) (ifB (allF (λs=>cell1F s) l) (letH (hset g j.1 (.row m n o false q (putF r (Nat.add j.2 1) l))) λs=>bindO (aX E s 9 a1) λt=>ifB (nT [t,.nilIface]) (k (.tuple ⟨[t,.nilIface]⟩) s))))))))
def afA (t:aN) (rc:RC) (a0:Value) (a1:Value) (h:H) (k:Value->H->R):(cf (EX t) KK 14).run rc [a0,a1] h k=p14 (EX t) rc a0 a1 h k:=by kernel_rfl
def p16 (E:Env) (rc:RC) (a0:Value) (h:H) (k:Value->H->R):R:=bindO (be a0) λa=>onPtr a λb=>onRow (hget h b.1) λ_ c _ _ _ d=>ifB (ble (Nat.succ (Nat.add b.2 1)) c) (joinL (λe=>k e h) λe=>onSl (getF d (Nat.add b.2 1)) (bindO (aX E h 42 (getF d (Nat.add b.2 1))) e) λ_ f _=>e (.int .i64 (.ofNat f)))
def ac8 (t:aN) (rc:RC) (a0:Value) (h:H) (k:Value->H->R):(cf (EX t) KK 16).run rc [a0] h k=p16 (EX t) rc a0 h k:=by kernel_rfl
def p17 (E:Env) (rc:RC) (a0:Value) (h:H) (k:Value->H->R):R:=ifB (ble h.1 1000000000) (letH (H.mk h.1 h.2) λa=>bindO (be a0) λb=>onPtr b λc=>onRow (hget a c.1) λ_ d _ _ _ e=>ifB (ble (Nat.succ (Nat.add c.2 1)) d) (bindO (bF E a Builtin.unsafeSliceData [getF e (Nat.add c.2 1)] [42]) λf=>bindO (be a0) λg=>onPtr g λi=>onRow (hget a i.1) λ_ j _ _ _ l=>ifB (ble (Nat.succ (Nat.add i.2 1)) j) (joinL (λm=>cE (ba E a Builtin.unsafeString [f,m] [75,3]) λn o=>k n o) λm=>onSl (getF l (Nat.add i.2 1)) (bindO (aX E a 42 (getF l (Nat.add i.2 1))) m) λ_ n _=>m (.int .i64 (.ofNat n)))))
def amF (t:aN) (rc:RC) (a0:Value) (h:H) (k:Value->H->R):(cf (EX t) KK 17).run rc [a0] h k=p17 (EX t) rc a0 h k:=by kernel_rfl
def p27 (E:Env) (rc:RC) (a0:Value) (h:H) (k:Value->H->R):R:=bindO (be a0) λa=>onPtr a λ_=>onPtr a λb=>onRow (hget h b.1) λ_ c _ _ _ d=>ifB (ble (Nat.succ b.2) c) (binR (binC E .eql 41 false true) (getF d b.2) (.pointer none) λe=>@joinR [] (λ_ f=>k (.tuple ⟨[]⟩) f) λf=>onB e (bindO (be a0) λg=>onPtr g λ_=>onPtr g λi=>onRow (hget h i.1) λ_ j _ _ _ l=>ifB (ble (Nat.succ i.2) j) (binR (binC E .neq 41 false false) (getF l i.2) a0 λm=>@joinR [] (λ_ n=>f () n) λn=>onB m (n () h) none)) (bindO (aY E h 41 100 a0) λg=>rc 55 [g] h λi j=>bindO (aY E j 100 41 i) λl=>bindO (be a0) λm=>onPtr m λ_=>onPtr m λn=>onCells l λo=>onRow (hget j n.1) λp q r s t u=>ifB (notB s) (ifB (beq (lenF o) 1) (ifB (ble t n.2) (ifB (ble (Nat.add n.2 1) q) (ifB (ble q 1000000000) (ifB (allF (λv=>cell1F v) o) (letH (hset j n.1 (.row p q r false t (putF u n.2 o))) λv=>f () v))))))))
def X3 (t:aN) (rc:RC) (a0:Value) (h:H) (k:Value->H->R):(cf (EX t) KK 27).run rc [a0] h k=p27 (EX t) rc a0 h k:=by kernel_rfl
def p29 (E:Env) (rc:RC) (h:H) (k:Value->H->R):R:=ifB (ble h.1 1000000000) (letH (ag h (.row 9 5 false false 0 (T.ofList unk (lay (lay (lay (lay (lay (List.flatten (List.replicate 5 (cellsOfV (.string (ByteArray.mk #[]))))) 0 (cellsOfV (.string ⟨⟨[110,111,116,101]⟩⟩))) 1 (cellsOfV (.string ⟨⟨[97,108,108,111,99]⟩⟩))) 2 (cellsOfV (.string ⟨⟨[97,103,97,105,110]⟩⟩))) 3 (cellsOfV (.string ⟨⟨[107,105,108,108]⟩⟩))) 4 (cellsOfV (.string ⟨⟨[100,101,115,116,114,111,121]⟩⟩)))))) λa=>k (.slice (some (Addr.mk h.1 0 none)) 5 10) a)
def ahN (t:aN) (rc:RC) (h:H) (k:Value->H->R):(cf (EX t) KK 29).run rc [] h k=p29 (EX t) rc h k:=by kernel_rfl
def p34 (E:Env) (rc:RC) (a0:Value) (h:H) (k:Value->H->R):R:=rc 35 [a0] h λa b=>onB a (k (.bool true) b) (k (.bool false) b)
def adq (t:aN) (rc:RC) (a0:Value) (h:H) (k:Value->H->R):(cf (EX t) KK 34).run rc [a0] h k=p34 (EX t) rc a0 h k:=by kernel_rfl
def p35 (E:Env) (rc:RC) (a0:Value) (h:H) (k:Value->H->R):R:=binR (binC E .neq 9 false true) a0 (.string (ByteArray.mk #[])) λa=>ac (λb c=>ac (λd e=>ac (λf g=>onB a (k (.bool false) g) (k f g)) λf=>aF a (f undef e) (onB d (f (.bool true) e) (f (.bool false) e)) (f undef e)) λd=>aF a (d undef c) (rc 63 [b,.string ⟨⟨[32,10]⟩⟩] c d) (d undef c)) λb=>aF a (b undef h) (b a0 h) (b undef h)
def aco (t:aN) (rc:RC) (a0:Value) (h:H) (k:Value->H->R):(cf (EX t) KK 35).run rc [a0] h k=p35 (EX t) rc a0 h k:=by kernel_rfl
def p59 (E:Env) (rc:RC) (a0:Value) (a1:Value) (h:H) (k:Value->H->R):R:=bindO (be a0) λa=>onPtr a λ_=>onPtr a λb=>onRow (hget h b.1) λ_ c _ _ _ d=>ifB (ble (Nat.succ b.2) c) (@Option.rec (List Value) (λ_=>R) none (λe=>ifB (ble h.1 1000000000) (letH (ag h (.row 9 1 false false 0 (T.ofList unk e))) λf=>cE (ba E f Builtin.append [getF d b.2,.slice (some (Addr.mk h.1 0 none)) 1 2] [37,37]) λg i=>bindO (be a0) λj=>onPtr j λ_=>onPtr j λl=>onCells g λm=>onRow (hget i l.1) λn o p q r s=>ifB (notB q) (ifB (beq (lenF m) 1) (ifB (ble r l.2) (ifB (ble (Nat.add l.2 1) o) (ifB (ble o 1000000000) (ifB (allF (λt=>cell1F t) m) (letH (hset i l.1 (.row n o p false r (putF s l.2 m))) λt=>k (.tuple ⟨[]⟩) t)))))))) (dx (λe=>some (Nat.mul e 1,1)) (List.flatten (List.replicate 1 (cellsOfV (.string (ByteArray.mk #[]))))) [(0,a1)]))
def adW (t:aN) (rc:RC) (a0:Value) (a1:Value) (h:H) (k:Value->H->R):(cf (EX t) KK 59).run rc [a0,a1] h k=p59 (EX t) rc a0 a1 h k:=by kernel_rfl
def p60 (E:Env) (rc:RC) (a0:Value) (h:H) (k:Value->H->R):R:=@joinR [2] (λ_ a=>k a0 a) λa=>binR (binC E .eql 9 false true) a0 (.string (ByteArray.mk #[])) λb=>@joinR [2] (λc d=>a (c.1,()) d) λc=>onB b (binR (binC E .eql 9 false true) a0 (.string ⟨⟨[46]⟩⟩) λd=>@joinR [2] (λe f=>c (e.1,()) f) λe=>onB d (e (.string (ByteArray.mk #[]),()) h) (k (.string (ByteArray.mk #[])) h)) (k (.string ⟨⟨[46]⟩⟩) h)
def akB (t:aN) (rc:RC) (a0:Value) (h:H) (k:Value->H->R):(cf (EX t) KK 60).run rc [a0] h k=p60 (EX t) rc a0 h k:=by kernel_rfl
def p33 (E:Env) (rc:RC) (a0:Value) (a1:Value) (h:H) (k:Value->H->R):R:=rc 62 [a0,a1] h λa b=>binR (binC E .geq 3 false true) a (.int .i64 (.ofNat 0)) λc=>k c b
def acS (t:aN) (rc:RC) (a0:Value) (a1:Value) (h:H) (k:Value->H->R):(cf (EX t) KK 33).run rc [a0,a1] h k=p33 (EX t) rc a0 a1 h k:=by kernel_rfl
def pW (E:Env) (a a0 a1:Value) (rc:RC) (k:Value->H->R) (b:aa [4]->H->R):(aa [4,8]->H->R)->aa [4,8]->H->R:=λc d e=>binR (binC E .lss 3 false false) d.2.1 a λf=>@joinR [] (λ_ g=>@joinR [4] (λh i=>binR (binC E .add 3 false true) d.2.1 (.int .i64 (.ofNat 1)) λj=>c (h.1,(j,())) i) λh=>onNat d.2.1 none λi=>onSl a0 none λj l _=>ifB (ble (Nat.succ i) l) (addOffF j (Nat.mul i 1) λm=>onPtr m λn=>onRow (hget g n.1) λ_ o _ _ _ p=>ifB (ble (Nat.succ n.2) o) (D1 a1 λq r s=>rc q (pa r s [getF p n.2]) g λt u=>@joinR [4] (λv w=>h (v.1,()) w) λv=>onB t (v (d.1,()) u) (k d.2.1 u)))) λg=>onB f (b (d.1,()) e) (g () e)
def p62 (E:Env) (rc:RC) (a0:Value) (a1:Value) (h:H) (k:Value->H->R):R:=joinL (λa=>@joinR [4] (λ_ b=>k (.int .i64 (.negSucc 0)) b) λb=>@loopF [4,8] (pW E a a0 a1 rc k b) cM (.int .i64 (.ofNat 0),(.int .i64 (.ofNat 0),())) h) λa=>onSl a0 (bindO (aX E h 37 a0) a) λ_ b _=>a (.int .i64 (.ofNat b))
def ae1 (t:aN) (rc:RC) (a0:Value) (a1:Value) (h:H) (k:Value->H->R):(cf (EX t) KK 62).run rc [a0,a1] h k=p62 (EX t) rc a0 a1 h k:=by kernel_rfl
section
section
variable {E : Env} (hE : E.und 3 = some (.int .i64)) {cx cy : Bool} {a : Int} {n : Nat} {k : Value -> R}
include hE
theorem U1:binR (binC E .lss 3 cx cy) (.int .i64 a) (.int .i64 (.ofNat n)) k=k (.bool (decide (a<n))):=by
 cases a with
 | ofNat m=>
  rw[uQ hE]
  congr 2
  by_cases q:m<n
  ·rw[aM (by omega),decide_eq_true (by show (m:Int)<n;omega)]
  ·rw[dt (by omega),decide_eq_false (by show ¬ (m:Int)<n;omega)]
 | negSucc m=> have hb:ij E .lss 3 cx cy (.int .i64 (.negSucc m)) (.int .i64 (.ofNat n))=some (.bool (decide (Int.negSucc m<n))):=rfl;unfold binR binC;rw[hE];show bindO (ij E .lss 3 cx cy (.int .i64 (.negSucc m)) (.int .i64 (.ofNat n))) k=_;rw[hb];rfl
theorem atg:binR (binC E .gtr 3 cx cy) (.int .i64 a) (.int .i64 (.ofNat n)) k=k (.bool (decide (a > n))):=by
 cases a with
 | ofNat m=>
  rw[fD hE]
  congr 2
  by_cases q:n<m
  ·rw[aM (by omega),decide_eq_true (by show (m:Int) > n;omega)]
  ·rw[dt (by omega),decide_eq_false (by show ¬ (m:Int) > n;omega)]
 | negSucc m=> have hb:ij E .gtr 3 cx cy (.int .i64 (.negSucc m)) (.int .i64 (.ofNat n))=some (.bool (decide (Int.negSucc m > n))):=rfl;unfold binR binC;rw[hE];show bindO (ij E .gtr 3 cx cy (.int .i64 (.negSucc m)) (.int .i64 (.ofNat n))) k=_;rw[hb];rfl
theorem sP:binR (binC E .geq 3 cx cy) (.int .i64 a) (.int .i64 (.ofNat n)) k=k (.bool (decide (a ≥ n))):=by
 cases a with
 | ofNat m=>
  rw[iw hE]
  congr 2
  by_cases q:n<=m
  ·rw[aM (by omega),decide_eq_true (by show (m:Int) ≥ n;omega)]
  ·rw[dt (by omega),decide_eq_false (by show ¬ (m:Int) ≥ n;omega)]
 | negSucc m=> have hb:ij E .geq 3 cx cy (.int .i64 (.negSucc m)) (.int .i64 (.ofNat n))=some (.bool (decide (Int.negSucc m ≥ n))):=rfl;unfold binR binC;rw[hE];show bindO (ij E .geq 3 cx cy (.int .i64 (.negSucc m)) (.int .i64 (.ofNat n))) k=_;rw[hb];rfl
theorem IA:binR (binC E .neq 3 cx cy) (.int .i64 a) (.int .i64 (.ofNat n)) k=k (.bool (!(a==(n:Int)))):=by
 cases a with
 | ofNat m=>
  rw[nG hE]
  congr 2
  by_cases q:m=n
  ·subst q;rw[JQ];simp
  ·rw[dB q];simp;omega
 | negSucc m=> have hb:ij E .neq 3 cx cy (.int .i64 (.negSucc m)) (.int .i64 (.ofNat n))=some (.bool (!(Int.negSucc m==(n:Int)))):=rfl;unfold binR binC;rw[hE];show bindO (ij E .neq 3 cx cy (.int .i64 (.negSucc m)) (.int .i64 (.ofNat n))) k=_;rw[hb];rfl
theorem ag6:binR (binC E .eql 3 cx cy) (.int .i64 a) (.int .i64 (.negSucc 0)) k=k (.bool (decide (a=-1))):=by
 have hb:ij E .eql 3 cx cy (.int .i64 a) (.int .i64 (.negSucc 0))=some (.bool (a==(-1:Int))):=rfl;have hd:(a==(-1:Int))=decide (a=-1):=by
  by_cases q:a=-1
  ·subst q;rfl
  ·rw[decide_eq_false q];exact JM.2 q
 rw[<-hd];unfold binR binC;rw[hE];cases a with
 | ofNat m=> show bindO (ij E .eql 3 cx cy (.int .i64 (.ofNat m)) (.int .i64 (.negSucc 0))) k=_;rw[hb];rfl
 | negSucc m=> show bindO (ij E .eql 3 cx cy (.int .i64 (.negSucc m)) (.int .i64 (.negSucc 0))) k=_;rw[hb];rfl
end
def cR (n:Int):Bs:=if 0<=n/\n<=4294967296 then Lib.decDigits n.toNat else []
def dF (s:Bs):Bs:=if s=[] then [46] else if s=[46] then [] else s
def eX (n:Int):Prop:=-9223372036854775808<=n/\n<=9223372036854775807
def G2 (rc:RC) (Q:H->Prop):Prop:=∀(n:Int) (h:H) (k:Value->H->R),eX n->Q h->rc 26 [.int .i64 n] h k=k (ak (Lib.itoa n)) h
variable {E : Env} (u : US E) {rc : RC}
def Hz {n:Int} (h:0<=n):Lib.itoa n=Lib.decDigits n.toNat:=by obtain⟨m,rfl⟩:=Int.eq_ofNat_of_zero_le h;rfl
include u
theorem UD {Q:H->Prop} (hI:G2 rc Q) {n:Int} (hn:eX n) {h:H} (hq:Q h) (k:Value->H->R):p13 E rc (.int .i64 n) h k=k (ak (cR n)) h:=by
 have u3:=u.u3;have hi:=hI n h;unfold p13;rw[U1 u3];by_cases q:n<((0:Nat):Int)
 ·rw[decide_eq_true q];simp only[↓aE,↓cu,↓ah,↓aA];unfold cR;rw[if_neg (by omega)];rfl
 ·rw[decide_eq_false q];simp only[↓aE,↓cP,↓ax];rw[atg u3];unfold cR;by_cases q2:n > ((4294967296:Nat):Int)
  ·rw[decide_eq_true q2];simp only[↓aE,↓ah,↓aA];rw[if_neg (by omega)];rfl
  ·rw[decide_eq_false q2];simp only[↓aE,↓ah,↓ax];rw[hi _ hn hq,Hz (by omega),if_pos (by omega)]
theorem ath (s:Bs) (h:H) (k:Value->H->R):p60 E rc (ak s) h k=k (ak (dF s)) h:=by
 unfold p60 ak dF;rw[ah];rw[mG,rQ u,ah];by_cases q:s=[]
 ·subst q;rfl
 ·rw[show (s==([]:Bs))=false from JM.2 q,ax,rQ u,ah,if_neg q];by_cases q2:s=[46]
  ·subst q2;rfl
  ·rw[show (s==([46]:Bs))=false from JM.2 q2,if_neg q2];rfl
end
def jo (a:Value) (b:Value->H->R) (c:H) (d:Value):R:=aF a (b undef c) (onB d (b (.bool true) c) (b (.bool false) c)) (b undef c)
def Cn (a:Value) (b:Value->H->R) (c:H) (rc:RC) (d:Value):R:=aF a (b undef c) (rc 58 [d,.string ⟨⟨[76]⟩⟩] c b) (b undef c)
def jz (a:Value) (b:Value->H->R) (c:H) (d:Value):R:=aF a (b undef c) (onPtr d λe=>onRow (hget c e.1) λ_ f _ _ _ g=>ifB (ble (Nat.succ e.2) f) (b (getF g e.2) c)) (b undef c)
def sX (a b:Value) (c:H) (d:Value->H->R):R:=aF a (onPtr b λe=>onRow (hget c e.1) λ_ f _ _ _ g=>ifB (ble (Nat.succ e.2) f) (d (getF g e.2) c)) (d undef c) (d undef c)
def AT (k:Value->H->R) (rc:RC) (a b:H):R:=ac (λ_ c=>ac (λ_ d=>ac (λ_ e=>ac (λf g=>ac (λh i=>ac (λj l=>ac (λm n=>ac (λ_ o=>ac (λ_ p=>k (.bool true) p) λp=>p undef o) λo=>jo f o n m) λm=>Cn f m l rc j) λj=>jz f j i h) λh=>aF f (h undef g) (h (.pointer (some (Addr.mk a.1 1 none))) g) (h undef g)) λf=>f undef e) λe=>e undef d) λd=>d undef c) λc=>c undef b
def B7 (a:Value) (b:Value->H->R) (c:H) (rc:RC) (d:Value):R:=aF a (b undef c) (rc 58 [d,.string ⟨⟨[99]⟩⟩] c b) (b undef c)
def Bu (k:Value->H->R) (rc:RC) (a b:H):R:=ac (λ_ c=>ac (λ_ d=>ac (λ_ e=>ac (λf g=>ac (λh i=>ac (λj l=>ac (λm n=>ac (λ_ o=>ac (λ_ p=>AT k rc a p) λp=>p undef o) λo=>jo f o n m) λm=>B7 f m l rc j) λj=>jz f j i h) λh=>aF f (h undef g) (h (.pointer (some (Addr.mk a.1 1 none))) g) (h undef g)) λf=>f undef e) λe=>e undef d) λd=>d undef c) λc=>c undef b
def CH (a:Value) (b:Value->H->R) (c:H) (rc:RC) (d:Value):R:=aF a (b undef c) (rc 58 [d,.string ⟨⟨[107]⟩⟩] c b) (b undef c)
def BF (a:Value) (E:Env) (b:Value) (c:Value->H->R) (d:H):R:=aF a (binR (binC E .neq 3 false true) b (.int .i64 (.ofNat 0)) λe=>c e d) (c undef d) (c undef d)
def A7 (k:Value->H->R) (rc:RC) (a b:H):R:=ac (λ_ c=>ac (λ_ d=>ac (λ_ e=>ac (λf g=>ac (λh i=>ac (λj l=>ac (λm n=>ac (λ_ o=>ac (λ_ p=>Bu k rc a p) λp=>p undef o) λo=>jo f o n m) λm=>CH f m l rc j) λj=>jz f j i h) λh=>aF f (h undef g) (h (.pointer (some (Addr.mk a.1 1 none))) g) (h undef g)) λf=>f undef e) λe=>e undef d) λd=>d undef c) λc=>c undef b
def zN (a:Value) (b:Value->H->R) (c:H) (rc:RC) (d:Value):R:=aF a (b undef c) (rc 58 [d,.string ⟨⟨[109]⟩⟩] c b) (b undef c)
def p30 (E:Env) (rc:RC) (a0:Value) (a1:Value) (h:H) (k:Value->H->R):R:=onCells a0 λa=>ifB (allF (λb=>cell1F b) a) (ifB (ble h.1 1000000000) (letH (ag h (.row 39 (lenF a) false false 0 (T.ofList unk a))) λb=>onCells a1 λc=>ifB (allF (λd=>cell1F d) c) (ifB (ble b.1 1000000000) (letH (ag b (.row 67 (lenF c) false false 0 (T.ofList unk c))) λd=>ifB (ble d.1 1000000000) (letH (H.mk d.1 d.2) λe=>onRow (hget e b.1) λ_ f _ _ _ g=>ifB (ble 2 f) (onRow (hget e b.1) λ_ i _ _ _ j=>ifB (ble 2 i) (rc 56 [getF g 1,.string ⟨⟨[104]⟩⟩] e λl m=>ifB (am (.pointer (some (Addr.mk b.1 1 none))) (.pointer (some (Addr.mk b.1 1 none)))) (onRow (hget m b.1) λ_ n _ _ _ o=>ifB (ble 2 n) (ifB (am (getF o 1) (getF j 1)) (rc 56 [getF j 1,.string ⟨⟨[116]⟩⟩] m λp q=>@joinR [4,6] (λr s=>onRow (hget s h.1) λ_ t _ _ _ u=>ifB (ble 9 t) (joinL (λv=>binR (binC E .neq 3 false false) v r.2.1 λw=>ac (λx y=>ac (λz a2=>ac (λa3 a4=>ac (λa5 a6=>ac (λa7 a8=>ac (λa9 b0=>ac (λb1 b2=>ac (λb3 b4=>ac (λb5 b6=>onB w (ac (λb7 b8=>ac (λb9 c0=>ac (λc1 c2=>ac (λc3 c4=>ac (λc5 c6=>ac (λc7 c8=>ac (λc9 d0=>ac (λd1 d2=>ac (λd3 d4=>onB b5 (ac (λd5 d6=>ac (λd7 d8=>ac (λd9 e0=>ac (λe1 e2=>ac (λe3 e4=>ac (λe5 e6=>ac (λe7 e8=>ac (λe9 f0=>ac (λf1 f2=>onB d3 (ac (λf3 f4=>ac (λf5 f6=>ac (λf7 f8=>ac (λf9 g0=>ac (λg1 g2=>ac (λg3 g4=>ac (λg5 g6=>ac (λg7 g8=>ac (λg9 h0=>onB f1 (ac (λh1 h2=>ac (λh3 h4=>ac (λh5 h6=>ac (λh7 h8=>ac (λh9 i0=>ac (λi1 i2=>ac (λi3 i4=>ac (λi5 i6=>ac (λi7 i8=>onB g9 (k i7 i8) (k (.bool true) i8)) λi7=>aF g9 (onB h7 (i7 (.bool false) i6) (i7 i5 i6)) (i7 undef i6) (i7 undef i6)) λi5=>jo h7 i5 i4 i3) λi3=>Cn h7 i3 i2 rc i1) λi1=>jz h7 i1 i0 h9) λh9=>aF h7 (h9 undef h8) (h9 (.pointer (some (Addr.mk b.1 1 none))) h8) (h9 undef h8)) λh7=>aF g9 (h7 h5 h6) (h7 undef h6) (h7 undef h6)) λh5=>aF g9 (binR (binC E .neq 9 false true) h3 (.string (ByteArray.mk #[])) λh6=>h5 h6 h4) (h5 undef h4) (h5 undef h4)) λh3=>sX g9 h1 h2 h3) λh1=>aF g9 (h1 (.pointer (some (Addr.mk h.1 2 none))) h0) (h1 undef h0) (h1 undef h0)) (AT k rc b h0)) λg9=>aF f1 (onB f9 (g9 (.bool false) g8) (g9 g7 g8)) (g9 undef g8) (g9 undef g8)) λg7=>jo f9 g7 g6 g5) λg5=>B7 f9 g5 g4 rc g3) λg3=>jz f9 g3 g2 g1) λg1=>aF f9 (g1 undef g0) (g1 (.pointer (some (Addr.mk b.1 1 none))) g0) (g1 undef g0)) λf9=>aF f1 (f9 f7 f8) (f9 undef f8) (f9 undef f8)) λf7=>aF f1 (binR (binC E .neq 5 false true) f5 (.int .u8 (.ofNat 0)) λf8=>f7 f8 f6) (f7 undef f6) (f7 undef f6)) λf5=>sX f1 f3 f4 f5) λf3=>aF f1 (f3 (.pointer (some (Addr.mk h.1 7 none))) f2) (f3 undef f2) (f3 undef f2)) (Bu k rc b f2)) λf1=>aF d3 (onB e1 (f1 (.bool false) f0) (f1 e9 f0)) (f1 undef f0) (f1 undef f0)) λe9=>jo e1 e9 e8 e7) λe7=>CH e1 e7 e6 rc e5) λe5=>jz e1 e5 e4 e3) λe3=>aF e1 (e3 undef e2) (e3 (.pointer (some (Addr.mk b.1 1 none))) e2) (e3 undef e2)) λe1=>aF d3 (e1 d9 e0) (e1 undef e0) (e1 undef e0)) λd9=>BF d3 E d7 d9 d8) λd7=>sX d3 d5 d6 d7) λd5=>aF d3 (d5 (.pointer (some (Addr.mk h.1 6 none))) d4) (d5 undef d4) (d5 undef d4)) (A7 k rc b d4)) λd3=>aF b5 (onB c3 (d3 (.bool false) d2) (d3 d1 d2)) (d3 undef d2) (d3 undef d2)) λd1=>jo c3 d1 d0 c9) λc9=>zN c3 c9 c8 rc c7) λc7=>jz c3 c7 c6 c5) λc5=>aF c3 (c5 undef c4) (c5 (.pointer (some (Addr.mk b.1 1 none))) c4) (c5 undef c4)) λc3=>aF b5 (c3 c1 c2) (c3 undef c2) (c3 undef c2)) λc1=>BF b5 E b9 c1 c0) λb9=>sX b5 b7 b8 b9) λb7=>aF b5 (b7 (.pointer (some (Addr.mk h.1 5 none))) b6) (b7 undef b6) (b7 undef b6)) (ac (λ_ b7=>ac (λ_ b8=>ac (λ_ b9=>ac (λc0 c1=>ac (λc2 c3=>ac (λc4 c5=>ac (λc6 c7=>ac (λ_ c8=>ac (λ_ c9=>A7 k rc b c9) λc9=>c9 undef c8) λc8=>jo c0 c8 c7 c6) λc6=>zN c0 c6 c5 rc c4) λc4=>jz c0 c4 c3 c2) λc2=>aF c0 (c2 undef c1) (c2 (.pointer (some (Addr.mk b.1 1 none))) c1) (c2 undef c1)) λc0=>c0 undef b9) λb9=>b9 undef b8) λb8=>b8 undef b7) λb7=>b7 undef b6)) λb5=>aF w (onB a5 (b5 (.bool false) b4) (b5 b3 b4)) (b5 undef b4) (b5 undef b4)) λb3=>jo a5 b3 b2 b1) λb1=>aF a5 (b1 undef b0) (rc 58 [a9,.string ⟨⟨[110]⟩⟩] b0 b1) (b1 undef b0)) λa9=>jz a5 a9 a8 a7) λa7=>aF a5 (a7 undef a6) (a7 (.pointer (some (Addr.mk b.1 1 none))) a6) (a7 undef a6)) λa5=>aF w (a5 a3 a4) (a5 undef a4) (a5 undef a4)) λa3=>BF w E z a3 a2) λz=>sX w x y z) λx=>aF w (x (.pointer (some (Addr.mk h.1 4 none))) s) (x undef s) (x undef s)) λv=>onSl (getF u 8) (bindO (aX E s 37 (getF u 8)) v) λ_ w _=>v (.int .i64 (.ofNat w)))) λr=>onRow (hget q h.1) λ_ s _ _ _ t=>ifB (ble 4 s) (joinL (λu=>binR (binC E .neq 3 false false) u l λv=>@joinR [4,6] (λw x=>r (w.1,(w.2.1,())) x) λw=>onB v (onRow (hget q b.1) λ_ x _ _ _ y=>ifB (ble 2 x) (rc 57 [getF y 1,.string ⟨⟨[43]⟩⟩] q λz a2=>@joinR [6] (λa3 a4=>w (.bool false,(a3.1,())) a4) λa3=>onB z (onRow (hget a2 b.1) λ_ a4 _ _ _ a5=>ifB (ble 2 a4) (rc 57 [getF a5 1,.string ⟨⟨[42]⟩⟩] a2 λa6 a7=>@joinR [6] (λa8 a9=>a3 (a8.1,()) a9) λa8=>onB a6 (a8 (p,()) a7) (onRow (hget a7 h.1) λ_ a9 _ _ _ b0=>ifB (ble 9 a9) (joinL (λb1=>a8 (b1,()) a7) λb1=>onSl (getF b0 8) (bindO (aX E a7 37 (getF b0 8)) b1) λ_ b2 _=>b1 (.int .i64 (.ofNat b2)))))) (onRow (hget a2 h.1) λ_ a4 _ _ _ a5=>ifB (ble 9 a4) (joinL (λa6=>bindO (bF E a2 Builtin.max [.int .i64 (.ofNat 1),a6] [3,3]) λa7=>a3 (a7,()) a2) λa6=>onSl (getF a5 8) (bindO (aX E a2 37 (getF a5 8)) a6) λ_ a7 _=>a6 (.int .i64 (.ofNat a7)))))) (k (.bool true) q)) λu=>onSl (getF t 3) (bindO (aX E q 37 (getF t 3)) u) λ_ v _=>u (.int .i64 (.ofNat v)))))))))))))
def WA (t:aN) (rc:RC) (a0:Value) (a1:Value) (h:H) (k:Value->H->R):(cf (EX t) KK 30).run rc [a0,a1] h k=p30 (EX t) rc a0 a1 h k:=by kernel_rfl
def wN (E:Env) (a:Value) (b:T Value) (c:Addr) (rc:RC) (a0:Value) (d:aa []->H->R):(aa [14]->H->R)->aa [14]->H->R:=λe f g=>binR (binC E .lss 3 false false) f.1 a λh=>@joinR [] (λ_ i=>@joinR [] (λ_ j=>binR (binC E .add 3 false true) f.1 (.int .i64 (.ofNat 1)) λl=>e (l,()) j) λj=>onNat f.1 none λl=>onSl (getF b (Nat.add c.2 2)) none λm n _=>ifB (ble (Nat.succ l) n) (addOffF m (Nat.mul l 1) λo=>onPtr o λp=>onRow (hget i p.1) λ_ q _ _ _ r=>ifB (ble (Nat.succ p.2) q) (rc 60 [getF r p.2] i λs t=>rc 59 [a0,s] t λ_ u=>j () u))) λi=>onB h (d () g) (i () g)
def B5 (a h:H) (rc:RC) (a0:Value) (b:aa []->H->R):R:=onRow (hget a h.1) λ_ c _ _ _ d=>ifB (ble 5 c) (rc 13 [getF d 4] a λe f=>rc 59 [a0,e] f λ_ g=>b () g)
def p31 (E:Env) (rc:RC) (a0:Value) (a1:Value) (a2:Value) (h:H) (k:Value->H->R):R:=onCells a1 λa=>ifB (allF (λb=>cell1F b) a) (ifB (ble h.1 1000000000) (letH (ag h (.row 39 (lenF a) false false 0 (T.ofList unk a))) λb=>@joinR [] (λ_ c=>k (.tuple ⟨[]⟩) c) λc=>binR (binC E .eql 21 false true) a2 (.int .i32 (.ofNat 76)) λd=>@joinR [] (λ_ e=>c () e) λe=>onB d (binR (binC E .eql 21 false true) a2 (.int .i32 (.ofNat 104)) λf=>@joinR [] (λ_ g=>e () g) λg=>onB f (binR (binC E .eql 21 false true) a2 (.int .i32 (.ofNat 110)) λi=>@joinR [] (λ_ j=>g () j) λj=>onB i (binR (binC E .eql 21 false true) a2 (.int .i32 (.ofNat 109)) λl=>@joinR [] (λ_ m=>j () m) λm=>onB l (binR (binC E .eql 21 false true) a2 (.int .i32 (.ofNat 107)) λn=>@joinR [] (λ_ o=>m () o) λo=>onB n (binR (binC E .eql 21 false true) a2 (.int .i32 (.ofNat 99)) λp=>@joinR [] (λ_ q=>o () q) λq=>onB p (binR (binC E .eql 21 false true) a2 (.int .i32 (.ofNat 116)) λr=>@joinR [] (λ_ s=>q () s) λs=>onB r (bindO (be a0) λt=>onPtr t λu=>onRow (hget b u.1) λ_ v _ _ _ w=>ifB (ble (Nat.succ (Nat.add u.2 2)) v) (joinL (λx=>@joinR [] (λ_ y=>s () y) λy=>@loopF [14] (wN E x w u rc a0 y) cM (.int .i64 (.ofNat 0),()) b) λx=>onSl (getF w (Nat.add u.2 2)) (bindO (aX E b 37 (getF w (Nat.add u.2 2))) x) λ_ y _=>x (.int .i64 (.ofNat y)))) (bindO (be a0) λt=>onPtr t λu=>onRow (hget b u.1) λ_ v _ _ _ w=>ifB (ble (Nat.succ (Nat.add u.2 2)) v) (onSl (getF w (Nat.add u.2 2)) none λx y _=>ifB (ble 1 y) (onRow (hget b x.1) λ_ z _ _ _ a3=>ifB (ble (Nat.succ x.2) z) (rc 60 [getF a3 x.2] b λa4 a5=>rc 59 [a0,a4] a5 λ_ a6=>bindO (be a0) λa7=>onPtr a7 λa8=>onRow (hget a6 a8.1) λ_ a9 _ _ _ b0=>ifB (ble (Nat.succ (Nat.add a8.2 2)) a9) (bindO (dm E 37 (getF b0 (Nat.add a8.2 2)) (some (.int .i64 (.ofNat 1))) none none) λb1=>bindO (be a0) λb2=>onPtr b2 λb3=>onCells b1 λb4=>onRow (hget a6 b3.1) λb5 b6 b7 b8 b9 c0=>ifB (notB b8) (ifB (beq (lenF b4) 1) (ifB (ble b9 (Nat.add b3.2 2)) (ifB (ble (Nat.add (Nat.add b3.2 2) 1) b6) (ifB (ble b6 1000000000) (ifB (allF (λc1=>cell1F c1) b4) (letH (hset a6 b3.1 (.row b5 b6 b7 false b9 (putF c0 (Nat.add b3.2 2) b4))) λc1=>s () c1)))))))))))) (ifB (ble b.1 1000000000) (letH (H.mk b.1 b.2) λr=>onRow (hget r h.1) λ_ s _ _ _ t=>ifB (ble 8 s) (rc 29 [] r λu v=>ifB (am a0 a0) (ifB (am (.pointer (some (Addr.mk h.1 7 none))) (.pointer (some (Addr.mk h.1 7 none)))) (onRow (hget v h.1) λ_ w _ _ _ x=>ifB (ble 8 w) (ifB (am (getF x 7) (getF t 7)) (onNat (getF t 7) none λy=>onSl u none λz a3 _=>ifB (ble (Nat.succ y) a3) (addOffF z (Nat.mul y 1) λa4=>onPtr a4 λa5=>onRow (hget v a5.1) λ_ a6 _ _ _ a7=>ifB (ble (Nat.succ a5.2) a6) (rc 59 [a0,getF a7 a5.2] v λ_ a8=>q () a8)))))))))) (onRow (hget b h.1) λ_ p _ _ _ q=>ifB (ble 7 p) (rc 13 [getF q 6] b λr s=>rc 59 [a0,r] s λ_ t=>o () t))) (onRow (hget b h.1) λ_ n _ _ _ o=>ifB (ble 6 n) (rc 13 [getF o 5] b λp q=>rc 59 [a0,p] q λ_ r=>m () r))) (onRow (hget b h.1) λ_ l _ _ _ m=>ifB (ble 2 l) (binR (binC E .eql 5 false true) (getF m 1) (.int .u8 (.ofNat 19)) λn=>ac (λo p=>ac (λq r=>ac (λs t=>onB n (@joinR [] (λ_ u=>j () u) λu=>B5 t h rc a0 u) (@joinR [] (λ_ u=>j () u) λu=>onB s (B5 t h rc a0 u) (rc 59 [a0,.string ⟨⟨[110,111,110,101]⟩⟩] t λ_ v=>u () v))) λs=>aF n (s undef r) (binR (binC E .eql 3 false true) q (.int .i64 (.negSucc 0)) λt=>s t r) (s undef r)) λq=>aF n (q undef p) (onPtr o λr=>onRow (hget p r.1) λ_ s _ _ _ t=>ifB (ble (Nat.succ r.2) s) (q (getF t r.2) p)) (q undef p)) λo=>aF n (o undef b) (o (.pointer (some (Addr.mk h.1 4 none))) b) (o undef b)))) (bindO (be a0) λi=>onPtr i λj=>onRow (hget b j.1) λ_ l _ _ _ m=>ifB (ble (Nat.succ (Nat.add j.2 1)) l) (onSl (getF m (Nat.add j.2 1)) none λn o _=>ifB (ble 1 o) (onRow (hget b n.1) λ_ p _ _ _ q=>ifB (ble (Nat.succ n.2) p) (rc 59 [a0,getF q n.2] b λ_ r=>bindO (be a0) λs=>onPtr s λt=>onRow (hget r t.1) λ_ u _ _ _ v=>ifB (ble (Nat.succ (Nat.add t.2 1)) u) (bindO (dm E 37 (getF v (Nat.add t.2 1)) (some (.int .i64 (.ofNat 1))) none none) λw=>bindO (be a0) λx=>onPtr x λy=>onCells w λz=>onRow (hget r y.1) λa3 a4 a5 a6 a7 a8=>ifB (notB a6) (ifB (beq (lenF z) 1) (ifB (ble a7 (Nat.add y.2 1)) (ifB (ble (Nat.add (Nat.add y.2 1) 1) a4) (ifB (ble a4 1000000000) (ifB (allF (λa9=>cell1F a9) z) (letH (hset r y.1 (.row a3 a4 a5 false a7 (putF a8 (Nat.add y.2 1) z))) λa9=>g () a9)))))))))))) (onRow (hget b h.1) λ_ f _ _ _ g=>ifB (ble 3 f) (rc 59 [a0,getF g 2] b λ_ i=>e () i))))
def YS (t:aN) (rc:RC) (a0:Value) (a1:Value) (a2:Value) (h:H) (k:Value->H->R):(cf (EX t) KK 31).run rc [a0,a1,a2] h k=p31 (EX t) rc a0 a1 a2 h k:=by kernel_rfl
def sM (a:Nat->Value) (b h:H) (rc:RC) (c:H) (d:aa []->H->R):(aa []->H->R)->aa []->H->R:=λe _ f=>cE (iR f (a b.1)) λg i=>onTup g λj=>nthF 0 j λl=>@joinR [] (λ_ m=>@joinR [] (λ_ n=>e () n) λn=>onTup g λo=>nthF 2 o λp=>onRow (hget m h.1) λ_ q _ _ _ r=>ifB (ble 9 q) (rc 31 [.pointer (some (Addr.mk c.1 0 none)),.agg ⟨ae r 9 0⟩,p] m λ_ s=>n () s)) λm=>onB l (d () i) (m () i)
def Bj (a b h : H) (E : Env) (rc : RC) (k : Value -> H -> R):R:= onRow (hget a b.1) fun _ c _ _ _ d=> ifB (ble 1 c) (@Option.rec (List Value) (fun _=> R) none (fun e=> ifB (ble a.1 1000000000) (letH (ag a (.row 9 1 false false 0 (T.ofList unk e))) fun f=> onRow (hget f h.1) fun _ g _ _ _ i=> ifB (ble 4 g) (onRow (hget f h.1) fun _ j _ _ _ l=> ifB (ble 9 j) (bindO (cI E 70 [(0, .slice (some (Addr.mk a.1 0 none)) 1 2), (1, getF i 3), (2, getF l 8)]) fun m=> ifB (ble f.1 1000000000) (letH (ag f (.row 70 3 false false 0 (T.ofList unk [.slice none 0 0, .slice none 0 0, .slice none 0 0]))) fun n=> onCells m fun o=> onRow (hget n f.1) fun p q r s t u=> ifB (notB s) (ifB (beq (lenF o) 3) (ifB (ble t 0) (ifB (ble 3 q) (ifB (ble q 1000000000) (ifB (allF (fun v=> cell1F v) o) (letH (hset n f.1 (.row p q r false t (putF u 0 o))) fun v=> onRow (hget v b.1) fun _ w _ _ _ x=> ifB (ble 2 w) (lK (dk E (@T.n Value (@T.c Value undef) (getF x 1) (@T.c Value undef)) (Oper.mk none (Op.range 9 (.tmp 0)) 0 " " #[] none)) fun y z=> ifB (ble v.1 1000000000) (letH (ag v y) fun a0=> @joinR [] (fun _ a1=> ifB (ble a1.1 1000000000) (letH (H.mk a1.1 a1.2) fun a2=> onRow (hget a2 f.1) fun _ a3 _ _ _ a4=> ifB (ble 1 a3) (onRow (hget a2 f.1) fun _ a5 _ _ _ a6=> ifB (ble 1 a5) (rc 32 [getF a4 0, .string ⟨⟨[32]⟩⟩] a2 fun a7 a8=> ifB (am (.pointer (some (Addr.mk f.1 0 none))) (.pointer (some (Addr.mk f.1 0 none)))) (onRow (hget a8 f.1) fun _ a9 _ _ _ b0=> ifB (ble 1 a9) (ifB (am (getF b0 0) (getF a6 0)) (binR (binC E .add 9 false true) a7 (.string ⟨⟨[10]⟩⟩) fun b1=> rc 33 [getF a6 0, .func (.func 34) #[] #[]] a8 fun b2 b3=> binR (binC E .add 9 false true) a7 (.string ⟨⟨[10]⟩⟩) fun b4=> ifB (am b4 b1) (onB b2 (ifB (nT [b1, .bool true]) (k (.tuple ⟨[b1, .bool true]⟩) b3)) (ifB (nT [b1, .bool false]) (k (.tuple ⟨[b1, .bool false]⟩) b3)))))))))) fun a1=> @loopF [] (sM z v h rc f a1) cM () a0))))))))))))) (dx (fun e=> some (Nat.mul e 1, 1)) (List.flatten (List.replicate 1 (cellsOfV (.string (ByteArray.mk #[]))))) [(0, getF d 0)]))
def CM (a h:H) (rc:RC) (E:Env) (k:Value->H->R) (b:aa [2,3]):R:=ifB (ble a.1 1000000000) (letH (H.mk (Nat.add a.1 1) a.2) λc=>onRow (hget c h.1) λ_ d _ _ _ e=>ifB (ble 2 d) (letH (hset c a.1 (.row 67 2 false false 0 (T.ofList unk [.string (ByteArray.mk #[]),.string (ByteArray.mk #[])]))) λf=>rc 28 [] f λg i=>ifB (am (.pointer (some (Addr.mk h.1 1 none))) (.pointer (some (Addr.mk h.1 1 none)))) (onRow (hget i h.1) λ_ j _ _ _ l=>ifB (ble 2 j) (ifB (am (getF l 1) (getF e 1)) (onNat (getF e 1) none λm=>onSl g none λn o _=>ifB (ble (Nat.succ m) o) (addOffF n (Nat.mul m 2) λp=>onPtr p λq=>onRow (hget i q.1) λ_ r _ _ _ s=>ifB (ble (Nat.add q.2 2) r) (onRow (hget i a.1) λt u v w x y=>ifB (notB w) (ifB (beq (lenF (ae s 2 q.2)) 2) (ifB (ble x 0) (ifB (ble 2 u) (ifB (ble u 1000000000) (ifB (allF (λz=>cell1F z) (ae s 2 q.2)) (letH (hset i a.1 (.row t u v false x (putF y 0 (ae s 2 q.2)))) λz=>onRow (hget z h.1) λ_ a0 _ _ _ a1=>ifB (ble 9 a0) (onRow (hget z a.1) λ_ a2 _ _ _ a3=>ifB (ble 2 a2) (rc 30 [.agg ⟨ae a1 9 0⟩,.agg ⟨ae a3 2 0⟩] z λa4 a5=>ac (λa6 a7=>ac (λa8 a9=>ac (λb0 b1=>ac (λb2 b3=>onB a4 (@joinR [2,3] (λ_ b4=>Bj b4 a h E rc k) λb4=>onB b2 (b4 (b.1,(b.2.1,())) b3) (k (.tuple ⟨[.string (ByteArray.mk #[]),.bool false]⟩) b3)) (@joinR [2,3] (λ_ b4=>Bj b4 a h E rc k) λ_=>k (.tuple ⟨[.string (ByteArray.mk #[]),.bool false]⟩) b3)) λb2=>aF a4 (binR (binC E .gtr 3 false true) b0 (.int .i64 (.ofNat 16)) λb3=>b2 b3 b1) (b2 undef b1) (b2 undef b1)) λb0=>aF a4 (bindO (aX E a9 9 a8) λb1=>b0 b1 a9) (b0 undef a9) (b0 undef a9)) λa8=>aF a4 (onPtr a6 λa9=>onRow (hget a7 a9.1) λ_ b0 _ _ _ b1=>ifB (ble (Nat.succ a9.2) b0) (a8 (getF b1 a9.2) a7)) (a8 undef a7) (a8 undef a7)) λa6=>aF a4 (a6 (.pointer (some (Addr.mk h.1 2 none))) a5) (a6 undef a5) (a6 undef a5))))))))))))))))
def Cx (a:Value) (b:Value->R) (c:Value) (E:Env) (d:H):R:=aF a (joinL b λe=>onNat c (bindO (aY E d 5 3 c) e) λf=>@Bool.rec (λ_=>R) (bindO (aY E d 5 3 c) e) (e (.int .i64 (.ofNat f))) (ble f 9223372036854775807)) (b undef) (b undef)
def B4 (a b:Value) (c:H) (d:Value->R):R:=aF a (onPtr b λe=>onRow (hget c e.1) λ_ f _ _ _ g=>ifB (ble (Nat.succ e.2) f) (d (getF g e.2))) (d undef) (d undef)
def Is (a:T Value) (E:Env) (b:H) (c:Value->R):R:=onNat (getF a 1) (bindO (aY E b 5 3 (getF a 1)) c) λd=>@Bool.rec (λ_=>R) (bindO (aY E b 5 3 (getF a 1)) c) (c (.int .i64 (.ofNat d))) (ble d 9223372036854775807)
def p15 (E:Env) (rc:RC) (a0:Value) (h:H) (k:Value->H->R):R:=onCells a0 λa=>ifB (allF (λb=>cell1F b) a) (ifB (ble h.1 1000000000) (letH (ag h (.row 39 (lenF a) false false 0 (T.ofList unk a))) λb=>ifB (ble b.1 1000000000) (letH (H.mk b.1 b.2) λc=>onRow (hget c h.1) λ_ d _ _ _ e=>ifB (ble 2 d) (joinL (λf=>rc 28 [] c λg i=>ifB (am (.pointer (some (Addr.mk h.1 1 none))) (.pointer (some (Addr.mk h.1 1 none)))) (onRow (hget i h.1) λ_ j _ _ _ l=>ifB (ble 2 j) (ifB (am (getF l 1) (getF e 1)) (joinL (λm=>ifB (am m f) (joinL (λn=>binR (binC E .geq 3 false false) f n λo=>joinL (λp=>joinL (λq=>joinL (λr=>ac (λs t=>joinL (λu=>ifB (am u p) (joinL (λv=>ifB (am v q) (joinL (λw=>ifB (am w r) (joinL (λx=>joinL (λy=>onB o (@joinR [2,3] (λz a1=>CM a1 h rc E k z) λz=>onB y (z (.string (ByteArray.mk #[]),(.bool false,())) t) (k (.tuple ⟨[.string (ByteArray.mk #[]),.bool false]⟩) t)) (@joinR [2,3] (λz a1=>CM a1 h rc E k z) λ_=>k (.tuple ⟨[.string (ByteArray.mk #[]),.bool false]⟩) t)) λy=>aF o (binR (binC E .geq 3 false false) r x y) (y undef) (y undef)) λx=>aF o (joinL x λy=>onSl s (bindO (aX E t 37 s) y) λ_ z _=>y (.int .i64 (.ofNat z))) (x undef) (x undef))) λw=>Cx o w q E t)) λv=>B4 o p t v)) λu=>aF o (u (.pointer (some (Addr.mk h.1 7 none)))) (u undef) (u undef)) λs=>aF o (rc 29 [] i s) (s undef i) (s undef i)) λr=>Cx o r q E i) λq=>B4 o p i q) λp=>aF o (p (.pointer (some (Addr.mk h.1 7 none)))) (p undef) (p undef)) λn=>onSl g (bindO (aX E i 63 g) n) λ_ o _=>n (.int .i64 (.ofNat o)))) λm=>Is e E i m)))) λf=>Is e E c f))))
def amk (t:aN) (rc:RC) (a0:Value) (h:H) (k:Value->H->R):(cf (EX t) KK 15).run rc [a0] h k=p15 (EX t) rc a0 h k:=by kernel_rfl
def anm (rc:RC) (a:H) (b:Value) (c:H) (d:aa [6,7]->H->R) (e:aa [6,7]):R:=rc 14 [.pointer (some (Addr.mk a.1 0 none)),b] c λ_ f=>d (e.1,(e.2.1,())) f
def Ex (E:Env) (a a2:Value) (rc:RC) (b:H) (k:Value->H->R) (c:aa [6,7]->H->R):(aa [6,7,37]->H->R)->aa [6,7,37]->H->R:=λd e f=>binR (binC E .lss 3 false false) e.2.2.1 a λg=>@joinR [] (λ_ h=>@joinR [6,7] (λi j=>binR (binC E .add 3 false true) e.2.2.1 (.int .i64 (.ofNat 1)) λl=>d (i.1,(i.2.1,(l,()))) j) λi=>onNat e.2.2.1 none λj=>onSl a2 none λl m _=>ifB (ble (Nat.succ j) m) (addOffF l (Nat.mul j 9) λn=>onPtr n λo=>onRow (hget h o.1) λ_ p _ _ _ q=>ifB (ble (Nat.add o.2 9) p) (ifB (ble h.1 1000000000) (letH (ag h (.row 39 9 false false 0 (T.ofList unk qg))) λr=>onRow (hget r h.1) λs t u v w x=>ifB (notB v) (ifB (beq (lenF (ae q 9 o.2)) 9) (ifB (ble w 0) (ifB (ble 9 t) (ifB (ble t 1000000000) (ifB (allF (λy=>cell1F y) (ae q 9 o.2)) (letH (hset r h.1 (.row s t u false w (putF x 0 (ae q 9 o.2)))) λy=>onRow (hget y h.1) λ_ z _ _ _ a0=>ifB (ble 9 z) (rc 15 [.agg ⟨ae a0 9 0⟩] y λa1 a3=>onTup a1 λa4=>nthF 0 a4 λa5=>onTup a1 λa6=>nthF 1 a6 λa7=>onB a7 (@joinR [6,7] (λa8 a9=>anm rc b a5 a9 i a8) λ_=>k (.tuple ⟨[.string (ByteArray.mk #[]),.int .i64 (.ofNat 14)]⟩) a3) (@joinR [6,7] (λa8 a9=>anm rc b a5 a9 i a8) λa8=>a8 (e.1,(e.2.1,())) a3)))))))))))) λh=>onB g (c (e.1,(e.2.1,())) f) (h () f)
def p7 (E:Env) (rc:RC) (a0:Value) (a1:Value) (a2:Value) (h:H) (k:Value->H->R):R:=@joinR [6,7] (λa b=>ifB (ble b.1 1000000000) (letH (ag b (.row 44 2 false false 0 (T.ofList unk [.pointer none,.slice none 0 0]))) λc=>rc 13 [a0] c λd e=>binR (binC E .add 9 true false) (.string ⟨⟨[97,114,101,110,97,32]⟩⟩) d λf=>binR (binC E .add 9 false true) f (.string ⟨⟨[32]⟩⟩) λg=>rc 13 [a1] e λi j=>binR (binC E .add 9 false false) g i λl=>binR (binC E .add 9 false true) l (.string ⟨⟨[10]⟩⟩) λm=>rc 14 [.pointer (some (Addr.mk b.1 0 none)),m] j λ_ n=>joinL (λo=>@joinR [6,7] (λp q=>rc 16 [.pointer (some (Addr.mk b.1 0 none))] q λr s=>binR (binC E .gtr 3 false true) r (.int .i64 (.ofNat 65536)) λt=>@joinR [6,7] (λ_ u=>rc 17 [.pointer (some (Addr.mk b.1 0 none))] u λv w=>ifB (nT [v,.int .i64 (.ofNat 0)]) (k (.tuple ⟨[v,.int .i64 (.ofNat 0)]⟩) w)) λu=>onB t (u (p.1,(p.2.1,())) s) (k (.tuple ⟨[.string (ByteArray.mk #[]),.int .i64 (.ofNat 16)]⟩) s)) λp=>@loopF [6,7,37] (Ex E o a2 rc b k p) cM (a.1,(a.2.1,(.int .i64 (.ofNat 0),()))) n) λo=>onSl a2 (bindO (aX E n 22 a2) o) λ_ p _=>o (.int .i64 (.ofNat p)))) λa=>joinL (λb=>binR (binC E .gtr 3 false true) b (.int .i64 (.ofNat 1000)) λc=>@joinR [6,7] (λd e=>a (d.1,(d.2.1,())) e) λd=>onB c (rc 13 [a0] h λe f=>binR (binC E .eql 9 false true) e (.string (ByteArray.mk #[])) λg=>ac (λi j=>ac (λl m=>ac (λn o=>onB g (@joinR [6,7] (λp q=>d (p.1,(p.2.1,())) q) λp=>onB n (p (.string (ByteArray.mk #[]),(.int .i64 (.ofNat 0),())) o) (k (.tuple ⟨[.string (ByteArray.mk #[]),.int .i64 (.ofNat 14)]⟩) o)) (@joinR [6,7] (λp q=>d (p.1,(p.2.1,())) q) λ_=>k (.tuple ⟨[.string (ByteArray.mk #[]),.int .i64 (.ofNat 14)]⟩) o)) λn=>aF g (binR (binC E .eql 9 false true) l (.string (ByteArray.mk #[])) λo=>n o m) (n undef m) (n undef m)) λl=>aF g (rc 13 [i] j l) (l undef j) (l undef j)) λi=>aF g (i a1 f) (i undef f) (i undef f)) (k (.tuple ⟨[.string (ByteArray.mk #[]),.int .i64 (.ofNat 15)]⟩) h)) λb=>onSl a2 (bindO (aX E h 22 a2) b) λ_ c _=>b (.int .i64 (.ofNat c))
def aqF (t:aN) (rc:RC) (a0:Value) (a1:Value) (a2:Value) (h:H) (k:Value->H->R):(cf (EX t) KK 7).run rc [a0,a1,a2] h k=p7 (EX t) rc a0 a1 a2 h k:=by kernel_rfl
section
def cj:Value->Prop
 |.slice _ _ c=>c%2=0
 | _=>True
def aO (ln:Int) (x:bV) (on tx:Value):List Value:=[.int .i64 ln,.int .u8 (.ofNat x.op),ak x.label,on,.int .i64 x.n,.int .i64 x.m,.int .i64 x.k,.int .u8 (.ofNat x.kind),tx]
structure UT (E:Env):Prop extends US E where
 u37:E.und 37=some (.slice 9)
 z9:E.size 9=some 1
 u21:E.und 21=some (.int .i32)
def uN {E:Env} (u:UT E) {h:H} {v:Value} {w:Bs} {l:List Bs} (o:WL h v (w :: l)) (hc:cj v):
  ∃v',dm E 37 v (some (.int .i64 (.ofNat 1))) none none=some v'/\WL h v' l/\cj v':=by
 cases o with
 | row hb hq hm hcap hcl=>
  rename_i b of e m c fz op ro cells;have h1:ble (l.length+1) (c / 2)=true:=aM (by simpa using hcap);have h2:ble 1 (l.length+1)=true:=aM (by omega);have hcap':l.length+1<=c / 2:=by simpa using hcap
  have hc:c%2=0:=hc;have hnu:(beq (c / 2) 1&&(!beq (c%2) 0) && !beq 1 0)=false:=by rw[hc];simp
  have hm':of+(l.length+1)<=m:=by simpa using hm
  have hq':=hq (by simp);unfold dm;simp only[u.u37,u.z9,bound,Jz,h1,h2,Jo,Option.isNone_none,Option.isSome_none,Bool.or_false,Bool.and_true,gO,hnu,JP,gar];refine⟨_,rfl,?_⟩;rw[show l.length+1-1=l.length by omega];by_cases q:c / 2=1
  ·have hl:l=[]:=List.length_eq_zero_iff.1 (by omega);subst hl;rw[gm q,Jo];exact⟨.row (e:=e) (cells:=cells) hb (λ_=>hq') (by simp;omega) (by simp) λi hi=>absurd hi (Jy _),show (2*(c / 2-1)+c%2)%2=0 by omega⟩
  ·rw[dB q,JP,dB (show ¬ 1*1=0 by decide),JP];refine⟨.row hb (λ_=>hq') (by omega) (by omega) λi hi=>?_,show (2*(c / 2-1)+c%2)%2=0 by omega⟩;have:=hcl (i+1) (by simpa using hi);rw[show of+1*1+i=of+(i+1) by omega];exact this
def uK {h:H} {ty n b j:Nat} {cells:T Value} {v:Value} (hq:hget h b=.row ty n false false 0 cells) (hj:j+1<=n) (hn:n<=1000000000) (hv:cell1F v=true) (K:H->R):
  (onRow (hget h b) λs t u v1 w x=>ifB (notB v1) (ifB (beq (lenF [v]) 1) (ifB (ble w j) (ifB (ble (Nat.add j 1) t) (ifB (ble t 1000000000) (ifB (allF (λy=>cell1F y) [v]) (letH (hset h b (.row s t u false w (putF x j [v]))) K)))))))=K (hset h b (.row ty n false false 0 (putF cells j [v]))):=by
 rw[hq,cz,aP (c:=notB false) rfl,aP (c:=beq (lenF [v]) 1) rfl,aj (JY _),aj (show Nat.add j 1<=n by show j+1<=n;omega),aj hn,aP (show allF (λy=>cell1F y) [v]=true by
  show Bool.rec (motive:=λ_=>Bool) false true (cell1F v)=true
  rw[hv]),aD]
structure PN (B:Nat) (h:H) (pb:Nat) (ws:List Bs) (von vtx:Value):Prop where
 lo:B<=pb
 lt:pb<h.next
 ex:∃cells vw,hget h pb=.row 70 3 false false 0 cells/\getF cells 0=vw/\getF cells 1=von/\getF cells 2=vtx/\SO h vw ws/\(∀p,dv vw=some p->B<=p)
def PN.push {B:Nat} {h:H} {pb:Nat} {ws:List Bs} {von vtx:Value} (p:PN B h pb ws von vtx) (hn:h.next<=1000000000) (o:AO):PN B (ag h o) pb ws von vtx:=by obtain⟨lo,lt,cells,vw,h1,h2,h3,h4,h5,h6⟩:=p;have f:=Fr.push (h:=h) o hn;exact⟨lo,Jp lt f.le,cells,vw,(f.old _ lt).trans h1,h2,h3,h4,h5.keep f.le λb _ hl=>f.old b hl,h6⟩
def KI (h h':H):Prop:=∀id s p,id<h.next->hget h id=.iter s p->hget h' id=.iter s p
def KI.refl (h:H):KI h h:=λ_ _ _ _ e=>e
def KI.trans {a b c:H} (h1:KI a b) (h2:KI b c) (hn:a.next<=b.next):KI a c:=λid s p hid e=>h2 id s p (by omega) (h1 id s p hid e)
def Fr.ki {a b:H} {n:Nat} (f:Fr a b n):KI a b:=λid s p hid e=>(f.old id hid).trans e
def KI.set {h:H} {b ty n fz:Nat} {op ro:Bool} {cells:T Value} (hq:hget h b=.row ty n op ro fz cells) (hb:b<=1000000000) (o:AO):KI h (hset h b o):=λid s p hid e=>by
 have n2:id≠b:=λee=>by subst ee;rw[hq] at e;cases e
 rw[bS _ _ _ _ hb,if_neg n2];exact e
variable {E : Env} (u : UT E) {i37 : TypeInfo} (T1 : ug E 37 9 1 i37 [.string ⟨⟨[]⟩⟩]) {rc : RC} {B pb : Nat} {h : H} {ws : List Bs} {von vtx : Value} {k : Value -> H -> R} {X : R}
include u T1
theorem ats (p:PN B h pb ws von vtx) (hn:h.next<=800000000) (hl:ws.length<=8500) (w:Bs) (e:p59 E rc (.pointer (some ⟨pb,0,none⟩)) (ak w) h k=X):
  ∃h',X=k (.tuple ⟨[]⟩) h'/\PN B h' pb (ws ++ [w]) von vtx/\dj B h h' 2/\KI h h':=by
 obtain⟨lo,lt,cells,vw,hq,h0,h1,h2,o,hv⟩:=p;have hqr:∀K,onRow (hget h pb) K=K 70 3 false false 0 cells:=λK=>by rw[hq];rfl
 unfold p59 at e;simp only[↓aR,↓au,↓hqr,↓AP,↓jj] at e;rw[aP (show ble (Nat.succ 0) 3=true from rfl),aj (show h.1<=1000000000 by show h.next<=_;omega),aD,h0] at e;obtain⟨v',h',e1,o1,n1,b1,f1⟩:=qZ T1 o (by omega) (by omega) w;rw[cg (show ba E (ag h (.row 9 1 false false 0 (T.ofList unk [ak w]))) .append [vw,.slice (some (Addr.mk h.1 0 none)) 1 2] [37,37]=some (v',h') from e1)] at e;have hbv:dv vw≠some pb:=λee=>by obtain⟨n,op,cs,e2⟩:=o.row9 ee;rw[hq] at e2;cases e2
 have hq':hget h' pb=.row 70 3 false false 0 cells:=(f1 pb lt hbv).trans hq;simp only[↓o1.cells] at e;have hst:=uK hq' (show 0+1<=3 by omega) (by omega) o1.cell1 (λy=>k (.tuple ⟨[]⟩) y);have hst':=hst.symm.trans e;refine⟨_,hst'.symm,⟨lo,show pb<h'.next by omega,putF cells 0 [v'],v',bj _ _ _ (by omega),?_,?_,?_,?_,λp hp=>by rw[b1] at hp;cases hp;omega⟩,?_,λid s p hid hi=>?_⟩
 ·rw[eu _ (by omega),if_pos rfl]
 ·rw[eu _ (by omega),if_neg (by omega),h1]
 ·rw[eu _ (by omega),if_neg (by omega),h2]
 ·exact o1.keep (Jd _) λp hp _=>by rw[b1] at hp;obtain rfl:=JJ hp;rw[bS _ _ _ _ (by omega),if_neg (by omega)]
 ·exact dj.trans (m:=2) (n:=0) ⟨by omega,by omega,λid hid=>f1 id (by omega) λee=>by have:=hv id ee;omega⟩ (dj.set lo (by omega) _) (by omega)
 ·have n1:dv vw≠some id:=λee=>by obtain⟨n,op,cs,e2⟩:=o.row9 ee;rw[hi] at e2;cases e2
  have n2:id≠pb:=λee=>by subst ee;rw[hq] at hi;cases hi
  rw[bS _ _ _ _ (by omega),if_neg n2,f1 id hid n1];exact hi
end
section
def bu.frB {hS h h':H} {B n:Nat} (f:bu hS h) (g:dj B h h' n) (hb:hS.next<=B):bu hS h':=⟨JV f.le g.le,λid hid=>(g.old id (by omega)).trans (f.old id hid)⟩
def UR {E:Env} {rc:RC} (h:H) (k:Value->H->R) (hn:h.next<=900000000):p29 E rc h k=k (.slice (some ⟨h.next,0,none⟩) 5 10) (ag h (.row 9 5 false false 0 (T.ofList unk (aZ.map ak)))):=by unfold p29;rw[aj (show h.1<=1000000000 by show h.next<=_;omega),aD];rfl
def uf {E:Env} {m n:Nat} {cx cy:Bool} {k:Value->R} {ty:TypeId} (hE:E.und ty=some (.int .i32)):binR (binC E .eql ty cx cy) (.int .i32 (.ofNat m)) (.int .i32 (.ofNat n)) k=k (.bool (beq m n)):=by
 have hb:ij E .eql ty cx cy (.int .i32 (.ofNat m)) (.int .i32 (.ofNat n))=some (.bool ((m:Int)==(n:Int))):=rfl;have hd:((m:Int)==(n:Int))=beq m n:=by
  by_cases q:m=n
  ·subst q;simp
  ·rw[dB q];exact JM.2 (by omega)
 rw[<-hd];unfold binR binC;rw[hE]
 first
  | rfl
  | (show bindO (ij E .eql ty cx cy (.int .i32 (.ofNat m)) (.int .i32 (.ofNat n))) k=_;rw[hb];rfl)
def bK (c:bV) (r:UInt8) (ws on tx:List Bs):List Bs × List Bs × List Bs:=
 if r=76 then (ws ++ [c.label],on,tx)
 else if r=104 then (ws ++ [on.headD []],on.tail,tx)
 else if r=110 then (ws ++ [if c.op=19/\c.n=-1 then [110,111,110,101] else cR c.n],on,tx)
 else if r=109 then (ws ++ [cR c.m],on,tx)
 else if r=107 then (ws ++ [cR c.k],on,tx)
 else if r=99 then (ws ++ [aZ.getD c.kind []],on,tx)
 else if r=116 then (ws ++ [dF (tx.headD [])],on,tx.tail)
 else (ws++tx.map dF,on,tx)
structure Zk (rc:RC) (hS:H):Prop where
 num:∀(n:Int) (h:H) (k:Value->H->R),eX n->bu hS h->rc 13 [.int .i64 n] h k=k (ak (cR n)) h
 text:∀(s:Bs) (h:H) (k:Value->H->R),rc 60 [ak s] h k=k (ak (dF s)) h
 put:∀(B pb:Nat) (h:H) (ws:List Bs) (von vtx:Value) (w:Bs) (k:Value->H->R) (X:R),PN B h pb ws von vtx->h.next<=800000000->ws.length<=8500->rc 59 [.pointer (some ⟨pb,0,none⟩),ak w] h k=X ->
  ∃h',X=k (.tuple ⟨[]⟩) h'/\PN B h' pb (ws ++ [w]) von vtx/\dj B h h' 2/\KI h h'
 kinds:∀(h:H) (k:Value->H->R),h.next<=900000000->rc 29 [] h k=k (.slice (some ⟨h.next,0,none⟩) 5 10) (ag h (.row 9 5 false false 0 (T.ofList unk (aZ.map ak))))
variable {E : Env} (u : UT E) {rc : RC} {hS hb : H} {pb : Nat} {h : H} {k : Value -> H -> R} {X : R}
include u
theorem acz (W:Zk rc hS) {tx:List Bs} {von vtx:Value} (o2:WL hb vtx tx) (htx:tx.length<=8100) (A:Addr) (cells:T Value) (hA:getF cells (Nat.add A.2 2)=vtx) (a:aa []->H->R):∀(d i N:Nat) (ws:List Bs) (h:H),i+d=tx.length->d<N->bu hb h->PN hb.next h pb ws von vtx->h.next+2*d<=790000000->ws.length+d<=8400 ->
  @loopF [14] (wN E (.int .i64 (.ofNat tx.length)) cells A rc (.pointer (some ⟨pb,0,none⟩)) a) N (.int .i64 (.ofNat i),()) h=X ->
  ∃h',X=a () h'/\PN hb.next h' pb (ws++(tx.drop i).map dF) von vtx/\dj hb.next h h' (2*d)/\KI h h':=by
 have u3:=u.u3;intro d
 induction d with
 | zero=> intro i N ws h hi hN f p hn hl e;obtain⟨N',rfl⟩:∃N',N=N'+1:=⟨N-1,by omega⟩;rw[aT] at e;unfold wN at e;rw[show ((.int .i64 (.ofNat i),()):aa [14]).1=.int .i64 (.ofNat i) from rfl] at e;rw[fj u3 (show tx.length<=i by omega),ah,ax] at e;refine⟨h,e.symm,?_,dj.refl _ _ _,KI.refl _⟩;rw[List.drop_eq_nil_of_le (by omega)];simpa using p
 | succ d ih=>
  intro i N ws h hi hN f p hn hl e;obtain⟨N',rfl⟩:∃N',N=N'+1:=⟨N-1,by omega⟩;rw[aT] at e;generalize hL:@loopF [14] (wN E (.int .i64 (.ofNat tx.length)) cells A rc (.pointer (some ⟨pb,0,none⟩)) a) N'=L at e;unfold wN at e;have hlt:i<tx.length:=by omega
  rw[show ((.int .i64 (.ofNat i),()):aa [14]).1=.int .i64 (.ofNat i) from rfl] at e;rw[gt u3 hlt,ah,aA] at e;dsimp only at e;rw[ah,bC,hA] at e;have o:=o2.from f;cases o with
  | nil=>exact absurd hlt (Jy _)
  | gar=>exact absurd hlt (Jy _)
  | row hbk hq hm hcap hc=>
   rename_i b of e' m c fz op ro cs;have hq:=hq (λq=>by subst q;exact absurd hlt (Jy _));have hqr:∀K,onRow (hget h b) K=K e' m op ro fz cs:=λK=>by rw[hq];rfl
   rw[bp,aj (show Nat.succ i<=tx.length from hlt),bw,au] at e;simp only[Ju,Nat.mul_one,↓hqr] at e;rw[aj (show Nat.succ (of+i)<=m by omega),hc i hlt,W.text] at e;obtain⟨h1,e1,p1,f1,k1⟩:=W.put _ _ _ _ _ _ _ _ _ p (by omega) (by omega) e;rw[dr u3 (by omega)] at e1;obtain⟨h2,e2,p2,f2,k2⟩:=ih (i+1) N' (ws ++ [dF tx[i]]) h1 (by omega) (by omega) (f.frB f1 (Jd _)) p1 (by have:=f1.ub;omega) (by simp;omega) (by rw[hL];exact e1.symm);refine⟨h2,e2,?_,f1.trans f2 (by omega),k1.trans k2 f1.le⟩;rw[JR hlt,J5];simpa using p2
theorem apB (W:Zk rc hS) (hSb:bu hS hb) {c:bV} {ln:Int} {ws on tx:List Bs} {von vtx von0 vtx0:Value} (hbh:bu hb h) (p:PN hb.next h pb ws von vtx) (o1:WL hb von on) (o2:WL hb vtx tx) (c1:cj von) (c2:cj vtx)
  (z1:cell1F von0=true) (z2:cell1F vtx0=true) (hn:h.next<=700000000) (hl:ws.length+tx.length<=8100) (hz:eX c.n/\eX c.m/\eX c.k) (h19:c.op<=255) {r:UInt8} (hr:r=104->on ≠ []) (ht:r=116->tx ≠ []) (hk:r=99->c.kind<5)
  (e:p31 E rc (.pointer (some ⟨pb,0,none⟩)) (.agg ⟨aO ln c von0 vtx0⟩) (.int .i32 (.ofNat r.toNat)) h k=X):
  ∃h' von' vtx',X=k (.tuple ⟨[]⟩) h'/\PN hb.next h' pb (bK c r ws on tx).1 von' vtx'/\WL hb von' (bK c r ws on tx).2.1/\WL hb vtx' (bK c r ws on tx).2.2/\cj von'/\cj vtx'/\dj hb.next h h' (10+2*tx.length)/\KI h h':=by
 have u3:=u.u3;have u5:=u.u5;have hle:=hbh.le;unfold p31 at e;have ha:allF (λb=>cell1F b) (aO ln c von0 vtx0)=true:=by unfold aO ak;simp only[jg,z1,z2];rfl
 change ifB (allF (λb=>cell1F b) (aO ln c von0 vtx0)) _=X at e;rw[aP ha,aj (show h.1<=1000000000 by show h.next<=_;omega),aD] at e;rw[show lenF (aO ln c von0 vtx0)=9 from rfl] at e;have f1:Fr h (ag h (.row 39 9 false false 0 (T.ofList unk (aO ln c von0 vtx0)))) 1:=Fr.push _ (by omega);have p1:=p.push (by omega) (.row 39 9 false false 0 (T.ofList unk (aO ln c von0 vtx0)));have g1:hget (ag h (.row 39 9 false false 0 (T.ofList unk (aO ln c von0 vtx0)))) h.1=.row 39 9 false false 0 (T.ofList unk (aO ln c von0 vtx0)):=az _ _ (by omega);have hn1:(ag h (.row 39 9 false false 0 (T.ofList unk (aO ln c von0 vtx0)))).next=h.next+1:=rfl;generalize ag h (.row 39 9 false false 0 (T.ofList unk (aO ln c von0 vtx0)))=h1 at e f1 p1 g1 hn1;have fb1:dj hb.next h h1 1:=f1.b hle;have hb1:bu hb h1:=hbh.frB fb1 (Jd _);have hS1:bu hS h1:=hSb.trans hb1;have hu1:=f1.ub;have hqr:∀K,onRow (hget h1 h.1) K=K 39 9 false false 0 (T.ofList unk (aO ln c von0 vtx0)):=λK=>by rw[g1];rfl
 simp only[↓ah,↓uf u.u21] at e;have eqb:∀n:UInt8,r.toNat=n.toNat->r=n:=λn e=>UInt8.toNat_inj.1 e;have neb:∀n:UInt8,r.toNat≠n.toNat->r≠n:=λn e e'=>e (by rw[e']);have gv:∀i,getF (T.ofList unk (aO ln c von0 vtx0)) i=(aO ln c von0 vtx0).getD i unk:=λi=>by rw[aI]
 have word:∀(w:Bs) (h0:H),h0.next<=700000002->dj hb.next h1 h0 1->KI h1 h0->PN hb.next h0 pb ws von vtx->rc 59 [.pointer (some ⟨pb,0,none⟩),ak w] h0 (λ_ i=>k (.tuple ⟨[]⟩) i)=X->bK c r ws on tx=(ws ++ [w],on,tx) ->
   ∃h' von' vtx',X=k (.tuple ⟨[]⟩) h'/\PN hb.next h' pb (bK c r ws on tx).1 von' vtx'/\WL hb von' (bK c r ws on tx).2.1/\WL hb vtx' (bK c r ws on tx).2.2/\cj von'/\cj vtx'/\dj hb.next h h' (10+2*tx.length)/\KI h h':=by
  intro w h0 hn0 f0 k0 p0 e0 ew;obtain⟨h2,e2,p2,f2,k2⟩:=W.put _ _ _ _ _ _ _ _ _ p0 (by omega) (by omega) e0;rw[ew];exact⟨h2,von,vtx,e2,p2,o1,o2,c1,c2,(fb1.trans f0 (Jd _)).trans f2 (by omega),(f1.ki.trans k0 f1.le).trans k2 (by have:=f1.le;have:=f0.le;omega)⟩
 by_cases q1:r.toNat=(76:UInt8).toNat
 ·rw[q1,show beq (76:UInt8).toNat 76=true from rfl,aA] at e;simp only[↓hqr] at e;rw[aP (show ble 3 9=true from rfl),gv] at e;exact word c.label h1 (by omega) (dj.refl _ _ _) (KI.refl _) p1 e (by unfold bK;rw[if_pos (eqb _ q1)])
 rw[dB (show r.toNat≠76 from q1),ax] at e;by_cases q2:r.toNat=(104:UInt8).toNat
 ·have hr:=hr (eqb _ q2);rw[q2,show beq (104:UInt8).toNat 104=true from rfl,aA] at e;obtain⟨w,on',rfl⟩:∃w on',on=w :: on':=List.exists_cons_of_ne_nil hr;have p1':=p1;obtain⟨lo,lt,cells,vw,hq,h0,hp1,hp2,o,hv⟩:=p1;have hpr:∀K,onRow (hget h1 pb) K=K 70 3 false false 0 cells:=λK=>by rw[hq];rfl
  obtain⟨v',hs1,hs2,hs3⟩:=uN u o1 c1;have oo:=o1.from hb1;rw[aR,au] at e;simp only[↓hpr] at e;rw[aP (show ble (Nat.succ (Nat.add 0 1)) 3=true from rfl),show getF cells (Nat.add 0 1)=von from hp1] at e;cases oo with
  | row hbk hqb hm hcap hc=>
   rename_i b of e' m cp fz op ro cs;have hqb:=hqb (by simp);have hbr:∀K,onRow (hget h1 b) K=K e' m op ro fz cs:=λK=>by rw[hqb];rfl
   have hm':of+1<=m:=by simp at hm;omega
   rw[bp,aj (show 1<=(w :: on').length by simp)] at e;simp only[↓hbr] at e;rw[aj (show Nat.succ of<=m from hm'),show getF cs of=ak w from hc 0 (by simp)] at e;obtain⟨h2,e2,p2,f2,k2⟩:=W.put _ _ _ _ _ _ _ _ _ p1' (by omega) (by omega) e;obtain⟨lo2,lt2,cells2,vw2,hq2,cN,hp12,hp22,o2',hv2⟩:=p2;have hpr2:∀K,onRow (hget h2 pb) K=K 70 3 false false 0 cells2:=λK=>by rw[hq2];rfl
   have hu2:=f2.ub;rw[aR,au] at e2;simp only[↓hpr2] at e2;rw[aP (show ble (Nat.succ (Nat.add 0 1)) 3=true from rfl),show getF cells2 (Nat.add 0 1)=_ from hp12,hs1,aK,aR,au] at e2;simp only[↓hs2.cells] at e2;have hst:=uK hq2 (show 1+1<=3 by omega) (by omega) hs2.cell1 (λy=>k (.tuple ⟨[]⟩) y);have hst':=e2.trans hst;have hww:bK c r ws (w :: on') tx=(ws ++ [w],on',tx):=by unfold bK;rw[if_neg (neb _ q1),if_pos (eqb _ q2)];rfl
   rw[hww];refine⟨_,v',vtx,hst',⟨lo2,show pb<h2.next by omega,putF cells2 1 [v'],vw2,bj _ _ _ (by omega),?_,?_,?_,?_,hv2⟩,hs2,o2,hs3,c2,?_,(f1.ki.trans k2 f1.le).trans (KI.set hq2 (by omega) _) (by have:=f1.le;have:=f2.le;omega)⟩
   ·rw[eu _ (by omega),if_neg (by omega),cN]
   ·rw[eu _ (by omega),if_pos rfl]
   ·rw[eu _ (by omega),if_neg (by omega),hp22]
   ·refine o2'.keep (Jd _) λp hp hl=>?_;have:p≠pb:=λee=>by subst ee;obtain⟨n,op,cs,e9⟩:=o2'.row9 hp;rw[hq2] at e9;cases e9
    rw[bS _ _ _ _ (by omega),if_neg this]
   ·exact (fb1.trans f2 (Jd _)).trans (dj.set lo2 (by omega) _) (by omega)
 rw[dB (show r.toNat≠104 from q2),ax] at e;by_cases q3:r.toNat=(110:UInt8).toNat
 ·rw[q3,show beq (110:UInt8).toNat 110=true from rfl,aA] at e;simp only[↓hqr] at e;rw[aP (show ble 2 9=true from rfl),gv,show (aO ln c von0 vtx0).getD 1 unk=.int .u8 (.ofNat c.op) from rfl,hG u5] at e;have e31:∀K:aa []->H->R,B5 h1 h rc (.pointer (some ⟨pb,0,none⟩)) K=rc 59 [.pointer (some ⟨pb,0,none⟩),ak (cR c.n)] h1 λ_ g=>K () g:=λK=>by unfold B5;simp only[↓hqr];rw[aP (show ble 5 9=true from rfl),gv,show (aO ln c von0 vtx0).getD 4 unk=.int .i64 c.n from rfl,W.num _ _ _ hz.1 hS1]
  have hw3:∀w,(if c.op=19/\c.n=-1 then [110,111,110,101] else cR c.n)=w->bK c r ws on tx=(ws ++ [w],on,tx):=λw hw=>by unfold bK;rw[if_neg (neb _ q1),if_neg (neb _ q2),if_pos (eqb _ q3),hw]
  by_cases q19:c.op=19
  ·rw[gm q19] at e;simp only[↓aE,↓cu,↓au,↓hqr] at e;rw[aP (show ble (Nat.succ 4) 9=true from rfl),gv,show (aO ln c von0 vtx0).getD 4 unk=.int .i64 c.n from rfl,ag6 u3] at e;simp only[↓aA,↓ah] at e;by_cases qm:c.n=-1
   ·rw[decide_eq_true qm,aA] at e;exact word [110,111,110,101] h1 (by omega) (dj.refl _ _ _) (KI.refl _) p1 e (hw3 _ (if_pos ⟨q19,qm⟩))
   ·rw[decide_eq_false qm,ax,e31] at e;exact word _ h1 (by omega) (dj.refl _ _ _) (KI.refl _) p1 e (hw3 _ (if_neg λh=>qm h.2))
  ·rw[dB q19] at e;simp only[↓aE,↓cP,↓ax,↓ah] at e;rw[e31] at e;exact word _ h1 (by omega) (dj.refl _ _ _) (KI.refl _) p1 e (hw3 _ (if_neg λh=>q19 h.1))
 rw[dB (show r.toNat≠110 from q3),ax] at e;by_cases q4:r.toNat=(109:UInt8).toNat
 ·rw[q4,show beq (109:UInt8).toNat 109=true from rfl,aA] at e;simp only[↓hqr] at e;rw[aP (show ble 6 9=true from rfl),gv,show (aO ln c von0 vtx0).getD 5 unk=.int .i64 c.m from rfl,W.num _ _ _ hz.2.1 hS1] at e;exact word (cR c.m) h1 (by omega) (dj.refl _ _ _) (KI.refl _) p1 e (by unfold bK;rw[if_neg (neb _ q1),if_neg (neb _ q2),if_neg (neb _ q3),if_pos (eqb _ q4)])
 rw[dB (show r.toNat≠109 from q4),ax] at e;by_cases q5:r.toNat=(107:UInt8).toNat
 ·rw[q5,show beq (107:UInt8).toNat 107=true from rfl,aA] at e;simp only[↓hqr] at e;rw[aP (show ble 7 9=true from rfl),gv,show (aO ln c von0 vtx0).getD 6 unk=.int .i64 c.k from rfl,W.num _ _ _ hz.2.2 hS1] at e;exact word (cR c.k) h1 (by omega) (dj.refl _ _ _) (KI.refl _) p1 e (by unfold bK;rw[if_neg (neb _ q1),if_neg (neb _ q2),if_neg (neb _ q3),if_neg (neb _ q4),if_pos (eqb _ q5)])
 rw[dB (show r.toNat≠107 from q5),ax] at e;by_cases q6:r.toNat=(99:UInt8).toNat
 ·have hk:=hk (eqb _ q6);rw[q6,show beq (99:UInt8).toNat 99=true from rfl,aA] at e;rw[aj (show h1.1<=1000000000 by show h1.next<=_;omega),aD,Ey] at e;simp only[↓hqr] at e;rw[aP (show ble 8 9=true from rfl),W.kinds _ _ (by omega)] at e;have f5:Fr h1 (ag h1 (.row 9 5 false false 0 (T.ofList unk (aZ.map ak)))) 1:=Fr.push _ (by omega);have p5:=p1.push (by omega) (.row 9 5 false false 0 (T.ofList unk (aZ.map ak)));have g5:hget (ag h1 (.row 9 5 false false 0 (T.ofList unk (aZ.map ak)))) h1.next=.row 9 5 false false 0 (T.ofList unk (aZ.map ak)):=az _ _ (by omega);generalize ag h1 (.row 9 5 false false 0 (T.ofList unk (aZ.map ak)))=h5 at e f5 p5 g5;have hq5:∀K,onRow (hget h5 h.1) K=K 39 9 false false 0 (T.ofList unk (aO ln c von0 vtx0)):=λK=>by rw[f5.old _ (show h.next<h1.next by omega),g1];rfl
  have hk5:∀K,onRow (hget h5 h1.next) K=K 9 5 false false 0 (T.ofList unk (aZ.map ak)):=λK=>by rw[g5];rfl
  rw[aP (gg _),aP (gg _)] at e;simp only[↓hq5] at e;rw[aP (show ble 8 9=true from rfl),gv,show (aO ln c von0 vtx0).getD 7 unk=.int .u8 (.ofNat c.kind) from rfl,aP (iC _ _),bC,bp,aj (show Nat.succ c.kind<=5 from hk),bw,au] at e;simp only[Ju,Nat.mul_one,JN,↓hk5] at e;rw[aj (show Nat.succ c.kind<=5 from hk),aI] at e;have hkk:(aZ.map ak).getD c.kind unk=ak (aZ.getD c.kind []):=by rw[Jc,JX,Jc,Jn (show c.kind<aZ.length from hk)];rfl
  rw[hkk] at e;exact word _ h5 (by have:=f5.ub;omega) (f5.b (by have:=fb1.le;omega)) f5.ki p5 e (by unfold bK;rw[if_neg (neb _ q1),if_neg (neb _ q2),if_neg (neb _ q3),if_neg (neb _ q4),if_neg (neb _ q5),if_pos (eqb _ q6)])
 rw[dB (show r.toNat≠99 from q6),ax] at e;have neg6:∀y:List Bs × List Bs × List Bs,(if r=116 then (ws ++ [dF (tx.headD [])],on,tx.tail) else (ws++tx.map dF,on,tx))=y->bK c r ws on tx=y:=λy hy=>by unfold bK;rw[if_neg (neb _ q1),if_neg (neb _ q2),if_neg (neb _ q3),if_neg (neb _ q4),if_neg (neb _ q5),if_neg (neb _ q6),hy]
 have p1':=p1;obtain⟨lo,lt,cells,vw,hq,h0,hp1,hp2,o,hv⟩:=p1;have hpr:∀K,onRow (hget h1 pb) K=K 70 3 false false 0 cells:=λK=>by rw[hq];rfl
 by_cases q7:r.toNat=(116:UInt8).toNat
 ·have ht:=ht (eqb _ q7);rw[q7,show beq (116:UInt8).toNat 116=true from rfl,aA] at e;obtain⟨w,tx',rfl⟩:∃w tx',tx=w :: tx':=List.exists_cons_of_ne_nil ht;obtain⟨v',hs1,hs2,hs3⟩:=uN u o2 c2;have oo:=o2.from hb1;rw[aR,au] at e;simp only[↓hpr] at e;rw[aP (show ble (Nat.succ (Nat.add 0 2)) 3=true from rfl),show getF cells (Nat.add 0 2)=vtx from hp2] at e;cases oo with
  | row hbk hqb hm hcap hc=>
   rename_i b of e' m cp fz op ro cs;have hqb:=hqb (by simp);have hbr:∀K,onRow (hget h1 b) K=K e' m op ro fz cs:=λK=>by rw[hqb];rfl
   have hm':of+1<=m:=by simp at hm;omega
   rw[bp,aj (show 1<=(w :: tx').length by simp)] at e;simp only[↓hbr] at e;rw[aj (show Nat.succ of<=m from hm'),show getF cs of=ak w from hc 0 (by simp),W.text] at e;obtain⟨h2,e2,p2,f2,k2⟩:=W.put _ _ _ _ _ _ _ _ _ p1' (by omega) (by omega) e;obtain⟨lo2,lt2,cells2,vw2,hq2,cN,hp12,hp22,o2',hv2⟩:=p2;have hpr2:∀K,onRow (hget h2 pb) K=K 70 3 false false 0 cells2:=λK=>by rw[hq2];rfl
   have hu2:=f2.ub;rw[aR,au] at e2;simp only[↓hpr2] at e2;rw[aP (show ble (Nat.succ (Nat.add 0 2)) 3=true from rfl),show getF cells2 (Nat.add 0 2)=_ from hp22,hs1,aK,aR,au] at e2;simp only[↓hs2.cells] at e2;have hst:=uK hq2 (show 2+1<=3 by omega) (by omega) hs2.cell1 (λy=>k (.tuple ⟨[]⟩) y);have hst':=e2.trans hst;have hww:bK c r ws on (w :: tx')=(ws ++ [dF w],on,tx'):=neg6 _ (by rw[if_pos (eqb _ q7)];rfl);rw[hww];refine⟨_,von,v',hst',⟨lo2,show pb<h2.next by omega,putF cells2 2 [v'],vw2,bj _ _ _ (by omega),?_,?_,?_,?_,hv2⟩,o1,hs2,c1,hs3,?_,(f1.ki.trans k2 f1.le).trans (KI.set hq2 (by omega) _) (by have:=f1.le;have:=f2.le;omega)⟩
   ·rw[eu _ (by omega),if_neg (by omega),cN]
   ·rw[eu _ (by omega),if_neg (by omega),hp12]
   ·rw[eu _ (by omega),if_pos rfl]
   ·refine o2'.keep (Jd _) λp hp hl=>?_;have:p≠pb:=λee=>by subst ee;obtain⟨n,op,cs,e9⟩:=o2'.row9 hp;rw[hq2] at e9;cases e9
    rw[bS _ _ _ _ (by omega),if_neg this]
   ·exact (fb1.trans f2 (Jd _)).trans (dj.set lo2 (by omega) _) (by omega)
 rw[dB (show r.toNat≠116 from q7),ax] at e;rw[aR,au] at e;simp only[↓hpr] at e;rw[aP (show ble (Nat.succ (Nat.add 0 2)) 3=true from rfl),aW,show getF cells (Nat.add 0 2)=vtx from hp2,fv (o2.from hb1) u.u37] at e;obtain⟨h2,e2,p2,f2,k2⟩:=acz u W o2 (by omega) ⟨pb,0,none⟩ cells hp2 _ tx.length 0 cM ws h1 (by omega) (by unfold cM;omega) hb1 p1' (by omega) (by omega) e;rw[neg6 _ (if_neg (neb _ q7))];exact⟨h2,von,vtx,e2,by simpa using p2,o1,o2,c1,c2,fb1.trans f2 (by omega),f1.ki.trans k2 f1.le⟩
end
section
def DL (w:Bs) (h:w ≠ []):aG w=!(w.any λb=>b==32||b==10):=by
 unfold aG;rw[show w.isEmpty=false by cases w <;> simp_all,Bool.not_false,Ky,List.not_any_eq_all_not]
 congr 1
 funext b
 cases (b==32) <;> cases (b==10) <;> rfl
variable {E : Env} (u : UT E) {rc : RC}
include u
theorem agJ {ws:List Bs} {v:Value} {h:H} (o:WL h v ws) (hW:∀w∈ws,∀k:Value->H->R,rc 34 [ak w] h k=k (.bool (!aG w)) h) (hl:ws.length<=1000000) (k:Value->H->R) (b:aa [4]->H->R) (hb:∀e,b e h=k (.int .i64 (.negSucc 0)) h):
  ∀(d i N:Nat) (x:Value),i+d=ws.length->d<N->∃j:Nat,@loopF [4,8] (pW E (.int .i64 (.ofNat ws.length)) v (.func (.func 34) #[] #[]) rc k b) N (x,(.int .i64 (.ofNat i),())) h=if (ws.drop i).all aG then k (.int .i64 (.negSucc 0)) h else k (.int .i64 (.ofNat j)) h:=by
 have u3:=u.u3;intro d
 induction d with
 | zero=> intro i N x hi hN;obtain⟨N',rfl⟩:∃N',N=N'+1:=⟨N-1,by omega⟩;refine⟨0,?_⟩;rw[aT];generalize @loopF [4,8] (pW E (.int .i64 (.ofNat ws.length)) v (.func (.func 34) #[] #[]) rc k b) N'=L;unfold pW;dsimp only;rw[fj u3 (show ws.length<=i by omega),ah,ax,hb,List.drop_eq_nil_of_le (by omega)];rfl
 | succ d ih=>
  intro i N x hi hN;obtain⟨N',rfl⟩:∃N',N=N'+1:=⟨N-1,by omega⟩;have hlt:i<ws.length:=by omega
  obtain⟨j,hj⟩:=ih (i+1) N' (.int .i64 (.ofNat i)) (by omega) (by omega);have hj':∀x',∃j:Nat,@loopF [4,8] (pW E (.int .i64 (.ofNat ws.length)) v (.func (.func 34) #[] #[]) rc k b) N' (x',(.int .i64 (.ofNat (i+1)),())) h=if (ws.drop (i+1)).all aG then k (.int .i64 (.negSucc 0)) h else k (.int .i64 (.ofNat j)) h:=λx'=>ih (i+1) N' x' (by omega) (by omega)
  clear hj ih;rw[aT];generalize @loopF [4,8] (pW E (.int .i64 (.ofNat ws.length)) v (.func (.func 34) #[] #[]) rc k b) N'=L at hj';unfold pW;dsimp only;rw[gt u3 hlt,ah,aA];dsimp only;rw[ah,bC];cases o with
  | nil=>exact absurd hlt (Jy _)
  | gar=>exact absurd hlt (Jy _)
  | row hbk hq hm hcap hc=>
   rename_i bk of e' m c fz op ro cs;have hq:=hq (λq=>by subst q;exact absurd hlt (Jy _));have hqr:∀K,onRow (hget h bk) K=K e' m op ro fz cs:=λK=>by rw[hq];rfl
   rw[bp,aj (show Nat.succ i<=ws.length from hlt),bw,au];simp only[Ju,Nat.mul_one,↓hqr];rw[aj (show Nat.succ (of+i)<=m by omega),hc i hlt,vW];rw[show pa #[] #[] [ak ws[i]]=[ak ws[i]] from rfl,hW _ (J6 hlt),ah];obtain⟨j,hj⟩:=hj' x;rw[JR hlt,JZ];cases hw:aG ws[i] with
   | false=> refine⟨i,?_⟩;rfl
   | true=> refine⟨j,?_⟩;rw[Bool.not_true,ax,Ky,<-hj];dsimp only;rw[dr u3 (by omega)]
theorem aru {ws:List Bs} {v:Value} {h:H} (o:WL h v ws) (hW:∀w∈ws,∀k:Value->H->R,rc 34 [ak w] h k=k (.bool (!aG w)) h) (hl:ws.length<=900000) (k:Value->H->R):
  ∃j:Nat,p62 E rc v (.func (.func 34) #[] #[]) h k=if ws.all aG then k (.int .i64 (.negSucc 0)) h else k (.int .i64 (.ofNat j)) h:=by
 unfold p62;rw[aW,fv o u.u37,ah];have:=agJ u o hW (by omega) k (λ_ b=>k (.int .i64 (.negSucc 0)) b) (λ_=>rfl) ws.length 0 cM (.int .i64 (.ofNat 0)) (by omega) (by unfold cM;omega);simpa using this
theorem aqR {ws:List Bs} {v:Value} {h:H} (h62:∀k:Value->H->R,∃j:Nat,rc 62 [v,.func (.func 34) #[] #[]] h k=if ws.all aG then k (.int .i64 (.negSucc 0)) h else k (.int .i64 (.ofNat j)) h) (k:Value->H->R):
  p33 E rc v (.func (.func 34) #[] #[]) h k=k (.bool (!ws.all aG)) h:=by
 have u3:=u.u3;unfold p33;obtain⟨j,e⟩:=h62 λa b=>binR (binC E BinOp.geq 3 false true) a (.int .i64 (.ofNat 0)) λc=>k c b;rw[e];cases ws.all aG with
 | true=>rw[if_pos rfl,sP u3];rfl
 | false=>rw[if_neg (by simp),sP u3,decide_eq_true (by simp)];rfl
end
end Go.Ev
