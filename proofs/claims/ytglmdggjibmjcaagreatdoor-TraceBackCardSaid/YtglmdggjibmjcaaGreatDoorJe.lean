/-
  TWO MORE FUNCTIONS WITHOUT A BODY: how often a byte stands in a string, and where first.
-/
import Derived.Test.YtglmdggjibmjcaaGreatDoorJd
import Derived.Test.YtglmdggjibmjcaaGreatDoorJc
import Derived.Lib.MakeNoZero
import Derived.Lib.Overlaps
import Derived.Lib.Builder
import Derived.Laws.Externs
import Derived.Lib.Bytealg
noncomputable section
set_option linter.all false
open Nat (ble beq)
namespace Go.Ev
open Go
section
namespace F
def lk:(ks:List Tmp)->aa ks->Tmp->Value
 | [],_,_=>undef
 | k :: ks,e,d=>bif beq k d then e.1 else lk ks e.2 d
def jI (d:Tmp):∀(ks:List Tmp) (e:aa ks),(jv d ks).run e=lk ks e d
 | [],_=>rfl
 | [a],e=>by simp only[jv,lk];cases beq a d <;> rfl
 | [a,b],e=>by simp only[jv,lk];cases beq a d <;> cases beq b d <;> rfl
 | [a,b,c],e=>by simp only[jv,lk];cases beq a d <;> cases beq b d <;> cases beq c d <;> rfl
 | a :: b :: c :: x :: ks,e=>by simp only[jv,lk];cases beq a d <;> cases beq b d <;> cases beq c d <;> cases beq x d <;> first | rfl | exact jI d ks _
def qF (ks:List Tmp) (ok:Nat) (e:aa ks) (t:TM):Prop:=∀d,tb ok d=true->lk ks e d=t.get d
def E7 {ks:List Tmp} {ok:Nat} {e:aa ks} {t:TM} (hr:qF ks ok e t) {x:Operand} (h:okO ok x=true):(dG ks x).run e=ev t x:=by
 cases x with
 | tmp i=>exact (jI i ks e).trans (hr i h)
 | const v=>simp only[dG,ev];cases plain v <;> rfl
 | global g=>simp only[dG,ev];cases ble 16 g <;> rfl
 | func f=>rfl
def QM {ok:Nat} {l:List Operand} (h:yB ok l=true):∀x∈l,okO ok x=true:=by
 induction l with
 | nil=>intro x hx;simp at hx
 | cons a l ih=>
  obtain⟨h1,h2⟩:=fU (show hY (okO ok a) (yB ok l)=true from h);intro x hx;cases hx with
  | head=>exact h1
  | tail _ hx=>exact ih h2 x hx
def zR (ks:List Tmp) (e:aa ks) (t:TM) (l:List Operand):Prop:=∀x∈l,(dG ks x).run e=ev t x
def ux {ks:List Tmp} {ok:Nat} {e:aa ks} {t:TM} (hr:qF ks ok e t) {l:List Operand} (h:yB ok l=true):zR ks e t l:=
 λx hx=>E7 hr (QM h x hx)
def lm {ks:List Tmp} {e:aa ks} {t:TM} {l:List Operand} (h:zR ks e t l):(j4 ks l).run e=l.map (ev t):=by
 induction l with
 | nil=>rfl
 | cons x l ih=> simp only[j4,J5];rw[h x (by simp),ih λy hy=>h y (by simp[hy])]
def parts_eq {ks:List Tmp} {e:aa ks} {t:TM} {l:List (Nat × Operand)} (h:∀p∈l,(dG ks p.2).run e=ev t p.2):
  (pP ks l).run e=l.map λp=>(p.1,ev t p.2):=by
 induction l with
 | nil=>rfl
 | cons x l ih=> simp only[pP,J5];rw[h x (by simp),ih λy hy=>h y (by simp[hy])]
def zS {ks:List Tmp} {e:aa ks} {t:TM} {x:Option Operand} (h:∀y,x=some y->(dG ks y).run e=ev t y):(Hm ks x).run e=x.map (ev t):=by
 cases x with
 | none=>rfl
 | some y=>simp only[Hm,Option.map];rw[h y rfl]
def I0 {ks:List Tmp} (c:LC ks) (e:aa ks) (h:H) (o:Option Value):Prop:=∀k r,c.run e h k=some r->∃v,o=some v/\k v=some r
def hU {ks:List Tmp} {e:aa ks} {h:H} {o:Option Value}:I0 (LC.no ks) e h o:=λ_ _ h=>nomatch h
variable {E : Env} {ks : List Tmp} {e : aa ks} {h : H}
def IL {ty:TypeId} {x:OC ks}:I0 (FG E ks ty x) e h (match x.run e with | .pointer (some ad)=>bD E h ty ad | _=>none):=by
 unfold FG;split
 ·rename_i d s hd hs;cases ha:iY d with
  | true=> intro k r hk;obtain⟨ad,hx,hk⟩:=cO hk;obtain⟨el,n,op,ro,fz,c,ho,hk⟩:=cJ hk;obtain⟨hb,hk⟩:=ai hk;rw[bv] at ho;have hb:ble (ad.off+s) n=true:=hb;refine⟨_,?_,hk⟩;rw[hx];simp only[bD,hd,hs,ho,ha,Jo,hb,dK]
  | false=> intro k r hk;obtain⟨ad,hx,hk⟩:=cO hk;obtain⟨el,n,op,ro,fz,c,ho,hk⟩:=cJ hk;obtain⟨hb,hk⟩:=ai hk;rw[bv] at ho;have hb:Nat.blt ad.off n=true:=hb;refine⟨_,?_,hk⟩;rw[hx];simp only[bD,hd,hs,ho,ha,JP,hb,Jo,bI]
 ·exact hU
def rM {s:TypeId} {x:OC ks} {f:Nat}:I0 (mj E ks s x f) e h (gy E s (x.run e) f):=by
 unfold mj;split
 ·rename_i fs hs;split
  ·rename_i fd hf;split
   ·rename_i m hm;cases h0:beq fd.offset 0 with
    | true=> intro k r hk;obtain⟨ad,hx,hk⟩:=cO hk;refine⟨_,?_,hk⟩;rw[hx];have h0:fd.offset=0:=I8 h0;simp[gy,hs,hf,hm,ka,h0]
    | false=> intro k r hk;obtain⟨ad,hx,hk⟩:=cO hk;refine⟨_,?_,hk⟩;rw[hx];simp[gy,hs,hf,hm,ka,h0]
   ·exact hU
  ·exact hU
 ·exact hU
def nH {ad:Addr} {n:Nat} {k:Value->R} {r} (hk:addOffF ad n k=some r):k (.pointer (some (ka ad n)))=some r:=by
 cases n with
 | zero=>exact hk
 | succ n=>exact hk
def rV {ty:TypeId} {x i:OC ks}:I0 (l5 E ks ty x i) e h (gI E ty (x.run e) (i.run e)):=by
 unfold l5;split
 ·rename_i n el hs;split
  ·rename_i s hm;intro k r hk;rcases lU hk with hk | ⟨kd,j,hi,hk⟩
   ·exact nomatch hk
   obtain⟨ad,hx,hk⟩:=cO hk;obtain⟨hb,hk⟩:=ai hk;have hb:Nat.blt j n=true:=hb;refine⟨_,?_,nH hk⟩;rw[hx,hi];simp[gI,hs,hm,hb]
  ·exact hU
 ·rename_i el hs;split
  ·rename_i s hm;intro k r hk;rcases lU hk with hk | ⟨kd,j,hi,hk⟩
   ·exact nomatch hk
   rcases oA hk with hk | ⟨ad,n,c,hx,hk⟩
   ·exact nomatch hk
   obtain⟨hb,hk⟩:=ai hk;have hb:Nat.blt j n=true:=hb;refine⟨_,?_,nH hk⟩;rw[hx,hi];simp[gI,hs,hm,hb]
  ·exact hU
 ·exact hU
def Hs {s d:TypeId} {x:OC ks}:I0 (FW E ks s d x) e h (aY E h s d (x.run e)):=by
 unfold FW;split
 ·rename_i k1 kd hs hd;intro k r hk;rcases lU hk with hk | ⟨ko,n,hx,hk⟩
  ·exact cX hk
  ·rcases ip hk with ⟨_,hk⟩ | ⟨hb,hk⟩
   ·exact cX hk
   ·refine⟨_,?_,hk⟩;rw[hx];simp only[aY,hs,hd];have:=kf kd n (I7 hb);simp only[Int.ofNat_eq_natCast,this]
 ·intro k r hk;exact cX hk
def JF {ty:TypeId} {x:OC ks}:I0 (agr E ks ty x) e h (aX E h ty (x.run e)):=by
 unfold agr;split
 ·rename_i el hs;intro k r hk;rcases oA hk with hk | ⟨ad,n,c,hx,hk⟩
  ·exact cX hk
  ·refine⟨_,?_,hk⟩;rw[hx];simp[aX,hs]
 ·intro k r hk;exact cX hk
def C6 {ty:TypeId} {x:OC ks}:I0 (zK E ks ty x) e h (match E.und ty with | some (.interface _)=>none | some _=>bif mT (x.run e) then some (.iface ty (x.run e)) else none | none=>none):=by
 unfold zK;split
 ·exact hU
 ·rename_i d hd hs;intro k r hk;obtain⟨hb,hk⟩:=ai hk;rw[yj] at hb;refine⟨.iface ty (x.run e),?_,hk⟩;split
  ·rename_i hs';exact absurd (hs.symm.trans hs') (by intro q;injection q with q;exact hd _ q)
  ·simp[hb]
  ·rename_i hs';exact absurd (hs.symm.trans hs') (by simp)
 ·exact hU
def wh {b:Builtin} {args:List Operand} {tys:List TypeId} {t:TM} (ha:zR ks e t args):
  I0 (rI E ks b args tys) e h (bF E h b (args.map (ev t)) tys):=by
 unfold rI;split
 ·rename_i x ty tys';have hx:=ha x (by simp);have:=JF (E:=E) (e:=e) (h:=h) (ty:=ty) (x:=dG ks x);rw[hx] at this;exact this
 ·intro k r hk;have:=cX hk;rw[lm ha] at this;exact this
def sL {t:TM} {o:Oper} (ha:zR ks e t o.op.operands.toList):I0 (uL E ks o) e h (light E t h o):=by
 obtain⟨dst,op,type,pos,after,guard⟩:=o;cases op
 case move x=> intro k r hk;have:=ha x (by simp[Op.operands]);exact⟨_,rfl,by rw[<-this];exact hk⟩
 case assign x=> intro k r hk;have:=ha x (by simp[Op.operands]);exact⟨_,rfl,by rw[<-this];exact hk⟩
 case pick c a b=>
  intro k r hk;have h1:=ha c (by simp[Op.operands]);have h2:=ha a (by simp[Op.operands]);have h3:=ha b (by simp[Op.operands]);simp only[light];rcases pU hk with ⟨hc,hk⟩ | ⟨hc,hk⟩
  ·rw[h1] at hc;rw[h3] at hk;rw[hc];exact⟨_,rfl,hk⟩
  ·rw[h1] at hc;rw[h2] at hk;rw[hc];exact⟨_,rfl,hk⟩
 case load ty x=> have h1:=ha x (by simp[Op.operands]);have:=IL (E:=E) (e:=e) (h:=h) (ty:=ty) (x:=dG ks x);rw[h1] at this;exact this
 case nilCheck x=> intro k r hk;have h1:=ha x (by simp[Op.operands]);simp only[light,<-h1];exact cX hk
 case binOp op ty x y yt=> intro k r hk;have h1:=ha x (by simp[Op.operands]);have h2:=ha y (by simp[Op.operands]);simp only[light,<-h1,<-h2];exact Df op _ _ _ _ hk
 case unOp op ty x=>
  have h1:=ha x (by simp[Op.operands]);intro k r hk;simp only[light,<-h1];cases op
  case not=>
   rcases pU hk with ⟨hc,hk⟩ | ⟨hc,hk⟩
   ·rw[hc];exact⟨_,rfl,hk⟩
   ·rw[hc];exact⟨_,rfl,hk⟩
  all_goals exact cX hk
 case convert s d x=> have h1:=ha x (by simp[Op.operands]);have:=Hs (E:=E) (e:=e) (h:=h) (s:=s) (d:=d) (x:=dG ks x);rw[h1] at this;exact this
 case build ty parts=> intro k r hk;have:=cX hk;rw[parts_eq (t:=t) (λp hp=>ha p.2 (by simp only[Op.operands];exact List.mem_map.2 ⟨p,hp,rfl⟩))] at this;exact this
 case fieldAddr s x f=> have h1:=ha x (by simp[Op.operands]);have:=rM (E:=E) (e:=e) (h:=h) (s:=s) (x:=dG ks x) (f:=f);rw[h1] at this;exact this
 case field s x f=> have h1:=ha x (by simp[Op.operands]);intro k r hk;have:=cX hk;rw[h1] at this;exact this
 case indexAddr ty x i=> have h1:=ha x (by simp[Op.operands]);have h2:=ha i (by simp[Op.operands]);have:=rV (E:=E) (e:=e) (h:=h) (ty:=ty) (x:=dG ks x) (i:=dG ks i);rw[h1,h2] at this;exact this
 case index ty x i=> have h1:=ha x (by simp[Op.operands]);have h2:=ha i (by simp[Op.operands]);intro k r hk;have:=cX hk;rw[h1,h2] at this;exact this
 case slice ty x lo hi mx=>
  have h1:=ha x (by simp[Op.operands]);intro k r hk;have:=cX hk
  rw[h1,zS (t:=t) (x:=lo) (λy hy=>ha y (by simp[Op.operands,hy])),zS (t:=t) (x:=hi) (λy hy=>ha y (by simp[Op.operands,hy])),
   zS (t:=t) (x:=mx) (λy hy=>ha y (by simp[Op.operands,hy]))] at this
  exact this
 case extract x i=> have h1:=ha x (by simp[Op.operands]);intro k r hk;obtain⟨l,hl,hk⟩:=Ac hk;rw[h1] at hl;simp only[light,hl];exact aQ hk
 case makeInterface ty x=> have h1:=ha x (by simp[Op.operands]);have:=C6 (E:=E) (e:=e) (h:=h) (ty:=ty) (x:=dG ks x);rw[h1] at this;exact this
 case makeFunc fn first caps=>
  cases fn
  case func f=>
   intro k r hk;obtain⟨hb,hk⟩:=ai hk;obtain⟨hb1,hb2⟩:=fU hb;rw[uv yj] at hb1 hb2;have h1:zR ks e t first.toList:=λx hx=>ha x (by simp[Op.operands,Array.mem_toList_iff.1 hx])
   have h2:zR ks e t caps.toList:=λx hx=>ha x (by simp[Op.operands,Array.mem_toList_iff.1 hx]);rw[lm h1] at hb1 hk;rw[lm h2] at hb2 hk;refine⟨_,?_,hk⟩;simp only[light,hb1,hb2];rfl
  all_goals exact hU
 case lookup ty x i ok=> have h1:=ha x (by simp[Op.operands]);have h2:=ha i (by simp[Op.operands]);intro k r hk;have:=cX hk;rw[h1,h2] at this;exact this
 case call c=>
  obtain⟨callee,args,tys⟩:=c;cases callee
  case builtin b=> exact wh (λx hx=>ha x (by simp[Op.operands,Call.operands];exact Array.mem_toList_iff.1 hx))
  all_goals exact hU
 all_goals exact hU
end F
end
namespace F
def km (m d:Nat):tb m d=m.testBit d:=by
 unfold tb Nat.testBit;show beq ((m >>> d) &&& 1) 1=((1 &&& m >>> d) != 0);rw[Nat.and_comm (m >>> d) 1,Nat.one_and_eq_mod_two];have:m >>> d%2=0 \/ m >>> d%2=1:=by omega
 rcases this with h | h <;> rw[h] <;> rfl
def GY (d i:Nat):(Nat.shiftLeft 1 d).testBit i=decide (d=i):=by
 show (1 <<< d).testBit i=_;rw[Nat.testBit_shiftLeft];by_cases h:d=i
 ·subst h;simp
 ·by_cases h2:d<=i
  ·obtain⟨j,hj⟩:∃j,i-d=j+1:=⟨i-d-1,by omega⟩;rw[hj,Nat.testBit_succ];simp[h]
  ·simp[h];omega
def xO (a b d:Nat):tb (Nat.lor a b) d=(tb a d||tb b d):=by rw[km,km,km];exact Nat.testBit_or a b d
def jL (a b d:Nat):tb (Nat.land a b) d=(tb a d&&tb b d):=by rw[km,km,km];exact Nat.testBit_and a b d
def FL (a b d:Nat):tb (Nat.xor a b) d=(tb a d ^^ tb b d):=by rw[km,km,km];exact Nat.testBit_xor a b d
def pR (d i:Nat):tb (Nat.shiftLeft 1 d) i=decide (d=i):=by rw[km,GY]
def Jb (a b d:Nat):tb (uV a b) d=(tb a d && !tb b d):=by unfold uV;rw[FL,jL];cases tb a d <;> cases tb b d <;> rfl
def uP (d:Nat):tb 0 d=false:=by rw[km];simp
def iq (l:List Tmp) (d:Nat):tb (cC l) d=true ↔ d∈l:=by
 induction l with
 | nil=>show tb 0 d=true ↔ _;rw[uP];simp
 | cons a l ih=>
  show tb (Nat.lor (Nat.shiftLeft 1 a) (cC l)) d=true ↔ _;rw[xO,pR];simp only[J4,Kh,ih,Jr];constructor
  ·rintro (h | h)
   ·exact .inl h.symm
   ·exact .inr h
  ·rintro (h | h)
   ·exact .inl h.symm
   ·exact .inr h
def rH {a b:Nat} (h:rq a b=true) {d:Nat} (hd:tb a d=true):tb b d=true:=by have h:Nat.land a b=a:=I8 h;have:=jL a b d;rw[h,hd] at this;simpa using this.symm
def fy (l:List Tmp):∀(m:Nat) (d:Nat),d∈fk l m ↔ d∈l/\tb m d=true:=by
 induction l with
 | nil=>intro m d;show d∈[] ↔ _;simp
 | cons a l ih=>
  intro m d;have e:fk (a :: l) m=Bool.rec (motive:=λ_=>List Tmp) (fk l m) (a :: fk l (Nat.xor m (Nat.shiftLeft 1 a))) (tb m a):=rfl;rw[e];cases ha:tb m a with
  | false=>
   show d∈fk l m ↔ _;rw[ih];simp only[Jr];constructor
   ·rintro⟨h1,h2⟩;exact⟨.inr h1,h2⟩
   ·rintro⟨h1 | h1,h2⟩
    ·subst h1;rw[ha] at h2;exact nomatch h2
    ·exact⟨h1,h2⟩
  | true=>
   show d∈a :: fk l (Nat.xor m (Nat.shiftLeft 1 a)) ↔ _;simp only[Jr,ih,FL,pR];by_cases hd:d=a
   ·subst hd;simp[ha]
   ·have:¬ a=d:=λh=>hd h.symm;simp[hd,this]
def AI {k1 ks:List Tmp} (m:List Tmp) (e1:aa k1) (e:aa ks) (d:Tmp):
  lk (m++ks) ((sr k1 ks m).run e1 e) d=if d∈m then lk k1 e1 d else lk ks e d:=by
 induction m with
 | nil=>simp[sr]
 | cons a m ih=>
  show (bif beq a d then (jv a k1).run e1 else lk (m++ks) ((sr k1 ks m).run e1 e) d)=_;by_cases h:a=d
  ·subst h;have:beq a a=true:=JQ a;simp only[this,Jo,Jr,true_or,if_true];exact jI a k1 e1
  ·have hb:beq a d=false:=by cases hq:beq a d with
    | false=>rfl
    | true=>exact absurd (I8 hq) h
   have h2:¬ d=a:=λq=>h q.symm;simp only[hb,JP,Jr,h2,false_or];exact ih
def mD {k1:List Tmp} (m:List Tmp) (e1:aa k1) (d:Tmp) (hd:d∈m):lk m ((iF k1 m).run e1) d=lk k1 e1 d:=by
 induction m with
 | nil=>simp at hd
 | cons a m ih=>
  show (bif beq a d then (jv a k1).run e1 else lk m ((iF k1 m).run e1) d)=_;by_cases h:a=d
  ·subst h;have:beq a a=true:=JQ a;simp only[this,Jo];exact jI a k1 e1
  ·have hb:beq a d=false:=by cases hq:beq a d with
    | false=>rfl
    | true=>exact absurd (I8 hq) h
   simp only[hb,JP];cases hd with
   | head=>exact absurd rfl h
   | tail _ hd=>exact ih hd
def mM {ks:List Tmp} (m:List Tmp) (l:aa m) (e:aa ks) (d:Tmp):
  lk (m++ks) ((lN ks m).run l e) d=if d∈m then lk m l d else lk ks e d:=by
 induction m with
 | nil=>simp[lN]
 | cons a m ih=>
  show (bif beq a d then l.1 else lk (m++ks) ((lN ks m).run l.2 e) d)=if d∈a :: m then (bif beq a d then l.1 else lk m l.2 d) else lk ks e d
  by_cases h:a=d
  ·subst h;have:beq a a=true:=JQ a;simp[this]
  ·have hb:beq a d=false:=by cases hq:beq a d with
    | false=>rfl
    | true=>exact absurd (I8 hq) h
   have h2:¬ d=a:=λq=>h q.symm;simp only[hb,JP,Jr,h2,false_or];exact ih l.2
def push (dst:Option Tmp) (ks:List Tmp) (v:Value) (e:aa ks):aa (fZ dst ks):=
 match dst with
 | some _=>(v,e)
 | none=>e
def small (dst:Option Tmp):Prop:=∀d,dst=some d->d<=1000000000
def qz {t:TM} {dst:Option Tmp} {v:Value} (hs:small dst) (d:Tmp):(putV t dst v).get d=if dst=some d then v else t.get d:=by
 cases dst with
 | none=>simp[putV]
 | some a=>
  simp only[putV];rw[T.get_ins _ _ _ _ _ (Nat.lt_of_le_of_lt (KT (hs a rfl)) (by decide))];by_cases h:d=a
  ·subst h;simp
  ·have:¬ a=d:=λq=>h q.symm;simp[h,this]
def kR {ks:List Tmp} {ok:Nat} {e:aa ks} {t:TM} (hr:qF ks ok e t) {dst:Option Tmp} (hs:small dst) (v:Value):
  qF (fZ dst ks) (xl dst ok) (push dst ks v e) (putV t dst v):=by
 intro d hd;rw[qz hs];cases dst with
 | none=>simp only[reduceCtorEq,if_false];exact hr d hd
 | some a=>
  show (bif beq a d then v else lk ks e d)=_;by_cases h:a=d
  ·subst h;have:beq a a=true:=JQ a;simp[this]
  ·have hb:beq a d=false:=by cases hq:beq a d with
    | false=>rfl
    | true=>exact absurd (I8 hq) h
   simp only[hb,JP,I9,h,if_false];apply hr;have hd:tb (Nat.lor (Nat.shiftLeft 1 a) ok) d=true:=hd;rw[xO,pR] at hd;simpa [h] using hd
end F
section
namespace F
def Ev (p:Nat->Prop):Prop:=∃N0,∀N,N0<=N->p N
def Ev.of {p:Nat->Prop} (h:∀N,p N):Ev p:=⟨0,λN _=>h N⟩
def Ev.both {p q:Nat->Prop} (hp:Ev p) (hq:Ev q):Ev λN=>p N/\q N:=by obtain⟨a,ha⟩:=hp;obtain⟨b,hb⟩:=hq;exact⟨a+b,λN hN=>⟨ha N (by omega),hb N (by omega)⟩⟩
def Ev.mono {p q:Nat->Prop} (hp:Ev p) (h:∀N,p N->q N):Ev q:=by obtain⟨a,ha⟩:=hp;exact⟨a,λN hN=>h N (ha N hN)⟩
def Ev.succ {p:Nat->Prop} (hp:Ev λN=>p (N+1)):Ev p:=by
 obtain⟨a,ha⟩:=hp
 exact⟨a+1,λN hN=>by
  obtain⟨M,rfl⟩:∃M,N=M+1:=⟨N-1,by omega⟩
  exact ha M (by omega)⟩
def lS (E:Env) (rc:RC):Prop:=∀f args h k r,rc f args h k=some r->∃v h',Ev (λN=>kb E (cZ E N) f args h=some (v,h'))/\k v h'=some r
variable {E : Env} {ks : List Tmp} {e : aa ks} {h : H}
def GV {ty:TypeId} {a x:OC ks} {rc:RC} {k:Value->H->R} {r} (hk:(yU E ks ty a x).run rc e h k=some r):
  ∃ad h',a.run e=.pointer (some ad)/\nS E h ty ad (x.run e)=some h'/\k undef h'=some r:=by
 unfold yU at hk;split at hk
 ·rename_i s hs;obtain⟨ad,ha,hk⟩:=cO hk;have hk:=jS hk;obtain⟨el,n,op,ro,fz,c,ho,hk⟩:=cJ hk;replace hk:=ai hk;rw[pq] at hk;have hro:ro=false:=by cases ro with
   | false=>rfl
   | true=>exact nomatch hk.1
  subst hro;replace hk:=hk.2;obtain⟨h2,hk⟩:=ai hk;obtain⟨h3,hk⟩:=ai hk;obtain⟨h4,hk⟩:=ai hk;obtain⟨h5,hk⟩:=ai hk;obtain⟨h6,hk⟩:=ai hk;rw[dh] at h2;rw[uv oj] at h6;rw[bv] at ho;rw[aD,fi,fF] at hk;have hl:(cellsOfV (x.run e)).length=s:=I8 h2;have h4:ble (ad.off+(cellsOfV (x.run e)).length) n=true:=by rw[hl];exact h4
  have h3:ble fz ad.off=true:=h3;refine⟨ad,_,ha,?_,hk⟩;simp only[nS,hs,h2,Jo,ci,ho,h3,h4,h5,h6,Bool.and_self]
 ·exact nomatch hk
def nh {t:TM} {o:Oper} (ha:zR ks e t o.op.operands.toList) {rc:RC} {k:Value->H->R} {r} (hk:(GW E ks o).run rc e h k=some r):
  ∃v h',heavy E t h o=some (v,h')/\k v h'=some r:=by
 obtain⟨dst,op,type,pos,after,guard⟩:=o;cases op
 case store ty a x=> have h1:=ha a (by simp[Op.operands]);have h2:=ha x (by simp[Op.operands]);obtain⟨ad,h',hp,hs,hk⟩:=GV hk;rw[h1] at hp;rw[h2] at hs;refine⟨undef,h',?_,hk⟩;simp only[heavy,hp,hs]
 case mapUpdate ty m key x=> have h1:=ha m (by simp[Op.operands]);have h2:=ha key (by simp[Op.operands]);have h3:=ha x (by simp[Op.operands]);obtain⟨h',hs,hk⟩:=zE hk;rw[h1,h2,h3] at hs;refine⟨undef,h',?_,hk⟩;simp only[heavy,hs]
 case call c=>
  obtain⟨callee,args,tys⟩:=c;cases callee
  case builtin b=> have h1:zR ks e t args.toList:=λx hx=>ha x (by simp[Op.operands,Call.operands];exact Array.mem_toList_iff.1 hx);obtain⟨v,h',hs,hk⟩:=jX hk;rw[lm h1] at hs;exact⟨v,h',hs,hk⟩
  all_goals exact nomatch hk
 case next it b=>
  cases b with
  | false=>exact nomatch hk
  | true=> have h1:=ha it (by simp[Op.operands]);obtain⟨v,h',hs,hk⟩:=jX hk;rw[h1] at hs;exact⟨v,h',hs,hk⟩
 all_goals exact nomatch hk
def xg {t:TM} {o:Oper} (hb:sY E o=true) (ha:zR ks e t o.op.operands.toList) {rc:RC} {k:Value->H->R} {r} (hk:(HV E ks o).run rc e h k=some r):
  ∃v h',gk o=none/\light E t h o=none/\heavy E t h o=some (v,h')/\k v h'=some r:=by
 obtain⟨dst,op,type,pos,after,guard⟩:=o;cases op
 case convert sT dT x=>
  have h1:=ha x (by simp[Op.operands]);obtain⟨v,h',hs,hk⟩:=jX hk;rw[h1] at hs;refine⟨v,h',rfl,?_,hs,hk⟩;simp only[sY] at hb;split at hb
  ·rename_i el e1 e2;simp only[light,aY,e1,e2]
  ·exact nomatch hb
 all_goals exact nomatch hb
def vq {t:TM} {o:Oper} (ha:zR ks e t o.op.operands.toList) {k:AO->(Nat->Value)->R} {r} (hk:(mC E ks o).run e k=some r):
  ∃ob f,dk E t o=some (ob,f)/\k ob f=some r:=by
 obtain⟨dst,op,type,pos,after,guard⟩:=o;cases op
 case alloc el=>
  simp only[mC] at hk;split at hk
  ·rename_i ob f ho;exact⟨ob,f,ho,hk⟩
  ·exact nomatch hk
 case box el x=> have h1:=ha x (by simp[Op.operands]);simp only[mC] at hk;have hk:=jS hk;obtain⟨hb,hk⟩:=ai hk;rw[uv oj] at hb;rw[h1] at hb hk;rw[dh] at hk;refine⟨_,_,?_,hk⟩;simp only[dk,hb,Jo]
 case buildSlice ty len parts=>
  have h1:=parts_eq (t:=t) (λp hp=>ha p.2 (by simp only[Op.operands];exact List.mem_map.2 ⟨p,hp,rfl⟩));simp only[mC] at hk;split at hk
  ·rename_i el hel;split at hk
   ·rename_i s z hs hz;cases hc:(ble (len*s) 100000&&beq z.length s) with
    | false=>rw[hc] at hk;exact nomatch hk
    | true=>
     rw[hc] at hk;simp only[Jo,h1] at hk;simp only[dk,hel,hs,hz,hc,Jo];cases hf:dx (λi=>some (i*s,s)) (List.replicate len z).flatten (parts.toList.map λp=>(p.1,ev t p.2)) with
     | none=>rw[hf] at hk;exact nomatch hk
     | some cs=>rw[hf] at hk;exact⟨_,_,rfl,hk⟩
   ·exact nomatch hk
  ·exact nomatch hk
 case makeSlice ty l c=> have h1:=ha l (by simp[Op.operands]);have h2:=ha c (by simp[Op.operands]);obtain⟨ob,f,ho,hk⟩:=mg hk;rw[h1,h2] at ho;exact⟨ob,f,ho,hk⟩
 case makeMap ty rs=>
  cases rs with
  | none=>exact⟨_,_,rfl,hk⟩
  | some x=> have h1:=ha x (by simp[Op.operands]);obtain⟨ob,f,ho,hk⟩:=mg hk;rw[h1] at ho;exact⟨ob,f,ho,hk⟩
 case range ty x=> have h1:=ha x (by simp[Op.operands]);obtain⟨ob,f,ho,hk⟩:=mg hk;rw[h1] at ho;exact⟨ob,f,ho,hk⟩
 all_goals exact nomatch hk
def G6 {t:TM} {c:Call} {rc:RC} (hrc:lS E rc) (ha:zR ks e t c.operands.toList) {k:Value->H->R} {r} (hk:(UE ks c).run rc e h k=some r):
  ∃f args v h',target t c=some (f,args)/\Ev (λN=>kb E (cZ E N) f args h=some (v,h'))/\k v h'=some r:=by
 obtain⟨callee,args,tys⟩:=c;cases callee
 case value x=>
  have h0:=ha x (by simp[Call.operands]);have h1:zR ks e t args.toList:=λx hx=>ha x (by simp[Call.operands];exact .inr (Array.mem_toList_iff.1 hx));cases x
  case func f=> have hk:rc f ((j4 ks args.toList).run e) h k=some r:=hk;rw[lm h1] at hk;obtain⟨v,h',hv,hk⟩:=hrc _ _ _ _ _ hk;exact⟨f,_,v,h',by simp[target,ev],hv,hk⟩
  all_goals
   obtain⟨f,a,b,hf,hk⟩:=IF hk;rw[lm h1] at hk;rw[h0] at hf;obtain⟨v,h',hv,hk⟩:=hrc _ _ _ _ _ hk;exact⟨f,_,v,h',by simp only[target,hf];rfl,hv,hk⟩
 all_goals exact nomatch hk
def oP {dst:Option Tmp} {c:LC ks} {rc:RC} {k:aa (fZ dst ks)->H->R} {r} (hk:(uM dst ks c).run rc k e h=some r):
  c.run e h (λv=>k (push dst ks v e) h)=some r:=by cases dst <;> exact hk
def oI {dst:Option Tmp} {c:VC ks} {rc:RC} {k:aa (fZ dst ks)->H->R} {r} (hk:(yZ dst ks c).run rc k e h=some r):
  c.run rc e h (λv h=>k (push dst ks v e) h)=some r:=by cases dst <;> exact hk
def jy {dst:Option Tmp} {k:aa (fZ dst ks)->H->R} {v:Value} {r} (hk:(Tj dst ks).run k e v h=some r):
  k (push dst ks v e) h=some r:=by cases dst <;> exact hk
def jZ {dst:Option Tmp} {rc:RC} {k:aa (fZ dst ks)->H->R} {r} (hk:(vU dst ks).run rc k e h=some r):
  k (push dst ks undef e) h=some r:=by cases dst <;> exact hk
def od {t:TM} {o:Oper} {rc:RC} (hrc:lS E rc) (ha:zR ks e t o.op.operands.toList) {k:Value->H->R} {r}
  (hk:(qt E ks o).run rc e h k=some r):∃v h',Ev (λN=>ie E (cZ E N) o t h=some (v,h'))/\k v h'=some r:=by
 unfold qt at hk;split at hk
 ·rename_i hkind;have hc:gk o=none:=by
   obtain⟨dst,op,type,pos,after,guard⟩:=o;cases op <;> first | rfl | skip
   rename_i c;obtain⟨callee,args,tys⟩:=c;cases callee <;> first | rfl | simp[kindOf] at hkind
  obtain⟨v,hv,hk⟩:=sL ha _ _ hk;exact⟨v,h,Ev.of λN=>by simp only[ie,hc,hv],hk⟩
 ·rename_i hkind;have hc:gk o=none/\light E t h o=none/\heavy E t h o=none:=by
   obtain⟨dst,op,type,pos,after,guard⟩:=o;cases op <;> first | exact⟨rfl,rfl,rfl⟩ | skip
   all_goals first | (simp[kindOf] at hkind;done) | skip
   rename_i c;obtain⟨callee,args,tys⟩:=c;cases callee with
   | builtin b=>cases b <;> simp[kindOf] at hkind
   | _=>simp[kindOf] at hkind
  obtain⟨ob,f,ho,hk⟩:=vq ha hk;obtain⟨hb,hk⟩:=ai hk;rw[aD,cY] at hk;exact⟨f h.next,h.push ob,Ev.of λN=>by simp only[ie,hc.1,hc.2.1,hc.2.2,ho,room,hb,Jo],hk⟩
 ·rename_i hkind;have hc:gk o=none/\light E t h o=none:=by
   obtain⟨dst,op,type,pos,after,guard⟩:=o;cases op <;> first | exact⟨rfl,rfl⟩ | skip
   all_goals first | (simp[kindOf] at hkind;done) | skip
   rename_i c;obtain⟨callee,args,tys⟩:=c;cases callee with
   | builtin b=> refine⟨rfl,?_⟩;cases b <;> first | (simp[kindOf] at hkind;done) | simp[light,bF]
   | _=>simp[kindOf] at hkind
  obtain⟨v,h',hv,hk⟩:=nh ha hk;exact⟨v,h',Ev.of λN=>by simp only[ie,hc.1,hc.2,hv],hk⟩
 ·rename_i h0 h1 h2;have:∃c,o.op=.call c:=by obtain⟨dst,op,type,pos,after,guard⟩:=o;cases op <;> first | exact⟨_,rfl⟩ | exact absurd rfl h0 | exact absurd rfl h1 | exact absurd rfl h2
  obtain⟨c,hop⟩:=this;rw[hop] at ha;rw[hop] at hk;obtain⟨f,args,v,h',ht,hv,hk⟩:=G6 hrc ha hk;have hc:gk o=some c:=by
   unfold gk;rw[hop];obtain⟨callee,args,tys⟩:=c;cases callee with
   | value x=>rfl
   | _=>exact nomatch ht
  exact⟨v,h',hv.mono λN hN=>by simp only[ie,hc,ht,hN],hk⟩
def FT {t:TM} {o:Oper} {rc:RC} (hrc:lS E rc) (ha:zR ks e t o.op.operands.toList) {k:Value->H->R} {r}
  (hk:(Hh E ks o).run rc e h k=some r):∃v h',Ev (λN=>ie E (cZ E N) o t h=some (v,h'))/\k v h'=some r:=by
 unfold Hh at hk;cases hb:sY E o with
 | false=>rw[hb] at hk;exact od hrc ha hk
 | true=> rw[hb] at hk;obtain⟨v,h',h1,h2,h3,hk⟩:=xg hb ha hk;exact⟨v,h',Ev.of λN=>by simp only[ie,h1,h2,h3],hk⟩
def PZ {t:TM} {o:Oper} {rc:RC} (hrc:lS E rc) (ha:zR ks e t o.op.operands.toList) {k:aa (fZ o.dst ks)->H->R} {r}
  (hk:(EU E ks o).run rc k e h=some r):∃v h',Ev (λN=>ie E (cZ E N) o t h=some (v,h'))/\k (push o.dst ks v e) h'=some r:=by
 unfold EU at hk;cases hb:sY E o with
 | true=> rw[hb] at hk;obtain⟨v,h',h1,h2,h3,hk⟩:=xg hb ha (oI hk);exact⟨v,h',Ev.of λN=>by simp only[ie,h1,h2,h3],hk⟩
 | false=>
  rw[hb] at hk;simp only[JP] at hk;unfold IV at hk;split at hk
  ·rename_i hkind;refine od hrc ha (k:=λv h=>k (push o.dst ks v e) h) ?_;unfold qt;rw[hkind];exact oP hk
  ·exact od hrc ha (oI hk)
end F
end
section
namespace F
variable {E : Env} {ks : List Tmp} {ok : Nat} {e : aa ks} {t : TM} {h : H}
def kE {ops:Array Oper} {o:Oper} (hg:o.guard=none):bU ops t o=some true:=by simp[bU,hg]
def dU (hr:qF ks ok e t) {ops:Array Oper} {o og:Oper} {j:Nat} {want:Bool} {d:Tmp} (hg:o.guard=some (j,want)) (ho:ops[j]?=some og)
  (hd:og.dst=some d) (hok:tb ok d=true) {f u w:R} {r} (hk:aF ((jv d ks).run e) f w u=some r):
  (bU ops t o=some (false==want)/\f=some r) \/ (bU ops t o=some (true==want)/\w=some r) \/ (bU ops t o=some false/\u=some r):=by
 have hv:(jv d ks).run e=t.get d:=(jI d ks e).trans (hr d hok);rw[hv] at hk;rcases Hc hk with ⟨hv,hk⟩ | ⟨hv,hk⟩ | ⟨hv,hk⟩
 ·exact .inl ⟨by simp[bU,hg,ho,hd,hv],hk⟩
 ·exact .inr (.inl ⟨by simp[bU,hg,ho,hd,hv],hk⟩)
 ·exact .inr (.inr ⟨by simp[bU,hg,ho,hd,hv],hk⟩)
def yf (hr:qF ks ok e t) {ops:Array Oper} {o:Oper} {p:PC ks (fZ o.dst ks)} {c:VC ks} {rc:RC} {k:aa (fZ o.dst ks)->H->R} {r}
  (hk:(zj ks ok ops o p c).run rc k e h=some r):
  (bU ops t o=some true/\(p.run rc k e h=some r \/ c.run rc e h (λv h=>(Tj o.dst ks).run k e v h)=some r)) \/ (bU ops t o=some false/\k (push o.dst ks undef e) h=some r):=by
 unfold zj at hk;split at hk
 ·rename_i hg;exact .inl ⟨kE hg,.inl hk⟩
 ·rename_i j want hg;split at hk
  ·rename_i og ho;split at hk
   ·rename_i d hd;cases hok:tb ok d with
    | false=>rw[hok] at hk;exact nomatch hk
    | true=>
     rw[hok] at hk;cases want with
     | true=>
      rcases dU hr hg ho hd hok hk with ⟨h1,hk⟩ | ⟨h1,hk⟩ | ⟨h1,hk⟩
      ·exact .inr ⟨h1,jy hk⟩
      ·exact .inl ⟨h1,.inr hk⟩
      ·exact .inr ⟨h1,jy hk⟩
     | false=>
      rcases dU hr hg ho hd hok hk with ⟨h1,hk⟩ | ⟨h1,hk⟩ | ⟨h1,hk⟩
      ·exact .inl ⟨h1,.inr hk⟩
      ·exact .inr ⟨h1,jy hk⟩
      ·exact .inr ⟨h1,jy hk⟩
   ·exact nomatch hk
  ·exact nomatch hk
def vn (hr:qF ks ok e t) {ops:Array Oper} {o:Oper} {p:SC ks (fZ o.dst ks)} {i:Nat} {k:aa (fZ o.dst ks)->H->R} {r}
  (hk:(yT ks ok ops o p).run i k e h=some r):
  (bU ops t o=some true/\p.run i k e h=some r) \/ (bU ops t o=some false/\k (push o.dst ks undef e) h=some r):=by
 unfold yT at hk;split at hk
 ·rename_i hg;exact .inl ⟨kE hg,hk⟩
 ·rename_i j want hg;split at hk
  ·rename_i og ho;split at hk
   ·rename_i d hd;cases hok:tb ok d with
    | false=>rw[hok] at hk;exact nomatch hk
    | true=>
     rw[hok] at hk;cases want with
     | true=>
      rcases dU hr hg ho hd hok hk with ⟨h1,hk⟩ | ⟨h1,hk⟩ | ⟨h1,hk⟩
      ·exact .inr ⟨h1,jZ hk⟩
      ·exact .inl ⟨h1,hk⟩
      ·exact .inr ⟨h1,jZ hk⟩
     | false=>
      rcases dU hr hg ho hd hok hk with ⟨h1,hk⟩ | ⟨h1,hk⟩ | ⟨h1,hk⟩
      ·exact .inl ⟨h1,hk⟩
      ·exact .inr ⟨h1,jZ hk⟩
      ·exact .inr ⟨h1,jZ hk⟩
   ·exact nomatch hk
  ·exact nomatch hk
def vM (hr:qF ks ok e t) {ops:Array Oper} {o:Oper} {c:LC ks} {k:Value->R} {r}
  (hk:(zW ks ok ops o c).run e h k=some r):
  (bU ops t o=some true/\c.run e h k=some r) \/ (bU ops t o=some false/\k undef=some r):=by
 unfold zW at hk;split at hk
 ·rename_i hg;exact .inl ⟨kE hg,hk⟩
 ·rename_i j want hg;split at hk
  ·rename_i og ho;split at hk
   ·rename_i d hd;cases hok:tb ok d with
    | false=>rw[hok] at hk;exact nomatch hk
    | true=>
     rw[hok] at hk;cases want with
     | true=>
      rcases dU hr hg ho hd hok hk with ⟨h1,hk⟩ | ⟨h1,hk⟩ | ⟨h1,hk⟩
      ·exact .inr ⟨h1,hk⟩
      ·exact .inl ⟨h1,hk⟩
      ·exact .inr ⟨h1,hk⟩
     | false=>
      rcases dU hr hg ho hd hok hk with ⟨h1,hk⟩ | ⟨h1,hk⟩ | ⟨h1,hk⟩
      ·exact .inl ⟨h1,hk⟩
      ·exact .inr ⟨h1,hk⟩
      ·exact .inr ⟨h1,hk⟩
   ·exact nomatch hk
  ·exact nomatch hk
def EI {rc:RC} (hrc:lS E rc) (hr:qF ks ok e t) {ops:Array Oper} {o:Oper} {k:aa (fZ o.dst ks)->H->R} {r}
  (hk:(opC E ks ok ops o).run rc k e h=some r):
  ∃v h',Ev (λN=>Eo E (cZ E N) ops o t h=some (putV t o.dst v,h'))/\k (push o.dst ks v e) h'=some r:=by
 unfold opC at hk;cases hb:yB ok o.op.operands.toList with
 | false=>rw[hb] at hk;exact nomatch hk
 | true=>
  rw[hb] at hk;rcases yf hr hk with ⟨hw,hk⟩ | ⟨hw,hk⟩
  ·rcases hk with hk | hk
   ·obtain⟨v,h',hv,hk⟩:=PZ hrc (ux hr hb) hk;exact⟨v,h',hv.mono λN hN=>by simp only[Eo,hw,hN],hk⟩
   ·obtain⟨v,h',hv,hk⟩:=FT hrc (ux hr hb) hk;exact⟨v,h',hv.mono λN hN=>by simp only[Eo,hw,hN],jy hk⟩
  ·exact⟨undef,h,Ev.of λN=>by simp only[Eo,hw],hk⟩
def md (hr:qF ks ok e t) {ops:Array Oper} {o:Oper}:I0 (en E ks ok ops o) e h (Go.Ev.en E ops o t h):=by
 intro k r hk;unfold en at hk;cases hb:yB ok o.op.operands.toList with
 | false=>rw[hb] at hk;exact nomatch hk
 | true=>
  rw[hb] at hk;rcases vM hr hk with ⟨hw,hk⟩ | ⟨hw,hk⟩
  ·obtain⟨v,hv,hk⟩:=sL (ux hr hb) _ _ hk;exact⟨v,by simp only[Go.Ev.en,hw,hv],hk⟩
  ·exact⟨undef,by simp only[Go.Ev.en,hw],hk⟩
def vB:List Oper->Nat->Nat
 | [],ok=>ok
 | o :: r,ok=>vB r (xl o.dst ok)
def BH (dst:Option Tmp) (ok d:Nat):tb (xl dst ok) d=true ↔ tb ok d=true \/ dst=some d:=by
 cases dst with
 | none=>simp[xl]
 | some a=> show tb (Nat.lor (Nat.shiftLeft 1 a) ok) d=true ↔ _;rw[xO,pR];simp only[J4,Kh,I9];exact Or.comm
def GI (l:List Oper):∀(ok d:Nat),tb (vB l ok) d=true ↔ tb ok d=true \/ ∃o∈l,o.dst=some d:=by
 induction l with
 | nil=>intro ok d;simp[vB]
 | cons o l ih=> intro ok d;show tb (vB l (xl o.dst ok)) d=true ↔ _;rw[ih,BH];simp only[Jr,exists_eq_or_imp];exact or_assoc
def O2 {rc:RC} (hrc:lS E rc) {ops:Array Oper}:∀(l:List Oper) (ks:List Tmp) (ok:Nat) (e:aa ks) (t:TM) (h:H) (k:aa (qX l ks)->H->R) (r),
  (∀o∈l,small o.dst)->qF ks ok e t->(LZ E ops l ks ok).run rc k e h=some r ->
  ∃t' h' e',Ev (λN=>eN E (cZ E N) ops l t h=some (t',h'))/\qF (qX l ks) (vB l ok) e' t'/\(∀d,(∀o∈l,o.dst≠some d)->t'.get d=t.get d)/\k e' h'=some r:=by
 intro l
 induction l with
 | nil=>intro ks ok e t h k r _ hr hk;exact⟨t,h,e,Ev.of λN=>rfl,hr,λ_ _=>rfl,hk⟩
 | cons o l ih=> intro ks ok e t h k r hs hr hk;obtain⟨v,h1,hv,hk⟩:=EI hrc hr (show (opC E ks ok ops o).run rc (λe h=>(LZ E ops l (fZ o.dst ks) (xl o.dst ok)).run rc k e h) e h=some r from hk);have hso:=hs o (by simp);obtain⟨t',h',e',hl,hr',hf,hk⟩:=ih _ _ _ _ _ _ _ (λo ho=>hs o (by simp[ho])) (kR hr hso v) hk;refine⟨t',h',e',(hv.both hl).mono λN hN=>by simp only[eN,hN.1,hN.2],hr',λd hd=>?_,hk⟩;rw[hf d λo ho=>hd o (by simp[ho]),qz hso];simp[hd o (by simp)]
def Gi {dst:Option Tmp} {c:AC ks} {i j:Nat} {k:aa (fZ dst ks)->H->R} {r} (hk:(alP dst ks j c).run i k e h=some r):
  c.run e (λob f=>k (push dst ks (f (i+j)) e) (hset h (i+j) ob))=some r:=by
 have e:(λob (f:Nat->Value)=>k (push dst ks (f (i+j)) e) (hset h (i+j) ob))=λob f=>letH (hset h (i+j) ob) (λh=>k (push dst ks (f (i+j)) e) h):=by
  funext ob f
  rw[aD]
 rw[e];cases dst <;> exact hk
def G9:RS->Oper
 |.ex o | .hv o | .al o _ | .re o=>o
def asq {rc:RC} (hrc:lS E rc) {ops:Array Oper} {base:Nat} {s:PS} {q:RS} (hq:resolve ops [s]=some [q]) (hs:small (G9 q).dst) (hr:qF ks ok e t)
  {k:aa (rsK q ks)->H->R} {r} (hk:(rsC E ops q ks ok).run rc base k e h=some r):
  ∃t' h' e',(∀l,Ev λN=>eQ E (cZ E N) ops base (s :: l) t h=eQ E (cZ E N) ops base l t' h')/\qF (rsK q ks) (rsM q ok) e' t' /\
   (∀d,(G9 q).dst≠some d->t'.get d=t.get d)/\k e' h'=some r:=by
 have hfr:∀(dst:Option Tmp) (v:Value),small dst->∀d,dst≠some d->(putV t dst v).get d=t.get d:=λdst v hs d hd=>by rw[qz hs];simp[hd]
 cases s with
 | ex i=>
  simp only[resolve] at hq;cases ho:ops[i]? with
  | none=>rw[ho] at hq;exact nomatch hq
  | some o=> rw[ho] at hq;simp only[I9,List.cons.injEq,and_true] at hq;subst hq;obtain⟨v,hv,hk⟩:=md hr _ _ (oP (show (uM o.dst ks (en E ks ok ops o)).run rc k e h=some r from hk));exact⟨putV t o.dst v,h,push o.dst ks v e,λl=>Ev.of λN=>by simp only[eQ,ho,hv],kR hr hs v,hfr _ _ hs,hk⟩
 | hv i=>
  simp only[resolve] at hq;cases ho:ops[i]? with
  | none=>rw[ho] at hq;exact nomatch hq
  | some o=> rw[ho] at hq;simp only[I9,List.cons.injEq,and_true] at hq;subst hq;obtain⟨v,h',hv,hk⟩:=EI hrc hr (show (opC E ks ok ops o).run rc k e h=some r from hk);exact⟨putV t o.dst v,h',push o.dst ks v e,λl=>hv.mono λN hN=>by simp only[eQ,ho,hN],kR hr hs v,hfr _ _ hs,hk⟩
 | al i j=>
  simp only[resolve] at hq;cases ho:ops[i]? with
  | none=>rw[ho] at hq;exact nomatch hq
  | some o=>
   rw[ho] at hq;simp only[I9,List.cons.injEq,and_true] at hq;subst hq;have hk:(alC E ks ok ops j o).run base k e h=some r:=hk;unfold alC at hk;cases hb:yB ok o.op.operands.toList with
   | false=>rw[hb] at hk;exact nomatch hk
   | true=>
    rw[hb] at hk;rcases vn hr hk with ⟨hw,hk⟩ | ⟨hw,hk⟩
    ·have hk:(mC E ks o).run e (λob f=>k (push o.dst ks (f (base+j)) e) (hset h (base+j) ob))=some r:=Gi hk;obtain⟨ob,f,hob,hk⟩:=vq (ux hr hb) hk;rw[fi] at hk;exact⟨putV t o.dst (f (base+j)),h.set (base+j) ob,_,λl=>Ev.of λN=>by simp only[eQ,ho,hw,hob],kR hr hs _,hfr _ _ hs,hk⟩
    ·exact⟨putV t o.dst undef,h,_,λl=>Ev.of λN=>by simp only[eQ,ho,hw],kR hr hs _,hfr _ _ hs,hk⟩
 | re i=>
  simp only[resolve] at hq;cases ho:ops[i]? with
  | none=>rw[ho] at hq;exact nomatch hq
  | some o=>
   rw[ho] at hq;simp only[I9,List.cons.injEq,and_true] at hq;subst hq;have hk:(reC E ks ok ops o).run e h (λ_=>k e h)=some r:=hk;unfold reC at hk;cases hd:o.dst with
   | none=> simp only[hd] at hk;obtain⟨v,hv,hk⟩:=md hr _ _ hk;exact⟨t,h,e,λl=>Ev.of λN=>by simp only[eQ,ho,hv,hd],hr,λ_ _=>rfl,hk⟩
   | some d=>
    simp only[hd] at hk;cases hok:tb ok d with
    | false=>rw[hok] at hk;exact nomatch hk
    | true=> rw[hok] at hk;obtain⟨v,hv,hk⟩:=md hr _ _ hk;obtain⟨hb,hk⟩:=ai hk;rw[(jI d ks e).trans (hr d hok)] at hb;exact⟨t,h,e,λl=>Ev.of λN=>by simp only[eQ,ho,hv,hd,hb,Jo],hr,λ_ _=>rfl,hk⟩
def tV {ops:Array Oper} {s:PS} {l:List PS} {r:List RS} (h:resolve ops (s :: l)=some r):∃q r',r=q :: r'/\resolve ops [s]=some [q]/\resolve ops l=some r'/\G9 q∈ops.toList:=by
 simp only[resolve] at h ⊢;cases hl:resolve ops l with
 | none=>rw[hl] at h;exact nomatch h
 | some r'=>
  rw[hl] at h;have key:∀(i:Nat) (f:Oper->RS),(∀o,G9 (f o)=o)->(match ops[i]? with | some o=>some (f o :: r') | none=>none)=some r ->
    ∃q r'',r=q :: r''/\(match ops[i]? with | some o=>some (f o :: []) | none=>none)=some [q]/\some r'=some r''/\G9 q∈ops.toList:=by
   intro i f hf h;cases ho:ops[i]? with
   | none=>rw[ho] at h;exact nomatch h
   | some o=>
    rw[ho] at h;injection h with h
    exact⟨f o,r',h.symm,rfl,rfl,by rw[hf];exact Array.mem_toList_iff.2 (Array.mem_of_getElem? ho)⟩
  cases s with
  | ex i=>exact key i .ex (λ_=>rfl) h
  | hv i=>exact key i .hv (λ_=>rfl) h
  | al i k=>exact key i (.al · k) (λ_=>rfl) h
  | re i=>exact key i .re (λ_=>rfl) h
def wq {q:RS} {a b:Nat} (h:∀d,tb a d=true->tb b d=true):∀d,tb (rsM q a) d=true->tb (rsM q b) d=true:=by intro d hd;cases q <;> simp only[rsM,BH] at hd ⊢ <;> first | exact hd.imp (h d) id | exact h d hd
def rX (l:List RS):∀{a b:Nat},(∀d,tb a d=true->tb b d=true)->∀d,tb (rZ l a) d=true->tb (rZ l b) d=true:=by
 induction l with
 | nil=>intro a b h d hd;exact h d hd
 | cons q l ih=>intro a b h d hd;exact ih (wq h) d hd
def Fx {rc:RC} (hrc:lS E rc) {ops:Array Oper} {base:Nat} (hs:∀o∈ops.toList,small o.dst):∀(l:List PS) (q:List RS) (ks:List Tmp) (ok:Nat) (e:aa ks) (t:TM) (h:H) (k:aa (wg q ks)->H->R) (r),
  resolve ops l=some q->qF ks ok e t->(AQ E ops q ks ok).run rc base k e h=some r ->
  ∃t' h' e',Ev (λN=>eQ E (cZ E N) ops base l t h=some (t',h'))/\qF (wg q ks) (rZ q ok) e' t'/\(∀d,(∀o∈ops.toList,o.dst≠some d)->t'.get d=t.get d)/\k e' h'=some r:=by
 intro l
 induction l with
 | nil=> intro q ks ok e t h k r hq hr hk;simp only[resolve,I9] at hq;subst hq;exact⟨t,h,e,Ev.of λN=>rfl,hr,λ_ _=>rfl,hk⟩
 | cons s l ih=> intro q ks ok e t h k r hq hr hk;obtain⟨q1,q2,rfl,h1,h2,hm⟩:=tV hq;obtain⟨t1,h1',e1,hstep,hr1,hf1,hk⟩:=asq hrc h1 (hs _ hm) hr (show (rsC E ops q1 ks ok).run rc base (λe h=>(AQ E ops q2 (rsK q1 ks) (rsM q1 ok)).run rc base k e h) e h=some r from hk);obtain⟨t',h',e',hl,hr',hf,hk⟩:=ih _ _ _ _ _ _ _ _ h2 hr1 hk;refine⟨t',h',e',((hstep l).both hl).mono λN hN=>by rw[hN.1,hN.2],hr',λd hd=>?_,hk⟩;rw[hf d hd,hf1 d (hd _ hm)]
end F
end
section
namespace F
variable {E : Env} {X : Nat -> Nat} {fn : FuncId} {rs : List Tmp}
def qK (ops:Array Oper) (d:Tmp):d∈iW ops ↔ ∃o∈ops.toList,o.dst=some d:=by
 obtain⟨l⟩:=ops;show d∈iW ⟨l⟩ ↔ ∃o∈l,o.dst=some d
 induction l with
 | nil=>show d∈[] ↔ _;simp
 | cons o l ih=>
  have e:iW ⟨o :: l⟩=Option.rec (motive:=λ_=>List Tmp) (iW ⟨l⟩) (λd=>d :: iW ⟨l⟩) o.dst:=rfl;rw[e];cases ho:o.dst with
  | none=> show d∈iW ⟨l⟩ ↔ _;rw[ih];simp[ho]
  | some a=>
   show d∈a :: iW ⟨l⟩ ↔ _;rw[Jr,ih];simp only[Jr,exists_eq_or_imp,ho,I9];constructor
   ·rintro (h | h)
    ·exact .inl h.symm
    ·exact .inr h
   ·rintro (h | h)
    ·exact .inl h.symm
    ·exact .inr h
def iI {ks M l:List Tmp} {ok J:Nat} {e:aa ks} {t t':TM} {v:aa (M++ks)} {w:Tmp->Value}
  (hr:qF ks ok e t) (hf:∀d,d∉l->t'.get d=t.get d) (hM:∀d,d∈M ↔ d∈l/\tb J d=true) (hJ:∀d,tb J d=true->d∈l)
  (hv:∀d,lk (M++ks) v d=if d∈M then w d else lk ks e d) (hw:∀d,tb J d=true->w d=t'.get d):
  qF (M++ks) (Nat.lor (uV ok (cC l)) J) v t':=by
 intro d hd;rw[hv];by_cases hm:d∈M
 ·rw[if_pos hm];exact hw d ((hM d).1 hm).2
 ·rw[if_neg hm];rw[xO,Jb] at hd;have hj:tb J d=false:=by
   cases hq:tb J d with
   | false=>rfl
   | true=>exact absurd ((hM d).2 ⟨hJ d hq,hq⟩) hm
  rw[hj] at hd;simp only[Bool.or_false,Ja,Bool.not_eq_true'] at hd;have hn:d∉l:=λhq=>by have:=(iq l d).2 hq;rw[this] at hd;exact nomatch hd.2
  rw[hf d hn];exact hr d hd.1
def Fr (c:Code) (t t':TM):Prop:=∀d,d∉bL c->t'.get d=t.get d
def Pos:(m:List Tmp)->aa m->TM->Prop
 | [],_,_=>True
 | d :: m,e,t=>e.1=t.get d/\Pos m e.2 t
def xK {k1:List Tmp} {e1:aa k1} {t:TM} (m:List Tmp) (h:∀d∈m,lk k1 e1 d=t.get d):Pos m ((iF k1 m).run e1) t:=by
 induction m with
 | nil=>trivial
 | cons d m ih=>exact⟨(jI d k1 e1).trans (h d (by simp)),ih λd hd=>h d (by simp[hd])⟩
inductive Res (E:Env) (X:Nat->Nat) (fn:FuncId) (rs:List Tmp) (c:Code) (cx:CX) (lv ok:Nat) (ks:List Tmp) (t:TM) (h:H)
  (kn:aa (oH X c lv ok ks)->H->R) (kx:KX cx) (kr:aa rs->H->R) (r:Value × H):Prop where
 | norm (t':TM) (h':H) (e':aa (oH X c lv ok ks)) (hx:Ev λN=>cZ E N fn c t h=.norm t' h') (hr:qF (oH X c lv ok ks) (oK X c lv ok) e' t') (hf:Fr c t t') (hk:kn e' h'=some r)
 | exit (id:Nat) (t':TM) (h':H) (l:aa (mx cx id)) (hx:Ev λN=>cZ E N fn c t h=.exit id t' h') (hl:∀d∈mx cx id,lk (mx cx id) l d=t'.get d) (hf:Fr c t t') (hk:kx id l h'=some r)
 | ret (t':TM) (h':H) (l:aa rs) (hx:Ev λN=>cZ E N fn c t h=.ret t' h') (hl:Pos rs l t') (hk:kr l h'=some r)
def G0 {cx:CX} {id i:Nat} {M:List Tmp} {k:aa M->H->R} {kx:KX cx} {l:aa (mx ((id,M) :: cx) i)} {h:H} {r} (hk:inK k kx i l h=some r):
  (beq i id=true/\∃l':aa M,(∀d,lk M l' d=lk (mx ((id,M) :: cx) i) l d)/\mx ((id,M) :: cx) i=M/\k l' h=some r) \/
  (beq i id=false/\∃l':aa (mx cx i),(∀d,lk (mx cx i) l' d=lk (mx ((id,M) :: cx) i) l d)/\mx ((id,M) :: cx) i=mx cx i/\kx i l' h=some r):=by
 revert l
 show ∀l:aa (cond (beq i id) M (mx cx i)),Bool.rec (motive:=λb=>aa (cond b M (mx cx i))->H->R) (kx i) k (beq i id) l h=some r ->
  (beq i id=true/\∃l':aa M,(∀d,lk M l' d=lk (cond (beq i id) M (mx cx i)) l d)/\cond (beq i id) M (mx cx i)=M/\k l' h=some r) \/
  (beq i id=false/\∃l':aa (mx cx i),(∀d,lk (mx cx i) l' d=lk (cond (beq i id) M (mx cx i)) l d)/\cond (beq i id) M (mx cx i)=mx cx i/\kx i l' h=some r)
 generalize beq i id=b;cases b with
 | false=>intro l hk;exact .inr ⟨rfl,l,λ_=>rfl,rfl,hk⟩
 | true=>intro l hk;exact .inl ⟨rfl,l,λ_=>rfl,rfl,hk⟩
def lD {a b:Code} {l:List Tmp} (hl:∀d,d∈l ↔ d∈bL a \/ d∈bL b) {t t':TM} (h:Fr a t t'):∀d,d∉l->t'.get d=t.get d:=
 λd hd=>h d λhq=>hd ((hl d).2 (.inl hq))
def kC {a b:Code} {l:List Tmp} (hl:∀d,d∈l ↔ d∈bL a \/ d∈bL b) {t t':TM} (h:Fr b t t'):∀d,d∉l->t'.get d=t.get d:=
 λd hd=>h d λhq=>hd ((hl d).2 (.inr hq))
def kH {l:List Tmp} {lv a b d:Nat} (h:tb (jM (cC l) lv a b) d=true):d∈l/\tb a d=true/\tb b d=true:=by unfold jM at h;rw[jL,jL,jL] at h;simp only[Ja] at h;exact⟨(iq l d).1 h.1.1,h.2.1,h.2.2⟩
def yV {ks:List Tmp} (step:(aa ks->H->R)->aa ks->H->R) (n:Nat):loopF step (n+1)=step (loopF step n):=rfl
def FY {rc:RC} (hrc:lS E rc):∀(c:Code) (cx:CX) (lv ok:Nat) (ks:List Tmp) (e:aa ks) (t:TM) (h:H)
  (kn:aa (oH X c lv ok ks)->H->R) (kx:KX cx) (kr:aa rs->H->R) (r:Value × H),
  (∀d∈bL c,d<=1000000000)->qF ks ok e t->(gW E X fn rs c cx lv ok ks).run rc kn kx kr e h=some r ->
  Res E X fn rs c cx lv ok ks t h kn kx kr r:=by
 intro c
 induction c with
 | skip=> intro cx lv ok ks e t h kn kx kr r hs hr hk;exact .norm t h e (Ev.succ (Ev.of λN=>rfl)) hr (λ_ _=>rfl) hk
 | label i=> intro cx lv ok ks e t h kn kx kr r hs hr hk;exact .norm t h e (Ev.succ (Ev.of λN=>rfl)) hr (λ_ _=>rfl) hk
 | scope b ih=>
  intro cx lv ok ks e t h kn kx kr r hs hr hk;have hmb:∀d∈bL b,d<=1000000000:=λd hd=>hs d (by simp only[bL];exact hd);simp only[gW] at hk;cases ih cx lv ok ks e t h kn kx kr r hmb hr hk with
  | norm t1 h1 e1 hx1 hr1 hf1 hk1=>exact .norm t1 h1 e1 (Ev.succ (hx1.mono λN hN=>by simp only[cZ,dI,hN])) hr1 (λd hd=>hf1 d hd) hk1
  | exit id t1 h1 l hx1 hl1 hf1 hk1=>exact .exit id t1 h1 l (Ev.succ (hx1.mono λN hN=>by simp only[cZ,dI,hN])) hl1 (λd hd=>hf1 d hd) hk1
  | ret t1 h1 l hx1 hl1 hk1=>exact .ret t1 h1 l (Ev.succ (hx1.mono λN hN=>by simp only[cZ,dI,hN])) hl1 hk1
 | seq a b iha ihb=>
  intro cx lv ok ks e t h kn kx kr r hs hr hk;have hma:∀d∈bL a,d<=1000000000:=λd hd=>hs d (by simp only[bL];exact Kv.2 (.inl hd));have hmb:∀d∈bL b,d<=1000000000:=λd hd=>hs d (by simp only[bL];exact Kv.2 (.inr hd));have hl:∀d,d∈bL (.seq a b) ↔ d∈bL a \/ d∈bL b:=λd=>by simp only[bL];exact Kv
  cases iha cx (Nat.lor (nK b) lv) ok ks e t h _ kx kr r hma hr hk with
  | norm t1 h1 e1 hx1 hr1 hf1 hk1=>
   cases ihb cx lv _ _ e1 t1 h1 kn kx kr r hmb hr1 hk1 with
   | norm t2 h2 e2 hx2 hr2 hf2 hk2=>
    exact .norm t2 h2 e2 (Ev.succ ((hx1.both hx2).mono λN hN=>by simp only[cZ,dI,hN.1,hN.2])) hr2
     (λd hd=>(kC hl hf2 d hd).trans (lD hl hf1 d hd)) hk2
   | exit id t2 h2 l hx2 hl2 hf2 hk2=>
    exact .exit id t2 h2 l (Ev.succ ((hx1.both hx2).mono λN hN=>by simp only[cZ,dI,hN.1,hN.2])) hl2
     (λd hd=>(kC hl hf2 d hd).trans (lD hl hf1 d hd)) hk2
   | ret t2 h2 l hx2 hl2 hk2=> exact .ret t2 h2 l (Ev.succ ((hx1.both hx2).mono λN hN=>by simp only[cZ,dI,hN.1,hN.2])) hl2 hk2
  | exit id t1 h1 l hx1 hl1 hf1 hk1=> exact .exit id t1 h1 l (Ev.succ (hx1.mono λN hN=>by simp only[cZ,dI,hN])) hl1 (lD hl hf1) hk1
  | ret t1 h1 l hx1 hl1 hk1=> exact .ret t1 h1 l (Ev.succ (hx1.mono λN hN=>by simp only[cZ,dI,hN])) hl1 hk1
 | cond x a b iha ihb=>
  intro cx lv ok ks e t h kn kx kr r hs hr hk;have hma:∀d∈bL a,d<=1000000000:=λd hd=>hs d (by simp only[bL];exact Kv.2 (.inl hd));have hmb:∀d∈bL b,d<=1000000000:=λd hd=>hs d (by simp only[bL];exact Kv.2 (.inr hd));have hl:∀d,d∈bL a++bL b ↔ d∈bL a \/ d∈bL b:=λd=>Kv;simp only[gW] at hk;cases hx:okO ok x with
  | false=>rw[hx] at hk;exact nomatch hk
  | true=>
   rw[hx] at hk;simp only[joinR,Jo] at hk;rw[E7 hr hx] at hk;rcases pU hk with ⟨hv,hk⟩ | ⟨hv,hk⟩
   ·cases ihb cx lv ok ks e t h _ kx kr r hmb hr hk with
    | norm t1 h1 e1 hx1 hr1 hf1 hk1=>
     exact .norm t1 h1 _ (Ev.succ (hx1.mono λN hN=>by simp only[cZ,dI,hv,hN]))
      (iI hr (kC hl hf1) (λd=>fy _ _ d) (λd hd=>(kH hd).1) (mM _ _ e) (λd hd=>(mD _ e1 d ((fy _ _ d).2 ⟨(kH hd).1,hd⟩)).trans (hr1 d (kH hd).2.2))) (kC hl hf1) hk1
    | exit id t1 h1 l hx1 hl1 hf1 hk1=> exact .exit id t1 h1 l (Ev.succ (hx1.mono λN hN=>by simp only[cZ,dI,hv,hN])) hl1 (kC hl hf1) hk1
    | ret t1 h1 l hx1 hl1 hk1=> exact .ret t1 h1 l (Ev.succ (hx1.mono λN hN=>by simp only[cZ,dI,hv,hN])) hl1 hk1
   ·cases iha cx lv ok ks e t h _ kx kr r hma hr hk with
    | norm t1 h1 e1 hx1 hr1 hf1 hk1=>
     exact .norm t1 h1 _ (Ev.succ (hx1.mono λN hN=>by simp only[cZ,dI,hv,hN]))
      (iI hr (lD hl hf1) (λd=>fy _ _ d) (λd hd=>(kH hd).1) (mM _ _ e) (λd hd=>(mD _ e1 d ((fy _ _ d).2 ⟨(kH hd).1,hd⟩)).trans (hr1 d (kH hd).2.1))) (lD hl hf1) hk1
    | exit id t1 h1 l hx1 hl1 hf1 hk1=> exact .exit id t1 h1 l (Ev.succ (hx1.mono λN hN=>by simp only[cZ,dI,hv,hN])) hl1 (lD hl hf1) hk1
    | ret t1 h1 l hx1 hl1 hk1=> exact .ret t1 h1 l (Ev.succ (hx1.mono λN hN=>by simp only[cZ,dI,hv,hN])) hl1 hk1
 | block id b ih=>
  intro cx lv ok ks e t h kn kx kr r hs hr hk;have hmb:∀d∈bL b,d<=1000000000:=λd hd=>hs d (by simp only[bL];exact hd);simp only[gW,joinR] at hk;cases ih _ lv ok ks e t h _ _ kr r hmb hr hk with
  | norm t1 h1 e1 hx1 hr1 hf1 hk1=>
   exact .norm t1 h1 _ (Ev.succ (hx1.mono λN hN=>by simp only[cZ,dI,hN]))
    (iI hr hf1 (λd=>fy _ _ d) (λd hd=>(kH hd).1) (mM _ _ e) (λd hd=>(mD _ e1 d ((fy _ _ d).2 ⟨(kH hd).1,hd⟩)).trans (hr1 d (kH hd).2.1))) hf1 hk1
  | exit i t1 h1 l hx1 hl1 hf1 hk1=>
   rcases G0 hk1 with ⟨hb,l',hll,hm,hk1⟩ | ⟨hb,l',hll,hm,hk1⟩
   ·exact .norm t1 h1 _ (Ev.succ (hx1.mono λN hN=>by simp only[cZ,dI,hN,hb,Jo]))
     (iI (w:=lk _ l') hr hf1 (λd=>fy _ _ d) (λd hd=>(kH hd).1) (mM _ l' e)
      (λd hd=>(hll d).trans (hl1 d (by rw[hm];exact (fy _ _ d).2 ⟨(kH hd).1,hd⟩)))) hf1 hk1
   ·exact .exit i t1 h1 l' (Ev.succ (hx1.mono λN hN=>by simp only[cZ,dI,hN,hb,JP])) (λd hd=>(hll d).trans (hl1 d (by rw[hm];exact hd))) hf1 hk1
  | ret t1 h1 l hx1 hl1 hk1=> exact .ret t1 h1 l (Ev.succ (hx1.mono λN hN=>by simp only[cZ,dI,hN])) hl1 hk1
 | loop b ih=>
  intro cx lv ok ks e t h kn kx kr r hs hr hk;have hmb:∀d∈bL b,d<=1000000000:=λd hd=>hs d (by simp only[bL];exact hd);simp only[gW] at hk
  revert hk
  generalize hJ:Nat.land (Nat.land (cC (bL b)) (Nat.lor (nK b) lv)) ok=J;generalize hL:Nat.lor (uV ok (cC (bL b))) J=yB;have hJm:∀d,tb J d=true->d∈bL b/\tb ok d=true:=λd hd=>by rw[<-hJ,jL,jL] at hd;simp only[Ja] at hd;exact⟨(iq _ d).1 hd.1.1,hd.2⟩
  cases hsub:rq J (oK X b (Nat.lor (nK b) lv) yB) with
  | false=>intro hk;exact nomatch hk
  | true=>
   intro hk;have hjoin:∀{k1:List Tmp} {e1:aa k1} {t1:TM},Fr b t t1->(∀d,tb J d=true->lk k1 e1 d=t1.get d) ->
     qF (fk (bL b) J++ks) yB ((lN ks (fk (bL b) J)).run ((iF k1 (fk (bL b) J)).run e1) e) t1:=by
    intro k1 e1 t1 hft he;have:=iI hr hft (λd=>fy (bL b) J d) (λd hd=>(hJm d hd).1) (mM _ ((iF k1 (fk (bL b) J)).run e1) e)
     (λd hd=>(mD _ e1 d ((fy _ _ d).2 ⟨(hJm d hd).1,hd⟩)).trans (he d hd))
    rw[hL] at this;exact this
   have key:∀(n:Nat) (l:aa (fk (bL b) J)) (t1:TM) (h1:H),qF (fk (bL b) J++ks) yB ((lN ks (fk (bL b) J)).run l e) t1->Fr b t t1 ->
     loopF (ks:=fk (bL b) J) (λih l h=>(gW E X fn rs b cx (Nat.lor (nK b) lv) yB (fk (bL b) J++ks)).run rc
      (λe1 h=>ih ((iF _ (fk (bL b) J)).run e1) h) kx kr ((lN ks (fk (bL b) J)).run l e) h) n l h1=some r ->
     Res E X fn rs (.loop b) cx lv ok ks t1 h1 kn kx kr r/\True:=by
    intro n
    induction n with
    | zero=>intro l t1 h1 _ _ hk;exact nomatch hk
    | succ n ihn=>
     intro l t1 h1 hr1 hft hk;rw[yV] at hk;cases ih cx (Nat.lor (nK b) lv) yB _ _ t1 h1 _ kx kr r hmb hr1 hk with
     | norm t2 h2 e2 hx2 hr2 hf2 hk2=>
      have hft2:Fr b t t2:=λd hd=>(hf2 d hd).trans (hft d hd);have hr3:=hjoin hft2 (λd hd=>hr2 d (rH hsub hd));obtain⟨res,_⟩:=ihn _ t2 h2 hr3 hft2 hk2;cases res with
      | norm t3 h3 e3 hx3 hr3 hf3 hk3=> refine⟨.norm t3 h3 e3 (Ev.succ ((hx2.both hx3).mono λN hN=>by simp only[cZ,dI,hN.1,hN.2])) hr3 (λd hd=>(hf3 d hd).trans (hf2 d hd)) hk3,trivial⟩
      | exit i t3 h3 l hx3 hl3 hf3 hk3=> refine⟨.exit i t3 h3 l (Ev.succ ((hx2.both hx3).mono λN hN=>by simp only[cZ,dI,hN.1,hN.2])) hl3 (λd hd=>(hf3 d hd).trans (hf2 d hd)) hk3,trivial⟩
      | ret t3 h3 l hx3 hl3 hk3=> refine⟨.ret t3 h3 l (Ev.succ ((hx2.both hx3).mono λN hN=>by simp only[cZ,dI,hN.1,hN.2])) hl3 hk3,trivial⟩
     | exit i t2 h2 l hx2 hl2 hf2 hk2=> exact⟨.exit i t2 h2 l (Ev.succ (hx2.mono λN hN=>by simp only[cZ,dI,hN])) hl2 hf2 hk2,trivial⟩
     | ret t2 h2 l hx2 hl2 hk2=> exact⟨.ret t2 h2 l (Ev.succ (hx2.mono λN hN=>by simp only[cZ,dI,hN])) hl2 hk2,trivial⟩
   have hr0:=hjoin (k1:=ks) (e1:=e) (t1:=t) (λ_ _=>rfl) (λd hd=>hr d (hJm d hd).2);exact (key 1000000 _ t h hr0 (λ_ _=>rfl) hk).1
 | exit id=>
  intro cx lv ok ks e t h kn kx kr r hs hr hk;simp only[gW] at hk;cases hb:rq (cC (mx cx id)) ok with
  | false=>rw[hb] at hk;exact nomatch hk
  | true=> rw[hb] at hk;exact .exit id t h _ (Ev.succ (Ev.of λN=>rfl)) (λd hd=>(mD _ e d hd).trans (hr d (rH hb ((iq _ d).2 hd)))) (λ_ _=>rfl) hk
 | ret=>
  intro cx lv ok ks e t h kn kx kr r hs hr hk;simp only[gW] at hk;cases hb:rq (cC rs) ok with
  | false=>rw[hb] at hk;exact nomatch hk
  | true=> rw[hb] at hk;exact .ret t h _ (Ev.succ (Ev.of λN=>rfl)) (xK _ λd hd=>hr d (rH hb ((iq _ d).2 hd))) hk
 | region id ops draw=>
  intro cx lv ok ks e t h kn kx kr r hs hr hk;have hsm:∀o∈ops.toList,small o.dst:=λo ho d hd=>hs d (by simp only[bL];exact (qK ops d).2 ⟨o,ho,hd⟩);have hfr:∀{t':TM},(∀d,(∀o∈ops.toList,o.dst≠some d)->t'.get d=t.get d)->∀d,d∉iW ops->t'.get d=t.get d:=
   λhf d hd=>hf d λo ho hq=>hd ((qK ops d).2 ⟨o,ho,hq⟩)
  have hJm:∀d,tb (Nat.land (cC (iW ops)) lv) d=true->d∈iW ops:=λd hd=>by rw[jL] at hd;simp only[Ja] at hd;exact (iq _ d).1 hd.1
  have hMm:∀d,d∈fk (iW ops) lv ↔ d∈iW ops/\tb (Nat.land (cC (iW ops)) lv) d=true:=λd=>by rw[fy,jL];simp only[Ja];exact⟨λhq=>⟨hq.1,(iq _ d).2 hq.1,hq.2⟩,λhq=>⟨hq.1,hq.2.2⟩⟩
  cases draw with
  | false=> obtain⟨t',h',e',hx,hr',hf,hk⟩:=O2 hrc ops.toList ks ok e t h _ r hsm hr hk;refine .norm t' h' _ (Ev.succ (hx.mono λN hN=>by simp only[cZ,dI,hN])) ?_ (hfr hf) hk;exact iI hr (hfr hf) hMm hJm (AI _ e' e) (λd hd=>hr' d ((GI _ _ _).2 (.inr ((qK ops d).1 (hJm d hd)))))
  | true=>
   simp only[gW] at hk;split at hk
   ·rename_i p hp;split at hk
    ·rename_i q hq;cases hb:(ble p.keep 1000&&rq (cC (fk (iW ops) lv)) (rZ q 0)) with
     | false=>rw[hb] at hk;exact nomatch hk
     | true=>
      rw[hb] at hk;simp only[Ja] at hb;obtain⟨hroom,hk⟩:=ai hk;rw[aD] at hk;obtain⟨t',h',e',hx,hr',hf,hk⟩:=Fx hrc hsm _ _ _ _ _ _ _ _ _ hq hr hk;have hroom:(room h&&ble p.keep 1000)=true:=by rw[Ja];exact⟨hroom,hb.1⟩
      refine .norm t' h' _ (Ev.succ (hx.mono λN hN=>?_)) ?_ (hfr hf) hk
      ·simp only[cZ,dI,hp,hroom,Jo];rw[show eQ E (cZ E N) ops h.next p.steps t { h with next:=h.next+p.keep }=_ from hN]
      ·refine iI hr (hfr hf) hMm hJm (AI _ e' e) (λd hd=>hr' d ?_);have h1:tb (rZ q 0) d=true:=rH hb.2 ((iq _ d).2 ((hMm d).2 ⟨hJm d hd,hd⟩));exact rX q (λd hd=>by rw[uP] at hd;exact nomatch hd) d h1
    ·exact nomatch hk
   ·exact nomatch hk
 | _=>intro cx lv ok ks e t h kn kx kr r hs hr hk;exact nomatch hk
end F
end
section
namespace F
variable {E : Env}
def Er {l:List Value} {k:Value->R} {r} (hk:aqh l k=some r):∃v,gQ l=some v/\k v=some r:=by
 cases l with
 | nil=>exact⟨_,rfl,hk⟩
 | cons v l=>cases l with
  | nil=>exact⟨v,rfl,hk⟩
  | cons w l=> obtain⟨hb,hk⟩:=ai hk;exact⟨_,by simp only[gQ,hb,Jo],hk⟩
def CZ {h:H} {t:TM}:∀(l:List ResultVar) (e:aa (kg l)) (k:List Value->R) (r),Pos (kg l) e t->(R9 E l).run e h k=some r ->
  ∃vs,fO E h t l=some vs/\k vs=some r:=by
 intro l
 induction l with
 | nil=>intro e k r _ hk;exact⟨[],rfl,hk⟩
 | cons x l ih=>
  intro e k r hp hk;cases x with
  | tmp i=> obtain⟨vs,hv,hk⟩:=ih e.2 _ r hp.2 hk;refine⟨_,?_,hk⟩;have h1:e.1=t.get i:=hp.1;simp only[fO,sn,hv,h1]
  | cell i ty=> have hk:onPtr e.1 _=some r:=hk;obtain⟨ad,ha,hk⟩:=cO hk;obtain⟨v,hv,hk⟩:=cX hk;obtain⟨vs,hvs,hk⟩:=ih e.2 _ r hp.2 hk;refine⟨_,?_,hk⟩;have h1:e.1=t.get i:=hp.1;rw[h1] at ha;simp only[fO,sn,ha,hv,hvs]
def sw {h:H} {t:TM} {l:List ResultVar} {e:aa (kg l)} {k:Value->H->R} {r} (hp:Pos (kg l) e t) (hk:ady E l e h k=some r):
  ∃vs v,fO E h t l=some vs/\gQ vs=some v/\k v h=some r:=by
 obtain⟨vs,hv,hk⟩:=CZ l e _ r hp hk;obtain⟨v,ht,hk⟩:=Er hk;exact⟨vs,v,hv,ht,hk⟩
def DG (ex:List Tmp) (d:Tmp):lk ex (qN ex) d=undef:=by
 induction ex with
 | nil=>rfl
 | cons a ex ih=>
  show (bif beq a d then undef else lk ex (qN ex) d)=undef;cases beq a d
  ·exact ih
  ·rfl
def Ee (ex:List Tmp):∀(n i:Nat) (args:List Value) (k:aa (Al ex n i)->R) (r),(ale ex n i).run args k=some r ->
  ∃e,k e=some r/\∀d,i<=d->lk (Al ex n i) e d=(args[d-i]?).getD undef:=by
 intro n
 induction n with
 | zero=>
  intro i args k r hk;cases args with
  | nil=>exact⟨_,hk,λd _=>by rw[show lk (Al ex 0 i) (qN ex) d=undef from DG ex d];simp⟩
  | cons v l=>exact nomatch hk
 | succ n ih=>
  intro i args k r hk;cases args with
  | nil=>exact nomatch hk
  | cons v l=>
   obtain⟨e,hk,he⟩:=ih (i+1) l _ r hk;refine⟨(v,e),hk,λd hd=>?_⟩;show (bif beq i d then v else lk (Al ex n (i+1)) e d)=_;by_cases h:i=d
   ·subst h;have:beq i i=true:=JQ i;simp[this]
   ·have hb:beq i d=false:=by cases hq:beq i d with
     | false=>rfl
     | true=>exact absurd (I8 hq) h
    rw[hb,JP,he d (by omega)];rw[show d-i=(d-(i+1))+1 by omega,List.getElem?_cons_succ]
def Cg {K:Hint} {rc:RC} (ih:lS E rc) (f:FuncId) (args:List Value) (h:H) (k:Value->H->R) (r) (hk:(bR E K f).run rc args h k=some r):
  ∃v h',(Ev λN=>kb E (cZ E N) f args h=some (v,h'))/\k v h'=some r:=by
 unfold bR at hk;split at hk
 ·exact nomatch hk
 ·rename_i fn hfn;split at hk
  ·rename_i k0 hk0;obtain⟨v,h',hv,hk⟩:=jX hk;exact⟨v,h',Ev.of λN=>by simp only[kb,hfn,hk0,hv],hk⟩
  ·rename_i hext;split at hk
   ·exact nomatch hk
   ·rename_i c hc;unfold Iu at hk
    revert hk
    generalize fn.params.size+fn.nfree=np;generalize K.ex f=ex;generalize K.X f=X;intro hk;cases hb:(rq (cC (kg fn.results.toList)) (oK X c (cC (kg fn.results.toList)) (cC (Al ex np 0)))&&(bL c).all (λd=>ble d 1000000000)&&ex.all (λd=>ble np d)&&ble np 1000) with
    | false=>rw[hb] at hk;exact nomatch hk
    | true=>
     rw[hb] at hk;simp only[Ja] at hb;obtain⟨e,hk,he⟩:=Ee ex np 0 args _ r hk;have hr:qF (Al ex np 0) (cC (Al ex np 0)) e (T.ofList undef args):=λd _=>by rw[he d (JY d),T.get_ofList];simp
     have hs:∀d∈bL c,d<=1000000000:=λd hd=>I7 (Jv.1 hb.1.1.2 d hd);cases FY ih c [] (cC (kg fn.results.toList)) _ _ e _ h _ _ _ r hs hr hk with
     | norm t' h' e' hx hr' hf hk=> obtain⟨vs,v,h1,h2,hk⟩:=sw (xK _ λd hd=>hr' d (rH hb.1.1.1 ((iq _ d).2 hd))) hk;exact⟨v,h',hx.mono λN hN=>by simp only[kb,hfn,hext,hc,hN,h1,h2],hk⟩
     | exit i t' h' l hx hl hf hk=>exact nomatch hk
     | ret t' h' l hx hl hk=> obtain⟨vs,v,h1,h2,hk⟩:=sw hl hk;exact⟨v,h',hx.mono λN hN=>by simp only[kb,hfn,hext,hc,hN,h1,h2],hk⟩
def Fp (K:Hint) (n:Nat):lS E (ar E K n):=by
 induction n with
 | zero=>intro f args h k r hk;exact nomatch hk
 | succ n ih=>intro f args h k r hk;exact Cg ih f args h k r hk
def dp {K:Hint} {n:Nat} {f:FuncId} {args:List Value} {h:H} {k:Value->H->R} {r} (hk:ar E K n f args h k=some r):
  ∃N v h',kb E (cZ E N) f args h=some (v,h')/\k v h'=some r:=by
 obtain⟨v,h',⟨N,hN⟩,hk⟩:=Fp K n f args h k r hk;exact⟨N,v,h',hN N (Jd N),hk⟩
end F
end
def QY {α:Type} (x:α) (d:Nat):(Nat->α)->T α:=
 Nat.rec (motive:=λ_=>(Nat->α)->T α) (λ_=>.c x) (λ_ ih g=>.n (ih (λj=>g (Nat.succ (Nat.mul 2 j)))) (g 0) (ih (λj=>g (Nat.add (Nat.mul 2 j) 2)))) d
def uo {α:Type} (x:α) (d:Nat):∀(g:Nat->α) (i:Nat),(QY x d g).get i=g i \/ (QY x d g).get i=x:=by
 induction d with
 | zero=>intro g i;exact .inr rfl
 | succ d ih=>
  intro g i;have e:QY x (d+1) g=.n (QY x d (λj=>g (Nat.succ (Nat.mul 2 j)))) (g 0) (QY x d (λj=>g (Nat.add (Nat.mul 2 j) 2))):=rfl;rw[e,T.get_n];cases i with
  | zero=>exact .inl rfl
  | succ j=>
   have h2:j%2=0 \/ j%2=1:=by omega
   rcases h2 with h | h
   ·simp only[h,if_true];rcases ih (λj=>g (Nat.succ (Nat.mul 2 j))) (j / 2) with q | q
    ·left;rw[q];show g (Nat.succ (2*(j / 2)))=g (j+1);congr 1;omega
    ·exact .inr q
   ·simp only[h,Nat.one_ne_zero,if_false];rcases ih (λj=>g (Nat.add (Nat.mul 2 j) 2)) (j / 2) with q | q
    ·left;rw[q];show g (2*(j / 2)+2)=g (j+1);congr 1;omega
    ·exact .inr q
section
namespace F
variable {E : Env}
def aE (k:Value->H->R) (b:(Value->H->R)->R):ac k b=b k:=rfl
def aW (k:Value->R) (b:(Value->R)->R):joinL k b=b k:=rfl
def ah {ks:List Tmp} (k:aa ks->H->R) (b:(aa ks->H->R)->R):joinR k b=b k:=rfl
def aA (f t:R):onB (.bool true) f t=t:=rfl
def ax (f t:R):onB (.bool false) f t=f:=rfl
def cu (f t u:R):aF (.bool true) f t u=t:=rfl
def cP (f t u:R):aF (.bool false) f t u=f:=rfl
def fx (f t u:R):aF undef f t u=u:=rfl
def au (ad:Addr) (k:Addr->R):onPtr (.pointer (some ad)) k=k ad:=rfl
def bp (ad:Addr) (n c:Nat) (s:R) (k:Addr->Nat->Nat->R):onSl (.slice (some ad) n c) s k=k ad n c:=rfl
def ji (n c:Nat) (s:R) (k:Addr->Nat->Nat->R):onSl (.slice none n c) s k=s:=rfl
def bC (kd:IntKind) (n:Nat) (s:R) (k:Nat->R):onNat (.int kd (.ofNat n)) s k=k n:=rfl
def bg (l:List Value) (k:List Value->R):onTup (.tuple ⟨l⟩) k=k l:=rfl
def Xz (f:FuncId) (a b:Array Value) (k:FuncId->Array Value->Array Value->R):D1 (.func (.func f) a b) k=k f a b:=rfl
def bP (l:List Value) (k:List Value->R):onCells (.agg ⟨l⟩) k=k l:=rfl
def kq (kd:IntKind) (n:Int) (k:List Value->R):onCells (.int kd n) k=k [.int kd n]:=rfl
def oY (a:Option Addr) (k:List Value->R):onCells (.pointer a) k=k [.pointer a]:=rfl
def ma (a:Option Addr) (n c:Nat) (k:List Value->R):onCells (.slice a n c) k=k [.slice a n c]:=rfl
def bB (v:Value) (l:List Value) (k:Value->R):nthF 0 (v :: l) k=k v:=rfl
def Ea (i:Nat) (v:Value) (l:List Value) (k:Value->R):nthF (i+1) (v :: l) k=nthF i l k:=rfl
def du (v:Value) (l:List Value) (k:Value->R):nthF 1 (v :: l) k=nthF 0 l k:=rfl
def eI (k:R):ifB true k=k:=rfl
def gY {b:Bool} (h:b=true) (k:R):ifB b k=k:=by rw[h];rfl
def aj {a b:Nat} (h:a<=b) (k:R):ifB (ble a b) k=k:=gY (Js h) k
def aK (v:Value) (k:Value->R):bindO (some v) k=k v:=rfl
def aR (ad:Addr) (k:Value->R):bindO (be (.pointer (some ad))) k=k (.pointer (some ad)):=rfl
def kF (v:Value) (h:H) (k:Value->H->R):cE (some (v,h)) k=k v h:=rfl
def cz (e:TypeId) (n:Nat) (op ro:Bool) (fz:Nat) (c:T Value) (k:TypeId->Nat->Bool->Bool->Nat->T Value->R):onRow (.row e n op ro fz c) k=k e n op ro fz c:=rfl
def bw (b o:Nat) (n:Nat) (k:Value->R):addOffF ⟨b,o,none⟩ n k=k (.pointer (some ⟨b,o+n,none⟩)):=by
 cases n with
 | zero=>rfl
 | succ n=>rfl
def aT {ks:List Tmp} (step:(aa ks->H->R)->aa ks->H->R) (n:Nat) (e:aa ks) (h:H):loopF step (n+1) e h=step (loopF step n) e h:=rfl
def sI {ks:List Tmp} (step:(aa ks->H->R)->aa ks->H->R) (e:aa ks) (h:H):loopF step 1000000 e h=step (loopF step 999999) e h:=rfl
def qY {ks:List Tmp} (step:(aa ks->H->R)->aa ks->H->R) (e:aa ks) (h:H):loopF step 999999 e h=step (loopF step 999998) e h:=rfl
def aM {a b:Nat} (h:a<=b):ble a b=true:=Js h
def dt {a b:Nat} (h:b<a):ble a b=false:=by cases hq:ble a b with
 | false=>rfl
 | true=>exact absurd (I7 hq) (by omega)
def gm {a b:Nat} (h:a=b):beq a b=true:=by subst h;exact JQ a
def dB {a b:Nat} (h:a≠b):beq a b=false:=by cases hq:beq a b with
 | false=>rfl
 | true=>exact absurd (I8 hq) h
section
variable {ty : TypeId} {cx cy : Bool} {m n : Nat} {k : Value -> R}
def dr (hE:E.und ty=some (.int .i64)) (h:m+n<=9223372036854775807):binR (binC E .add ty cx cy) (.int .i64 (.ofNat m)) (.int .i64 (.ofNat n)) k=k (.int .i64 (.ofNat (m+n))):=by unfold binR binC;rw[hE];show Bool.rec (motive:=λ_=>R) _ (k (.int .i64 (.ofNat (m+n)))) (ble (m+n) 9223372036854775807)=_;rw[Js h]
def gK (hE:E.und ty=some (.int .i64)) (h:n<=m) (h2:m<=9223372036854775807):binR (binC E .sub ty cx cy) (.int .i64 (.ofNat m)) (.int .i64 (.ofNat n)) k=k (.int .i64 (.ofNat (m-n))):=by unfold binR binC;rw[hE];show Bool.rec (motive:=λ_=>R) _ (k (.int .i64 (.ofNat (m-n)))) (hY (ble n m) (ble m 9223372036854775807))=_;rw[Js h,Js h2];rfl
def Cr (hE:E.und ty=some (.int .i64)) (h:m*n<=9223372036854775807):binR (binC E .mul ty cx cy) (.int .i64 (.ofNat m)) (.int .i64 (.ofNat n)) k=k (.int .i64 (.ofNat (m*n))):=by unfold binR binC;rw[hE];show Bool.rec (motive:=λ_=>R) _ (k (.int .i64 (.ofNat (m*n)))) (ble (m*n) 9223372036854775807)=_;rw[Js h]
def uR (hE:E.und ty=some (.int .i64)) (h:1<=n) (h2:m<=9223372036854775807):binR (binC E .quo ty cx cy) (.int .i64 (.ofNat m)) (.int .i64 (.ofNat n)) k=k (.int .i64 (.ofNat (m / n))):=by unfold binR binC;rw[hE];show Bool.rec (motive:=λ_=>R) _ (k (.int .i64 (.ofNat (m / n)))) (hY (ble 1 n) (ble m 9223372036854775807))=_;rw[Js h,Js h2];rfl
def uS (hE:E.und ty=some (.int .i64)) (h:1<=n) (h2:m<=9223372036854775807):binR (binC E .rem ty cx cy) (.int .i64 (.ofNat m)) (.int .i64 (.ofNat n)) k=k (.int .i64 (.ofNat (m%n))):=by unfold binR binC;rw[hE];show Bool.rec (motive:=λ_=>R) _ (k (.int .i64 (.ofNat (m%n)))) (hY (ble 1 n) (ble m 9223372036854775807))=_;rw[Js h,Js h2];rfl
def j1 (hE:E.und ty=some (.int .i64)):binR (binC E .eql ty cx cy) (.int .i64 (.ofNat m)) (.int .i64 (.ofNat n)) k=k (.bool (beq m n)):=by unfold binR binC;rw[hE];rfl
def nG (hE:E.und ty=some (.int .i64)):binR (binC E .neq ty cx cy) (.int .i64 (.ofNat m)) (.int .i64 (.ofNat n)) k=k (.bool (!beq m n)):=by unfold binR binC;rw[hE,<-pq];rfl
def uQ (hE:E.und ty=some (.int .i64)):binR (binC E .lss ty cx cy) (.int .i64 (.ofNat m)) (.int .i64 (.ofNat n)) k=k (.bool (ble (m+1) n)):=by unfold binR binC;rw[hE];rfl
def BO (hE:E.und ty=some (.int .i64)):binR (binC E .leq ty cx cy) (.int .i64 (.ofNat m)) (.int .i64 (.ofNat n)) k=k (.bool (ble m n)):=by unfold binR binC;rw[hE];rfl
def fD (hE:E.und ty=some (.int .i64)):binR (binC E .gtr ty cx cy) (.int .i64 (.ofNat m)) (.int .i64 (.ofNat n)) k=k (.bool (ble (n+1) m)):=by unfold binR binC;rw[hE];rfl
def iw (hE:E.und ty=some (.int .i64)):binR (binC E .geq ty cx cy) (.int .i64 (.ofNat m)) (.int .i64 (.ofNat n)) k=k (.bool (ble n m)):=by unfold binR binC;rw[hE];rfl
def gt (hE:E.und ty=some (.int .i64)) (h:m<n):binR (binC E .lss ty cx cy) (.int .i64 (.ofNat m)) (.int .i64 (.ofNat n)) k=k (.bool true):=by rw[uQ hE,aM (by omega)]
def fj (hE:E.und ty=some (.int .i64)) (h:n<=m):binR (binC E .lss ty cx cy) (.int .i64 (.ofNat m)) (.int .i64 (.ofNat n)) k=k (.bool false):=by rw[uQ hE,dt (by omega)]
def aoV (hE:E.und ty=some (.int .i64)) (h:n<m):binR (binC E .leq ty cx cy) (.int .i64 (.ofNat m)) (.int .i64 (.ofNat n)) k=k (.bool false):=by rw[BO hE,dt (by omega)]
def qU (hE:E.und ty=some (.int .i64)) (h:n<m):binR (binC E .gtr ty cx cy) (.int .i64 (.ofNat m)) (.int .i64 (.ofNat n)) k=k (.bool true):=by rw[fD hE,aM (by omega)]
def oO (hE:E.und ty=some (.int .i64)) (h:m<=n):binR (binC E .gtr ty cx cy) (.int .i64 (.ofNat m)) (.int .i64 (.ofNat n)) k=k (.bool false):=by rw[fD hE,dt (by omega)]
def IK (hE:E.und ty=some (.int .i64)) (h:n<=m):binR (binC E .geq ty cx cy) (.int .i64 (.ofNat m)) (.int .i64 (.ofNat n)) k=k (.bool true):=by rw[iw hE,aM (by omega)]
def aqB (hE:E.und ty=some (.int .i64)) (h:m<n):binR (binC E .geq ty cx cy) (.int .i64 (.ofNat m)) (.int .i64 (.ofNat n)) k=k (.bool false):=by rw[iw hE,dt (by omega)]
def xq (hE:E.und ty=some (.int .i64)) (h:m=n):binR (binC E .eql ty cx cy) (.int .i64 (.ofNat m)) (.int .i64 (.ofNat n)) k=k (.bool true):=by rw[j1 hE,gm (by omega)]
def se (hE:E.und ty=some (.int .i64)) (h:m≠n):binR (binC E .eql ty cx cy) (.int .i64 (.ofNat m)) (.int .i64 (.ofNat n)) k=k (.bool false):=by rw[j1 hE,dB (by omega)]
def wc (hE:E.und ty=some (.int .i64)) (h:m=n):binR (binC E .neq ty cx cy) (.int .i64 (.ofNat m)) (.int .i64 (.ofNat n)) k=k (.bool false):=by rw[nG hE,gm h];rfl
def Lp (hE:E.und ty=some (.int .u64)) (h:m<=18446744073709551615) (h2:n<=18446744073709551615):binR (binC E .and ty cx cy) (.int .u64 (.ofNat m)) (.int .u64 (.ofNat n)) k=k (.int .u64 (.ofNat (m &&& n))):=by unfold binR binC;rw[hE];show Bool.rec (motive:=λ_=>R) _ (k (.int .u64 (.ofNat (m &&& n)))) (hY (ble m 18446744073709551615) (ble n 18446744073709551615))=_;rw[Js h,Js h2];rfl
def Zn (hE:E.und ty=some (.int .u64)) (h:m<=18446744073709551615) (h2:n<=18446744073709551615):binR (binC E .or ty cx cy) (.int .u64 (.ofNat m)) (.int .u64 (.ofNat n)) k=k (.int .u64 (.ofNat (m ||| n))):=by unfold binR binC;rw[hE];show Bool.rec (motive:=λ_=>R) _ (k (.int .u64 (.ofNat (m ||| n)))) (hY (ble m 18446744073709551615) (ble n 18446744073709551615))=_;rw[Js h,Js h2];rfl
def KR (hE:E.und ty=some (.int .u64)) (h:n<=m) (h2:m<=18446744073709551615):binR (binC E .sub ty cx cy) (.int .u64 (.ofNat m)) (.int .u64 (.ofNat n)) k=k (.int .u64 (.ofNat (m-n))):=by unfold binR binC;rw[hE];show Bool.rec (motive:=λ_=>R) _ (k (.int .u64 (.ofNat (m-n)))) (hY (ble n m) (ble m 18446744073709551615))=_;rw[Js h,Js h2];rfl
def tO (hE:E.und ty=some (.int .u64)) {kd:IntKind} (h:n<=63) (h2:m <<< n<=18446744073709551615):binR (binC E .shl ty cx cy) (.int .u64 (.ofNat m)) (.int kd (.ofNat n)) k=k (.int .u64 (.ofNat (m <<< n))):=by unfold binR binC;rw[hE];show Bool.rec (motive:=λ_=>R) _ (k (.int .u64 (.ofNat (m <<< n)))) (hY (ble n 63) (ble (m <<< n) 18446744073709551615))=_;rw[Js h,Js h2];rfl
end
def kX {E:Env} {ty e:TypeId} {cx cy:Bool} {ad:Addr} {k:Value->R} (hE:E.und ty=some (.pointer e)):binR (binC E .eql ty cx cy) (.pointer (some ad)) (.pointer none) k=k (.bool false):=by
 have hb:ij E .eql ty cx cy (.pointer (some ad)) (.pointer none)=some (.bool false):=by simp only[ij,F2,hE]
 unfold binR binC;rw[hE];show bindO (ij E .eql ty cx cy (.pointer (some ad)) (.pointer none)) k=_;rw[hb];rfl
def kD (h:H) (o:AO) (i:Nat) (hs:h.next<=1000000000):hget (ag h o) i=if i=h.next then o else hget h i:=by rw[bv,cY,bv];exact T.get_ins _ _ _ _ _ (by unfold deep;omega)
def bS (h:H) (o:AO) (i j:Nat) (hs:j<=1000000000):hget (hset h j o) i=if i=j then o else hget h i:=by rw[bv,fi,bv];exact T.get_ins _ _ _ _ _ (by unfold deep;omega)
def cS (h:H) (o:AO):(ag h o).next=h.next+1:=rfl
def jD (h:H) (o:AO) (j:Nat):(hset h j o).next=h.next:=rfl
def az (h:H) (o:AO) (hs:h.next<=1000000000):hget (ag h o) h.next=o:=by rw[kD _ _ _ hs,if_pos rfl]
def bN (h:H) (o:AO) {i:Nat} (hs:h.next<=1000000000) (hi:i<h.next):hget (ag h o) i=hget h i:=by rw[kD _ _ _ hs,if_neg (by omega)]
def bj (h:H) (o:AO) (i:Nat) (hs:i<=1000000000):hget (hset h i o) i=o:=by rw[bS _ _ _ _ hs,if_pos rfl]
def eS (h:H) (o:AO) {i j:Nat} (hs:j<=1000000000) (hi:i<j):hget (hset h j o) i=hget h i:=by rw[bS _ _ _ _ hs,if_neg (by omega)]
def aI (l:List Value) (i:Nat):getF (T.ofList unk l) i=l.getD i unk:=by rw[bI,T.get_ofList]
def pQ (c:T Value) (o:Nat):ae c 2 o=[getF c o,getF c (o+1)]:=rfl
def vH (p:Value->Bool):allF p []=true:=rfl
def jg (p:Value->Bool) (v:Value) (l:List Value):allF p (v :: l)=cond (p v) (allF p l) false:=by show Bool.rec (motive:=λ_=>Bool) false (allF p l) (p v)=_;cases p v <;> rfl
def HN (k:IntKind) (n:Int):cell1F (.int k n)=true:=rfl
def Ug (a:Option Addr) (n c:Nat):cell1F (.slice a n c)=true:=rfl
def min_i64 (E:Env) (h:H) (m n:Nat) (tys:List TypeId):bF E h .min [.int .i64 (.ofNat m),.int .i64 (.ofNat n)] tys=some (.int .i64 (.ofNat (min m n))):=by
 show some (Value.int .i64 (if (Int.ofNat n)<(Int.ofNat m) then Int.ofNat n else Int.ofNat m))=_
 congr 2
 by_cases hq:n<m
 ·rw[if_pos (by simpa using hq),Nat.min_eq_right (by omega)]
 ·rw[if_neg (by simpa using hq),Nat.min_eq_left (by omega)]
def fP (h h':H):Prop:=h.next<=h'.next/\∀i,i<h.next->hget h' i=hget h i
def fP.refl (h:H):fP h h:=⟨Jd _,λ_ _=>rfl⟩
def fP.trans {a b c:H} (h:fP a b) (g:fP b c):fP a c:=⟨JV h.1 g.1,λi hi=>(g.2 i (Jp hi h.1)).trans (h.2 i hi)⟩
def fP.push {a b:H} (h:fP a b) (o:AO) (hs:b.next<=1000000000):fP a (ag b o):=
 ⟨by rw[cS];exact Nat.le_succ_of_le h.1,λi hi=>by rw[kD _ _ _ hs,if_neg (by have:=h.1;omega)];exact h.2 i hi⟩
def fP.set {a b:H} (h:fP a b) (o:AO) (j:Nat) (hs:j<=1000000000) (hj:a.next<=j):fP a (hset b j o):=
 ⟨h.1,λi hi=>by rw[bS _ _ _ _ hs,if_neg (by omega)];exact h.2 i hi⟩
end F
end
section
namespace F
variable {E : Env}
def DD {t e n b lo:Nat} {kd:IntKind} (hE:E.und t=some (.array n e)) (hs:E.size e=some 1) (hl:lo<n):
  dm E t (.pointer (some ⟨b,0,none⟩)) (some (.int kd (.ofNat lo))) none none=some (.slice (some ⟨b,lo,none⟩) (n-lo) (2*(n-lo))):=by
 have h1:ble lo n=true:=aM (by omega);have h2:ble n n=true:=aM (by omega);have h3:beq n lo=false:=dB (by omega);simp only[dm,hE,hs,bound,h1,Jo,h3,JP,Nat.mul_one,gar,Option.isSome_none];cases lo with
 | zero=>rfl
 | succ lo=>simp[beq]
def FB {t e l c b o m:Nat} {kd:IntKind} (hE:E.und t=some (.slice e)) (hs:E.size e=some 1) (h1:m<=c):
  dm E t (.slice (some ⟨b,o,none⟩) l (2*c)) none (some (.int kd (.ofNat m))) none=some (.slice (some ⟨b,o,none⟩) m (2*c)):=by
 have e0:2*c / 2=c:=by omega
 have e1:2*c%2=0:=by omega
 have h2:ble m c=true:=aM h1;simp only[dm,hE,hs,bound,e0,h2,Jo,Option.isNone_none,Option.isSome_some,Bool.or_true,Bool.and_true,gO,e1];cases hc:beq c 0 <;> simp[hc,gar]
def append_nil {t e:Nat} {i:TypeInfo} {z:Value} {h:H} {b o m c e' n fz:Nat} {op ro:Bool} {cs:T Value} (hE:E.und t=some (.slice e)) (hi:E.info e=some i) (hz:cK E e=some [z]) (hsz:i.size=1) (hb:i.bytes=1)
  (hr:hget h b=.row e' n op ro fz cs) (hm:1<=m) (hon:o+m<=n) (hm2:m<=100000) (hroom:h.next<=1000000000):
  ba E h .append [.slice none 0 0,.slice (some ⟨b,o,none⟩) m c] [t,t]=some (.slice (some ⟨h.next,0,none⟩) m (2*m+1),ag h (.row e m true false 0 (T.ofList unk (ae cs m o)))):=by
 rw[bv] at hr;have g1:ble (o+m) n=true:=aM hon;have g2:ble (m*2) 1000000000=true:=aM (by omega);have g3:ble m 1000000000=true:=aM (by omega);have g4:ble m 0=false:=dt (by omega);have h5:room h=true:=aM hroom;rw[cY,dK];simp only[ba,io,hE,eT,hi,hz,hsz,hb,jl,JP,ja,lE,hr,Jz,Kl,JN,Nat.mul_one,g1,Jo,g2,g3,g4,Nat.reduceAdd,Nat.zero_div,JQ,Bool.and_self];simp only[JQ,Jo,h5,Nat.mul_one,g3,JN,Bool.and_self]
def dD (l:List Value):∀(t:T Value) (o:Nat),(∀i,i<l.length->t.get (o+i)=l.getD i unk)->bq t o l.length=l:=by
 induction l with
 | nil=>intro t o _;rfl
 | cons v l ih=>
  intro t o h;show t.get o :: bq t (o+1) l.length=v :: l;have h0:=h 0 (by simp);simp only[Kp,List.getD_cons_zero] at h0
  rw[h0,ih t (o+1) λi hi=>by
   have:=h (i+1) (by simp;omega);rw[List.getD_cons_succ] at this
   rw[<-this];congr 1;omega]
def rn (c:T Value) (m o:Nat):(ae c m o).length=m:=by
 induction m generalizing o with
 | zero=>rfl
 | succ m ih=>show (ae c m (Nat.succ o)).length+1=m+1;rw[ih]
def qT (l:List Value) (m:Nat) (h:l.length=m):bq (T.ofList unk l) 0 m=l:=by subst h;exact dD l _ 0 λi _=>by rw[T.get_ofList,JN]
def yY {t t2 e:Nat} {h:H} {b m:Nat} {l:List Value} {s:List UInt8} (hE:E.und t=some (.pointer e)) (hs:E.size e=some 1)
  (hr:hget h b=.row e m true false 0 (T.ofList unk l)) (hl:l.length=m) (hm:1<=m) (hm2:m<=100000) (hb:cT l=some s):
  ba E h .unsafeString [.pointer (some ⟨b,0,none⟩),.int .i64 (.ofNat m)] [t,t2]=some (.string ⟨⟨s⟩⟩,hset h b (.row e m true false m (T.ofList unk l))):=by
 rw[bv] at hr;obtain⟨n,rfl⟩:∃n,m=n+1:=⟨m-1,by omega⟩;have g1:ble (n+1) (n+1)=true:=aM (Jd _);have g2:ble n 1000000000=true:=aM (by omega);have g3:ble 0 (n+1)=true:=aM (by omega);rw[fi];simp only[ba,hE,hr,hs,JQ,g1,g2,g3,Bool.and_self,Jo,qT l _ hl,hb]
def lR {h:H} {b o m c:Nat} {tys:List TypeId} (hc:1<c):bF E h .unsafeSliceData [.slice (some ⟨b,o,none⟩) m c] tys=some (.pointer (some ⟨b,o,none⟩)):=by have:Nat.blt 1 c=true:=aM hc;simp only[bF,this,Jo]
def BL {s d t b m e' n fz:Nat} {h:H} {op ro:Bool} {c:T Value} (hs:E.und s=some (.pointer t)) (hd:E.und d=some .unsafePointer) (hz:E.size t=some (m+1)) (hr:hget h b=.row e' n op ro fz c) (hn:0<n):
  aY E h s d (.pointer (some ⟨b,0,none⟩))=some (.pointer (some ⟨b,0,none⟩)):=by
 rw[bv] at hr;have:Nat.blt 0 n=true:=aM hn;simp only[aY,hs,hd,hr,hz,this,Jo]
def tj {s d u b m n fz:Nat} {h:H} {op ro:Bool} {c:T Value} (hs:E.und s=some .unsafePointer) (hd:E.und d=some (.pointer u)) (hz:E.size u=some (m+1)) (hr:hget h b=.row u n op ro fz c) (hn:m+1<=n):
  aY E h s d (.pointer (some ⟨b,0,none⟩))=some (.pointer (some ⟨b,0,none⟩)):=by
 rw[bv] at hr;have:ble (m+1) n=true:=aM hn;simp only[aY,hs,hd,hr,hz,this,JQ,Bool.and_self,Jo]
def vA {ty e:TypeId} {cx cy:Bool} {k:Value->R} (hE:E.und ty=some (.pointer e)):binR (binC E .eql ty cx cy) (.pointer none) (.pointer none) k=k (.bool true):=by
 have hb:ij E .eql ty cx cy (.pointer none) (.pointer none)=some (.bool true):=by simp only[ij,F2,hE];rfl
 unfold binR binC;rw[hE];show bindO (ij E .eql ty cx cy (.pointer none) (.pointer none)) k=_;rw[hb];rfl
def jw (c:T Value) (i j:Nat) (v:Value) (hi:i<=1000000000):getF (dW 40 c i v) j=if j=i then v else getF c j:=by rw[bI,Am,bI];exact T.get_ins _ _ _ _ _ (by omega)
end F
end
end Go.Ev
namespace Go.Ev
open Go F
def lg:Value->Bool
 |.bool _=>true
 |.int _ _=>true
 |.string _=>true
 |.nilFunc=>true
 |.nilIface=>true
 |.pointer none=>true
 |.slice none _ _=>true
 | _=>false
def iO:Value->Bool
 |.tuple ⟨l⟩=>l.all lg
 | v=>lg v
def Rw {ρ ρ':Ren} {v u:Value} (hg:lg v=true) (h:ga ρ' v u):ga ρ v u:=by
 rcases h with e | e
 ·exact .inl e
 ·refine .inr ?_;unfold lg at hg;split at hg <;> first | exact e | (exfalso;exact Bool.noConfusion hg)
def A9 {ρ ρ':Ren} {v u:Value} (hg:lg v=true) (h:pY ρ' v u):pY ρ v u:=by
 rcases h with h | ⟨l,l',e,_⟩
 ·exact .inl (Rw hg h)
 ·subst e;exact nomatch hg
def Cd {ρ ρ':Ren}:∀{l l':List Value},l.all lg=true->bT (pY ρ') l l'->bT (pY ρ) l l'
 | [],[],_,_=>trivial
 | v :: l,u :: l',hg,⟨h1,h2⟩=>by rw[JZ,Ja] at hg;exact⟨A9 hg.1 h1,Cd hg.2 h2⟩
 | [],_ :: _,_,h=>h.elim
 | _ :: _,[],_,h=>h.elim
def gR {ρ ρ':Ren} {v u:Value} (hg:iO v=true) (h:VR ρ' v u):VR ρ v u:=by
 rcases h with h | ⟨l,l',e,e',h⟩
 ·refine .inl ?_;unfold iO at hg;split at hg
  ·rcases h with (h | h) | ⟨l,l',e,_⟩
   ·exact nomatch h
   ·simp[cW,cU] at h
   ·exact nomatch e
  ·exact A9 hg h
 ·subst e e';exact .inr ⟨l,l',rfl,rfl,Cd hg h⟩
def fP.objs {h h':H} (e:fP h h'):∀i,i<h.next->h'.objs.get i=h.objs.get i:=λi hi=>by rw[<-bv,<-bv];exact e.2 i hi
def dL.forget {P:Program} {ρ:Ren} {h h':H} {w:World} {f:FuncId} {args':List Value} {v:Value} (hr:eZ P ρ h w) (c:dL P ρ h w f args' v h') (ho:fP h h') (hg:iO v=true):dL P ρ h w f args' v h:=by
 rcases c with ⟨v',ρ',w',h1,h2,h3⟩ | ⟨fn,h1,h2,h3,h4⟩
 ·exact .inl ⟨v',ρ,w',h1,gR hg h2,Step.forget hr h3 (fP.objs ho)⟩
 ·refine .inr ⟨fn,h1,h2,h3,h4.mono λe w' hq=>?_⟩;obtain⟨ρ',v',e1,e2,e3⟩:=hq;exact⟨ρ,v',e1,gR hg e2,Step.forget hr e3 (fP.objs ho)⟩
def dL.weaken {P:Program} {ρ:Ren} {h h':H} {w:World} {f:FuncId} {args':List Value} {v v0:Value} (c:dL P ρ h w f args' v0 h') (hw:∀ρ u,VR ρ v0 u->VR ρ v u):dL P ρ h w f args' v h':=by
 rcases c with ⟨v',ρ',w',h1,h2,h3⟩ | ⟨fn,h1,h2,h3,h4⟩
 ·exact .inl ⟨v',ρ',w',h1,hw _ _ h2,h3⟩
 ·refine .inr ⟨fn,h1,h2,h3,h4.mono λe w' hq=>?_⟩;obtain⟨ρ',v',e1,e2,e3⟩:=hq;exact⟨ρ',v',e1,hw _ _ e2,e3⟩
def quick (E:Env) (K:F.Hint) (n:Nat) (f:FuncId) (q:List Value->H->Option (Value × H)):List Value->H->Option (Value × H):=
 λargs h=>match q args h with
  | some r=>some r
  | none=>F.ar E K n f args h (λv h=>some (v,h))
def eG {P:Program} {E E':Env} {K:F.Hint} {n:Nat} {f:FuncId} {q:List Value->H->Option (Value × H)} (hE:gp P E ce) (hE':gp P E' ce)
  (hq:∀args h r,q args h=some r->r.2=h/\∃v0,iO v0=true/\(∀ρ u,VR ρ v0 u->VR ρ r.1 u)/\∃n h',fP h h'/\∀k:Value->H->F.R,F.ar E K n f args h k=k v0 h'):dC P f (quick E' K n f q):=by
 intro ρ h w args args' v h' hr ha he;unfold quick at he;split at he
 ·rename_i r0 h0;cases he;obtain⟨e0,v0,hg,hw,n,h2,ho,hk⟩:=hq args h _ h0;have e0:h'=h:=e0;subst e0;obtain⟨N,v2,h3,hv,he⟩:=F.dp (K:=K) (n:=n) (f:=f) (args:=args) (h:=h') (k:=λv h=>some (v,h)) (r:=(v0,h2)) (hk _);cases he;exact (dL.forget hr (sound hE N f args h' _ _ hv ρ w args' hr ha) ho hg).weaken hw
 ·obtain⟨N,v2,h3,hv,he⟩:=F.dp he;cases he;exact sound hE' N f args h _ _ hv ρ w args' hr ha
def Un:AO->Bool
 |.row _ _ op ro _ _=>!op&&ro
 |.dead=>true
 | _=>false
def GK (gl:List AO):Bool:=ble gl.length 16&&gl.all Un
def iL (gl:List AO):H:={ next:=16,objs:=T.ofList .dead gl }
def pn:Value->Value->Bool
 |.int k n,.int k' n'=>decide (k=k')&&decide (n=n')
 | _,_=>false
def Sr (n:Nat) (p:Nat->Bool):Bool:=Nat.rec true (λi ih=>p i&&ih) n
def pu:AO->AO->Bool
 |.dead,_=>true
 |.row e n _ _ fz c,.row e' n' op' _ fz' c'=>beq e e'&&beq n n' && !op'&&ble fz' fz&&Sr n (λi=>pn (c.get i) (c'.get i))
 | _,_=>false
def dO:List AO->Nat->H->Bool
 | [],_,_=>true
 | o :: l,i,h=>pu o (h.objs.get i)&&dO l (i+1) h
def pO {p:Nat->Bool}:∀{n:Nat},Sr n p=true->∀i,i<n->p i=true
 | 0,_,i,hi=>absurd hi (Jy i)
 | n+1,h,i,hi=>by
  have h:(p n&&Sr n p)=true:=h;rw[Ja] at h;rcases Nat.lt_or_ge i n with q | q
  ·exact pO h.2 i q
  ·rw[Nat.le_antisymm (Nat.le_of_lt_succ hi) q];exact h.1
def ox:∀{gl:List AO} {j:Nat} {h:H},dO gl j h=true->∀i o,gl[i]?=some o->pu o (h.objs.get (j+i))=true
 | [],_,_,_,i,o,e=>by simp at e
 | a :: l,j,h,hs,i,o,e=>by
  unfold dO at hs;rw[Ja] at hs;cases i with
  | zero=>simp at e;subst e;exact hs.1
  | succ i=> simp at e;have:=ox hs.2 i o e;rw[show j+1+i=j+(i+1) by omega] at this;exact this
def renG:Ren:=λid=>if id<16 then some (id,0) else none
def pV {a b:Value} (h:pn a b=true):a=b/\∃k n,a=.int k n:=by
 unfold pn at h;split at h
 ·simp at h;obtain⟨rfl,rfl⟩:=h;exact⟨rfl,_,_,rfl⟩
 ·exact nomatch h
def iS (gl:List AO) (i:Nat):(iL gl).objs.get i=(gl[i]?).getD .dead:=T.get_ofList _ _ _
def jP {gl:List AO} (h:GK gl=true) (i:Nat):(True/\(iL gl).objs.get i=.dead) \/ (i<16/\∃e n fz c,gl[i]?=some (.row e n false true fz c)/\(iL gl).objs.get i=.row e n false true fz c):=by
 unfold GK at h;rw[Ja] at h;rw[iS];cases hg:gl[i]? with
 | none=>exact .inl ⟨trivial,rfl⟩
 | some o=>
  have hl:=(List.getElem?_eq_some_iff.1 hg).1;have hb:=I7 h.1;have:=Jv.1 h.2 o (List.mem_of_getElem? hg);unfold Un at this;split at this
  ·right;refine⟨by omega,?_⟩;simp at this;obtain⟨rfl,rfl⟩:=this;exact⟨_,_,_,_,rfl,rfl⟩
  ·exact .inl ⟨trivial,rfl⟩
  ·exact nomatch this
def oM {e n fz c} {o:AO} (h:pu (.row e n false true fz c) o=true):∃ro fz' c',o=.row e n false ro fz' c'/\fz'<=fz/\∀i,i<n->c.get i=c'.get i/\∃k m,c.get i=.int k m:=by
 cases o with
 | row e' n' op' ro' fz' c'=> simp only[pu,Ja,Bool.not_eq_true'] at h;obtain⟨⟨⟨⟨h1,h2⟩,h3⟩,h4⟩,h5⟩:=h;have h1:=I8 h1;have h2:=I8 h2;subst h1 h2 h3;exact⟨_,_,_,rfl,I7 h4,λi hi=>pV (pO h5 i hi)⟩
 | _=>exact nomatch h
def As {P:Program} {gl:List AO} (hgl:GK gl=true) {ρ:Ren} {h:H} {w:World} (hr:eZ P ρ h w) (hs:dO gl 0 h=true):eZ P renG (iL gl) w:=by
 have hrow:∀id e n fz c,gl[id]?=some (.row e n false true fz c)->∃ro fz' c',h.objs.get id=.row e n false ro fz' c'/\fz'<=fz/\∀i,i<n->c.get i=c'.get i/\∃k m,c.get i=.int k m:=by intro id e n fz c he;have:=ox hs id _ he;rw[JN] at this;exact oM this
 have hren:∀id p,renG id=some p->id<16/\p=(id,0):=by
  intro id p e;unfold renG at e;split at e
  ·cases e;exact⟨by assumption,rfl⟩
  ·exact nomatch e
 constructor
 ·intro id p e;exact (hren id p e).1
 ·intro i j p q e1 e2 _ _ e;rw[(hren i p e1).2,(hren j q e2).2] at e;exact e
 ·intro id p e;obtain⟨hl,rfl⟩:=hren id p e;rcases jP hgl id with ⟨_,e2⟩ | ⟨_,el,n,fz,c,e1,e2⟩
  ·rw[e2];trivial
  ·rw[e2];obtain⟨ro,fz',c',h1,h2,h3⟩:=hrow id el n fz c e1;have ho:=hr.obj id (id,0) (hr.glob id hl);rw[h1] at ho;obtain⟨cs,fr,g1,g2,g3,g4,g5,g6⟩:=ho;refine⟨cs,fr,g1,g2,g3,λq=>(nomatch q),λi hi=>?_,.inl rfl⟩;obtain⟨v',a,b⟩:=g5 i hi;obtain⟨q1,k,m,q2⟩:=h3 i hi;refine⟨v',a,?_⟩;rw[<-q1] at b;rw[q2] at b ⊢;rcases b with b | b
   ·exact .inl b
   ·exact .inr b
 ·intro id e;rcases jP hgl id with ⟨_,e2⟩ | ⟨hl,_⟩
  ·rw[e2] at e;exact nomatch e
  ·have:(16:Nat)+1<2 ^ deep:=by decide
   omega
 ·intro id e;rcases jP hgl id with ⟨_,e2⟩ | ⟨hl,_⟩
  ·exact e2
  ·have:16<=id:=e;omega
 ·intro g hg;simp[renG,hg]
 ·intro id p e hl;obtain⟨hi,rfl⟩:=hren id p e;rcases jP hgl id with ⟨_,e2⟩ | ⟨_,el,n,fz,c,e1,e2⟩
  ·rw[e2] at hl;exact nomatch hl
  ·obtain⟨ro,fz',c',h1,h2,h3⟩:=hrow id el n fz c e1;exact hr.inside id (id,0) (hr.glob id hi) (by rw[h1];rfl)
def Jl {gl:List AO} (hgl:GK gl=true) (b:Nat):¬ Wr renG (iL gl) b:=by
 rintro⟨id,p,_,_,h⟩;rcases jP hgl id with ⟨_,e2⟩ | ⟨_,el,n,fz,c,e1,e2⟩
 ·rw[e2] at h;exact nomatch h
 ·rw[e2] at h;exact nomatch h
def eV.same {P:Program} {ρ:Ren} {w w':World} {p:Nat × Nat} {o:AO} (h:eV P ρ w p o) (e:live o=true->w'.heap[p.1]?=w.heap[p.1]?):eV P ρ w' p o:=by
 cases o with
 | dead=>trivial
 | row e n op ro fz c=> obtain⟨cs,fr,h1,h2⟩:=h;exact⟨cs,fr,(e rfl).trans h1,h2⟩
 | map es clock=> obtain⟨es',h1,h2⟩:=h;exact⟨es',(e rfl).trans h1,h2⟩
 | iter s pos=>exact (e rfl).trans h
def Step.lone {P:Program} {gl:List AO} (hgl:GK gl=true) {ρ ρ':Ren} {h h':H} {w w':World} (hr:eZ P ρ h w) (s:Step P renG (iL gl) w ρ' h' w'):Step P ρ h w ρ h w' where
 ext:=ρ.le_refl
 old:=λ_ _ e _=>e
 next:=Jd _
 keep:=λ_ _ _=>rfl
 rel:=⟨hr.dom,hr.inj,λid p e=>eV.same (hr.obj id p e) λhl=>s.same _ (hr.inside id p e hl) (Jl hgl _),hr.small,hr.fresh,hr.glob,λid p e hl=>Jp (hr.inside id p e hl) s.size⟩
 same:=λb hb _=>s.same b hb (Jl hgl b)
 own:=λ_ e _=>e
 size:=s.size
 tape:=s.tape
 os:=s.os
 output:=s.output
def EZ {ρ ρ':Ren}:∀{l l':List Value},l.all iO=true->bT (VR ρ') l l'->bT (VR ρ) l l'
 | [],[],_,_=>trivial
 | v :: l,u :: l',hg,⟨h1,h2⟩=>by rw[JZ,Ja] at hg;exact⟨gR hg.1 h1,EZ hg.2 h2⟩
 | [],_ :: _,_,h=>h.elim
 | _ :: _,[],_,h=>h.elim
def Ek {P:Program} {E:Env} {rc:RC} {f:FuncId} {args:List Value} {gl:List AO} {v:Value} (hE:gp P E ce) (hrc:lS E rc) (hgl:GK gl=true)
  (ha:args.all iO=true) (hv:iO v=true) (hrun:rc f args (iL gl) (λv _=>some (v,iL gl))=some (v,iL gl))
  {ρ:Ren} {h:H} {w:World} {args':List Value} (hr:eZ P ρ h w) (h2:bT (VR ρ) args args') (hs:dO gl 0 h=true):dL P ρ h w f args' v h:=by
 obtain⟨v0,h1,⟨N,hN⟩,he⟩:=hrc _ _ _ _ _ hrun;have hc:=hN N (Jd N);simp only[I9,JA,and_true] at he;subst he;rcases sound hE N f args _ _ _ hc renG w args' (As hgl hr hs) (EZ ha h2) with ⟨v',ρ',w',q1,q2,q3⟩ | ⟨fn,q1,q2,q3,q4⟩
 ·exact .inl ⟨v',ρ,w',q1,gR hv q2,Step.lone hgl hr q3⟩
 ·refine .inr ⟨fn,q1,q2,q3,q4.mono λe w' hq=>?_⟩;obtain⟨ρ',v',e1,e2,e3⟩:=hq;exact⟨ρ,v',e1,gR hv e2,Step.lone hgl hr e3⟩
def bA (gl:List AO) (args:List Value) (h:H):Option (Value × H):=
 match args with
 | []=>bif dO gl 0 h then some (.bool true,h) else none
 | _=>none
def xd {P:Program} {E:Env} {rc:RC} {f:FuncId} {gl:List AO} (hE:gp P E ce) (hrc:lS E rc) (hgl:GK gl=true)
  (hrun:rc f [] (iL gl) (λv _=>some (v,iL gl))=some (.bool true,iL gl)):dC P f (bA gl):=by
 intro ρ h w args args' v h' hr ha he;unfold bA at he;split at he
 ·cases hs:dO gl 0 h with
  | false=>rw[hs] at he;exact nomatch he
  | true=> rw[hs] at he;cases he;exact Ek hE hrc hgl rfl rfl hrun hr ha hs
 ·exact nomatch he
end Go.Ev
namespace Go.Ev
open Go
section
structure eW (P:Program) (f:FuncId) (e:Array Value->Sem Value):Prop where
 ex : ∃fn, P.funcs[f]? = some fn /\ (fn.name== "runtime.NumGoroutine") = false /\ fn.body.isNone = true /\ Extern.findNext fn = none /\ Extern.find fn = some e
variable {P : Program} {f : FuncId} {e : Array Value -> Sem Value}
def eW.run (x:eW P f e) (args:Array Value) (w:World):(callFunc f args).run P w=((e args).run P w).andThen λv w'=>.ok (.value v) w':=by obtain⟨fn,h1,h2,h3,h4,h5⟩:=x.ex;exact run_callFunc_extern h1 h2 h3 h4 h5 args w
def kW {r:Value->Value->Prop} {a:Value} {l:List Value} (h:bT r [a] l):∃b,l=[b]/\r a b:=by
 cases l with
 | nil=>exact h.elim
 | cons b l=>cases l with
  | nil=>exact⟨b,rfl,h.1⟩
  | cons _ _=>exact h.2.elim
def fI {r:Value->Value->Prop} {a a2:Value} {l:List Value} (h:bT r [a,a2] l):∃b b2,l=[b,b2]/\r a b/\r a2 b2:=by
 cases l with
 | nil=>exact h.elim
 | cons b l=> obtain⟨b2,rfl,h2⟩:=kW h.2;exact⟨b,b2,rfl,h.1,h2⟩
def xW (x:eW P f Extern.AbiNoEscape.same):dC P f iv:=by
 intro ρ h w args args' v h' hr ha he;unfold iv at he;split at he
 ·cases he;obtain⟨b,rfl,hb⟩:=kW ha;refine .inl ⟨b,ρ,w,?_,hb,Step.refl hr⟩;rw[x.run];rfl
 ·exact nomatch he
def xJ {tS tR el:TypeId} {i:TypeInfo} (x:eW P f (Extern.SlicesOverlaps.overlaps #[tS,tS] #[tR])) (ht:P.underlying tS=some (.slice el)) (hi:P.info? el=some i):dC P f ix:=by
 intro ρ h w args args' v h' hr ha he;have hdef:∀(a b:Option Addr) (la ca lb cb:Nat),(∀a' b',a=some a'->b=some b'->la=0 \/ lb=0)->(callFunc f ⟨[.slice a la ca,.slice b lb cb]⟩).run P w=.ok (.value (.bool false)) w:=by
  intro a b la ca lb cb h0;rw[x.run];have:(Extern.SlicesOverlaps.overlaps #[tS,tS] #[tR] #[.slice a la ca,.slice b lb cb]).run P w=.ok (.bool false) w:=by
   change Sem.run P (α:=Value) (do
    let some t:= (#[tS, tS]:Array TypeId)[0]? | stuck "slices.overlaps: no parameter types"
    let .slice elem <-underlying t | stuck "slices.overlaps: slice type expected"
    let size <-sizeOf elem
    match (a:Option Addr),(b:Option Addr) with
    | some a,some b=>
     if la=0 \/ lb=0 \/ size=0 then pure (Value.bool false)
     else if a.block != b.block&&(<-frozen a)&&(<-frozen b) then unsupported .addressObserved
     else do
      if a.block != b.block then do
       noView a;noView b
       if <-mayBeOne a b then return Value.bool ((<-choose (.extern "sameAddr.stringBytes" 2))==1)
      pure (Value.bool (a.block==b.block&&a.off<b.off+lb*size&&b.off<a.off+la*size))
    | _,_=>pure (Value.bool false)) w=_
   cases a with
   | none=>simp[run_underlying ht,sizeOf,typeInfo,hi]
   | some a=>
    cases b with
    | none=>simp[run_underlying ht,sizeOf,typeInfo,hi]
    | some b=>
     have:la=0 \/ lb=0 \/ i.size=0:=by
      rcases h0 a b rfl rfl with q | q
      ·exact .inl q
      ·exact .inr (.inl q)
     simp[run_underlying ht,sizeOf,typeInfo,hi,this]
  show ((Extern.SlicesOverlaps.overlaps #[tS,tS] #[tR] #[.slice a la ca,.slice b lb cb]).run P w).andThen _=_;rw[this];rfl
 unfold ix at he;split at he
 ·rename_i a la ca b lb cb;obtain⟨u,u2,rfl,hu,hu2⟩:=fI ha;have key:v=.bool false/\h'=h/\(∀a' b',a=some a'->b=some b'->la=0 \/ lb=0):=by
   split at he
   ·cases hb:(beq la 0||beq lb 0) with
    | false=>rw[hb] at he;exact nomatch he
    | true=>
     rw[hb] at he;cases he;refine⟨rfl,rfl,λ_ _ _ _=>?_⟩;rcases Bool.or_eq_true_iff.1 hb with q | q
     ·exact .inl (I8 q)
     ·exact .inr (I8 q)
   ·rename_i hno;cases he;exact⟨rfl,rfl,λa' b' e1 e2=>absurd e2 (by subst e1;intro e2;exact hno _ _ rfl e2)⟩
  obtain⟨rfl,rfl,h0⟩:=key;have hsl:∀(a:Option Addr) (la ca:Nat) (u:Value),VR ρ (.slice a la ca) u->∃a' ca',u=.slice a' la ca'/\(a'.isSome=a.isSome):=by
   intro a la ca u hu;cases a with
   | none=>exact⟨none,_,hu.nilslice,rfl⟩
   | some ad=> obtain⟨_,_,e,_⟩:=hu.slice_some;exact⟨some _,_,e,rfl⟩
  obtain⟨a',ca',rfl,e1⟩:=hsl _ _ _ _ hu;obtain⟨b',cb',rfl,e2⟩:=hsl _ _ _ _ hu2;refine .inl ⟨.bool false,ρ,w,hdef _ _ _ _ _ _ ?_,VR.of1 rfl,Step.refl hr⟩;intro x y ex ey;subst ex ey;cases a with
  | none=>exact nomatch e1
  | some a=>cases b with
   | none=>exact nomatch e2
   | some b=>exact h0 a b rfl rfl
 ·exact nomatch he
def rU {ps:Array TypeId} {t el:TypeId} {i:TypeInfo} (x:eW P f (Extern.BytealgMakeNoZero.makeNoZero ps #[t])) (ht:P.underlying t=some (.slice el)) (hi:P.info? el=some i) (h1:i.size=1):dC P f (gn el):=by
 intro ρ h w args args' v h' hr ha he;unfold gn at he;split at he
 ·rename_i n;obtain⟨u,rfl,hu⟩:=kW ha;rw[hu.int];cases hn:ble n 100000000 with
  | false=>rw[hn] at he;exact nomatch he
  | true=>
   cases hroom:room h with
   | false=>rw[hn,hroom] at he;exact nomatch he
   | true=>
    rw[hn,hroom] at he;cases he;have hn:=I7 hn;obtain⟨cs,hrun,hge,_⟩:=Lib.run_makeNoZero (P:=P) w ps t el ht n (by omega);refine .inl ⟨.slice (some ⟨w.heap.size,0,none⟩) n cs.size,ρ.upd h.next (w.heap.size,cs.size-n),_,?_,?_,(Step.drew hr).trans ((Step.drew hr.drew).trans (Step.alloc (O:=.cells cs el) (x:=cs.size-n) (w:=w.drew.drew) hr.drew.drew hroom (ob:=.row el n true false 0 (.c unk)) ?_))⟩
    ·rw[x.run];show ((Extern.BytealgMakeNoZero.makeNoZero ps #[t] #[.int .i64 (n:Int)]).run P w).andThen _=_;rw[hrun];rfl
    ·have e1:(2*n+1)%2=1:=by omega
     have e2:(2*n+1) / 2=n:=by omega
     have e3:n+(cs.size-n)=cs.size:=by omega
     exact VR.of1 (by simp[cW,cU,Ren.upd_same,e1,e2,e3])
    ·intro ρ' hle;refine⟨cs,(0,0),heap_alloc_new w.drew.drew _,hge,λq=>(nomatch q),λ_=>⟨i,hi,by rw[h1];show cs.size=n+(cs.size-n)*1;omega⟩,λj hj=>?_,.inr (Jd _)⟩;have hlt:j<cs.size:=Jp hj hge;exact⟨cs[j],by simp[hlt],.inl rfl⟩
 ·exact nomatch he
end
section
def nU (args:List Value) (h:H):Option (Value × H):=match args with
 | [.string ⟨⟨l⟩⟩,.int .u8 c]=>some (.int .i64 (.ofNat (Lib.countByte l c.toNat.toUInt8)),h)
 | _=>none
def iV (args:List Value) (h:H):Option (Value × H):=match args with
 | [.string ⟨⟨l⟩⟩,.int .u8 c]=>some (.int .i64 (Lib.indexByte l c.toNat.toUInt8),h)
 | _=>none
variable {P : Program} {f : FuncId}
def GA (x:eW P f Extern.BytealgCount.count):dC P f nU:=by
 intro ρ h w args args' v h' hr ha he;unfold nU at he;split at he
 ·rename_i l c;cases he;obtain⟨b,b2,rfl,hb,hb2⟩:=fI ha;rw[hb.string,hb2.int];refine .inl ⟨_,ρ,w,?_,VR.of1 rfl,Step.refl hr⟩;rw[x.run];show ((Extern.BytealgCount.count #[.string ⟨⟨l⟩⟩,.int .u8 c]).run P w).andThen _=_;rw[Lib.run_countString];rfl
 ·exact nomatch he
def tW (x:eW P f Extern.BytealgIndexByte.indexByte):dC P f iV:=by
 intro ρ h w args args' v h' hr ha he;unfold iV at he;split at he
 ·rename_i l c;cases he;obtain⟨b,b2,rfl,hb,hb2⟩:=fI ha;rw[hb.string,hb2.int];refine .inl ⟨_,ρ,w,?_,VR.of1 rfl,Step.refl hr⟩;rw[x.run];show ((Extern.BytealgIndexByte.indexByte #[.string ⟨⟨l⟩⟩,.int .u8 c]).run P w).andThen _=_;rw[Lib.run_indexByteString];rfl
 ·exact nomatch he
end
end Go.Ev
