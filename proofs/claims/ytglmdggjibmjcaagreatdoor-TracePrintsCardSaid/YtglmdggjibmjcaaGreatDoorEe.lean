/-
  TWO MORE FUNCTIONS WITHOUT A BODY: how often a byte stands in a string, and where first.
-/
import Derived.Test.YtglmdggjibmjcaaGreatDoorEd
import Derived.Test.YtglmdggjibmjcaaGreatDoorEc
import Derived.Lib.MakeNoZero
import Derived.Lib.Overlaps
import Derived.Lib.Builder
import Derived.Laws.Externs
import Derived.Lib.Bytealg
noncomputable section
set_option linter.unusedVariables false
set_option linter.unusedSimpArgs false
open Nat (ble beq)
namespace Go.Ev
open Go
section
namespace F
def lk:(ks:List Tmp)->aa ks->Tmp->Value
 | [],_,_=>undef
 | k :: ks,e,d=>bif beq k d then e.1 else lk ks e.2 d
theorem jd (d:Tmp):∀(ks:List Tmp) (e:aa ks),(iR d ks).run e=lk ks e d
 | [],_=>rfl
 | [a],e=>by simp only[iR,lk];cases beq a d <;> rfl
 | [a,b],e=>by simp only[iR,lk];cases beq a d <;> cases beq b d <;> rfl
 | [a,b,c],e=>by simp only[iR,lk];cases beq a d <;> cases beq b d <;> cases beq c d <;> rfl
 | a :: b :: c :: x :: ks,e=>by simp only[iR,lk];cases beq a d <;> cases beq b d <;> cases beq c d <;> cases beq x d <;> first | rfl | exact jd d ks _
def o7 (ks:List Tmp) (ok:Nat) (e:aa ks) (t:TM):Prop:=∀d,tb ok d=true->lk ks e d=t.get d
theorem Cv {ks:List Tmp} {ok:Nat} {e:aa ks} {t:TM} (hr:o7 ks ok e t) {x:Operand} (h:okO ok x=true):(cW ks x).run e=ev t x:=by
 cases x with
 | tmp i=>exact (jd i ks e).trans (hr i h)
 | const v=>simp only[cW,ev];cases plain v <;> rfl
 | global g=>simp only[cW,ev];cases ble 16 g <;> rfl
 | func f=>rfl
theorem JP {ok:Nat} {l:List Operand} (h:wZ ok l=true):∀x∈l,okO ok x=true:=by
 induction l with
 | nil=>intro x hx;simp at hx
 | cons a l ih=>
  obtain⟨h1,h2⟩:=fg (show gQ (okO ok a) (wZ ok l)=true from h);intro x hx;cases hx with
  | head=>exact h1
  | tail _ hx=>exact ih h2 x hx
def xj (ks:List Tmp) (e:aa ks) (t:TM) (l:List Operand):Prop:=∀x∈l,(cW ks x).run e=ev t x
theorem sa {ks:List Tmp} {ok:Nat} {e:aa ks} {t:TM} (hr:o7 ks ok e t) {l:List Operand} (h:wZ ok l=true):xj ks e t l:=
 λx hx=>Cv hr (JP h x hx)
theorem j4 {ks:List Tmp} {e:aa ks} {t:TM} {l:List Operand} (h:xj ks e t l):(jq ks l).run e=l.map (ev t):=by
 induction l with
 | nil=>rfl
 | cons x l ih=> simp only[jq,List.map_cons];rw[h x (by simp),ih λy hy=>h y (by simp[hy])]
theorem parts_eq {ks:List Tmp} {e:aa ks} {t:TM} {l:List (Nat × Operand)} (h:∀p∈l,(cW ks p.2).run e=ev t p.2):
  (oG ks l).run e=l.map λp=>(p.1,ev t p.2):=by
 induction l with
 | nil=>rfl
 | cons x l ih=> simp only[oG,List.map_cons];rw[h x (by simp),ih λy hy=>h y (by simp[hy])]
theorem vZ {ks:List Tmp} {e:aa ks} {t:TM} {x:Option Operand} (h:∀y,x=some y->(cW ks y).run e=ev t y):(En ks x).run e=x.map (ev t):=by
 cases x with
 | none=>rfl
 | some y=>simp only[En,Option.map];rw[h y rfl]
def FR {ks:List Tmp} (c:LC ks) (e:aa ks) (h:H) (o:Option Value):Prop:=∀k r,c.run e h k=some r->∃v,o=some v/\k v=some r
theorem ge {ks:List Tmp} {e:aa ks} {h:H} {o:Option Value}:FR (LC.no ks) e h o:=λ_ _ h=>nomatch h
variable {E : Env} {ks : List Tmp} {e : aa ks} {h : H}
theorem Eg {ty:TypeId} {x:OC ks}:FR (CZ E ks ty x) e h (match x.run e with | .pointer (some ad)=>bv E h ty ad | _=>none):=by
 unfold CZ;split
 ·rename_i d s hd hs;cases ha:jg d with
  | true=> intro k r hk;obtain⟨ad,hx,hk⟩:=cj hk;obtain⟨el,n,op,ro,fz,c,ho,hk⟩:=bZ hk;obtain⟨hb,hk⟩:=ah hk;rw[bi] at ho;have hb:ble (ad.off+s) n=true:=hb;refine⟨_,?_,hk⟩;rw[hx];simp only[bv,hd,hs,ho,ha,cond_true,hb,ez]
  | false=> intro k r hk;obtain⟨ad,hx,hk⟩:=cj hk;obtain⟨el,n,op,ro,fz,c,ho,hk⟩:=bZ hk;obtain⟨hb,hk⟩:=ah hk;rw[bi] at ho;have hb:Nat.blt ad.off n=true:=hb;refine⟨_,?_,hk⟩;rw[hx];simp only[bv,hd,hs,ho,ha,cond_false,hb,cond_true,bF]
 ·exact ge
theorem qe {s:TypeId} {x:OC ks} {f:Nat}:FR (lm E ks s x f) e h (fE E s (x.run e) f):=by
 unfold lm;split
 ·rename_i fs hs;split
  ·rename_i fd hf;split
   ·rename_i m hm;cases h0:beq fd.offset 0 with
    | true=> intro k r hk;obtain⟨ad,hx,hk⟩:=cj hk;refine⟨_,?_,hk⟩;rw[hx];have h0:fd.offset=0:=Nat.eq_of_beq_eq_true h0;simp[fE,hs,hf,hm,jU,h0]
    | false=> intro k r hk;obtain⟨ad,hx,hk⟩:=cj hk;refine⟨_,?_,hk⟩;rw[hx];simp[fE,hs,hf,hm,jU,h0]
   ·exact ge
  ·exact ge
 ·exact ge
theorem mi {ad:Addr} {n:Nat} {k:Value->R} {r} (hk:addOffF ad n k=some r):k (.pointer (some (jU ad n)))=some r:=by
 cases n with
 | zero=>exact hk
 | succ n=>exact hk
theorem pW {ty:TypeId} {x i:OC ks}:FR (kX E ks ty x i) e h (fJ E ty (x.run e) (i.run e)):=by
 unfold kX;split
 ·rename_i n el hs;split
  ·rename_i s hm;intro k r hk;rcases kY hk with hk | ⟨kd,j,hi,hk⟩
   ·exact nomatch hk
   obtain⟨ad,hx,hk⟩:=cj hk;obtain⟨hb,hk⟩:=ah hk;have hb:Nat.blt j n=true:=hb;refine⟨_,?_,mi hk⟩;rw[hx,hi];simp[fJ,hs,hm,hb]
  ·exact ge
 ·rename_i el hs;split
  ·rename_i s hm;intro k r hk;rcases kY hk with hk | ⟨kd,j,hi,hk⟩
   ·exact nomatch hk
   rcases mP hk with hk | ⟨ad,n,c,hx,hk⟩
   ·exact nomatch hk
   obtain⟨hb,hk⟩:=ah hk;have hb:Nat.blt j n=true:=hb;refine⟨_,?_,mi hk⟩;rw[hx,hi];simp[fJ,hs,hm,hb]
  ·exact ge
 ·exact ge
theorem C5 {s d:TypeId} {x:OC ks}:FR (E6 E ks s d x) e h (aQ E h s d (x.run e)):=by
 unfold E6;split
 ·rename_i k1 kd hs hd;intro k r hk;rcases kY hk with hk | ⟨ko,n,hx,hk⟩
  ·exact cE hk
  ·rcases gA hk with ⟨_,hk⟩ | ⟨hb,hk⟩
   ·exact cE hk
   ·refine⟨_,?_,hk⟩;rw[hx];simp only[aQ,hs,hd];have:=jK kd n (Nat.le_of_ble_eq_true hb);simp only[Int.ofNat_eq_natCast,this]
 ·intro k r hk;exact cE hk
theorem GN {ty:TypeId} {x:OC ks}:FR (akn E ks ty x) e h (aZ E h ty (x.run e)):=by
 unfold akn;split
 ·rename_i el hs;intro k r hk;rcases mP hk with hk | ⟨ad,n,c,hx,hk⟩
  ·exact cE hk
  ·refine⟨_,?_,hk⟩;rw[hx];simp[aZ,hs]
 ·intro k r hk;exact cE hk
theorem A6 {ty:TypeId} {x:OC ks}:FR (wt E ks ty x) e h (match E.und ty with | some (.interface _)=>none | some _=>bif lO (x.run e) then some (.iface ty (x.run e)) else none | none=>none):=by
 unfold wt;split
 ·exact ge
 ·rename_i d hd hs;intro k r hk;obtain⟨hb,hk⟩:=ah hk;rw[tQ] at hb;refine⟨.iface ty (x.run e),?_,hk⟩;split
  ·rename_i hs';exact absurd (hs.symm.trans hs') (by intro q;injection q with q;exact hd _ q)
  ·simp[hb]
  ·rename_i hs';exact absurd (hs.symm.trans hs') (by simp)
 ·exact ge
theorem vg {b:Builtin} {args:List Operand} {tys:List TypeId} {t:TM} (ha:xj ks e t args):
  FR (oI E ks b args tys) e h (bg E h b (args.map (ev t)) tys):=by
 unfold oI;split
 ·rename_i x ty tys';have hx:=ha x (by simp);have:=GN (E:=E) (e:=e) (h:=h) (ty:=ty) (x:=cW ks x);rw[hx] at this;exact this
 ·intro k r hk;have:=cE hk;rw[j4 ha] at this;exact this
theorem qD {t:TM} {o:Oper} (ha:xj ks e t o.op.operands.toList):FR (rG E ks o) e h (light E t h o):=by
 obtain⟨dst,op,type,pos,after,guard⟩:=o;cases op
 case move x=> intro k r hk;have:=ha x (by simp[Op.operands]);exact⟨_,rfl,by rw[<-this];exact hk⟩
 case assign x=> intro k r hk;have:=ha x (by simp[Op.operands]);exact⟨_,rfl,by rw[<-this];exact hk⟩
 case pick c a b=>
  intro k r hk;have h1:=ha c (by simp[Op.operands]);have h2:=ha a (by simp[Op.operands]);have h3:=ha b (by simp[Op.operands]);simp only[light];rcases pN hk with ⟨hc,hk⟩ | ⟨hc,hk⟩
  ·rw[h1] at hc;rw[h3] at hk;rw[hc];exact⟨_,rfl,hk⟩
  ·rw[h1] at hc;rw[h2] at hk;rw[hc];exact⟨_,rfl,hk⟩
 case load ty x=> have h1:=ha x (by simp[Op.operands]);have:=Eg (E:=E) (e:=e) (h:=h) (ty:=ty) (x:=cW ks x);rw[h1] at this;exact this
 case nilCheck x=> intro k r hk;have h1:=ha x (by simp[Op.operands]);simp only[light,<-h1];exact cE hk
 case binOp op ty x y yt=> intro k r hk;have h1:=ha x (by simp[Op.operands]);have h2:=ha y (by simp[Op.operands]);simp only[light,<-h1,<-h2];exact A9 op _ _ _ _ hk
 case unOp op ty x=>
  have h1:=ha x (by simp[Op.operands]);intro k r hk;simp only[light,<-h1];cases op
  case not=>
   rcases pN hk with ⟨hc,hk⟩ | ⟨hc,hk⟩
   ·rw[hc];exact⟨_,rfl,hk⟩
   ·rw[hc];exact⟨_,rfl,hk⟩
  all_goals exact cE hk
 case convert s d x=> have h1:=ha x (by simp[Op.operands]);have:=C5 (E:=E) (e:=e) (h:=h) (s:=s) (d:=d) (x:=cW ks x);rw[h1] at this;exact this
 case build ty parts=> intro k r hk;have:=cE hk;rw[parts_eq (t:=t) (λp hp=>ha p.2 (by simp only[Op.operands];exact List.mem_map.2 ⟨p,hp,rfl⟩))] at this;exact this
 case fieldAddr s x f=> have h1:=ha x (by simp[Op.operands]);have:=qe (E:=E) (e:=e) (h:=h) (s:=s) (x:=cW ks x) (f:=f);rw[h1] at this;exact this
 case field s x f=> have h1:=ha x (by simp[Op.operands]);intro k r hk;have:=cE hk;rw[h1] at this;exact this
 case indexAddr ty x i=> have h1:=ha x (by simp[Op.operands]);have h2:=ha i (by simp[Op.operands]);have:=pW (E:=E) (e:=e) (h:=h) (ty:=ty) (x:=cW ks x) (i:=cW ks i);rw[h1,h2] at this;exact this
 case index ty x i=> have h1:=ha x (by simp[Op.operands]);have h2:=ha i (by simp[Op.operands]);intro k r hk;have:=cE hk;rw[h1,h2] at this;exact this
 case slice ty x lo hi mx=>
  have h1:=ha x (by simp[Op.operands]);intro k r hk;have:=cE hk
  rw[h1,vZ (t:=t) (x:=lo) (λy hy=>ha y (by simp[Op.operands,hy])),vZ (t:=t) (x:=hi) (λy hy=>ha y (by simp[Op.operands,hy])),
   vZ (t:=t) (x:=mx) (λy hy=>ha y (by simp[Op.operands,hy]))] at this
  exact this
 case extract x i=> have h1:=ha x (by simp[Op.operands]);intro k r hk;obtain⟨l,hl,hk⟩:=wK hk;rw[h1] at hl;simp only[light,hl];exact aP hk
 case makeInterface ty x=> have h1:=ha x (by simp[Op.operands]);have:=A6 (E:=E) (e:=e) (h:=h) (ty:=ty) (x:=cW ks x);rw[h1] at this;exact this
 case makeFunc fn first caps=>
  cases fn
  case func f=>
   intro k r hk;obtain⟨hb,hk⟩:=ah hk;obtain⟨hb1,hb2⟩:=fg hb;rw[sJ tQ] at hb1 hb2;have h1:xj ks e t first.toList:=λx hx=>ha x (by simp[Op.operands,Array.mem_toList_iff.1 hx])
   have h2:xj ks e t caps.toList:=λx hx=>ha x (by simp[Op.operands,Array.mem_toList_iff.1 hx]);rw[j4 h1] at hb1 hk;rw[j4 h2] at hb2 hk;refine⟨_,?_,hk⟩;simp only[light,hb1,hb2];rfl
  all_goals exact ge
 case lookup ty x i ok=> have h1:=ha x (by simp[Op.operands]);have h2:=ha i (by simp[Op.operands]);intro k r hk;have:=cE hk;rw[h1,h2] at this;exact this
 case call c=>
  obtain⟨callee,args,tys⟩:=c;cases callee
  case builtin b=> exact vg (λx hx=>ha x (by simp[Op.operands,Call.operands];exact Array.mem_toList_iff.1 hx))
  all_goals exact ge
 all_goals exact ge
end F
end
namespace F
theorem jC (m d:Nat):tb m d=m.testBit d:=by
 unfold tb Nat.testBit;show beq ((m >>> d) &&& 1) 1=((1 &&& m >>> d) != 0);rw[Nat.and_comm (m >>> d) 1,Nat.one_and_eq_mod_two];have:m >>> d%2=0 \/ m >>> d%2=1:=by omega
 rcases this with h | h <;> rw[h] <;> rfl
theorem BL (d i:Nat):(Nat.shiftLeft 1 d).testBit i=decide (d=i):=by
 show (1 <<< d).testBit i=_;rw[Nat.testBit_shiftLeft];by_cases h:d=i
 ·subst h;simp
 ·by_cases h2:d<=i
  ·obtain⟨j,hj⟩:∃j,i-d=j+1:=⟨i-d-1,by omega⟩;rw[hj,Nat.testBit_succ];simp[h]
  ·simp[h];omega
theorem uy (a b d:Nat):tb (Nat.lor a b) d=(tb a d||tb b d):=by rw[jC,jC,jC];exact Nat.testBit_or a b d
theorem jn (a b d:Nat):tb (Nat.land a b) d=(tb a d&&tb b d):=by rw[jC,jC,jC];exact Nat.testBit_and a b d
theorem B5 (a b d:Nat):tb (Nat.xor a b) d=(tb a d ^^ tb b d):=by rw[jC,jC,jC];exact Nat.testBit_xor a b d
theorem oN (d i:Nat):tb (Nat.shiftLeft 1 d) i=decide (d=i):=by rw[jC,BL]
theorem Jg (a b d:Nat):tb (rN a b) d=(tb a d && !tb b d):=by unfold rN;rw[B5,jn];cases tb a d <;> cases tb b d <;> rfl
theorem rM (d:Nat):tb 0 d=false:=by rw[jC];simp
theorem gy (l:List Tmp) (d:Nat):tb (bS l) d=true ↔ d∈l:=by
 induction l with
 | nil=>show tb 0 d=true ↔ _;rw[rM];simp
 | cons a l ih=>
  show tb (Nat.lor (Nat.shiftLeft 1 a) (bS l)) d=true ↔ _;rw[uy,oN];simp only[Bool.or_eq_true,decide_eq_true_eq,ih,List.mem_cons];constructor
  ·rintro (h | h)
   ·exact .inl h.symm
   ·exact .inr h
  ·rintro (h | h)
   ·exact .inl h.symm
   ·exact .inr h
theorem pI {a b:Nat} (h:pr a b=true) {d:Nat} (hd:tb a d=true):tb b d=true:=by have h:Nat.land a b=a:=Nat.eq_of_beq_eq_true h;have:=jn a b d;rw[h,hd] at this;simpa using this.symm
theorem eK (l:List Tmp):∀(m:Nat) (d:Nat),d∈eF l m ↔ d∈l/\tb m d=true:=by
 induction l with
 | nil=>intro m d;show d∈[] ↔ _;simp
 | cons a l ih=>
  intro m d;have e:eF (a :: l) m=Bool.rec (motive:=λ_=>List Tmp) (eF l m) (a :: eF l (Nat.xor m (Nat.shiftLeft 1 a))) (tb m a):=rfl;rw[e];cases ha:tb m a with
  | false=>
   show d∈eF l m ↔ _;rw[ih];simp only[List.mem_cons];constructor
   ·rintro⟨h1,h2⟩;exact⟨.inr h1,h2⟩
   ·rintro⟨h1 | h1,h2⟩
    ·subst h1;rw[ha] at h2;exact nomatch h2
    ·exact⟨h1,h2⟩
  | true=>
   show d∈a :: eF l (Nat.xor m (Nat.shiftLeft 1 a)) ↔ _;simp only[List.mem_cons,ih,B5,oN];by_cases hd:d=a
   ·subst hd;simp[ha]
   ·have:¬ a=d:=λh=>hd h.symm;simp[hd,this]
theorem zP {k1 ks:List Tmp} (m:List Tmp) (e1:aa k1) (e:aa ks) (d:Tmp):
  lk (m++ks) ((rn k1 ks m).run e1 e) d=if d∈m then lk k1 e1 d else lk ks e d:=by
 induction m with
 | nil=>simp[rn]
 | cons a m ih=>
  show (bif beq a d then (iR a k1).run e1 else lk (m++ks) ((rn k1 ks m).run e1 e) d)=_;by_cases h:a=d
  ·subst h;have:beq a a=true:=Nat.beq_refl a;simp only[this,cond_true,List.mem_cons,true_or,if_true];exact jd a k1 e1
  ·have hb:beq a d=false:=by cases hq:beq a d with
    | false=>rfl
    | true=>exact absurd (Nat.eq_of_beq_eq_true hq) h
   have h2:¬ d=a:=λq=>h q.symm;simp only[hb,cond_false,List.mem_cons,h2,false_or];exact ih
theorem lN {k1:List Tmp} (m:List Tmp) (e1:aa k1) (d:Tmp) (hd:d∈m):lk m ((gR k1 m).run e1) d=lk k1 e1 d:=by
 induction m with
 | nil=>simp at hd
 | cons a m ih=>
  show (bif beq a d then (iR a k1).run e1 else lk m ((gR k1 m).run e1) d)=_;by_cases h:a=d
  ·subst h;have:beq a a=true:=Nat.beq_refl a;simp only[this,cond_true];exact jd a k1 e1
  ·have hb:beq a d=false:=by cases hq:beq a d with
    | false=>rfl
    | true=>exact absurd (Nat.eq_of_beq_eq_true hq) h
   simp only[hb,cond_false];cases hd with
   | head=>exact absurd rfl h
   | tail _ hd=>exact ih hd
theorem lL {ks:List Tmp} (m:List Tmp) (l:aa m) (e:aa ks) (d:Tmp):
  lk (m++ks) ((kz ks m).run l e) d=if d∈m then lk m l d else lk ks e d:=by
 induction m with
 | nil=>simp[kz]
 | cons a m ih=>
  show (bif beq a d then l.1 else lk (m++ks) ((kz ks m).run l.2 e) d)=if d∈a :: m then (bif beq a d then l.1 else lk m l.2 d) else lk ks e d
  by_cases h:a=d
  ·subst h;have:beq a a=true:=Nat.beq_refl a;simp[this]
  ·have hb:beq a d=false:=by cases hq:beq a d with
    | false=>rfl
    | true=>exact absurd (Nat.eq_of_beq_eq_true hq) h
   have h2:¬ d=a:=λq=>h q.symm;simp only[hb,cond_false,List.mem_cons,h2,false_or];exact ih l.2
def push (dst:Option Tmp) (ks:List Tmp) (v:Value) (e:aa ks):aa (fk dst ks):=
 match dst with
 | some _=>(v,e)
 | none=>e
def small (dst:Option Tmp):Prop:=∀d,dst=some d->d<=1000000000
theorem oH {t:TM} {dst:Option Tmp} {v:Value} (hs:small dst) (d:Tmp):(putV t dst v).get d=if dst=some d then v else t.get d:=by
 cases dst with
 | none=>simp[putV]
 | some a=>
  simp only[putV];rw[T.get_ins _ _ _ _ _ (Nat.lt_of_le_of_lt (Nat.succ_le_succ (hs a rfl)) (by decide))];by_cases h:d=a
  ·subst h;simp
  ·have:¬ a=d:=λq=>h q.symm;simp[h,this]
theorem jR {ks:List Tmp} {ok:Nat} {e:aa ks} {t:TM} (hr:o7 ks ok e t) {dst:Option Tmp} (hs:small dst) (v:Value):
  o7 (fk dst ks) (tu dst ok) (push dst ks v e) (putV t dst v):=by
 intro d hd;rw[oH hs];cases dst with
 | none=>simp only[reduceCtorEq,if_false];exact hr d hd
 | some a=>
  show (bif beq a d then v else lk ks e d)=_;by_cases h:a=d
  ·subst h;have:beq a a=true:=Nat.beq_refl a;simp[this]
  ·have hb:beq a d=false:=by cases hq:beq a d with
    | false=>rfl
    | true=>exact absurd (Nat.eq_of_beq_eq_true hq) h
   simp only[hb,cond_false,Option.some.injEq,h,if_false];apply hr;have hd:tb (Nat.lor (Nat.shiftLeft 1 a) ok) d=true:=hd;rw[uy,oN] at hd;simpa [h] using hd
end F
section
namespace F
def Ev (p:Nat->Prop):Prop:=∃N0,∀N,N0<=N->p N
theorem Ev.of {p:Nat->Prop} (h:∀N,p N):Ev p:=⟨0,λN _=>h N⟩
theorem Ev.both {p q:Nat->Prop} (hp:Ev p) (hq:Ev q):Ev λN=>p N/\q N:=by obtain⟨a,ha⟩:=hp;obtain⟨b,hb⟩:=hq;exact⟨a+b,λN hN=>⟨ha N (by omega),hb N (by omega)⟩⟩
theorem Ev.mono {p q:Nat->Prop} (hp:Ev p) (h:∀N,p N->q N):Ev q:=by obtain⟨a,ha⟩:=hp;exact⟨a,λN hN=>h N (ha N hN)⟩
theorem Ev.succ {p:Nat->Prop} (hp:Ev λN=>p (N+1)):Ev p:=by
 obtain⟨a,ha⟩:=hp
 exact⟨a+1,λN hN=>by
  obtain⟨M,rfl⟩:∃M,N=M+1:=⟨N-1,by omega⟩
  exact ha M (by omega)⟩
def kQ (E:Env) (rc:RC):Prop:=∀f args h k r,rc f args h k=some r->∃v h',Ev (λN=>jB E (cF E N) f args h=some (v,h'))/\k v h'=some r
variable {E : Env} {ks : List Tmp} {e : aa ks} {h : H}
theorem EB {ty:TypeId} {a x:OC ks} {rc:RC} {k:Value->H->R} {r} (hk:(wc E ks ty a x).run rc e h k=some r):
  ∃ad h',a.run e=.pointer (some ad)/\mJ E h ty ad (x.run e)=some h'/\k undef h'=some r:=by
 unfold wc at hk;split at hk
 ·rename_i s hs;obtain⟨ad,ha,hk⟩:=cj hk;have hk:=iS hk;obtain⟨el,n,op,ro,fz,c,ho,hk⟩:=bZ hk;replace hk:=ah hk;rw[nW] at hk;have hro:ro=false:=by cases ro with
   | false=>rfl
   | true=>exact nomatch hk.1
  subst hro;replace hk:=hk.2;obtain⟨h2,hk⟩:=ah hk;obtain⟨h3,hk⟩:=ah hk;obtain⟨h4,hk⟩:=ah hk;obtain⟨h5,hk⟩:=ah hk;obtain⟨h6,hk⟩:=ah hk;rw[cC] at h2;rw[sJ mz] at h6;rw[bi] at ho;rw[aE,eD,fv] at hk;have hl:(cellsOfV (x.run e)).length=s:=Nat.eq_of_beq_eq_true h2;have h4:ble (ad.off+(cellsOfV (x.run e)).length) n=true:=by rw[hl];exact h4
  have h3:ble fz ad.off=true:=h3;refine⟨ad,_,ha,?_,hk⟩;simp only[mJ,hs,h2,cond_true,bO,ho,h3,h4,h5,h6,Bool.and_self]
 ·exact nomatch hk
theorem lM {t:TM} {o:Oper} (ha:xj ks e t o.op.operands.toList) {rc:RC} {k:Value->H->R} {r} (hk:(FP E ks o).run rc e h k=some r):
  ∃v h',heavy E t h o=some (v,h')/\k v h'=some r:=by
 obtain⟨dst,op,type,pos,after,guard⟩:=o;cases op
 case store ty a x=> have h1:=ha a (by simp[Op.operands]);have h2:=ha x (by simp[Op.operands]);obtain⟨ad,h',hp,hs,hk⟩:=EB hk;rw[h1] at hp;rw[h2] at hs;refine⟨undef,h',?_,hk⟩;simp only[heavy,hp,hs]
 case mapUpdate ty m key x=> have h1:=ha m (by simp[Op.operands]);have h2:=ha key (by simp[Op.operands]);have h3:=ha x (by simp[Op.operands]);obtain⟨h',hs,hk⟩:=xn hk;rw[h1,h2,h3] at hs;refine⟨undef,h',?_,hk⟩;simp only[heavy,hs]
 case call c=>
  obtain⟨callee,args,tys⟩:=c;cases callee
  case builtin b=> have h1:xj ks e t args.toList:=λx hx=>ha x (by simp[Op.operands,Call.operands];exact Array.mem_toList_iff.1 hx);obtain⟨v,h',hs,hk⟩:=iU hk;rw[j4 h1] at hs;exact⟨v,h',hs,hk⟩
  all_goals exact nomatch hk
 case next it b=>
  cases b with
  | false=>exact nomatch hk
  | true=> have h1:=ha it (by simp[Op.operands]);obtain⟨v,h',hs,hk⟩:=iU hk;rw[h1] at hs;exact⟨v,h',hs,hk⟩
 all_goals exact nomatch hk
theorem s7 {t:TM} {o:Oper} (hb:qs E o=true) (ha:xj ks e t o.op.operands.toList) {rc:RC} {k:Value->H->R} {r} (hk:(C3 E ks o).run rc e h k=some r):
  ∃v h',fx o=none/\light E t h o=none/\heavy E t h o=some (v,h')/\k v h'=some r:=by
 obtain⟨dst,op,type,pos,after,guard⟩:=o;cases op
 case convert sT dT x=>
  have h1:=ha x (by simp[Op.operands]);obtain⟨v,h',hs,hk⟩:=iU hk;rw[h1] at hs;refine⟨v,h',rfl,?_,hs,hk⟩;simp only[qs] at hb;split at hb
  ·rename_i el e1 e2;simp only[light,aQ,e1,e2]
  ·exact nomatch hb
 all_goals exact nomatch hb
theorem uj {t:TM} {o:Oper} (ha:xj ks e t o.op.operands.toList) {k:AO->(Nat->Value)->R} {r} (hk:(lf E ks o).run e k=some r):
  ∃ob f,cM E t o=some (ob,f)/\k ob f=some r:=by
 obtain⟨dst,op,type,pos,after,guard⟩:=o;cases op
 case alloc el=>
  simp only[lf] at hk;split at hk
  ·rename_i ob f ho;exact⟨ob,f,ho,hk⟩
  ·exact nomatch hk
 case box el x=> have h1:=ha x (by simp[Op.operands]);simp only[lf] at hk;have hk:=iS hk;obtain⟨hb,hk⟩:=ah hk;rw[sJ mz] at hb;rw[h1] at hb hk;rw[cC] at hk;refine⟨_,_,?_,hk⟩;simp only[cM,hb,cond_true]
 case buildSlice ty len parts=>
  have h1:=parts_eq (t:=t) (λp hp=>ha p.2 (by simp only[Op.operands];exact List.mem_map.2 ⟨p,hp,rfl⟩));simp only[lf] at hk;split at hk
  ·rename_i el hel;split at hk
   ·rename_i s z hs hz;cases hc:(ble (len*s) 100000&&beq z.length s) with
    | false=>rw[hc] at hk;exact nomatch hk
    | true=>
     rw[hc] at hk;simp only[cond_true,h1] at hk;simp only[cM,hel,hs,hz,hc,cond_true];cases hf:dm (λi=>some (i*s,s)) (List.replicate len z).flatten (parts.toList.map λp=>(p.1,ev t p.2)) with
     | none=>rw[hf] at hk;exact nomatch hk
     | some cs=>rw[hf] at hk;exact⟨_,_,rfl,hk⟩
   ·exact nomatch hk
  ·exact nomatch hk
 case makeSlice ty l c=> have h1:=ha l (by simp[Op.operands]);have h2:=ha c (by simp[Op.operands]);obtain⟨ob,f,ho,hk⟩:=kG hk;rw[h1,h2] at ho;exact⟨ob,f,ho,hk⟩
 case makeMap ty rs=>
  cases rs with
  | none=>exact⟨_,_,rfl,hk⟩
  | some x=> have h1:=ha x (by simp[Op.operands]);obtain⟨ob,f,ho,hk⟩:=kG hk;rw[h1] at ho;exact⟨ob,f,ho,hk⟩
 case range ty x=> have h1:=ha x (by simp[Op.operands]);obtain⟨ob,f,ho,hk⟩:=kG hk;rw[h1] at ho;exact⟨ob,f,ho,hk⟩
 all_goals exact nomatch hk
theorem BK {t:TM} {c:Call} {rc:RC} (hrc:kQ E rc) (ha:xj ks e t c.operands.toList) {k:Value->H->R} {r} (hk:(Tp ks c).run rc e h k=some r):
  ∃f args v h',target t c=some (f,args)/\Ev (λN=>jB E (cF E N) f args h=some (v,h'))/\k v h'=some r:=by
 obtain⟨callee,args,tys⟩:=c;cases callee
 case value x=>
  have h0:=ha x (by simp[Call.operands]);have h1:xj ks e t args.toList:=λx hx=>ha x (by simp[Call.operands];exact .inr (Array.mem_toList_iff.1 hx));cases x
  case func f=> have hk:rc f ((jq ks args.toList).run e) h k=some r:=hk;rw[j4 h1] at hk;obtain⟨v,h',hv,hk⟩:=hrc _ _ _ _ _ hk;exact⟨f,_,v,h',by simp[target,ev],hv,hk⟩
  all_goals
   obtain⟨f,a,b,hf,hk⟩:=E9 hk;rw[j4 h1] at hk;rw[h0] at hf;obtain⟨v,h',hv,hk⟩:=hrc _ _ _ _ _ hk;exact⟨f,_,v,h',by simp only[target,hf];rfl,hv,hk⟩
 all_goals exact nomatch hk
theorem nB {dst:Option Tmp} {c:LC ks} {rc:RC} {k:aa (fk dst ks)->H->R} {r} (hk:(rV dst ks c).run rc k e h=some r):
  c.run e h (λv=>k (push dst ks v e) h)=some r:=by cases dst <;> exact hk
theorem nG {dst:Option Tmp} {c:VC ks} {rc:RC} {k:aa (fk dst ks)->H->R} {r} (hk:(xo dst ks c).run rc k e h=some r):
  c.run rc e h (λv h=>k (push dst ks v e) h)=some r:=by cases dst <;> exact hk
theorem iC {dst:Option Tmp} {k:aa (fk dst ks)->H->R} {v:Value} {r} (hk:(QE dst ks).run k e v h=some r):
  k (push dst ks v e) h=some r:=by cases dst <;> exact hk
theorem iZ {dst:Option Tmp} {rc:RC} {k:aa (fk dst ks)->H->R} {r} (hk:(vJ dst ks).run rc k e h=some r):
  k (push dst ks undef e) h=some r:=by cases dst <;> exact hk
theorem mD {t:TM} {o:Oper} {rc:RC} (hrc:kQ E rc) (ha:xj ks e t o.op.operands.toList) {k:Value->H->R} {r}
  (hk:(pj E ks o).run rc e h k=some r):∃v h',Ev (λN=>gp E (cF E N) o t h=some (v,h'))/\k v h'=some r:=by
 unfold pj at hk;split at hk
 ·rename_i hkind;have hc:fx o=none:=by
   obtain⟨dst,op,type,pos,after,guard⟩:=o;cases op <;> first | rfl | skip
   rename_i c;obtain⟨callee,args,tys⟩:=c;cases callee <;> first | rfl | simp[kindOf] at hkind
  obtain⟨v,hv,hk⟩:=qD ha _ _ hk;exact⟨v,h,Ev.of λN=>by simp only[gp,hc,hv],hk⟩
 ·rename_i hkind;have hc:fx o=none/\light E t h o=none/\heavy E t h o=none:=by
   obtain⟨dst,op,type,pos,after,guard⟩:=o;cases op <;> first | exact⟨rfl,rfl,rfl⟩ | skip
   all_goals first | (simp[kindOf] at hkind;done) | skip
   rename_i c;obtain⟨callee,args,tys⟩:=c;cases callee with
   | builtin b=>cases b <;> simp[kindOf] at hkind
   | _=>simp[kindOf] at hkind
  obtain⟨ob,f,ho,hk⟩:=uj ha hk;obtain⟨hb,hk⟩:=ah hk;rw[aE,cV] at hk;exact⟨f h.next,h.push ob,Ev.of λN=>by simp only[gp,hc.1,hc.2.1,hc.2.2,ho,room,hb,cond_true],hk⟩
 ·rename_i hkind;have hc:fx o=none/\light E t h o=none:=by
   obtain⟨dst,op,type,pos,after,guard⟩:=o;cases op <;> first | exact⟨rfl,rfl⟩ | skip
   all_goals first | (simp[kindOf] at hkind;done) | skip
   rename_i c;obtain⟨callee,args,tys⟩:=c;cases callee with
   | builtin b=> refine⟨rfl,?_⟩;cases b <;> first | (simp[kindOf] at hkind;done) | simp[light,bg]
   | _=>simp[kindOf] at hkind
  obtain⟨v,h',hv,hk⟩:=lM ha hk;exact⟨v,h',Ev.of λN=>by simp only[gp,hc.1,hc.2,hv],hk⟩
 ·rename_i h0 h1 h2;have:∃c,o.op=.call c:=by obtain⟨dst,op,type,pos,after,guard⟩:=o;cases op <;> first | exact⟨_,rfl⟩ | exact absurd rfl h0 | exact absurd rfl h1 | exact absurd rfl h2
  obtain⟨c,hop⟩:=this;rw[hop] at ha;rw[hop] at hk;obtain⟨f,args,v,h',ht,hv,hk⟩:=BK hrc ha hk;have hc:fx o=some c:=by
   unfold fx;rw[hop];obtain⟨callee,args,tys⟩:=c;cases callee with
   | value x=>rfl
   | _=>exact nomatch ht
  exact⟨v,h',hv.mono λN hN=>by simp only[gp,hc,ht,hN],hk⟩
theorem Ed {t:TM} {o:Oper} {rc:RC} (hrc:kQ E rc) (ha:xj ks e t o.op.operands.toList) {k:Value->H->R} {r}
  (hk:(EM E ks o).run rc e h k=some r):∃v h',Ev (λN=>gp E (cF E N) o t h=some (v,h'))/\k v h'=some r:=by
 unfold EM at hk;cases hb:qs E o with
 | false=>rw[hb] at hk;exact mD hrc ha hk
 | true=> rw[hb] at hk;obtain⟨v,h',h1,h2,h3,hk⟩:=s7 hb ha hk;exact⟨v,h',Ev.of λN=>by simp only[gp,h1,h2,h3],hk⟩
theorem Ln {t:TM} {o:Oper} {rc:RC} (hrc:kQ E rc) (ha:xj ks e t o.op.operands.toList) {k:aa (fk o.dst ks)->H->R} {r}
  (hk:(EL E ks o).run rc k e h=some r):∃v h',Ev (λN=>gp E (cF E N) o t h=some (v,h'))/\k (push o.dst ks v e) h'=some r:=by
 unfold EL at hk;cases hb:qs E o with
 | true=> rw[hb] at hk;obtain⟨v,h',h1,h2,h3,hk⟩:=s7 hb ha (nG hk);exact⟨v,h',Ev.of λN=>by simp only[gp,h1,h2,h3],hk⟩
 | false=>
  rw[hb] at hk;simp only[cond_false] at hk;unfold Ek at hk;split at hk
  ·rename_i hkind;refine mD hrc ha (k:=λv h=>k (push o.dst ks v e) h) ?_;unfold pj;rw[hkind];exact nB hk
  ·exact mD hrc ha (nG hk)
end F
end
section
namespace F
variable {E : Env} {ks : List Tmp} {ok : Nat} {e : aa ks} {t : TM} {h : H}
theorem jW {ops:Array Oper} {o:Oper} (hg:o.guard=none):bB ops t o=some true:=by simp[bB,hg]
theorem dq (hr:o7 ks ok e t) {ops:Array Oper} {o og:Oper} {j:Nat} {want:Bool} {d:Tmp} (hg:o.guard=some (j,want)) (ho:ops[j]?=some og)
  (hd:og.dst=some d) (hok:tb ok d=true) {f u w:R} {r} (hk:aF ((iR d ks).run e) f w u=some r):
  (bB ops t o=some (false==want)/\f=some r) \/ (bB ops t o=some (true==want)/\w=some r) \/ (bB ops t o=some false/\u=some r):=by
 have hv:(iR d ks).run e=t.get d:=(jd d ks e).trans (hr d hok);rw[hv] at hk;rcases EC hk with ⟨hv,hk⟩ | ⟨hv,hk⟩ | ⟨hv,hk⟩
 ·exact .inl ⟨by simp[bB,hg,ho,hd,hv],hk⟩
 ·exact .inr (.inl ⟨by simp[bB,hg,ho,hd,hv],hk⟩)
 ·exact .inr (.inr ⟨by simp[bB,hg,ho,hd,hv],hk⟩)
theorem tf (hr:o7 ks ok e t) {ops:Array Oper} {o:Oper} {p:PC ks (fk o.dst ks)} {c:VC ks} {rc:RC} {k:aa (fk o.dst ks)->H->R} {r}
  (hk:(wH ks ok ops o p c).run rc k e h=some r):
  (bB ops t o=some true/\(p.run rc k e h=some r \/ c.run rc e h (λv h=>(QE o.dst ks).run k e v h)=some r)) \/ (bB ops t o=some false/\k (push o.dst ks undef e) h=some r):=by
 unfold wH at hk;split at hk
 ·rename_i hg;exact .inl ⟨jW hg,.inl hk⟩
 ·rename_i j want hg;split at hk
  ·rename_i og ho;split at hk
   ·rename_i d hd;cases hok:tb ok d with
    | false=>rw[hok] at hk;exact nomatch hk
    | true=>
     rw[hok] at hk;cases want with
     | true=>
      rcases dq hr hg ho hd hok hk with ⟨h1,hk⟩ | ⟨h1,hk⟩ | ⟨h1,hk⟩
      ·exact .inr ⟨h1,iC hk⟩
      ·exact .inl ⟨h1,.inr hk⟩
      ·exact .inr ⟨h1,iC hk⟩
     | false=>
      rcases dq hr hg ho hd hok hk with ⟨h1,hk⟩ | ⟨h1,hk⟩ | ⟨h1,hk⟩
      ·exact .inl ⟨h1,.inr hk⟩
      ·exact .inr ⟨h1,iC hk⟩
      ·exact .inr ⟨h1,iC hk⟩
   ·exact nomatch hk
  ·exact nomatch hk
theorem vb (hr:o7 ks ok e t) {ops:Array Oper} {o:Oper} {p:SC ks (fk o.dst ks)} {i:Nat} {k:aa (fk o.dst ks)->H->R} {r}
  (hk:(wu ks ok ops o p).run i k e h=some r):
  (bB ops t o=some true/\p.run i k e h=some r) \/ (bB ops t o=some false/\k (push o.dst ks undef e) h=some r):=by
 unfold wu at hk;split at hk
 ·rename_i hg;exact .inl ⟨jW hg,hk⟩
 ·rename_i j want hg;split at hk
  ·rename_i og ho;split at hk
   ·rename_i d hd;cases hok:tb ok d with
    | false=>rw[hok] at hk;exact nomatch hk
    | true=>
     rw[hok] at hk;cases want with
     | true=>
      rcases dq hr hg ho hd hok hk with ⟨h1,hk⟩ | ⟨h1,hk⟩ | ⟨h1,hk⟩
      ·exact .inr ⟨h1,iZ hk⟩
      ·exact .inl ⟨h1,hk⟩
      ·exact .inr ⟨h1,iZ hk⟩
     | false=>
      rcases dq hr hg ho hd hok hk with ⟨h1,hk⟩ | ⟨h1,hk⟩ | ⟨h1,hk⟩
      ·exact .inl ⟨h1,hk⟩
      ·exact .inr ⟨h1,iZ hk⟩
      ·exact .inr ⟨h1,iZ hk⟩
   ·exact nomatch hk
  ·exact nomatch hk
theorem uD (hr:o7 ks ok e t) {ops:Array Oper} {o:Oper} {c:LC ks} {k:Value->R} {r}
  (hk:(wg ks ok ops o c).run e h k=some r):
  (bB ops t o=some true/\c.run e h k=some r) \/ (bB ops t o=some false/\k undef=some r):=by
 unfold wg at hk;split at hk
 ·rename_i hg;exact .inl ⟨jW hg,hk⟩
 ·rename_i j want hg;split at hk
  ·rename_i og ho;split at hk
   ·rename_i d hd;cases hok:tb ok d with
    | false=>rw[hok] at hk;exact nomatch hk
    | true=>
     rw[hok] at hk;cases want with
     | true=>
      rcases dq hr hg ho hd hok hk with ⟨h1,hk⟩ | ⟨h1,hk⟩ | ⟨h1,hk⟩
      ·exact .inr ⟨h1,hk⟩
      ·exact .inl ⟨h1,hk⟩
      ·exact .inr ⟨h1,hk⟩
     | false=>
      rcases dq hr hg ho hd hok hk with ⟨h1,hk⟩ | ⟨h1,hk⟩ | ⟨h1,hk⟩
      ·exact .inl ⟨h1,hk⟩
      ·exact .inr ⟨h1,hk⟩
      ·exact .inr ⟨h1,hk⟩
   ·exact nomatch hk
  ·exact nomatch hk
theorem Es {rc:RC} (hrc:kQ E rc) (hr:o7 ks ok e t) {ops:Array Oper} {o:Oper} {k:aa (fk o.dst ks)->H->R} {r}
  (hk:(opC E ks ok ops o).run rc k e h=some r):
  ∃v h',Ev (λN=>Af E (cF E N) ops o t h=some (putV t o.dst v,h'))/\k (push o.dst ks v e) h'=some r:=by
 unfold opC at hk;cases hb:wZ ok o.op.operands.toList with
 | false=>rw[hb] at hk;exact nomatch hk
 | true=>
  rw[hb] at hk;rcases tf hr hk with ⟨hw,hk⟩ | ⟨hw,hk⟩
  ·rcases hk with hk | hk
   ·obtain⟨v,h',hv,hk⟩:=Ln hrc (sa hr hb) hk;exact⟨v,h',hv.mono λN hN=>by simp only[Af,hw,hN],hk⟩
   ·obtain⟨v,h',hv,hk⟩:=Ed hrc (sa hr hb) hk;exact⟨v,h',hv.mono λN hN=>by simp only[Af,hw,hN],iC hk⟩
  ·exact⟨undef,h,Ev.of λN=>by simp only[Af,hw],hk⟩
theorem kW (hr:o7 ks ok e t) {ops:Array Oper} {o:Oper}:FR (dy E ks ok ops o) e h (Go.Ev.dy E ops o t h):=by
 intro k r hk;unfold dy at hk;cases hb:wZ ok o.op.operands.toList with
 | false=>rw[hb] at hk;exact nomatch hk
 | true=>
  rw[hb] at hk;rcases uD hr hk with ⟨hw,hk⟩ | ⟨hw,hk⟩
  ·obtain⟨v,hv,hk⟩:=qD (sa hr hb) _ _ hk;exact⟨v,by simp only[Go.Ev.dy,hw,hv],hk⟩
  ·exact⟨undef,by simp only[Go.Ev.dy,hw],hk⟩
def uo:List Oper->Nat->Nat
 | [],ok=>ok
 | o :: r,ok=>uo r (tu o.dst ok)
theorem zE (dst:Option Tmp) (ok d:Nat):tb (tu dst ok) d=true ↔ tb ok d=true \/ dst=some d:=by
 cases dst with
 | none=>simp[tu]
 | some a=> show tb (Nat.lor (Nat.shiftLeft 1 a) ok) d=true ↔ _;rw[uy,oN];simp only[Bool.or_eq_true,decide_eq_true_eq,Option.some.injEq];exact Or.comm
theorem Cp (l:List Oper):∀(ok d:Nat),tb (uo l ok) d=true ↔ tb ok d=true \/ ∃o∈l,o.dst=some d:=by
 induction l with
 | nil=>intro ok d;simp[uo]
 | cons o l ih=> intro ok d;show tb (uo l (tu o.dst ok)) d=true ↔ _;rw[ih,zE];simp only[List.mem_cons,exists_eq_or_imp];exact or_assoc
theorem Pk {rc:RC} (hrc:kQ E rc) {ops:Array Oper}:∀(l:List Oper) (ks:List Tmp) (ok:Nat) (e:aa ks) (t:TM) (h:H) (k:aa (oZ l ks)->H->R) (r),
  (∀o∈l,small o.dst)->o7 ks ok e t->(OU E ops l ks ok).run rc k e h=some r ->
  ∃t' h' e',Ev (λN=>dU E (cF E N) ops l t h=some (t',h'))/\o7 (oZ l ks) (uo l ok) e' t'/\(∀d,(∀o∈l,o.dst≠some d)->t'.get d=t.get d)/\k e' h'=some r:=by
 intro l
 induction l with
 | nil=>intro ks ok e t h k r _ hr hk;exact⟨t,h,e,Ev.of λN=>rfl,hr,λ_ _=>rfl,hk⟩
 | cons o l ih=> intro ks ok e t h k r hs hr hk;obtain⟨v,h1,hv,hk⟩:=Es hrc hr (show (opC E ks ok ops o).run rc (λe h=>(OU E ops l (fk o.dst ks) (tu o.dst ok)).run rc k e h) e h=some r from hk);have hso:=hs o (by simp);obtain⟨t',h',e',hl,hr',hf,hk⟩:=ih _ _ _ _ _ _ _ (λo ho=>hs o (by simp[ho])) (jR hr hso v) hk;refine⟨t',h',e',(hv.both hl).mono λN hN=>by simp only[dU,hN.1,hN.2],hr',λd hd=>?_,hk⟩;rw[hf d λo ho=>hd o (by simp[ho]),oH hso];simp[hd o (by simp)]
theorem CE {dst:Option Tmp} {c:AC ks} {i j:Nat} {k:aa (fk dst ks)->H->R} {r} (hk:(alP dst ks j c).run i k e h=some r):
  c.run e (λob f=>k (push dst ks (f (i+j)) e) (hset h (i+j) ob))=some r:=by
 have e:(λob (f:Nat->Value)=>k (push dst ks (f (i+j)) e) (hset h (i+j) ob))=λob f=>letH (hset h (i+j) ob) (λh=>k (push dst ks (f (i+j)) e) h):=by
  funext ob f
  rw[aE]
 rw[e];cases dst <;> exact hk
def DY:RS->Oper
 |.ex o | .hv o | .al o _ | .re o=>o
theorem ao1 {rc:RC} (hrc:kQ E rc) {ops:Array Oper} {base:Nat} {s:PS} {q:RS} (hq:resolve ops [s]=some [q]) (hs:small (DY q).dst) (hr:o7 ks ok e t)
  {k:aa (rsK q ks)->H->R} {r} (hk:(rsC E ops q ks ok).run rc base k e h=some r):
  ∃t' h' e',(∀l,Ev λN=>dX E (cF E N) ops base (s :: l) t h=dX E (cF E N) ops base l t' h')/\o7 (rsK q ks) (rsM q ok) e' t' /\
   (∀d,(DY q).dst≠some d->t'.get d=t.get d)/\k e' h'=some r:=by
 have hfr:∀(dst:Option Tmp) (v:Value),small dst->∀d,dst≠some d->(putV t dst v).get d=t.get d:=λdst v hs d hd=>by rw[oH hs];simp[hd]
 cases s with
 | ex i=>
  simp only[resolve] at hq;cases ho:ops[i]? with
  | none=>rw[ho] at hq;exact nomatch hq
  | some o=> rw[ho] at hq;simp only[Option.some.injEq,List.cons.injEq,and_true] at hq;subst hq;obtain⟨v,hv,hk⟩:=kW hr _ _ (nB (show (rV o.dst ks (dy E ks ok ops o)).run rc k e h=some r from hk));exact⟨putV t o.dst v,h,push o.dst ks v e,λl=>Ev.of λN=>by simp only[dX,ho,hv],jR hr hs v,hfr _ _ hs,hk⟩
 | hv i=>
  simp only[resolve] at hq;cases ho:ops[i]? with
  | none=>rw[ho] at hq;exact nomatch hq
  | some o=> rw[ho] at hq;simp only[Option.some.injEq,List.cons.injEq,and_true] at hq;subst hq;obtain⟨v,h',hv,hk⟩:=Es hrc hr (show (opC E ks ok ops o).run rc k e h=some r from hk);exact⟨putV t o.dst v,h',push o.dst ks v e,λl=>hv.mono λN hN=>by simp only[dX,ho,hN],jR hr hs v,hfr _ _ hs,hk⟩
 | al i j=>
  simp only[resolve] at hq;cases ho:ops[i]? with
  | none=>rw[ho] at hq;exact nomatch hq
  | some o=>
   rw[ho] at hq;simp only[Option.some.injEq,List.cons.injEq,and_true] at hq;subst hq;have hk:(alC E ks ok ops j o).run base k e h=some r:=hk;unfold alC at hk;cases hb:wZ ok o.op.operands.toList with
   | false=>rw[hb] at hk;exact nomatch hk
   | true=>
    rw[hb] at hk;rcases vb hr hk with ⟨hw,hk⟩ | ⟨hw,hk⟩
    ·have hk:(lf E ks o).run e (λob f=>k (push o.dst ks (f (base+j)) e) (hset h (base+j) ob))=some r:=CE hk;obtain⟨ob,f,hob,hk⟩:=uj (sa hr hb) hk;rw[eD] at hk;exact⟨putV t o.dst (f (base+j)),h.set (base+j) ob,_,λl=>Ev.of λN=>by simp only[dX,ho,hw,hob],jR hr hs _,hfr _ _ hs,hk⟩
    ·exact⟨putV t o.dst undef,h,_,λl=>Ev.of λN=>by simp only[dX,ho,hw],jR hr hs _,hfr _ _ hs,hk⟩
 | re i=>
  simp only[resolve] at hq;cases ho:ops[i]? with
  | none=>rw[ho] at hq;exact nomatch hq
  | some o=>
   rw[ho] at hq;simp only[Option.some.injEq,List.cons.injEq,and_true] at hq;subst hq;have hk:(reC E ks ok ops o).run e h (λ_=>k e h)=some r:=hk;unfold reC at hk;cases hd:o.dst with
   | none=> simp only[hd] at hk;obtain⟨v,hv,hk⟩:=kW hr _ _ hk;exact⟨t,h,e,λl=>Ev.of λN=>by simp only[dX,ho,hv,hd],hr,λ_ _=>rfl,hk⟩
   | some d=>
    simp only[hd] at hk;cases hok:tb ok d with
    | false=>rw[hok] at hk;exact nomatch hk
    | true=> rw[hok] at hk;obtain⟨v,hv,hk⟩:=kW hr _ _ hk;obtain⟨hb,hk⟩:=ah hk;rw[(jd d ks e).trans (hr d hok)] at hb;exact⟨t,h,e,λl=>Ev.of λN=>by simp only[dX,ho,hv,hd,hb,cond_true],hr,λ_ _=>rfl,hk⟩
theorem rT {ops:Array Oper} {s:PS} {l:List PS} {r:List RS} (h:resolve ops (s :: l)=some r):∃q r',r=q :: r'/\resolve ops [s]=some [q]/\resolve ops l=some r'/\DY q∈ops.toList:=by
 simp only[resolve] at h ⊢;cases hl:resolve ops l with
 | none=>rw[hl] at h;exact nomatch h
 | some r'=>
  rw[hl] at h;have key:∀(i:Nat) (f:Oper->RS),(∀o,DY (f o)=o)->(match ops[i]? with | some o=>some (f o :: r') | none=>none)=some r ->
    ∃q r'',r=q :: r''/\(match ops[i]? with | some o=>some (f o :: []) | none=>none)=some [q]/\some r'=some r''/\DY q∈ops.toList:=by
   intro i f hf h;cases ho:ops[i]? with
   | none=>rw[ho] at h;exact nomatch h
   | some o=>
    rw[ho] at h;injection h with h
    exact⟨f o,r',h.symm,rfl,rfl,by rw[hf];exact Array.mem_toList_iff.2 (Array.mem_of_getElem? ho)⟩
  cases s with
  | ex i=>exact key i .ex (λ_=>rfl) h
  | hv i=>exact key i .hv (λ_=>rfl) h
  | al i k=>exact key i (.al · k) (λ_=>rfl) h
  | re i=>exact key i .re (λ_=>rfl) h
theorem uE {q:RS} {a b:Nat} (h:∀d,tb a d=true->tb b d=true):∀d,tb (rsM q a) d=true->tb (rsM q b) d=true:=by intro d hd;cases q <;> simp only[rsM,zE] at hd ⊢ <;> first | exact hd.imp (h d) id | exact h d hd
theorem pQ (l:List RS):∀{a b:Nat},(∀d,tb a d=true->tb b d=true)->∀d,tb (qp l a) d=true->tb (qp l b) d=true:=by
 induction l with
 | nil=>intro a b h d hd;exact h d hd
 | cons q l ih=>intro a b h d hd;exact ih (uE h) d hd
theorem FF {rc:RC} (hrc:kQ E rc) {ops:Array Oper} {base:Nat} (hs:∀o∈ops.toList,small o.dst):∀(l:List PS) (q:List RS) (ks:List Tmp) (ok:Nat) (e:aa ks) (t:TM) (h:H) (k:aa (vp q ks)->H->R) (r),
  resolve ops l=some q->o7 ks ok e t->(xT E ops q ks ok).run rc base k e h=some r ->
  ∃t' h' e',Ev (λN=>dX E (cF E N) ops base l t h=some (t',h'))/\o7 (vp q ks) (qp q ok) e' t'/\(∀d,(∀o∈ops.toList,o.dst≠some d)->t'.get d=t.get d)/\k e' h'=some r:=by
 intro l
 induction l with
 | nil=> intro q ks ok e t h k r hq hr hk;simp only[resolve,Option.some.injEq] at hq;subst hq;exact⟨t,h,e,Ev.of λN=>rfl,hr,λ_ _=>rfl,hk⟩
 | cons s l ih=> intro q ks ok e t h k r hq hr hk;obtain⟨q1,q2,rfl,h1,h2,hm⟩:=rT hq;obtain⟨t1,h1',e1,hstep,hr1,hf1,hk⟩:=ao1 hrc h1 (hs _ hm) hr (show (rsC E ops q1 ks ok).run rc base (λe h=>(xT E ops q2 (rsK q1 ks) (rsM q1 ok)).run rc base k e h) e h=some r from hk);obtain⟨t',h',e',hl,hr',hf,hk⟩:=ih _ _ _ _ _ _ _ _ h2 hr1 hk;refine⟨t',h',e',((hstep l).both hl).mono λN hN=>by rw[hN.1,hN.2],hr',λd hd=>?_,hk⟩;rw[hf d hd,hf1 d (hd _ hm)]
end F
end
section
namespace F
variable {E : Env} {X : Nat -> Nat} {fn : FuncId} {rs : List Tmp}
theorem pK (ops:Array Oper) (d:Tmp):d∈iq ops ↔ ∃o∈ops.toList,o.dst=some d:=by
 obtain⟨l⟩:=ops;show d∈iq ⟨l⟩ ↔ ∃o∈l,o.dst=some d
 induction l with
 | nil=>show d∈[] ↔ _;simp
 | cons o l ih=>
  have e:iq ⟨o :: l⟩=Option.rec (motive:=λ_=>List Tmp) (iq ⟨l⟩) (λd=>d :: iq ⟨l⟩) o.dst:=rfl;rw[e];cases ho:o.dst with
  | none=> show d∈iq ⟨l⟩ ↔ _;rw[ih];simp[ho]
  | some a=>
   show d∈a :: iq ⟨l⟩ ↔ _;rw[List.mem_cons,ih];simp only[List.mem_cons,exists_eq_or_imp,ho,Option.some.injEq];constructor
   ·rintro (h | h)
    ·exact .inl h.symm
    ·exact .inr h
   ·rintro (h | h)
    ·exact .inl h.symm
    ·exact .inr h
theorem gK {ks M l:List Tmp} {ok J:Nat} {e:aa ks} {t t':TM} {v:aa (M++ks)} {w:Tmp->Value}
  (hr:o7 ks ok e t) (hf:∀d,d∉l->t'.get d=t.get d) (hM:∀d,d∈M ↔ d∈l/\tb J d=true) (hJ:∀d,tb J d=true->d∈l)
  (hv:∀d,lk (M++ks) v d=if d∈M then w d else lk ks e d) (hw:∀d,tb J d=true->w d=t'.get d):
  o7 (M++ks) (Nat.lor (rN ok (bS l)) J) v t':=by
 intro d hd;rw[hv];by_cases hm:d∈M
 ·rw[if_pos hm];exact hw d ((hM d).1 hm).2
 ·rw[if_neg hm];rw[uy,Jg] at hd;have hj:tb J d=false:=by
   cases hq:tb J d with
   | false=>rfl
   | true=>exact absurd ((hM d).2 ⟨hJ d hq,hq⟩) hm
  rw[hj] at hd;simp only[Bool.or_false,Bool.and_eq_true,Bool.not_eq_true'] at hd;have hn:d∉l:=λhq=>by have:=(gy l d).2 hq;rw[this] at hd;exact nomatch hd.2
  rw[hf d hn];exact hr d hd.1
def Fr (c:Code) (t t':TM):Prop:=∀d,d∉bq c->t'.get d=t.get d
def Pos:(m:List Tmp)->aa m->TM->Prop
 | [],_,_=>True
 | d :: m,e,t=>e.1=t.get d/\Pos m e.2 t
theorem uG {k1:List Tmp} {e1:aa k1} {t:TM} (m:List Tmp) (h:∀d∈m,lk k1 e1 d=t.get d):Pos m ((gR k1 m).run e1) t:=by
 induction m with
 | nil=>trivial
 | cons d m ih=>exact⟨(jd d k1 e1).trans (h d (by simp)),ih λd hd=>h d (by simp[hd])⟩
inductive Res (E:Env) (X:Nat->Nat) (fn:FuncId) (rs:List Tmp) (c:Code) (cx:CX) (lv ok:Nat) (ks:List Tmp) (t:TM) (h:H)
  (kn:aa (mN X c lv ok ks)->H->R) (kx:KX cx) (kr:aa rs->H->R) (r:Value × H):Prop where
 | norm (t':TM) (h':H) (e':aa (mN X c lv ok ks)) (hx:Ev λN=>cF E N fn c t h=.norm t' h') (hr:o7 (mN X c lv ok ks) (oK X c lv ok) e' t') (hf:Fr c t t') (hk:kn e' h'=some r)
 | exit (id:Nat) (t':TM) (h':H) (l:aa (mx cx id)) (hx:Ev λN=>cF E N fn c t h=.exit id t' h') (hl:∀d∈mx cx id,lk (mx cx id) l d=t'.get d) (hf:Fr c t t') (hk:kx id l h'=some r)
 | ret (t':TM) (h':H) (l:aa rs) (hx:Ev λN=>cF E N fn c t h=.ret t' h') (hl:Pos rs l t') (hk:kr l h'=some r)
theorem DT {cx:CX} {id i:Nat} {M:List Tmp} {k:aa M->H->R} {kx:KX cx} {l:aa (mx ((id,M) :: cx) i)} {h:H} {r} (hk:inK k kx i l h=some r):
  (beq i id=true/\∃l':aa M,(∀d,lk M l' d=lk (mx ((id,M) :: cx) i) l d)/\mx ((id,M) :: cx) i=M/\k l' h=some r) \/
  (beq i id=false/\∃l':aa (mx cx i),(∀d,lk (mx cx i) l' d=lk (mx ((id,M) :: cx) i) l d)/\mx ((id,M) :: cx) i=mx cx i/\kx i l' h=some r):=by
 revert l
 show ∀l:aa (cond (beq i id) M (mx cx i)),Bool.rec (motive:=λb=>aa (cond b M (mx cx i))->H->R) (kx i) k (beq i id) l h=some r ->
  (beq i id=true/\∃l':aa M,(∀d,lk M l' d=lk (cond (beq i id) M (mx cx i)) l d)/\cond (beq i id) M (mx cx i)=M/\k l' h=some r) \/
  (beq i id=false/\∃l':aa (mx cx i),(∀d,lk (mx cx i) l' d=lk (cond (beq i id) M (mx cx i)) l d)/\cond (beq i id) M (mx cx i)=mx cx i/\kx i l' h=some r)
 generalize beq i id=b;cases b with
 | false=>intro l hk;exact .inr ⟨rfl,l,λ_=>rfl,rfl,hk⟩
 | true=>intro l hk;exact .inl ⟨rfl,l,λ_=>rfl,rfl,hk⟩
theorem kb {a b:Code} {l:List Tmp} (hl:∀d,d∈l ↔ d∈bq a \/ d∈bq b) {t t':TM} (h:Fr a t t'):∀d,d∉l->t'.get d=t.get d:=
 λd hd=>h d λhq=>hd ((hl d).2 (.inl hq))
theorem jP {a b:Code} {l:List Tmp} (hl:∀d,d∈l ↔ d∈bq a \/ d∈bq b) {t t':TM} (h:Fr b t t'):∀d,d∉l->t'.get d=t.get d:=
 λd hd=>h d λhq=>hd ((hl d).2 (.inr hq))
theorem jV {l:List Tmp} {lv a b d:Nat} (h:tb (jM (bS l) lv a b) d=true):d∈l/\tb a d=true/\tb b d=true:=by unfold jM at h;rw[jn,jn,jn] at h;simp only[Bool.and_eq_true] at h;exact⟨(gy l d).1 h.1.1,h.2.1,h.2.2⟩
theorem wU {ks:List Tmp} (step:(aa ks->H->R)->aa ks->H->R) (n:Nat):loopF step (n+1)=step (loopF step n):=rfl
theorem EV {rc:RC} (hrc:kQ E rc):∀(c:Code) (cx:CX) (lv ok:Nat) (ks:List Tmp) (e:aa ks) (t:TM) (h:H)
  (kn:aa (mN X c lv ok ks)->H->R) (kx:KX cx) (kr:aa rs->H->R) (r:Value × H),
  (∀d∈bq c,d<=1000000000)->o7 ks ok e t->(fS E X fn rs c cx lv ok ks).run rc kn kx kr e h=some r ->
  Res E X fn rs c cx lv ok ks t h kn kx kr r:=by
 intro c
 induction c with
 | skip=> intro cx lv ok ks e t h kn kx kr r hs hr hk;exact .norm t h e (Ev.succ (Ev.of λN=>rfl)) hr (λ_ _=>rfl) hk
 | label i=> intro cx lv ok ks e t h kn kx kr r hs hr hk;exact .norm t h e (Ev.succ (Ev.of λN=>rfl)) hr (λ_ _=>rfl) hk
 | scope b ih=>
  intro cx lv ok ks e t h kn kx kr r hs hr hk;have hmb:∀d∈bq b,d<=1000000000:=λd hd=>hs d (by simp only[bq];exact hd);simp only[fS] at hk;cases ih cx lv ok ks e t h kn kx kr r hmb hr hk with
  | norm t1 h1 e1 hx1 hr1 hf1 hk1=>exact .norm t1 h1 e1 (Ev.succ (hx1.mono λN hN=>by simp only[cF,cU,hN])) hr1 (λd hd=>hf1 d hd) hk1
  | exit id t1 h1 l hx1 hl1 hf1 hk1=>exact .exit id t1 h1 l (Ev.succ (hx1.mono λN hN=>by simp only[cF,cU,hN])) hl1 (λd hd=>hf1 d hd) hk1
  | ret t1 h1 l hx1 hl1 hk1=>exact .ret t1 h1 l (Ev.succ (hx1.mono λN hN=>by simp only[cF,cU,hN])) hl1 hk1
 | seq a b iha ihb=>
  intro cx lv ok ks e t h kn kx kr r hs hr hk;have hma:∀d∈bq a,d<=1000000000:=λd hd=>hs d (by simp only[bq];exact List.mem_append.2 (.inl hd));have hmb:∀d∈bq b,d<=1000000000:=λd hd=>hs d (by simp only[bq];exact List.mem_append.2 (.inr hd));have hl:∀d,d∈bq (.seq a b) ↔ d∈bq a \/ d∈bq b:=λd=>by simp only[bq];exact List.mem_append
  cases iha cx (Nat.lor (ml b) lv) ok ks e t h _ kx kr r hma hr hk with
  | norm t1 h1 e1 hx1 hr1 hf1 hk1=>
   cases ihb cx lv _ _ e1 t1 h1 kn kx kr r hmb hr1 hk1 with
   | norm t2 h2 e2 hx2 hr2 hf2 hk2=>
    exact .norm t2 h2 e2 (Ev.succ ((hx1.both hx2).mono λN hN=>by simp only[cF,cU,hN.1,hN.2])) hr2
     (λd hd=>(jP hl hf2 d hd).trans (kb hl hf1 d hd)) hk2
   | exit id t2 h2 l hx2 hl2 hf2 hk2=>
    exact .exit id t2 h2 l (Ev.succ ((hx1.both hx2).mono λN hN=>by simp only[cF,cU,hN.1,hN.2])) hl2
     (λd hd=>(jP hl hf2 d hd).trans (kb hl hf1 d hd)) hk2
   | ret t2 h2 l hx2 hl2 hk2=> exact .ret t2 h2 l (Ev.succ ((hx1.both hx2).mono λN hN=>by simp only[cF,cU,hN.1,hN.2])) hl2 hk2
  | exit id t1 h1 l hx1 hl1 hf1 hk1=> exact .exit id t1 h1 l (Ev.succ (hx1.mono λN hN=>by simp only[cF,cU,hN])) hl1 (kb hl hf1) hk1
  | ret t1 h1 l hx1 hl1 hk1=> exact .ret t1 h1 l (Ev.succ (hx1.mono λN hN=>by simp only[cF,cU,hN])) hl1 hk1
 | cond x a b iha ihb=>
  intro cx lv ok ks e t h kn kx kr r hs hr hk;have hma:∀d∈bq a,d<=1000000000:=λd hd=>hs d (by simp only[bq];exact List.mem_append.2 (.inl hd));have hmb:∀d∈bq b,d<=1000000000:=λd hd=>hs d (by simp only[bq];exact List.mem_append.2 (.inr hd));have hl:∀d,d∈bq a++bq b ↔ d∈bq a \/ d∈bq b:=λd=>List.mem_append;simp only[fS] at hk;cases hx:okO ok x with
  | false=>rw[hx] at hk;exact nomatch hk
  | true=>
   rw[hx] at hk;simp only[joinR,cond_true] at hk;rw[Cv hr hx] at hk;rcases pN hk with ⟨hv,hk⟩ | ⟨hv,hk⟩
   ·cases ihb cx lv ok ks e t h _ kx kr r hmb hr hk with
    | norm t1 h1 e1 hx1 hr1 hf1 hk1=>
     exact .norm t1 h1 _ (Ev.succ (hx1.mono λN hN=>by simp only[cF,cU,hv,hN]))
      (gK hr (jP hl hf1) (λd=>eK _ _ d) (λd hd=>(jV hd).1) (lL _ _ e) (λd hd=>(lN _ e1 d ((eK _ _ d).2 ⟨(jV hd).1,hd⟩)).trans (hr1 d (jV hd).2.2))) (jP hl hf1) hk1
    | exit id t1 h1 l hx1 hl1 hf1 hk1=> exact .exit id t1 h1 l (Ev.succ (hx1.mono λN hN=>by simp only[cF,cU,hv,hN])) hl1 (jP hl hf1) hk1
    | ret t1 h1 l hx1 hl1 hk1=> exact .ret t1 h1 l (Ev.succ (hx1.mono λN hN=>by simp only[cF,cU,hv,hN])) hl1 hk1
   ·cases iha cx lv ok ks e t h _ kx kr r hma hr hk with
    | norm t1 h1 e1 hx1 hr1 hf1 hk1=>
     exact .norm t1 h1 _ (Ev.succ (hx1.mono λN hN=>by simp only[cF,cU,hv,hN]))
      (gK hr (kb hl hf1) (λd=>eK _ _ d) (λd hd=>(jV hd).1) (lL _ _ e) (λd hd=>(lN _ e1 d ((eK _ _ d).2 ⟨(jV hd).1,hd⟩)).trans (hr1 d (jV hd).2.1))) (kb hl hf1) hk1
    | exit id t1 h1 l hx1 hl1 hf1 hk1=> exact .exit id t1 h1 l (Ev.succ (hx1.mono λN hN=>by simp only[cF,cU,hv,hN])) hl1 (kb hl hf1) hk1
    | ret t1 h1 l hx1 hl1 hk1=> exact .ret t1 h1 l (Ev.succ (hx1.mono λN hN=>by simp only[cF,cU,hv,hN])) hl1 hk1
 | block id b ih=>
  intro cx lv ok ks e t h kn kx kr r hs hr hk;have hmb:∀d∈bq b,d<=1000000000:=λd hd=>hs d (by simp only[bq];exact hd);simp only[fS,joinR] at hk;cases ih _ lv ok ks e t h _ _ kr r hmb hr hk with
  | norm t1 h1 e1 hx1 hr1 hf1 hk1=>
   exact .norm t1 h1 _ (Ev.succ (hx1.mono λN hN=>by simp only[cF,cU,hN]))
    (gK hr hf1 (λd=>eK _ _ d) (λd hd=>(jV hd).1) (lL _ _ e) (λd hd=>(lN _ e1 d ((eK _ _ d).2 ⟨(jV hd).1,hd⟩)).trans (hr1 d (jV hd).2.1))) hf1 hk1
  | exit i t1 h1 l hx1 hl1 hf1 hk1=>
   rcases DT hk1 with ⟨hb,l',hll,hm,hk1⟩ | ⟨hb,l',hll,hm,hk1⟩
   ·exact .norm t1 h1 _ (Ev.succ (hx1.mono λN hN=>by simp only[cF,cU,hN,hb,cond_true]))
     (gK (w:=lk _ l') hr hf1 (λd=>eK _ _ d) (λd hd=>(jV hd).1) (lL _ l' e)
      (λd hd=>(hll d).trans (hl1 d (by rw[hm];exact (eK _ _ d).2 ⟨(jV hd).1,hd⟩)))) hf1 hk1
   ·exact .exit i t1 h1 l' (Ev.succ (hx1.mono λN hN=>by simp only[cF,cU,hN,hb,cond_false])) (λd hd=>(hll d).trans (hl1 d (by rw[hm];exact hd))) hf1 hk1
  | ret t1 h1 l hx1 hl1 hk1=> exact .ret t1 h1 l (Ev.succ (hx1.mono λN hN=>by simp only[cF,cU,hN])) hl1 hk1
 | loop b ih=>
  intro cx lv ok ks e t h kn kx kr r hs hr hk;have hmb:∀d∈bq b,d<=1000000000:=λd hd=>hs d (by simp only[bq];exact hd);simp only[fS] at hk
  revert hk
  generalize hJ:Nat.land (Nat.land (bS (bq b)) (Nat.lor (ml b) lv)) ok=J;generalize hL:Nat.lor (rN ok (bS (bq b))) J=wZ;have hJm:∀d,tb J d=true->d∈bq b/\tb ok d=true:=λd hd=>by rw[<-hJ,jn,jn] at hd;simp only[Bool.and_eq_true] at hd;exact⟨(gy _ d).1 hd.1.1,hd.2⟩
  cases hsub:pr J (oK X b (Nat.lor (ml b) lv) wZ) with
  | false=>intro hk;exact nomatch hk
  | true=>
   intro hk;have hjoin:∀{k1:List Tmp} {e1:aa k1} {t1:TM},Fr b t t1->(∀d,tb J d=true->lk k1 e1 d=t1.get d) ->
     o7 (eF (bq b) J++ks) wZ ((kz ks (eF (bq b) J)).run ((gR k1 (eF (bq b) J)).run e1) e) t1:=by
    intro k1 e1 t1 hft he;have:=gK hr hft (λd=>eK (bq b) J d) (λd hd=>(hJm d hd).1) (lL _ ((gR k1 (eF (bq b) J)).run e1) e)
     (λd hd=>(lN _ e1 d ((eK _ _ d).2 ⟨(hJm d hd).1,hd⟩)).trans (he d hd))
    rw[hL] at this;exact this
   have key:∀(n:Nat) (l:aa (eF (bq b) J)) (t1:TM) (h1:H),o7 (eF (bq b) J++ks) wZ ((kz ks (eF (bq b) J)).run l e) t1->Fr b t t1 ->
     loopF (ks:=eF (bq b) J) (λih l h=>(fS E X fn rs b cx (Nat.lor (ml b) lv) wZ (eF (bq b) J++ks)).run rc
      (λe1 h=>ih ((gR _ (eF (bq b) J)).run e1) h) kx kr ((kz ks (eF (bq b) J)).run l e) h) n l h1=some r ->
     Res E X fn rs (.loop b) cx lv ok ks t1 h1 kn kx kr r/\True:=by
    intro n
    induction n with
    | zero=>intro l t1 h1 _ _ hk;exact nomatch hk
    | succ n ihn=>
     intro l t1 h1 hr1 hft hk;rw[wU] at hk;cases ih cx (Nat.lor (ml b) lv) wZ _ _ t1 h1 _ kx kr r hmb hr1 hk with
     | norm t2 h2 e2 hx2 hr2 hf2 hk2=>
      have hft2:Fr b t t2:=λd hd=>(hf2 d hd).trans (hft d hd);have hr3:=hjoin hft2 (λd hd=>hr2 d (pI hsub hd));obtain⟨res,_⟩:=ihn _ t2 h2 hr3 hft2 hk2;cases res with
      | norm t3 h3 e3 hx3 hr3 hf3 hk3=> refine⟨.norm t3 h3 e3 (Ev.succ ((hx2.both hx3).mono λN hN=>by simp only[cF,cU,hN.1,hN.2])) hr3 (λd hd=>(hf3 d hd).trans (hf2 d hd)) hk3,trivial⟩
      | exit i t3 h3 l hx3 hl3 hf3 hk3=> refine⟨.exit i t3 h3 l (Ev.succ ((hx2.both hx3).mono λN hN=>by simp only[cF,cU,hN.1,hN.2])) hl3 (λd hd=>(hf3 d hd).trans (hf2 d hd)) hk3,trivial⟩
      | ret t3 h3 l hx3 hl3 hk3=> refine⟨.ret t3 h3 l (Ev.succ ((hx2.both hx3).mono λN hN=>by simp only[cF,cU,hN.1,hN.2])) hl3 hk3,trivial⟩
     | exit i t2 h2 l hx2 hl2 hf2 hk2=> exact⟨.exit i t2 h2 l (Ev.succ (hx2.mono λN hN=>by simp only[cF,cU,hN])) hl2 hf2 hk2,trivial⟩
     | ret t2 h2 l hx2 hl2 hk2=> exact⟨.ret t2 h2 l (Ev.succ (hx2.mono λN hN=>by simp only[cF,cU,hN])) hl2 hk2,trivial⟩
   have hr0:=hjoin (k1:=ks) (e1:=e) (t1:=t) (λ_ _=>rfl) (λd hd=>hr d (hJm d hd).2);exact (key 1000000 _ t h hr0 (λ_ _=>rfl) hk).1
 | exit id=>
  intro cx lv ok ks e t h kn kx kr r hs hr hk;simp only[fS] at hk;cases hb:pr (bS (mx cx id)) ok with
  | false=>rw[hb] at hk;exact nomatch hk
  | true=> rw[hb] at hk;exact .exit id t h _ (Ev.succ (Ev.of λN=>rfl)) (λd hd=>(lN _ e d hd).trans (hr d (pI hb ((gy _ d).2 hd)))) (λ_ _=>rfl) hk
 | ret=>
  intro cx lv ok ks e t h kn kx kr r hs hr hk;simp only[fS] at hk;cases hb:pr (bS rs) ok with
  | false=>rw[hb] at hk;exact nomatch hk
  | true=> rw[hb] at hk;exact .ret t h _ (Ev.succ (Ev.of λN=>rfl)) (uG _ λd hd=>hr d (pI hb ((gy _ d).2 hd))) hk
 | region id ops draw=>
  intro cx lv ok ks e t h kn kx kr r hs hr hk;have hsm:∀o∈ops.toList,small o.dst:=λo ho d hd=>hs d (by simp only[bq];exact (pK ops d).2 ⟨o,ho,hd⟩);have hfr:∀{t':TM},(∀d,(∀o∈ops.toList,o.dst≠some d)->t'.get d=t.get d)->∀d,d∉iq ops->t'.get d=t.get d:=
   λhf d hd=>hf d λo ho hq=>hd ((pK ops d).2 ⟨o,ho,hq⟩)
  have hJm:∀d,tb (Nat.land (bS (iq ops)) lv) d=true->d∈iq ops:=λd hd=>by rw[jn] at hd;simp only[Bool.and_eq_true] at hd;exact (gy _ d).1 hd.1
  have hMm:∀d,d∈eF (iq ops) lv ↔ d∈iq ops/\tb (Nat.land (bS (iq ops)) lv) d=true:=λd=>by rw[eK,jn];simp only[Bool.and_eq_true];exact⟨λhq=>⟨hq.1,(gy _ d).2 hq.1,hq.2⟩,λhq=>⟨hq.1,hq.2.2⟩⟩
  cases draw with
  | false=> obtain⟨t',h',e',hx,hr',hf,hk⟩:=Pk hrc ops.toList ks ok e t h _ r hsm hr hk;refine .norm t' h' _ (Ev.succ (hx.mono λN hN=>by simp only[cF,cU,hN])) ?_ (hfr hf) hk;exact gK hr (hfr hf) hMm hJm (zP _ e' e) (λd hd=>hr' d ((Cp _ _ _).2 (.inr ((pK ops d).1 (hJm d hd)))))
  | true=>
   simp only[fS] at hk;split at hk
   ·rename_i p hp;split at hk
    ·rename_i q hq;cases hb:(ble p.keep 1000&&pr (bS (eF (iq ops) lv)) (qp q 0)) with
     | false=>rw[hb] at hk;exact nomatch hk
     | true=>
      rw[hb] at hk;simp only[Bool.and_eq_true] at hb;obtain⟨hroom,hk⟩:=ah hk;rw[aE] at hk;obtain⟨t',h',e',hx,hr',hf,hk⟩:=FF hrc hsm _ _ _ _ _ _ _ _ _ hq hr hk;have hroom:(room h&&ble p.keep 1000)=true:=by rw[Bool.and_eq_true];exact⟨hroom,hb.1⟩
      refine .norm t' h' _ (Ev.succ (hx.mono λN hN=>?_)) ?_ (hfr hf) hk
      ·simp only[cF,cU,hp,hroom,cond_true];rw[show dX E (cF E N) ops h.next p.steps t { h with next:=h.next+p.keep }=_ from hN]
      ·refine gK hr (hfr hf) hMm hJm (zP _ e' e) (λd hd=>hr' d ?_);have h1:tb (qp q 0) d=true:=pI hb.2 ((gy _ d).2 ((hMm d).2 ⟨hJm d hd,hd⟩));exact pQ q (λd hd=>by rw[rM] at hd;exact nomatch hd) d h1
    ·exact nomatch hk
   ·exact nomatch hk
 | _=>intro cx lv ok ks e t h kn kx kr r hs hr hk;exact nomatch hk
end F
end
section
namespace F
variable {E : Env}
theorem AI {l:List Value} {k:Value->R} {r} (hk:ap3 l k=some r):∃v,fN l=some v/\k v=some r:=by
 cases l with
 | nil=>exact⟨_,rfl,hk⟩
 | cons v l=>cases l with
  | nil=>exact⟨v,rfl,hk⟩
  | cons w l=> obtain⟨hb,hk⟩:=ah hk;exact⟨_,by simp only[fN,hb,cond_true],hk⟩
theorem A4 {h:H} {t:TM}:∀(l:List ResultVar) (e:aa (jz l)) (k:List Value->R) (r),Pos (jz l) e t->(Rt E l).run e h k=some r ->
  ∃vs,eX E h t l=some vs/\k vs=some r:=by
 intro l
 induction l with
 | nil=>intro e k r _ hk;exact⟨[],rfl,hk⟩
 | cons x l ih=>
  intro e k r hp hk;cases x with
  | tmp i=> obtain⟨vs,hv,hk⟩:=ih e.2 _ r hp.2 hk;refine⟨_,?_,hk⟩;have h1:e.1=t.get i:=hp.1;simp only[eX,qN,hv,h1]
  | cell i ty=> have hk:onPtr e.1 _=some r:=hk;obtain⟨ad,ha,hk⟩:=cj hk;obtain⟨v,hv,hk⟩:=cE hk;obtain⟨vs,hvs,hk⟩:=ih e.2 _ r hp.2 hk;refine⟨_,?_,hk⟩;have h1:e.1=t.get i:=hp.1;rw[h1] at ha;simp only[eX,qN,ha,hv,hvs]
theorem qI {h:H} {t:TM} {l:List ResultVar} {e:aa (jz l)} {k:Value->H->R} {r} (hp:Pos (jz l) e t) (hk:aia E l e h k=some r):
  ∃vs v,eX E h t l=some vs/\fN vs=some v/\k v h=some r:=by
 obtain⟨vs,hv,hk⟩:=A4 l e _ r hp hk;obtain⟨v,ht,hk⟩:=AI hk;exact⟨vs,v,hv,ht,hk⟩
theorem AR (ex:List Tmp) (d:Tmp):lk ex (oU ex) d=undef:=by
 induction ex with
 | nil=>rfl
 | cons a ex ih=>
  show (bif beq a d then undef else lk ex (oU ex) d)=undef;cases beq a d
  ·exact ih
  ·rfl
theorem Bj (ex:List Tmp):∀(n i:Nat) (args:List Value) (k:aa (x8 ex n i)->R) (r),(Z9 ex n i).run args k=some r ->
  ∃e,k e=some r/\∀d,i<=d->lk (x8 ex n i) e d=(args[d-i]?).getD undef:=by
 intro n
 induction n with
 | zero=>
  intro i args k r hk;cases args with
  | nil=>exact⟨_,hk,λd _=>by rw[show lk (x8 ex 0 i) (oU ex) d=undef from AR ex d];simp⟩
  | cons v l=>exact nomatch hk
 | succ n ih=>
  intro i args k r hk;cases args with
  | nil=>exact nomatch hk
  | cons v l=>
   obtain⟨e,hk,he⟩:=ih (i+1) l _ r hk;refine⟨(v,e),hk,λd hd=>?_⟩;show (bif beq i d then v else lk (x8 ex n (i+1)) e d)=_;by_cases h:i=d
   ·subst h;have:beq i i=true:=Nat.beq_refl i;simp[this]
   ·have hb:beq i d=false:=by cases hq:beq i d with
     | false=>rfl
     | true=>exact absurd (Nat.eq_of_beq_eq_true hq) h
    rw[hb,cond_false,he d (by omega)];rw[show d-i=(d-(i+1))+1 by omega,List.getElem?_cons_succ]
theorem yB {K:Hint} {rc:RC} (ih:kQ E rc) (f:FuncId) (args:List Value) (h:H) (k:Value->H->R) (r) (hk:(cY E K f).run rc args h k=some r):
  ∃v h',(Ev λN=>jB E (cF E N) f args h=some (v,h'))/\k v h'=some r:=by
 unfold cY at hk;split at hk
 ·exact nomatch hk
 ·rename_i fn hfn;split at hk
  ·rename_i k0 hk0;obtain⟨v,h',hv,hk⟩:=iU hk;exact⟨v,h',Ev.of λN=>by simp only[jB,hfn,hk0,hv],hk⟩
  ·rename_i hext;split at hk
   ·exact nomatch hk
   ·rename_i c hc;unfold DJ at hk
    revert hk
    generalize fn.params.size+fn.nfree=np;generalize K.ex f=ex;generalize K.X f=X;intro hk;cases hb:(pr (bS (jz fn.results.toList)) (oK X c (bS (jz fn.results.toList)) (bS (x8 ex np 0)))&&(bq c).all (λd=>ble d 1000000000)&&ex.all (λd=>ble np d)&&ble np 1000) with
    | false=>rw[hb] at hk;exact nomatch hk
    | true=>
     rw[hb] at hk;simp only[Bool.and_eq_true] at hb;obtain⟨e,hk,he⟩:=Bj ex np 0 args _ r hk;have hr:o7 (x8 ex np 0) (bS (x8 ex np 0)) e (T.ofList undef args):=λd _=>by rw[he d (Nat.zero_le d),T.get_ofList];simp
     have hs:∀d∈bq c,d<=1000000000:=λd hd=>Nat.le_of_ble_eq_true (List.all_eq_true.1 hb.1.1.2 d hd);cases EV ih c [] (bS (jz fn.results.toList)) _ _ e _ h _ _ _ r hs hr hk with
     | norm t' h' e' hx hr' hf hk=> obtain⟨vs,v,h1,h2,hk⟩:=qI (uG _ λd hd=>hr' d (pI hb.1.1.1 ((gy _ d).2 hd))) hk;exact⟨v,h',hx.mono λN hN=>by simp only[jB,hfn,hext,hc,hN,h1,h2],hk⟩
     | exit i t' h' l hx hl hf hk=>exact nomatch hk
     | ret t' h' l hx hl hk=> obtain⟨vs,v,h1,h2,hk⟩:=qI hl hk;exact⟨v,h',hx.mono λN hN=>by simp only[jB,hfn,hext,hc,hN,h1,h2],hk⟩
theorem FG (K:Hint) (n:Nat):kQ E (ax E K n):=by
 induction n with
 | zero=>intro f args h k r hk;exact nomatch hk
 | succ n ih=>intro f args h k r hk;exact yB ih f args h k r hk
theorem cX {K:Hint} {n:Nat} {f:FuncId} {args:List Value} {h:H} {k:Value->H->R} {r} (hk:ax E K n f args h k=some r):
  ∃N v h',jB E (cF E N) f args h=some (v,h')/\k v h'=some r:=by
 obtain⟨v,h',⟨N,hN⟩,hk⟩:=FG K n f args h k r hk;exact⟨N,v,h',hN N (Nat.le_refl N),hk⟩
end F
end
def Tj {α:Type} (x:α) (d:Nat):(Nat->α)->T α:=
 Nat.rec (motive:=λ_=>(Nat->α)->T α) (λ_=>.c x) (λ_ ih g=>.n (ih (λj=>g (Nat.succ (Nat.mul 2 j)))) (g 0) (ih (λj=>g (Nat.add (Nat.mul 2 j) 2)))) d
theorem rC {α:Type} (x:α) (d:Nat):∀(g:Nat->α) (i:Nat),(Tj x d g).get i=g i \/ (Tj x d g).get i=x:=by
 induction d with
 | zero=>intro g i;exact .inr rfl
 | succ d ih=>
  intro g i;have e:Tj x (d+1) g=.n (Tj x d (λj=>g (Nat.succ (Nat.mul 2 j)))) (g 0) (Tj x d (λj=>g (Nat.add (Nat.mul 2 j) 2))):=rfl;rw[e,T.get_n];cases i with
  | zero=>exact .inl rfl
  | succ j=>
   have h2:j%2=0 \/ j%2=1:=by omega
   rcases h2 with h | h
   ·simp only[h,if_true];rcases ih (λj=>g (Nat.succ (Nat.mul 2 j))) (j / 2) with q | q
    ·left;rw[q];show g (Nat.succ (2*(j / 2)))=g (j+1);congr 1;omega
    ·exact .inr q
   ·simp only[h,Nat.one_ne_zero,if_false];rcases ih (λj=>g (Nat.add (Nat.mul 2 j) 2)) (j / 2) with q | q
    ·left;rw[q];show g (2*(j / 2)+2)=g (j+1);congr 1;omega
    ·exact .inr q
section
namespace F
variable {E : Env}
theorem aK (k:Value->H->R) (b:(Value->H->R)->R):ab k b=b k:=rfl
theorem bd (k:Value->R) (b:(Value->R)->R):joinL k b=b k:=rfl
theorem ag {ks:List Tmp} (k:aa ks->H->R) (b:(aa ks->H->R)->R):joinR k b=b k:=rfl
theorem az (f t:R):onB (.bool true) f t=t:=rfl
theorem ar (f t:R):onB (.bool false) f t=f:=rfl
theorem bT (f t u:R):aF (.bool true) f t u=t:=rfl
theorem cS (f t u:R):aF (.bool false) f t u=f:=rfl
theorem cZ (f t u:R):aF undef f t u=u:=rfl
theorem au (ad:Addr) (k:Addr->R):onPtr (.pointer (some ad)) k=k ad:=rfl
theorem bP (ad:Addr) (n c:Nat) (s:R) (k:Addr->Nat->Nat->R):onSl (.slice (some ad) n c) s k=k ad n c:=rfl
theorem oT (n c:Nat) (s:R) (k:Addr->Nat->Nat->R):onSl (.slice none n c) s k=s:=rfl
theorem bK (kd:IntKind) (n:Nat) (s:R) (k:Nat->R):onNat (.int kd (.ofNat n)) s k=k n:=rfl
theorem bA (l:List Value) (k:List Value->R):onTup (.tuple ⟨l⟩) k=k l:=rfl
theorem ahm (f:FuncId) (a b:Array Value) (k:FuncId->Array Value->Array Value->R):BB (.func (.func f) a b) k=k f a b:=rfl
theorem bW (l:List Value) (k:List Value->R):onCells (.agg ⟨l⟩) k=k l:=rfl
theorem nI (kd:IntKind) (n:Int) (k:List Value->R):onCells (.int kd n) k=k [.int kd n]:=rfl
theorem nz (a:Option Addr) (k:List Value->R):onCells (.pointer a) k=k [.pointer a]:=rfl
theorem kZ (a:Option Addr) (n c:Nat) (k:List Value->R):onCells (.slice a n c) k=k [.slice a n c]:=rfl
theorem bG (v:Value) (l:List Value) (k:Value->R):nthF 0 (v :: l) k=k v:=rfl
theorem gO (v:Value) (l:List Value) (k:Value->R):nthF 1 (v :: l) k=nthF 0 l k:=rfl
theorem dP (k:R):ifB true k=k:=rfl
theorem gb {b:Bool} (h:b=true) (k:R):ifB b k=k:=by rw[h];rfl
theorem am {a b:Nat} (h:a<=b) (k:R):ifB (ble a b) k=k:=gb (Nat.ble_eq_true_of_le h) k
theorem aA (v:Value) (k:Value->R):bindO (some v) k=k v:=rfl
theorem aX (ad:Addr) (k:Value->R):bindO (aW (.pointer (some ad))) k=k (.pointer (some ad)):=rfl
theorem jJ (v:Value) (h:H) (k:Value->H->R):cO (some (v,h)) k=k v h:=rfl
theorem bV (e:TypeId) (n:Nat) (op ro:Bool) (fz:Nat) (c:T Value) (k:TypeId->Nat->Bool->Bool->Nat->T Value->R):onRow (.row e n op ro fz c) k=k e n op ro fz c:=rfl
theorem bM (b o:Nat) (n:Nat) (k:Value->R):addOffF ⟨b,o,none⟩ n k=k (.pointer (some ⟨b,o+n,none⟩)):=by
 cases n with
 | zero=>rfl
 | succ n=>rfl
theorem aR {ks:List Tmp} (step:(aa ks->H->R)->aa ks->H->R) (n:Nat) (e:aa ks) (h:H):loopF step (n+1) e h=step (loopF step n) e h:=rfl
theorem rm {ks:List Tmp} (step:(aa ks->H->R)->aa ks->H->R) (e:aa ks) (h:H):loopF step 1000000 e h=step (loopF step 999999) e h:=rfl
theorem oC {ks:List Tmp} (step:(aa ks->H->R)->aa ks->H->R) (e:aa ks) (h:H):loopF step 999999 e h=step (loopF step 999998) e h:=rfl
theorem aJ {a b:Nat} (h:a<=b):ble a b=true:=Nat.ble_eq_true_of_le h
theorem cz {a b:Nat} (h:b<a):ble a b=false:=by cases hq:ble a b with
 | false=>rfl
 | true=>exact absurd (Nat.le_of_ble_eq_true hq) (by omega)
theorem fU {a b:Nat} (h:a=b):beq a b=true:=by subst h;exact Nat.beq_refl a
theorem dH {a b:Nat} (h:a≠b):beq a b=false:=by cases hq:beq a b with
 | false=>rfl
 | true=>exact absurd (Nat.eq_of_beq_eq_true hq) h
section
variable {ty : TypeId} {cx cy : Bool} {m n : Nat} {k : Value -> R}
theorem cf (hE:E.und ty=some (.int .i64)) (h:m+n<=9223372036854775807):binR (binC E .add ty cx cy) (.int .i64 (.ofNat m)) (.int .i64 (.ofNat n)) k=k (.int .i64 (.ofNat (m+n))):=by unfold binR binC;rw[hE];show Bool.rec (motive:=λ_=>R) _ (k (.int .i64 (.ofNat (m+n)))) (ble (m+n) 9223372036854775807)=_;rw[Nat.ble_eq_true_of_le h]
theorem fO (hE:E.und ty=some (.int .i64)) (h:n<=m) (h2:m<=9223372036854775807):binR (binC E .sub ty cx cy) (.int .i64 (.ofNat m)) (.int .i64 (.ofNat n)) k=k (.int .i64 (.ofNat (m-n))):=by unfold binR binC;rw[hE];show Bool.rec (motive:=λ_=>R) _ (k (.int .i64 (.ofNat (m-n)))) (gQ (ble n m) (ble m 9223372036854775807))=_;rw[Nat.ble_eq_true_of_le h,Nat.ble_eq_true_of_le h2];rfl
theorem yw (hE:E.und ty=some (.int .i64)) (h:m*n<=9223372036854775807):binR (binC E .mul ty cx cy) (.int .i64 (.ofNat m)) (.int .i64 (.ofNat n)) k=k (.int .i64 (.ofNat (m*n))):=by unfold binR binC;rw[hE];show Bool.rec (motive:=λ_=>R) _ (k (.int .i64 (.ofNat (m*n)))) (ble (m*n) 9223372036854775807)=_;rw[Nat.ble_eq_true_of_le h]
theorem sA (hE:E.und ty=some (.int .i64)) (h:1<=n) (h2:m<=9223372036854775807):binR (binC E .quo ty cx cy) (.int .i64 (.ofNat m)) (.int .i64 (.ofNat n)) k=k (.int .i64 (.ofNat (m / n))):=by unfold binR binC;rw[hE];show Bool.rec (motive:=λ_=>R) _ (k (.int .i64 (.ofNat (m / n)))) (gQ (ble 1 n) (ble m 9223372036854775807))=_;rw[Nat.ble_eq_true_of_le h,Nat.ble_eq_true_of_le h2];rfl
theorem sj (hE:E.und ty=some (.int .i64)) (h:1<=n) (h2:m<=9223372036854775807):binR (binC E .rem ty cx cy) (.int .i64 (.ofNat m)) (.int .i64 (.ofNat n)) k=k (.int .i64 (.ofNat (m%n))):=by unfold binR binC;rw[hE];show Bool.rec (motive:=λ_=>R) _ (k (.int .i64 (.ofNat (m%n)))) (gQ (ble 1 n) (ble m 9223372036854775807))=_;rw[Nat.ble_eq_true_of_le h,Nat.ble_eq_true_of_le h2];rfl
theorem nR (hE:E.und ty=some (.int .i64)):binR (binC E .eql ty cx cy) (.int .i64 (.ofNat m)) (.int .i64 (.ofNat n)) k=k (.bool (beq m n)):=by unfold binR binC;rw[hE];rfl
theorem lS (hE:E.und ty=some (.int .i64)):binR (binC E .neq ty cx cy) (.int .i64 (.ofNat m)) (.int .i64 (.ofNat n)) k=k (.bool (!beq m n)):=by unfold binR binC;rw[hE,<-nW];rfl
theorem oi (hE:E.und ty=some (.int .i64)):binR (binC E .lss ty cx cy) (.int .i64 (.ofNat m)) (.int .i64 (.ofNat n)) k=k (.bool (ble (m+1) n)):=by unfold binR binC;rw[hE];rfl
theorem nZ (hE:E.und ty=some (.int .i64)):binR (binC E .leq ty cx cy) (.int .i64 (.ofNat m)) (.int .i64 (.ofNat n)) k=k (.bool (ble m n)):=by unfold binR binC;rw[hE];rfl
theorem dC (hE:E.und ty=some (.int .i64)):binR (binC E .gtr ty cx cy) (.int .i64 (.ofNat m)) (.int .i64 (.ofNat n)) k=k (.bool (ble (n+1) m)):=by unfold binR binC;rw[hE];rfl
theorem jj (hE:E.und ty=some (.int .i64)):binR (binC E .geq ty cx cy) (.int .i64 (.ofNat m)) (.int .i64 (.ofNat n)) k=k (.bool (ble n m)):=by unfold binR binC;rw[hE];rfl
theorem gt (hE:E.und ty=some (.int .i64)) (h:m<n):binR (binC E .lss ty cx cy) (.int .i64 (.ofNat m)) (.int .i64 (.ofNat n)) k=k (.bool true):=by rw[oi hE,aJ (by omega)]
theorem fp (hE:E.und ty=some (.int .i64)) (h:n<=m):binR (binC E .lss ty cx cy) (.int .i64 (.ofNat m)) (.int .i64 (.ofNat n)) k=k (.bool false):=by rw[oi hE,cz (by omega)]
theorem ao2 (hE:E.und ty=some (.int .i64)) (h:n<m):binR (binC E .leq ty cx cy) (.int .i64 (.ofNat m)) (.int .i64 (.ofNat n)) k=k (.bool false):=by rw[nZ hE,cz (by omega)]
theorem avo (hE:E.und ty=some (.int .i64)) (h:n<m):binR (binC E .gtr ty cx cy) (.int .i64 (.ofNat m)) (.int .i64 (.ofNat n)) k=k (.bool true):=by rw[dC hE,aJ (by omega)]
theorem Da (hE:E.und ty=some (.int .i64)) (h:m<=n):binR (binC E .gtr ty cx cy) (.int .i64 (.ofNat m)) (.int .i64 (.ofNat n)) k=k (.bool false):=by rw[dC hE,cz (by omega)]
theorem SN (hE:E.und ty=some (.int .i64)) (h:n<=m):binR (binC E .geq ty cx cy) (.int .i64 (.ofNat m)) (.int .i64 (.ofNat n)) k=k (.bool true):=by rw[jj hE,aJ (by omega)]
theorem yJ (hE:E.und ty=some (.int .i64)) (h:m=n):binR (binC E .eql ty cx cy) (.int .i64 (.ofNat m)) (.int .i64 (.ofNat n)) k=k (.bool true):=by rw[nR hE,fU (by omega)]
theorem uB (hE:E.und ty=some (.int .i64)) (h:m≠n):binR (binC E .eql ty cx cy) (.int .i64 (.ofNat m)) (.int .i64 (.ofNat n)) k=k (.bool false):=by rw[nR hE,dH (by omega)]
theorem ve (hE:E.und ty=some (.int .i64)) (h:m=n):binR (binC E .neq ty cx cy) (.int .i64 (.ofNat m)) (.int .i64 (.ofNat n)) k=k (.bool false):=by rw[lS hE,fU h];rfl
theorem QH (hE:E.und ty=some (.int .u64)) (h:m<=18446744073709551615) (h2:n<=18446744073709551615):binR (binC E .and ty cx cy) (.int .u64 (.ofNat m)) (.int .u64 (.ofNat n)) k=k (.int .u64 (.ofNat (m &&& n))):=by unfold binR binC;rw[hE];show Bool.rec (motive:=λ_=>R) _ (k (.int .u64 (.ofNat (m &&& n)))) (gQ (ble m 18446744073709551615) (ble n 18446744073709551615))=_;rw[Nat.ble_eq_true_of_le h,Nat.ble_eq_true_of_le h2];rfl
theorem Xa (hE:E.und ty=some (.int .u64)) (h:m<=18446744073709551615) (h2:n<=18446744073709551615):binR (binC E .or ty cx cy) (.int .u64 (.ofNat m)) (.int .u64 (.ofNat n)) k=k (.int .u64 (.ofNat (m ||| n))):=by unfold binR binC;rw[hE];show Bool.rec (motive:=λ_=>R) _ (k (.int .u64 (.ofNat (m ||| n)))) (gQ (ble m 18446744073709551615) (ble n 18446744073709551615))=_;rw[Nat.ble_eq_true_of_le h,Nat.ble_eq_true_of_le h2];rfl
theorem J2 (hE:E.und ty=some (.int .u64)) (h:n<=m) (h2:m<=18446744073709551615):binR (binC E .sub ty cx cy) (.int .u64 (.ofNat m)) (.int .u64 (.ofNat n)) k=k (.int .u64 (.ofNat (m-n))):=by unfold binR binC;rw[hE];show Bool.rec (motive:=λ_=>R) _ (k (.int .u64 (.ofNat (m-n)))) (gQ (ble n m) (ble m 18446744073709551615))=_;rw[Nat.ble_eq_true_of_le h,Nat.ble_eq_true_of_le h2];rfl
theorem rK (hE:E.und ty=some (.int .u64)) {kd:IntKind} (h:n<=63) (h2:m <<< n<=18446744073709551615):binR (binC E .shl ty cx cy) (.int .u64 (.ofNat m)) (.int kd (.ofNat n)) k=k (.int .u64 (.ofNat (m <<< n))):=by unfold binR binC;rw[hE];show Bool.rec (motive:=λ_=>R) _ (k (.int .u64 (.ofNat (m <<< n)))) (gQ (ble n 63) (ble (m <<< n) 18446744073709551615))=_;rw[Nat.ble_eq_true_of_le h,Nat.ble_eq_true_of_le h2];rfl
end
theorem j3 {E:Env} {ty e:TypeId} {cx cy:Bool} {ad:Addr} {k:Value->R} (hE:E.und ty=some (.pointer e)):binR (binC E .eql ty cx cy) (.pointer (some ad)) (.pointer none) k=k (.bool false):=by
 have hb:ip E .eql ty cx cy (.pointer (some ad)) (.pointer none)=some (.bool false):=by simp only[ip,MN,hE]
 unfold binR binC;rw[hE];show bindO (ip E .eql ty cx cy (.pointer (some ad)) (.pointer none)) k=_;rw[hb];rfl
theorem j0 (h:H) (o:AO) (i:Nat) (hs:h.next<=1000000000):hget (ae h o) i=if i=h.next then o else hget h i:=by rw[bi,cV,bi];exact T.get_ins _ _ _ _ _ (by unfold deep;omega)
theorem bU (h:H) (o:AO) (i j:Nat) (hs:j<=1000000000):hget (hset h j o) i=if i=j then o else hget h i:=by rw[bi,eD,bi];exact T.get_ins _ _ _ _ _ (by unfold deep;omega)
theorem ct (h:H) (o:AO):(ae h o).next=h.next+1:=rfl
theorem is (h:H) (o:AO) (j:Nat):(hset h j o).next=h.next:=rfl
theorem aB (h:H) (o:AO) (hs:h.next<=1000000000):hget (ae h o) h.next=o:=by rw[j0 _ _ _ hs,if_pos rfl]
theorem bu (h:H) (o:AO) {i:Nat} (hs:h.next<=1000000000) (hi:i<h.next):hget (ae h o) i=hget h i:=by rw[j0 _ _ _ hs,if_neg (by omega)]
theorem bp (h:H) (o:AO) (i:Nat) (hs:i<=1000000000):hget (hset h i o) i=o:=by rw[bU _ _ _ _ hs,if_pos rfl]
theorem iW (h:H) (o:AO) {i j:Nat} (hs:j<=1000000000) (hi:i<j):hget (hset h j o) i=hget h i:=by rw[bU _ _ _ _ hs,if_neg (by omega)]
theorem aH (l:List Value) (i:Nat):getF (T.ofList unk l) i=l.getD i unk:=by rw[bF,T.get_ofList]
theorem pq (c:T Value) (o:Nat):ac c 2 o=[getF c o,getF c (o+1)]:=rfl
theorem sR (p:Value->Bool):allF p []=true:=rfl
theorem gF (p:Value->Bool) (v:Value) (l:List Value):allF p (v :: l)=cond (p v) (allF p l) false:=by show Bool.rec (motive:=λ_=>Bool) false (allF p l) (p v)=_;cases p v <;> rfl
theorem BP (k:IntKind) (n:Int):cell1F (.int k n)=true:=rfl
theorem Sz (a:Option Addr) (n c:Nat):cell1F (.slice a n c)=true:=rfl
theorem min_i64 (E:Env) (h:H) (m n:Nat) (tys:List TypeId):bg E h .min [.int .i64 (.ofNat m),.int .i64 (.ofNat n)] tys=some (.int .i64 (.ofNat (min m n))):=by
 show some (Value.int .i64 (if (Int.ofNat n)<(Int.ofNat m) then Int.ofNat n else Int.ofNat m))=_
 congr 2
 by_cases hq:n<m
 ·rw[if_pos (by simpa using hq),Nat.min_eq_right (by omega)]
 ·rw[if_neg (by simpa using hq),Nat.min_eq_left (by omega)]
def eU (h h':H):Prop:=h.next<=h'.next/\∀i,i<h.next->hget h' i=hget h i
theorem eU.refl (h:H):eU h h:=⟨Nat.le_refl _,λ_ _=>rfl⟩
theorem eU.trans {a b c:H} (h:eU a b) (g:eU b c):eU a c:=⟨Nat.le_trans h.1 g.1,λi hi=>(g.2 i (Nat.lt_of_lt_of_le hi h.1)).trans (h.2 i hi)⟩
theorem eU.push {a b:H} (h:eU a b) (o:AO) (hs:b.next<=1000000000):eU a (ae b o):=
 ⟨by rw[ct];exact Nat.le_succ_of_le h.1,λi hi=>by rw[j0 _ _ _ hs,if_neg (by have:=h.1;omega)];exact h.2 i hi⟩
theorem eU.set {a b:H} (h:eU a b) (o:AO) (j:Nat) (hs:j<=1000000000) (hj:a.next<=j):eU a (hset b j o):=
 ⟨h.1,λi hi=>by rw[bU _ _ _ _ hs,if_neg (by omega)];exact h.2 i hi⟩
end F
end
section
namespace F
variable {E : Env}
theorem AU {t e n b lo:Nat} {kd:IntKind} (hE:E.und t=some (.array n e)) (hs:E.size e=some 1) (hl:lo<n):
  cI E t (.pointer (some ⟨b,0,none⟩)) (some (.int kd (.ofNat lo))) none none=some (.slice (some ⟨b,lo,none⟩) (n-lo) (2*(n-lo))):=by
 have h1:ble lo n=true:=aJ (by omega);have h2:ble n n=true:=aJ (by omega);have h3:beq n lo=false:=dH (by omega);simp only[cI,hE,hs,bound,h1,cond_true,h3,cond_false,Nat.mul_one,gar,Option.isSome_none];cases lo with
 | zero=>rfl
 | succ lo=>simp[beq]
theorem EW {t e l c b o m:Nat} {kd:IntKind} (hE:E.und t=some (.slice e)) (hs:E.size e=some 1) (h1:m<=c):
  cI E t (.slice (some ⟨b,o,none⟩) l (2*c)) none (some (.int kd (.ofNat m))) none=some (.slice (some ⟨b,o,none⟩) m (2*c)):=by
 have e0:2*c / 2=c:=by omega
 have e1:2*c%2=0:=by omega
 have h2:ble m c=true:=aJ h1;simp only[cI,hE,hs,bound,e0,h2,cond_true,Option.isNone_none,Option.isSome_some,Bool.or_true,Bool.and_true,gB,e1];cases hc:beq c 0 <;> simp[hc,gar]
theorem append_nil {t e:Nat} {i:TypeInfo} {z:Value} {h:H} {b o m c e' n fz:Nat} {op ro:Bool} {cs:T Value} (hE:E.und t=some (.slice e)) (hi:E.info e=some i) (hz:bX E e=some [z]) (hsz:i.size=1) (hb:i.bytes=1)
  (hr:hget h b=.row e' n op ro fz cs) (hm:1<=m) (hon:o+m<=n) (hm2:m<=100000) (hroom:h.next<=1000000000):
  ba E h .append [.slice none 0 0,.slice (some ⟨b,o,none⟩) m c] [t,t]=some (.slice (some ⟨h.next,0,none⟩) m (2*m+1),ae h (.row e m true false 0 (T.ofList unk (ac cs m o)))):=by
 rw[bi] at hr;have g1:ble (o+m) n=true:=aJ hon;have g2:ble (m*2) 1000000000=true:=aJ (by omega);have g3:ble m 1000000000=true:=aJ (by omega);have g4:ble m 0=false:=cz (by omega);have h5:room h=true:=aJ hroom;rw[cV,ez];simp only[ba,gu,hE,en,hi,hz,hsz,hb,iv,cond_false,ie,kq,hr,List.length_cons,List.length_nil,Nat.zero_add,Nat.mul_one,g1,cond_true,g2,g3,g4,Nat.reduceAdd,Nat.zero_div,Nat.beq_refl,Bool.and_self];simp only[Nat.beq_refl,cond_true,h5,Nat.mul_one,g3,Nat.zero_add,Bool.and_self]
theorem dD (l:List Value):∀(t:T Value) (o:Nat),(∀i,i<l.length->t.get (o+i)=l.getD i unk)->aY t o l.length=l:=by
 induction l with
 | nil=>intro t o _;rfl
 | cons v l ih=>
  intro t o h;show t.get o :: aY t (o+1) l.length=v :: l;have h0:=h 0 (by simp);simp only[Nat.add_zero,List.getD_cons_zero] at h0
  rw[h0,ih t (o+1) λi hi=>by
   have:=h (i+1) (by simp;omega);rw[List.getD_cons_succ] at this
   rw[<-this];congr 1;omega]
theorem pJ (c:T Value) (m o:Nat):(ac c m o).length=m:=by
 induction m generalizing o with
 | zero=>rfl
 | succ m ih=>show (ac c m (Nat.succ o)).length+1=m+1;rw[ih]
theorem oF (l:List Value) (m:Nat) (h:l.length=m):aY (T.ofList unk l) 0 m=l:=by subst h;exact dD l _ 0 λi _=>by rw[T.get_ofList,Nat.zero_add]
theorem wj {t t2 e:Nat} {h:H} {b m:Nat} {l:List Value} {s:List UInt8} (hE:E.und t=some (.pointer e)) (hs:E.size e=some 1)
  (hr:hget h b=.row e m true false 0 (T.ofList unk l)) (hl:l.length=m) (hm:1<=m) (hm2:m<=100000) (hb:cu l=some s):
  ba E h .unsafeString [.pointer (some ⟨b,0,none⟩),.int .i64 (.ofNat m)] [t,t2]=some (.string ⟨⟨s⟩⟩,hset h b (.row e m true false m (T.ofList unk l))):=by
 rw[bi] at hr;obtain⟨n,rfl⟩:∃n,m=n+1:=⟨m-1,by omega⟩;have g1:ble (n+1) (n+1)=true:=aJ (Nat.le_refl _);have g2:ble n 1000000000=true:=aJ (by omega);have g3:ble 0 (n+1)=true:=aJ (by omega);rw[eD];simp only[ba,hE,hr,hs,Nat.beq_refl,g1,g2,g3,Bool.and_self,cond_true,oF l _ hl,hb]
theorem kO {h:H} {b o m c:Nat} {tys:List TypeId} (hc:1<c):bg E h .unsafeSliceData [.slice (some ⟨b,o,none⟩) m c] tys=some (.pointer (some ⟨b,o,none⟩)):=by have:Nat.blt 1 c=true:=aJ hc;simp only[bg,this,cond_true]
theorem yY {s d t b m e' n fz:Nat} {h:H} {op ro:Bool} {c:T Value} (hs:E.und s=some (.pointer t)) (hd:E.und d=some .unsafePointer) (hz:E.size t=some (m+1)) (hr:hget h b=.row e' n op ro fz c) (hn:0<n):
  aQ E h s d (.pointer (some ⟨b,0,none⟩))=some (.pointer (some ⟨b,0,none⟩)):=by
 rw[bi] at hr;have:Nat.blt 0 n=true:=aJ hn;simp only[aQ,hs,hd,hr,hz,this,cond_true]
theorem qS {s d u b m n fz:Nat} {h:H} {op ro:Bool} {c:T Value} (hs:E.und s=some .unsafePointer) (hd:E.und d=some (.pointer u)) (hz:E.size u=some (m+1)) (hr:hget h b=.row u n op ro fz c) (hn:m+1<=n):
  aQ E h s d (.pointer (some ⟨b,0,none⟩))=some (.pointer (some ⟨b,0,none⟩)):=by
 rw[bi] at hr;have:ble (m+1) n=true:=aJ hn;simp only[aQ,hs,hd,hr,hz,this,Nat.beq_refl,Bool.and_self,cond_true]
theorem uk {ty e:TypeId} {cx cy:Bool} {k:Value->R} (hE:E.und ty=some (.pointer e)):binR (binC E .eql ty cx cy) (.pointer none) (.pointer none) k=k (.bool true):=by
 have hb:ip E .eql ty cx cy (.pointer none) (.pointer none)=some (.bool true):=by simp only[ip,MN,hE];rfl
 unfold binR binC;rw[hE];show bindO (ip E .eql ty cx cy (.pointer none) (.pointer none)) k=_;rw[hb];rfl
theorem iB (c:T Value) (i j:Nat) (v:Value) (hi:i<=1000000000):getF (du 40 c i v) j=if j=i then v else getF c j:=by rw[bF,yi,bF];exact T.get_ins _ _ _ _ _ (by omega)
end F
end
end Go.Ev
namespace Go.Ev
open Go F
def j6:Value->Bool
 |.bool _=>true
 |.int _ _=>true
 |.string _=>true
 |.nilFunc=>true
 |.nilIface=>true
 |.pointer none=>true
 |.slice none _ _=>true
 | _=>false
def gT:Value->Bool
 |.tuple ⟨l⟩=>l.all j6
 | v=>j6 v
theorem NT {ρ ρ':Ren} {v u:Value} (hg:j6 v=true) (h:fW ρ' v u):fW ρ v u:=by
 rcases h with e | e
 ·exact .inl e
 ·refine .inr ?_;unfold j6 at hg;split at hg <;> first | exact e | (exfalso;exact Bool.noConfusion hg)
theorem zF {ρ ρ':Ren} {v u:Value} (hg:j6 v=true) (h:oj ρ' v u):oj ρ v u:=by
 rcases h with h | ⟨l,l',e,_⟩
 ·exact .inl (NT hg h)
 ·subst e;exact nomatch hg
theorem yj {ρ ρ':Ren}:∀{l l':List Value},l.all j6=true->bC (oj ρ') l l'->bC (oj ρ) l l'
 | [],[],_,_=>trivial
 | v :: l,u :: l',hg,⟨h1,h2⟩=>by rw[List.all_cons,Bool.and_eq_true] at hg;exact⟨zF hg.1 h1,yj hg.2 h2⟩
 | [],_ :: _,_,h=>h.elim
 | _ :: _,[],_,h=>h.elim
theorem fV {ρ ρ':Ren} {v u:Value} (hg:gT v=true) (h:VR ρ' v u):VR ρ v u:=by
 rcases h with h | ⟨l,l',e,e',h⟩
 ·refine .inl ?_;unfold gT at hg;split at hg
  ·rcases h with (h | h) | ⟨l,l',e,_⟩
   ·exact nomatch h
   ·simp[cN,cJ] at h
   ·exact nomatch e
  ·exact zF hg h
 ·subst e e';exact .inr ⟨l,l',rfl,rfl,yj hg h⟩
theorem eU.objs {h h':H} (e:eU h h'):∀i,i<h.next->h'.objs.get i=h.objs.get i:=λi hi=>by rw[<-bi,<-bi];exact e.2 i hi
theorem eC.forget {P:Program} {ρ:Ren} {h h':H} {w:World} {f:FuncId} {args':List Value} {v:Value} (hr:eG P ρ h w) (c:eC P ρ h w f args' v h') (ho:eU h h') (hg:gT v=true):eC P ρ h w f args' v h:=by
 rcases c with ⟨v',ρ',w',h1,h2,h3⟩ | ⟨fn,h1,h2,h3,h4⟩
 ·exact .inl ⟨v',ρ,w',h1,fV hg h2,Step.forget hr h3 (eU.objs ho)⟩
 ·refine .inr ⟨fn,h1,h2,h3,h4.mono λe w' hq=>?_⟩;obtain⟨ρ',v',e1,e2,e3⟩:=hq;exact⟨ρ,v',e1,fV hg e2,Step.forget hr e3 (eU.objs ho)⟩
theorem eC.weaken {P:Program} {ρ:Ren} {h h':H} {w:World} {f:FuncId} {args':List Value} {v v0:Value} (c:eC P ρ h w f args' v0 h') (hw:∀ρ u,VR ρ v0 u->VR ρ v u):eC P ρ h w f args' v h':=by
 rcases c with ⟨v',ρ',w',h1,h2,h3⟩ | ⟨fn,h1,h2,h3,h4⟩
 ·exact .inl ⟨v',ρ',w',h1,hw _ _ h2,h3⟩
 ·refine .inr ⟨fn,h1,h2,h3,h4.mono λe w' hq=>?_⟩;obtain⟨ρ',v',e1,e2,e3⟩:=hq;exact⟨ρ',v',e1,hw _ _ e2,e3⟩
def quick (E:Env) (K:F.Hint) (n:Nat) (f:FuncId) (q:List Value->H->Option (Value × H)):List Value->H->Option (Value × H):=
 λargs h=>match q args h with
  | some r=>some r
  | none=>F.ax E K n f args h (λv h=>some (v,h))
theorem dL {P:Program} {E E':Env} {K:F.Hint} {n:Nat} {f:FuncId} {q:List Value->H->Option (Value × H)} (hE:fq P E bN) (hE':fq P E' bN)
  (hq:∀args h r,q args h=some r->r.2=h/\∃v0,gT v0=true/\(∀ρ u,VR ρ v0 u->VR ρ r.1 u)/\∃n h',eU h h'/\∀k:Value->H->F.R,F.ax E K n f args h k=k v0 h'):dt P f (quick E' K n f q):=by
 intro ρ h w args args' v h' hr ha he;unfold quick at he;split at he
 ·rename_i r0 h0;cases he;obtain⟨e0,v0,hg,hw,n,h2,ho,hk⟩:=hq args h _ h0;have e0:h'=h:=e0;subst e0;obtain⟨N,v2,h3,hv,he⟩:=F.cX (K:=K) (n:=n) (f:=f) (args:=args) (h:=h') (k:=λv h=>some (v,h)) (r:=(v0,h2)) (hk _);cases he;exact (eC.forget hr (sound hE N f args h' _ _ hv ρ w args' hr ha) ho hg).weaken hw
 ·obtain⟨N,v2,h3,hv,he⟩:=F.cX he;cases he;exact sound hE' N f args h _ _ hv ρ w args' hr ha
def To:AO->Bool
 |.row _ _ op ro _ _=>!op&&ro
 |.dead=>true
 | _=>false
def BD (gl:List AO):Bool:=ble gl.length 16&&gl.all To
def eS (gl:List AO):H:={ next:=16,objs:=T.ofList .dead gl }
def oe:Value->Value->Bool
 |.int k n,.int k' n'=>decide (k=k')&&decide (n=n')
 | _,_=>false
def ON (n:Nat) (p:Nat->Bool):Bool:=Nat.rec true (λi ih=>p i&&ih) n
def oh:AO->AO->Bool
 |.dead,_=>true
 |.row e n _ _ fz c,.row e' n' op' _ fz' c'=>beq e e'&&beq n n' && !op'&&ble fz' fz&&ON n (λi=>oe (c.get i) (c'.get i))
 | _,_=>false
def eO:List AO->Nat->H->Bool
 | [],_,_=>true
 | o :: l,i,h=>oh o (h.objs.get i)&&eO l (i+1) h
theorem oq {p:Nat->Bool}:∀{n:Nat},ON n p=true->∀i,i<n->p i=true
 | 0,_,i,hi=>absurd hi (Nat.not_lt_zero i)
 | n+1,h,i,hi=>by
  have h:(p n&&ON n p)=true:=h;rw[Bool.and_eq_true] at h;rcases Nat.lt_or_ge i n with q | q
  ·exact oq h.2 i q
  ·rw[Nat.le_antisymm (Nat.le_of_lt_succ hi) q];exact h.1
theorem mY:∀{gl:List AO} {j:Nat} {h:H},eO gl j h=true->∀i o,gl[i]?=some o->oh o (h.objs.get (j+i))=true
 | [],_,_,_,i,o,e=>by simp at e
 | a :: l,j,h,hs,i,o,e=>by
  unfold eO at hs;rw[Bool.and_eq_true] at hs;cases i with
  | zero=>simp at e;subst e;exact hs.1
  | succ i=> simp at e;have:=mY hs.2 i o e;rw[show j+1+i=j+(i+1) by omega] at this;exact this
def renG:Ren:=λid=>if id<16 then some (id,0) else none
theorem oW {a b:Value} (h:oe a b=true):a=b/\∃k n,a=.int k n:=by
 unfold oe at h;split at h
 ·simp at h;obtain⟨rfl,rfl⟩:=h;exact⟨rfl,_,_,rfl⟩
 ·exact nomatch h
theorem dJ (gl:List AO) (i:Nat):(eS gl).objs.get i=(gl[i]?).getD .dead:=T.get_ofList _ _ _
theorem jp {gl:List AO} (h:BD gl=true) (i:Nat):(True/\(eS gl).objs.get i=.dead) \/ (i<16/\∃e n fz c,gl[i]?=some (.row e n false true fz c)/\(eS gl).objs.get i=.row e n false true fz c):=by
 unfold BD at h;rw[Bool.and_eq_true] at h;rw[dJ];cases hg:gl[i]? with
 | none=>exact .inl ⟨trivial,rfl⟩
 | some o=>
  have hl:=(List.getElem?_eq_some_iff.1 hg).1;have hb:=Nat.le_of_ble_eq_true h.1;have:=List.all_eq_true.1 h.2 o (List.mem_of_getElem? hg);unfold To at this;split at this
  ·right;refine⟨by omega,?_⟩;simp at this;obtain⟨rfl,rfl⟩:=this;exact⟨_,_,_,_,rfl,rfl⟩
  ·exact .inl ⟨trivial,rfl⟩
  ·exact nomatch this
theorem nE {e n fz c} {o:AO} (h:oh (.row e n false true fz c) o=true):∃ro fz' c',o=.row e n false ro fz' c'/\fz'<=fz/\∀i,i<n->c.get i=c'.get i/\∃k m,c.get i=.int k m:=by
 cases o with
 | row e' n' op' ro' fz' c'=> simp only[oh,Bool.and_eq_true,Bool.not_eq_true'] at h;obtain⟨⟨⟨⟨h1,h2⟩,h3⟩,h4⟩,h5⟩:=h;have h1:=Nat.eq_of_beq_eq_true h1;have h2:=Nat.eq_of_beq_eq_true h2;subst h1 h2 h3;exact⟨_,_,_,rfl,Nat.le_of_ble_eq_true h4,λi hi=>oW (oq h5 i hi)⟩
 | _=>exact nomatch h
theorem Do {P:Program} {gl:List AO} (hgl:BD gl=true) {ρ:Ren} {h:H} {w:World} (hr:eG P ρ h w) (hs:eO gl 0 h=true):eG P renG (eS gl) w:=by
 have hrow:∀id e n fz c,gl[id]?=some (.row e n false true fz c)->∃ro fz' c',h.objs.get id=.row e n false ro fz' c'/\fz'<=fz/\∀i,i<n->c.get i=c'.get i/\∃k m,c.get i=.int k m:=by intro id e n fz c he;have:=mY hs id _ he;rw[Nat.zero_add] at this;exact nE this
 have hren:∀id p,renG id=some p->id<16/\p=(id,0):=by
  intro id p e;unfold renG at e;split at e
  ·cases e;exact⟨by assumption,rfl⟩
  ·exact nomatch e
 constructor
 ·intro id p e;exact (hren id p e).1
 ·intro i j p q e1 e2 _ _ e;rw[(hren i p e1).2,(hren j q e2).2] at e;exact e
 ·intro id p e;obtain⟨hl,rfl⟩:=hren id p e;rcases jp hgl id with ⟨_,e2⟩ | ⟨_,el,n,fz,c,e1,e2⟩
  ·rw[e2];trivial
  ·rw[e2];obtain⟨ro,fz',c',h1,h2,h3⟩:=hrow id el n fz c e1;have ho:=hr.obj id (id,0) (hr.glob id hl);rw[h1] at ho;obtain⟨cs,fr,g1,g2,g3,g4,g5,g6⟩:=ho;refine⟨cs,fr,g1,g2,g3,λq=>(nomatch q),λi hi=>?_,.inl rfl⟩;obtain⟨v',a,b⟩:=g5 i hi;obtain⟨q1,k,m,q2⟩:=h3 i hi;refine⟨v',a,?_⟩;rw[<-q1] at b;rw[q2] at b ⊢;rcases b with b | b
   ·exact .inl b
   ·exact .inr b
 ·intro id e;rcases jp hgl id with ⟨_,e2⟩ | ⟨hl,_⟩
  ·rw[e2] at e;exact nomatch e
  ·have:(16:Nat)+1<2 ^ deep:=by decide
   omega
 ·intro id e;rcases jp hgl id with ⟨_,e2⟩ | ⟨hl,_⟩
  ·exact e2
  ·have:16<=id:=e;omega
 ·intro g hg;simp[renG,hg]
 ·intro id p e hl;obtain⟨hi,rfl⟩:=hren id p e;rcases jp hgl id with ⟨_,e2⟩ | ⟨_,el,n,fz,c,e1,e2⟩
  ·rw[e2] at hl;exact nomatch hl
  ·obtain⟨ro,fz',c',h1,h2,h3⟩:=hrow id el n fz c e1;exact hr.inside id (id,0) (hr.glob id hi) (by rw[h1];rfl)
theorem IT {gl:List AO} (hgl:BD gl=true) (b:Nat):¬ Wr renG (eS gl) b:=by
 rintro⟨id,p,_,_,h⟩;rcases jp hgl id with ⟨_,e2⟩ | ⟨_,el,n,fz,c,e1,e2⟩
 ·rw[e2] at h;exact nomatch h
 ·rw[e2] at h;exact nomatch h
theorem eV.same {P:Program} {ρ:Ren} {w w':World} {p:Nat × Nat} {o:AO} (h:eV P ρ w p o) (e:live o=true->w'.heap[p.1]?=w.heap[p.1]?):eV P ρ w' p o:=by
 cases o with
 | dead=>trivial
 | row e n op ro fz c=> obtain⟨cs,fr,h1,h2⟩:=h;exact⟨cs,fr,(e rfl).trans h1,h2⟩
 | map es clock=> obtain⟨es',h1,h2⟩:=h;exact⟨es',(e rfl).trans h1,h2⟩
 | iter s pos=>exact (e rfl).trans h
theorem Step.lone {P:Program} {gl:List AO} (hgl:BD gl=true) {ρ ρ':Ren} {h h':H} {w w':World} (hr:eG P ρ h w) (s:Step P renG (eS gl) w ρ' h' w'):Step P ρ h w ρ h w' where
 ext:=ρ.le_refl
 old:=λ_ _ e _=>e
 next:=Nat.le_refl _
 keep:=λ_ _ _=>rfl
 rel:=⟨hr.dom,hr.inj,λid p e=>eV.same (hr.obj id p e) λhl=>s.same _ (hr.inside id p e hl) (IT hgl _),hr.small,hr.fresh,hr.glob,λid p e hl=>Nat.lt_of_lt_of_le (hr.inside id p e hl) s.size⟩
 same:=λb hb _=>s.same b hb (IT hgl b)
 own:=λ_ e _=>e
 size:=s.size
 tape:=s.tape
 os:=s.os
 output:=s.output
theorem Fl {ρ ρ':Ren}:∀{l l':List Value},l.all gT=true->bC (VR ρ') l l'->bC (VR ρ) l l'
 | [],[],_,_=>trivial
 | v :: l,u :: l',hg,⟨h1,h2⟩=>by rw[List.all_cons,Bool.and_eq_true] at hg;exact⟨fV hg.1 h1,Fl hg.2 h2⟩
 | [],_ :: _,_,h=>h.elim
 | _ :: _,[],_,h=>h.elim
theorem Bp {P:Program} {E:Env} {rc:RC} {f:FuncId} {args:List Value} {gl:List AO} {v:Value} (hE:fq P E bN) (hrc:kQ E rc) (hgl:BD gl=true)
  (ha:args.all gT=true) (hv:gT v=true) (hrun:rc f args (eS gl) (λv _=>some (v,eS gl))=some (v,eS gl))
  {ρ:Ren} {h:H} {w:World} {args':List Value} (hr:eG P ρ h w) (h2:bC (VR ρ) args args') (hs:eO gl 0 h=true):eC P ρ h w f args' v h:=by
 obtain⟨v0,h1,⟨N,hN⟩,he⟩:=hrc _ _ _ _ _ hrun;have hc:=hN N (Nat.le_refl N);simp only[Option.some.injEq,Prod.mk.injEq,and_true] at he;subst he;rcases sound hE N f args _ _ _ hc renG w args' (Do hgl hr hs) (Fl ha h2) with ⟨v',ρ',w',q1,q2,q3⟩ | ⟨fn,q1,q2,q3,q4⟩
 ·exact .inl ⟨v',ρ,w',q1,fV hv q2,Step.lone hgl hr q3⟩
 ·refine .inr ⟨fn,q1,q2,q3,q4.mono λe w' hq=>?_⟩;obtain⟨ρ',v',e1,e2,e3⟩:=hq;exact⟨ρ,v',e1,fV hv e2,Step.lone hgl hr e3⟩
def be (gl:List AO) (args:List Value) (h:H):Option (Value × H):=
 match args with
 | []=>bif eO gl 0 h then some (.bool true,h) else none
 | _=>none
theorem uw {P:Program} {E:Env} {rc:RC} {f:FuncId} {gl:List AO} (hE:fq P E bN) (hrc:kQ E rc) (hgl:BD gl=true)
  (hrun:rc f [] (eS gl) (λv _=>some (v,eS gl))=some (.bool true,eS gl)):dt P f (be gl):=by
 intro ρ h w args args' v h' hr ha he;unfold be at he;split at he
 ·cases hs:eO gl 0 h with
  | false=>rw[hs] at he;exact nomatch he
  | true=> rw[hs] at he;cases he;exact Bp hE hrc hgl rfl rfl hrun hr ha hs
 ·exact nomatch he
end Go.Ev
namespace Go.Ev
open Go
section
structure eu (P:Program) (f:FuncId) (e:Array Value->Sem Value):Prop where
 ex : ∃fn, P.funcs[f]? = some fn /\ (fn.name== "runtime.NumGoroutine") = false /\ fn.body.isNone = true /\ Extern.findNext fn = none /\ Extern.find fn = some e
variable {P : Program} {f : FuncId} {e : Array Value -> Sem Value}
theorem eu.run (x:eu P f e) (args:Array Value) (w:World):(callFunc f args).run P w=((e args).run P w).andThen λv w'=>.ok (.value v) w':=by obtain⟨fn,h1,h2,h3,h4,h5⟩:=x.ex;exact run_callFunc_extern h1 h2 h3 h4 h5 args w
theorem nr {r:Value->Value->Prop} {a:Value} {l:List Value} (h:bC r [a] l):∃b,l=[b]/\r a b:=by
 cases l with
 | nil=>exact h.elim
 | cons b l=>cases l with
  | nil=>exact⟨b,rfl,h.1⟩
  | cons _ _=>exact h.2.elim
theorem jL {r:Value->Value->Prop} {a a2:Value} {l:List Value} (h:bC r [a,a2] l):∃b b2,l=[b,b2]/\r a b/\r a2 b2:=by
 cases l with
 | nil=>exact h.elim
 | cons b l=> obtain⟨b2,rfl,h2⟩:=nr h.2;exact⟨b,b2,rfl,h.1,h2⟩
theorem tr (x:eu P f Extern.AbiNoEscape.same):dt P f gD:=by
 intro ρ h w args args' v h' hr ha he;unfold gD at he;split at he
 ·cases he;obtain⟨b,rfl,hb⟩:=nr ha;refine .inl ⟨b,ρ,w,?_,hb,Step.refl hr⟩;rw[x.run];rfl
 ·exact nomatch he
theorem vF {tS tR el:TypeId} {i:TypeInfo} (x:eu P f (Extern.SlicesOverlaps.overlaps #[tS,tS] #[tR])) (ht:P.underlying tS=some (.slice el)) (hi:P.info? el=some i):dt P f gx:=by
 intro ρ h w args args' v h' hr ha he;have hdef:∀(a b:Option Addr) (la ca lb cb:Nat),(∀a' b',a=some a'->b=some b'->la=0 \/ lb=0)->(callFunc f ⟨[.slice a la ca,.slice b lb cb]⟩).run P w=.ok (.value (.bool false)) w:=by
  intro a b la ca lb cb h0;rw[x.run];have:(Extern.SlicesOverlaps.overlaps #[tS,tS] #[tR] #[.slice a la ca,.slice b lb cb]).run P w=.ok (.bool false) w:=by
   change Sem.run P (α:=Value) (do
    let some t:= (#[tS, tS]:Array TypeId)[0]? | stuck "slices.overlaps: no parameter types"
    let .slice elem <-underlying t | stuck "slices.overlaps: slice type expected"
    let size <-sizeOf elem
    match (a:Option Addr),(b:Option Addr) with
    | some a,some b=>
     if la=0 \/ lb=0 \/ size=0 then pure (Value.bool false)
     else if a.block != b.block&&(<-frozen a)&&(<-frozen b) then unsupported .addressObserved
     else do
      if a.block != b.block then do
       noView a;noView b
       if <-mayBeOne a b then return Value.bool ((<-choose (.extern "sameAddr.stringBytes" 2))==1)
      pure (Value.bool (a.block==b.block&&a.off<b.off+lb*size&&b.off<a.off+la*size))
    | _,_=>pure (Value.bool false)) w=_
   cases a with
   | none=>simp[run_underlying ht,sizeOf,typeInfo,hi]
   | some a=>
    cases b with
    | none=>simp[run_underlying ht,sizeOf,typeInfo,hi]
    | some b=>
     have:la=0 \/ lb=0 \/ i.size=0:=by
      rcases h0 a b rfl rfl with q | q
      ·exact .inl q
      ·exact .inr (.inl q)
     simp[run_underlying ht,sizeOf,typeInfo,hi,this]
  show ((Extern.SlicesOverlaps.overlaps #[tS,tS] #[tR] #[.slice a la ca,.slice b lb cb]).run P w).andThen _=_;rw[this];rfl
 unfold gx at he;split at he
 ·rename_i a la ca b lb cb;obtain⟨u,u2,rfl,hu,hu2⟩:=jL ha;have key:v=.bool false/\h'=h/\(∀a' b',a=some a'->b=some b'->la=0 \/ lb=0):=by
   split at he
   ·cases hb:(beq la 0||beq lb 0) with
    | false=>rw[hb] at he;exact nomatch he
    | true=>
     rw[hb] at he;cases he;refine⟨rfl,rfl,λ_ _ _ _=>?_⟩;rcases Bool.or_eq_true_iff.1 hb with q | q
     ·exact .inl (Nat.eq_of_beq_eq_true q)
     ·exact .inr (Nat.eq_of_beq_eq_true q)
   ·rename_i hno;cases he;exact⟨rfl,rfl,λa' b' e1 e2=>absurd e2 (by subst e1;intro e2;exact hno _ _ rfl e2)⟩
  obtain⟨rfl,rfl,h0⟩:=key;have hsl:∀(a:Option Addr) (la ca:Nat) (u:Value),VR ρ (.slice a la ca) u->∃a' ca',u=.slice a' la ca'/\(a'.isSome=a.isSome):=by
   intro a la ca u hu;cases a with
   | none=>exact⟨none,_,hu.nilslice,rfl⟩
   | some ad=> obtain⟨_,_,e,_⟩:=hu.slice_some;exact⟨some _,_,e,rfl⟩
  obtain⟨a',ca',rfl,e1⟩:=hsl _ _ _ _ hu;obtain⟨b',cb',rfl,e2⟩:=hsl _ _ _ _ hu2;refine .inl ⟨.bool false,ρ,w,hdef _ _ _ _ _ _ ?_,VR.of1 rfl,Step.refl hr⟩;intro x y ex ey;subst ex ey;cases a with
  | none=>exact nomatch e1
  | some a=>cases b with
   | none=>exact nomatch e2
   | some b=>exact h0 a b rfl rfl
 ·exact nomatch he
theorem qa {ps:Array TypeId} {t el:TypeId} {i:TypeInfo} (x:eu P f (Extern.BytealgMakeNoZero.makeNoZero ps #[t])) (ht:P.underlying t=some (.slice el)) (hi:P.info? el=some i) (h1:i.size=1):dt P f (fu el):=by
 intro ρ h w args args' v h' hr ha he;unfold fu at he;split at he
 ·rename_i n;obtain⟨u,rfl,hu⟩:=nr ha;rw[hu.int];cases hn:ble n 100000000 with
  | false=>rw[hn] at he;exact nomatch he
  | true=>
   cases hroom:room h with
   | false=>rw[hn,hroom] at he;exact nomatch he
   | true=>
    rw[hn,hroom] at he;cases he;have hn:=Nat.le_of_ble_eq_true hn;obtain⟨cs,hrun,hge,_⟩:=Lib.run_makeNoZero (P:=P) w ps t el ht n (by omega);refine .inl ⟨.slice (some ⟨w.heap.size,0,none⟩) n cs.size,ρ.upd h.next (w.heap.size,cs.size-n),_,?_,?_,(Step.drew hr).trans ((Step.drew hr.drew).trans (Step.alloc (O:=.cells cs el) (x:=cs.size-n) (w:=w.drew.drew) hr.drew.drew hroom (ob:=.row el n true false 0 (.c unk)) ?_))⟩
    ·rw[x.run];show ((Extern.BytealgMakeNoZero.makeNoZero ps #[t] #[.int .i64 (n:Int)]).run P w).andThen _=_;rw[hrun];rfl
    ·have e1:(2*n+1)%2=1:=by omega
     have e2:(2*n+1) / 2=n:=by omega
     have e3:n+(cs.size-n)=cs.size:=by omega
     exact VR.of1 (by simp[cN,cJ,Ren.upd_same,e1,e2,e3])
    ·intro ρ' hle;refine⟨cs,(0,0),heap_alloc_new w.drew.drew _,hge,λq=>(nomatch q),λ_=>⟨i,hi,by rw[h1];show cs.size=n+(cs.size-n)*1;omega⟩,λj hj=>?_,.inr (Nat.le_refl _)⟩;have hlt:j<cs.size:=Nat.lt_of_lt_of_le hj hge;exact⟨cs[j],by simp[hlt],.inl rfl⟩
 ·exact nomatch he
end
section
def mn (args:List Value) (h:H):Option (Value × H):=match args with
 | [.string ⟨⟨l⟩⟩,.int .u8 c]=>some (.int .i64 (.ofNat (Lib.countByte l c.toNat.toUInt8)),h)
 | _=>none
def hT (args:List Value) (h:H):Option (Value × H):=match args with
 | [.string ⟨⟨l⟩⟩,.int .u8 c]=>some (.int .i64 (Lib.indexByte l c.toNat.toUInt8),h)
 | _=>none
variable {P : Program} {f : FuncId}
theorem EP (x:eu P f Extern.BytealgCount.count):dt P f mn:=by
 intro ρ h w args args' v h' hr ha he;unfold mn at he;split at he
 ·rename_i l c;cases he;obtain⟨b,b2,rfl,hb,hb2⟩:=jL ha;rw[hb.string,hb2.int];refine .inl ⟨_,ρ,w,?_,VR.of1 rfl,Step.refl hr⟩;rw[x.run];show ((Extern.BytealgCount.count #[.string ⟨⟨l⟩⟩,.int .u8 c]).run P w).andThen _=_;rw[Lib.run_countString];rfl
 ·exact nomatch he
theorem ru (x:eu P f Extern.BytealgIndexByte.indexByte):dt P f hT:=by
 intro ρ h w args args' v h' hr ha he;unfold hT at he;split at he
 ·rename_i l c;cases he;obtain⟨b,b2,rfl,hb,hb2⟩:=jL ha;rw[hb.string,hb2.int];refine .inl ⟨_,ρ,w,?_,VR.of1 rfl,Step.refl hr⟩;rw[x.run];show ((Extern.BytealgIndexByte.indexByte #[.string ⟨⟨l⟩⟩,.int .u8 c]).run P w).andThen _=_;rw[Lib.run_indexByteString];rfl
 ·exact nomatch he
end
end Go.Ev
