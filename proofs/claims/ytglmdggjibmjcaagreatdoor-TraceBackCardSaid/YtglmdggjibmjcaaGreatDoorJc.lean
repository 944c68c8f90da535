/-
  A FUNCTION THAT HOLDS ONE RANGE OVER A FUNCTION, whose iterator is of one form: what it answers in abstract memory, its contract.
-/
import Derived.Test.YtglmdggjibmjcaaGreatDoorJb
import Derived.RangeFuncRecord
import Derived.Tactics
noncomputable section
set_option linter.all false
open Nat (ble beq)
namespace Go.Ev
open Go
def jA {t t':TM} {l:List Operand} (h:∀x∈l,ev t x=ev t' x):l.map (ev t)=l.map (ev t'):=
 List.map_congr_left h
def kh {E:Env} {t t':TM} {hp:H} {o:Oper} (h:∀x∈o.op.operands,ev t x=ev t' x):light E t hp o=light E t' hp o:=by
 obtain⟨dst,op,type,pos,after,guard⟩:=o;cases op <;> simp only[Op.operands] at h <;> simp only[light]
 case build ty ps=>
  congr 1
  refine List.map_congr_left λp hm=>?_;rw[h p.2 (by simp;exact⟨p.1,by simpa using hm⟩)]
 case makeFunc fn first captured=>
  have h1:first.toList.map (ev t)=first.toList.map (ev t'):=jA λx hx=>h x (by simp;exact .inl (by simpa using hx))
  have h2:captured.toList.map (ev t)=captured.toList.map (ev t'):=jA λx hx=>h x (by simp;exact .inr (by simpa using hx));cases fn <;> simp only[h1,h2]
 case call c=> have h1:c.args.toList.map (ev t)=c.args.toList.map (ev t'):=jA λx hx=>h x (by simp[Call.operands];exact .inr (by simpa using hx));simp only[h1]
 case slice t0 x lo hi mx=>cases lo <;> cases hi <;> cases mx <;> simp_all
 all_goals (first | rfl | (simp_all;done))
def vT {E:Env} {t t':TM} {hp:H} {o:Oper} (h:∀x∈o.op.operands,ev t x=ev t' x):heavy E t hp o=heavy E t' hp o:=by
 obtain⟨dst,op,type,pos,after,guard⟩:=o;cases op <;> simp only[Op.operands] at h <;> simp only[heavy]
 case call c=> have h1:c.args.toList.map (ev t)=c.args.toList.map (ev t'):=jA λx hx=>h x (by simp[Call.operands];exact .inr (by simpa using hx));simp only[h1]
 case next it b=>cases b <;> simp_all
 all_goals (first | rfl | (simp_all;done))
def nn {E:Env} {t t':TM} {o:Oper} (h:∀x∈o.op.operands,ev t x=ev t' x):dk E t o=dk E t' o:=by
 obtain⟨dst,op,type,pos,after,guard⟩:=o;cases op <;> simp only[Op.operands] at h <;> simp only[dk]
 case buildSlice ty n ps=>
  have h1:(ps.toList.map λp=>(p.1,ev t p.2))=ps.toList.map λp=>(p.1,ev t' p.2):=
   List.map_congr_left λp hm=>by rw[h p.2 (by simp;exact⟨p.1,by simpa using hm⟩)]
  simp only[h1]
 case makeMap ty r=>cases r <;> simp_all
 all_goals (first | rfl | (simp_all;done))
def um {t t':TM} {o:Oper} {c:Call} (hc:gk o=some c) (h:∀x∈o.op.operands,ev t x=ev t' x):target t c=target t' c:=by
 unfold gk at hc;split at hc
 ·rename_i c' eo;split at hc
  ·rename_i x ec;simp only[I9] at hc;subst hc;rw[eo] at h;simp only[Op.operands] at h;have h1:c'.args.toList.map (ev t)=c'.args.toList.map (ev t'):=jA λx hx=>h x (by simp[Call.operands];exact .inr (by simpa using hx));have h2:ev t x=ev t' x:=h x (by simp[Call.operands,ec]);unfold target;simp only[ec,h1,h2]
  ·cases hc
 ·cases hc
def za {E:Env} {ex:gq} {t t':TM} {hp:H} {o:Oper} (h:∀x∈o.op.operands,ev t x=ev t' x):ie E ex o t hp=ie E ex o t' hp:=by
 unfold ie;cases hc:gk o with
 | some c=>simp only[um hc h]
 | none=>simp only[kh h,vT h,nn h]
def Agree (ops:Array Oper) (o:Oper) (t t':TM):Prop:=∀d∈o.looksAt ops,t.get d=t'.get d
def Agree.ev {ops:Array Oper} {o:Oper} {t t':TM} (h:Agree ops o t t'):∀x∈o.op.operands,Ev.ev t x=Ev.ev t' x:=by
 intro x hx;cases x with
 | tmp d=> refine h d ?_;unfold Oper.looksAt;refine Ku _ (List.mem_filterMap.2 ⟨.tmp d,by simpa using hx,rfl⟩)
 | _=>rfl
def Agree.wanted {ops:Array Oper} {o:Oper} {t t':TM} (h:Agree ops o t t'):bU ops t o=bU ops t' o:=by
 unfold bU;cases hg:o.guard with
 | none=>rfl
 | some gw=>
  obtain⟨g,want⟩:=gw;simp only;cases ho:ops[g]? with
  | none=>rfl
  | some og=>
   simp only;cases hd:og.dst with
   | none=>rfl
   | some d=> have:t.get d=t'.get d:=h d (by simp[Oper.looksAt,hg,ho,hd]);simp only[this]
def Agree.light {ops:Array Oper} {o:Oper} {t t':TM} (h:Agree ops o t t') (E:Env) (hp:H):en E ops o t hp=en E ops o t' hp:=by unfold en;rw[h.wanted,kh h.ev]
def vF (h h':H):Prop:=∀id,h.objs.get id=.dead \/ h'.objs.get id=h.objs.get id
def vF.refl (h:H):vF h h:=λ_=>.inr rfl
def vF.trans {h h' h'':H} (a:vF h h') (b:vF h' h''):vF h h'':=by
 intro id;rcases a id with e | e
 ·exact .inl e
 ·rcases b id with f | f
  ·rw[e] at f;exact .inl f
  ·exact .inr (f.trans e)
def yz {E:Env} {h h':H} (hl:vF h h') {t:TypeId} {a:Addr} {v:Value} (hv:bD E h t a=some v):bD E h' t a=some v:=by
 rcases hl a.block with e | e
 ·unfold bD at hv;rw[e] at hv;split at hv
  ·rename_i e' ;cases e'
  ·cases hv
 ·unfold bD at hv ⊢;rw[e];exact hv
def zb {E:Env} {h h':H} (hl:vF h h') {s d:TypeId} {x v:Value} (hv:aY E h s d x=some v):aY E h' s d x=some v:=by
 unfold aY at hv;split at hv
 ·rename_i e1 e2;unfold aY;simp only[e1,e2];exact hv
 ·rename_i e1 e2;unfold aY;simp only[e1,e2];exact hv
 ·rename_i e1 e2;unfold aY;simp only[e1,e2];exact hv
 ·rename_i e a len c e1 e2;unfold aY;simp only[e1,e2];split at hv
  ·rename_i e3
   try simp only[e3]
   cases a with
   | none=>exact hv
   | some ad=>
    simp only at hv ⊢;rcases hl ad.block with f | f
    ·rw[f] at hv;simp at hv
    ·rw[f];exact hv
  ·cases hv
 ·rename_i t ad e1 e2;unfold aY;simp only[e1,e2];rcases hl ad.block with f | f
  ·rw[f] at hv;simp at hv
  ·rw[f];exact hv
 ·rename_i u ad e1 e2;unfold aY;simp only[e1,e2];rcases hl ad.block with f | f
  ·rw[f] at hv;simp at hv
  ·rw[f];exact hv
 ·cases hv
def t8 {E:Env} {h h':H} (hl:vF h h') {t:TypeId} {x i v:Value} {ok:Bool} (hv:jJ E h t x i ok=some v):jJ E h' t x i ok=some v:=by
 unfold jJ at hv ⊢;split at hv
 ·rename_i k e e1;split at hv
  ·rename_i d e2;cases hk:ml d i with
   | false=>simp[hk] at hv
   | true=>
    simp only[hk,Jo] at hv ⊢;split at hv
    ·rename_i r
     try simp only
     rcases hl r with f | f
     ·rw[f] at hv;simp at hv
     ·rw[f];exact hv
    ·cases hv
  ·cases hv
 ·cases hv
def DZ {E:Env} {h h':H} (hl:vF h h') {t:TypeId} {x v:Value} (hv:aX E h t x=some v):aX E h' t x=some v:=by
 unfold aX at hv;split at hv
 ·rename_i e1;unfold aX;simp only[e1];exact hv
 ·rename_i e1;unfold aX;simp only[e1];exact hv
 ·rename_i e1;unfold aX;simp only[e1];exact hv
 ·rename_i r e1;unfold aX;simp only[e1];rcases hl r with f | f
  ·rw[f] at hv;simp at hv
  ·rw[f];exact hv
 ·cases hv
def Ag {E:Env} {h h':H} (hl:vF h h') {t:TM} {o:Oper} {v:Value} (hv:light E t h o=some v):light E t h' o=some v:=by
 obtain⟨dst,op,type,pos,after,guard⟩:=o;cases op <;> simp only[light] at hv ⊢
 case load ty a=>
  split at hv
  ·rename_i ad e;exact yz hl hv
  ·cases hv
 case convert s d x=>exact zb hl hv
 case lookup ty x i ok=>exact t8 hl hv
 case call c=>
  split at hv
  ·rename_i b e;unfold bF at hv ⊢;split at hv
   ·rename_i e1 e2;exact DZ hl hv
   ·rename_i e1 e2;exact hv
   ·rename_i e1;exact hv
   ·rename_i e1;exact hv
   ·rename_i e1;exact hv
   ·rename_i e1;exact hv
   ·cases hv
  ·cases hv
 case makeFunc fn first captured=>cases fn <;> exact hv
 all_goals exact hv
def vD {E:Env} {ops:Array Oper} {h h':H} (hl:vF h h') {t:TM} {o:Oper} {v:Value} (hv:en E ops o t h=some v):en E ops o t h'=some v:=by
 unfold en at hv ⊢;split at hv
 ·exact Ag hl hv
 ·exact hv
 ·cases hv
section
def direct (o:Oper):List Nat:=o.after.toList.filterMap λe=>bif Region.binds .any e then some e.on else none
def pN:List Oper->Nat->T (Option Nat)->Option (T (Option Nat))
 | [],_,t=>some t
 | o :: l,k,t=>match o.dst with
  | none=>pN l (k+1) t
  | some d=>bif ble d 1000000000 then (match t.get d with
   | none=>pN l (k+1) (t.ins deep d (some k))
   | some _=>none) else none
def sub (a b:Nat):Bool:=beq (Nat.land a b) a
def anj (bf:Nat->Nat):List Nat->Nat->Nat
 | [],m=>m
 | p :: l,m=>anj bf l (Nat.lor m (Nat.lor (Nat.shiftLeft 1 p) (bf p)))
def lZ (ops:Array Oper) (bf:Nat->Nat) (asg:T (Option Nat)) (i D L:Nat):Bool:=
 match ops[i]? with
 | none=>false
 | some o=>!Nat.testBit D i&&(direct o).all (λp=>Nat.testBit D p)&&sub (bf i) D&&sub L (bf i) &&
   (o.looksAt ops).all (λd=>match asg.get d with | none=>true | some k=>Nat.testBit (bf i) k||Nat.testBit (bf k) i)&&sub (bf i) (anj bf (direct o) 0)
def aoE (ops:Array Oper) (bf:Nat->Nat) (asg:T (Option Nat)) (i D:Nat):Bool:=
 match ops[i]? with
 | none=>false
 | some o=>Nat.testBit D i&&sub (bf i) D&&(o.looksAt ops).all (λd=>match asg.get d with | none=>true | some k=>Nat.testBit (bf i) k||!Nat.testBit D k)
def scan (ops:Array Oper) (bf:Nat->Nat) (asg:T (Option Nat)) (keep:Nat):List PS->(D Dl cur R W L cnt:Nat)->Bool
 | [],D,Dl,_,R,W,_,cnt=>beq D (Nat.shiftLeft 1 ops.size-1)&&sub Dl (Nat.lor R W)&&ble cnt keep
 |.ex i :: l,D,Dl,cur,R,W,L,cnt=>lZ ops bf asg i D L&&scan ops bf asg keep l (Nat.lor D (Nat.shiftLeft 1 i)) Dl (Nat.lor cur (Nat.shiftLeft 1 i)) R W L cnt
 |.re i :: l,D,Dl,cur,R,W,L,cnt=>aoE ops bf asg i D&&scan ops bf asg keep l D Dl cur (Nat.lor R (Nat.shiftLeft 1 i)) W L cnt
 |.al i k :: l,D,Dl,cur,R,W,L,cnt=>lZ ops bf asg i D L&&beq k cnt&&scan ops bf asg keep l (Nat.lor D (Nat.shiftLeft 1 i)) Dl cur R W L (cnt+1)
 |.hv i :: l,D,Dl,cur,R,W,L,cnt=>lZ ops bf asg i D L&&sub Dl (Nat.lor R W)&&scan ops bf asg keep l (Nat.lor D (Nat.shiftLeft 1 i)) (Nat.lor Dl cur) 0 0 (Nat.lor W (bf i)) (Nat.shiftLeft 1 i) cnt
def ce (ops:Array Oper) (p:lH):Bool:=
 match pN ops.toList 0 (.c none) with
 | none=>false
 | some asg=>scan ops (λi=>p.before.getD i 0) asg p.keep p.steps 0 0 0 0 0 0 0
def ny {a b:Nat} (h:sub a b=true) {i:Nat} (hi:Nat.testBit a i=true):Nat.testBit b i=true:=by
 have h:=I8 h;have:Nat.testBit (a &&& b) i=true:=by show Nat.testBit (Nat.land a b) i=true;rw[h];exact hi
 rw[Nat.testBit_and] at this;simp only[Ja] at this;exact this.2
def l9 {a b i:Nat}:Nat.testBit (Nat.lor a b) i=(Nat.testBit a i||Nat.testBit b i):=Nat.testBit_or a b i
def nI {i j:Nat}:Nat.testBit (Nat.shiftLeft 1 i) j=decide (i=j):=by show Nat.testBit (1 <<< i) j=_;rw[Nat.one_shiftLeft,Nat.testBit_two_pow]
def de {D i j:Nat}:Nat.testBit (Nat.lor D (Nat.shiftLeft 1 i)) j=true ↔ Nat.testBit D j=true \/ i=j:=by rw[l9,nI];simp
def gS (i:Nat):Nat.testBit 0 i=false:=Nat.zero_testBit i
def OP {n i:Nat}:Nat.testBit (Nat.shiftLeft 1 n-1) i=decide (i<n):=by show Nat.testBit (1 <<< n-1) i=_;rw[Nat.one_shiftLeft,Nat.testBit_two_pow_sub_one]
def vP (bf:Nat->Nat):∀(l:List Nat) (m i:Nat),Nat.testBit (anj bf l m) i=true->Nat.testBit m i=true \/ ∃p∈l,i=p \/ Nat.testBit (bf p) i=true
 | [],m,i,h=>.inl h
 | p :: l,m,i,h=>by
  rcases vP bf l _ i h with h | ⟨q,hq,h⟩
  ·rw[l9,l9,nI] at h;simp only[J4,Kh] at h;rcases h with h | h | h
   ·exact .inl h
   ·exact .inr ⟨p,by simp,.inl h.symm⟩
   ·exact .inr ⟨p,by simp,.inr h⟩
  ·exact .inr ⟨q,by simp[hq],h⟩
def pH:∀(l:List Oper) (k:Nat) (t asg:T (Option Nat)),pN l k t=some asg ->
  (∀j o d,l[j]?=some o->o.dst=some d->asg.get d=some (k+j))/\(∀d v,t.get d=some v->asg.get d=some v)
 | [],k,t,asg,h=>by simp only[pN,I9] at h;subst h;exact⟨λj o d e=>by simp at e,λd v e=>e⟩
 | o :: l,k,t,asg,h=>by
  unfold pN at h;split at h
  ·rename_i e;obtain⟨h1,h2⟩:=pH l (k+1) t asg h;refine⟨λj o' d e1 e2=>?_,h2⟩;cases j with
   | zero=>simp at e1;subst e1;rw[e] at e2;cases e2
   | succ j=>rw[h1 j o' d (by simpa using e1) e2];congr 1;omega
  ·rename_i d0 e;cases hd:ble d0 1000000000 with
   | false=>simp[hd] at h
   | true=>
    simp only[hd,Jo] at h;have hd:=I7 hd;split at h
    ·rename_i e0;obtain⟨h1,h2⟩:=pH l (k+1) _ asg h;have hget:∀j,(t.ins deep d0 (some k)).get j=if j=d0 then some k else t.get j:=λj=>T.get_ins _ _ _ _ _ (dX (by omega))
     refine⟨λj o' d e1 e2=>?_,λd v ev=>?_⟩
     ·cases j with
      | zero=> simp at e1;subst e1;rw[e] at e2;cases e2;exact h2 d0 k (by rw[hget,if_pos rfl])
      | succ j=>rw[h1 j o' d (by simpa using e1) e2];congr 1;omega
     ·refine h2 d v ?_;rw[hget,if_neg]
      ·exact ev
      ·intro ed;subst ed;rw[e0] at ev;cases ev
    ·cases h
def mO:∀{a b:List Value},qv a b=true->a=b
 | [],[],_=>rfl
 | x :: a,y :: b,h=>by simp only[qv,Ja] at h;rw[mN h.1,mO h.2]
 | [],_ :: _,h=>by cases h
 | _ :: _,[],h=>by cases h
def ED {a b:Value} (h:iT a b=true):a=b:=by
 unfold iT at h;split at h
 ·rw[mO h]
 ·exact mN h
def Iv {a b:Value} (h:am a b=true):a=b:=by
 unfold am at h;split at h
 ·rfl
 ·simp only[Ja] at h;rw[I8 h.1.1,mO h.1.2,mO h.2]
 ·simp only[Ja] at h;rw[I8 h.1,mN h.2]
 ·exact ED h
section
variable (E : Env) (ex : gq) (ops : Array Oper) (bf : Nat -> Nat) (asg : T (Option Nat)) (base : Nat) (t0 tF : TM)
def YJ (i d:Nat):Value:=
 match asg.get d with
 | some k=>bif Nat.testBit (bf i) k then tF.get d else t0.get d
 | none=>tF.get d
def Eu (i:Nat) (o:Oper) (t:TM):Prop:=∀d∈o.looksAt ops,t.get d=YJ bf asg t0 tF i d
def LW (h:H) (i:Nat):Prop:=∃o v t,ops[i]?=some o/\Eu ops bf asg t0 tF i o t/\en E ops o t h=some v/\∀d,o.dst=some d->tF.get d=v
def PF:List PS->H->H->Prop
 | [],h,hF=>h=hF
 |.ex i :: l,h,hF=>LW E ops bf asg t0 tF h i/\PF l h hF
 |.re i :: l,h,hF=>LW E ops bf asg t0 tF h i/\PF l h hF
 |.al i k :: l,h,hF=>∃o t,ops[i]?=some o/\Eu ops bf asg t0 tF i o t /\
   ((bU ops t o=some true/\∃ob f,dk E t o=some (ob,f)/\(∀d,o.dst=some d->tF.get d=f (base+k))/\PF l (h.set (base+k) ob) hF) \/
    (bU ops t o=some false/\(∀d,o.dst=some d->tF.get d=undef)/\PF l h hF))
 |.hv i :: l,h,hF=>∃o t,ops[i]?=some o/\Eu ops bf asg t0 tF i o t /\
   ((bU ops t o=some true/\∃v h',ie E ex o t h=some (v,h')/\(∀d,o.dst=some d->tF.get d=v)/\PF l h' hF) \/
    (bU ops t o=some false/\(∀d,o.dst=some d->tF.get d=undef)/\PF l h hF))
end
structure lf (ops:Array Oper) (D:Nat) (t tF:TM):Prop where
 late:∀d,(∀k o,ops[k]?=some o->o.dst=some d->Nat.testBit D k=true)->t.get d=tF.get d
def xM (ops:Array Oper) (D:Nat) (t t0:TM):Prop:=∀d,(∀k o,ops[k]?=some o->o.dst=some d->Nat.testBit D k=false)->t.get d=t0.get d
section
variable {E : Env} {ex : gq} {ops : Array Oper} {base : Nat} {bf : Nat -> Nat} {asg : T (Option Nat)} {keep : Nat} {t0 : TM}
def eJ {i D L:Nat} (h:lZ ops bf asg i D L=true):∃o,ops[i]?=some o/\Nat.testBit D i=false/\(∀p∈direct o,Nat.testBit D p=true)/\(∀b,Nat.testBit (bf i) b=true->Nat.testBit D b=true) /\
  (∀b,Nat.testBit L b=true->Nat.testBit (bf i) b=true)/\(∀d∈o.looksAt ops,∀k,asg.get d=some k->Nat.testBit (bf i) k=true \/ Nat.testBit (bf k) i=true) /\
  (∀b,Nat.testBit (bf i) b=true->∃p∈direct o,b=p \/ Nat.testBit (bf p) b=true):=by
 unfold lZ at h;split at h
 ·cases h
 ·rename_i o e;simp only[Ja,Bool.not_eq_true'] at h;obtain⟨⟨⟨⟨⟨h1,h2⟩,h3⟩,h4⟩,h5⟩,h6⟩:=h;refine⟨o,e,h1,λp hp=>Jv.1 h2 p hp,λb hb=>ny h3 hb,λb hb=>ny h4 hb,λd hd k hk=>?_,λb hb=>?_⟩
  ·have:=Jv.1 h5 d hd;rw[hk] at this;simpa using this
  ·rcases vP bf _ _ b (ny h6 hb) with h | h
   ·rw[gS] at h;cases h
   ·exact h
def ll (hasg:∀j o d,ops[j]?=some o->o.dst=some d->asg.get d=some j) {i D:Nat} {o:Oper} {t tF:TM} (hs:lf ops D t tF) (he:xM ops D t t0)
  (hbf:∀b,Nat.testBit (bf i) b=true->Nat.testBit D b=true) (hl:∀d∈o.looksAt ops,∀k,asg.get d=some k->Nat.testBit (bf i) k=true \/ Nat.testBit D k=false):Eu ops bf asg t0 tF i o t:=by
 intro d hd;unfold YJ;cases ha:asg.get d with
 | none=> refine hs.late d λk o' e1 e2=>?_;rw[hasg k o' d e1 e2] at ha;cases ha
 | some k=>
  simp only;cases hb:Nat.testBit (bf i) k with
  | true=> simp only[Jo];refine hs.late d λk' o' e1 e2=>?_;have:=hasg k' o' d e1 e2;rw[ha] at this;cases this;exact hbf k hb
  | false=>
   simp only[JP];refine he d λk' o' e1 e2=>?_;have:=hasg k' o' d e1 e2;rw[ha] at this;cases this;rcases hl d hd k ha with h | h
   ·rw[hb] at h;cases h
   ·exact h
def lf.put (hasg:∀j o d,ops[j]?=some o->o.dst=some d->asg.get d=some j) (hsmall:∀o∈ops.toList,eF 1000000000 o=true) {i D:Nat} {o:Oper} (ho:ops[i]?=some o) (hi:Nat.testBit D i=false) {t tF:TM} {v:Value}
  (h:lf ops (Nat.lor D (Nat.shiftLeft 1 i)) (putV t o.dst v) tF):lf ops D t tF/\∀d,o.dst=some d->tF.get d=v:=by
 have hd:∀d,o.dst=some d->d+1<2 ^ deep:=by intro d e;have:=hsmall o (by simpa using Array.mem_of_getElem? ho);simp only[eF,e] at this;have:d<1000000000:=I7 this;exact dX (JV (Nat.le_of_lt this) (by decide))
 constructor
 ·refine⟨λd hall=>?_⟩;have h1:=h.late d λk o' e1 e2=>de.2 (.inl (hall k o' e1 e2));rw[<-h1];unfold putV;cases e:o.dst with
  | none=>rfl
  | some d'=> simp only;rw[T.get_ins _ _ _ _ _ (hd d' e),if_neg];intro e';subst e';have:=hall i o ho e;rw[hi] at this;cases this
 ·intro d e;have h1:=h.late d λk o' e1 e2=>by have:=hasg k o' d e1 e2;rw[hasg i o d ho e] at this;cases this;exact de.2 (.inr rfl)
  rw[<-h1];unfold putV;simp only[e];rw[T.get_ins _ _ _ _ _ (hd d e),if_pos rfl]
def xM.put (hsmall:∀o∈ops.toList,eF 1000000000 o=true) {i D:Nat} {o:Oper} (ho:ops[i]?=some o) {t:TM} {v:Value} (h:xM ops D t t0):xM ops (Nat.lor D (Nat.shiftLeft 1 i)) (putV t o.dst v) t0:=by
 intro d hall;have h1:=h d λk o' e1 e2=>by
  cases hb:Nat.testBit D k with
  | false=>rfl
  | true=>have:=hall k o' e1 e2;rw[de.2 (.inl hb)] at this;cases this
 rw[<-h1];unfold putV;cases e:o.dst with
 | none=>rfl
 | some d'=>
  simp only;have hd:d'+1<2 ^ deep:=by have:=hsmall o (by simpa using Array.mem_of_getElem? ho);simp only[eF,e] at this;have:d'<1000000000:=I7 this;exact dX (JV (Nat.le_of_lt this) (by decide))
  rw[T.get_ins _ _ _ _ _ hd,if_neg];intro e';subst e';have:=hall i o ho e;rw[de.2 (.inr rfl)] at this;cases this
def mu (hasg:∀j o d,ops[j]?=some o->o.dst=some d->asg.get d=some j) (hsmall:∀o∈ops.toList,eF 1000000000 o=true) {tF:TM} {hF:H}:
  ∀(l:List PS) (D Dl cur R W L cnt:Nat) (t:TM) (h:H),scan ops bf asg keep l D Dl cur R W L cnt=true->(∀k,Nat.testBit D k=true->∀b,Nat.testBit (bf k) b=true->Nat.testBit D b=true)->xM ops D t t0->eQ E ex ops base l t h=some (tF,hF) ->
   lf ops D t tF/\PF E ex ops bf asg base t0 tF l h hF
 | [],D,Dl,cur,R,W,L,cnt,t,h,hs,hcl,hea,hv=>by simp only[eQ,I9,JA] at hv;obtain⟨rfl,rfl⟩:=hv;exact⟨⟨λ_ _=>rfl⟩,rfl⟩
 |.ex i :: l,D,Dl,cur,R,W,L,cnt,t,h,hs,hcl,hea,hv=>by
  simp only[scan,Ja] at hs;obtain⟨o,ho,h1,h2,h3,h4,h5,h6⟩:=eJ hs.1;have hcl':∀k,Nat.testBit (Nat.lor D (Nat.shiftLeft 1 i)) k=true->∀b,Nat.testBit (bf k) b=true->Nat.testBit (Nat.lor D (Nat.shiftLeft 1 i)) b=true:=by
   intro k hk b hb;rcases de.1 hk with hk | hk
   ·exact de.2 (.inl (hcl k hk b hb))
   ·subst hk;exact de.2 (.inl (h3 b hb))
  have hl:∀d∈o.looksAt ops,∀k,asg.get d=some k->Nat.testBit (bf i) k=true \/ Nat.testBit D k=false:=by
   intro d hd k hk;refine (h5 d hd k hk).imp (λh=>h) λh=>?_;cases hb:Nat.testBit D k with
   | false=>rfl
   | true=>have:=hcl k hb i h;rw[h1] at this;cases this
  simp only[eQ,ho] at hv;cases hlw:en E ops o t h with
  | none=>simp[hlw] at hv
  | some v=> simp only[hlw] at hv;obtain⟨g1,g2⟩:=mu hasg hsmall l _ _ _ _ _ _ _ _ _ hs.2 hcl' (hea.put hsmall ho) hv;obtain⟨g3,g4⟩:=g1.put hasg hsmall ho h1;exact⟨g3,⟨o,v,t,ho,ll hasg g3 hea h3 hl,hlw,g4⟩,g2⟩
 |.re i :: l,D,Dl,cur,R,W,L,cnt,t,h,hs,hcl,hea,hv=>by
  simp only[scan,Ja] at hs;have hre:=hs.1;unfold aoE at hre;cases ho:ops[i]? with
  | none=>simp[ho] at hre
  | some o=>
   simp only[ho,Ja] at hre;obtain⟨⟨h1,h2⟩,h3⟩:=hre;simp only[eQ,ho] at hv;cases hl:en E ops o t h with
   | none=>simp[hl] at hv
   | some v=>
    have hlook:∀d∈o.looksAt ops,∀k,asg.get d=some k->Nat.testBit (bf i) k=true \/ Nat.testBit D k=false:=λd hd k hk=>by have:=Jv.1 h3 d hd;rw[hk] at this;simpa using this
    have fin:∀(hrest:eQ E ex ops base l t h=some (tF,hF)),(∀d,o.dst=some d->am v (t.get d)=true)->lf ops D t tF/\PF E ex ops bf asg base t0 tF (.re i :: l) h hF:=by intro hrest hsame;obtain⟨g1,g2⟩:=mu hasg hsmall l _ _ _ _ _ _ _ _ _ hs.2 hcl hea hrest;refine⟨g1,⟨o,v,t,ho,ll hasg g1 hea (λb hb=>ny h2 hb) hlook,hl,λd e=>?_⟩,g2⟩;rw[Iv (hsame d e)];refine (g1.late d λk o' e1 e2=>?_).symm;have:=hasg k o' d e1 e2;rw[hasg i o d ho e] at this;cases this;exact h1
    cases hdst:o.dst with
    | none=> simp only[hl,hdst] at hv;exact fin hv (λd e=>by rw[hdst] at e;cases e)
    | some d=>
     simp only[hl,hdst] at hv;cases hsm:am v (t.get d) with
     | false=>simp[hsm] at hv
     | true=> simp only[hsm,Jo] at hv;exact fin hv (λd' e=>by rw[hdst] at e;cases e;exact hsm)
 |.al i k :: l,D,Dl,cur,R,W,L,cnt,t,h,hs,hcl,hea,hv=>by
  simp only[scan,Ja] at hs;obtain⟨o,ho,h1,h2,h3,h4,h5,h6⟩:=eJ hs.1.1;have hcl':∀k,Nat.testBit (Nat.lor D (Nat.shiftLeft 1 i)) k=true->∀b,Nat.testBit (bf k) b=true->Nat.testBit (Nat.lor D (Nat.shiftLeft 1 i)) b=true:=by
   intro k hk b hb;rcases de.1 hk with hk | hk
   ·exact de.2 (.inl (hcl k hk b hb))
   ·subst hk;exact de.2 (.inl (h3 b hb))
  have hl:∀d∈o.looksAt ops,∀k,asg.get d=some k->Nat.testBit (bf i) k=true \/ Nat.testBit D k=false:=by
   intro d hd k hk;refine (h5 d hd k hk).imp (λh=>h) λh=>?_;cases hb:Nat.testBit D k with
   | false=>rfl
   | true=>have:=hcl k hb i h;rw[h1] at this;cases this
  simp only[eQ,ho] at hv;cases hw:bU ops t o with
  | none=>simp[hw] at hv
  | some b=>
   cases b with
   | true=>
    simp only[hw] at hv;cases ha:dk E t o with
    | none=>simp[ha] at hv
    | some u=> obtain⟨ob,f⟩:=u;simp only[ha] at hv;obtain⟨g1,g2⟩:=mu hasg hsmall l _ _ _ _ _ _ _ _ _ hs.2 hcl' (hea.put hsmall ho) hv;obtain⟨g3,g4⟩:=g1.put hasg hsmall ho h1;exact⟨g3,o,t,ho,ll hasg g3 hea h3 hl,.inl ⟨hw,ob,f,ha,g4,g2⟩⟩
   | false=> simp only[hw] at hv;obtain⟨g1,g2⟩:=mu hasg hsmall l _ _ _ _ _ _ _ _ _ hs.2 hcl' (hea.put hsmall ho) hv;obtain⟨g3,g4⟩:=g1.put hasg hsmall ho h1;exact⟨g3,o,t,ho,ll hasg g3 hea h3 hl,.inr ⟨hw,g4,g2⟩⟩
 |.hv i :: l,D,Dl,cur,R,W,L,cnt,t,h,hs,hcl,hea,hv=>by
  simp only[scan,Ja] at hs;obtain⟨o,ho,h1,h2,h3,h4,h5,h6⟩:=eJ hs.1.1;have hcl':∀k,Nat.testBit (Nat.lor D (Nat.shiftLeft 1 i)) k=true->∀b,Nat.testBit (bf k) b=true->Nat.testBit (Nat.lor D (Nat.shiftLeft 1 i)) b=true:=by
   intro k hk b hb;rcases de.1 hk with hk | hk
   ·exact de.2 (.inl (hcl k hk b hb))
   ·subst hk;exact de.2 (.inl (h3 b hb))
  have hl:∀d∈o.looksAt ops,∀k,asg.get d=some k->Nat.testBit (bf i) k=true \/ Nat.testBit D k=false:=by
   intro d hd k hk;refine (h5 d hd k hk).imp (λh=>h) λh=>?_;cases hb:Nat.testBit D k with
   | false=>rfl
   | true=>have:=hcl k hb i h;rw[h1] at this;cases this
  simp only[eQ,ho] at hv;unfold Eo at hv;cases hw:bU ops t o with
  | none=>simp[hw] at hv
  | some b=>
   cases b with
   | true=>
    simp only[hw] at hv;cases ha:ie E ex o t h with
    | none=>simp[ha] at hv
    | some u=> obtain⟨v,h'⟩:=u;simp only[ha] at hv;obtain⟨g1,g2⟩:=mu hasg hsmall l _ _ _ _ _ _ _ _ _ hs.2 hcl' (hea.put hsmall ho) hv;obtain⟨g3,g4⟩:=g1.put hasg hsmall ho h1;exact⟨g3,o,t,ho,ll hasg g3 hea h3 hl,.inl ⟨hw,v,h',ha,g4,g2⟩⟩
   | false=> simp only[hw] at hv;obtain⟨g1,g2⟩:=mu hasg hsmall l _ _ _ _ _ _ _ _ _ hs.2 hcl' (hea.put hsmall ho) hv;obtain⟨g3,g4⟩:=g1.put hasg hsmall ho h1;exact⟨g3,o,t,ho,ll hasg g3 hea h3 hl,.inr ⟨hw,g4,g2⟩⟩
end
end
section
section
variable {P : Program} {ρ₀ ρ : Ren} {h₀ h h' : H} {w₀ w : World}
def eZ.place (hr:eZ P ρ h w) (hn:h'.next=h.next) (hd:∀id,h'.objs.get id=h.objs.get id \/ (ρ id=none/\id<h.next/\id+1<2 ^ deep)):eZ P ρ h' w:=by
 have hm:∀id p,ρ id=some p->h'.objs.get id=h.objs.get id:=by
  intro id p e;rcases hd id with x | x
  ·exact x
  ·rw[e] at x;cases x.1
 refine⟨λid p e=>by rw[hn];exact hr.dom id p e,?_,?_,?_,?_,hr.glob,?_⟩
 ·intro i j p q hi hj li lj e;rw[hm i p hi] at li;rw[hm j q hj] at lj;exact hr.inj i j p q hi hj li lj e
 ·intro id p e;rw[hm id p e];exact hr.obj id p e
 ·intro id hl;rcases hd id with x | x
  ·rw[x] at hl;exact hr.small id hl
  ·exact x.2.2
 ·intro id hle;rw[hn] at hle;rcases hd id with x | x
  ·rw[x];exact hr.fresh id hle
  ·omega
 ·intro id p e hl;rw[hm id p e] at hl;exact hr.inside id p e hl
def Step.place (hs:Step P ρ₀ h₀ w₀ ρ h w) (hn:h'.next=h.next) (hd:∀id,h'.objs.get id=h.objs.get id \/ (ρ id=none/\h₀.next<=id/\id<h.next/\id+1<2 ^ deep)):Step P ρ₀ h₀ w₀ ρ h' w:=by
 refine⟨hs.ext,hs.old,by rw[hn];exact hs.next,?_,hs.rel.place hn (λid=>(hd id).imp (λy=>y) λx=>⟨x.1,x.2.2.1,x.2.2.2⟩),hs.same,?_,hs.size,hs.tape,hs.os,hs.output⟩
 ·intro id hlt hnone;rcases hd id with x | x
  ·rw[x];exact hs.keep id hlt hnone
  ·omega
 ·rintro b ⟨id,p,e,hb,hw⟩ hlt;rcases hd id with x | x
  ·rw[x] at hw;exact hs.own b ⟨id,p,e,hb,hw⟩ hlt
  ·rw[e] at x;cases x.1
def Step.mapIn (hs:Step P ρ₀ h₀ w₀ ρ h w) {id:Nat} {O:Obj} (hid:h₀.next<=id) (hlt:id<h.next) (hnone:ρ id=none)
  (hob:∀ρ',ρ.le ρ'->eV P ρ' (w.alloc O) (w.heap.size,0) (h.objs.get id)):Step P ρ₀ h₀ w₀ (ρ.upd id (w.heap.size,0)) h (w.alloc O):=by
 have hle:=Ren.le_upd (p:=(w.heap.size,0)) hnone;have hr:=hs.rel;refine⟨Ren.le_trans hs.ext hle,?_,hs.next,hs.keep,⟨?_,?_,?_,hr.small,hr.fresh,?_,?_⟩,?_,?_,?_,hs.tape,hs.os,hs.output⟩
 ·intro j q e hj;rw[Ren.upd_other (by omega)] at e;exact hs.old j q e hj
 ·intro j q e;by_cases ej:j=id
  ·rw[ej];exact hlt
  ·rw[Ren.upd_other ej] at e;exact hr.dom j q e
 ·intro i j p q hi hj li lj e;by_cases ei:i=id
  ·by_cases ej:j=id
   ·rw[ei,ej]
   ·exfalso;rw[ei,Ren.upd_same] at hi;cases hi;rw[Ren.upd_other ej] at hj;have:=hr.inside j q hj lj;omega
  ·rw[Ren.upd_other ei] at hi;by_cases ej:j=id
   ·exfalso;rw[ej,Ren.upd_same] at hj;cases hj;have:=hr.inside i p hi li;omega
   ·rw[Ren.upd_other ej] at hj;exact hr.inj i j p q hi hj li lj e
 ·intro j q e;by_cases ej:j=id
  ·rw[ej,Ren.upd_same] at e;cases e;rw[ej];exact hob _ hle
  ·rw[Ren.upd_other ej] at e;by_cases hl:live (h.objs.get j)=true
   ·have hin:=hr.inside j q e hl;exact ((hr.obj j q e).congr (heap_alloc_old w O _ hin)).mono hle
   ·cases eo:h.objs.get j with
    | dead=>trivial
    | row _ _ _ _ _ _=>rw[eo] at hl;simp[live] at hl
    | map _ _=>rw[eo] at hl;simp[live] at hl
    | iter _ _=>rw[eo] at hl;simp[live] at hl
 ·intro g hg;have:=hr.glob g hg;rw[Ren.upd_other]
  ·exact this
  ·intro e;rw[e,hnone] at this;cases this
 ·intro j q e hl;by_cases ej:j=id
  ·rw[ej,Ren.upd_same] at e;cases e;simp
  ·rw[Ren.upd_other ej] at e;have:=hr.inside j q e hl;simp;omega
 ·intro b hb hn;rw[heap_alloc_old w O b (Jp hb hs.size)];exact hs.same b hb hn
 ·rintro b ⟨j,q,e,hb,hw⟩ hlt';by_cases ej:j=id
  ·rw[ej,Ren.upd_same] at e;cases e;have:=hs.size;simp only at hb;omega
  ·rw[Ren.upd_other ej] at e;exact hs.own b ⟨j,q,e,hb,hw⟩ hlt'
 ·have:=hs.size;simp;omega
end
def fB:List PS->List PS
 | []=>[]
 |.hv _ :: _=>[]
 | x :: l=>x :: fB l
def rest:List PS->List PS
 | []=>[]
 |.hv i :: l=>.hv i :: l
 | _ :: l=>rest l
def jh:∀l,fB l++rest l=l
 | []=>rfl
 |.hv _ :: _=>rfl
 |.ex _ :: l=>by simp[fB,rest,jh l]
 |.re _ :: l=>by simp[fB,rest,jh l]
 |.al _ _ :: l=>by simp[fB,rest,jh l]
def iQ {x:PS} {l:List PS} (h:x∈fB l):x∈l:=by rw[<-jh l];exact Ku _ h
def kQ {x:PS} {l:List PS} (h:x∈rest l):x∈l:=by rw[<-jh l];exact Kf _ h
def lx {x:PS} {l:List PS} (h:x∈l):x∈fB l \/ x∈rest l:=by rw[<-jh l] at h;exact Kv.1 h
def ru {i:Nat}:∀{l:List PS},.hv i∉fB l
 | []=>by simp[fB]
 |.hv _ :: _=>by simp[fB]
 |.ex _ :: l=>by simp[fB,ru (l:=l)]
 |.re _ :: l=>by simp[fB,ru (l:=l)]
 |.al _ _ :: l=>by simp[fB,ru (l:=l)]
def fX:∀(l:List PS),rest l=[] \/ ∃i l',rest l=.hv i :: l'
 | []=>.inl rfl
 |.hv i :: l=>.inr ⟨i,l,rfl⟩
 |.ex _ :: l=>fX l
 |.re _ :: l=>fX l
 |.al _ _ :: l=>fX l
def Dn (i:Nat) (l:List PS):Prop:=.ex i∈l \/ (∃k,.al i k∈l) \/ .hv i∈l
section
variable {ops : Array Oper} {bf : Nat -> Nat} {asg : T (Option Nat)} {keep : Nat}
structure Ke (ops:Array Oper) (bf:Nat->Nat) (asg:T (Option Nat)) (i:Nat) (o:Oper):Prop where
 get:ops[i]?=some o
 looks:∀d∈o.looksAt ops,∀k,asg.get d=some k->Nat.testBit (bf i) k=true \/ Nat.testBit (bf k) i=true
 cert:∀b,Nat.testBit (bf i) b=true->∃p∈direct o,b=p \/ Nat.testBit (bf p) b=true
def kG {i D L:Nat} (h:lZ ops bf asg i D L=true):∃o,Ke ops bf asg i o:=by obtain⟨o,h1,_,_,_,_,h2,h3⟩:=eJ h;exact⟨o,h1,h2,h3⟩
def dJ {i:Nat}:∀{l:List PS} {D Dl cur R W L cnt:Nat},scan ops bf asg keep l D Dl cur R W L cnt=true->Dn i l->∃o,Ke ops bf asg i o
 | [],D,Dl,cur,R,W,L,cnt,hs,ho=>by rcases ho with h | ⟨k,h⟩ | h <;> simp at h
 |.ex j :: l,D,Dl,cur,R,W,L,cnt,hs,ho=>by
  simp only[scan,Ja] at hs;rcases ho with h | ⟨k,h⟩ | h
  ·rcases Jr.1 h with e | h
   ·cases e;exact kG hs.1
   ·exact dJ hs.2 (.inl h)
  ·exact dJ hs.2 (.inr (.inl ⟨k,by simpa using h⟩))
  ·exact dJ hs.2 (.inr (.inr (by simpa using h)))
 |.re j :: l,D,Dl,cur,R,W,L,cnt,hs,ho=>by
  simp only[scan,Ja] at hs;rcases ho with h | ⟨k,h⟩ | h
  ·exact dJ hs.2 (.inl (by simpa using h))
  ·exact dJ hs.2 (.inr (.inl ⟨k,by simpa using h⟩))
  ·exact dJ hs.2 (.inr (.inr (by simpa using h)))
 |.al j kk :: l,D,Dl,cur,R,W,L,cnt,hs,ho=>by
  simp only[scan,Ja] at hs;rcases ho with h | ⟨k,h⟩ | h
  ·exact dJ hs.2 (.inl (by simpa using h))
  ·rcases Jr.1 h with e | h
   ·cases e;exact kG hs.1.1
   ·exact dJ hs.2 (.inr (.inl ⟨k,h⟩))
  ·exact dJ hs.2 (.inr (.inr (by simpa using h)))
 |.hv j :: l,D,Dl,cur,R,W,L,cnt,hs,ho=>by
  simp only[scan,Ja] at hs;rcases ho with h | ⟨k,h⟩ | h
  ·exact dJ hs.2 (.inl (by simpa using h))
  ·exact dJ hs.2 (.inr (.inl ⟨k,by simpa using h⟩))
  ·rcases Jr.1 h with e | h
   ·cases e;exact kG hs.1.1
   ·exact dJ hs.2 (.inr (.inr h))
def iJ:∀{l:List PS} {D Dl cur R W L cnt:Nat},scan ops bf asg keep l D Dl cur R W L cnt=true->∀i,i<ops.size->Nat.testBit D i=true \/ Dn i l
 | [],D,Dl,cur,R,W,L,cnt,hs,i,hi=>by simp only[scan,Ja] at hs;have:=I8 hs.1.1;left;rw[this,OP];simp[hi]
 |.ex j :: l,D,Dl,cur,R,W,L,cnt,hs,i,hi=>by
  simp only[scan,Ja] at hs;rcases iJ hs.2 i hi with h | h | ⟨k,h⟩ | h
  ·rcases de.1 h with h | h
   ·exact .inl h
   ·exact .inr (.inl (by simp[h]))
  ·exact .inr (.inl (by simp[h]))
  ·exact .inr (.inr (.inl ⟨k,by simp[h]⟩))
  ·exact .inr (.inr (.inr (by simp[h])))
 |.re j :: l,D,Dl,cur,R,W,L,cnt,hs,i,hi=>by
  simp only[scan,Ja] at hs;rcases iJ hs.2 i hi with h | h | ⟨k,h⟩ | h
  ·exact .inl h
  ·exact .inr (.inl (by simp[h]))
  ·exact .inr (.inr (.inl ⟨k,by simp[h]⟩))
  ·exact .inr (.inr (.inr (by simp[h])))
 |.al j kk :: l,D,Dl,cur,R,W,L,cnt,hs,i,hi=>by
  simp only[scan,Ja] at hs;rcases iJ hs.2 i hi with h | h | ⟨k,h⟩ | h
  ·rcases de.1 h with h | h
   ·exact .inl h
   ·exact .inr (.inr (.inl ⟨kk,by simp[h]⟩))
  ·exact .inr (.inl (by simp[h]))
  ·exact .inr (.inr (.inl ⟨k,by simp[h]⟩))
  ·exact .inr (.inr (.inr (by simp[h])))
 |.hv j :: l,D,Dl,cur,R,W,L,cnt,hs,i,hi=>by
  simp only[scan,Ja] at hs;rcases iJ hs.2 i hi with h | h | ⟨k,h⟩ | h
  ·rcases de.1 h with h | h
   ·exact .inl h
   ·exact .inr (.inr (.inr (by simp[h])))
  ·exact .inr (.inl (by simp[h]))
  ·exact .inr (.inr (.inl ⟨k,by simp[h]⟩))
  ·exact .inr (.inr (.inr (by simp[h])))
def jn:∀{l:List PS} {D Dl cur R W L cnt:Nat},scan ops bf asg keep l D Dl cur R W L cnt=true->∀i,Dn i l->Nat.testBit D i=false
 | [],D,Dl,cur,R,W,L,cnt,hs,i,ho=>by rcases ho with h | ⟨k,h⟩ | h <;> simp at h
 | x :: l,D,Dl,cur,R,W,L,cnt,hs,i,ho=>by
  have key:∀{j Dl' cur' R' W' L' cnt':Nat},scan ops bf asg keep l (Nat.lor D (Nat.shiftLeft 1 j)) Dl' cur' R' W' L' cnt'=true->Dn i l->Nat.testBit D i=false:=by
   intro j _ _ _ _ _ _ h1 h2;have:=jn h1 i h2;cases hb:Nat.testBit D i with
   | false=>rfl
   | true=>rw[de.2 (.inl hb)] at this;cases this
  cases x with
  | ex j=>
   simp only[scan,Ja] at hs;obtain⟨o,_,h1,_⟩:=eJ hs.1;rcases ho with h | ⟨k,h⟩ | h
   ·rcases Jr.1 h with e | h
    ·cases e;exact h1
    ·exact key hs.2 (.inl h)
   ·exact key hs.2 (.inr (.inl ⟨k,by simpa using h⟩))
   ·exact key hs.2 (.inr (.inr (by simpa using h)))
  | re j=>
   simp only[scan,Ja] at hs;rcases ho with h | ⟨k,h⟩ | h
   ·exact jn hs.2 i (.inl (by simpa using h))
   ·exact jn hs.2 i (.inr (.inl ⟨k,by simpa using h⟩))
   ·exact jn hs.2 i (.inr (.inr (by simpa using h)))
  | al j kk=>
   simp only[scan,Ja] at hs;obtain⟨o,_,h1,_⟩:=eJ hs.1.1;rcases ho with h | ⟨k,h⟩ | h
   ·exact key hs.2 (.inl (by simpa using h))
   ·rcases Jr.1 h with e | h
    ·cases e;exact h1
    ·exact key hs.2 (.inr (.inl ⟨k,h⟩))
   ·exact key hs.2 (.inr (.inr (by simpa using h)))
  | hv j=>
   simp only[scan,Ja] at hs;obtain⟨o,_,h1,_⟩:=eJ hs.1.1;rcases ho with h | ⟨k,h⟩ | h
   ·exact key hs.2 (.inl (by simpa using h))
   ·exact key hs.2 (.inr (.inl ⟨k,by simpa using h⟩))
   ·rcases Jr.1 h with e | h
    ·cases e;exact h1
    ·exact key hs.2 (.inr (.inr h))
def eL:∀{l:List PS} {D Dl cur R W L cnt:Nat},scan ops bf asg keep l D Dl cur R W L cnt=true->cnt<=keep/\∀i k,.al i k∈l->cnt<=k/\k<keep
 | [],D,Dl,cur,R,W,L,cnt,hs=>by simp only[scan,Ja] at hs;exact⟨I7 hs.2,λi k h=>by simp at h⟩
 |.ex j :: l,D,Dl,cur,R,W,L,cnt,hs=>by simp only[scan,Ja] at hs;obtain⟨h1,h2⟩:=eL hs.2;exact⟨h1,λi k h=>h2 i k (by simpa using h)⟩
 |.re j :: l,D,Dl,cur,R,W,L,cnt,hs=>by simp only[scan,Ja] at hs;obtain⟨h1,h2⟩:=eL hs.2;exact⟨h1,λi k h=>h2 i k (by simpa using h)⟩
 |.al j kk :: l,D,Dl,cur,R,W,L,cnt,hs=>by
  simp only[scan,Ja] at hs;obtain⟨h1,h2⟩:=eL hs.2;have hk:=I8 hs.1.2;refine⟨by omega,λi k h=>?_⟩;rcases Jr.1 h with e | h
  ·cases e;omega
  ·have:=h2 i k h;omega
 |.hv j :: l,D,Dl,cur,R,W,L,cnt,hs=>by simp only[scan,Ja] at hs;obtain⟨h1,h2⟩:=eL hs.2;exact⟨h1,λi k h=>h2 i k (by simpa using h)⟩
def kI:∀{l:List PS} {D Dl cur R W L cnt:Nat},scan ops bf asg keep l D Dl cur R W L cnt=true->∀i j k,.al i k∈l->.al j k∈l->i=j
 | [],D,Dl,cur,R,W,L,cnt,hs,i,j,k,hi,hj=>by simp at hi
 |.ex _ :: l,D,Dl,cur,R,W,L,cnt,hs,i,j,k,hi,hj=>by simp only[scan,Ja] at hs;exact kI hs.2 i j k (by simpa using hi) (by simpa using hj)
 |.re _ :: l,D,Dl,cur,R,W,L,cnt,hs,i,j,k,hi,hj=>by simp only[scan,Ja] at hs;exact kI hs.2 i j k (by simpa using hi) (by simpa using hj)
 |.hv _ :: l,D,Dl,cur,R,W,L,cnt,hs,i,j,k,hi,hj=>by simp only[scan,Ja] at hs;exact kI hs.2 i j k (by simpa using hi) (by simpa using hj)
 |.al a kk :: l,D,Dl,cur,R,W,L,cnt,hs,i,j,k,hi,hj=>by
  simp only[scan,Ja] at hs;have hk:=I8 hs.1.2;obtain⟨_,h2⟩:=eL hs.2;rcases Jr.1 hi with e | hi
  ·rcases Jr.1 hj with e' | hj
   ·cases e;cases e';rfl
   ·cases e;have:=h2 j _ hj;omega
  ·rcases Jr.1 hj with e' | hj
   ·cases e';have:=h2 i _ hi;omega
   ·exact kI hs.2 i j k hi hj
def gG:∀{l:List PS} {D Dl cur R W L cnt:Nat},scan ops bf asg keep l D Dl cur R W L cnt=true->∀i,Dn i l ->
  (∀b,Nat.testBit L b=true->Nat.testBit (bf i) b=true) \/ ∃j,.hv j∈l/\Nat.testBit (bf i) j=true
 | [],D,Dl,cur,R,W,L,cnt,hs,i,ho=>by rcases ho with h | ⟨k,h⟩ | h <;> simp at h
 | x :: l,D,Dl,cur,R,W,L,cnt,hs,i,ho=>by
  have lift:(∃j,.hv j∈l/\Nat.testBit (bf i) j=true)->∃j,.hv j∈x :: l/\Nat.testBit (bf i) j=true:=λ⟨j,h1,h2⟩=>⟨j,by simp[h1],h2⟩;cases x with
  | ex j=>
   simp only[scan,Ja] at hs;obtain⟨o,_,_,_,_,h1,_⟩:=eJ hs.1;have go:Dn i l->_:=λh=>(gG hs.2 i h).imp id lift;rcases ho with h | ⟨k,h⟩ | h
   ·rcases Jr.1 h with e | h
    ·cases e;exact .inl h1
    ·exact go (.inl h)
   ·exact go (.inr (.inl ⟨k,by simpa using h⟩))
   ·exact go (.inr (.inr (by simpa using h)))
  | re j=>
   simp only[scan,Ja] at hs;have go:Dn i l->_:=λh=>(gG hs.2 i h).imp id lift;rcases ho with h | ⟨k,h⟩ | h
   ·exact go (.inl (by simpa using h))
   ·exact go (.inr (.inl ⟨k,by simpa using h⟩))
   ·exact go (.inr (.inr (by simpa using h)))
  | al j kk=>
   simp only[scan,Ja] at hs;obtain⟨o,_,_,_,_,h1,_⟩:=eJ hs.1.1;have go:Dn i l->_:=λh=>(gG hs.2 i h).imp id lift;rcases ho with h | ⟨k,h⟩ | h
   ·exact go (.inl (by simpa using h))
   ·rcases Jr.1 h with e | h
    ·cases e;exact .inl h1
    ·exact go (.inr (.inl ⟨k,h⟩))
   ·exact go (.inr (.inr (by simpa using h)))
  | hv j=>
   simp only[scan,Ja] at hs;obtain⟨o,_,_,_,_,h1,_⟩:=eJ hs.1.1;have go:Dn i l->∃j',.hv j'∈PS.hv j :: l/\Nat.testBit (bf i) j'=true:=λh=>by
    rcases gG hs.2 i h with h | h
    ·exact⟨j,by simp,h j (by rw[nI];simp)⟩
    ·exact lift h
   rcases ho with h | ⟨k,h⟩ | h
   ·exact .inr (go (.inl (by simpa using h)))
   ·exact .inr (go (.inr (.inl ⟨k,by simpa using h⟩)))
   ·rcases Jr.1 h with e | h
    ·cases e;exact .inl h1
    ·exact .inr (go (.inr (.inr h)))
end
end
section
section
variable {ops : Array Oper} {bf : Nat -> Nat} {asg : T (Option Nat)} {keep : Nat}
def iG:∀{l:List PS} {D Dl cur R W L cnt:Nat},scan ops bf asg keep l D Dl cur R W L cnt=true->∃D' cur' R' cnt',scan ops bf asg keep (rest l) D' Dl cur' R' W L cnt'=true /\
  (∀i,Nat.testBit D' i=true ↔ Nat.testBit D i=true \/ .ex i∈fB l \/ ∃k,.al i k∈fB l)/\(∀i,Nat.testBit cur' i=true ↔ Nat.testBit cur i=true \/ .ex i∈fB l) /\
  (∀i,Nat.testBit R' i=true ↔ Nat.testBit R i=true \/ .re i∈fB l)/\cnt<=cnt'/\(∀i k,.al i k∈fB l->cnt<=k/\k<cnt')
 | [],D,Dl,cur,R,W,L,cnt,hs=>⟨D,cur,R,cnt,hs,by simp[fB],by simp[fB],by simp[fB],Jd _,by simp[fB]⟩
 |.hv i :: l,D,Dl,cur,R,W,L,cnt,hs=>⟨D,cur,R,cnt,hs,by simp[fB],by simp[fB],by simp[fB],Jd _,by simp[fB]⟩
 |.ex j :: l,D,Dl,cur,R,W,L,cnt,hs=>by
  simp only[scan,Ja] at hs;obtain⟨D',cur',R',cnt',h1,h2,h3,h4,h5,h6⟩:=iG hs.2;refine⟨D',cur',R',cnt',h1,λi=>?_,λi=>?_,λi=>?_,h5,λi k h=>h6 i k (by simpa [fB] using h)⟩
  ·rw[h2 i,de];simp only[fB,Jr,PS.ex.injEq,reduceCtorEq,false_or];constructor
   ·rintro ((h | h) | h | h)
    ·exact .inl h
    ·exact .inr (.inl (.inl h.symm))
    ·exact .inr (.inl (.inr h))
    ·exact .inr (.inr h)
   ·rintro (h | (h | h) | h)
    ·exact .inl (.inl h)
    ·exact .inl (.inr h.symm)
    ·exact .inr (.inl h)
    ·exact .inr (.inr h)
  ·rw[h3 i,de];simp only[fB,Jr,PS.ex.injEq];constructor
   ·rintro ((h | h) | h)
    ·exact .inl h
    ·exact .inr (.inl h.symm)
    ·exact .inr (.inr h)
   ·rintro (h | h | h)
    ·exact .inl (.inl h)
    ·exact .inl (.inr h.symm)
    ·exact .inr h
  ·rw[h4 i];simp[fB]
 |.re j :: l,D,Dl,cur,R,W,L,cnt,hs=>by
  simp only[scan,Ja] at hs;obtain⟨D',cur',R',cnt',h1,h2,h3,h4,h5,h6⟩:=iG hs.2;refine⟨D',cur',R',cnt',h1,λi=>?_,λi=>?_,λi=>?_,h5,λi k h=>h6 i k (by simpa [fB] using h)⟩
  ·rw[h2 i];simp[fB]
  ·rw[h3 i];simp[fB]
  ·rw[h4 i,de];simp only[fB,Jr,PS.re.injEq];constructor
   ·rintro ((h | h) | h)
    ·exact .inl h
    ·exact .inr (.inl h.symm)
    ·exact .inr (.inr h)
   ·rintro (h | h | h)
    ·exact .inl (.inl h)
    ·exact .inl (.inr h.symm)
    ·exact .inr h
 |.al j kk :: l,D,Dl,cur,R,W,L,cnt,hs=>by
  simp only[scan,Ja] at hs;have hk:=I8 hs.1.2;obtain⟨D',cur',R',cnt',h1,h2,h3,h4,h5,h6⟩:=iG hs.2;refine⟨D',cur',R',cnt',h1,λi=>?_,λi=>?_,λi=>?_,by omega,λi k h=>?_⟩
  ·rw[h2 i,de];simp only[fB,Jr,PS.al.injEq,reduceCtorEq,false_or];constructor
   ·rintro ((h | h) | h | ⟨k,h⟩)
    ·exact .inl h
    ·exact .inr (.inr ⟨kk,.inl ⟨h.symm,rfl⟩⟩)
    ·exact .inr (.inl h)
    ·exact .inr (.inr ⟨k,.inr h⟩)
   ·rintro (h | h | ⟨k,h | h⟩)
    ·exact .inl (.inl h)
    ·exact .inr (.inl h)
    ·exact .inl (.inr h.1.symm)
    ·exact .inr (.inr ⟨k,h⟩)
  ·rw[h3 i];simp[fB]
  ·rw[h4 i];simp[fB]
  ·simp only[fB,Jr,PS.al.injEq] at h;rcases h with ⟨_,rfl⟩ | h
   ·omega
   ·have:=h6 i k h;omega
variable (E : Env) (base : Nat) (t0 tF : TM)
def AF (ops:Array Oper) (bf:Nat->Nat) (asg:T (Option Nat)) (h:H) (i k:Nat):Prop:=∃o t,ops[i]?=some o/\Eu ops bf asg t0 tF i o t /\
 ((bU ops t o=some true/\∃ob f,dk E t o=some (ob,f)/\(∀d,o.dst=some d->tF.get d=f (base+k))/\h.objs.get (base+k)=ob) \/
  (bU ops t o=some false/\∀d,o.dst=some d->tF.get d=undef))
variable {E base t0 tF} {ex : gq} {hF : H}
def LW.mono {h h':H} (hl:vF h h') {i:Nat} (hw:LW E ops bf asg t0 tF h i):LW E ops bf asg t0 tF h' i:=by obtain⟨o,v,t,h1,hs,h2,h3⟩:=hw;exact⟨o,v,t,h1,hs,vD hl h2,h3⟩
def nR (hbase:base+keep+1<2 ^ deep):∀{l:List PS} {D Dl cur R W L cnt:Nat} {h:H},scan ops bf asg keep l D Dl cur R W L cnt=true->PF E ex ops bf asg base t0 tF l h hF ->
  (∀i k,.al i k∈fB l->h.objs.get (base+k)=.dead) ->
  ∃hE,hE.next=h.next/\vF h hE/\(∀id,hE.objs.get id=h.objs.get id \/ ∃i k,.al i k∈fB l/\id=base+k) /\
   (∀i,.ex i∈fB l \/ .re i∈fB l->LW E ops bf asg t0 tF hE i)/\(∀i k,.al i k∈fB l->AF E base t0 tF ops bf asg hE i k)/\PF E ex ops bf asg base t0 tF (rest l) hE hF
 | [],D,Dl,cur,R,W,L,cnt,h,hs,hp,hd=>⟨h,rfl,vF.refl h,λ_=>.inl rfl,by simp[fB],by simp[fB],hp⟩
 |.hv i :: l,D,Dl,cur,R,W,L,cnt,h,hs,hp,hd=>⟨h,rfl,vF.refl h,λ_=>.inl rfl,by simp[fB],by simp[fB],hp⟩
 |.ex j :: l,D,Dl,cur,R,W,L,cnt,h,hs,hp,hd=>by
  simp only[scan,Ja] at hs;obtain⟨hE,h1,h2,h3,h4,h5,h6⟩:=nR hbase hs.2 hp.2 (λi k hm=>hd i k (by simp[fB,hm]));refine⟨hE,h1,h2,λid=>?_,λi hi=>?_,λi k hm=>h5 i k (by simpa [fB] using hm),h6⟩
  ·rcases h3 id with h | ⟨i,k,hm,e⟩
   ·exact .inl h
   ·exact .inr ⟨i,k,by simp[fB,hm],e⟩
  ·simp only[fB,Jr,PS.ex.injEq,reduceCtorEq,false_or] at hi;rcases hi with (rfl | hi) | hi
   ·exact hp.1.mono h2
   ·exact h4 i (.inl hi)
   ·exact h4 i (.inr hi)
 |.re j :: l,D,Dl,cur,R,W,L,cnt,h,hs,hp,hd=>by
  simp only[scan,Ja] at hs;obtain⟨hE,h1,h2,h3,h4,h5,h6⟩:=nR hbase hs.2 hp.2 (λi k hm=>hd i k (by simp[fB,hm]));refine⟨hE,h1,h2,λid=>?_,λi hi=>?_,λi k hm=>h5 i k (by simpa [fB] using hm),h6⟩
  ·rcases h3 id with h | ⟨i,k,hm,e⟩
   ·exact .inl h
   ·exact .inr ⟨i,k,by simp[fB,hm],e⟩
  ·simp only[fB,Jr,PS.re.injEq,reduceCtorEq,false_or] at hi;rcases hi with hi | rfl | hi
   ·exact h4 i (.inl hi)
   ·exact hp.1.mono h2
   ·exact h4 i (.inr hi)
 |.al j kk :: l,D,Dl,cur,R,W,L,cnt,h,hs,hp,hd=>by
  simp only[scan,Ja] at hs;have hk:=I8 hs.1.2;obtain⟨_,hnum⟩:=eL hs.2;obtain⟨_,hnum2⟩:=eL (l:=.al j kk :: l) (D:=D) (Dl:=Dl) (cur:=cur) (R:=R) (W:=W) (L:=L) (cnt:=cnt) (by simp only[scan,Ja];exact hs);have hkk:=hnum2 j kk (by simp);obtain⟨o,t,ho,hsee,hp⟩:=hp;rcases hp with ⟨hw,ob,f,ha,hf,hp⟩ | ⟨hw,hf,hp⟩
  ·have hget:∀k,(h.set (base+kk) ob).objs.get k=if k=base+kk then ob else h.objs.get k:=λk=>T.get_ins _ _ _ _ _ (by omega)
   have hdead:=hd j kk (by simp[fB]);have hle:vF h (h.set (base+kk) ob):=by
    intro id;by_cases e:id=base+kk
    ·subst e;exact .inl hdead
    ·right;rw[hget,if_neg e]
   obtain⟨hE,h1,h2,h3,h4,h5,h6⟩:=nR hbase hs.2 hp (λi k hm=>by
    have:=hnum i k (iQ hm);rw[hget,if_neg (by omega)]
    exact hd i k (by simp[fB,hm]))
   refine⟨hE,h1,hle.trans h2,λid=>?_,λi hi=>h4 i (by simpa [fB] using hi),λi k hm=>?_,h6⟩
   ·rcases h3 id with h | ⟨i,k,hm,e⟩
    ·by_cases e:id=base+kk
     ·exact .inr ⟨j,kk,by simp[fB],e⟩
     ·left;rw[h,hget,if_neg e]
    ·exact .inr ⟨i,k,by simp[fB,hm],e⟩
   ·simp only[fB,Jr,PS.al.injEq] at hm;rcases hm with ⟨rfl,rfl⟩ | hm
    ·refine⟨o,t,ho,hsee,.inl ⟨hw,ob,f,ha,hf,?_⟩⟩;rcases h3 (base+k) with h | ⟨i',k',hm',e⟩
     ·rw[h,hget,if_pos rfl]
     ·have:=hnum i' k' (iQ hm');omega
    ·exact h5 i k hm
  ·obtain⟨hE,h1,h2,h3,h4,h5,h6⟩:=nR hbase hs.2 hp (λi k hm=>hd i k (by simp[fB,hm]));refine⟨hE,h1,h2,λid=>?_,λi hi=>h4 i (by simpa [fB] using hi),λi k hm=>?_,h6⟩
   ·rcases h3 id with h | ⟨i,k,hm,e⟩
    ·exact .inl h
    ·exact .inr ⟨i,k,by simp[fB,hm],e⟩
   ·simp only[fB,Jr,PS.al.injEq] at hm;rcases hm with ⟨rfl,rfl⟩ | hm
    ·exact⟨o,t,ho,hsee,.inr ⟨hw,hf⟩⟩
    ·exact h5 i k hm
end
def oF {ops:Array Oper} {bf:Nat->Nat} {asg:T (Option Nat)} {keep:Nat} (S:Nat->Prop):∀{l:List PS} {D Dl cur R W L cnt:Nat},scan ops bf asg keep l D Dl cur R W L cnt=true->(∀i,Nat.testBit D i=true->S i) ->
  (∀i,Dn i l->S i) \/ ∃i o,ops[i]?=some o/\¬ S i/\∀p∈direct o,S p
 | [],D,Dl,cur,R,W,L,cnt,hs,hD=>.inl λi ho=>by rcases ho with h | ⟨k,h⟩ | h <;> simp at h
 | x :: l,D,Dl,cur,R,W,L,cnt,hs,hD=>by
  have key:∀{j Dl' cur' R' W' L' cnt':Nat},lZ ops bf asg j D L=true->scan ops bf asg keep l (Nat.lor D (Nat.shiftLeft 1 j)) Dl' cur' R' W' L' cnt'=true ->
    (S j/\∀i,Dn i l->S i) \/ ∃i o,ops[i]?=some o/\¬ S i/\∀p∈direct o,S p:=by
   intro j _ _ _ _ _ _ h1 h2;obtain⟨o,g1,g2,g3,_⟩:=eJ h1;rcases Classical.em (S j) with hj | hj
   ·rcases oF S h2 (λi hi=>by
     rcases de.1 hi with h | h
     ·exact hD i h
     ·rw[<-h];exact hj) with h | h
    ·exact .inl ⟨hj,h⟩
    ·exact .inr h
   ·exact .inr ⟨j,o,g1,hj,λp hp=>hD p (g3 p hp)⟩
  cases x with
  | ex j=>
   simp only[scan,Ja] at hs;refine (key hs.1 hs.2).imp (λh i ho=>?_) (λh=>h);rcases ho with g | ⟨k,g⟩ | g
   ·rcases Jr.1 g with e | g
    ·cases e;exact h.1
    ·exact h.2 i (.inl g)
   ·exact h.2 i (.inr (.inl ⟨k,by simpa using g⟩))
   ·exact h.2 i (.inr (.inr (by simpa using g)))
  | re j=>
   simp only[scan,Ja] at hs;refine (oF S hs.2 hD).imp (λh i ho=>?_) (λh=>h);rcases ho with g | ⟨k,g⟩ | g
   ·exact h i (.inl (by simpa using g))
   ·exact h i (.inr (.inl ⟨k,by simpa using g⟩))
   ·exact h i (.inr (.inr (by simpa using g)))
  | al j kk=>
   simp only[scan,Ja] at hs;refine (key hs.1.1 hs.2).imp (λh i ho=>?_) (λh=>h);rcases ho with g | ⟨k,g⟩ | g
   ·exact h.2 i (.inl (by simpa using g))
   ·rcases Jr.1 g with e | g
    ·cases e;exact h.1
    ·exact h.2 i (.inr (.inl ⟨k,g⟩))
   ·exact h.2 i (.inr (.inr (by simpa using g)))
  | hv j=>
   simp only[scan,Ja] at hs;refine (key hs.1.1 hs.2).imp (λh i ho=>?_) (λh=>h);rcases ho with g | ⟨k,g⟩ | g
   ·exact h.2 i (.inl (by simpa using g))
   ·exact h.2 i (.inr (.inl ⟨k,by simpa using g⟩))
   ·rcases Jr.1 g with e | g
    ·cases e;exact h.1
    ·exact h.2 i (.inr (.inr g))
def nN {ρ:Ren} {ops:Array Oper} {o:Oper} {tF:TM} {a:Act} (hsel:∀cs b,o.op ≠ .select cs b) (hl:∀d∈o.looksAt ops,VR ρ (tF.get d) (a.tmps.getD d undef)):
  ∃(t:TM) (b:Act),ek ρ t b/\Agree ops o tF t/\execOp a.eval o=execOp b.eval o:=by
 have hmax:∃N,∀d∈o.looksAt ops,d<N:=by
  generalize o.looksAt ops=l
  induction l with
  | nil=>exact⟨0,by simp⟩
  | cons x l ih=>
   obtain⟨N,hN⟩:=ih;refine⟨max N (x+1),λd hd=>?_⟩;rcases Jr.1 hd with rfl | hd
   ·exact Jp (KV _) (Nat.le_max_right _ _)
   ·exact Jp (hN d hd) (Nat.le_max_left _ _)
 obtain⟨N,hN⟩:=hmax
 let tv:Nat->Value:=λd=>if d∈o.looksAt ops then tF.get d else undef
 let av:Nat->Value:=λd=>if d∈o.looksAt ops then a.tmps.getD d undef else undef
 have hrel:∀d,VR ρ (tv d) (av d):=by
  intro d;by_cases h:d∈o.looksAt ops
  ·simp only[tv,av,if_pos h];exact hl d h
  ·simp only[tv,av,if_neg h];exact VR.undef ρ
 have ht:∀d,(T.ofList undef ((List.range N).map tv)).get d=if d<N then tv d else undef:=by
  intro d;rw[T.get_ofList,Jc,JX];by_cases h:d<N
  ·simp[h]
  ·simp[h]
 have hb:∀d,(⟨(List.range N).map av⟩:Array Value).getD d undef=if d<N then av d else undef:=by
  intro d;rw[JH,KL,JX];by_cases h:d<N
  ·simp[h]
  ·simp[h]
 refine⟨T.ofList undef ((List.range N).map tv),{ tmps:=⟨(List.range N).map av⟩,defers:=[] },λd=>?_,λd hd=>?_,?_⟩
 ·rw[ht,hb];by_cases h:d<N
  ·rw[if_pos h,if_pos h];exact hrel d
  ·rw[if_neg h,if_neg h];exact VR.undef ρ
 ·rw[ht,if_pos (hN d hd)];simp only[tv,if_pos hd]
 ·refine execOp_congr o hsel λx hx=>?_;cases x with
  | tmp d=> have hd:d∈o.looksAt ops:=Ku _ (List.mem_filterMap.2 ⟨.tmp d,by simpa using hx,rfl⟩);show a.tmps.getD d undef=(⟨(List.range N).map av⟩:Array Value).getD d undef;rw[hb,if_pos (hN d hd)];simp only[av,if_pos hd]
  | _=>rfl
end
section
abbrev j7 (listed:Array Bool) (i:Nat):Prop:=listed.getD i false=true
section
variable {P : Program} {E : Env} {ex : gq} {ops : Array Oper} {bf : Nat -> Nat} {asg : T (Option Nat)} {keep base nt : Nat} {t0 tF : TM} {hF h₀ : H} {ρ₀ : Ren} {w₀ : World} {DF : List Deferred} {AL : Nat -> Nat -> Prop}
structure Inv (P:Program) (E:Env) (ex:gq) (ops:Array Oper) (bf:Nat->Nat) (asg:T (Option Nat)) (keep base nt:Nat) (t0 tF:TM) (hF h₀:H) (ρ₀:Ren) (w₀:World) (DF:List Deferred) (AL:Nat->Nat->Prop)
  (listed:Array Bool) (l:List PS) (D Dl W L cnt:Nat) (A:Nat->Nat->Prop) (hE:H) (ρ:Ren) (w:World) (a:Act):Prop where
 scan:scan ops bf asg keep l D Dl 0 0 W L cnt=true
 step:Step P ρ₀ h₀ w₀ ρ hE w
 nx:base+keep<=hE.next
 pf:PF E ex ops bf asg base t0 tF (rest l) hE hF
 lw:∀i,.ex i∈fB l \/ .re i∈fB l->LW E ops bf asg t0 tF hE i
 af:∀i k,A i k \/ .al i k∈fB l->¬ j7 listed i->AF E base t0 tF ops bf asg hE i k
 alA:∀i k,A i k->AL i k/\k<cnt
 alL:∀i k,.al i k∈l->AL i k
 an:∀i k,AL i k->¬ j7 listed i->ρ (base+k)=none
 ad:∀i k,.al i k∈rest l->hE.objs.get (base+k)=.dead
 cls:∀i,Nat.testBit D i=true->¬ j7 listed i->Nat.testBit Dl i=true \/ ∃k,A i k
 wS:∀i,Nat.testBit W i=true->j7 listed i
 hvS:∀j,.hv j∈l->¬ j7 listed j
 tm:∀d,(∀k o,ops[k]?=some o->o.dst=some d->j7 listed k)->VR ρ (tF.get d) (a.tmps.getD d undef)
 tm0:∀d,(∀k o,ops[k]?=some o->o.dst=some d->¬ j7 listed k)->VR ρ (t0.get d) (a.tmps.getD d undef)
 sz:nt<=a.tmps.size
 df:a.defers=DF
 lsz:listed.size=ops.size
 closed:∀i,j7 listed i->∀b,Nat.testBit (bf i) b=true->j7 listed b
def j7.set {listed:Array Bool} {i:Nat} (hi:i<listed.size) (j:Nat):j7 (listed.setIfInBounds i true) j ↔ j7 listed j \/ j=i:=by
 unfold j7;simp only[JH];by_cases e:j=i
 ·subst e;simp[hi]
 ·rw[Array.getElem?_setIfInBounds_ne (λh=>e h.symm)];simp[e]
def Inv.keeps {listed:Array Bool} {l:List PS} {D Dl W L cnt:Nat} {A:Nat->Nat->Prop} {hE:H} {ρ ρ':Ren} {w w':World} {a:Act}
  (I:Inv P E ex ops bf asg keep base nt t0 tF hF h₀ ρ₀ w₀ DF AL listed l D Dl W L cnt A hE ρ w a) (hasg:∀j o d,ops[j]?=some o->o.dst=some d->asg.get d=some j) (hd:∀o∈ops.toList,eF nt o=true)
  {i:Nat} {o:Oper} (ho:ops[i]?=some o) (hhv:.hv i∉l) (hbf:∀b,Nat.testBit (bf i) b=true->j7 listed b)
  (hstep:Step P ρ₀ h₀ w₀ ρ' hE w') (hle:ρ.le ρ') (han:∀j k,AL j k->¬ j7 listed j->j≠i->ρ' (base+k)=none) {v v':Value} (hv:VR ρ' v v') (hdst:∀d,o.dst=some d->tF.get d=v):
  Inv P E ex ops bf asg keep base nt t0 tF hF h₀ ρ₀ w₀ DF AL (listed.setIfInBounds i true) l D Dl W L cnt A hE ρ' w' (a.put o.dst v'):=by
 have hi:i<listed.size:=by rw[I.lsz];exact (Jw.1 ho).1
 have hS:=λj=>j7.set hi j
 refine⟨I.scan,hstep,I.nx,I.pf,I.lw,λj k h hn=>I.af j k h λh'=>hn ((hS j).2 (.inl h')),I.alA,I.alL,λj k h hn=>?_,I.ad,λj h hn=>I.cls j h λh'=>hn ((hS j).2 (.inl h')),
  λj h=>(hS j).2 (.inl (I.wS j h)),λj h h'=>?_,λd hall=>?_,λd hall=>?_,by rw[(cG a _ _).1];exact I.sz,by rw[(cG a _ _).2];exact I.df,by simp[I.lsz],λj h b hb=>?_⟩
 ·exact han j k h (λh'=>hn ((hS j).2 (.inl h'))) (λe=>hn ((hS j).2 (.inr e)))
 ·rcases (hS j).1 h' with h' | h'
  ·exact I.hvS j h h'
  ·rw[h'] at h;exact hhv h
 ·cases e:o.dst with
  | none=>
   refine (I.tm d λk o' e1 e2=>?_).mono hle;rcases (hS k).1 (hall k o' e1 e2) with h | h
   ·exact h
   ·rw[h,ho] at e1;cases e1;rw[e] at e2;cases e2
  | some d'=>
   by_cases ed:d=d'
   ·subst ed;rw[hdst d e];have hlt:d<a.tmps.size:=by have:=hd o (by simpa using Array.mem_of_getElem? ho);simp only[eF,e] at this;exact Jp (I7 this) I.sz
    have:(a.put (some d) v').tmps.getD d undef=v':=by simp only[Act.put,JH];rw[Array.getElem?_setIfInBounds_self_of_lt hlt];rfl
    rw[this];exact hv
   ·have h1:(a.put (some d') v').tmps.getD d undef=a.tmps.getD d undef:=by simp only[Act.put,JH];rw[Array.getElem?_setIfInBounds_ne (λh=>ed h.symm)]
    rw[h1];refine (I.tm d λk o' e1 e2=>?_).mono hle;rcases (hS k).1 (hall k o' e1 e2) with h | h
    ·exact h
    ·rw[h,ho] at e1;cases e1;rw[e] at e2;cases e2;exact absurd rfl ed
 ·cases e:o.dst with
  | none=>exact (I.tm0 d λk o' e1 e2 h=>hall k o' e1 e2 ((hS k).2 (.inl h))).mono hle
  | some d'=>
   have ed:d≠d':=by intro ed;subst ed;exact hall i o ho e ((hS i).2 (.inr rfl))
   have h1:(a.put (some d') v').tmps.getD d undef=a.tmps.getD d undef:=by simp only[Act.put,JH];rw[Array.getElem?_setIfInBounds_ne (λh=>ed h.symm)]
   rw[h1];exact (I.tm0 d λk o' e1 e2 h=>hall k o' e1 e2 ((hS k).2 (.inl h))).mono hle
 ·rcases (hS j).1 h with h | h
  ·exact (hS b).2 (.inl (I.closed j h b hb))
  ·rw[h] at hb;exact (hS b).2 (.inl (hbf b hb))
end
end
section
section
variable {P : Program} {E : Env} {ex : gq} {ops : Array Oper} {bf : Nat -> Nat} {asg : T (Option Nat)} {keep base nt : Nat} {t0 tF : TM} {hF h₀ : H} {ρ₀ : Ren} {w₀ : World} {DF : List Deferred} {AL : Nat -> Nat -> Prop}
def AF.mono {h h':H} {i k:Nat} (he:h'.objs.get (base+k)=h.objs.get (base+k)) (ha:AF E base t0 tF ops bf asg h i k):AF E base t0 tF ops bf asg h' i k:=by
 obtain⟨o,t,ho,hs,⟨h1,ob,f,h2,h3,h4⟩ | h1⟩:=ha
 ·exact⟨o,t,ho,hs,.inl ⟨h1,ob,f,h2,h3,by rw[he];exact h4⟩⟩
 ·exact⟨o,t,ho,hs,.inr h1⟩
def Inv.heavy {listed:Array Bool} {l l':List PS} {D Dl W L cnt:Nat} {A:Nat->Nat->Prop} {hE h':H} {ρ ρ':Ren} {w w':World} {a:Act}
  (I:Inv P E ex ops bf asg keep base nt t0 tF hF h₀ ρ₀ w₀ DF AL listed l D Dl W L cnt A hE ρ w a) (hasg:∀j o d,ops[j]?=some o->o.dst=some d->asg.get d=some j) (hd:∀o∈ops.toList,eF nt o=true)
  (hlt:∀i k,AL i k->k<keep) (h0n:h₀.next=base) (hbase:base+keep+1<2 ^ deep)
  {i:Nat} {o:Oper} (ho:ops[i]?=some o) (hrest:rest l=.hv i :: l') (hni:¬ j7 listed i) (hbf:∀b,Nat.testBit (bf i) b=true->j7 listed b)
  (hst:Step P ρ hE w ρ' h' w') (hpf:PF E ex ops bf asg base t0 tF l' h' hF) {v v':Value} (hv:VR ρ' v v') (hdst:∀d,o.dst=some d->tF.get d=v):
  ∃D2 Dl2 W2 L2 cnt2 A2 hE2,Inv P E ex ops bf asg keep base nt t0 tF hF h₀ ρ₀ w₀ DF AL (listed.setIfInBounds i true) l' D2 Dl2 W2 L2 cnt2 A2 hE2 ρ' w' (a.put o.dst v'):=by
 have hi:i<listed.size:=by rw[I.lsz];exact (Jw.1 ho).1
 have hS:=λj=>j7.set hi j;obtain⟨D',cur',R',cnt',hs,hD',hcur',hR',hcnt,hnum⟩:=iG I.scan;rw[hrest] at hs;simp only[Ev.scan,Ja] at hs;have hin:∀{x:PS},x∈l'->x∈rest l:=λhx=>by rw[hrest];simp[hx]
 have hinl:∀{x:PS},x∈l'->x∈l:=λhx=>kQ (hin hx);have hnums:=(eL hs.2).2;have hwait:∀j,Dn j l'->¬ j7 listed j:=by
  intro j hj hdon;rcases gG hs.2 j hj with h | ⟨q,h1,h2⟩
  ·exact hni (I.closed j hdon i (h i (by rw[nI];simp)))
  ·exact I.hvS q (hinl h1) (I.closed j hdon q h2)
 have hkeepid:∀j k,AL j k->¬ j7 listed j->h'.objs.get (base+k)=hE.objs.get (base+k):=by intro j k hal hnd;exact hst.keep _ (by have:=hlt j k hal;have:=I.nx;omega) (I.an j k hal hnd)
 have hnone:∀j k,AL j k->¬ j7 listed j->ρ' (base+k)=none:=by
  intro j k hal hnd;cases e:ρ' (base+k) with
  | none=>rfl
  | some p=> have:=hst.old _ p e (by have:=hlt j k hal;have:=I.nx;omega);rw[I.an j k hal hnd] at this;cases this
 obtain⟨hE2,e1,e2,e3,e4,e5,e6⟩:=nR hbase hs.2 hpf (λj k hm=>by
  have hml:=iQ hm;rw[hkeepid j k (I.alL j k (hinl hml)) (hwait j (.inr (.inl ⟨k,hml⟩)))]
  exact I.ad j k (hin hml))
 refine⟨_,_,_,_,_,λj k=>A j k \/ .al j k∈fB l,hE2,hs.2,?_,?_,e6,e4,?_,?_,λj k h=>I.alL j k (hinl h),?_,?_,?_,?_,?_,?_,?_,?_,?_,?_,?_⟩
 ·refine (I.step.trans hst).place e1 λid=>?_;rcases e3 id with h | ⟨j,k,hm,rfl⟩
  ·exact .inl h
  ·have hml:=iQ hm;have hal:=I.alL j k (hinl hml);have:=hlt j k hal;have:=I.nx;have:=hst.next;exact .inr ⟨hnone j k hal (hwait j (.inr (.inl ⟨k,hml⟩))),by omega,by omega,by omega⟩
 ·rw[e1];exact JV I.nx hst.next
 ·intro j k h hn;have hnd:¬ j7 listed j:=λh'=>hn ((hS j).2 (.inl h'));rcases h with h | h
  ·have hal:AL j k:=by
    rcases h with h | h
    ·exact (I.alA j k h).1
    ·exact I.alL j k (iQ h)
   have hk:k<cnt':=by
    rcases h with h | h
    ·exact Jp (I.alA j k h).2 hcnt
    ·exact (hnum j k h).2
   refine AF.mono ?_ (I.af j k h hnd);rcases e3 (base+k) with h' | ⟨j',k',hm,e⟩
   ·rw[h'];exact hkeepid j k hal hnd
   ·have:=(hnums j' k' (iQ hm)).1;omega
  ·exact e5 j k h
 ·intro j k h;rcases h with h | h
  ·exact⟨(I.alA j k h).1,Jp (I.alA j k h).2 hcnt⟩
  ·exact⟨I.alL j k (iQ h),(hnum j k h).2⟩
 ·intro j k hal hn;exact hnone j k hal λh'=>hn ((hS j).2 (.inl h'))
 ·intro j k hm;have hml:=kQ hm;have hal:=I.alL j k (hinl hml);obtain⟨D3,cur3,R3,cnt3,hs3,_,_,_,_,hnum3⟩:=iG hs.2;rcases e3 (base+k) with h' | ⟨j',k',hm',e⟩
  ·rw[h',hkeepid j k hal (hwait j (.inr (.inl ⟨k,hml⟩)))];exact I.ad j k (hin hml)
  ·have h1:=(hnum3 j' k' hm').2;have h2:=((eL hs3).2 j k hm).1;omega
 ·intro j hj hn;have hnd:¬ j7 listed j:=λh'=>hn ((hS j).2 (.inl h'));rcases de.1 hj with hj | hj
  ·rcases (hD' j).1 hj with h | h | ⟨k,h⟩
   ·rcases I.cls j h hnd with h | ⟨k,h⟩
    ·left;rw[l9];simp[h]
    ·exact .inr ⟨k,.inl h⟩
   ·left;rw[l9,(hcur' j).2 (.inr h)];simp
   ·exact .inr ⟨k,.inr h⟩
  ·exact absurd ((hS j).2 (.inr hj.symm)) hn
 ·intro j hj;rw[l9] at hj;simp only[J4] at hj;rcases hj with h | h
  ·exact (hS j).2 (.inl (I.wS j h))
  ·exact (hS j).2 (.inl (hbf j h))
 ·intro j hj hdon;rcases (hS j).1 hdon with h | h
  ·exact I.hvS j (hinl hj) h
  ·have:=jn hs.2 j (.inr (.inr hj));rw[de.2 (.inr h.symm)] at this;cases this
 ·intro d hall;cases e:o.dst with
  | none=>
   refine (I.tm d λk o' e1 e2=>?_).mono hst.ext;rcases (hS k).1 (hall k o' e1 e2) with h | h
   ·exact h
   ·rw[h,ho] at e1;cases e1;rw[e] at e2;cases e2
  | some d'=>
   by_cases ed:d=d'
   ·subst ed;rw[hdst d e];have hlt:d<a.tmps.size:=by have:=hd o (by simpa using Array.mem_of_getElem? ho);simp only[eF,e] at this;exact Jp (I7 this) I.sz
    have:(a.put (some d) v').tmps.getD d undef=v':=by simp only[Act.put,JH];rw[Array.getElem?_setIfInBounds_self_of_lt hlt];rfl
    rw[this];exact hv
   ·have h1:(a.put (some d') v').tmps.getD d undef=a.tmps.getD d undef:=by simp only[Act.put,JH];rw[Array.getElem?_setIfInBounds_ne (λh=>ed h.symm)]
    rw[h1];refine (I.tm d λk o' e1 e2=>?_).mono hst.ext;rcases (hS k).1 (hall k o' e1 e2) with h | h
    ·exact h
    ·rw[h,ho] at e1;cases e1;rw[e] at e2;cases e2;exact absurd rfl ed
 ·intro d hall;cases e:o.dst with
  | none=>exact (I.tm0 d λk o' e1 e2 h=>hall k o' e1 e2 ((hS k).2 (.inl h))).mono hst.ext
  | some d'=>
   have ed:d≠d':=by intro ed;subst ed;exact hall i o ho e ((hS i).2 (.inr rfl))
   have h1:(a.put (some d') v').tmps.getD d undef=a.tmps.getD d undef:=by simp only[Act.put,JH];rw[Array.getElem?_setIfInBounds_ne (λh=>ed h.symm)]
   rw[h1];exact (I.tm0 d λk o' e1 e2 h=>hall k o' e1 e2 ((hS k).2 (.inl h))).mono hst.ext
 ·rw[(cG a _ _).1];exact I.sz
 ·rw[(cG a _ _).2];exact I.df
 ·simp[I.lsz]
 ·intro j h b hb;rcases (hS j).1 h with h | h
  ·exact (hS b).2 (.inl (I.closed j h b hb))
  ·rw[h] at hb;exact (hS b).2 (.inl (hbf b hb))
def ot {listed:Array Bool} {i:Nat}:i∈Region.ready .any ops listed ↔ i<ops.size/\listed.getD i true=false/\∃o,ops[i]?=some o/\∀p∈direct o,j7 listed p:=by
 unfold Region.ready;simp only[List.mem_filter,List.mem_range,Ja,Bool.not_eq_true'];constructor
 ·rintro⟨h1,h2,h3⟩;refine⟨h1,h2,?_⟩;cases ho:ops[i]? with
  | none=>simp[ho] at h3
  | some o=>
   refine⟨o,rfl,λp hp=>?_⟩;simp only[ho,KD,KH] at h3;unfold direct at hp;obtain⟨e,he,hb⟩:=List.mem_filterMap.1 hp;have h4:=Array.all_eq_true_iff_forall_mem.1 h3 e (by simpa using he);cases hbi:Region.binds .any e with
   | false=>simp[hbi] at hb
   | true=> simp only[hbi,Jo,I9] at hb;subst hb;unfold j7;rw[JH];simpa [hbi] using h4
 ·rintro⟨h1,h2,o,ho,h3⟩;refine⟨h1,h2,?_⟩;simp only[ho,KD,KH];refine Array.all_eq_true_iff_forall_mem.2 λe he=>?_;cases hbi:Region.binds .any e with
  | false=>simp
  | true=> simp only[Bool.not_true,Bool.false_or];refine h3 e.on (List.mem_filterMap.2 ⟨e,by simpa using he,by simp[hbi]⟩)
def lV (listed:Array Bool):Nat:=listed.toList.countP (λb=>!b)
def ze {listed:Array Bool} {i:Nat} (hi:i<listed.size) (hn:¬ j7 listed i):lV (listed.setIfInBounds i true)+1=lV listed:=by
 have hf:listed.toList[i]'(by simpa using hi)=false:=by unfold j7 at hn;rw[JH,Kk hi] at hn;simpa using hn
 unfold lV;rw[Array.toList_setIfInBounds,List.countP_set (by simpa using hi)];have hpos:0<listed.toList.countP (λb=>!b):=by refine List.countP_pos_iff.2 ⟨false,?_,rfl⟩;rw[<-hf];exact J6 _
 simp only[hf,Bool.not_false,Bool.not_true,if_true,J1,if_false];omega
def vg {listed:Array Bool} (h:lV listed=0):∀i,i<listed.size->j7 listed i:=by intro i hi;unfold lV at h;have:=List.countP_eq_zero.1 h (listed.toList[i]'(by simpa using hi)) (J6 _);unfold j7;rw[JH,Kk hi];simpa using this
end
end
section
section
variable {P : Program} {E : Env} {ex : gq} {ops : Array Oper} {bf : Nat -> Nat} {asg : T (Option Nat)} {keep base nt : Nat} {t0 tF : TM} {hF h₀ : H} {ρ₀ : Ren} {w₀ : World} {DF : List Deferred} {AL : Nat -> Nat -> Prop}
def wZ {t:TM} {h:H} {o:Oper} {v:Value} (hl:light E t h o=some v):∀cs b,o.op ≠ .select cs b:=by intro cs b e;unfold light at hl;rw[e] at hl;cases hl
def ua {t:TM} {o:Oper} {v:AO × (Nat->Value)} (hl:dk E t o=some v):∀cs b,o.op ≠ .select cs b:=by intro cs b e;unfold dk at hl;rw[e] at hl;cases hl
def zG {t:TM} {h:H} {o:Oper} {v:Value × H} (hl:ie E ex o t h=some v):∀cs b,o.op ≠ .select cs b:=by intro cs b e;unfold ie gk light heavy dk at hl;simp[e] at hl
def vk (hE:TypesOK P E) (hc:fJ P E ex) (hasg:∀j o d,ops[j]?=some o->o.dst=some d->asg.get d=some j) (hd:∀o∈ops.toList,eF nt o=true) (hb:nt<=1000000000)
  (hfact:∀i,i<ops.size->∃o,Ke ops bf asg i o)
  (hprog:∀S:Nat->Prop,(∀i,i<ops.size->S i) \/ ∃i o,ops[i]?=some o/\¬ S i/\∀p∈direct o,S p)
  (hinj:∀i j k,AL i k->AL j k->i=j) (hlt:∀i k,AL i k->k<keep) (h0n:h₀.next=base) (hbase:base+keep+1<2 ^ deep) {Q:Exit->Act->World->Prop}
  (hQ:∀ρ' w' a',Step P ρ₀ h₀ w₀ ρ' hF w'->ek ρ' tF a'->nt<=a'.tmps.size->a'.defers=DF->Q .normal a' w'):
  ∀(fuel:Nat) (listed:Array Bool) (l:List PS) (D Dl W L cnt:Nat) (A:Nat->Nat->Prop) (hE':H) (ρ:Ren) (w:World) (a:Act),
   Inv P E ex ops bf asg keep base nt t0 tF hF h₀ ρ₀ w₀ DF AL listed l D Dl W L cnt A hE' ρ w a->lV listed<=fuel->wpAny P .any ops Q fuel listed a w:=by
 have fin:∀(listed:Array Bool) (l:List PS) (D Dl W L cnt:Nat) (A:Nat->Nat->Prop) (hE':H) (ρ:Ren) (w:World) (a:Act),
   Inv P E ex ops bf asg keep base nt t0 tF hF h₀ ρ₀ w₀ DF AL listed l D Dl W L cnt A hE' ρ w a->(∀i,i<ops.size->j7 listed i)->Q .normal a w:=by
  intro listed l D Dl W L cnt A hE' ρ w a I hall;rcases fX l with hr | ⟨i,l',hr⟩
  ·have hpf:=I.pf;rw[hr] at hpf;have he:hE'=hF:=hpf;have hst:=I.step;rw[he] at hst;exact hQ ρ w a hst (λd=>I.tm d λk o e1 _=>hall k (Jw.1 e1).1) I.sz I.df
  ·exfalso;have hm:PS.hv i∈l:=kQ (by rw[hr];simp);obtain⟨o,ho⟩:=dJ I.scan (.inr (.inr hm));exact I.hvS i hm (hall i (Jw.1 ho.get).1)
 have getd:∀{listed:Array Bool} {i:Nat},i<listed.size->(listed.getD i true=false ↔ ¬ j7 listed i):=by intro listed i hi;unfold j7;rw[JH,JH,Kk hi];simp
 intro fuel
 induction fuel with
 | zero=> intro listed l D Dl W L cnt A hE' ρ w a I hu;have hall:=vg (Nat.le_zero.1 hu);rw[I.lsz] at hall;refine⟨?_,fin _ _ _ _ _ _ _ _ _ _ _ _ I hall⟩;refine List.eq_nil_iff_forall_not_mem.2 λi hi=>?_;obtain⟨h1,h2,_⟩:=ot.1 hi;exact (getd (by rw[I.lsz];exact h1)).1 h2 (hall i h1)
 | succ fuel ih=>
  intro listed l D Dl W L cnt A hE' ρ w a I hu;refine⟨λhnil=>fin _ _ _ _ _ _ _ _ _ _ _ _ I ?_,λi hi=>?_⟩
  ·rcases hprog (j7 listed) with h | ⟨i,o,h1,h2,h3⟩
   ·exact h
   ·exfalso;have hlt':=(Jw.1 h1).1;have:i∈Region.ready .any ops listed:=ot.2 ⟨hlt',(getd (by rw[I.lsz];exact hlt')).2 h2,o,h1,h3⟩;rw[hnil] at this;cases this
  ·obtain⟨hin,hfalse,o,ho,hdir⟩:=ot.1 hi;have hils:i<listed.size:=by rw[I.lsz];exact hin
   have hnd:¬ j7 listed i:=(getd hils).1 hfalse;have hund:=ze hils hnd;obtain⟨o',hF'⟩:=hfact i hin;have hoo:o'=o:=by have:=hF'.get;rw[ho] at this;cases this;rfl
   subst hoo;have hbf:∀b,Nat.testBit (bf i) b=true->j7 listed b:=by
    intro b hb;obtain⟨p,hp,h | h⟩:=hF'.cert b hb
    ·rw[h];exact hdir p hp
    ·exact I.closed p (hdir p hp) b h
   have hlook':∀t,Eu ops bf asg t0 tF i o' t->∀d∈o'.looksAt ops,VR ρ (t.get d) (a.tmps.getD d undef):=by
    intro t hsee d hd';rw[hsee d hd'];unfold YJ;cases ha:asg.get d with
    | none=>exact I.tm d λk o2 e1 e2=>by rw[hasg k o2 d e1 e2] at ha;cases ha
    | some k=>
     simp only;cases hb:Nat.testBit (bf i) k with
     | true=> simp only[Jo];refine I.tm d λk' o2 e1 e2=>?_;have:=hasg k' o2 d e1 e2;rw[ha] at this;cases this;exact hbf k hb
     | false=>
      simp only[JP];refine I.tm0 d λk' o2 e1 e2 hdon=>?_;have:=hasg k' o2 d e1 e2;rw[ha] at this;cases this;rcases hF'.looks d hd' k ha with h | h
      ·rw[hb] at h;cases h
      ·exact hnd (I.closed k hdon i h)
   obtain⟨D',cur',R',cnt',hs,hD',hcur',hR',hcnt,hnum⟩:=iG I.scan;have hcov:∀j,Nat.testBit Dl j=true->.re j∈fB l \/ Nat.testBit W j=true:=by
    intro j hj;have hsub:sub Dl (Nat.lor R' W)=true:=by
     rcases fX l with hr | ⟨q,l',hr⟩
     ·rw[hr] at hs;simp only[Ev.scan,Ja] at hs;exact hs.1.2
     ·rw[hr] at hs;simp only[Ev.scan,Ja] at hs;exact hs.1.2
    have:=ny hsub hj;rw[l9] at this;simp only[J4] at this;rcases this with h | h
    ·rcases (hR' j).1 h with h | h
     ·rw[gS] at h;cases h
     ·exact .inl h
    ·exact .inr h
   have hwait:∀q l',rest l=.hv q :: l'->Dn i l'->False:=by
    intro q l' hr hocc;rw[hr] at hs;simp only[Ev.scan,Ja] at hs;rcases gG hs.2 i hocc with h | ⟨j,h1,h2⟩
    ·exact I.hvS q (kQ (by rw[hr];simp)) (hbf q (h q (by rw[nI];simp)))
    ·exact I.hvS j (kQ (by rw[hr];simp[h1])) (hbf j h2)
   have hnohv:Nat.testBit D' i=true->.hv i∉l:=by
    intro h1 h2;rcases lx h2 with h | h
    ·exact ru h
    ·have:=jn hs i (.inr (.inr h));rw[h1] at this;cases this
   have hcase:(LW E ops bf asg t0 tF hE' i/\.hv i∉l) \/ (∃k,AF E base t0 tF ops bf asg hE' i k/\AL i k/\.hv i∉l) \/ ∃l',rest l=.hv i :: l':=by
    rcases iJ I.scan i hin with h | h | ⟨k,h⟩ | h
    ·have hno:=hnohv ((hD' i).2 (.inl h));rcases I.cls i h hnd with h | ⟨k,h⟩
     ·rcases hcov i h with h | h
      ·exact .inl ⟨I.lw i (.inr h),hno⟩
      ·exact absurd (I.wS i h) hnd
     ·exact .inr (.inl ⟨k,I.af i k (.inl h) hnd,(I.alA i k h).1,hno⟩)
    ·rcases lx h with h | h
     ·exact .inl ⟨I.lw i (.inl h),hnohv ((hD' i).2 (.inr (.inl h)))⟩
     ·rcases fX l with hr | ⟨q,l',hr⟩
      ·rw[hr] at h;cases h
      ·rw[hr] at h;exact (hwait q l' hr (.inl (by simpa using h))).elim
    ·rcases lx h with h' | h'
     ·exact .inr (.inl ⟨k,I.af i k (.inr h') hnd,I.alL i k h,hnohv ((hD' i).2 (.inr (.inr ⟨k,h'⟩)))⟩)
     ·rcases fX l with hr | ⟨q,l',hr⟩
      ·rw[hr] at h';cases h'
      ·rw[hr] at h';exact (hwait q l' hr (.inr (.inl ⟨k,by simpa using h'⟩))).elim
    ·rcases lx h with h' | h'
     ·exact (ru h').elim
     ·rcases fX l with hr | ⟨q,l',hr⟩
      ·rw[hr] at h';cases h'
      ·rw[hr] at h';rcases Jr.1 h' with e | h'
       ·cases e;exact .inr (.inr ⟨l',hr⟩)
       ·exact (hwait q l' hr (.inr (.inr h'))).elim
   unfold wpOp;simp only[ho];rcases hcase with ⟨⟨o2,v,tv,ho2,hsee,hlw,hdst⟩,hno⟩ | ⟨k,⟨o2,tv,ho2,hsee,haf⟩,hal,hno⟩ | ⟨l',hr⟩
   ·rw[ho] at ho2;cases ho2;have hlook:=hlook' tv hsee;unfold en at hlw;cases hw:bU ops tv o' with
    | none=>simp[hw] at hlw
    | some b=>
     rw[dU hlook hd I.sz hw];cases b with
     | false=> simp only[hw,I9] at hlw;subst hlw;simp only[J1,if_false];exact ih _ _ _ _ _ _ _ _ _ _ _ _ (I.keeps hasg hd ho hno hbf I.step ρ.le_refl (λj k h1 h2 _=>I.an j k h1 h2) (VR.undef ρ) hdst) (by omega)
     | true=> simp only[hw] at hlw;simp only[if_true];obtain⟨t,b,g1,g2,g3⟩:=nN (wZ hlw) hlook;rw[kh g2.ev] at hlw;obtain⟨v',r1,r2⟩:=qE hE I.step.rel g1 hlw;left;unfold Oper.wp;rw[g3,r1];exact ih _ _ _ _ _ _ _ _ _ _ _ _ (I.keeps hasg hd ho hno hbf I.step ρ.le_refl (λj k h1 h2 _=>I.an j k h1 h2) r2 hdst) (by omega)
   ·rw[ho] at ho2;cases ho2;have hlook:=hlook' tv hsee;rcases haf with ⟨hw,ob,f,hall,hdst,hget⟩ | ⟨hw,hdst⟩
    ·rw[dU hlook hd I.sz hw];simp only[if_true];obtain⟨t,b,g1,g2,g3⟩:=nN (ua hall) hlook;rw[nn g2.ev] at hall;obtain⟨O,V',r1,r2,r3,r4,r5⟩:=oe hE I.step.rel g1 hall;left;unfold Oper.wp;rw[g3,r1];have hnone:=I.an i k hal hnd;have hk:=hlt i k hal;have hnx:=I.nx;have hle:=Ren.le_upd (p:=(w.heap.size,0)) hnone;have hstep:=I.step.mapIn (id:=base+k) (O:=O) (by omega) (by omega) hnone (λρ' h=>by rw[hget];exact r4 ρ' h);refine ih _ _ _ _ _ _ _ _ _ _ _ _ (I.keeps hasg hd ho hno hbf hstep hle (λj k' h1 h2 h3=>?_) (r5 _ _ hle Ren.upd_same) hdst) (by omega);rw[Ren.upd_other]
     ·exact I.an j k' h1 h2
     ·intro e;have:k'=k:=by omega
      subst this;exact h3 (hinj j i k' h1 hal)
    ·rw[dU hlook hd I.sz hw];simp only[J1,if_false];exact ih _ _ _ _ _ _ _ _ _ _ _ _ (I.keeps hasg hd ho hno hbf I.step ρ.le_refl (λj k h1 h2 _=>I.an j k h1 h2) (VR.undef ρ) hdst) (by omega)
   ·have hpf:=I.pf;rw[hr] at hpf;obtain⟨o2,tv,ho2,hsee,hpf⟩:=hpf;rw[ho] at ho2;cases ho2;have hlook:=hlook' tv hsee;rcases hpf with ⟨hw,v,h',hval,hdst,hpf⟩ | ⟨hw,hdst,hpf⟩
    ·rw[dU hlook hd I.sz hw];simp only[if_true];obtain⟨t,b,g1,g2,g3⟩:=nN (zG hval) hlook;rw[za g2.ev] at hval;refine .inl (Cm hE hc hval I.step.rel g1 g3 λρ1 v' w1 s1 s2=>?_);obtain⟨D2,Dl2,W2,L2,cnt2,A2,hE2,I2⟩:=I.heavy hasg hd hlt h0n hbase ho hr hnd hbf s2 hpf s1 hdst;exact ih _ _ _ _ _ _ _ _ _ _ _ _ I2 (by omega)
    ·rw[dU hlook hd I.sz hw];simp only[J1,if_false];obtain⟨D2,Dl2,W2,L2,cnt2,A2,hE2,I2⟩:=I.heavy hasg hd hlt h0n hbase ho hr hnd hbf (Step.refl I.step.rel) hpf (VR.undef ρ) hdst;exact ih _ _ _ _ _ _ _ _ _ _ _ _ I2 (by omega)
end
def ly {P:Program} {E:Env} (hE:TypesOK P E):rp P E ce:=by
 intro ex hc nt ops p ρ h w t t' h' a Q hd hb hplan hroom hkeep hv hr ht hn hQ;unfold ce at hplan;cases hasgO:pN ops.toList 0 (.c none) with
 | none=>simp[hasgO] at hplan
 | some asg=>
  simp only[hasgO] at hplan;have hasg:∀j o d,ops[j]?=some o->o.dst=some d->asg.get d=some j:=by intro j o d e1 e2;have:=(pH _ _ _ _ hasgO).1 j o d (by simpa using e1) e2;simpa using this
  have hroom:=I7 hroom;have hbase:h.next+p.keep+1<2 ^ deep:=dX (by omega);have hsmall:∀o∈ops.toList,eF 1000000000 o=true:=by
   intro o ho;have:=hd o ho;unfold eF at this ⊢;cases e:o.dst with
   | none=>rfl
   | some d=> simp only[e] at this ⊢;have:d<nt:=I7 this;exact Js (Jp this hb)
  obtain⟨hset,hpf⟩:=mu (E:=E) (ex:=ex) (base:=h.next) (t0:=t) hasg hsmall p.steps 0 0 0 0 0 0 0 t { h with next:=h.next+p.keep } hplan (λk hk=>by rw[gS] at hk;cases hk) (λ_ _=>rfl) hv;have hnums:=eL hplan;have hinj:=kI hplan;have hdead:∀id,h.next<=id->h.objs.get id=.dead:=hr.fresh;obtain⟨hE',e1,e2,e3,e4,e5,e6⟩:=nR hbase hplan hpf (λi k _=>hdead _ (KC _ _));obtain⟨D',cur',R',cnt',hs,hD',hcur',hR',hcnt,hnum⟩:=iG hplan;have hfact:∀i,i<ops.size->∃o,Ke ops (λi=>p.before.getD i 0) asg i o:=by
   intro i hi;rcases iJ hplan i hi with h | h
   ·rw[gS] at h;cases h
   ·exact dJ hplan h
  have hprog:∀S:Nat->Prop,(∀i,i<ops.size->S i) \/ ∃i o,ops[i]?=some o/\¬ S i/\∀q∈direct o,S q:=by
   intro S;rcases oF S hplan (λi hi=>by rw[gS] at hi;cases hi) with h | h
   ·left;intro i hi;rcases iJ hplan i hi with h' | h'
    ·rw[gS] at h';cases h'
    ·exact h i h'
   ·exact .inr h
  have hnot:∀i,¬ j7 (Array.replicate ops.size false) i:=by intro i hi;unfold j7 at hi;rw[JH,Array.getElem?_replicate] at hi;split at hi <;> simp at hi
  have hun:∀k,ρ (h.next+k)=none:=λk=>hr.unmapped (KC _ _);have hstep0:Step P ρ h w ρ { h with next:=h.next+p.keep } w:=
   ⟨ρ.le_refl,λ_ _ e _=>e,KC _ _,λ_ _ _=>rfl,
    ⟨λid q e=>Jp (hr.dom id q e) (KC _ _),hr.inj,hr.obj,hr.small,λid hid=>hr.fresh id (JV (KC _ _) hid),hr.glob,hr.inside⟩,
    λ_ _ _=>rfl,λ_ e _=>e,Jd _,rfl,rfl,rfl⟩
  refine vk (t0:=t) hE hc hasg hd hb hfact hprog (AL:=λi k=>.al i k∈p.steps) hinj (λi k h=>(hnums.2 i k h).2) (h₀:=h) rfl hbase hQ ops.size (Array.replicate ops.size false) p.steps 0 0 0 0 0 (λ_ _=>False) hE' ρ w a ?_ ?_
  ·refine⟨hplan,?_,by rw[e1];exact Jd _,e6,e4,λi k h _=>e5 i k (h.resolve_left id),λ_ _ h=>h.elim,λ_ _ h=>h,λi k _ _=>hun k,?_,λi h=>?_,λi h=>?_,λj _=>hnot j,λd hall=>?_,λd _=>ht d,hn,rfl,by simp,λi h=>absurd h (hnot i)⟩
   ·refine hstep0.place e1 λid=>?_;rcases e3 id with h | ⟨i,k,hm,rfl⟩
    ·exact .inl h
    ·have:=(hnums.2 i k (iQ hm)).2;exact .inr ⟨hun k,KC _ _,by show h.next+k<h.next+p.keep;omega,by omega⟩
   ·intro i k hm;rcases e3 (h.next+k) with h' | ⟨i',k',hm',e⟩
    ·rw[h'];exact hdead _ (KC _ _)
    ·have h1:=(hnum i' k' hm').2;have h2:=((eL hs).2 i k hm).1;omega
   ·rw[gS] at h;cases h
   ·rw[gS] at h;cases h
   ·have:t.get d=t'.get d:=hset.late d λk o e1 e2=>absurd (hall k o e1 e2) (hnot k);rw[<-this];exact ht d
  ·unfold lV;refine JV (List.countP_le_length) ?_;simp
end
def ga.back {ρ ρ':Ren} (hl:ρ.le ρ') {v u u₀:Value} (h:ga ρ' v u) (h₀:ga ρ v u₀):ga ρ v u:=by
 rcases h₀ with e | e
 ·exact .inl e
 ·rcases h with f | f
  ·exact .inl f
  ·rw[sU hl e] at f;cases f;exact .inr e
def bT.back {ρ ρ':Ren} (hl:ρ.le ρ'):∀{l u u₀:List Value},bT (ga ρ') l u->bT (ga ρ) l u₀->bT (ga ρ) l u
 | [],[],_,_,_=>trivial
 | _ :: _,_ :: _,_ :: _,⟨h1,h2⟩,⟨g1,g2⟩=>⟨h1.back hl g1,bT.back hl h2 g2⟩
 | [],_ :: _,_,h,_=>h.elim
 | _ :: _,[],_,h,_=>h.elim
 | _ :: _,_ :: _,[],_,h=>h.elim
def pY.back {ρ ρ':Ren} (hl:ρ.le ρ') {v u u₀:Value} (h:pY ρ' v u) (h₀:pY ρ v u₀):pY ρ v u:=by
 rcases h₀ with e | ⟨l,l',e1,e2,e3⟩
 ·rcases h with f | ⟨l,l',f1,f2,f3⟩
  ·exact .inl (f.back hl e)
  ·subst f1;rcases e with e | e
   ·exact .inl (.inl e)
   ·simp[cW,cU] at e
 ·rcases h with f | ⟨m,m',f1,f2,f3⟩
  ·subst e1;rcases f with f | f
   ·exact .inl (.inl f)
   ·simp[cW,cU] at f
  ·subst e1;cases f1;exact .inr ⟨l,m',rfl,f2,bT.back hl f3 e3⟩
def je.back {ρ ρ':Ren} (hl:ρ.le ρ'):∀{l:List (Value × Value)} {m m₀:List MapEntry},je ρ' l m->je ρ l m₀->je ρ l m
 | [],[],_,_,_=>trivial
 | (_,_) :: _,_ :: _,_ :: _,⟨h1,h2,h3⟩,⟨_,g2,g3⟩=>⟨h1,h2.back hl g2,je.back hl h3 g3⟩
 | [],_ :: _,_,h,_=>h.elim
 | (_,_) :: _,[],_,h,_=>h.elim
 | (_,_) :: _,_ :: _,[],_,h=>h.elim
def eV.back {P:Program} {ρ ρ':Ren} (hl:ρ.le ρ') {w w₀:World} {p:Nat × Nat} {ob:AO} (h:eV P ρ' w p ob) (h₀:eV P ρ w₀ p ob):eV P ρ w p ob:=by
 cases ob with
 | dead=>trivial
 | row e n op ro fz c=> obtain⟨cs,fr,h1,h2,h3,h4,h5,h6⟩:=h;obtain⟨_,_,_,_,_,_,g5,_⟩:=h₀;refine⟨cs,fr,h1,h2,h3,h4,λi hi=>?_,h6⟩;obtain⟨v,a,b⟩:=h5 i hi;obtain⟨v₀,_,b₀⟩:=g5 i hi;exact⟨v,a,b.back hl b₀⟩
 | map es clock=> obtain⟨es',h1,h2⟩:=h;obtain⟨_,_,g2⟩:=h₀;exact⟨es',h1,h2.back hl g2⟩
 | iter s pos=>exact h
def Step.forget {P:Program} {ρ ρ':Ren} {h h':H} {w w':World} (hr:eZ P ρ h w) (s:Step P ρ h w ρ' h' w') (heq:∀id,id<h.next->h'.objs.get id=h.objs.get id):Step P ρ h w ρ h w':=by refine⟨ρ.le_refl,λ_ _ e _=>e,Jd _,λ_ _ _=>rfl,⟨hr.dom,hr.inj,λid p e=>?_,hr.small,hr.fresh,hr.glob,λid p e l=>Jp (hr.inside id p e l) s.size⟩,s.same,λ_ e _=>e,s.size,s.tape,s.os,s.output⟩;have:=s.rel.obj id p (s.ext id p e);rw[heq id (hr.dom id p e)] at this;exact this.back s.ext (hr.obj id p e)
end Go.Ev
open Go Go.Ev
def sound {P:Program} {E:Env} (hE:gp P E ce) (n:Nat):fJ P E (cZ E n):=pw hE (ly hE.toTypesOK) n
namespace Go.Ev
open Go
section
def E5:Obj->Bool
 |.cells .. | .map .. | .stringIter ..=>false
 | _=>true
section
variable {P : Program} {ρ ρ₁ : Ren} {h h₁ : H} {w w₁ : World}
def eZ.notAt (hr:eZ P ρ h w) {L:Nat} {o:Obj} (hL:w.heap[L]?=some o) (hj:E5 o=true) {id:Nat} {p:Nat × Nat} (e:ρ id=some p):h.objs.get id=.dead \/ p.1≠L:=by
 have ho:=hr.obj id p e;cases hob:h.objs.get id with
 | dead=>exact .inl rfl
 | row el n op ro fz c=> rw[hob] at ho;obtain⟨cs,fr,h1,_⟩:=ho;refine .inr λq=>?_;rw[q,hL] at h1;cases h1;exact nomatch hj
 | map es clock=> rw[hob] at ho;obtain⟨es',h1,_⟩:=ho;refine .inr λq=>?_;rw[q,hL] at h1;cases h1;exact nomatch hj
 | iter s pos=> rw[hob] at ho;have h1:w.heap[p.1]?=_:=ho;refine .inr λq=>?_;rw[q,hL] at h1;cases h1;exact nomatch hj
def eZ.notWr (hr:eZ P ρ h w) {L:Nat} {o:Obj} (hL:w.heap[L]?=some o) (hj:E5 o=true):¬ Wr ρ h L:=by
 rintro⟨id,p,e,q,hw⟩;rcases hr.notAt hL hj e with d | d
 ·rw[d] at hw;exact nomatch hw
 ·exact d q
def eZ.putObj (hr:eZ P ρ h w) {L:Nat} {o o':Obj} (hL:w.heap[L]?=some o) (hj:E5 o=true):eZ P ρ h (w.putObj L o'):=by
 refine⟨hr.dom,hr.inj,λid p e=>?_,hr.small,hr.fresh,hr.glob,λid p e l=>by rw[World.putObj_size];exact hr.inside id p e l⟩;rcases hr.notAt hL hj e with d | d
 ·rw[d];trivial
 ·exact (hr.obj id p e).congr (World.putObj_heap_other d)
def Step.putObj (s:Step P ρ h w ρ₁ h₁ w₁) {L:Nat} {o o':Obj} (hL:w₁.heap[L]?=some o) (hj:E5 o=true) (hge:w.heap.size<=L):Step P ρ h w ρ₁ h₁ (w₁.putObj L o') where
 ext:=s.ext
 old:=s.old
 next:=s.next
 keep:=s.keep
 rel:=s.rel.putObj hL hj
 same:=λb hb hn=>(World.putObj_heap_other (by omega)).trans (s.same b hb hn)
 own:=s.own
 size:=by rw[World.putObj_size];exact s.size
 tape:=s.tape
 os:=s.os
 output:=s.output
def Step.allocJunk (s:Step P ρ h w ρ₁ h₁ w₁) (o:Obj):Step P ρ h w ρ₁ h₁ (w₁.alloc o) where
 ext:=s.ext
 old:=s.old
 next:=s.next
 keep:=s.keep
 rel:=⟨s.rel.dom,s.rel.inj,λid p e=>by
   have ho:=s.rel.obj id p e;cases hob:h₁.objs.get id with
   | dead=>trivial
   | _=> rw[<-hob];exact ho.congr (heap_alloc_old w₁ o _ (s.rel.inside id p e (by rw[hob];rfl))),
  s.rel.small,s.rel.fresh,s.rel.glob,λid p e l=>by have:=s.rel.inside id p e l;simp;omega⟩
 same:=λb hb hn=>(heap_alloc_old w₁ o b (Jp hb s.size)).trans (s.same b hb hn)
 own:=s.own
 size:=by have:=s.size;simp;omega
 tape:=s.tape
 os:=s.os
 output:=s.output
def Step.junkKept (s:Step P ρ h w ρ₁ h₁ w₁) (hr:eZ P ρ h w) {L:Nat} {o:Obj} (hL:w.heap[L]?=some o) (hj:E5 o=true):w₁.heap[L]?=some o:=
 (s.same L (Jw.1 hL).1 (hr.notWr hL hj)).trans hL
end
section
variable {P : Program} {E : Env} {nt : Nat} {ρ : Ren} {h : H} {w : World}
def fL (d:Nat) (os:List Oper):Bool:=os.all λo=>match o.dst with | some i=>!beq i d | none=>true
def gF {d:Nat} {o:Oper} {l:List Oper} (hs:fL d (o :: l)=true) (a:Act) (v:Value):(a.put o.dst v).tmps[d]?=a.tmps[d]?/\fL d l=true:=by
 unfold fL at hs;rw[JZ,Ja] at hs;refine⟨?_,hs.2⟩;cases e:o.dst with
 | none=>rfl
 | some i=>
  have h1:=hs.1;rw[e] at h1;have hne:i≠d:=by intro q;subst q;simp at h1
  simp[Act.put,Array.getElem?_setIfInBounds_ne hne]
def gL (hE:TypesOK P E) {ex:gq} (hc:fJ P E ex) {ops:Array Oper} (hd:∀o∈ops.toList,eF nt o=true) (hb:nt<=1000000000) {Q:Exit->Act->World->Prop}:
  ∀(os:List Oper) (l:List Nat) (t t':TM) (h h':H) (ρ:Ren) (w:World) (a:Act),l.map (λi=>ops[i]?)=os.map some->eN E ex ops os t h=some (t',h')->eZ P ρ h w->ek ρ t a->nt<=a.tmps.size ->
   (∀ρ' w' a',Step P ρ h w ρ' h' w'->ek ρ' t' a'->nt<=a'.tmps.size->a'.defers=a.defers->(∀d,fL d os=true->a'.tmps[d]?=a.tmps[d]?)->Q .normal a' w')->wpOps P ops Q l a w
 | [],[],t,t',h,h',ρ,w,a,_,hv,hr,ht,hn,hQ=>by simp only[eN,I9,JA] at hv;obtain⟨rfl,rfl⟩:=hv;exact hQ ρ w a (Step.refl hr) ht hn rfl λ_ _=>rfl
 | o :: os,i :: l,t,t',h,h',ρ,w,a,hl,hv,hr,ht,hn,hQ=>by
  simp only[J5,List.cons.injEq] at hl;obtain⟨hi,hl⟩:=hl;have hmem:o∈ops.toList:=by simpa using Array.mem_of_getElem? hi
  simp only[eN] at hv;cases hop:Eo E ex ops o t h with
  | none=>simp[hop] at hv
  | some u=>
   obtain⟨t1,h1⟩:=u;simp only[hop] at hv;simp only[wpOps,hi];unfold Eo at hop;cases hw:bU ops t o with
   | none=>simp[hw] at hop
   | some b=>
    rw[nV ht hd hn hw];cases b with
    | false=> simp only[hw,I9,JA] at hop;obtain⟨rfl,rfl⟩:=hop;simp only[J1,if_false];refine gL hE hc hd hb os l _ t' h h' ρ w _ hl hv hr (ht.putV (hd o hmem) hn hb (VR.undef ρ)) (by rw[(cG a _ _).1];exact hn) ?_;intro ρ' w' a' s1 s2 s3 s4 s5;exact hQ ρ' w' a' s1 s2 s3 (by rw[s4,(cG a _ _).2]) λd q=>by have:=gF q a undef;exact (s5 d this.2).trans this.1
    | true=>
     simp only[hw] at hop;cases hval:ie E ex o t h with
     | none=>simp[hval] at hop
     | some u=> obtain⟨v,h2⟩:=u;simp only[hval,I9,JA] at hop;obtain⟨rfl,rfl⟩:=hop;simp only[if_true];refine .inl (A8 hE hc hval hr ht λρ1 v' w1 g1 g2=>?_);refine gL hE hc hd hb os l _ t' h2 h' ρ1 w1 _ hl hv g2.rel ((ht.mono g2.ext).putV (hd o hmem) hn hb g1) (by rw[(cG a _ _).1];exact hn) ?_;intro ρ' w' a' s1 s2 s3 s4 s5;exact hQ ρ' w' a' (g2.trans s1) s2 s3 (by rw[s4,(cG a _ _).2]) λd q=>by have:=gF q a v';exact (s5 d this.2).trans this.1
 | [],_ :: _,_,_,_,_,_,_,_,hl,_,_,_,_,_=>by simp at hl
 | _ :: _,[],_,_,_,_,_,_,_,hl,_,_,_,_,_=>by simp at hl
def lone (o:Oper):Bool:=match o.op with
 |.call c=>(match c.callee with | .value _=>false | _=>true)
 |.defer _=>false
 | _=>true
def Pb (hE:TypesOK P E) {ex:gq} {o:Oper} (hlone:lone o=true) {F:Fence} (hF:∀f,F.fn f) {n:Nat} {t:TM} {v:Value} {h':H} (hv:ie E ex o t h=some (v,h')) (hr:eZ P ρ h w) {a:Act} (ht:ek ρ t a)
  {K:Act->World->Prop} {Q:Exit->Act->World->Prop} (hK:∀ρ' v' w',VR ρ' v v'->Step P ρ h w ρ' h' w'->K (a.put o.dst v') w'):o.wpIn F n P a w K Q:=by
 refine⟨λf _=>hF f,?_⟩;rw[Oper.semAt_eq _ _ _ (λc e=>by unfold lone at hlone;rw[e] at hlone;exact nomatch hlone)];have hcall:gk o=none:=by
  unfold lone at hlone;unfold gk;split <;> rename_i e
  ·rw[e] at hlone;simp only at hlone;split <;> rename_i e2
   ·rw[e2] at hlone;exact nomatch hlone
   ·rfl
  ·rfl
 unfold ie at hv;rw[hcall] at hv;simp only at hv;cases hl:light E t h o with
 | some u=> simp only[hl,I9,JA] at hv;obtain⟨rfl,rfl⟩:=hv;obtain⟨v',h1,h2⟩:=qE hE hr ht hl;rw[h1];exact hK ρ v' w h2 (Step.refl hr)
 | none=>
  simp only[hl] at hv;cases hh:heavy E t h o with
  | some u=>
   obtain⟨u,h2⟩:=u;simp only[hh,I9,JA] at hv;obtain⟨rfl,rfl⟩:=hv;obtain⟨ρ',v',w',n,g1,g2,g3,g4⟩:=nh hE hr ht hh;rw[g1];rcases g2 with rfl | ⟨rfl,rfl⟩
   ·exact hK ρ' v' w' g3 g4
   ·exact hK ρ' _ w' g3 g4
  | none=>
   simp only[hh] at hv;cases ha:dk E t o with
   | none=>simp[ha] at hv
   | some u=>
    obtain⟨ob,k⟩:=u;simp only[ha] at hv;cases hroom:room h with
    | false=>simp[hroom] at hv
    | true=> simp only[hroom,Jo,I9,JA] at hv;obtain⟨rfl,rfl⟩:=hv;obtain⟨O,V',g1,g2,g3,g4,g5⟩:=oe hE hr ht ha;rw[g1];exact hK _ _ _ (g5 _ _ (Ren.le_upd (hr.unmapped (Jd _))) Ren.upd_same) (Step.alloc hr hroom g4)
def jG (hE:TypesOK P E) {ex:gq} {F:Fence} (hF:∀f,F.fn f) {n:Nat} {ops:Array Oper} (hd:∀o∈ops.toList,eF nt o=true) (hb:nt<=1000000000) {Q:Exit->Act->World->Prop}:
  ∀(os:List Oper) (l rest:List Nat) (t t':TM) (h h':H) (ρ:Ren) (w:World) (a:Act),os.all lone=true->l.map (λi=>ops[i]?)=os.map some->eN E ex ops os t h=some (t',h')->eZ P ρ h w->ek ρ t a->nt<=a.tmps.size ->
   (∀ρ' w' a',Step P ρ h w ρ' h' w'->ek ρ' t' a'->nt<=a'.tmps.size->a'.defers=a.defers->(∀d,fL d os=true->a'.tmps[d]?=a.tmps[d]?)->wpOpsIn F n P ops Q rest a' w')->wpOpsIn F n P ops Q (l++rest) a w
 | [],[],rest,t,t',h,h',ρ,w,a,_,_,hv,hr,ht,hn,hQ=>by simp only[eN,I9,JA] at hv;obtain⟨rfl,rfl⟩:=hv;exact hQ ρ w a (Step.refl hr) ht hn rfl λ_ _=>rfl
 | o :: os,i :: l,rest,t,t',h,h',ρ,w,a,hlone,hl,hv,hr,ht,hn,hQ=>by
  rw[JZ,Ja] at hlone;simp only[J5,List.cons.injEq] at hl;obtain⟨hi,hl⟩:=hl;have hmem:o∈ops.toList:=by simpa using Array.mem_of_getElem? hi
  simp only[eN] at hv;cases hop:Eo E ex ops o t h with
  | none=>simp[hop] at hv
  | some u=>
   obtain⟨t1,h1⟩:=u;simp only[hop] at hv;simp only[KY,wpOpsIn,hi];unfold Eo at hop;cases hw:bU ops t o with
   | none=>simp[hw] at hop
   | some b=>
    rw[nV ht hd hn hw];cases b with
    | false=> simp only[hw,I9,JA] at hop;obtain⟨rfl,rfl⟩:=hop;simp only[J1,if_false];refine⟨λf _=>hF f,?_⟩;refine jG hE hF hd hb os l rest _ t' h h' ρ w _ hlone.2 hl hv hr (ht.putV (hd o hmem) hn hb (VR.undef ρ)) (by rw[(cG a _ _).1];exact hn) ?_;intro ρ' w' a' s1 s2 s3 s4 s5;exact hQ ρ' w' a' s1 s2 s3 (by rw[s4,(cG a _ _).2]) λd q=>by have:=gF q a undef;exact (s5 d this.2).trans this.1
    | true=>
     simp only[hw] at hop;cases hval:ie E ex o t h with
     | none=>simp[hval] at hop
     | some u=> obtain⟨v,h2⟩:=u;simp only[hval,I9,JA] at hop;obtain⟨rfl,rfl⟩:=hop;simp only[if_true];refine Pb hE hlone.1 hF hval hr ht λρ1 v' w1 g1 g2=>?_;refine jG hE hF hd hb os l rest _ t' h2 h' ρ1 w1 _ hlone.2 hl hv g2.rel ((ht.mono g2.ext).putV (hd o hmem) hn hb g1) (by rw[(cG a _ _).1];exact hn) ?_;intro ρ' w' a' s1 s2 s3 s4 s5;exact hQ ρ' w' a' (g2.trans s1) s2 s3 (by rw[s4,(cG a _ _).2]) λd q=>by have:=gF q a v';exact (s5 d this.2).trans this.1
 | [],_ :: _,_,_,_,_,_,_,_,_,_,hl,_,_,_,_,_=>by simp at hl
 | _ :: _,[],_,_,_,_,_,_,_,_,_,hl,_,_,_,_,_=>by simp at hl
end
end
section
structure lF where
 (f nt i0 i1 i2 i3 i4 b b1 c y a e z d:Nat)
 (r0 r1 r2 r4:Array Oper)
 (mv o1 o2 o3 o4 cl o6:Oper)
def lF.r3 (I:lF):Array Oper:=#[I.mv,I.o1,I.o2,I.o3,I.o4,I.cl,I.o6]
def lF.round (I:lF):Code:=
 ((Code.region I.i1 I.r1 false).seq (.cond (.tmp I.c) .skip (.exit I.b))).seq (.block I.b1 ((Code.region I.i2 I.r2 false).seq (((Code.region I.i3 I.r3 false).seq (.cond (.tmp I.d) .ret .skip)).seq (.region I.i4 I.r4 false))))
def lF.code (I:lF):Code:=(Code.region I.i0 I.r0 false).seq (.block I.b (.loop I.round))
structure gC where
 (k k' i0 i1 i2 ia ib ic i6 g p q:Nat)
 (r0 r1 r2 ra rb rc r6:Array Oper)
def gC.assign (C:gC):Code:=(Code.region C.ia C.ra false).seq (.region C.ib C.rb false)
def gC.body (C:gC):Code:=.block C.k' (.region C.ic C.rc false)
def gC.code (C:gC):Code:=
 (Code.region C.i0 C.r0 false).seq ((Code.region C.i1 C.r1 false).seq (((Code.region C.i2 C.r2 false).seq (.block C.k (.rangeFunc (.tmp C.g) #[C.p,C.q] C.assign C.body))).seq ((Code.region C.i6 C.r6 false).seq .ret)))
def gz (nt:Nat) (ops:Array Oper):Bool:=ops.toList.all (eF nt)
structure lF.OK (P:Program) (I:lF):Prop where
 fn : ∃fn, P.funcs[I.f]? = some fn /\ fn.body = some I.code /\ fn.results = #[] /\ I.nt <= fn.ntmps /\ (fn.name== "runtime.NumGoroutine") = false
 small:I.nt<=1000000000
 d0:gz I.nt I.r0=true
 d1:gz I.nt I.r1=true
 d2:gz I.nt I.r2=true
 d3:gz I.nt I.r3=true
 d4:gz I.nt I.r4=true
 y:I.y<I.nt
 s0:fL 0 I.r0.toList=true
 s1:fL 0 I.r1.toList=true
 s2:fL 0 I.r2.toList=true
 s3:fL 0 [I.mv,I.o1,I.o2,I.o3,I.o4,I.cl,I.o6]=true
 sy:fL I.y [I.o1,I.o2,I.o3,I.o4]=true
 s4:fL 0 I.r4.toList=true
 l3:[I.o1,I.o2,I.o3,I.o4].all lone=true
 l6:[I.o6].all lone=true
 mv:I.mv.op=.move (.tmp 0)/\I.mv.dst=some I.y/\I.mv.guard=none
 cl:(∃tys,I.cl.op=.call { callee:=.value (.tmp I.y),args:=#[.tmp I.a,.tmp I.e],argTypes:=tys })/\I.cl.dst=some I.z/\I.cl.guard=none
structure gC.OK (nt:Nat) (C:gC):Prop where
 small:nt<=1000000000
 d0:gz nt C.r0=true
 d1:gz nt C.r1=true
 d2:gz nt C.r2=true
 da:gz nt C.ra=true
 db:gz nt C.rb=true
 dc:gz nt C.rc=true
 d6:gz nt C.r6=true
 p:C.p<nt
 q:C.q<nt
 la:C.ra.toList.all lone=true
 lb:C.rb.toList.all lone=true
 lc:C.rc.toList.all lone=true
def kZ (E:Env) (ex:gq) (I:lF) (C:gC) (tC:TM):Nat->TM->H->Option H
 | 0,_,_=>none
 | m+1,t,h=>
  match eN E ex I.r1 I.r1.toList t h with
  | none=>none
  | some (t,h)=>match t.get I.c with
   |.bool false=>some h
   |.bool true=>(match eN E ex I.r2 I.r2.toList t h with
    | none=>none
    | some (t,h)=>match eN E ex I.r3 [I.o1,I.o2,I.o3,I.o4] (t.ins deep I.y unk) h with
     | none=>none
     | some (t,h)=>match eN E ex C.ra C.ra.toList ((tC.ins deep C.p (t.get I.a)).ins deep C.q (t.get I.e)) h with
      | none=>none
      | some (u,h)=>match eN E ex C.rb C.rb.toList u h with
       | none=>none
       | some (u,h)=>match eN E ex C.rc C.rc.toList u h with
        | none=>none
        | some (_,h)=>match eN E ex I.r3 [I.o6] (t.ins deep I.z (.bool true)) h with
         | none=>none
         | some (t,h)=>match t.get I.d with
          |.bool false=>(match eN E ex I.r4 I.r4.toList t h with
           | none=>none
           | some (t,h)=>kZ E ex I C tC m t h)
          | _=>none)
   | _=>none
def zf (E:Env) (ex:gq) (I:lF) (C:gC) (res:List ResultVar) (n:Nat) (args:List Value) (h:H):Option (Value × H):=
 match eN E ex C.r0 C.r0.toList (T.ofList undef args) h with
 | none=>none
 | some (t,h)=>match eN E ex C.r1 C.r1.toList t h with
  | none=>none
  | some (t,h)=>match eN E ex C.r2 C.r2.toList t h with
   | none=>none
   | some (t,h)=>match t.get C.g with
    |.func (.func f) ⟨[]⟩ caps=>bif beq f I.f then
     (match eN E ex I.r0 I.r0.toList (T.ofList undef (unk :: caps.toList)) h with
     | none=>none
     | some (ti,h)=>match kZ E ex I C t n ti h with
      | none=>none
      | some h=>match eN E ex C.r6 C.r6.toList t h with
       | none=>none
       | some (t,h)=>match fO E h t res with
        | none=>none
        | some l=>match gQ l with
         | none=>none
         | some v=>some (v,h)) else none
    | _=>none
def gj {nt:Nat} {ops:Array Oper} (h:gz nt ops=true):∀o∈ops.toList,eF nt o=true:=Jv.1 h
section
variable {P : Program} {E : Env} {ρ : Ren} {h : H} {w : World}
def Ren.le.trans' {a b c:Ren} (h:a.le b) (h':b.le c):a.le c:=Ren.le_trans h h'
def sF {args args':List Value} (ha:bT (VR ρ) args args') (k:Nat):ek ρ (T.ofList undef args) { tmps:=⟨args'⟩++Array.replicate k undef,defers:=[] }:=by
 intro i;rw[T.get_ofList];have hl:=ha.length;simp only[Jc];by_cases hi:i<args.length
 ·obtain⟨v',e1,e2⟩:=ha.get i _ (Jn hi);rw[Jn hi];rw[JH,Array.getElem?_append_left (by simp;omega)];simp only[KL,e1];exact e2
 ·rw[Kw (Nat.le_of_not_lt hi)];rw[JH,Array.getElem?_append_right (by simp;omega)];have:((Array.replicate k undef)[i-(⟨args'⟩:Array Value).size]?).getD undef=undef:=by rw[Array.getElem?_replicate];split <;> rfl
  rw[this];exact VR.undef ρ
structure Mid (P:Program) (I:lF) (L D:Nat) (rec:Loop) (ρ0:Ren) (h0:H) (w0:World) (t:TM) (h:H) (ρ:Ren) (a:Act) (w:World):Prop where
 s:Step P ρ0 h0 w0 ρ h w
 t:ek ρ t a
 n:I.nt<=a.tmps.size
 d:a.defers=[]
 y:a.tmps[0]?=some (.func (.yield L) #[] #[])
 l:w.heap[L]?=some (.loop rec)
 k:w.heap[D]?=some (.deferred (some []))
def Mid.step {I:lF} {L D:Nat} {rec:Loop} {ρ0:Ren} {h0:H} {w0:World} {t t':TM} {h':H} {ρ':Ren} {a a':Act} {w':World} (m:Mid P I L D rec ρ0 h0 w0 t h ρ a w)
  (s:Step P ρ h w ρ' h' w') (ht:ek ρ' t' a') (hn:I.nt<=a'.tmps.size) (hd:a'.defers=a.defers) (hy:a'.tmps[0]?=a.tmps[0]?):Mid P I L D rec ρ0 h0 w0 t' h' ρ' a' w':=
 ⟨m.s.trans s,ht,hn,hd.trans m.d,hy.trans m.y,s.junkKept m.s.rel m.l rfl,s.junkKept m.s.rel m.k rfl⟩
def yX (ops:Array Oper):List.range ops.size=List.range ops.size ++ []:=(KB _).symm
def EW (hE:TypesOK P E) {ex:gq} (hc:fJ P E ex) {I:lF} (hI:I.OK P) {nt:Nat} {C:gC} (hC:C.OK nt) {L D:Nat} {rec:Loop} {ρ0:Ren} {h0:H} {w0:World} (hL:w0.heap.size<=L) (hD:w0.heap.size<=D) (hLD:L≠D)
  {tC:TM} {aC:Act} {ρC:Ren} {hh:H} {wC:World} (hrec:rec={ state:=.ready,pending:=none,fn:=rec.fn,tmps:=aC.tmps,params:=#[C.p,C.q],assign:=C.assign,body:=C.body,defers:=rec.defers })
  (htC:ek ρC tC aC) (hnC:nt<=aC.tmps.size) (hρC:Step P ρ0 h0 w0 ρC hh wC) {Q:Exit->Act->World->Prop} {hx:H}
  (hQ:∀a w ρ,Step P ρ0 h0 w0 ρ hx w->a.defers=[]->ρC.le ρ->w.heap[L]?=some (.loop rec)->w.heap[D]?=some (.deferred (some []))->Q (.exit I.b) a w)
  (n:Nat) (t:TM) (h:H) (ρ:Ren) (a:Act) (w:World) (hm:Mid P I L D rec ρ0 h0 w0 t h ρ a w) (hle:ρC.le ρ) (hv:kZ E ex I C tC n t h=some hx):
  (Code.loop I.round).wp P Q a w:=by
 refine wp_loop_ghost (λm a w=>∃t h ρ,Mid P I L D rec ρ0 h0 w0 t h ρ a w/\ρC.le ρ/\kZ E ex I C tC m t h=some hx) n ⟨t,h,ρ,hm,hle,hv⟩ ?_;rintro m a w ⟨t,h,ρ,hm,hle,hv⟩;cases m with
 | zero=>exact nomatch hv
 | succ m=>
  unfold kZ at hv;cases e1:eN E ex I.r1 I.r1.toList t h with
  | none=>simp[e1] at hv
  | some u1=>
   obtain⟨t1,h1⟩:=u1;simp only[e1] at hv;refine wp_seq (wp_seq (wp_region ?_));refine gL hE hc (gj hI.d1) hI.small _ _ _ _ _ _ _ _ _ (ez _) e1 hm.s.rel hm.t hm.n ?_;intro ρ1 w1 a1 s1 s2 s3 s4 s5;have m1:=hm.step s1 s2 s3 s4 (s5 0 hI.s1);have hle1:=hle.trans' s1.ext;show Code.wp P (.cond (.tmp I.c) .skip (.exit I.b)) _ a1 w1;have hcv:VR ρ1 (t1.get I.c) (a1.eval (.tmp I.c)):=j5 m1.s.rel s2 (.tmp I.c);split at hv
   ·rename_i ec;rw[ec] at hcv;refine wp_cond_false hcv.bool (wp_exit ?_);cases hv;exact hQ _ _ _ m1.s m1.d hle1 m1.l m1.k
   ·rename_i ec;rw[ec] at hcv;refine wp_cond_true hcv.bool (wp_skip ?_);show Code.wp P (.block I.b1 _) _ a1 w1;refine wp_block (wp_seq (wp_region ?_));cases e2:eN E ex I.r2 I.r2.toList t1 h1 with
    | none=>simp[e2] at hv
    | some u2=>
     obtain⟨t2,h2⟩:=u2;simp only[e2] at hv;refine gL hE hc (gj hI.d2) hI.small _ _ _ _ _ _ _ _ _ (ez _) e2 m1.s.rel m1.t m1.n ?_;intro ρ2 w2 a2 s1 s2 s3 s4 s5;have m2:=m1.step s1 s2 s3 s4 (s5 0 hI.s2);have hle2:=hle1.trans' s1.ext;refine wp_seq (wp_seq (wpIn_wide.1 (wpIn_region (F:=Fence.wide) (n:=0) ?_)));have hF:∀f,Fence.wide.fn f:=λ_=>trivial;show wpOpsIn Fence.wide 0 P I.r3 _ (0 :: ([1,2,3,4] ++ [5,6])) a2 w2;rw[wpOpsIn];have i0:I.r3[0]?=some I.mv:=rfl;rw[i0];simp only;rw[show Region.wanted I.mv (yielded I.r3 a2.tmps)=true by unfold Region.wanted;rw[hI.mv.2.2]];simp only[if_true];refine⟨λf _=>hF f,?_⟩;rw[show Oper.semAt Fence.wide.round a2.eval I.mv=execOp a2.eval I.mv from rfl];rw[show (execOp a2.eval I.mv).run P w2=.ok (.value (a2.eval (.tmp 0))) w2 by simp[execOp,hI.mv.1]];show wpOpsIn Fence.wide 0 P I.r3 _ ([1,2,3,4] ++ [5,6]) (a2.put I.mv.dst (a2.eval (.tmp 0))) w2;have hy0:a2.eval (.tmp 0)=.func (.yield L) #[] #[]:=by simp only[Act.eval];rw[JH,m2.y];rfl
     rw[hy0,hI.mv.2.1];cases e3:eN E ex I.r3 [I.o1,I.o2,I.o3,I.o4] (t2.ins deep I.y unk) h2 with
     | none=>simp[e3] at hv
     | some u3=>
      obtain⟨t3,h3⟩:=u3;simp only[e3] at hv;have hys:I.y<a2.tmps.size:=Jp hI.y m2.n;have sp:=gF (d:=0) hI.s3 a2 (.func (.yield L) #[] #[]);rw[hI.mv.2.1] at sp;refine jG hE hF (gj hI.d3) hI.small _ [1,2,3,4] [5,6] _ _ _ _ ρ2 w2 _ hI.l3 rfl e3 m2.s.rel (m2.t.put I.y hys (dX (by have:=hI.y;have:=hI.small;omega)) (VR.unk ρ2 _)) (by rw[(cG a2 _ _).1];exact m2.n) ?_;intro ρ3 w3 a3 s1 s2 s3 s4 s5;have hsp3:fL 0 [I.o1,I.o2,I.o3,I.o4]=true:=by have:=hI.s3;unfold fL at this ⊢;simp only[JZ,List.all_nil,Ja] at this ⊢;exact⟨this.2.1,this.2.2.1,this.2.2.2.1,this.2.2.2.2.1,trivial⟩
      have m3:Mid P I L D rec ρ0 h0 w0 t3 h3 ρ3 a3 w3:=⟨m2.s.trans s1,s2,s3,by rw[s4,(cG a2 _ _).2];exact m2.d,by rw[s5 0 hsp3,sp.1];exact m2.y,s1.junkKept m2.s.rel m2.l rfl,s1.junkKept m2.s.rel m2.k rfl⟩;have hle3:=hle2.trans' s1.ext;have hy3:a3.tmps[I.y]?=some (.func (.yield L) #[] #[]):=by rw[s5 I.y hI.sy];simp[Act.put,hys]
      rw[wpOpsIn];have i5:I.r3[5]?=some I.cl:=rfl;rw[i5];simp only;rw[show Region.wanted I.cl (yielded I.r3 a3.tmps)=true by unfold Region.wanted;rw[hI.cl.2.2]];simp only[if_true];refine⟨λf _=>hF f,?_⟩;rw[show Oper.semAt Fence.wide.round a3.eval I.cl=execOp a3.eval I.cl from rfl];obtain⟨tys,hop⟩:=hI.cl.1;have hyv:a3.eval (.tmp I.y)=.func (.yield L) #[] #[]:=by simp only[Act.eval];rw[JH,hy3];rfl
      have hrun:(execOp a3.eval I.cl).run P w3=(Instr.yield L #[a3.eval (.tmp I.a),a3.eval (.tmp I.e)]).run P w3:=by unfold execOp;simp only[hop,Sem.run_bind,resolve,hyv,Deferred.ofValue,Sem.run_pure,Result.andThen_ok,invoke];simp
      rw[hrun,run_yield m3.l (by rw[hrec];rfl)];refine⟨λq=>(nomatch q),?_⟩;refine roundIn_of_wpIn trivial ?_;rw[show rec.assign=C.assign by rw[hrec],show rec.body=C.body by rw[hrec],show rec.params=#[C.p,C.q] by rw[hrec],show rec.tmps=aC.tmps by rw[hrec]];have hfold:((#[C.p,C.q]:Array Tmp).zip #[a3.eval (.tmp I.a),a3.eval (.tmp I.e)]).foldl (λtmps (x:Tmp × Value)=>tmps.setIfInBounds x.1 x.2) aC.tmps=((aC.put (some C.p) (a3.eval (.tmp I.a))).put (some C.q) (a3.eval (.tmp I.e))).tmps:=by simp[Act.put]
      have htR:ek ρ3 ((tC.ins deep C.p (t3.get I.a)).ins deep C.q (t3.get I.e)) ((aC.put (some C.p) (a3.eval (.tmp I.a))).put (some C.q) (a3.eval (.tmp I.e))):=
       ((htC.mono hle3).put C.p (Jp hC.p hnC) (dX (by have:=hC.p;have:=hC.small;omega)) (j5 m3.s.rel m3.t (.tmp I.a))).put C.q (by rw[(cG aC _ _).1];exact Jp hC.q hnC) (dX (by have:=hC.q;have:=hC.small;omega)) (j5 m3.s.rel m3.t (.tmp I.e))
      cases e4:eN E ex C.ra C.ra.toList ((tC.ins deep C.p (t3.get I.a)).ins deep C.q (t3.get I.e)) h3 with
      | none=>simp[e4] at hv
      | some u4=>
       obtain⟨t4,h4⟩:=u4;simp only[e4] at hv;refine wpIn_seq (wpIn_region ?_);rw[yX];refine jG hE (F:=Fence.wide.inRound L) hF (gj hC.da) hC.small _ _ [] _ t4 _ h4 ρ3 w3 _ hC.la (ez _) e4 m3.s.rel ?_ ?_ ?_
       ·intro i;have:=htR i;rw[<-hfold] at this;exact this
       ·have:=congrArg Array.size hfold;rw[(cG _ _ _).1,(cG _ _ _).1] at this;exact JV hnC (Nat.le_of_eq this.symm)
       intro ρ4 w4 a4 p1 p2 p3 p4 p5;cases e5:eN E ex C.rb C.rb.toList t4 h4 with
       | none=>simp[e5] at hv
       | some u5=>
        obtain⟨t5,h5⟩:=u5;simp only[e5] at hv;show Code.wpIn (Fence.wide.inRound L) _ P (.region C.ib C.rb false) _ a4 w4;refine wpIn_region ?_;rw[yX];refine jG hE (F:=Fence.wide.inRound L) hF (gj hC.db) hC.small _ _ [] _ t5 _ h5 ρ4 w4 _ hC.lb (ez _) e5 p1.rel p2 p3 ?_;intro ρ5 w5 a5 q1 q2 q3 q4 q5;have st5:=p1.trans q1;have hl5:=st5.junkKept m3.s.rel m3.l rfl;have hk5:=st5.junkKept m3.s.rel m3.k rfl;refine⟨_,run_beginRound hl5 (by rw[hrec]),?_⟩;have hlt5:L<w5.heap.size:=(Jw.1 hl5).1;have st6:=(m3.s.trans st5).putObj (o':=.loop { rec with state:=.busy }) hl5 rfl hL;cases e6:eN E ex C.rc C.rc.toList t5 h5 with
        | none=>simp[e6] at hv
        | some u6=>
         obtain⟨t6,h6⟩:=u6;simp only[e6] at hv;refine wpIn_block (wpIn_region ?_);rw[yX];refine jG hE (F:=Fence.wide.inRound L) hF (gj hC.dc) hC.small _ _ [] _ t6 _ h6 ρ5 _ _ hC.lc (ez _) e6 st6.rel q2 q3 ?_;intro ρ6 w6 a6 x1 x2 x3 x4 x5;have hl6:=x1.junkKept st6.rel (World.putObj_heap_same hlt5) rfl;have hk6:=x1.junkKept st6.rel ((World.putObj_heap_other (o:=.loop { rec with state:=.busy }) (Ne.symm hLD)).trans hk5) rfl;refine⟨_,_,run_endRound none hl6,?_⟩;have hlt6:L<w6.heap.size:=(Jw.1 hl6).1;have hrec':({ ({ rec with state:=.busy }:Loop) with state:=if (Option.isNone (none:Option Code)) then LoopState.ready else .done,pending:=none }:Loop)=rec:=by rw[hrec];rfl
         rw[hrec'];have st7:=(st6.trans x1).putObj (o':=.loop rec) hl6 rfl hL;have hle7:=((hle3.trans' p1.ext).trans' q1.ext).trans' x1.ext;have hzs:eF I.nt I.cl=true:=gj hI.d3 I.cl (by simp[lF.r3]);have hz:I.z<I.nt:=by unfold eF at hzs;rw[hI.cl.2.1] at hzs;exact I7 hzs
         have ht7:ek ρ6 (t3.ins deep I.z (.bool true)) (a3.put I.cl.dst (.bool true)):=by rw[hI.cl.2.1];exact ((((m3.t.mono p1.ext).mono q1.ext).mono x1.ext)).put I.z (Jp hz m3.n) (dX (by have:=hI.small;omega)) (rG rfl)
         show wpOpsIn Fence.wide 0 P I.r3 _ ([6] ++ []) (a3.put I.cl.dst (.bool true)) _;cases e7:eN E ex I.r3 [I.o6] (t3.ins deep I.z (.bool true)) h6 with
         | none=>simp[e7] at hv
         | some u7=>
          obtain⟨t7,h7⟩:=u7;simp only[e7] at hv;refine jG hE hF (gj hI.d3) hI.small _ [6] [] _ _ _ _ ρ6 _ _ hI.l6 rfl e7 st7.rel ht7 (by rw[(cG a3 _ _).1];exact m3.n) ?_;intro ρ8 w8 a8 z1 z2 z3 z4 z5;have sp5:fL 0 [I.cl,I.o6]=true:=by have:=hI.s3;unfold fL at this ⊢;simp only[JZ,List.all_nil,Ja] at this ⊢;exact⟨this.2.2.2.2.2.1,this.2.2.2.2.2.2.1,trivial⟩
          have QS:=gF sp5 a3 (.bool true);have m8:Mid P I L D rec ρ0 h0 w0 t7 h7 ρ8 a8 w8:=
           ⟨st7.trans z1,z2,z3,by rw[z4,(cG a3 _ _).2];exact m3.d,by rw[z5 0 QS.2,QS.1];exact m3.y,
            z1.junkKept st7.rel (World.putObj_heap_same hlt6) rfl,z1.junkKept st7.rel ((World.putObj_heap_other (o:=.loop rec) (Ne.symm hLD)).trans hk6) rfl⟩
          have hle8:=hle7.trans' z1.ext;show Code.wp P (.cond (.tmp I.d) .ret .skip) _ a8 w8;have hdv:VR ρ8 (t7.get I.d) (a8.eval (.tmp I.d)):=j5 m8.s.rel m8.t (.tmp I.d);split at hv
          ·rename_i ed;rw[ed] at hdv;refine wp_cond_false hdv.bool (wp_skip ?_);show Code.wp P (.region I.i4 I.r4 false) _ a8 w8;refine wp_region ?_;cases e9:eN E ex I.r4 I.r4.toList t7 h7 with
           | none=>simp[e9] at hv
           | some u9=> obtain⟨t9,h9⟩:=u9;simp only[e9] at hv;refine gL hE hc (gj hI.d4) hI.small _ _ _ _ _ _ _ _ _ (ez _) e9 m8.s.rel m8.t m8.n ?_;intro ρ9 w9 a9 y1 y2 y3 y4 y5;exact⟨m,KV _,t9,h9,ρ9,m8.step y1 y2 y3 y4 (y5 0 hI.s4),hle8.trans' y1.ext,hv⟩
          ·exact nomatch hv
   ·exact nomatch hv
end
end
section
section
variable {P : Program} {E : Env}
def Hw (hE : TypesOK P E) {ex : gq} (hc : fJ P E ex) {I : lF} (hI : I.OK P) {C : gC} {f : FuncId} {fn : Func} (hf : P.funcs[f]? = some fn) (hbody : fn.body = some C.code) (hname : (fn.name== "runtime.NumGoroutine") = false) (hC : C.OK fn.ntmps) (n : Nat):
  dC P f (zf E ex I C fn.results.toList n):=by
 intro ρ h w args args' v h' hr ha hv;right;refine⟨fn,hf,by rw[hbody];rfl,hname,?_⟩;refine callsIn_wide.1 (callsIn_of_wp_marks (F:=Fence.wide) (n:=0) hf hbody trivial ?_);have ht0:=sF ha (fn.ntmps-args'.length);have hn0:fn.ntmps<=(⟨args'⟩++Array.replicate (fn.ntmps-args'.length) undef:Array Value).size:=by simp;omega
 unfold zf at hv;cases e0:eN E ex C.r0 C.r0.toList (T.ofList undef args) h with
 | none=>simp[e0] at hv
 | some u0=>
 obtain⟨t0,h0⟩:=u0;simp only[e0] at hv;refine wpIn_seq (wpIn_wide.2 (wp_region ?_));refine gL hE hc (gj hC.d0) hC.small _ _ _ _ _ _ _ _ _ (ez _) e0 hr ht0 hn0 ?_;intro ρ0 w0 a0 s1 s2 s3 s4 _;have st0:=s1;have hd0:=s4;have hn0:=s3;have ht0:=s2;cases e1:eN E ex C.r1 C.r1.toList t0 h0 with
 | none=>simp[e1] at hv
 | some u1=>
 obtain⟨t1,h1⟩:=u1;simp only[e1] at hv;show Code.wpIn Fence.wide 0 P _ _ a0 w0;refine wpIn_seq (wpIn_wide.2 (wp_region ?_));refine gL hE hc (gj hC.d1) hC.small _ _ _ _ _ _ _ _ _ (ez _) e1 st0.rel ht0 hn0 ?_;intro ρ1 w1 a1 s1 s2 s3 s4 _;have st1:=st0.trans s1;have ht1:=s2;have hn1:=s3;have hd1:=s4.trans hd0;cases e2:eN E ex C.r2 C.r2.toList t1 h1 with
 | none=>simp[e2] at hv
 | some u2=>
 obtain⟨t2,h2⟩:=u2;simp only[e2] at hv;show Code.wpIn Fence.wide 0 P _ _ a1 w1;refine wpIn_seq (wpIn_seq (wpIn_wide.2 (wp_region ?_)));refine gL hE hc (gj hC.d2) hC.small _ _ _ _ _ _ _ _ _ (ez _) e2 st1.rel ht1 hn1 ?_;intro ρ2 w2 a2 s1 s2 s3 s4 _;have st2:=st1.trans s1;have ht2:=s2;have hn2:=s3;have hd2:=s4.trans hd1;clear s1 s2 s3 s4;have hgv:VR ρ2 (t2.get C.g) (a2.eval (.tmp C.g)):=j5 st2.rel ht2 (.tmp C.g);split at hv
 ·rename_i gf caps eg;rw[eg] at hgv;obtain⟨x,y,g1,g2,g3⟩:=hgv.func;have hx:x=[]:=by simp only[fH,I9] at g1;exact g1.symm
  subst hx;cases hbeq:beq gf I.f with
  | false=>rw[hbeq] at hv;exact nomatch hv
  | true=>
  rw[hbeq] at hv;have hgf:=I8 hbeq;subst hgf;simp only[Jo] at hv;obtain⟨fnI,hfI,hbI,hresI,hntI,hnameI⟩:=hI.fn;cases e3:eN E ex I.r0 I.r0.toList (T.ofList undef (unk :: caps.toList)) h2 with
  | none=>simp[e3] at hv
  | some u3=>
  obtain⟨t3,h3⟩:=u3;simp only[e3] at hv;cases e4:kZ E ex I C t2 n t3 h3 with
  | none=>simp[e4] at hv
  | some h4=>
  simp only[e4] at hv;show Code.wpIn Fence.wide 0 P (.block C.k _) _ a2 w2;refine wpIn_block (wpIn_rangeFunc ?_);intro fnn _;obtain⟨rec,hrec⟩:∃rec:Loop,rec={ state:=.ready,pending:=none,fn:=fnn,tmps:=a2.tmps,params:=#[C.p,C.q],assign:=C.assign,body:=C.body,defers:=w2.heap.size }:=⟨_,rfl⟩;obtain⟨W1,hW1⟩:∃W1,(w2.alloc (.deferred (some []))).alloc (.loop rec)=W1:=⟨_,rfl⟩;have hL1:W1.heap[w2.heap.size+1]?=some (.loop rec):=by rw[<-hW1];have:=World.alloc_heap_new (w2.alloc (.deferred (some []))) (.loop rec);rwa [World.size_alloc] at this
  have hK1:W1.heap[w2.heap.size]?=some (.deferred (some [])):=by rw[<-hW1];exact (heap_alloc_old _ _ _ (by simp)).trans (World.alloc_heap_new w2 _)
  have stW:Step P ρ h w ρ2 h2 W1:=by rw[<-hW1];exact (st2.allocJunk _).allocJunk _
  refine⟨w2.heap.size+1,[{ target:=.collected w2.heap.size,args:=#[] }],W1,{ target:=.fn (.func I.f) ⟨y⟩,args:=#[.func (.yield (w2.heap.size+1)) #[] #[]] },W1,I.f,
   #[.func (.yield (w2.heap.size+1)) #[] #[]]++⟨y⟩,W1,?_,?_,λ_ _=>trivial,?_,λq=>(nomatch q),?_⟩
  ·rw[<-hW1,hrec];exact run_enterLoop_outer _ _ _ _ _
  ·simp only[resolve,g3];simp[Deferred.ofValue];rfl
  ·have he:(callFunc I.f (#[.func (.yield (w2.heap.size+1)) #[] #[]]++⟨y⟩)).run P W1=.ok (.enter I.f (#[.func (.yield (w2.heap.size+1)) #[] #[]]++⟨y⟩)) W1:=by unfold callFunc;rw[Sem.run_bind,run_program];simp only[Result.andThen_ok,hfI,hnameI,hbI,J1,if_false];rfl
   simp[invoke];simpa using he
  ·
   have hargs:bT (VR ρ2) (unk :: caps.toList) (.func (.yield (w2.heap.size+1)) #[] #[] :: y):=⟨VR.unk _ _,lz g2⟩;refine callsIn_wide.2 (calls_of_wp hfI hbI ?_);have hti:=sF hargs (fnI.ntmps-(y.length+1));have hact:({ tmps:=#[.func (.yield (w2.heap.size+1)) #[] #[]]++⟨y⟩++Array.replicate (fnI.ntmps-(#[.func (.yield (w2.heap.size+1)) #[] #[]]++⟨y⟩:Array Value).size) undef,defers:=[] }:Act)={ tmps:=⟨.func (.yield (w2.heap.size+1)) #[] #[] :: y⟩++Array.replicate (fnI.ntmps-(y.length+1)) undef,defers:=[] }:=by simp
   rw[hact];have hni:I.nt<=(⟨.func (.yield (w2.heap.size+1)) #[] #[] :: y⟩++Array.replicate (fnI.ntmps-(y.length+1)) undef:Array Value).size:=by simp;omega
   refine wp_seq (wp_region ?_);refine gL hE hc (gj hI.d0) hI.small _ _ _ _ _ _ _ _ _ (ez _) e3 stW.rel hti hni ?_;intro ρ3 w3 a3 s1 s2 s3 s4 s5;have m3:Mid P I (w2.heap.size+1) w2.heap.size rec ρ h w t3 h3 ρ3 a3 w3:=by refine⟨stW.trans s1,s2,s3,s4,?_,s1.junkKept stW.rel hL1 rfl,s1.junkKept stW.rel hK1 rfl⟩;rw[s5 0 hI.s0];show (_++_:Array Value)[0]?=_;rw[Array.getElem?_append_left (by simp)];rfl
   show Code.wp P (.block I.b _) _ a3 w3;refine wp_block ?_;refine EW hE hc hI hC (ρC:=ρ2) (tC:=t2) (aC:=a2) (JV st2.size (Nat.le_succ _)) st2.size (by omega) (by rw[hrec]) ht2 hn2 st2 (hx:=h4) ?_ n t3 h3 ρ3 a3 w3 m3 s1.ext e4;intro a4 w4 ρ4 st4 hd4 hle4 hl4 hk4;simp only[Exit.inBlock,if_true];have hpend:rec.pending=none:=by rw[hrec]
   have hend:(Instr.endLoop (w2.heap.size+1)).run P w4=.ok none (w4.putObj (w2.heap.size+1) (.loop { rec with state:=.exhausted })):=
    (run_endLoop (P:=P) hl4 (by rw[hrec];simp)).trans (by rw[hpend])
   refine⟨hd4,.tuple #[],results_none hresI _ _ _,none,w4.putObj (w2.heap.size+1) (.loop { rec with state:=.exhausted }),hend,?_⟩
   ·have st5:=st4.putObj (o':=.loop { rec with state:=.exhausted }) hl4 rfl (JV st2.size (Nat.le_succ _));have hk5:(w4.putObj (w2.heap.size+1) (.loop { rec with state:=.exhausted })).heap[w2.heap.size]?=some (.deferred (some [])):=(World.putObj_heap_other (by omega)).trans hk4;cases e6:eN E ex C.r6 C.r6.toList t2 h4 with
    | none=>simp[e6] at hv
    | some u6=>
    obtain⟨t6,h6⟩:=u6;simp only[e6] at hv;show Code.wpIn Fence.wide 0 P ((Code.region C.i6 C.r6 false).seq .ret) _ { a2 with defers:=_ } _;refine wpIn_seq (wpIn_wide.2 (wp_region ?_));refine gL hE hc (gj hC.d6) hC.small _ _ _ _ _ _ _ _ { a2 with defers:=[{ target:=.collected w2.heap.size,args:=#[] }]++a2.defers } (ez _) e6 st5.rel (λi=>(ht2.mono hle4) i) hn2 ?_;intro ρ6 w6 a6 s1 s2 s3 s4 _;show Code.wpIn Fence.wide 0 P .ret _ a6 w6;refine wpIn_ret ?_;cases hres:fO E h6 t6 fn.results.toList with
    | none=>simp[hres] at hv
    | some vs=>
    simp only[hres] at hv;cases htu:gQ vs with
    | none=>simp[htu] at hv
    | some u=>
    simp only[htu,I9,JA] at hv;obtain⟨rfl,rfl⟩:=hv;have st6:=st5.trans s1;have hk6:=s1.junkKept st5.rel hk5 rfl;have st7:=st6.putObj (o':=.deferred none) hk6 rfl st2.size;show LeavesInM Fence.wide 0 P fn a6.tmps _ a6.defers .returning w6;have hd6:a6.defers=[{ target:=.collected w2.heap.size,args:=#[] }]:=by rw[s4];show [_]++a2.defers=_;rw[hd2];rfl
    rw[hd6];refine⟨by simp,.inl ⟨_,_,rfl,run_takeDeferred hk6,?_⟩⟩;obtain⟨v',r1,r2⟩:=my hE st7.rel s2 hres htu;exact⟨v',r1,ρ6,v',rfl,r2,st7⟩
 ·exact nomatch hv
end
end
end Go.Ev
