/-
  PRINTED SCRIPTS: how long their lines are, and what is asked of the commands of a text, in plain Lean.
-/
import Derived.Test.YtglmdggjibmjcaaGreatDoorYg
import Derived.Test.YtglmdggjibmjcaaGreatDoorYk
noncomputable section
set_option linter.all false
set_option maxRecDepth 100000
open Nat (ble beq)
namespace Go.Ev
open Go
def fz:Form:=⟨[],[],false⟩
def gT {n:Int} {w:Bs} (h:dn n=some w):bM w=(n.toNat,0)/\(n.toNat:Int)=n/\w.all dR=true/\w ≠ []:=by
 unfold dn at h;by_cases q:0<=n/\n<=4294967296
 ·rw[if_pos q] at h;cases h;exact⟨Ik (by omega),by omega,uD _,nX _⟩
 ·rw[if_neg q] at h;exact nomatch h
def fV {w:Bs} (h:w.all dR=true) (hne:w ≠ []):aG w=true:=by
 unfold aG;rw[Ja];refine⟨by simp[hne],?_⟩;rw[Jv] at h ⊢;intro b hb;have:=h b hb;unfold dR at this;rw[Ja] at this;have h1:=I7 this.1;rw[Ja];constructor
 ·rw[Bool.not_eq_true',JM];rintro rfl;exact absurd h1 (by decide)
 ·rw[Bool.not_eq_true',JM];rintro rfl;exact absurd h1 (by decide)
def sQ {s w : Bs} (h : fg s = some w):(if w = str "." then [] else w) = s /\ aG w = true:= by
 unfold fg at h;by_cases q:s=[]
 ·rw[if_pos q] at h;cases h;exact⟨by rw[if_pos rfl,q],by decide⟩
 ·rw[if_neg q] at h;by_cases q2 : s = str "."
  ·rw[if_pos q2] at h;exact nomatch h
  ·rw[if_neg q2] at h;by_cases q3:aG s=true
   ·rw[if_pos q3] at h;cases h;exact⟨if_neg q2,q3⟩
   ·rw[if_neg q3] at h;exact nomatch h
def Da:∀k,k<=4->gD (aZ.getD k []) aZ=k/\aG (aZ.getD k [])=true
 | 0,_=>by decide
 | 1,_=>by decide
 | 2,_=>by decide
 | 3,_=>by decide
 | 4,_=>by decide
 | k+5,h=>by omega
structure Agr (x c:bV) (r:List Sg) (on tx:List Bs):Prop where
 line:x.line=c.line
 op:x.op=c.op
 label:Sg.L∈r \/ x.label=c.label
 n:Sg.n∈r \/ Sg.o∈r \/ x.n=c.n
 m:Sg.m∈r \/ x.m=c.m
 k:Sg.k∈r \/ x.k=c.k
 kind:Sg.c∈r \/ x.kind=c.kind
 on:x.on++on=c.on
 texts:x.texts++tx=c.texts
def Gh {w : Bs} (h : w.all dR = true): w≠str "none" := by rintro rfl;exact absurd h (by decide)
def Di {c x:bV} {s:Sg} {r:List Sg} {on tx on' tx':List Bs} {w:Bs} (hp:eD c s on tx=some (w,on',tx')) (a:Agr x c (s :: r) on tx):aG w=true/\∃y,eE x s w=.ok y/\Agr y c r on' tx':=by
 have hm:∀{t:Sg},t≠s->t∈s :: r->t∈r:=λhne h=>by
  rcases Jr.1 h with h | h
  ·exact absurd h hne
  ·exact h
 cases s with
 | L=>
  replace hp:(if aG c.label=true/\c.label.length<=16 then some (c.label,on,tx) else none)=some (w,on',tx'):=hp;by_cases q:aG c.label=true/\c.label.length<=16
  ·rw[if_pos q] at hp;cases hp;refine⟨q.1,{ x with label:=c.label },if_neg (by omega),⟨a.line,a.op,.inr rfl,?_,?_,?_,?_,a.on,a.texts⟩⟩
   ·rcases a.n with h | h | h
    ·exact .inl (hm (by decide) h)
    ·exact .inr (.inl (hm (by decide) h))
    ·exact .inr (.inr h)
   ·exact a.m.imp (hm (by decide)) id
   ·exact a.k.imp (hm (by decide)) id
   ·exact a.kind.imp (hm (by decide)) id
  ·rw[if_neg q] at hp;exact nomatch hp
 | h=>
  cases on with
  | nil=>exact nomatch hp
  | cons v on=>
   replace hp:(if aG v=true then some (v,on,tx) else none)=some (w,on',tx'):=hp;by_cases q:aG v=true
   ·rw[if_pos q] at hp;cases hp;refine⟨q,{ x with on:=x.on ++ [w] },rfl,⟨a.line,a.op,a.label.imp (hm (by decide)) id,?_,a.m.imp (hm (by decide)) id,a.k.imp (hm (by decide)) id,a.kind.imp (hm (by decide)) id,?_,a.texts⟩⟩
    ·rcases a.n with h | h | h
     ·exact .inl (hm (by decide) h)
     ·exact .inr (.inl (hm (by decide) h))
     ·exact .inr (.inr h)
    ·rw[<-a.on];simp
   ·rw[if_neg q] at hp;exact nomatch hp
 | t=>
  cases tx with
  | nil=>exact nomatch hp
  | cons v tx=>
   replace hp:((fg v).map λw=>(w,on,tx))=some (w,on',tx'):=hp;cases ht:fg v with
   | none=>rw[ht] at hp;exact nomatch hp
   | some u=>
    rw[ht] at hp;cases hp;obtain⟨e1,e2⟩:=sQ ht;refine⟨e2, { x with texts:= x.texts ++ [if w = str "." then [] else w] }, rfl, ⟨a.line, a.op, a.label.imp (hm (by decide)) id, ?_, a.m.imp (hm (by decide)) id, a.k.imp (hm (by decide)) id, a.kind.imp (hm (by decide)) id, a.on, ?_⟩⟩
    ·rcases a.n with h | h | h
     ·exact .inl (hm (by decide) h)
     ·exact .inr (.inl (hm (by decide) h))
     ·exact .inr (.inr h)
    ·rw[<-a.texts,e1];simp
 | c=>
  replace hp:(if c.kind<=4 then some (aZ.getD c.kind [],on,tx) else none)=some (w,on',tx'):=hp;by_cases q:c.kind<=4
  ·rw[if_pos q] at hp;cases hp;obtain⟨e1,e2⟩:=Da c.kind q;refine⟨e2,{ x with kind:=c.kind },?_,⟨a.line,a.op,a.label.imp (hm (by decide)) id,?_,a.m.imp (hm (by decide)) id,a.k.imp (hm (by decide)) id,.inr rfl,a.on,a.texts⟩⟩
   ·show (if gD (aZ.getD c.kind []) aZ<5 then _ else _)=_;rw[e1,if_pos (by omega)]
   ·rcases a.n with h | h | h
    ·exact .inl (hm (by decide) h)
    ·exact .inr (.inl (hm (by decide) h))
    ·exact .inr (.inr h)
  ·rw[if_neg q] at hp;exact nomatch hp
 | o=>
  replace hp : (if c.n = -1 then some (str "none", on, tx) else (dn c.n).map fun w=> (w, on, tx)) = some (w, on', tx'):= hp
  by_cases q:c.n=-1
  ·rw[if_pos q] at hp;cases hp
   refine⟨by decide,{ x with n:=-1 },(by
    show (if str "none" = str "none" then Except.ok { x with n:= -1 } else if (bM (str "none")).2 = 0 then .ok { x with n:= (bM (str "none")).1 } else .error (bM (str "none")).2) = _
    rw[if_pos rfl]),⟨a.line,a.op,a.label.imp (hm (by decide)) id,.inr (.inr q.symm),a.m.imp (hm (by decide)) id,a.k.imp (hm (by decide)) id,a.kind.imp (hm (by decide)) id,a.on,a.texts⟩⟩
  ·rw[if_neg q] at hp;cases hn:dn c.n with
   | none=>rw[hn] at hp;exact nomatch hp
   | some u=>
    rw[hn] at hp;cases hp;obtain⟨e1,e2,e3,e4⟩:=gT hn;refine⟨fV e3 e4,{ x with n:=((bM w).1:Nat) },?_,⟨a.line,a.op,a.label.imp (hm (by decide)) id,.inr (.inr (by rw[e1];exact e2)),a.m.imp (hm (by decide)) id,a.k.imp (hm (by decide)) id,a.kind.imp (hm (by decide)) id,a.on,a.texts⟩⟩;show (if w = str "none" then _ else _) = _
    rw[if_neg (Gh e3),if_pos (by rw[e1])]
 | n=>
  replace hp:((dn c.n).map λw=>(w,on,tx))=some (w,on',tx'):=hp;cases hn:dn c.n with
  | none=>rw[hn] at hp;exact nomatch hp
  | some u=> rw[hn] at hp;cases hp;obtain⟨e1,e2,e3,e4⟩:=gT hn;exact⟨fV e3 e4,{ x with n:=((bM w).1:Nat) },if_pos (by rw[e1]),⟨a.line,a.op,a.label.imp (hm (by decide)) id,.inr (.inr (by rw[e1];exact e2)),a.m.imp (hm (by decide)) id,a.k.imp (hm (by decide)) id,a.kind.imp (hm (by decide)) id,a.on,a.texts⟩⟩
 | m=>
  replace hp:((dn c.m).map λw=>(w,on,tx))=some (w,on',tx'):=hp;cases hn:dn c.m with
  | none=>rw[hn] at hp;exact nomatch hp
  | some u=>
   rw[hn] at hp;cases hp;obtain⟨e1,e2,e3,e4⟩:=gT hn;refine⟨fV e3 e4,{ x with m:=((bM w).1:Nat) },if_pos (by rw[e1]),⟨a.line,a.op,a.label.imp (hm (by decide)) id,?_,.inr (by rw[e1];exact e2),a.k.imp (hm (by decide)) id,a.kind.imp (hm (by decide)) id,a.on,a.texts⟩⟩;rcases a.n with h | h | h
   ·exact .inl (hm (by decide) h)
   ·exact .inr (.inl (hm (by decide) h))
   ·exact .inr (.inr h)
 | k=>
  replace hp:((dn c.k).map λw=>(w,on,tx))=some (w,on',tx'):=hp;cases hn:dn c.k with
  | none=>rw[hn] at hp;exact nomatch hp
  | some u=>
   rw[hn] at hp;cases hp;obtain⟨e1,e2,e3,e4⟩:=gT hn;refine⟨fV e3 e4,{ x with k:=((bM w).1:Nat) },if_pos (by rw[e1]),⟨a.line,a.op,a.label.imp (hm (by decide)) id,?_,a.m.imp (hm (by decide)) id,.inr (by rw[e1];exact e2),a.kind.imp (hm (by decide)) id,a.on,a.texts⟩⟩;rcases a.n with h | h | h
   ·exact .inl (hm (by decide) h)
   ·exact .inr (.inl (hm (by decide) h))
   ·exact .inr (.inr h)
def gV (f:Form) (x:bV) (i:Nat) (w:Bs) (l:List Bs):dz f x i (w :: l)=(match eE x (f.rest.getD i .t) w with | .error e=>.error e | .ok y=>dz f y (i+1) l):=rfl
def rB {c:bV} {f:Form}:∀{r:List Sg} {on tx:List Bs} {ws on' tx' ts:List Bs} {x:bV} {i:Nat},dl c r on tx=some (ws,on',tx')->Agr x c r on tx->f.rest.drop i=r ->
  (∀w∈ws,aG w=true)/\ws.length=r.length/\∃y,dz f x i (ws++ts)=dz f y (i+r.length) ts/\Agr y c [] on' tx'/\on.length=on'.length+r.count .h/\tx.length=tx'.length+r.count .t
 | [],on,tx,ws,on',tx',ts,x,i,h,a,hd=>by cases h;exact⟨λw hw=>(nomatch hw),rfl,x,rfl,a,rfl,rfl⟩
 | s :: r,on,tx,ws,on',tx',ts,x,i,h,a,hd=>by
  unfold dl at h;cases hp:eD c s on tx with
  | none=>rw[hp] at h;exact nomatch h
  | some p=>
   obtain⟨w,on1,tx1⟩:=p;rw[hp] at h;dsimp only at h;cases hq:dl c r on1 tx1 with
   | none=>rw[hq] at h;exact nomatch h
   | some q=>
    obtain⟨ws1,on2,tx2⟩:=q;rw[hq] at h;cases h;obtain⟨hw,y,hy,ay⟩:=Di hp a;have hlt:i<f.rest.length:=by
     rcases Nat.lt_or_ge i f.rest.length with q | q
     ·exact q
     ·rw[List.drop_eq_nil_of_le q] at hd;exact nomatch hd
    rw[JR hlt] at hd;have hd1:f.rest[i]=s:=(List.cons.inj hd).1;have hd2:f.rest.drop (i+1)=r:=(List.cons.inj hd).2;obtain⟨h1,h2,z,h3,h4,h5,h6⟩:=rB (ts:=ts) hq ay hd2;have hg:f.rest.getD i .t=s:=by rw[Jc,Jn hlt,hd1];rfl
    have hc:on.length=on1.length+(if s=.h then 1 else 0)/\tx.length=tx1.length+(if s=.t then 1 else 0):=by
     cases s with
     | L=>
      replace hp:(if aG c.label=true/\c.label.length<=16 then some (c.label,on,tx) else none)=some (w,on1,tx1):=hp;by_cases q:aG c.label=true/\c.label.length<=16
      ·rw[if_pos q] at hp;cases hp;exact⟨rfl,rfl⟩
      ·rw[if_neg q] at hp;exact nomatch hp
     | h=>
      cases on with
      | nil=>exact nomatch hp
      | cons v on=>
       replace hp:(if aG v=true then some (v,on,tx) else none)=some (w,on1,tx1):=hp;by_cases q:aG v=true
       ·rw[if_pos q] at hp;cases hp;exact⟨rfl,rfl⟩
       ·rw[if_neg q] at hp;exact nomatch hp
     | t=>
      cases tx with
      | nil=>exact nomatch hp
      | cons v tx=>
       replace hp:((fg v).map λw=>(w,on,tx))=some (w,on1,tx1):=hp;cases ht:fg v with
       | none=>rw[ht] at hp;exact nomatch hp
       | some u=>rw[ht] at hp;cases hp;exact⟨rfl,rfl⟩
     | c=>
      replace hp:(if c.kind<=4 then some (aZ.getD c.kind [],on,tx) else none)=some (w,on1,tx1):=hp;by_cases q:c.kind<=4
      ·rw[if_pos q] at hp;cases hp;exact⟨rfl,rfl⟩
      ·rw[if_neg q] at hp;exact nomatch hp
     | o=>
      replace hp : (if c.n = -1 then some (str "none", on, tx) else (dn c.n).map fun w=> (w, on, tx)) = some (w, on1, tx1):= hp
      by_cases q:c.n=-1
      ·rw[if_pos q] at hp;cases hp;exact⟨rfl,rfl⟩
      ·rw[if_neg q] at hp;cases ht:dn c.n with
       | none=>rw[ht] at hp;exact nomatch hp
       | some u=>rw[ht] at hp;cases hp;exact⟨rfl,rfl⟩
     | n=>
      replace hp:((dn c.n).map λw=>(w,on,tx))=some (w,on1,tx1):=hp;cases ht:dn c.n with
      | none=>rw[ht] at hp;exact nomatch hp
      | some u=>rw[ht] at hp;cases hp;exact⟨rfl,rfl⟩
     | m=>
      replace hp:((dn c.m).map λw=>(w,on,tx))=some (w,on1,tx1):=hp;cases ht:dn c.m with
      | none=>rw[ht] at hp;exact nomatch hp
      | some u=>rw[ht] at hp;cases hp;exact⟨rfl,rfl⟩
     | k=>
      replace hp:((dn c.k).map λw=>(w,on,tx))=some (w,on1,tx1):=hp;cases ht:dn c.k with
      | none=>rw[ht] at hp;exact nomatch hp
      | some u=>rw[ht] at hp;cases hp;exact⟨rfl,rfl⟩
    refine⟨λv hv=>?_,by simp[h2],z,?_,h4,?_,?_⟩
    ·rcases Jr.1 hv with rfl | hv
     ·exact hw
     ·exact h1 v hv
    ·show dz f x i (w :: (ws1++ts))=_;rw[gV,hg,hy];show dz f y (i+1) (ws1++ts)=_;rw[h3,Jz,show i+1+r.length=i+(r.length+1) by omega]
    ·rw[hc.1,h5,List.count_cons];cases s <;> simp <;> omega
    ·rw[hc.2,h6,List.count_cons];cases s <;> simp <;> omega
def mo {f:Form}:∀{tx ts:List Bs} {y:bV} {i:Nat},eC tx=some ts->f.rest.length<=i->(∀w∈ts,aG w=true)/\ts.length=tx.length/\dz f y i ts=.ok { y with texts:=y.texts++tx }
 | [],ts,y,i,h,hi=>by cases h;exact⟨λw hw=>(nomatch hw),rfl,by unfold dz;rw[KB]⟩
 | s :: r,ts,y,i,h,hi=>by
  unfold eC at h;cases ht:fg s with
  | none=>rw[ht] at h;exact nomatch h
  | some w=>
   cases hr:eC r with
   | none=>rw[ht,hr] at h;exact nomatch h
   | some ws=>
    rw[ht,hr] at h;cases h;obtain⟨e1,e2⟩:=sQ ht;obtain⟨h1,h2,h3⟩:=mo (f:=f) (y:={ y with texts:=y.texts ++ [s] }) (i:=i+1) hr (by omega);refine⟨λv hv=>?_,by simp[h2],?_⟩
    ·rcases Jr.1 hv with rfl | hv
     ·exact e2
     ·exact h1 v hv
    ·rw[gV,show f.rest.getD i .t=.t by rw[Jc,Kw hi];rfl];have ey:eE y .t w=.ok { y with texts:=y.texts ++ [s] }:=by
      show Except.ok { y with texts:= y.texts ++ [if w = str "." then [] else w] } = _
      rw[e1]
     rw[ey];show dz f _ (i+1) ws=_;rw[h3];simp
def yw (c:bV) (n:Nat) (s:Sg) (on tx:List Bs):eD { c with line:=n } s on tx=eD c s on tx:=by
 cases s with
 | h=>cases on <;> rfl
 | t=>cases tx <;> rfl
 | _=>rfl
def o7 (c:bV) (n:Nat):∀(r:List Sg) (on tx:List Bs),dl { c with line:=n } r on tx=dl c r on tx
 | [],_,_=>rfl
 | s :: r,on,tx=>by
  unfold dl;rw[yw];cases eD c s on tx with
  | none=>rfl
  | some p=> obtain⟨w,on1,tx1⟩:=p;dsimp only;rw[o7 c n r]
def FE (f g:Form):Bool:=decide (f.word=g.word)&&decide (f.rest=g.rest)&&(f.more==g.more)
def Ip {f g:Form} (h:FE f g=true):f=g:=by unfold FE at h;rw[Ja,Ja] at h;obtain⟨⟨h1,h2⟩,h3⟩:=h;have h1:=of_decide_eq_true h1;have h2:=of_decide_eq_true h2;have h3:=eq_of_beq h3;cases f;cases g;cases h1;cases h2;cases h3;rfl
def Hr (i:Nat):Bool:=match j6 (co.getD i fz).word co 0 with | some (j,g)=>beq j i&&FE g (co.getD i fz) | none=>false
def Gd:(List.range 41).all Hr=true:=by decide
def De {i:Nat} (h:i<=40):j6 (co.getD i fz).word co 0=some (i,co.getD i fz):=by
 have:=Jv.1 Gd i (by simp;omega);unfold Hr at this;cases hf:j6 (co.getD i fz).word co 0 with
 | none=>rw[hf] at this;exact nomatch this
 | some p=> obtain⟨j,g⟩:=p;rw[hf] at this;dsimp only at this;rw[Ja] at this;rw[I8 this.1,Ip this.2]
def xS:(List.range 41).all (λi=>aG (co.getD i fz).word && !((co.getD i fz).word[0]?==some 35))=true:=by decide
def jT {c:bV} {ws:List Bs} (h:ig c=some ws) (line:Nat):(∀w∈ws,aG w=true)/\(∃w l,ws=w :: l/\w[0]?≠some 35)/\eY line ws=.ok { c with line:=line }:=by
 unfold ig at h;by_cases q:c.op<=40
 ·rw[if_pos q] at h
  replace h:(if fG c (co.getD c.op fz) then none else match dl c (co.getD c.op fz).rest c.on c.texts with
   | none=>none
   | some (ws,_,tx)=>match eC tx with
    | none=>none
    | some ts=>some ((co.getD c.op fz).word :: (ws++ts)))=some ws:=h
  have hfind:=De q;have hww:=Jv.1 xS c.op (by simp;omega);generalize hf:co.getD c.op fz=f at h hfind hww;rw[Ja] at hww;by_cases hs:fG c f=true
  ·rw[if_pos hs] at h;exact nomatch h
  ·rw[if_neg hs] at h;have hs:fG c f=false:=by simpa using hs
   unfold fG at hs;simp only[Bool.or_eq_false_iff,Bool.and_eq_false_iff,Bool.not_eq_false',decide_eq_false_iff_not,Decidable.not_not] at hs;obtain⟨⟨⟨⟨⟨⟨⟨s1,s2⟩,s3⟩,s4⟩,s5⟩,s6⟩,s7⟩,s8⟩:=hs;have s1:=I8 s1;have s2:=I7 s2;cases hp:dl c f.rest c.on c.texts with
   | none=>rw[hp] at h;exact nomatch h
   | some p=>
    obtain⟨ws1,on',tx'⟩:=p;rw[hp] at h;dsimp only at h;cases ht:eC tx' with
    | none=>rw[ht] at h;exact nomatch h
    | some ts=>
     rw[ht] at h;cases h;rw[<-o7 c line] at hp;have mem:∀{t:Sg},f.rest.contains t=true->t∈f.rest:=λh=>by simpa using h
     have a:Agr ⟨line,c.op,[],[],0,0,0,0,[]⟩ { c with line:=line } f.rest c.on c.texts:=by
      refine⟨rfl,rfl,?_,?_,?_,?_,?_,rfl,rfl⟩
      ·rcases s8 with e | e
       ·right;show []=c.label;cases hl:c.label with
        | nil=>rfl
        | cons x y=>rw[hl] at e;exact nomatch e
       ·exact .inl (mem e)
      ·rcases s4 with e | e
       ·exact .inr (.inr e.symm)
       ·rw[J4] at e;rcases e with e | e
        ·exact .inl (mem e)
        ·exact .inr (.inl (mem e))
      ·rcases s5 with e | e
       ·exact .inr e.symm
       ·exact .inl (mem e)
      ·rcases s6 with e | e
       ·exact .inr e.symm
       ·exact .inl (mem e)
      ·rcases s7 with e | e
       ·exact .inr e.symm
       ·exact .inl (mem e)
     obtain⟨h1,h2,y,h3,h4,h5,h6⟩:=rB (f:=f) (ts:=ts) (i:=0) hp a rfl;rw[JN] at h3;obtain⟨t1,t2,t3⟩:=mo (f:=f) (y:=y) (i:=f.rest.length) ht (Jd _);have hon:on'=[]:=List.length_eq_zero_iff.1 (by omega);have hy:({ y with texts:=y.texts++tx' }:bV)={ c with line:=line }:=by
      obtain⟨b1,b2,b3,b4,b5,b6,b7,b8,b9⟩:=h4;have b3:y.label=c.label:=b3.resolve_left (by simp);have b4:y.n=c.n:=(b4.resolve_left (by simp)).resolve_left (by simp);have b5:y.m=c.m:=b5.resolve_left (by simp);have b6:y.k=c.k:=b6.resolve_left (by simp);have b7:y.kind=c.kind:=b7.resolve_left (by simp);have b8:y.on=c.on:=by rw[<-show y.on++on'=c.on from b8,hon,KB]
      have b9:y.texts++tx'=c.texts:=b9;have b1:y.line=line:=b1;have b2:y.op=c.op:=b2;rw[b1,b2,b3,b4,b5,b6,b7,b8,b9]
     have hfit:jp f (ws1++ts).length=true:=by
      unfold jp;rw[Jt,h2,t2];cases hm:f.more with
      | true=>rw[if_pos rfl];exact Js (by omega)
      | false=> rw[if_neg (by decide)];rw[hm] at s3;have s3:=I7 (s3.resolve_left (by decide));rw[show f.rest.length+tx'.length=f.rest.length by omega];exact JQ _
     refine⟨λw hw=>?_,⟨_,_,rfl,λe=>?_⟩,?_⟩
     ·rcases Jr.1 hw with rfl | hw
      ·exact hww.1
      ·rcases Kv.1 hw with hw | hw
       ·exact h1 w hw
       ·exact t1 w hw
     ·have:=hww.2;rw[e] at this;exact absurd this (by decide)
     ·show (match j6 f.word co 0 with
       | none=>Except.error 14
       | some (i,f)=>if jp f (ws1++ts).length then dz f ⟨line,i,[],[],0,0,0,0,[]⟩ 0 (ws1++ts) else .error 14)=_
      rw[hfind];dsimp only;rw[if_pos hfit,h3,t3,hy]
 ·rw[if_neg q] at h;exact nomatch h
def iD {w:Bs} (h:aG w=true):w ≠ []/\∀b∈w,b≠32/\b≠10:=by unfold aG at h;rw[Ja] at h;refine⟨by rintro rfl;exact absurd h.1 (by decide),λb hb=>?_⟩;have:=Jv.1 h.2 b hb;rw[Ja,Bool.not_eq_true',Bool.not_eq_true',JM,JM] at this;exact this
def rk:∀ws:List Bs,(∀w∈ws,aG w=true)->bO (bQ ws)=ws
 | [],_=>rfl
 | [w],h=>by
  obtain⟨h1,h2⟩:=iD (h w (Jq ..));show cD [] w=[w];cases w with
  | nil=>exact absurd rfl h1
  | cons b w=> unfold cD;rw[if_neg (h2 b (Jq ..)).1];rw[oV w _ (by simp) λx hx=>(h2 x (JG _ hx)).1];rfl
 | w :: v :: l,h=>by obtain⟨h1,h2⟩:=iD (h w (Jq ..));have ih:=rk (v :: l) λx hx=>h x (JG _ hx);show cD [] (w++32 :: bQ (v :: l))=_;rw[kK w [] _ λb hb=>(h2 b hb).1,KE,cD,if_pos rfl,if_neg h1];show w :: bO (bQ (v :: l))=_;rw[ih]
def jm:∀ws:List Bs,(∀w∈ws,aG w=true)->∀b∈bQ ws,b≠10
 | [],_,b,hb=>nomatch hb
 | [w],h,b,hb=>((iD (h w (Jq ..))).2 b hb).2
 | w :: v :: l,h,b,hb=>by
  have hb:b∈w++32 :: bQ (v :: l):=hb;rcases Kv.1 hb with hb | hb
  ·exact ((iD (h w (Jq ..))).2 b hb).2
  ·rcases Jr.1 hb with rfl | hb
   ·decide
   ·exact jm (v :: l) (λx hx=>h x (JG _ hx)) b hb
def qp {w:Bs} {l:List Bs} (h:∀x∈w :: l,aG x=true) (h35:w[0]?≠some 35):cd (bQ (w :: l))=w :: l:=by unfold cd;rw[rk _ h];exact if_neg h35
def oJ:Nat->List bV->List bV
 | _,[]=>[]
 | i,c :: l=>{ c with line:=i } :: oJ (i+1) l
def su (ck:Nat × Nat):∀(l:List bV) (r:Bs) (i:Nat) (out:List bV),fQ l=some r->out.length+l.length<=1000->Aj (aU r) i (some ck) out=(ck.1,ck.2,out++oJ (i+1) l,0,0)
 | [],r,i,out,h,hl=>by cases h;rw[show aU []=[[]] from rfl,jC,if_pos (show cd []=[] from rfl)];show (ck.1,ck.2,out,0,0)=_;rw[show oJ (i+1) []=[] from rfl,KB]
 | c :: l,r,i,out,h,hl=>by
  unfold fQ at h;cases hc:im c with
  | none=>rw[hc] at h;exact nomatch h
  | some s=>
   cases hr:fQ l with
   | none=>rw[hc,hr] at h;exact nomatch h
   | some r1=>
    rw[hc,hr] at h;cases h;unfold im at hc;cases hw:ig c with
    | none=>rw[hw] at hc;exact nomatch hc
    | some ws=> rw[hw] at hc;have hc:bQ ws ++ [10]=s:=JJ hc;subst hc;obtain⟨h1,⟨w,ls,rfl,h35⟩,h2⟩:=jT hw (i+1);rw[KM,show [10]++r1=10 :: r1 from rfl,jd _ _ (jm _ h1),jC,qp h1 h35,if_neg (by simp)];rw[Jz] at hl;dsimp only;rw[if_neg (by omega),h2];dsimp only;rw[su ck l r1 (i+1) _ hr (by simp;omega),KM];rfl
def jN {cap keeps:Int} {l:List bV} {s:Bs} (h:gE cap keeps l=.ok s):gJ s=(cap.toNat,keeps.toNat,oJ 2 l,0,0)/\(cap.toNat:Int)=cap/\(keeps.toNat:Int)=keeps/\s.length<=65536/\l.length<=1000:=by
 unfold gE at h;by_cases q:1000<l.length
 ·rw[if_pos q] at h;exact nomatch h
 ·rw[if_neg q] at h;cases ha:dn cap with
  | none=>rw[ha] at h;exact nomatch h
  | some a=>
   cases hb:dn keeps with
   | none=>rw[ha,hb] at h;exact nomatch h
   | some b=>
    cases hr:fQ l with
    | none=>rw[ha,hb,hr] at h;exact nomatch h
    | some r=>
     rw[ha,hb,hr] at h;dsimp only at h;by_cases q2 : 65536<(bQ [str "arena", a, b] ++ [10]++r).length
     ·rw[if_pos q2] at h;exact nomatch h
     ·rw[if_neg q2] at h;cases h;obtain⟨a1,a2,a3,a4⟩:=gT ha;obtain⟨b1,b2,b3,b4⟩:=gT hb;have hw : ∀x∈[str "arena", a, b], aG x = true:= fun x hx=> by
       simp at hx;rcases hx with rfl | rfl | rfl
       ·decide
       ·exact fV a3 a4
       ·exact fV b3 b4
      refine⟨?_,a2,b2,by omega,by omega⟩;unfold gJ;rw[if_neg q2,KM,show [10]++r=10 :: r from rfl,jd _ _ (jm _ hw),jC,qp hw (by decide),if_neg (by simp)];dsimp only;have hf : cQ [str "arena", a, b] = (cap.toNat, keeps.toNat, 0):= by
       show (if str "arena" = str "arena" then (if (bM a).2 = 0 then ((bM a).1, (bM b).1, (bM b).2) else (0, 0, (bM a).2)) else (0, 0, 14)) = _
       rw[if_pos rfl,a1,b1];rfl
      rw[hf,if_pos rfl,su (cap.toNat,keeps.toNat) l r 1 [] hr (by simp;omega)];rfl
def wK:∀(w:Bs) (n:Nat),n<=fp n w
 | [],n=>Jd _
 | b :: w,n=>by unfold fp;have:=wK w (10*n+(b.toNat-48));omega
def l8 {b:UInt8} (h:dR b=true):48<=b.toNat/\b.toNat<=57:=by unfold dR at h;rw[Ja] at h;exact⟨I7 h.1,I7 h.2⟩
def HL {b:UInt8} (h:dR b=true):UInt8.ofNat (48+(b.toNat-48))=b:=by have:=l8 h;rw[show 48+(b.toNat-48)=b.toNat by omega];exact UInt8.ofNat_toNat
def sZ:∀(n:Nat) (w:Bs),w.length=n->w ≠ []->¬ (1<w.length/\w[0]?=some 48)->w.all dR=true->Lib.decDigits (fp 0 w)=w
 | 0,w,hl,hne,_,_=>absurd (List.length_eq_zero_iff.1 hl) hne
 | n+1,w,hl,hne,hz,hd=>by
  obtain⟨v,b,rfl⟩:∃v b,w=v ++ [b]:=⟨w.dropLast,w.getLast hne,(List.dropLast_concat_getLast hne).symm⟩;rw[List.all_append,Ja] at hd;have hb:dR b=true:=by have:=hd.2;rw[JZ,Ja] at this;exact this.1
  have hbb:=l8 hb;rw[nY];by_cases q:v=[]
  ·subst q;show Lib.decDigits (10*0+(b.toNat-48))=[b];rw[show 10*0+(b.toNat-48)=b.toNat-48 by omega,Lib.decDigits_one (by omega),HL hb]
  ·have hvl:v.length=n:=by simp at hl;exact hl
   have hpos:0<v.length:=J8.2 q;have hv0:v[0]?≠some 48:=λe=>hz ⟨by simp;omega,by rw[Kj hpos];exact e⟩;have ih:=sZ n v hvl q (λh=>hv0 h.2) hd.1;have hge:1<=fp 0 v:=by
    cases v with
    | nil=>exact absurd rfl q
    | cons a v=>
     have ha:dR a=true:=by have:=hd.1;rw[JZ,Ja] at this;exact this.1
     have hab:=l8 ha
     have hne48:a.toNat≠48:=λe=>hv0 (by
      show some a=some 48
      rw[show a=48 from UInt8.toNat_inj.1 e])
     unfold fp;have:=wK v (10*0+(a.toNat-48));omega
   rw[Lib.decDigits,dif_neg (by omega),show (10*fp 0 v+(b.toNat-48)) / 10=fp 0 v by omega,show (10*fp 0 v+(b.toNat-48))%10=b.toNat-48 by omega,ih,HL hb]
def iz {w:Bs} (h:(bM w).2=0):dn ((bM w).1:Nat)=some w:=by
 unfold bM at h ⊢;by_cases q:w=[] \/ (1<w.length/\w[0]?=some 48) \/ w.all dR=false
 ·rw[if_pos q] at h;exact absurd h (by decide)
 ·rw[if_neg q] at h ⊢;by_cases q2:4294967296<fp 0 w
  ·rw[if_pos q2] at h;exact absurd h (by decide)
  ·rw[if_neg q2];have q1:w ≠ []:=λe=>q (.inl e);have q3:¬ (1<w.length/\w[0]?=some 48):=λe=>q (.inr (.inl e));have q4:w.all dR=true:=by
    cases hh:w.all dR with
    | true=>rfl
    | false=>exact absurd (.inr (.inr hh)) q
   unfold dn;rw[if_pos ⟨by omega,by omega⟩];exact congrArg some (sZ _ w rfl q1 q3 q4)
def pK {w : Bs} (h : aG w = true): fg (if w = str "." then [] else w) = some w:= by
 by_cases q : w = str "."
 ·rw[if_pos q,q];rfl
 ·rw[if_neg q];unfold fg;rw[if_neg (iD h).1,if_neg q,if_pos h]
def zx {w:Bs} (h:gD w aZ<5):aZ.getD (gD w aZ) []=w:=by
 have:∀(l:List Bs),gD w l<l.length->l.getD (gD w l) []=w:=by
  intro l
  induction l with
  | nil=>intro h;exact absurd h (Jy _)
  | cons a l ih=>
   intro h;unfold gD at h ⊢;by_cases q:a=w
   ·rw[if_pos q];exact q
   ·rw[if_neg q] at h ⊢;exact ih (by simpa using h)
 exact this aZ h
def oN {f:Form} {c:bV}:∀{ws:List Bs} {x:bV} {i:Nat},f.rest.length<=i->(∀w∈ws,aG w=true)->dz f x i ws=.ok c->∃tx,c={ x with texts:=x.texts++tx }/\eC tx=some ws
 | [],x,i,hi,hw,h=>by unfold dz at h;cases h;exact⟨[],by rw[KB],rfl⟩
 | w :: ws,x,i,hi,hw,h=>by
  have hww:=hw w (Jq ..);rw[gV,show f.rest.getD i .t=.t by rw[Jc,Kw hi];rfl] at h;have h : dz f { x with texts:= x.texts ++ [if w = str "." then [] else w] } (i+1) ws = .ok c:= h
  obtain⟨tx,e1,e2⟩:=oN (by omega) (λv hv=>hw v (JG _ hv)) h;refine⟨(if w = str "." then [] else w) :: tx, by rw[e1];simp, ?_⟩
  unfold eC;rw[pK hww,e2]
def yl (r:List Sg):Bool:=ble (r.count .L) 1&&ble (r.count .n+r.count .o) 1&&ble (r.count .m) 1&&ble (r.count .k) 1&&ble (r.count .c) 1
def G4:(List.range 41).all (λi=>yl (co.getD i fz).rest)=true:=by decide
def Ds {s:Sg} {r:List Sg} (h:yl (s :: r)=true):yl r=true/\(s=.L->Sg.L∉r)/\(s=.n \/ s=.o->Sg.n∉r/\Sg.o∉r)/\(s=.m->Sg.m∉r)/\(s=.k->Sg.k∉r)/\(s=.c->Sg.c∉r):=by
 unfold yl at h ⊢;simp only[Ja] at h ⊢;obtain⟨⟨⟨⟨h1,h2⟩,h3⟩,h4⟩,h5⟩:=h;have h1:=I7 h1;have h2:=I7 h2;have h3:=I7 h3;have h4:=I7 h4;have h5:=I7 h5;rw[List.count_cons] at h1 h3 h4 h5;rw[List.count_cons,List.count_cons] at h2;have nz:∀t:Sg,r.count t=0->t∉r:=λt ht=>List.count_eq_zero.1 ht;refine⟨⟨⟨⟨⟨Js (by omega),Js (by omega)⟩,Js (by omega)⟩,Js (by omega)⟩,Js (by omega)⟩,?_,?_,?_,?_,?_⟩
 ·rintro rfl;exact nz _ (by simp at h1;omega)
 ·rintro (rfl | rfl) <;> exact⟨nz _ (by simp at h2;omega),nz _ (by simp at h2;omega)⟩
 ·rintro rfl;exact nz _ (by simp at h3;omega)
 ·rintro rfl;exact nz _ (by simp at h4;omega)
 ·rintro rfl;exact nz _ (by simp at h5;omega)
structure Lft (x c:bV) (r:List Sg) (on tx:List Bs):Prop where
 line:c.line=x.line
 op:c.op=x.op
 label:Sg.L∉r->c.label=x.label
 n:Sg.n∉r->Sg.o∉r->c.n=x.n
 m:Sg.m∉r->c.m=x.m
 k:Sg.k∉r->c.k=x.k
 kind:Sg.c∉r->c.kind=x.kind
 on:c.on=x.on++on
 texts:c.texts=x.texts++tx
def oT {f:Form} {c:bV}:∀{r:List Sg} {ws:List Bs} {x:bV} {i:Nat},f.rest.drop i=r->i+r.length=f.rest.length->r.length<=ws.length->yl r=true->(∀w∈ws,aG w=true)->dz f x i ws=.ok c ->
  ∃on tx ws1 ts tx',Lft x c r on tx/\ws=ws1++ts/\ws1.length=r.length/\dl c r on tx=some (ws1,[],tx')/\eC tx'=some ts/\on.length=r.count .h/\tx.length=ts.length+r.count .t
 | [],ws,x,i,hd,hi,hl,ho,hw,h=>by obtain⟨tx,e1,e2⟩:=oN (show f.rest.length<=i by simp at hi;omega) hw h;subst e1;have hlen:∀{tx ts:List Bs},eC tx=some ts->tx.length=ts.length:=λ{tx ts} e=>((mo (f:=f) (y:=x) (i:=f.rest.length) e (Jd _)).2.1).symm;exact⟨[],tx,[],ws,tx,⟨rfl,rfl,λ_=>rfl,λ_ _=>rfl,λ_=>rfl,λ_=>rfl,λ_=>rfl,(KB _).symm,rfl⟩,rfl,rfl,rfl,e2,rfl,by rw[hlen e2];rfl⟩
 | s :: r,ws,x,i,hd,hi,hl,ho,hw,h=>by
  obtain⟨w,ws,rfl⟩:∃w l,ws=w :: l:=by
   cases ws with
   | nil=>exact absurd hl (by simp)
   | cons w l=>exact⟨w,l,rfl⟩
  have hww:=hw w (Jq ..);have hlt:i<f.rest.length:=by rw[Jz] at hi;omega
  rw[JR hlt] at hd;have hd1:f.rest[i]=s:=(List.cons.inj hd).1;have hd2:f.rest.drop (i+1)=r:=(List.cons.inj hd).2;have hg:f.rest.getD i .t=s:=by rw[Jc,Jn hlt,hd1];rfl
  obtain⟨ho',oL,on',om,ok,oc⟩:=Ds ho;rw[gV,hg] at h;cases hy:eE x s w with
  | error e=>rw[hy] at h;exact nomatch h
  | ok y=>
   rw[hy] at h;have h:dz f y (i+1) ws=.ok c:=h;obtain⟨on,tx,ws1,ts,tx',a,e1,e2,e3,e4,e5,e6⟩:=oT hd2 (by rw[Jz] at hi;omega) (by simp at hl;exact hl) ho' (λv hv=>hw v (JG _ hv)) h;have fin:∀{on2 tx2:List Bs},eD c s on2 tx2=some (w,on,tx)->Lft x c (s :: r) on2 tx2->on2.length=(s :: r).count .h->tx2.length=ts.length+(s :: r).count .t ->
     ∃on tx ws1 ts tx',Lft x c (s :: r) on tx/\w :: ws=ws1++ts/\ws1.length=(s :: r).length/\dl c (s :: r) on tx=some (ws1,[],tx')/\eC tx'=some ts/\on.length=(s :: r).count .h/\tx.length=ts.length+(s :: r).count .t:=λ{on2 tx2} hp hL h1 h2=>by
    refine⟨on2,tx2,w :: ws1,ts,tx',hL,by rw[e1];rfl,by simp[e2],?_,e4,h1,h2⟩;unfold dl;rw[hp];dsimp only;rw[e3]
   have nm:∀{t:Sg},t∉s :: r->t∉r:=λh hh=>h (JG _ hh);cases s with
   | L=>
    replace hy:(if 16<w.length then Except.error 16 else .ok { x with label:=w })=Except.ok y:=hy;by_cases q:16<w.length
    ·rw[if_pos q] at hy;exact nomatch hy
    ·rw[if_neg q] at hy;cases hy;have hlab:c.label=w:=a.label (oL rfl);refine fin (on2:=on) (tx2:=tx) ?_ ⟨a.line,a.op,λh=>absurd (Jq ..) h,λh1 h2=>a.n (nm h1) (nm h2),λh=>a.m (nm h),λh=>a.k (nm h),λh=>a.kind (nm h),a.on,a.texts⟩ (by rw[e5];simp) (by rw[e6];simp);show (if aG c.label=true/\c.label.length<=16 then some (c.label,on,tx) else none)=_;rw[hlab,if_pos ⟨hww,by omega⟩]
   | h=> replace hy:Except.ok { x with on:=x.on ++ [w] }=(Except.ok y:Except Nat bV):=hy;cases hy;refine fin (on2:=w :: on) (tx2:=tx) ?_ ⟨a.line,a.op,λh=>a.label (nm h),λh1 h2=>a.n (nm h1) (nm h2),λh=>a.m (nm h),λh=>a.k (nm h),λh=>a.kind (nm h),by rw[a.on];simp,a.texts⟩ (by simp[e5]) (by rw[e6];simp);show (if aG w=true then some (w,on,tx) else none)=_;rw[if_pos hww]
   | t=>
    replace hy : Except.ok { x with texts:= x.texts ++ [if w = str "." then [] else w] } = (Except.ok y : Except Nat bV):= hy
    cases hy;refine fin (on2:= on) (tx2:= (if w = str "." then [] else w) :: tx) ?_ ⟨a.line, a.op, fun h=> a.label (nm h), fun h1 h2=> a.n (nm h1) (nm h2), fun h=> a.m (nm h), fun h=> a.k (nm h), fun h=> a.kind (nm h), a.on, by rw[a.texts];simp⟩ (by rw[e5];simp) (by simp[e6];omega)
    show ((fg (if w = str "." then [] else w)).map fun w=> (w, on, tx)) = _
    rw[pK hww];rfl
   | c=>
    replace hy:(if gD w aZ<5 then Except.ok { x with kind:=gD w aZ } else .error 14)=Except.ok y:=hy;by_cases q:gD w aZ<5
    ·rw[if_pos q] at hy;cases hy;have hk:c.kind=gD w aZ:=a.kind (oc rfl);refine fin (on2:=on) (tx2:=tx) ?_ ⟨a.line,a.op,λh=>a.label (nm h),λh1 h2=>a.n (nm h1) (nm h2),λh=>a.m (nm h),λh=>a.k (nm h),λh=>absurd (Jq ..) h,a.on,a.texts⟩ (by rw[e5];simp) (by rw[e6];simp);show (if c.kind<=4 then some (aZ.getD c.kind [],on,tx) else none)=_;rw[hk,if_pos (by omega),zx q]
    ·rw[if_neg q] at hy;exact nomatch hy
   | o=>
    replace hy : (if w = str "none" then Except.ok { x with n:= -1 } else if (bM w).2 = 0 then .ok { x with n:= (bM w).1 } else .error (bM w).2) = Except.ok y:= hy
    obtain⟨n1,n2⟩:=on' (.inr rfl);by_cases q : w = str "none"
    ·rw[if_pos q] at hy;cases hy;have hn:c.n=-1:=a.n n1 n2;refine fin (on2:=on) (tx2:=tx) ?_ ⟨a.line,a.op,λh=>a.label (nm h),λh1 h2=>absurd (Jq ..) h2,λh=>a.m (nm h),λh=>a.k (nm h),λh=>a.kind (nm h),a.on,a.texts⟩ (by rw[e5];simp) (by rw[e6];simp);show (if c.n = -1 then some (str "none", on, tx) else (dn c.n).map fun w=> (w, on, tx)) = _
     rw[if_pos hn,q]
    ·rw[if_neg q] at hy;by_cases q2:(bM w).2=0
     ·rw[if_pos q2] at hy;cases hy;have hn:c.n=((bM w).1:Nat):=a.n n1 n2;refine fin (on2:=on) (tx2:=tx) ?_ ⟨a.line,a.op,λh=>a.label (nm h),λh1 h2=>absurd (Jq ..) h2,λh=>a.m (nm h),λh=>a.k (nm h),λh=>a.kind (nm h),a.on,a.texts⟩ (by rw[e5];simp) (by rw[e6];simp);show (if c.n = -1 then some (str "none", on, tx) else (dn c.n).map fun w=> (w, on, tx)) = _
      rw[hn,if_neg (by omega),iz q2];rfl
     ·rw[if_neg q2] at hy;exact nomatch hy
   | n=>
    replace hy:(if (bM w).2=0 then Except.ok { x with n:=(bM w).1 } else .error (bM w).2)=Except.ok y:=hy;obtain⟨n1,n2⟩:=on' (.inl rfl);by_cases q2:(bM w).2=0
    ·rw[if_pos q2] at hy;cases hy;have hn:c.n=((bM w).1:Nat):=a.n n1 n2;refine fin (on2:=on) (tx2:=tx) ?_ ⟨a.line,a.op,λh=>a.label (nm h),λh1 h2=>absurd (Jq ..) h1,λh=>a.m (nm h),λh=>a.k (nm h),λh=>a.kind (nm h),a.on,a.texts⟩ (by rw[e5];simp) (by rw[e6];simp);show ((dn c.n).map λw=>(w,on,tx))=_;rw[hn,iz q2];rfl
    ·rw[if_neg q2] at hy;exact nomatch hy
   | m=>
    replace hy:(if (bM w).2=0 then Except.ok { x with m:=(bM w).1 } else .error (bM w).2)=Except.ok y:=hy;by_cases q2:(bM w).2=0
    ·rw[if_pos q2] at hy;cases hy;have hn:c.m=((bM w).1:Nat):=a.m (om rfl);refine fin (on2:=on) (tx2:=tx) ?_ ⟨a.line,a.op,λh=>a.label (nm h),λh1 h2=>a.n (nm h1) (nm h2),λh=>absurd (Jq ..) h,λh=>a.k (nm h),λh=>a.kind (nm h),a.on,a.texts⟩ (by rw[e5];simp) (by rw[e6];simp);show ((dn c.m).map λw=>(w,on,tx))=_;rw[hn,iz q2];rfl
    ·rw[if_neg q2] at hy;exact nomatch hy
   | k=>
    replace hy:(if (bM w).2=0 then Except.ok { x with k:=(bM w).1 } else .error (bM w).2)=Except.ok y:=hy;by_cases q2:(bM w).2=0
    ·rw[if_pos q2] at hy;cases hy;have hn:c.k=((bM w).1:Nat):=a.k (ok rfl);refine fin (on2:=on) (tx2:=tx) ?_ ⟨a.line,a.op,λh=>a.label (nm h),λh1 h2=>a.n (nm h1) (nm h2),λh=>a.m (nm h),λh=>absurd (Jq ..) h,λh=>a.kind (nm h),a.on,a.texts⟩ (by rw[e5];simp) (by rw[e6];simp);show ((dn c.k).map λw=>(w,on,tx))=_;rw[hn,iz q2];rfl
    ·rw[if_neg q2] at hy;exact nomatch hy
def xc (w:Bs):∀(fs:List Form) (i0 i:Nat) (f:Form),j6 w fs i0=some (i,f)->∃j,i=i0+j/\fs[j]?=some f/\f.word=w
 | [],i0,i,f,h=>nomatch h
 | g :: fs,i0,i,f,h=>by
  unfold j6 at h;by_cases q:g.word=w
  ·rw[if_pos q] at h;cases h;exact⟨0,rfl,rfl,q⟩
  ·rw[if_neg q] at h;obtain⟨j,e1,e2,e3⟩:=xc w fs (i0+1) i f h;exact⟨j+1,by omega,e2,e3⟩
def rT {line:Nat} {ws:List Bs} {c:bV} (hw:∀w∈ws,aG w=true) (h:eY line ws=.ok c):ig c=some ws:=by
 cases ws with
 | nil=>exact nomatch h
 | cons w0 l=>
  unfold eY at h;dsimp only at h;cases hf:j6 w0 co 0 with
  | none=>rw[hf] at h;exact nomatch h
  | some p=>
   obtain⟨i,f⟩:=p;rw[hf] at h;dsimp only at h;by_cases q:jp f l.length=true
   ·rw[if_pos q] at h;obtain⟨j,e1,e2,e3⟩:=xc w0 co 0 i f hf;rw[JN] at e1;subst e1;have hi:i<41:=(List.getElem?_eq_some_iff.1 e2).1;have hfd:co.getD i fz=f:=by rw[Jc,e2];rfl
    have honce:=Jv.1 G4 i (by simpa using hi);rw[hfd] at honce;have hlen:f.rest.length<=l.length:=by
     unfold jp at q;split at q
     ·exact I7 q
     ·exact Nat.le_of_eq (I8 q).symm
    obtain⟨on,tx,ws1,ts,tx',a,b1,b2,b3,b4,b5,b6⟩:=oT (f:=f) (r:=f.rest) (i:=0) rfl (JN _) hlen honce (λv hv=>hw v (JG _ hv)) h;have hop:c.op=i:=a.op;have hon:c.on=on:=a.on;have htx:c.texts=tx:=a.texts;have hmore:f.more=false->ts.length=0:=λhm=>by unfold jp at q;rw[if_neg (by rw[hm];decide)] at q;have q:=I8 q;have:=congrArg List.length b1;rw[Jt,b2] at this;omega
    have hs:fG c f=false:=by
     have cn:∀t:Sg,f.rest.contains t=true \/ t∉f.rest:=λt=>by
      by_cases q:t∈f.rest
      ·exact .inl (by simpa using q)
      ·exact .inr q
     unfold fG;simp only[Bool.or_eq_false_iff,Bool.and_eq_false_iff,Bool.not_eq_false',decide_eq_false_iff_not,Decidable.not_not];refine⟨⟨⟨⟨⟨⟨⟨?_,?_⟩,?_⟩,?_⟩,?_⟩,?_⟩,?_⟩,?_⟩
     ·rw[hon,b5];exact JQ _
     ·rw[htx];exact Js (by omega)
     ·cases hm:f.more with
      | true=>exact .inl rfl
      | false=>exact .inr (by rw[htx];exact Js (by have:=hmore hm;omega))
     ·rcases cn .n with e | e
      ·exact .inr (by rw[e];rfl)
      ·rcases cn .o with e' | e'
       ·exact .inr (by rw[e',Bool.or_true])
       ·exact .inl (a.n e e')
     ·exact (cn .m).symm.imp (λe=>a.m e) id
     ·exact (cn .k).symm.imp (λe=>a.k e) id
     ·exact (cn .c).symm.imp (λe=>a.kind e) id
     ·rcases cn .L with e | e
      ·exact .inr e
      ·exact .inl (by rw[a.label e];rfl)
    unfold ig;rw[if_pos (by omega)]
    show (if fG c (co.getD c.op fz) then none else match dl c (co.getD c.op fz).rest c.on c.texts with
     | none=>none
     | some (ws,_,tx)=>match eC tx with
      | none=>none
      | some ts=>some ((co.getD c.op fz).word :: (ws++ts)))=_
    rw[hop,hfd,hs,if_neg (by decide),hon,htx,b3];dsimp only;rw[b4];dsimp only;rw[e3,<-b1]
   ·rw[if_neg q] at h;exact nomatch h
def Dq {x:bV} {s:Sg} {w:Bs} {e:Nat} (h:eE x s w=.error e):e≠0:=by unfold eE at h;split at h <;> (try split at h) <;> (try split at h) <;> first | (cases h;done) | (cases h;first | omega | assumption | simp)
def pL {f:Form} {e:Nat}:∀{l:List Bs} {x:bV} {i:Nat},dz f x i l=.error e->e≠0
 | [],x,i,h=>nomatch h
 | w :: l,x,i,h=>by
  rw[gV] at h;cases ht:eE x (f.rest.getD i .t) w with
  | error e'=>rw[ht] at h;cases h;exact Dq ht
  | ok y=>rw[ht] at h;exact pL h
def uw {line e:Nat} {ws:List Bs} (h:eY line ws=.error e):e≠0:=by
 unfold eY at h;split at h
 ·cases h;decide
 ·split at h
  ·cases h;decide
  ·split at h
   ·exact pL h
   ·cases h;decide
def tD (w:Bs) (l:List Bs):(bQ (w :: l)).length<=w.length+1+(bQ l).length:=by
 cases l with
 | nil=>show w.length<=_;omega
 | cons v l=>show (w++32 :: bQ (v :: l)).length<=_;simp;omega
def ke:∀(s acc:Bs),(bQ (cD acc s)).length<=acc.length+s.length
 | [],acc=>by
  unfold cD;split
  ·exact JY _
  ·show acc.length<=_;simp
 | b :: s,acc=>by
  unfold cD;by_cases q:b=32
  ·rw[if_pos q];have ih:=ke s [];by_cases q2:acc=[]
   ·rw[if_pos q2];simp at ih ⊢;omega
   ·rw[if_neg q2];have:=tD acc (cD [] s);simp at ih ⊢;omega
  ·rw[if_neg q];have ih:=ke s (acc ++ [b]);simp at ih ⊢;omega
def ge:∀(s acc:Bs),(∀b∈s,b≠10)->(∀b∈acc,b≠32/\b≠10)->∀w∈cD acc s,aG w=true
 | [],acc,hs,ha,w,hw=>by
  unfold cD at hw;by_cases q:acc=[]
  ·rw[if_pos q] at hw;exact nomatch hw
  ·rw[if_neg q] at hw;rw[List.mem_singleton.1 hw];unfold aG;rw[Ja];refine⟨by simp[q],Jv.2 λb hb=>?_⟩;obtain⟨h1,h2⟩:=ha b hb;rw[Ja,Bool.not_eq_true',Bool.not_eq_true',JM,JM];exact⟨h1,h2⟩
 | b :: s,acc,hs,ha,w,hw=>by
  have hs':∀b∈s,b≠10:=λx hx=>hs x (JG _ hx);unfold cD at hw;by_cases q:b=32
  ·rw[if_pos q] at hw;by_cases q2:acc=[]
   ·rw[if_pos q2] at hw;exact ge s [] hs' (λ_ h=>nomatch h) w hw
   ·rw[if_neg q2] at hw;rcases Jr.1 hw with rfl | hw
    ·have:=ge [] w (λ_ h=>nomatch h) ha w (by unfold cD;rw[if_neg q2];exact Jq ..);exact this
    ·exact ge s [] hs' (λ_ h=>nomatch h) w hw
  ·rw[if_neg q] at hw;refine ge s (acc ++ [b]) hs' (λx hx=>?_) w hw;rcases Kv.1 hx with hx | hx
   ·exact ha x hx
   ·rw[List.mem_singleton.1 hx];exact⟨q,hs b (Jq ..)⟩
def lQ:∀(s:Bs),∀x∈aU s,∀b∈x,b≠10
 | [],x,hx,b,hb=>by rw[show aU []=[[]] from rfl] at hx;rw[List.mem_singleton.1 hx] at hb;exact nomatch hb
 | a :: s,x,hx,b,hb=>by
  have ih:=lQ s;have hne:=lA s;unfold aU at hx;by_cases q:a=10
  ·rw[if_pos q] at hx;rcases Jr.1 hx with rfl | hx
   ·exact nomatch hb
   ·exact ih x hx b hb
  ·rw[if_neg q] at hx;cases hl:aU s with
   | nil=>exact absurd hl hne
   | cons l r=>
    rw[hl] at hx ih;rcases Jr.1 (show x∈(a :: l) :: r from hx) with rfl | hx
    ·rcases Jr.1 hb with rfl | hb
     ·exact q
     ·exact ih l (Jq ..) b hb
    ·exact ih x (JG _ hx) b hb
def rr (L:List Bs):Nat:=(L.map λs=>s.length+1).sum
def kw:∀s:Bs,rr (aU s)=s.length+1
 | []=>rfl
 | b :: s=>by
  have ih:=kw s;have hne:=lA s;unfold aU;by_cases hb:b=10
  ·rw[if_pos hb];unfold rr at ih ⊢;simp only[J5,List.sum_cons,Kl,Jz] at ih ⊢;omega
  ·rw[if_neg hb];cases h:aU s with
   | nil=>exact absurd h hne
   | cons l r=> rw[h] at ih;unfold rr Co at *;simp only[J5,List.sum_cons,Jz] at ih ⊢;omega
def H0 (s:Bs):cd s=[] \/ cd s=bO s:=by
 unfold cd;cases h:bO s with
 | nil=>exact .inl rfl
 | cons w l=>
  by_cases q:w[0]?=some 35
  ·exact .inl (if_pos q)
  ·exact .inr (if_neg q)
def qV {s:Bs} (h10:∀b∈s,b≠10) (hne:cd s ≠ []):(∀w∈cd s,aG w=true)/\(bQ (cd s)).length<=s.length:=by
 rcases H0 s with h | h
 ·exact absurd h hne
 ·rw[h];refine⟨ge s [] h10 (λ_ h=>nomatch h),?_⟩;have:=ke s [];rw[Kl,JN] at this;exact this
def pI (s:Bs) (L:List Bs):rr (s :: L)=s.length+1+rr L:=rfl
def qx:∀(L:List Bs) (i:Nat) (ck:Nat × Nat) (out:List bV) (n k ln:Nat) (m:List bV),(∀x∈L,∀b∈x,b≠10)->out.length<=1000->Aj L i (some ck) out=(n,k,m,ln,0) ->
  n=ck.1/\k=ck.2/\m.length<=1000/\∃cs r,m=out++cs/\fQ cs=some r/\r.length<=rr L
 | [],i,ck,out,n,k,ln,m,h10,ho,h=>by rw[Nc] at h;cases h;exact⟨rfl,rfl,ho,[],[],(KB _).symm,rfl,JY _⟩
 | s :: L,i,ck,out,n,k,ln,m,h10,ho,h=>by
  have hL:∀x∈L,∀b∈x,b≠10:=λx hx=>h10 x (JG _ hx);rw[jC] at h;rw[pI];by_cases q:cd s=[]
  ·rw[if_pos q] at h;obtain⟨e1,e2,e3,cs,r,e4,e5,e6⟩:=qx L (i+1) ck out n k ln m hL ho h;exact⟨e1,e2,e3,cs,r,e4,e5,by omega⟩
  ·rw[if_neg q] at h;dsimp only at h;by_cases q1:1000<=out.length
   ·rw[if_pos q1] at h;cases h
   ·rw[if_neg q1] at h;obtain⟨hw,hj⟩:=qV (h10 s (Jq ..)) q;cases hc:eY (i+1) (cd s) with
    | error e=> rw[hc] at h;cases h;exact absurd rfl (uw hc)
    | ok c=> rw[hc] at h;dsimp only at h;obtain⟨e1,e2,e3,cs,r,e4,e5,e6⟩:=qx L (i+1) ck (out ++ [c]) n k ln m hL (by simp;omega) h;refine⟨e1,e2,e3,c :: cs,bQ (cd s) ++ [10]++r,by rw[e4];simp,?_,by simp;omega⟩;unfold fQ im;rw[rT hw hc,e5];rfl
def H8 {l : List Bs} (h : (cQ l).2.2 = 0):∃b c, l = [str "arena", b, c] /\ (bM b).2 = 0 /\ (bM c).2 = 0 /\ (cQ l).1 = (bM b).1 /\ (cQ l).2.1 = (bM c).1:= by
 unfold cQ at h ⊢;split at h
 ·rename_i a b c;by_cases q : a = str "arena"
  ·rw[if_pos q] at h ⊢;by_cases q2:(bM b).2=0
   ·rw[if_pos q2] at h ⊢;subst q;exact⟨b,c,rfl,q2,h,rfl,rfl⟩
   ·rw[if_neg q2] at h;exact absurd h q2
  ·rw[if_neg q] at h;exact absurd h (by decide)
 ·exact absurd h (by decide)
def rJ:∀(L:List Bs) (i:Nat) (n k ln:Nat) (m:List bV),(∀x∈L,∀b∈x,b≠10)->Aj L i none []=(n,k,m,ln,0) ->
  m.length <= 1000 /\ ∃a b r, dn (n : Int) = some a /\ dn (k : Int) = some b /\ fQ m = some r /\ (bQ [str "arena", a, b] ++ [10]++r).length <= rr L
 | [],i,n,k,ln,m,h10,h=>by unfold Aj at h;cases h
 | s :: L,i,n,k,ln,m,h10,h=>by
  have hL:∀x∈L,∀b∈x,b≠10:=λx hx=>h10 x (JG _ hx);rw[jC] at h;rw[pI];by_cases q:cd s=[]
  ·rw[if_pos q] at h;obtain⟨e3,a,b,r,e4,e5,e6,e7⟩:=rJ L (i+1) n k ln m hL h;exact⟨e3,a,b,r,e4,e5,e6,by omega⟩
  ·rw[if_neg q] at h;dsimp only at h;obtain⟨hw,hj⟩:=qV (h10 s (Jq ..)) q;by_cases q1:(cQ (cd s)).2.2=0
   ·rw[if_pos q1] at h;obtain⟨b,c,f1,f2,f3,f4,f5⟩:=H8 q1;obtain⟨e1,e2,e3,cs,r,e4,e5,e6⟩:=qx L (i+1) _ [] n k ln m hL (JY _) h;rw[KE] at e4;subst e4;refine⟨e3,b,c,r,?_,?_,e5,?_⟩
    ·rw[e1,show ((cQ (cd s)).1,(cQ (cd s)).2.1).1=(bM b).1 from f4];exact iz f2
    ·rw[e2,show ((cQ (cd s)).1,(cQ (cd s)).2.1).2=(bM c).1 from f5];exact iz f3
    ·rw[f1] at hj;rw[Jt,Jt,J7];omega
   ·rw[if_neg q1] at h;exact absurd (congrArg (λp:PR=>p.2.2.2.2) h) q1
def ve {s:Bs} {n k ln:Nat} {m:List bV} (hs:s.length<=65535) (h:gJ s=(n,k,m,ln,0)):∃s',gE n k m=.ok s'/\gJ s'=(n,k,oJ 2 m,0,0):=by
 have h0:=h;unfold gJ at h;rw[if_neg (by omega)] at h;obtain⟨e1,a,b,r,e2,e3,e4,e5⟩:=rJ (aU s) 0 n k ln m (lQ s) h;rw[kw] at e5;have hp : gE n k m = .ok (bQ [str "arena", a, b] ++ [10]++r):= by unfold gE;rw[if_neg (by omega),e2,e3];dsimp only;rw[e4];dsimp only;rw[if_neg (by omega)]
 refine⟨_,hp,?_⟩;have:=(jN hp).1;exact this
def yP:∀(s acc:Bs),2*(cD acc s).length<=s.length+if acc=[] then 1 else 2
 | [],acc=>by
  unfold cD;by_cases q:acc=[]
  ·subst q;simp
  ·rw[if_neg q];split <;> simp_all
 | b :: s,acc=>by
  unfold cD;have h0:=yP s [];have h1:=yP s (acc ++ [b]);rw[if_pos rfl] at h0;rw[if_neg (by simp)] at h1;by_cases q:acc=[]
  ·subst q;simp only[if_true];split
   ·simp only[Jz];first | omega | (split <;> simp_all <;> omega)
   ·simp only[Jz];omega
  ·rw[if_neg q];split
   ·first | (simp only[Jz];omega) | (split <;> simp_all <;> omega)
   ·simp only[Jz];omega
def CY (s:Bs):2*(bO s).length<=s.length+1:=yP s []
def pT {B:Nat}:∀{l:List bV} {r:Bs},fQ l=some r->(∀c∈l,∀y,im c=some y->y.length<=B)->∀x∈aU r,x.length<=B
 | [],r,h,_,x,hx=>by cases h;rw[show aU []=[[]] from rfl] at hx;rw[List.mem_singleton.1 hx];exact JY _
 | c :: l,r,h,hb,x,hx=>by
  unfold fQ at h;cases hc:im c with
  | none=>rw[hc] at h;exact nomatch h
  | some y=>
   cases hr:fQ l with
   | none=>rw[hc,hr] at h;exact nomatch h
   | some r1=>
    rw[hc,hr] at h;cases h;have hy:=hb c (Jq ..) y hc;unfold im at hc;cases hw:ig c with
    | none=>rw[hw] at hc;exact nomatch hc
    | some ws=>
     rw[hw] at hc;have hc:bQ ws ++ [10]=y:=JJ hc;subst hc;obtain⟨h1,_,_⟩:=jT hw 0;rw[KM,show [10]++r1=10 :: r1 from rfl,jd _ _ (jm _ h1)] at hx;rcases Jr.1 hx with rfl | hx
     ·rw[Jt] at hy;omega
     ·exact pT hr (λc hc=>hb c (JG _ hc)) x hx
def BK {n:Int} {w:Bs} (h:dn n=some w):w.length<=100:=by
 unfold dn at h;split at h
 ·rename_i q;cases h;have h2:n.toNat<=4294967296:=by omega
  have:=tk 10 n.toNat (Nat.lt_of_le_of_lt h2 (by decide));omega
 ·exact nomatch h
def oR {cap keeps:Int} {l:List bV} {s:Bs} (h:gE cap keeps l=.ok s) (hb:∀c∈l,∀y,im c=some y->y.length<=15000):Pa.okLines (aU s):=by
 have hs:=(jN h).2.2.2.1;have key:∀x∈aU s,x.length<=15000:=by
  unfold gE at h;split at h
  ·exact nomatch h
  ·cases ha:dn cap with
   | none=>rw[ha] at h;exact nomatch h
   | some a=>
    cases hb':dn keeps with
    | none=>rw[ha,hb'] at h;exact nomatch h
    | some b=>
     cases hr:fQ l with
     | none=>rw[ha,hb',hr] at h;exact nomatch h
     | some r=>
      rw[ha,hb',hr] at h;dsimp only at h;split at h
      ·exact nomatch h
      ·cases h;obtain⟨a1,a2,a3,a4⟩:=gT ha;obtain⟨b1,b2,b3,b4⟩:=gT hb';have la:=BK ha;have lb:=BK hb';have hw : ∀x∈[str "arena", a, b], aG x = true:= fun x hx=> by
        simp at hx;rcases hx with rfl | rfl | rfl
        ·decide
        ·exact fV a3 a4
        ·exact fV b3 b4
       intro x hx;rw[KM,show [10]++r=10 :: r from rfl,jd _ _ (jm _ hw)] at hx;rcases Jr.1 hx with rfl | hx
       ·show (str "arena"++32 :: (a++32 :: b)).length <= _
        have : (str "arena").length = 5:= by decide
        simp only[Jt,Jz];omega
       ·exact pT hr hb x hx
 intro x hx;have h1:=key x hx;have h2:=CY x;exact⟨by omega,by omega⟩
def AM {s w:Bs} (h:fg s=some w):s.length<=w.length:=by
 unfold fg at h;split at h
 ·rename_i q;subst q;exact JY _
 ·split at h
  ·exact nomatch h
  ·split at h
   ·cases h;exact Jd _
   ·exact nomatch h
def sh:∀{tx ts:List Bs},eC tx=some ts->(∀s∈tx,∃w∈ts,s.length<=w.length)/\ts.length=tx.length
 | [],ts,h=>by cases h;exact⟨λs hs=>(nomatch hs),rfl⟩
 | s :: r,ts,h=>by
  unfold eC at h;cases h1:fg s with
  | none=>rw[h1] at h;exact nomatch h
  | some w=>
   cases h2:eC r with
   | none=>rw[h1,h2] at h;exact nomatch h
   | some ws=>
    rw[h1,h2] at h;cases h;obtain⟨q1,q2⟩:=sh h2;refine⟨λx hx=>?_,by simp[q2]⟩;rcases Jr.1 hx with rfl | hx
    ·exact⟨w,Jq ..,AM h1⟩
    ·obtain⟨y,hy,hl⟩:=q1 x hx;exact⟨y,JG _ hy,hl⟩
def ta {c:bV}:∀{r:List Sg} {on tx ws on' tx':List Bs},dl c r on tx=some (ws,on',tx') ->
  (∀s∈on,s∈ws \/ s∈on')/\(∀s∈tx,(∃w∈ws,s.length<=w.length) \/ s∈tx')/\on.length=r.count .h+on'.length/\tx.length=r.count .t+tx'.length/\ws.length=r.length
 | [],on,tx,ws,on',tx',h=>by cases h;exact⟨λs hs=>.inr hs,λs hs=>.inr hs,by simp,by simp,rfl⟩
 | s :: r,on,tx,ws,on',tx',h=>by
  unfold dl at h;cases hp:eD c s on tx with
  | none=>rw[hp] at h;exact nomatch h
  | some p=>
   obtain⟨w,on1,tx1⟩:=p;rw[hp] at h;dsimp only at h;cases hr:dl c r on1 tx1 with
   | none=>rw[hr] at h;exact nomatch h
   | some p2=>
    obtain⟨ws2,on2,tx2⟩:=p2;rw[hr] at h;cases h;obtain⟨q1,q2,q3,q4,q5⟩:=ta hr;have key:(∀x∈on,x=w \/ x∈on1)/\(∀x∈tx,x.length<=w.length \/ x∈tx1)/\on.length=(if s=.h then 1 else 0)+on1.length/\tx.length=(if s=.t then 1 else 0)+tx1.length:=by
     cases s with
     | L=>simp only[eD] at hp;split at hp <;> cases hp;exact⟨λx hx=>.inr hx,λx hx=>.inr hx,by simp,by simp⟩
     | c=>simp only[eD] at hp;split at hp <;> cases hp;exact⟨λx hx=>.inr hx,λx hx=>.inr hx,by simp,by simp⟩
     | h=>
      cases on with
      | nil=>exact nomatch hp
      | cons y on=>
       simp only[eD] at hp;split at hp <;> cases hp
       exact⟨λx hx=>by rcases Jr.1 hx with rfl | hx <;> simp_all,λx hx=>.inr hx,by simp;omega,by simp⟩
     | t=>
      cases tx with
      | nil=>exact nomatch hp
      | cons y tx=>
       simp only[eD] at hp;cases ht:fg y with
       | none=>rw[ht] at hp;exact nomatch hp
       | some z=>
        rw[ht] at hp;cases hp
        exact⟨λx hx=>.inr hx,λx hx=>by
         rcases Jr.1 hx with rfl | hx
         ·exact .inl (AM ht)
         ·exact .inr hx,by simp,by simp;omega⟩
     | o=>
      simp only[eD] at hp;split at hp
      ·cases hp;exact⟨λx hx=>.inr hx,λx hx=>.inr hx,by simp,by simp⟩
      ·cases hn:dn c.n with
       | none=>rw[hn] at hp;exact nomatch hp
       | some z=>rw[hn] at hp;cases hp;exact⟨λx hx=>.inr hx,λx hx=>.inr hx,by simp,by simp⟩
     | n=>
      simp only[eD] at hp;cases hn:dn c.n with
      | none=>rw[hn] at hp;exact nomatch hp
      | some z=>rw[hn] at hp;cases hp;exact⟨λx hx=>.inr hx,λx hx=>.inr hx,by simp,by simp⟩
     | m=>
      simp only[eD] at hp;cases hn:dn c.m with
      | none=>rw[hn] at hp;exact nomatch hp
      | some z=>rw[hn] at hp;cases hp;exact⟨λx hx=>.inr hx,λx hx=>.inr hx,by simp,by simp⟩
     | k=>
      simp only[eD] at hp;cases hn:dn c.k with
      | none=>rw[hn] at hp;exact nomatch hp
      | some z=>rw[hn] at hp;cases hp;exact⟨λx hx=>.inr hx,λx hx=>.inr hx,by simp,by simp⟩
    obtain⟨k1,k2,k3,k4⟩:=key;refine⟨λx hx=>?_,λx hx=>?_,?_,?_,by simp[q5]⟩
    ·rcases k1 x hx with rfl | hx
     ·exact .inl (Jq ..)
     ·rcases q1 x hx with h | h
      ·exact .inl (JG _ h)
      ·exact .inr h
    ·rcases k2 x hx with hx | hx
     ·exact .inl ⟨w,Jq ..,hx⟩
     ·rcases q2 x hx with ⟨y,hy,hl⟩ | h
      ·exact .inl ⟨y,JG _ hy,hl⟩
      ·exact .inr h
    ·rw[k3,q3,List.count_cons];by_cases q:s=.h <;> simp[q] <;> omega
    ·rw[k4,q4,List.count_cons];by_cases q:s=.t <;> simp[q] <;> omega
def qR:∀{ws:List Bs} {w:Bs},w∈ws->w.length<=(bQ ws).length
 | [x],w,h=>by rw[List.mem_singleton.1 h];exact Jd _
 | x :: y :: l,w,h=>by
  show w.length<=(x++32 :: bQ (y :: l)).length;rw[Jt,Jz];rcases Jr.1 h with rfl | h
  ·omega
  ·have:=qR h;omega
def qJ:∀{ws:List Bs},(∀w∈ws,aG w=true)->2*ws.length<=(bQ ws).length+1
 | [],_=>JY _
 | [x],h=>by have:=J8.2 (iD (h x (Jq ..))).1;show 2*1<=x.length+1;omega
 | x :: y :: l,h=>by
  have h1:=J8.2 (iD (h x (Jq ..))).1;have h2:=qJ (ws:=y :: l) λw hw=>h w (JG _ hw);show 2*((y :: l).length+1)<=(x++32 :: bQ (y :: l)).length+1;have e:(x++32 :: bQ (y :: l)).length=x.length+((bQ (y :: l)).length+1):=by rw[Jt,Jz]
  omega
def F3 {c:bV} {ws:List Bs} (h:ig c=some ws) (hl:(bQ ws).length<=8000):Hx c/\c.on.length<=4000:=by
 obtain⟨hw,_,_⟩:=jT h 0;have hcnt:=qJ hw;unfold ig at h;split at h
 ·rename_i hop;dsimp only at h;generalize co.getD c.op ⟨[],[],false⟩=f at h;split at h
  ·exact nomatch h
  ·rename_i hsp;cases hp:dl c f.rest c.on c.texts with
   | none=>rw[hp] at h;exact nomatch h
   | some p=>
    obtain⟨ps,on',tx'⟩:=p;rw[hp] at h;dsimp only at h;cases ht:eC tx' with
    | none=>rw[ht] at h;exact nomatch h
    | some ts=>
     rw[ht] at h;cases h;obtain⟨q1,q2,q3,q4,q5⟩:=ta hp;obtain⟨t1,t2⟩:=sh ht;have hsp:fG c f=false:=by simpa using hsp
     have hin:∀s,s∈f.rest->¬ ∀on tx,eD c s on tx=none:=λs hs hn=>by rw[jW hn f.rest c.on c.texts hs] at hp;exact nomatch hp
     have hcount:f.rest.count .t<=f.rest.length:=List.count_le_length;have hcounth:f.rest.count .h<=f.rest.length:=List.count_le_length;unfold fG at hsp;simp only[Bool.or_eq_false_iff,Bool.and_eq_false_iff,Bool.not_eq_false',decide_eq_false_iff_not,Decidable.not_not,List.contains_eq_mem,Kh,J4] at hsp;obtain⟨⟨⟨⟨⟨⟨⟨s1,s2⟩,s3⟩,s4⟩,s5⟩,s6⟩,s7⟩,s8⟩:=hsp;have s1:=I8 s1;have hon:on'=[]:=List.length_eq_zero_iff.1 (by omega);subst hon;have hlen:(f.word :: (ps++ts)).length=1+(ps.length+ts.length):=by simp;omega
     rw[hlen] at hcnt;have big:∀w,w∈ps \/ w∈ts->w.length<=8000:=λw hw=>JV (qR (JG _ (Kv.2 hw))) hl;have num:∀n:Int,dn n≠none->0<=n/\n<=4294967296:=λn hn=>by
      unfold dn at hn;split at hn
      ·assumption
      ·exact absurd rfl hn
     have zn:-1<=c.n/\c.n<=4294967296:=by
      rcases s4 with s4 | s4 | s4
      ·rw[s4];decide
      ·have:=num c.n λe=>hin .n s4 λon tx=>by simp only[eD,e];rfl
       omega
      ·by_cases q:c.n=-1
       ·rw[q];decide
       ·have:=num c.n λe=>hin .o s4 λon tx=>by simp only[eD,e,if_neg q];rfl
        omega
     have zm:-1<=c.m/\c.m<=4294967296:=by
      rcases s5 with s5 | s5
      ·rw[s5];decide
      ·have:=num c.m λe=>hin .m s5 λon tx=>by simp only[eD,e];rfl
       omega
     have zk:-1<=c.k/\c.k<=4294967296:=by
      rcases s6 with s6 | s6
      ·rw[s6];decide
      ·have:=num c.k λe=>hin .k s6 λon tx=>by simp only[eD,e];rfl
       omega
     have zd:c.kind<=255:=by
      rcases s7 with s7 | s7
      ·omega
      ·by_cases q:c.kind<=4
       ·omega
       ·exact absurd (λon tx=>by simp only[eD,if_neg q]) (hin .c s7)
     have zl:c.label.length<=90000:=by
      rcases s8 with s8 | s8
      ·have:c.label=[]:=by simpa using s8
       rw[this];exact JY _
      ·by_cases q:c.label.length<=16
       ·omega
       ·exact absurd (λon tx=>by simp only[eD,if_neg (show ¬(aG c.label=true/\c.label.length<=16) from λh=>q h.2)]) (hin .L s8)
     have r64:∀{n:Int},-1<=n/\n<=4294967296->eX n:=λh=>⟨by omega,by omega⟩;rw[Kl] at q3;refine⟨⟨⟨r64 zn,r64 zm,r64 zk⟩,by omega,zd,zl,λs hs=>?_,λs hs=>?_,by omega⟩,by omega⟩
     ·rcases q1 s hs with h | h
      ·have:=big s (.inl h);omega
      ·exact nomatch h
     ·rcases q2 s hs with ⟨w,h,hl⟩ | h
      ·have:=big w (.inl h);omega
      ·obtain⟨w,h,hl⟩:=t1 s h;have:=big w (.inr h);omega
 ·exact nomatch h
def xL {c:bV} {y:Bs} (h:im c=some y):(dw c).1=y:=by
 rw[<-Bz] at h;split at h
 ·exact JJ h
 ·exact nomatch h
def uC:∀{l:List bV} {r:Bs},fQ l=some r->∀c∈l,∃ws,ig c=some ws/\(bQ ws).length+1<=r.length
 | [],r,h,c,hc=>nomatch hc
 | x :: l,r,h,c,hc=>by
  unfold fQ at h;cases hx:im x with
  | none=>rw[hx] at h;exact nomatch h
  | some y=>
   cases hr:fQ l with
   | none=>rw[hx,hr] at h;exact nomatch h
   | some r1=>
    rw[hx,hr] at h;cases h;rw[Jt];rcases Jr.1 hc with rfl | hc
    ·unfold im at hx;cases hw:ig c with
     | none=>rw[hw] at hx;exact nomatch hx
     | some ws=> rw[hw] at hx;have hx:bQ ws ++ [10]=y:=JJ hx;subst hx;exact⟨ws,rfl,by rw[Jt,J7];omega⟩
    ·obtain⟨ws,h1,h2⟩:=uC hr c hc;exact⟨ws,h1,by omega⟩
def kL:∀(l:List bV) (i:Nat),(oJ i l).map strip=l.map strip
 | [],_=>rfl
 | c :: l,i=>by show strip { c with line:=i } :: (oJ (i+1) l).map strip=strip c :: l.map strip;rw[kL l];rfl
def DJ {s:Bs} {n k ln:Nat} {m:List bV} (hs:s.length<=8000) (h:gJ s=(n,k,m,ln,0)):
  (n<=4294967296/\k<=4294967296)/\m.length<=1000/\(∀c∈m,Hx c/\oX c/\c.on.length<=4000)/\∃s',gE n k m=.ok s'/\s'.length<=65536/\Pa.okLines (aU s')/\gJ s'=(n,k,oJ 2 m,0,0):=by
 obtain⟨s',hp,hq⟩:=ve (by omega) h;have h0:=h;unfold gJ at h;rw[if_neg (by omega)] at h;obtain⟨e1,a,b,r,e2,e3,e4,e5⟩:=rJ (aU s) 0 n k ln m (lQ s) h;rw[kw] at e5;have hr:r.length+2<=8001:=by
  have e : (bQ [str "arena", a, b] ++ [10]++r).length = (bQ [str "arena", a, b]).length+1+r.length:= by rw[Jt, Jt, J7]
  have : 1 <= (bQ [str "arena", a, b]).length:= JV (by decide) (qR (ws:= [str "arena", a, b]) (w:= str "arena") (by simp))
  omega
 have hn:∀{x:Nat} {w:Bs},dn (x:Int)=some w->x<=4294967296:=λh=>by
  unfold dn at h;split at h
  ·omega
  ·exact nomatch h
 have hc:∀c∈m,Hx c/\oX c/\c.on.length<=4000:=λc hc=>by
  obtain⟨ws,h1,h2⟩:=uC e4 c hc;obtain⟨o1,o2⟩:=F3 h1 (by omega);refine⟨o1,?_,o2⟩;have:im c=some (bQ ws ++ [10]):=by unfold im;rw[h1];rfl
  unfold oX;rw[xL this,Jt,J7];omega
 refine⟨⟨hn e2,hn e3⟩,e1,hc,s',hp,(jN hp).2.2.2.1,oR hp λc hcm y hy=>?_,hq⟩;obtain⟨ws,h1,h2⟩:=uC e4 c hcm;unfold im at hy;rw[h1] at hy;have hy:bQ ws ++ [10]=y:=JJ hy;rw[<-hy,Jt,J7];omega
end Go.Ev
