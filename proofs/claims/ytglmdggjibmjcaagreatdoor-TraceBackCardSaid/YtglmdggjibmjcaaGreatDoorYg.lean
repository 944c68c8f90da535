/-
  THE WRITER's LINE is the line of TP1, purely: row by row.
-/
import Derived.Test.YtglmdggjibmjcaaGreatDoorYd
noncomputable section
set_option linter.all false
set_option maxRecDepth 100000
open Nat (ble beq)
namespace Go.Ev
open Go
def DX (u:Nat):aG (Lib.decDigits u)=true:=by have h:=uD u;have hne:=nX u;unfold aG;rw[show (Lib.decDigits u).isEmpty=false by cases hd:Lib.decDigits u with | nil=>exact absurd hd hne | cons _ _=>rfl];rw[Bool.not_false,Ky,Jv];intro b hb;have:=Jv.1 h b hb;unfold dR at this;rw[Ja] at this;have h1:=I7 this.1;rw[show (b==32)=false from JM.2 λe=>by subst e;exact absurd h1 (by decide),show (b==10)=false from JM.2 λe=>by subst e;exact absurd h1 (by decide)];rfl
def Dj:aG []=false:=rfl
def fS (n:Int):dn n=if aG (cR n) then some (cR n) else none:=by
 unfold dn cR;by_cases q:0<=n/\n<=4294967296
 ·rw[if_pos q,if_pos q,DX,if_pos rfl]
 ·rw[if_neg q,if_neg q,Dj];rfl
def lT (s:Bs):fg s=if aG (dF s) then some (dF s) else none:=by
 unfold fg dF;by_cases q:s=[]
 ·rw[if_pos q,if_pos q];rfl
 ·rw[if_neg q,if_neg q];by_cases q2:s=[46]
  ·rw[if_pos (show s = str "." from q2), if_pos q2];rfl
  ·rw[if_neg (show ¬ s = str "." from q2), if_neg q2]
def kJ:∀l:List Bs,eC l=if (l.map dF).all aG then some (l.map dF) else none
 | []=>rfl
 | s :: l=>by unfold eC;rw[lT,kJ l,J5,JZ];cases aG (dF s) <;> cases (l.map dF).all aG <;> rfl
def I3:Sg->UInt8
 |.L=>76 | .h=>104 | .o=>110 | .n=>110 | .m=>109 | .k=>107 | .c=>99 | .t=>116
def xi {k:Nat} (h:k<5):aG (aZ.getD k [])=true:=by
 match k,h with
 | 0,_=>rfl
 | 1,_=>rfl
 | 2,_=>rfl
 | 3,_=>rfl
 | 4,_=>rfl
def avh (c:bV) (s:Sg) (on tx:List Bs):Prop:=(s=.h->on ≠ [])/\(s=.t->tx ≠ [])/\(s=.c->c.kind<5)/\(s=.L->c.label.length<=16)/\(s=.o->c.op=19)/\(s=.n->c.op≠19)
def yy {c:bV} {s:Sg} {ws on tx:List Bs} (h:avh c s on tx):∃w on' tx',bK c (I3 s) ws on tx=(ws ++ [w],on',tx')/\eD c s on tx=if aG w then some (w,on',tx') else none:=by
 obtain⟨h1,h2,h3,h4,h5,h6⟩:=h;cases s with
 | L=>
  refine⟨c.label,on,tx,rfl,?_⟩;have:=h4 rfl;show (if aG c.label=true/\c.label.length<=16 then some (c.label,on,tx) else none)=_;cases aG c.label with
  | true=>rw[if_pos ⟨rfl,this⟩];rfl
  | false=>rw[if_neg (by simp)];rfl
 | h=> obtain⟨w,on',rfl⟩:=List.exists_cons_of_ne_nil (h1 rfl);exact⟨w,on',tx,rfl,rfl⟩
 | t=> obtain⟨w,tx',rfl⟩:=List.exists_cons_of_ne_nil (h2 rfl);refine⟨dF w,on,tx',rfl,?_⟩;show (fg w).map _=_;rw[lT];cases aG (dF w) <;> rfl
 | c=> have hk:=h3 rfl;refine⟨aZ.getD c.kind [],on,tx,rfl,?_⟩;show (if c.kind<=4 then some (aZ.getD c.kind [],on,tx) else none)=_;rw[if_pos (by omega),xi hk];rfl
 | o=>
  have ho:=h5 rfl;refine⟨if c.op=19/\c.n=-1 then [110,111,110,101] else cR c.n,on,tx,rfl,?_⟩;show (if c.n = -1 then some (str "none", on, tx) else (dn c.n).map fun w=> (w, on, tx)) = _
  by_cases q:c.n=-1
  ·rw[show (if c.op=19/\c.n=-1 then ([110,111,110,101]:Bs) else cR c.n)=[110,111,110,101] from if_pos ⟨ho,q⟩,if_pos q];rfl
  ·rw[show (if c.op=19/\c.n=-1 then ([110,111,110,101]:Bs) else cR c.n)=cR c.n from if_neg (λh=>q h.2),if_neg q,fS];cases aG (cR c.n) <;> rfl
 | n=> have ho:=h6 rfl;refine⟨if c.op=19/\c.n=-1 then [110,111,110,101] else cR c.n,on,tx,rfl,?_⟩;show ((dn c.n).map λw=>(w,on,tx))=_;rw[show (if c.op=19/\c.n=-1 then ([110,111,110,101]:Bs) else cR c.n)=cR c.n from if_neg (λh=>ho h.1),fS];cases aG (cR c.n) <;> rfl
 | m=> refine⟨cR c.m,on,tx,rfl,?_⟩;show ((dn c.m).map λw=>(w,on,tx))=_;rw[fS];cases aG (cR c.m) <;> rfl
 | k=> refine⟨cR c.k,on,tx,rfl,?_⟩;show ((dn c.k).map λw=>(w,on,tx))=_;rw[fS];cases aG (cR c.k) <;> rfl
structure qM (c:bV) (g:List Sg) (on tx:List Bs):Prop where
 hs:g.count .h<=on.length
 ts:g.count .t<=tx.length
 ks:.c∈g->c.kind<5
 ls:.L∈g->c.label.length<=16
 os:.o∈g->c.op=19
 ns:.n∈g->c.op≠19
def qM.now {c:bV} {s:Sg} {g:List Sg} {on tx:List Bs} (h:qM c (s :: g) on tx):avh c s on tx:=by
 obtain⟨h1,h2,h3,h4,h5,h6⟩:=h;refine⟨λe q=>?_,λe q=>?_,λe=>h3 (e ▸ Jq ..),λe=>h4 (e ▸ Jq ..),λe=>h5 (e ▸ Jq ..),λe=>h6 (e ▸ Jq ..)⟩
 ·subst e q;rw[List.count_cons_self] at h1;simp at h1
 ·subst e q;rw[List.count_cons_self] at h2;simp at h2
def qM.step {c:bV} {s:Sg} {g:List Sg} {ws on tx:List Bs} (h:qM c (s :: g) on tx):qM c g (bK c (I3 s) ws on tx).2.1 (bK c (I3 s) ws on tx).2.2:=by obtain⟨h1,h2,h3,h4,h5,h6⟩:=h;have m:∀x:Sg,x∈g->x∈s :: g:=λx hx=>JG _ hx;rw[List.count_cons] at h1 h2;cases s <;> refine⟨?_,?_,λe=>h3 (m _ e),λe=>h4 (m _ e),λe=>h5 (m _ e),λe=>h6 (m _ e)⟩ <;> simp[bK,I3] at h1 h2 ⊢ <;> omega
def oD {c:bV}:∀(g:List Sg) (ws on tx:List Bs),qM c g on tx->∃ws' on' tx',gb c (g.map I3) (ws,on,tx)=(ws++ws',on',tx')/\dl c g on tx=(if ws'.all aG then some (ws',on',tx') else none)/\tx'.length+g.count .t=tx.length
 | [],ws,on,tx,h=>⟨[],on,tx,by simp[gb],rfl,by simp⟩
 | s :: g,ws,on,tx,h=>by
  obtain⟨w,on1,tx1,e1,e2⟩:=yy (ws:=ws) h.now;have hs:=h.step (ws:=ws);have htx:tx1.length+(if s=.t then 1 else 0)=tx.length:=by
   have hh:=h.now.2.1;cases s <;> simp[bK,I3] at e1 <;> obtain⟨_,_,rfl⟩:=e1 <;> simp
   have:=hh rfl;cases tx with
   | nil=>exact absurd rfl this
   | cons a b=>simp
  rw[e1] at hs;obtain⟨ws',on',tx',e3,e4,e5⟩:=oD g (ws ++ [w]) on1 tx1 hs;refine⟨w :: ws',on',tx',?_,?_,?_⟩
  ·rw[J5];show gb c (g.map I3) (bK c (I3 s) ws on tx)=_;rw[e1,e3];simp
  ·unfold dl;rw[e2,JZ];cases aG w with
   | false=>rfl
   | true=> simp only[if_true,Ky];rw[e4];cases ws'.all aG <;> rfl
  ·rw[List.count_cons];have:(if (s==Sg.t)=true then 1 else 0)=(if s=.t then 1 else 0):=by cases s <;> rfl
   rw[this];omega
end Go.Ev
namespace Go.Ev
open Go F
def fz0:Form:=⟨[],[],false⟩
def oq (i:Nat):Bs:=(ct.getD i ([],[])).2
def nA (i:Nat):Form:=co.getD i fz0
def G5 (i:Nat):Bool:=Lib.hasSuffix (oq i) [43]&&(nA i).more&&decide (oq i=(nA i).rest.dropLast.map I3 ++ [43])&&decide ((nA i).rest=(nA i).rest.dropLast ++ [.t])&&beq ((nA i).rest.dropLast.count .t) 0&&beq ((nA i).rest.count .t) 1
def FI (i:Nat):Bool:=!Lib.hasSuffix (oq i) [43]&&Lib.hasSuffix (oq i) [42]&&(nA i).more&&decide (oq i=[42])&&decide ((nA i).rest=[])
def zV (i:Nat):Bool:=!Lib.hasSuffix (oq i) [43] && !Lib.hasSuffix (oq i) [42] && !(nA i).more&&decide (oq i=(nA i).rest.map I3)&&beq ((nA i).rest.count .t) ((oq i).count 116)
def xy (i:Nat):Bool:=decide ((ct.getD i ([],[])).1=(nA i).word)&&aG (nA i).word&&(G5 i||FI i||zV i)&&(nA i).rest.all (λs=>(decide (s ≠ .o)||beq i 19)&&(decide (s ≠ .n)||!beq i 19)) &&
 beq ((nA i).rest.count .h) ((oq i).count 104)&&(((nA i).rest.contains .n||(nA i).rest.contains .o)==(oq i).contains 110)&&((nA i).rest.contains .m==(oq i).contains 109)&&((nA i).rest.contains .k==(oq i).contains 107)&&((nA i).rest.contains .c==(oq i).contains 99)&&((nA i).rest.contains .L==(oq i).contains 76)
def Dv:(List.range 41).all xy=true:=by decide
def yc (a:Bool) (b:Bool):(a==b)=true->a=b:=by cases a <;> cases b <;> simp
def D8 (c:bV) (r:Bs):dV c r=(decide (c.on.length≠r.count 104)||decide (c.texts.length≠gH r c.texts.length)||(decide (c.n≠0) && !r.contains 110)||(decide (c.m≠0) && !r.contains 109)||(decide (c.k≠0) && !r.contains 107)||(decide (c.kind≠0) && !r.contains 99)||(decide (c.label ≠ []) && !r.contains 76)):=by
 unfold dV;by_cases h1:c.on.length≠r.count 104
 ·rw[if_pos h1];simp[h1]
 rw[if_neg h1];by_cases h2:c.texts.length≠gH r c.texts.length
 ·rw[if_pos h2];simp[h2]
 rw[if_neg h2];have go:∀(p:Prop) [Decidable p] (b:Bool) (x:Bool),(if p/\b=false then true else x)=((decide p && !b)||x):=λp _ b x=>by by_cases hp:p <;> cases b <;> simp[hp]
 rw[go,go,go,go,go];have e1:decide (c.on.length≠r.count 104)=false:=decide_eq_false h1;have e2:decide (c.texts.length≠gH r c.texts.length)=false:=decide_eq_false h2;rw[e1,e2];simp only[Bool.false_or,Bool.or_false,Bool.or_assoc]
def HO {c:bV} {i:Nat} (hf:xy i=true):dV c (oq i)=fG c (nA i):=by
 unfold xy at hf;simp only[Ja] at hf;obtain⟨⟨⟨⟨⟨⟨⟨⟨⟨_,_⟩,hk⟩,_⟩,f1⟩,f2⟩,f3⟩,f4⟩,f5⟩,f6⟩:=hf;have f1:=I8 f1;rw[D8];unfold fG;rw[yc _ _ f2,yc _ _ f3,yc _ _ f4,yc _ _ f5,yc _ _ f6,f1];have e1:decide (c.on.length≠(oq i).count 104)=!beq c.on.length ((oq i).count 104):=by
  by_cases q:c.on.length=(oq i).count 104
  ·rw[gm q];simp[q]
  ·rw[dB q];simp[q]
 have e2:decide (c.texts.length≠gH (oq i) c.texts.length)=((!ble ((nA i).rest.count .t) c.texts.length)||(!(nA i).more && !ble c.texts.length ((nA i).rest.count .t))):=by
  unfold gH;simp only[J4] at hk;rcases hk with (hk | hk) | hk
  ·unfold G5 at hk;simp only[Ja] at hk;obtain⟨⟨⟨⟨⟨k1,k2⟩,_⟩,_⟩,_⟩,k3⟩:=hk;rw[if_pos k1,k2,I8 k3];by_cases q:1<=c.texts.length
   ·rw[aM q];simp;omega
   ·rw[dt (show c.texts.length<1 by omega)];simp;omega
  ·unfold FI at hk;simp only[Ja,Bool.not_eq_true',Kh] at hk;obtain⟨⟨⟨⟨k1,k2⟩,k3⟩,_⟩,k4⟩:=hk;rw[if_neg (by rw[k1];simp),if_pos k2,k3,k4];simp
  ·unfold zV at hk;simp only[Ja,Bool.not_eq_true'] at hk;obtain⟨⟨⟨⟨k1,k2⟩,k3⟩,_⟩,k4⟩:=hk;rw[if_neg (by rw[k1];simp),if_neg (by rw[k2];simp),k3,I8 k4];by_cases q:c.texts.length=(oq i).count 116
   ·rw[q,aM (Jd _)];simp
   ·rcases Nat.lt_or_gt_of_ne q with h | h
    ·rw[dt h];simp[q]
    ·rw[dt h];simp[q]
 have e3:decide (c.label ≠ [])=!c.label.isEmpty:=by cases c.label <;> simp
 rw[e1,e2,e3];simp only[Bool.or_assoc]
def xp {c:bV}:∀(g:List Sg) (on tx:List Bs),dl c (g ++ [.t]) on tx=match dl c g on tx with
  | none=>none
  | some (ws,on',tx')=>match tx' with
   | []=>none
   | s :: tx''=>(fg s).map λw=>(ws ++ [w],on',tx'')
 | [],on,[]=>rfl
 | [],on,s :: tx=>by show (match eD c .t on (s :: tx) with | none=>none | some (w,on',tx')=>_)=_;show (match (fg s).map λw=>(w,on,tx) with | none=>none | some (w,on',tx')=>match dl c [] on' tx' with | none=>none | some (ws,on'',tx'')=>some (w :: ws,on'',tx''))=(fg s).map λw=>([] ++ [w],on,tx);cases fg s <;> rfl
 | a :: g,on,tx=>by
  rw[KY];unfold dl;cases hp:eD c a on tx with
  | none=>rfl
  | some x=>
   obtain⟨w,on',tx'⟩:=x;simp only;rw[xp g on' tx'];cases hq:dl c g on' tx' with
   | none=>rfl
   | some y=>
    obtain⟨ws,on2,tx2⟩:=y;cases tx2 with
    | nil=>rfl
    | cons s tx3=> simp only;cases fg s <;> rfl
def oU {c:bV}:∀(a b:Bs) (st:List Bs × List Bs × List Bs),gb c (a++b) st=gb c b (gb c a st)
 | [],_,_=>rfl
 | r :: a,b,st=>oU a b _
def pG (a b:List Bs):(a++b).all aG=(a.all aG&&b.all aG):=List.all_append ..
def jW {c:bV} {s:Sg} (hb:∀on tx,eD c s on tx=none):∀(g:List Sg) (on tx:List Bs),s∈g->dl c g on tx=none
 | a :: g,on,tx,hm=>by
  unfold dl;rcases Jr.1 hm with rfl | hm
  ·rw[hb]
  ·cases eD c a on tx with
   | none=>rfl
   | some x=> obtain⟨w,on',tx'⟩:=x;simp only;rw[jW hb g on' tx' hm]
def Ep {c:bV} {f:Form} (h:fG c f=false):c.on.length=f.rest.count .h/\f.rest.count .t<=c.texts.length/\(f.more=false->c.texts.length<=f.rest.count .t)/\(c.kind≠0->.c∈f.rest)/\(c.label ≠ []->.L∈f.rest):=by
 unfold fG at h;simp only[Bool.or_eq_false_iff] at h;obtain⟨⟨⟨⟨⟨⟨⟨h1,h2⟩,h3⟩,_⟩,_⟩,_⟩,h4⟩,h5⟩:=h;refine⟨I8 (by simpa using h1),I7 (by simpa using h2),λe=>I7 (by rw[e] at h3;simpa using h3),λe=>?_,λe=>?_⟩
 ·rw[decide_eq_true e] at h4;simpa using h4
 ·have:c.label.isEmpty=false:=by cases hl:c.label with | nil=>exact absurd hl e | cons _ _=>rfl
  rw[this] at h5;simpa using h5
def Bz (c:bV):(if (dw c).2 then some (dw c).1 else none)=im c:=by
 unfold im ig;by_cases hop:c.op<=40
 ·have hf:xy c.op=true:=Jv.1 Dv c.op (List.mem_range.2 (by omega));have hsp:=HO (c:=c) hf;rw[if_pos hop]
  show _=(if fG c (nA c.op)=true then none else match dl c (nA c.op).rest c.on c.texts with
   | none=>none
   | some (ws,_,tx)=>match eC tx with
    | none=>none
    | some ts=>some ((nA c.op).word :: (ws++ts))).map λws=>bQ ws ++ [10]
  unfold dw;show (if (if 41<=c.op \/ 5<=c.kind then ([],false) else if dV c (oq c.op)=true \/ 16<c.label.length then ([],false) else (bQ (gb c (oq c.op) ([(ct.getD c.op ([],[])).1],c.on,c.texts)).1 ++ [10],(gb c (oq c.op) ([(ct.getD c.op ([],[])).1],c.on,c.texts)).1.all aG):Bs × Bool).2=true then some (if 41<=c.op \/ 5<=c.kind then ([],false) else if dV c (oq c.op)=true \/ 16<c.label.length then ([],false) else (bQ (gb c (oq c.op) ([(ct.getD c.op ([],[])).1],c.on,c.texts)).1 ++ [10],(gb c (oq c.op) ([(ct.getD c.op ([],[])).1],c.on,c.texts)).1.all aG):Bs × Bool).1 else none)=_;rw[hsp];generalize hfo:nA c.op=f at *;cases hs:fG c f with
  | true=>
   rw[if_pos (show true=true from rfl)];by_cases q:41<=c.op \/ 5<=c.kind
   ·rw[if_pos q];rfl
   ·rw[if_neg q,if_pos (Or.inl rfl)];rfl
  | false=>
   obtain⟨s1,s2,s3,s4,s5⟩:=Ep hs;rw[if_neg (show ¬ (false=true) by decide)];by_cases q:41<=c.op \/ 5<=c.kind
   ·rw[if_pos q,jW (s:=.c) (λon tx=>if_neg (by omega)) _ _ _ (s4 (by omega))];rfl
   ·rw[if_neg q];by_cases q2:16<c.label.length
    ·rw[if_pos (show false=true \/ 16<c.label.length from Or.inr q2),jW (s:=.L) (λon tx=>if_neg (by omega)) _ _ _ (s5 (by intro e;rw[e] at q2;exact absurd q2 (by decide)))];rfl
    ·rw[if_neg (show ¬ (false=true \/ 16<c.label.length) from λh=>h.elim (λe=>nomatch e) q2)];unfold xy at hf;rw[hfo] at hf;simp only[Ja] at hf;obtain⟨⟨⟨⟨⟨⟨⟨⟨⟨hw0,hw⟩,hk⟩,hall⟩,f1⟩,f2⟩,f3⟩,f4⟩,f5⟩,f6⟩:=hf;have hw0:=of_decide_eq_true hw0;rw[hw0];have hos:∀s∈f.rest,(s=.o->c.op=19)/\(s=.n->c.op≠19):=λs hs=>by
      have:=Jv.1 hall s hs;simp only[Ja,J4,Kh,Bool.not_eq_true'] at this;refine⟨λe=>?_,λe=>?_⟩
      ·rcases this.1 with h | h
       ·exact absurd e h
       ·exact I8 h
      ·rcases this.2 with h | h
       ·exact absurd e h
       ·intro e2;rw[e2] at h;exact nomatch h
     have hOk:qM c f.rest c.on c.texts:=⟨by omega,s2,λ_=>by omega,λ_=>by omega,λh=>(hos _ h).1 rfl,λh=>(hos _ h).2 rfl⟩;simp only[J4] at hk;rcases hk with (hk | hk) | hk
     ·unfold G5 at hk;rw[hfo] at hk;simp only[Ja,Kh] at hk;obtain⟨⟨⟨⟨⟨k1,k2⟩,k3⟩,k4⟩,k5⟩,k6⟩:=hk;have k5:=I8 k5;have k6:=I8 k6;have hm:∀x,x∈f.rest.dropLast->x∈f.rest:=λx hx=>by rw[k4];exact Ku _ hx
      have hc:f.rest.dropLast.count .h<=c.on.length:=by have:=hOk.hs;rw[k4,List.count_append] at this;omega
      obtain⟨ws',on',tx',e1,e2,e3⟩:=oD (c:=c) f.rest.dropLast [f.word] c.on c.texts ⟨hc,by omega,λh=>hOk.ks (hm _ h),λh=>hOk.ls (hm _ h),λh=>hOk.os (hm _ h),λh=>hOk.ns (hm _ h)⟩;rw[k3,oU,e1,k4,xp,e2];have:gb c [43] ([f.word]++ws',on',tx')=(([f.word]++ws')++tx'.map dF,on',tx'):=rfl;rw[this];cases tx' with
      | nil=>simp at e3;omega
      | cons s tx''=>
       have ea:(([f.word]++ws')++(s :: tx'').map dF).all aG=(ws'.all aG&&(aG (dF s)&&(tx''.map dF).all aG)):=by rw[pG,pG,J5,show ([f.word]:List Bs).all aG=true by rw[JZ,hw];rfl,Ky,JZ]
       simp only[ea];cases ws'.all aG with
       | false=>rfl
       | true=>
        simp only[if_true,Ky];rw[lT];cases aG (dF s) with
        | false=>rfl
        | true=>
         simp only[if_true,Ky,KD];rw[kJ];cases (tx''.map dF).all aG with
         | false=>rfl
         | true=>simp
     ·unfold FI at hk;rw[hfo] at hk;simp only[Ja,Bool.not_eq_true',Kh] at hk;obtain⟨⟨⟨⟨k1,k2⟩,k3⟩,k4⟩,k5⟩:=hk;rw[k4,k5];have:gb c [42] ([f.word],c.on,c.texts)=([f.word]++c.texts.map dF,c.on,c.texts):=rfl;rw[this];have ea:([f.word]++c.texts.map dF).all aG=(c.texts.map dF).all aG:=by rw[pG,show ([f.word]:List Bs).all aG=true by rw[JZ,hw];rfl,Ky]
      simp only[ea];unfold dl;simp only;rw[kJ];cases (c.texts.map dF).all aG with
      | false=>rfl
      | true=>simp
     ·unfold zV at hk;rw[hfo] at hk;simp only[Ja,Bool.not_eq_true',Kh] at hk;obtain⟨⟨⟨⟨k1,k2⟩,k3⟩,k4⟩,k5⟩:=hk;obtain⟨ws',on',tx',e1,e2,e3⟩:=oD (c:=c) f.rest [f.word] c.on c.texts hOk;rw[k4,e1,e2];have:tx'=[]:=by
       have:=s3 k3;cases tx' with
       | nil=>rfl
       | cons _ _=>simp at e3;omega
      subst this;have ea:([f.word]++ws').all aG=ws'.all aG:=by rw[pG,show ([f.word]:List Bs).all aG=true by rw[JZ,hw];rfl,Ky]
      simp only[ea];cases ws'.all aG with
      | false=>rfl
      | true=>simp[eC]
 ·rw[if_neg hop];have:dw c=([],false):=if_pos (Or.inl (by omega));rw[this];rfl
def Bb:∀l:List bV,iP l=fQ l
 | []=>rfl
 | c :: l=>by unfold iP fQ;rw[<-Bz,Bb l];cases (dw c).2 <;> cases fQ l <;> rfl
def nF (n:Int):cR n=[] ↔ dn n=none:=by
 unfold cR dn;by_cases q:0<=n/\n<=4294967296
 ·rw[if_pos q,if_pos q];simp[nX]
 ·rw[if_neg q,if_neg q];simp
def ww (cap keeps:Int) (l:List bV):eK cap keeps l=match gE cap keeps l with | .ok s=>(s,0) | .error e=>([],e):=by
 unfold eK gE;by_cases q:1000<l.length
 ·rw[if_pos q,if_pos q]
 rw[if_neg q,if_neg q];by_cases q1:cR cap=[] \/ cR keeps=[]
 ·rw[if_pos q1];rcases q1 with q1 | q1
  ·rw[(nF _).1 q1]
  ·rw[(nF _).1 q1];cases dn cap <;> rfl
 ·rw[if_neg q1];have a1:dn cap=some (cR cap):=by
   have:cR cap ≠ []:=λe=>q1 (.inl e);rw[fS];cases hw:aG (cR cap) with
   | true=>rfl
   | false=>have:=(nF cap).2 (by rw[fS,hw];rfl);contradiction
  have a2:dn keeps=some (cR keeps):=by
   have:cR keeps ≠ []:=λe=>q1 (.inr e);rw[fS];cases hw:aG (cR keeps) with
   | true=>rfl
   | false=>have:=(nF keeps).2 (by rw[fS,hw];rfl);contradiction
  rw[a1,a2,Bb];cases fQ l with
  | none=>rfl
  | some r=>
   have e : bQ [str "arena", cR cap, cR keeps] ++ [10]++r = [97, 114, 101, 110, 97, 32]++cR cap ++ [32]++cR keeps ++ [10]++r:= by
    show (str "arena"++32 :: (cR cap++32 :: cR keeps)) ++ [10]++r = _
    have : str "arena" = [97, 114, 101, 110, 97]:= by decide
    rw[this];simp
   simp only[e];by_cases q2:65536<([97,114,101,110,97,32]++cR cap ++ [32]++cR keeps ++ [10]++r).length
   ·rw[if_pos q2,if_pos q2]
   ·rw[if_neg q2,if_neg q2]
end Go.Ev
