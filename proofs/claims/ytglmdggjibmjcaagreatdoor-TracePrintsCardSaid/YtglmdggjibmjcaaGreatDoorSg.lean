/-
  Functions of the law as plain Lean, printed by a program.
-/
import Derived.Test.YtglmdggjibmjcaaGreatDoorSd
noncomputable section
set_option linter.unusedVariables false
set_option linter.unusedSimpArgs false
set_option maxRecDepth 100000
open Nat (ble beq)
namespace Go.Ev
open Go
theorem Bo (u:Nat):aM (Lib.decDigits u)=true:=by have h:=IN u;have hne:=Dr u;unfold aM;rw[show (Lib.decDigits u).isEmpty=false by cases hd:Lib.decDigits u with | nil=>exact absurd hd hne | cons _ _=>rfl];rw[Bool.not_false,Bool.true_and,List.all_eq_true];intro b hb;have:=List.all_eq_true.1 h b hb;unfold FE at this;rw[Bool.and_eq_true] at this;have h1:=Nat.le_of_ble_eq_true this.1;rw[show (b==32)=false from beq_eq_false_iff_ne.2 λe=>by subst e;exact absurd h1 (by decide),show (b==10)=false from beq_eq_false_iff_ne.2 λe=>by subst e;exact absurd h1 (by decide)];rfl
theorem Bd:aM []=false:=rfl
theorem fj (n:Int):ij n=if aM (cr n) then some (cr n) else none:=by
 unfold ij cr;by_cases q:0<=n/\n<=4294967296
 ·rw[if_pos q,if_pos q,Bo,if_pos rfl]
 ·rw[if_neg q,if_neg q,Bd];rfl
theorem kI (s:Bs):gH s=if aM (de s) then some (de s) else none:=by
 unfold gH de;by_cases q:s=[]
 ·rw[if_pos q,if_pos q];rfl
 ·rw[if_neg q,if_neg q];by_cases q2:s=[46]
  ·rw[if_pos (show s = str "." from q2), if_pos q2];rfl
  ·rw[if_neg (show ¬ s = str "." from q2), if_neg q2]
theorem jY:∀l:List Bs,gM l=if (l.map de).all aM then some (l.map de) else none
 | []=>rfl
 | s :: l=>by unfold gM;rw[kI,jY l,List.map_cons,List.all_cons];cases aM (de s) <;> cases (l.map de).all aM <;> rfl
def FT:Sg->UInt8
 |.L=>76 | .h=>104 | .o=>110 | .n=>110 | .m=>109 | .k=>107 | .c=>99 | .t=>116
theorem vK {k:Nat} (h:k<5):aM (dk.getD k [])=true:=by
 match k,h with
 | 0,_=>rfl
 | 1,_=>rfl
 | 2,_=>rfl
 | 3,_=>rfl
 | 4,_=>rfl
def aq8 (c:dj) (s:Sg) (on tx:List Bs):Prop:=(s=.h->on ≠ [])/\(s=.t->tx ≠ [])/\(s=.c->c.kind<5)/\(s=.L->c.label.length<=16)/\(s=.o->c.op=19)/\(s=.n->c.op≠19)
theorem xq {c:dj} {s:Sg} {ws on tx:List Bs} (h:aq8 c s on tx):∃w on' tx',br c (FT s) ws on tx=(ws ++ [w],on',tx')/\o8 c s on tx=if aM w then some (w,on',tx') else none:=by
 obtain⟨h1,h2,h3,h4,h5,h6⟩:=h;cases s with
 | L=>
  refine⟨c.label,on,tx,rfl,?_⟩;have:=h4 rfl;show (if aM c.label=true/\c.label.length<=16 then some (c.label,on,tx) else none)=_;cases aM c.label with
  | true=>rw[if_pos ⟨rfl,this⟩];rfl
  | false=>rw[if_neg (by simp)];rfl
 | h=> obtain⟨w,on',rfl⟩:=List.exists_cons_of_ne_nil (h1 rfl);exact⟨w,on',tx,rfl,rfl⟩
 | t=> obtain⟨w,tx',rfl⟩:=List.exists_cons_of_ne_nil (h2 rfl);refine⟨de w,on,tx',rfl,?_⟩;show (gH w).map _=_;rw[kI];cases aM (de w) <;> rfl
 | c=> have hk:=h3 rfl;refine⟨dk.getD c.kind [],on,tx,rfl,?_⟩;show (if c.kind<=4 then some (dk.getD c.kind [],on,tx) else none)=_;rw[if_pos (by omega),vK hk];rfl
 | o=>
  have ho:=h5 rfl;refine⟨if c.op=19/\c.n=-1 then [110,111,110,101] else cr c.n,on,tx,rfl,?_⟩;show (if c.n = -1 then some (str "none", on, tx) else (ij c.n).map fun w=> (w, on, tx)) = _
  by_cases q:c.n=-1
  ·rw[show (if c.op=19/\c.n=-1 then ([110,111,110,101]:Bs) else cr c.n)=[110,111,110,101] from if_pos ⟨ho,q⟩,if_pos q];rfl
  ·rw[show (if c.op=19/\c.n=-1 then ([110,111,110,101]:Bs) else cr c.n)=cr c.n from if_neg (λh=>q h.2),if_neg q,fj];cases aM (cr c.n) <;> rfl
 | n=> have ho:=h6 rfl;refine⟨if c.op=19/\c.n=-1 then [110,111,110,101] else cr c.n,on,tx,rfl,?_⟩;show ((ij c.n).map λw=>(w,on,tx))=_;rw[show (if c.op=19/\c.n=-1 then ([110,111,110,101]:Bs) else cr c.n)=cr c.n from if_neg (λh=>ho h.1),fj];cases aM (cr c.n) <;> rfl
 | m=> refine⟨cr c.m,on,tx,rfl,?_⟩;show ((ij c.m).map λw=>(w,on,tx))=_;rw[fj];cases aM (cr c.m) <;> rfl
 | k=> refine⟨cr c.k,on,tx,rfl,?_⟩;show ((ij c.k).map λw=>(w,on,tx))=_;rw[fj];cases aM (cr c.k) <;> rfl
structure pw (c:dj) (g:List Sg) (on tx:List Bs):Prop where
 hs:g.count .h<=on.length
 ts:g.count .t<=tx.length
 ks:.c∈g->c.kind<5
 ls:.L∈g->c.label.length<=16
 os:.o∈g->c.op=19
 ns:.n∈g->c.op≠19
theorem pw.now {c:dj} {s:Sg} {g:List Sg} {on tx:List Bs} (h:pw c (s :: g) on tx):aq8 c s on tx:=by
 obtain⟨h1,h2,h3,h4,h5,h6⟩:=h;refine⟨λe q=>?_,λe q=>?_,λe=>h3 (e ▸ List.mem_cons_self ..),λe=>h4 (e ▸ List.mem_cons_self ..),λe=>h5 (e ▸ List.mem_cons_self ..),λe=>h6 (e ▸ List.mem_cons_self ..)⟩
 ·subst e q;rw[List.count_cons_self] at h1;simp at h1
 ·subst e q;rw[List.count_cons_self] at h2;simp at h2
theorem pw.step {c:dj} {s:Sg} {g:List Sg} {ws on tx:List Bs} (h:pw c (s :: g) on tx):pw c g (br c (FT s) ws on tx).2.1 (br c (FT s) ws on tx).2.2:=by obtain⟨h1,h2,h3,h4,h5,h6⟩:=h;have m:∀x:Sg,x∈g->x∈s :: g:=λx hx=>List.mem_cons_of_mem _ hx;rw[List.count_cons] at h1 h2;cases s <;> refine⟨?_,?_,λe=>h3 (m _ e),λe=>h4 (m _ e),λe=>h5 (m _ e),λe=>h6 (m _ e)⟩ <;> simp[br,FT] at h1 h2 ⊢ <;> omega
theorem mX {c:dj}:∀(g:List Sg) (ws on tx:List Bs),pw c g on tx->∃ws' on' tx',fI c (g.map FT) (ws,on,tx)=(ws++ws',on',tx')/\eB c g on tx=(if ws'.all aM then some (ws',on',tx') else none)/\tx'.length+g.count .t=tx.length
 | [],ws,on,tx,h=>⟨[],on,tx,by simp[fI],rfl,by simp⟩
 | s :: g,ws,on,tx,h=>by
  obtain⟨w,on1,tx1,e1,e2⟩:=xq (ws:=ws) h.now;have hs:=h.step (ws:=ws);have htx:tx1.length+(if s=.t then 1 else 0)=tx.length:=by
   have hh:=h.now.2.1;cases s <;> simp[br,FT] at e1 <;> obtain⟨_,_,rfl⟩:=e1 <;> simp
   have:=hh rfl;cases tx with
   | nil=>exact absurd rfl this
   | cons a b=>simp
  rw[e1] at hs;obtain⟨ws',on',tx',e3,e4,e5⟩:=mX g (ws ++ [w]) on1 tx1 hs;refine⟨w :: ws',on',tx',?_,?_,?_⟩
  ·rw[List.map_cons];show fI c (g.map FT) (br c (FT s) ws on tx)=_;rw[e1,e3];simp
  ·unfold eB;rw[e2,List.all_cons];cases aM w with
   | false=>rfl
   | true=> simp only[if_true,Bool.true_and];rw[e4];cases ws'.all aM <;> rfl
  ·rw[List.count_cons];have:(if (s==Sg.t)=true then 1 else 0)=(if s=.t then 1 else 0):=by cases s <;> rfl
   rw[this];omega
end Go.Ev
namespace Go.Ev
open Go F
def fz0:Form:=⟨[],[],false⟩
def my (i:Nat):Bs:=(bR.getD i ([],[])).2
def fZ (i:Nat):Form:=BN.getD i fz0
def D9 (i:Nat):Bool:=Lib.hasSuffix (my i) [43]&&(fZ i).more&&decide (my i=(fZ i).rest.dropLast.map FT ++ [43])&&decide ((fZ i).rest=(fZ i).rest.dropLast ++ [.t])&&beq ((fZ i).rest.dropLast.count .t) 0&&beq ((fZ i).rest.count .t) 1
def FB (i:Nat):Bool:=!Lib.hasSuffix (my i) [43]&&Lib.hasSuffix (my i) [42]&&(fZ i).more&&decide (my i=[42])&&decide ((fZ i).rest=[])
def wM (i:Nat):Bool:=!Lib.hasSuffix (my i) [43] && !Lib.hasSuffix (my i) [42] && !(fZ i).more&&decide (my i=(fZ i).rest.map FT)&&beq ((fZ i).rest.count .t) ((my i).count 116)
def uf (i:Nat):Bool:=decide ((bR.getD i ([],[])).1=(fZ i).word)&&aM (fZ i).word&&(D9 i||FB i||wM i)&&(fZ i).rest.all (λs=>(decide (s ≠ .o)||beq i 19)&&(decide (s ≠ .n)||!beq i 19)) &&
 beq ((fZ i).rest.count .h) ((my i).count 104)&&(((fZ i).rest.contains .n||(fZ i).rest.contains .o)==(my i).contains 110)&&((fZ i).rest.contains .m==(my i).contains 109)&&((fZ i).rest.contains .k==(my i).contains 107)&&((fZ i).rest.contains .c==(my i).contains 99)&&((fZ i).rest.contains .L==(my i).contains 76)
theorem Ar:(List.range 41).all uf=true:=by decide
theorem uT (a:Bool) (b:Bool):(a==b)=true->a=b:=by cases a <;> cases b <;> simp
theorem Aw (c:dj) (r:Bs):dv c r=(decide (c.on.length≠r.count 104)||decide (c.texts.length≠fK r c.texts.length)||(decide (c.n≠0) && !r.contains 110)||(decide (c.m≠0) && !r.contains 109)||(decide (c.k≠0) && !r.contains 107)||(decide (c.kind≠0) && !r.contains 99)||(decide (c.label ≠ []) && !r.contains 76)):=by
 unfold dv;by_cases h1:c.on.length≠r.count 104
 ·rw[if_pos h1];simp[h1]
 rw[if_neg h1];by_cases h2:c.texts.length≠fK r c.texts.length
 ·rw[if_pos h2];simp[h2]
 rw[if_neg h2];have go:∀(p:Prop) [Decidable p] (b:Bool) (x:Bool),(if p/\b=false then true else x)=((decide p && !b)||x):=λp _ b x=>by by_cases hp:p <;> cases b <;> simp[hp]
 rw[go,go,go,go,go];have e1:decide (c.on.length≠r.count 104)=false:=decide_eq_false h1;have e2:decide (c.texts.length≠fK r c.texts.length)=false:=decide_eq_false h2;rw[e1,e2];simp only[Bool.false_or,Bool.or_false,Bool.or_assoc]
theorem Dm {c:dj} {i:Nat} (hf:uf i=true):dv c (my i)=gL c (fZ i):=by
 unfold uf at hf;simp only[Bool.and_eq_true] at hf;obtain⟨⟨⟨⟨⟨⟨⟨⟨⟨_,_⟩,hk⟩,_⟩,f1⟩,f2⟩,f3⟩,f4⟩,f5⟩,f6⟩:=hf;have f1:=Nat.eq_of_beq_eq_true f1;rw[Aw];unfold gL;rw[uT _ _ f2,uT _ _ f3,uT _ _ f4,uT _ _ f5,uT _ _ f6,f1];have e1:decide (c.on.length≠(my i).count 104)=!beq c.on.length ((my i).count 104):=by
  by_cases q:c.on.length=(my i).count 104
  ·rw[fU q];simp[q]
  ·rw[dH q];simp[q]
 have e2:decide (c.texts.length≠fK (my i) c.texts.length)=((!ble ((fZ i).rest.count .t) c.texts.length)||(!(fZ i).more && !ble c.texts.length ((fZ i).rest.count .t))):=by
  unfold fK;simp only[Bool.or_eq_true] at hk;rcases hk with (hk | hk) | hk
  ·unfold D9 at hk;simp only[Bool.and_eq_true] at hk;obtain⟨⟨⟨⟨⟨k1,k2⟩,_⟩,_⟩,_⟩,k3⟩:=hk;rw[if_pos k1,k2,Nat.eq_of_beq_eq_true k3];by_cases q:1<=c.texts.length
   ·rw[aJ q];simp;omega
   ·rw[cz (show c.texts.length<1 by omega)];simp;omega
  ·unfold FB at hk;simp only[Bool.and_eq_true,Bool.not_eq_true',decide_eq_true_eq] at hk;obtain⟨⟨⟨⟨k1,k2⟩,k3⟩,_⟩,k4⟩:=hk;rw[if_neg (by rw[k1];simp),if_pos k2,k3,k4];simp
  ·unfold wM at hk;simp only[Bool.and_eq_true,Bool.not_eq_true'] at hk;obtain⟨⟨⟨⟨k1,k2⟩,k3⟩,_⟩,k4⟩:=hk;rw[if_neg (by rw[k1];simp),if_neg (by rw[k2];simp),k3,Nat.eq_of_beq_eq_true k4];by_cases q:c.texts.length=(my i).count 116
   ·rw[q,aJ (Nat.le_refl _)];simp
   ·rcases Nat.lt_or_gt_of_ne q with h | h
    ·rw[cz h];simp[q]
    ·rw[cz h];simp[q]
 have e3:decide (c.label ≠ [])=!c.label.isEmpty:=by cases c.label <;> simp
 rw[e1,e2,e3];simp only[Bool.or_assoc]
theorem uW {c:dj}:∀(g:List Sg) (on tx:List Bs),eB c (g ++ [.t]) on tx=match eB c g on tx with
  | none=>none
  | some (ws,on',tx')=>match tx' with
   | []=>none
   | s :: tx''=>(gH s).map λw=>(ws ++ [w],on',tx'')
 | [],on,[]=>rfl
 | [],on,s :: tx=>by show (match o8 c .t on (s :: tx) with | none=>none | some (w,on',tx')=>_)=_;show (match (gH s).map λw=>(w,on,tx) with | none=>none | some (w,on',tx')=>match eB c [] on' tx' with | none=>none | some (ws,on'',tx'')=>some (w :: ws,on'',tx''))=(gH s).map λw=>([] ++ [w],on,tx);cases gH s <;> rfl
 | a :: g,on,tx=>by
  rw[List.cons_append];unfold eB;cases hp:o8 c a on tx with
  | none=>rfl
  | some x=>
   obtain⟨w,on',tx'⟩:=x;simp only;rw[uW g on' tx'];cases hq:eB c g on' tx' with
   | none=>rfl
   | some y=>
    obtain⟨ws,on2,tx2⟩:=y;cases tx2 with
    | nil=>rfl
    | cons s tx3=> simp only;cases gH s <;> rfl
theorem nF {c:dj}:∀(a b:Bs) (st:List Bs × List Bs × List Bs),fI c (a++b) st=fI c b (fI c a st)
 | [],_,_=>rfl
 | r :: a,b,st=>nF a b _
theorem oc (a b:List Bs):(a++b).all aM=(a.all aM&&b.all aM):=List.all_append ..
theorem lg {c:dj} {s:Sg} (hb:∀on tx,o8 c s on tx=none):∀(g:List Sg) (on tx:List Bs),s∈g->eB c g on tx=none
 | a :: g,on,tx,hm=>by
  unfold eB;rcases List.mem_cons.1 hm with rfl | hm
  ·rw[hb]
  ·cases o8 c a on tx with
   | none=>rfl
   | some x=> obtain⟨w,on',tx'⟩:=x;simp only;rw[lg hb g on' tx' hm]
theorem qQ {c:dj} {f:Form} (h:gL c f=false):c.on.length=f.rest.count .h/\f.rest.count .t<=c.texts.length/\(f.more=false->c.texts.length<=f.rest.count .t)/\(c.kind≠0->.c∈f.rest)/\(c.label ≠ []->.L∈f.rest):=by
 unfold gL at h;simp only[Bool.or_eq_false_iff] at h;obtain⟨⟨⟨⟨⟨⟨⟨h1,h2⟩,h3⟩,_⟩,_⟩,_⟩,h4⟩,h5⟩:=h;refine⟨Nat.eq_of_beq_eq_true (by simpa using h1),Nat.le_of_ble_eq_true (by simpa using h2),λe=>Nat.le_of_ble_eq_true (by rw[e] at h3;simpa using h3),λe=>?_,λe=>?_⟩
 ·rw[decide_eq_true e] at h4;simpa using h4
 ·have:c.label.isEmpty=false:=by cases hl:c.label with | nil=>exact absurd hl e | cons _ _=>rfl
  rw[this] at h5;simpa using h5
theorem yE (c:dj):(if (dE c).2 then some (dE c).1 else none)=qW c:=by
 unfold qW wW;by_cases hop:c.op<=40
 ·have hf:uf c.op=true:=List.all_eq_true.1 Ar c.op (List.mem_range.2 (by omega));have hsp:=Dm (c:=c) hf;rw[if_pos hop]
  show _=(if gL c (fZ c.op)=true then none else match eB c (fZ c.op).rest c.on c.texts with
   | none=>none
   | some (ws,_,tx)=>match gM tx with
    | none=>none
    | some ts=>some ((fZ c.op).word :: (ws++ts))).map λws=>dh ws ++ [10]
  unfold dE;show (if (if 41<=c.op \/ 5<=c.kind then ([],false) else if dv c (my c.op)=true \/ 16<c.label.length then ([],false) else (dh (fI c (my c.op) ([(bR.getD c.op ([],[])).1],c.on,c.texts)).1 ++ [10],(fI c (my c.op) ([(bR.getD c.op ([],[])).1],c.on,c.texts)).1.all aM):Bs × Bool).2=true then some (if 41<=c.op \/ 5<=c.kind then ([],false) else if dv c (my c.op)=true \/ 16<c.label.length then ([],false) else (dh (fI c (my c.op) ([(bR.getD c.op ([],[])).1],c.on,c.texts)).1 ++ [10],(fI c (my c.op) ([(bR.getD c.op ([],[])).1],c.on,c.texts)).1.all aM):Bs × Bool).1 else none)=_;rw[hsp];generalize hfo:fZ c.op=f at *;cases hs:gL c f with
  | true=>
   rw[if_pos (show true=true from rfl)];by_cases q:41<=c.op \/ 5<=c.kind
   ·rw[if_pos q];rfl
   ·rw[if_neg q,if_pos (Or.inl rfl)];rfl
  | false=>
   obtain⟨s1,s2,s3,s4,s5⟩:=qQ hs;rw[if_neg (show ¬ (false=true) by decide)];by_cases q:41<=c.op \/ 5<=c.kind
   ·rw[if_pos q,lg (s:=.c) (λon tx=>if_neg (by omega)) _ _ _ (s4 (by omega))];rfl
   ·rw[if_neg q];by_cases q2:16<c.label.length
    ·rw[if_pos (show false=true \/ 16<c.label.length from Or.inr q2),lg (s:=.L) (λon tx=>if_neg (by omega)) _ _ _ (s5 (by intro e;rw[e] at q2;exact absurd q2 (by decide)))];rfl
    ·rw[if_neg (show ¬ (false=true \/ 16<c.label.length) from λh=>h.elim (λe=>nomatch e) q2)];unfold uf at hf;rw[hfo] at hf;simp only[Bool.and_eq_true] at hf;obtain⟨⟨⟨⟨⟨⟨⟨⟨⟨hw0,hw⟩,hk⟩,hall⟩,f1⟩,f2⟩,f3⟩,f4⟩,f5⟩,f6⟩:=hf;have hw0:=of_decide_eq_true hw0;rw[hw0];have hos:∀s∈f.rest,(s=.o->c.op=19)/\(s=.n->c.op≠19):=λs hs=>by
      have:=List.all_eq_true.1 hall s hs;simp only[Bool.and_eq_true,Bool.or_eq_true,decide_eq_true_eq,Bool.not_eq_true'] at this;refine⟨λe=>?_,λe=>?_⟩
      ·rcases this.1 with h | h
       ·exact absurd e h
       ·exact Nat.eq_of_beq_eq_true h
      ·rcases this.2 with h | h
       ·exact absurd e h
       ·intro e2;rw[e2] at h;exact nomatch h
     have hOk:pw c f.rest c.on c.texts:=⟨by omega,s2,λ_=>by omega,λ_=>by omega,λh=>(hos _ h).1 rfl,λh=>(hos _ h).2 rfl⟩;simp only[Bool.or_eq_true] at hk;rcases hk with (hk | hk) | hk
     ·unfold D9 at hk;rw[hfo] at hk;simp only[Bool.and_eq_true,decide_eq_true_eq] at hk;obtain⟨⟨⟨⟨⟨k1,k2⟩,k3⟩,k4⟩,k5⟩,k6⟩:=hk;have k5:=Nat.eq_of_beq_eq_true k5;have k6:=Nat.eq_of_beq_eq_true k6;have hm:∀x,x∈f.rest.dropLast->x∈f.rest:=λx hx=>by rw[k4];exact List.mem_append_left _ hx
      have hc:f.rest.dropLast.count .h<=c.on.length:=by have:=hOk.hs;rw[k4,List.count_append] at this;omega
      obtain⟨ws',on',tx',e1,e2,e3⟩:=mX (c:=c) f.rest.dropLast [f.word] c.on c.texts ⟨hc,by omega,λh=>hOk.ks (hm _ h),λh=>hOk.ls (hm _ h),λh=>hOk.os (hm _ h),λh=>hOk.ns (hm _ h)⟩;rw[k3,nF,e1,k4,uW,e2];have:fI c [43] ([f.word]++ws',on',tx')=(([f.word]++ws')++tx'.map de,on',tx'):=rfl;rw[this];cases tx' with
      | nil=>simp at e3;omega
      | cons s tx''=>
       have ea:(([f.word]++ws')++(s :: tx'').map de).all aM=(ws'.all aM&&(aM (de s)&&(tx''.map de).all aM)):=by rw[oc,oc,List.map_cons,show ([f.word]:List Bs).all aM=true by rw[List.all_cons,hw];rfl,Bool.true_and,List.all_cons]
       simp only[ea];cases ws'.all aM with
       | false=>rfl
       | true=>
        simp only[if_true,Bool.true_and];rw[kI];cases aM (de s) with
        | false=>rfl
        | true=>
         simp only[if_true,Bool.true_and,Option.map_some];rw[jY];cases (tx''.map de).all aM with
         | false=>rfl
         | true=>simp
     ·unfold FB at hk;rw[hfo] at hk;simp only[Bool.and_eq_true,Bool.not_eq_true',decide_eq_true_eq] at hk;obtain⟨⟨⟨⟨k1,k2⟩,k3⟩,k4⟩,k5⟩:=hk;rw[k4,k5];have:fI c [42] ([f.word],c.on,c.texts)=([f.word]++c.texts.map de,c.on,c.texts):=rfl;rw[this];have ea:([f.word]++c.texts.map de).all aM=(c.texts.map de).all aM:=by rw[oc,show ([f.word]:List Bs).all aM=true by rw[List.all_cons,hw];rfl,Bool.true_and]
      simp only[ea];unfold eB;simp only;rw[jY];cases (c.texts.map de).all aM with
      | false=>rfl
      | true=>simp
     ·unfold wM at hk;rw[hfo] at hk;simp only[Bool.and_eq_true,Bool.not_eq_true',decide_eq_true_eq] at hk;obtain⟨⟨⟨⟨k1,k2⟩,k3⟩,k4⟩,k5⟩:=hk;obtain⟨ws',on',tx',e1,e2,e3⟩:=mX (c:=c) f.rest [f.word] c.on c.texts hOk;rw[k4,e1,e2];have:tx'=[]:=by
       have:=s3 k3;cases tx' with
       | nil=>rfl
       | cons _ _=>simp at e3;omega
      subst this;have ea:([f.word]++ws').all aM=ws'.all aM:=by rw[oc,show ([f.word]:List Bs).all aM=true by rw[List.all_cons,hw];rfl,Bool.true_and]
      simp only[ea];cases ws'.all aM with
      | false=>rfl
      | true=>simp[gM]
 ·rw[if_neg hop];have:dE c=([],false):=if_pos (Or.inl (by omega));rw[this];rfl
theorem yr:∀l:List dj,nA l=kD l
 | []=>rfl
 | c :: l=>by unfold nA kD;rw[<-yE,yr l];cases (dE c).2 <;> cases kD l <;> rfl
theorem lV (n:Int):cr n=[] ↔ ij n=none:=by
 unfold cr ij;by_cases q:0<=n/\n<=4294967296
 ·rw[if_pos q,if_pos q];simp[Dr]
 ·rw[if_neg q,if_neg q];simp
theorem Fs (cap keeps:Int) (l:List dj):iV cap keeps l=match wk cap keeps l with | .ok s=>(s,0) | .error e=>([],e):=by
 unfold iV wk;by_cases q:1000<l.length
 ·rw[if_pos q,if_pos q]
 rw[if_neg q,if_neg q];by_cases q1:cr cap=[] \/ cr keeps=[]
 ·rw[if_pos q1];rcases q1 with q1 | q1
  ·rw[(lV _).1 q1]
  ·rw[(lV _).1 q1];cases ij cap <;> rfl
 ·rw[if_neg q1];have a1:ij cap=some (cr cap):=by
   have:cr cap ≠ []:=λe=>q1 (.inl e);rw[fj];cases hw:aM (cr cap) with
   | true=>rfl
   | false=>have:=(lV cap).2 (by rw[fj,hw];rfl);contradiction
  have a2:ij keeps=some (cr keeps):=by
   have:cr keeps ≠ []:=λe=>q1 (.inr e);rw[fj];cases hw:aM (cr keeps) with
   | true=>rfl
   | false=>have:=(lV keeps).2 (by rw[fj,hw];rfl);contradiction
  rw[a1,a2,yr];cases kD l with
  | none=>rfl
  | some r=>
   have e : dh [str "arena", cr cap, cr keeps] ++ [10]++r = [97, 114, 101, 110, 97, 32]++cr cap ++ [32]++cr keeps ++ [10]++r:= by
    show (str "arena"++32 :: (cr cap++32 :: cr keeps)) ++ [10]++r = _
    have : str "arena" = [97, 114, 101, 110, 97]:= by decide
    rw[this];simp
   simp only[e];by_cases q2:65536<([97,114,101,110,97,32]++cr cap ++ [32]++cr keeps ++ [10]++r).length
   ·rw[if_pos q2,if_pos q2]
   ·rw[if_neg q2,if_neg q2]
end Go.Ev
namespace Go.Ev
open Go F Go.Proofs
def p18 (E:Env) (rc:RC) (a0:Value) (h:H) (k:Value->H->R):R:=rc 26 [a0] h λa b=>binR (binC E .add 9 true false) (.string ⟨⟨[32]⟩⟩) a λc=>binR (binC E .geq 3 false true) a0 (.int .i64 (.ofNat 0)) λd=>ab (λe f=>ab (λg i=>onB d (ifB (nT [c,.bool false]) (k (.tuple ⟨[c,.bool false]⟩) i)) (ifB (nT [c,g]) (k (.tuple ⟨[c,g]⟩) i))) λg=>aF d (g undef f) (binR (binC E .leq 3 false true) e (.int .i64 (.ofNat 4294967296)) λi=>g i f) (g undef f)) λe=>aF d (e undef b) (e a0 b) (e undef b)
theorem aeq (t:ak) (rc:RC) (a0:Value) (h:H) (k:Value->H->R):(aD (EX t) KK 18).run rc [a0] h k=p18 (EX t) rc a0 h k:=by kernel_rfl
def p40 (E:Env) (rc:RC) (a0:Value) (h:H) (k:Value->H->R):R:=binR (binC E .eql 9 false true) a0 (.string (ByteArray.mk #[])) λa=>@joinR [2,3] (λ_ b=>binR (binC E .add 9 true false) (.string ⟨⟨[32]⟩⟩) a0 λc=>binR (binC E .neq 9 false true) a0 (.string ⟨⟨[46]⟩⟩) λd=>ab (λe f=>ab (λg i=>onB d (ifB (nT [c,.bool false]) (k (.tuple ⟨[c,.bool false]⟩) i)) (ifB (nT [c,g]) (k (.tuple ⟨[c,g]⟩) i))) λg=>aF d (g undef f) (rc 64 [e] f g) (g undef f)) λe=>aF d (e undef b) (e a0 b) (e undef b)) λb=>onB a (b (.string (ByteArray.mk #[]),(.bool false,())) h) (k (.tuple ⟨[.string ⟨⟨[32,46]⟩⟩,.bool true]⟩) h)
theorem ajr (t:ak) (rc:RC) (a0:Value) (h:H) (k:Value->H->R):(aD (EX t) KK 40).run rc [a0] h k=p40 (EX t) rc a0 h k:=by kernel_rfl
def sO (E:Env) (a0:Value) (k:Value->H->R) (a:aa [2]->H->R):(aa [2,3]->H->R)->aa [2,3]->H->R:=λb c d=>bindO (aZ E d 9 a0) λe=>binR (binC E .lss 3 false false) c.2.1 e λf=>@joinR [] (λ_ g=>@joinR [2] (λh i=>binR (binC E .add 3 false true) c.2.1 (.int .i64 (.ofNat 1)) λj=>b (h.1,(j,())) i) λh=>bindO (cQ E 9 a0 c.2.1) λi=>binR (binC E .eql 5 false true) i (.int .u8 (.ofNat 32)) λj=>ab (λl m=>ab (λn o=>ab (λp q=>ab (λr s=>onB j (@joinR [2] (λt u=>h (t.1,()) u) λt=>onB r (t (c.1,()) s) (k (.bool false) s)) (@joinR [2] (λt u=>h (t.1,()) u) λ_=>k (.bool false) s)) λr=>aF j (binR (binC E .eql 5 false true) p (.int .u8 (.ofNat 10)) λs=>r s q) (r undef q) (r undef q)) λp=>aF j (bindO (cQ E 9 l n) λq=>p q o) (p undef o) (p undef o)) λn=>aF j (n c.2.1 m) (n undef m) (n undef m)) λl=>aF j (l a0 g) (l undef g) (l undef g)) λg=>onB f (a (c.1,()) d) (g () d)
def p64 (E:Env) (rc:RC) (a0:Value) (h:H) (k:Value->H->R):R:=@joinR [2] (λ_ a=>binR (binC E .neq 9 false true) a0 (.string (ByteArray.mk #[])) λb=>k b a) λa=>@loopF [2,3] (sO E a0 k a) cK (.bool false,(.int .i64 (.ofNat 0),())) h
theorem WY (t:ak) (rc:RC) (a0:Value) (h:H) (k:Value->H->R):(aD (EX t) KK 64).run rc [a0] h k=p64 (EX t) rc a0 h k:=by kernel_rfl
def tH (E:Env) (a0 a1:Value) (a:aa [5]->H->R):(aa [5,6]->H->R)->aa [5,6]->H->R:=λb c d=>bindO (aZ E d 9 a0) λe=>binR (binC E .lss 3 false false) c.2.1 e λf=>@joinR [] (λ_ g=>@joinR [5] (λh i=>binR (binC E .add 3 false true) c.2.1 (.int .i64 (.ofNat 1)) λj=>b (h.1,(j,())) i) λh=>bindO (cQ E 9 a0 c.2.1) λi=>binR (binC E .eql 5 false false) i a1 λj=>@joinR [5] (λl m=>h (l.1,()) m) λl=>onB j (l (c.1,()) g) (binR (binC E .add 3 false true) c.1 (.int .i64 (.ofNat 1)) λm=>l (m,()) g)) λg=>onB f (a (c.1,()) d) (g () d)
def p37 (E:Env) (rc:RC) (a0:Value) (a1:Value) (h:H) (k:Value->H->R):R:=@joinR [5] (λa b=>k a.1 b) λa=>@loopF [5,6] (tH E a0 a1 a) cK (.int .i64 (.ofNat 0),(.int .i64 (.ofNat 0),())) h
theorem Y2 (t:ak) (rc:RC) (a0:Value) (a1:Value) (h:H) (k:Value->H->R):(aD (EX t) KK 37).run rc [a0,a1] h k=p37 (EX t) rc a0 a1 h k:=by kernel_rfl
def p38 (E:Env) (rc:RC) (a0:Value) (a1:Value) (a2:Value) (h:H) (k:Value->H->R):R:=rc 37 [a0,a1] h λa b=>rc 37 [a0,a2] b λc d=>binR (binC E .add 3 false false) a c λe=>binR (binC E .gtr 3 false true) e (.int .i64 (.ofNat 0)) λf=>k f d
theorem ait (t:ak) (rc:RC) (a0:Value) (a1:Value) (a2:Value) (h:H) (k:Value->H->R):(aD (EX t) KK 38).run rc [a0,a1,a2] h k=p38 (EX t) rc a0 a1 a2 h k:=by kernel_rfl
def uQ (a:Value) (k:Value->H->R) (b:H):R:=onTup a λc=>nthF 0 c λd=>onTup a λe=>nthF 1 e λf=>ifB (nT [d,f]) (k (.tuple ⟨[d,f]⟩) b)
def yM (a h:H) (rc:RC) (k:Value->H->R):R:=onRow (hget a h.1) λ_ b _ _ _ c=>ifB (ble 5 b) (rc 18 [getF c 4] a λd e=>uQ d k e)
def p39 (E:Env) (rc:RC) (a0:Value) (a1:Value) (a2:Value) (a3:Value) (h:H) (k:Value->H->R):R:=onCells a0 λa=>ifB (allF (λb=>cell1F b) a) (ifB (ble h.1 1000000000) (letH (ae h (.row 54 (lenF a) false false 0 (T.ofList unk a))) λb=>@joinR [8,9] (λ_ c=>onRow (hget c h.1) λ_ d _ _ _ e=>ifB (ble 7 d) (rc 18 [getF e 6] c λf g=>uQ f k g)) λc=>binR (binC E .eql 5 false true) a1 (.int .u8 (.ofNat 76)) λd=>@joinR [8,9] (λe f=>c (e.1,(e.2.1,())) f) λe=>onB d (binR (binC E .eql 5 false true) a1 (.int .u8 (.ofNat 104)) λf=>@joinR [8,9] (λg i=>e (g.1,(g.2.1,())) i) λg=>onB f (binR (binC E .eql 5 false true) a1 (.int .u8 (.ofNat 116)) λi=>@joinR [8,9] (λj l=>g (j.1,(j.2.1,())) l) λj=>onB i (binR (binC E .eql 5 false true) a1 (.int .u8 (.ofNat 107)) λl=>@joinR [8,9] (λm n=>j (m.1,(m.2.1,())) n) λm=>onB l (binR (binC E .eql 5 false true) a1 (.int .u8 (.ofNat 79)) λn=>@joinR [8,9] (λo p=>m (o.1,(o.2.1,())) p) λo=>onB n (binR (binC E .eql 5 false true) a1 (.int .u8 (.ofNat 78)) λp=>@joinR [8,9] (λq r=>o (q.1,(q.2.1,())) r) λq=>onB p (binR (binC E .eql 5 false true) a1 (.int .u8 (.ofNat 77)) λr=>@joinR [8,9] (λs t=>q (s.1,(s.2.1,())) t) λs=>onB r (s (.string (ByteArray.mk #[]),(.bool false,())) b) (onRow (hget b h.1) λ_ t _ _ _ u=>ifB (ble 6 t) (rc 18 [getF u 5] b λv w=>uQ v k w))) (yM b h rc k)) (onRow (hget b h.1) λ_ p _ _ _ q=>ifB (ble 5 p) (binR (binC E .eql 3 false true) (getF q 4) (.int .i64 (.negSucc 0)) λr=>@joinR [8,9] (λ_ s=>yM s h rc k) λs=>onB r (s (.string (ByteArray.mk #[]),(.bool false,())) b) (k (.tuple ⟨[.string ⟨⟨[32,110,111,110,101]⟩⟩,.bool true]⟩) b)))) (ifB (ble b.1 1000000000) (letH (H.mk (Nat.add b.1 1) b.2) λn=>letH (hset n b.1 (.row 9 7 false false 0 (T.ofList unk (lay (lay (lay (lay (lay (lay (lay (List.flatten (List.replicate 7 (cellsOfV (.string (ByteArray.mk #[]))))) 0 (cellsOfV (.string ⟨⟨[110,111,116,101]⟩⟩))) 1 (cellsOfV (.string ⟨⟨[97,108,108,111,99]⟩⟩))) 2 (cellsOfV (.string ⟨⟨[97,103,97,105,110]⟩⟩))) 3 (cellsOfV (.string ⟨⟨[107,105,108,108]⟩⟩))) 4 (cellsOfV (.string ⟨⟨[100,101,115,116,114,111,121]⟩⟩))) 5 (cellsOfV (.string (ByteArray.mk #[])))) 6 (cellsOfV (.string (ByteArray.mk #[]))))))) λo=>onRow (hget o h.1) λ_ p _ _ _ q=>ifB (ble 8 p) (joinL (λr=>bindO (bg E o Builtin.min [r,.int .i64 (.ofNat 5)] [3,3]) λs=>onNat s none λt=>ifB (ble (Nat.succ t) 7) (addOffF (Addr.mk b.1 0 none) (Nat.mul t 1) λu=>onPtr u λv=>onRow (hget o v.1) λ_ w _ _ _ x=>ifB (ble (Nat.succ v.2) w) (binR (binC E .add 9 true false) (.string ⟨⟨[32]⟩⟩) (getF x v.2) λy=>onRow (hget o h.1) λ_ z _ _ _ a4=>ifB (ble 8 z) (binR (binC E .leq 5 false true) (getF a4 7) (.int .u8 (.ofNat 4)) λa5=>ifB (nT [y,a5]) (k (.tuple ⟨[y,a5]⟩) o))))) λr=>onNat (getF q 7) (bindO (aQ E o 5 3 (getF q 7)) r) λs=>@Bool.rec (λ_=>R) (bindO (aQ E o 5 3 (getF q 7)) r) (r (.int .i64 (.ofNat s))) (ble s 9223372036854775807))))) (onRow (hget b h.1) λ_ l _ _ _ m=>ifB (ble 9 l) (onNat a3 none λn=>onSl (getF m 8) none λo p _=>ifB (ble (Nat.succ n) p) (addOffF o (Nat.mul n 1) λq=>onPtr q λr=>onRow (hget b r.1) λ_ s _ _ _ t=>ifB (ble (Nat.succ r.2) s) (rc 40 [getF t r.2] b λu v=>uQ u k v))))) (ifB (ble b.1 1000000000) (letH (H.mk b.1 b.2) λi=>onRow (hget i h.1) λ_ j _ _ _ l=>ifB (ble 4 j) (onNat a2 none λm=>onSl (getF l 3) none λn o _=>ifB (ble (Nat.succ m) o) (addOffF n (Nat.mul m 1) λp=>onPtr p λq=>onRow (hget i q.1) λ_ r _ _ _ s=>ifB (ble (Nat.succ q.2) r) (binR (binC E .add 9 true false) (.string ⟨⟨[32]⟩⟩) (getF s q.2) λt=>onRow (hget i h.1) λ_ u _ _ _ v=>ifB (ble 4 u) (onNat a2 none λw=>onSl (getF v 3) none λx y _=>ifB (ble (Nat.succ w) y) (addOffF x (Nat.mul w 1) λz=>onPtr z λa4=>onRow (hget i a4.1) λ_ a5 _ _ _ a6=>ifB (ble (Nat.succ a4.2) a5) (rc 64 [getF a6 a4.2] i λa7 a8=>ifB (ai (.pointer (some (Addr.mk h.1 3 none))) (.pointer (some (Addr.mk h.1 3 none)))) (onRow (hget a8 h.1) λ_ a9 _ _ _ b0=>ifB (ble 4 a9) (ifB (ai (getF b0 3) (getF l 3)) (ifB (ai a2 a2) (onNat a2 none λb1=>onSl (getF l 3) none λb2 b3 _=>ifB (ble (Nat.succ b1) b3) (addOffF b2 (Nat.mul b1 1) λb4=>ifB (ai b4 p) (onPtr p λb5=>onRow (hget a8 b5.1) λ_ b6 _ _ _ b7=>ifB (ble (Nat.succ b5.2) b6) (ifB (ai (getF b7 b5.2) (getF s q.2)) (binR (binC E .add 9 true false) (.string ⟨⟨[32]⟩⟩) (getF s q.2) λb8=>ifB (ai b8 t) (ifB (nT [t,a7]) (k (.tuple ⟨[t,a7]⟩) a8))))))))))))))))))) (ifB (ble b.1 1000000000) (letH (H.mk b.1 b.2) λf=>onRow (hget f h.1) λ_ g _ _ _ i=>ifB (ble 3 g) (binR (binC E .add 9 true false) (.string ⟨⟨[32]⟩⟩) (getF i 2) λj=>onRow (hget f h.1) λ_ l _ _ _ m=>ifB (ble 3 l) (rc 64 [getF m 2] f λn o=>ifB (ai (.pointer (some (Addr.mk h.1 2 none))) (.pointer (some (Addr.mk h.1 2 none)))) (onRow (hget o h.1) λ_ p _ _ _ q=>ifB (ble 3 p) (ifB (ai (getF q 2) (getF i 2)) (binR (binC E .add 9 true false) (.string ⟨⟨[32]⟩⟩) (getF i 2) λr=>ifB (ai r j) (joinL (λs=>joinL (λt=>joinL (λu=>joinL (λv=>onB n (ifB (nT [j,.bool false]) (k (.tuple ⟨[j,.bool false]⟩) o)) (ifB (nT [j,v]) (k (.tuple ⟨[j,v]⟩) o))) λv=>aF n (v undef) (binR (binC E .leq 3 false true) u (.int .i64 (.ofNat 16)) v) (v undef)) λu=>aF n (u undef) (bindO (aZ E o 9 t) u) (u undef)) λt=>aF n (t undef) (onPtr s λu=>onRow (hget o u.1) λ_ v _ _ _ w=>ifB (ble (Nat.succ u.2) v) (t (getF w u.2))) (t undef)) λs=>aF n (s undef) (s (.pointer (some (Addr.mk h.1 2 none)))) (s undef)))))))))))
theorem afm (t:ak) (rc:RC) (a0:Value) (a1:Value) (a2:Value) (a3:Value) (h:H) (k:Value->H->R):(aD (EX t) KK 39).run rc [a0,a1,a2,a3] h k=p39 (EX t) rc a0 a1 a2 a3 h k:=by kernel_rfl
def akG (E:Env) (a:aa [6,7,12,43]) (b:Value) (c:aa [6,7,12]->H->R) (d:aa [6,7]) (e:H):R:=binR (binC E .add 9 false false) a.2.2.1 b λf=>c (d.1,(d.2.1,(f,()))) e
def An (E:Env) (a a2:Value) (rc:RC) (k:Value->H->R) (b:aa [6,7,12]->H->R):(aa [6,7,12,43]->H->R)->aa [6,7,12,43]->H->R:=λc d e=>binR (binC E .lss 3 false false) d.2.2.2.1 a λf=>@joinR [] (λ_ g=>@joinR [6,7,12] (λh i=>binR (binC E .add 3 false true) d.2.2.2.1 (.int .i64 (.ofNat 1)) λj=>c (h.1,(h.2.1,(h.2.2.1,(j,())))) i) λh=>onNat d.2.2.2.1 none λi=>onSl a2 none λj l _=>ifB (ble (Nat.succ i) l) (addOffF j (Nat.mul i 9) λm=>onPtr m λn=>onRow (hget g n.1) λ_ o _ _ _ p=>ifB (ble (Nat.add n.2 9) o) (ifB (ble g.1 1000000000) (letH (ae g (.row 54 9 false false 0 (T.ofList unk lu))) λq=>onRow (hget q g.1) λr s t u v w=>ifB (notB u) (ifB (beq (lenF (ac p 9 n.2)) 9) (ifB (ble v 0) (ifB (ble 9 s) (ifB (ble s 1000000000) (ifB (allF (λx=>cell1F x) (ac p 9 n.2)) (letH (hset q g.1 (.row r s t false v (putF w 0 (ac p 9 n.2)))) λx=>onRow (hget x g.1) λ_ y _ _ _ z=>ifB (ble 9 y) (rc 19 [.agg ⟨ac z 9 0⟩] x λa0 a1=>onTup a0 λa3=>nthF 0 a3 λa4=>onTup a0 λa5=>nthF 1 a5 λa6=>onB a6 (@joinR [6,7] (λa7 a8=>akG E d a4 h a7 a8) λ_=>k (.tuple ⟨[.string (ByteArray.mk #[]),.int .i64 (.ofNat 14)]⟩) a1) (@joinR [6,7] (λa7 a8=>akG E d a4 h a7 a8) λa7=>a7 (d.1,(d.2.1,())) a1)))))))))))) λg=>onB f (b (d.1,(d.2.1,(d.2.2.1,()))) e) (g () e)
def aaZ (E:Env) (a b:Value) (k:Value->H->R) (a2:Value) (rc:RC) (c:aa [6,7]) (d:H):R:=binR (binC E .add 9 true false) (.string ⟨⟨[97,114,101,110,97]⟩⟩) a λe=>binR (binC E .add 9 false false) e b λf=>binR (binC E .add 9 false true) f (.string ⟨⟨[10]⟩⟩) λg=>joinL (λh=>@joinR [6,7,12] (λi j=>bindO (aZ E j 9 i.2.2.1) λl=>binR (binC E .gtr 3 false true) l (.int .i64 (.ofNat 65536)) λm=>@joinR [6,7] (λ_ n=>ifB (nT [i.2.2.1,.int .i64 (.ofNat 0)]) (k (.tuple ⟨[i.2.2.1,.int .i64 (.ofNat 0)]⟩) n)) λn=>onB m (n (i.1,(i.2.1,())) j) (k (.tuple ⟨[.string (ByteArray.mk #[]),.int .i64 (.ofNat 16)]⟩) j)) λi=>@loopF [6,7,12,43] (An E h a2 rc k i) cK (c.1,(c.2.1,(g,(.int .i64 (.ofNat 0),())))) d) λh=>onSl a2 (bindO (aZ E d 30 a2) h) λ_ i _=>h (.int .i64 (.ofNat i))
def p8 (E:Env) (rc:RC) (a0:Value) (a1:Value) (a2:Value) (h:H) (k:Value->H->R):R:=joinL (λa=>binR (binC E .gtr 3 false true) a (.int .i64 (.ofNat 1000)) λb=>@joinR [6,7] (λc d=>rc 18 [a0] d λe f=>onTup e λg=>nthF 0 g λi=>onTup e λj=>nthF 1 j λl=>rc 18 [a1] f λm n=>onTup m λo=>nthF 0 o λp=>onTup m λq=>nthF 1 q λr=>onB l (ab (λ_ s=>ab (λ_ t=>@joinR [6,7] (λu v=>aaZ E i p k a2 rc u v) λ_=>k (.tuple ⟨[.string (ByteArray.mk #[]),.int .i64 (.ofNat 14)]⟩) t) λt=>t undef s) λs=>s undef n) (ab (λs t=>ab (λu v=>@joinR [6,7] (λw x=>aaZ E i p k a2 rc w x) λw=>onB u (w (c.1,(c.2.1,())) v) (k (.tuple ⟨[.string (ByteArray.mk #[]),.int .i64 (.ofNat 14)]⟩) v)) λu=>onB s (u (.bool true) t) (u (.bool false) t)) λs=>s r n)) λc=>onB b (c (.string (ByteArray.mk #[]),(.int .i64 (.ofNat 0),())) h) (k (.tuple ⟨[.string (ByteArray.mk #[]),.int .i64 (.ofNat 15)]⟩) h)) λa=>onSl a2 (bindO (aZ E h 30 a2) a) λ_ b _=>a (.int .i64 (.ofNat b))
theorem avr (t:ak) (rc:RC) (a0:Value) (a1:Value) (a2:Value) (h:H) (k:Value->H->R):(aD (EX t) KK 8).run rc [a0,a1,a2] h k=p8 (EX t) rc a0 a1 a2 h k:=by kernel_rfl
def EJ (E:Env) (a:aa [2,3,7,9]) (b:Value) (c:aa [2,3,7,9]->H->R) (d:aa [2,3]) (e:H):R:=binR (binC E .add 9 false false) a.2.2.1 b λf=>binR (binC E .add 3 false true) a.2.2.2.1 (.int .i64 (.ofNat 1)) λg=>c (d.1,(d.2.1,(f,(g,())))) e
def qY (h:H) (E:Env) (rc:RC) (k:Value->H->R) (a:aa [2,3,7]->H->R):(aa [2,3,7,9]->H->R)->aa [2,3,7,9]->H->R:=λb c d=>onRow (hget d h.1) λ_ e _ _ _ f=>ifB (ble 9 e) (joinL (λg=>binR (binC E .lss 3 false false) c.2.2.2.1 g λi=>@joinR [] (λ_ j=>@joinR [2,3,7,9] (λl m=>b (l.1,(l.2.1,(l.2.2.1,(l.2.2.2.1,())))) m) λl=>onRow (hget j h.1) λ_ m _ _ _ n=>ifB (ble 9 m) (onNat c.2.2.2.1 none λo=>onSl (getF n 8) none λp q _=>ifB (ble (Nat.succ o) q) (addOffF p (Nat.mul o 1) λr=>onPtr r λs=>onRow (hget j s.1) λ_ t _ _ _ u=>ifB (ble (Nat.succ s.2) t) (rc 40 [getF u s.2] j λv w=>onTup v λx=>nthF 0 x λy=>onTup v λz=>nthF 1 z λa0=>onB a0 (@joinR [2,3] (λa1 a2=>EJ E c y l a1 a2) λ_=>k (.tuple ⟨[.string (ByteArray.mk #[]),.bool false]⟩) w) (@joinR [2,3] (λa1 a2=>EJ E c y l a1 a2) λa1=>a1 (c.1,(c.2.1,())) w))))) λj=>onB i (a (c.1,(c.2.1,(c.2.2.1,()))) d) (j () d)) λg=>onSl (getF f 8) (bindO (aZ E d 37 (getF f 8)) g) λ_ i _=>g (.int .i64 (.ofNat i)))
def D1 (E:Env) (a:aa [2,3,7,8,9,10]) (b:Value) (c:aa [5]) (d:aa [2,3,7,8,9]->H->R) (e:aa [2,3]) (f:H):R:=binR (binC E .add 9 false false) a.2.2.1 b λg=>bindO (cQ E 9 c.1 a.2.2.2.2.2.1) λh=>binR (binC E .eql 5 false true) h (.int .u8 (.ofNat 104)) λi=>@joinR [8] (λj l=>bindO (cQ E 9 c.1 a.2.2.2.2.2.1) λm=>binR (binC E .eql 5 false true) m (.int .u8 (.ofNat 116)) λn=>@joinR [9] (λo p=>d (e.1,(e.2.1,(g,(j.1,(o.1,()))))) p) λo=>onB n (o (a.2.2.2.2.1,()) l) (binR (binC E .add 3 false true) a.2.2.2.2.1 (.int .i64 (.ofNat 1)) λp=>o (p,()) l)) λj=>onB i (j (a.2.2.2.1,()) f) (binR (binC E .add 3 false true) a.2.2.2.1 (.int .i64 (.ofNat 1)) λl=>j (l,()) f)
def qC (E:Env) (a:aa [5]) (h:H) (rc:RC) (k:Value->H->R) (b:aa [2,3,7,9]->H->R):(aa [2,3,7,8,9,10]->H->R)->aa [2,3,7,8,9,10]->H->R:=λc d e=>bindO (aZ E e 9 a.1) λf=>binR (binC E .lss 3 false false) d.2.2.2.2.2.1 f λg=>@joinR [] (λ_ i=>@joinR [2,3,7,8,9] (λj l=>binR (binC E .add 3 false true) d.2.2.2.2.2.1 (.int .i64 (.ofNat 1)) λm=>c (j.1,(j.2.1,(j.2.2.1,(j.2.2.2.1,(j.2.2.2.2.1,(m,())))))) l) λj=>ifB (ble i.1 1000000000) (letH (H.mk i.1 i.2) λl=>onRow (hget l h.1) λ_ m _ _ _ n=>ifB (ble 9 m) (bindO (cQ E 9 a.1 d.2.2.2.2.2.1) λo=>rc 39 [.agg ⟨ac n 9 0⟩,o,d.2.2.2.1,d.2.2.2.2.1] l λp q=>onTup p λr=>nthF 0 r λs=>onTup p λt=>nthF 1 t λu=>onB u (@joinR [2,3] (λv w=>D1 E d s a j v w) λ_=>k (.tuple ⟨[.string (ByteArray.mk #[]),.bool false]⟩) q) (@joinR [2,3] (λv w=>D1 E d s a j v w) λv=>v (d.1,(d.2.1,())) q)))) λi=>onB g (b (d.1,(d.2.1,(d.2.2.1,(d.2.2.2.2.1,())))) e) (i () e)
def tV (a b:H) (E:Env) (k:Value->H->R) (h:H) (rc:RC) (c:aa [5]) (d:aa [2,3]):R:=onRow (hget a b.1) λ_ e _ _ _ f=>ifB (ble 1 e) (@joinR [2,3,7,9] (λg i=>@joinR [2,3,7] (λj l=>binR (binC E .add 9 false true) j.2.2.1 (.string ⟨⟨[10]⟩⟩) λm=>ifB (nT [m,.bool true]) (k (.tuple ⟨[m,.bool true]⟩) l)) λj=>@loopF [2,3,7,9] (qY h E rc k j) cK (g.1,(g.2.1,(g.2.2.1,(g.2.2.2.1,())))) i) λg=>@loopF [2,3,7,8,9,10] (qC E c h rc k g) cK (d.1,(d.2.1,(getF f 0,(.int .i64 (.ofNat 0),(.int .i64 (.ofNat 0),(.int .i64 (.ofNat 0),())))))) a)
def oB (a:Value) (b:aa [2,3]->H->R) (c:aa [2,3]) (d:H) (k:Value->H->R):R:=onB a (b (c.1,(c.2.1,())) d) (k (.tuple ⟨[.string (ByteArray.mk #[]),.bool false]⟩) d)
def Ej (a:H) (E:Env) (k:Value->H->R) (h:H) (rc:RC) (b:aa [5]) (c:H):R:=@joinR [2,3] (λd e=>tV e a E k h rc b d) λ_=>k (.tuple ⟨[.string (ByteArray.mk #[]),.bool false]⟩) c
def gZ (a:Value) (b:Value->H->R) (c:H) (d:Value):R:=aF a (b undef c) (onB d (b (.bool true) c) (b (.bool false) c)) (b undef c)
def uh (a:Value) (b:Value->H->R) (c:H) (rc:RC) (d:Value):R:=aF a (b undef c) (rc 38 [d,.int .u8 (.ofNat 76),.int .u8 (.ofNat 76)] c b) (b undef c)
def pn (a b:Value) (c:H) (d:Value->H->R):R:=aF a (onPtr b λe=>onRow (hget c e.1) λ_ f _ _ _ g=>ifB (ble (Nat.succ e.2) f) (d (getF g e.2) c)) (d undef c) (d undef c)
def sw (a:H) (E:Env) (k:Value->H->R) (h:H) (rc:RC) (b:aa [5]) (c:H):R:=ab (λ_ d=>ab (λ_ e=>ab (λ_ f=>ab (λg i=>ab (λj l=>ab (λm n=>ab (λ_ o=>ab (λ_ p=>Ej a E k h rc b p) λp=>p undef o) λo=>gZ g o n m) λm=>uh g m l rc j) λj=>aF g (j undef i) (j b.1 i) (j undef i)) λg=>g undef f) λf=>f undef e) λe=>e undef d) λd=>d undef c
def oD (a:Value) (b:Value->H->R) (c:H) (rc:RC) (d:Value):R:=aF a (b undef c) (rc 38 [d,.int .u8 (.ofNat 107),.int .u8 (.ofNat 107)] c b) (b undef c)
def sf (a:H) (E:Env) (k:Value->H->R) (h:H) (rc:RC) (b:aa [5]) (c:H):R:=ab (λ_ d=>ab (λ_ e=>ab (λ_ f=>ab (λg i=>ab (λj l=>ab (λm n=>ab (λ_ o=>ab (λ_ p=>sw a E k h rc b p) λp=>p undef o) λo=>gZ g o n m) λm=>oD g m l rc j) λj=>aF g (j undef i) (j b.1 i) (j undef i)) λg=>g undef f) λf=>f undef e) λe=>e undef d) λd=>d undef c
def ou (a:Value) (b:Value->H->R) (c:H) (rc:RC) (d:Value):R:=aF a (b undef c) (rc 38 [d,.int .u8 (.ofNat 75),.int .u8 (.ofNat 75)] c b) (b undef c)
def oQ (a:Value) (E:Env) (b:Value) (c:Value->H->R) (d:H):R:=aF a (binR (binC E .neq 3 false true) b (.int .i64 (.ofNat 0)) λe=>c e d) (c undef d) (c undef d)
def mG (a:Value) (b:H) (E:Env) (k:Value->H->R) (h:H) (rc:RC) (c:aa [5]) (d:aa [2,3]) (e:H):R:=ab (λf g=>ab (λi j=>ab (λl m=>ab (λn o=>ab (λp q=>ab (λr s=>ab (λt u=>ab (λv w=>onB a (ab (λx y=>ab (λz a0=>ab (λa1 a2=>ab (λa3 a4=>ab (λa5 a6=>ab (λa7 a8=>ab (λa9 b0=>ab (λb1 b2=>onB v (ab (λb3 b4=>ab (λb5 b6=>ab (λb7 b8=>ab (λb9 c0=>ab (λc1 c2=>ab (λc3 c4=>ab (λc5 c6=>ab (λc7 c8=>onB b1 (@joinR [2,3] (λc9 d0=>tV d0 b E k h rc c c9) λc9=>oB c7 c9 d c8 k) (Ej b E k h rc c c8)) λc7=>aF b1 (onB b9 (c7 (.bool false) c6) (c7 c5 c6)) (c7 undef c6) (c7 undef c6)) λc5=>gZ b9 c5 c4 c3) λc3=>uh b9 c3 c2 rc c1) λc1=>aF b9 (c1 undef c0) (c1 c.1 c0) (c1 undef c0)) λb9=>aF b1 (b9 b7 b8) (b9 undef b8) (b9 undef b8)) λb7=>aF b1 (binR (binC E .neq 9 false true) b5 (.string (ByteArray.mk #[])) λb8=>b7 b8 b6) (b7 undef b6) (b7 undef b6)) λb5=>pn b1 b3 b4 b5) λb3=>aF b1 (b3 (.pointer (some (Addr.mk h.1 2 none))) b2) (b3 undef b2) (b3 undef b2)) (sw b E k h rc c b2)) λb1=>aF v (onB a3 (b1 (.bool false) b0) (b1 a9 b0)) (b1 undef b0) (b1 undef b0)) λa9=>gZ a3 a9 a8 a7) λa7=>oD a3 a7 a6 rc a5) λa5=>aF a3 (a5 undef a4) (a5 c.1 a4) (a5 undef a4)) λa3=>aF v (a3 a1 a2) (a3 undef a2) (a3 undef a2)) λa1=>aF v (binR (binC E .neq 5 false true) z (.int .u8 (.ofNat 0)) λa2=>a1 a2 a0) (a1 undef a0) (a1 undef a0)) λz=>pn v x y z) λx=>aF v (x (.pointer (some (Addr.mk h.1 7 none))) w) (x undef w) (x undef w)) (sf b E k h rc c w)) λv=>aF a (onB n (v (.bool false) u) (v t u)) (v undef u) (v undef u)) λt=>gZ n t s r) λr=>ou n r q rc p) λp=>aF n (p undef o) (p c.1 o) (p undef o)) λn=>aF a (n l m) (n undef m) (n undef m)) λl=>oQ a E i l j) λi=>pn a f g i) λf=>aF a (f (.pointer (some (Addr.mk h.1 6 none))) e) (f undef e) (f undef e)
def sG (a:Value) (b:Value->H->R) (c:H) (rc:RC) (d:Value):R:=aF a (b undef c) (rc 38 [d,.int .u8 (.ofNat 77),.int .u8 (.ofNat 77)] c b) (b undef c)
def oX (a h:H) (E:Env) (b:H) (k:Value->H->R) (rc:RC) (c:aa [5]) (d:aa [2,3]):R:=onRow (hget a h.1) λ_ e _ _ _ f=>ifB (ble 5 e) (binR (binC E .neq 3 false true) (getF f 4) (.int .i64 (.ofNat 0)) λg=>ab (λi j=>ab (λl m=>ab (λn o=>onB g (ab (λp q=>ab (λr s=>ab (λt u=>ab (λv w=>ab (λx y=>ab (λz a0=>ab (λa1 a2=>ab (λa3 a4=>mG a3 b E k h rc c d a4) λa3=>onB v (a3 (.bool false) a2) (a3 a1 a2)) λa1=>gZ v a1 a0 z) λz=>sG v z y rc x) λx=>aF v (x undef w) (x c.1 w) (x undef w)) λv=>v t u) λt=>binR (binC E .neq 3 false true) r (.int .i64 (.ofNat 0)) λu=>t u s) λr=>onPtr p λs=>onRow (hget q s.1) λ_ t _ _ _ u=>ifB (ble (Nat.succ s.2) t) (r (getF u s.2) q)) λp=>p (.pointer (some (Addr.mk h.1 5 none))) o) (ab (λp q=>ab (λr s=>ab (λt u=>ab (λv w=>ab (λx y=>ab (λz a0=>ab (λa1 a2=>ab (λa3 a4=>onB n (mG a3 b E k h rc c d a4) (ab (λ_ a5=>ab (λ_ a6=>ab (λ_ a7=>ab (λa8 a9=>ab (λb0 b1=>ab (λb2 b3=>ab (λ_ b4=>ab (λ_ b5=>sf b E k h rc c b5) λb5=>b5 undef b4) λb4=>gZ a8 b4 b3 b2) λb2=>ou a8 b2 b1 rc b0) λb0=>aF a8 (b0 undef a9) (b0 c.1 a9) (b0 undef a9)) λa8=>a8 undef a7) λa7=>a7 undef a6) λa6=>a6 undef a5) λa5=>a5 undef a4)) λa3=>aF n (onB v (a3 (.bool false) a2) (a3 a1 a2)) (a3 undef a2) (a3 undef a2)) λa1=>gZ v a1 a0 z) λz=>sG v z y rc x) λx=>aF v (x undef w) (x c.1 w) (x undef w)) λv=>aF n (v t u) (v undef u) (v undef u)) λt=>oQ n E r t s) λr=>pn n p q r) λp=>aF n (p (.pointer (some (Addr.mk h.1 5 none))) o) (p undef o) (p undef o))) λn=>gZ g n m l) λl=>aF g (l undef j) (rc 38 [i,.int .u8 (.ofNat 78),.int .u8 (.ofNat 79)] j l) (l undef j)) λi=>aF g (i undef a) (i c.1 a) (i undef a))
def xN (h:H) (E:Env) (a:H) (k:Value->H->R) (rc:RC) (b:aa [5]) (c:H):R:=@joinR [2,3] (λd e=>oX e h E a k rc b d) λ_=>k (.tuple ⟨[.string (ByteArray.mk #[]),.bool false]⟩) c
def pg (a:Value) (h:H) (E:Env) (b:H) (k:Value->H->R) (rc:RC) (c:aa [5]) (d:aa [2,3]) (e:H) (f g:Value):R:=joinL (λi=>joinL (λj=>onB a (@joinR [2,3] (λl m=>oX m h E b k rc c l) λl=>oB j l d e k) (xN h E b k rc c e)) λj=>aF a (onB f (j (.bool false)) (j i)) (j undef) (j undef)) λi=>aF f (i undef) (onB g (i (.bool true)) (i (.bool false))) (i undef)
def jS (a:Value) (b:Value->R) (c:Value) (E:Env) (d:H):R:=aF a (joinL b λe=>onSl c (bindO (aZ E d 37 c) e) λ_ f _=>e (.int .i64 (.ofNat f))) (b undef) (b undef)
def jO (a b:Value) (c:H) (d:Value->R):R:=aF a (onPtr b λe=>onRow (hget c e.1) λ_ f _ _ _ g=>ifB (ble (Nat.succ e.2) f) (d (getF g e.2))) (d undef) (d undef)
def mI (a:Value) (rc:RC) (b:Value) (c:H) (d:Value->H->R):R:=aF a (rc 37 [b,.int .u8 (.ofNat 116)] c d) (d undef c) (d undef c)
def pL (h:H) (E:Env) (a:H) (k:Value->H->R) (rc:RC) (b:aa [5]) (c:H) (d e:Value):R:=joinL (λ_=>joinL (λ_=>xN h E a k rc b c) λf=>f undef) λf=>aF d (f undef) (onB e (f (.bool true)) (f (.bool false))) (f undef)
def Bw (h:H) (E:Env) (g:H) (k:Value->H->R) (rc:RC) (f:aa [2,3]) (mv:Value) (c2:aa [5]) (c3:H):R:=ifB (ble c3.1 1000000000) (letH (H.mk c3.1 c3.2) λc4=>onRow (hget c4 h.1) λ_ c5 _ _ _ c6=>ifB (ble 4 c5) (joinL (λc7=>rc 37 [c2.1,.int .u8 (.ofNat 104)] c4 λc8 c9=>ifB (ai (.pointer (some (Addr.mk h.1 3 none))) (.pointer (some (Addr.mk h.1 3 none)))) (onRow (hget c9 h.1) λ_ d0 _ _ _ d1=>ifB (ble 4 d0) (ifB (ai (getF d1 3) (getF c6 3)) (joinL (λd2=>ifB (ai d2 c7) (binR (binC E .neq 3 false false) c7 c8 λd3=>joinL (λd4=>joinL (λd5=>joinL (λd6=>joinL (λd7=>ab (λd8 d9=>joinL (λe0=>ifB (ai e0 d4) (joinL (λe1=>ifB (ai e1 d5) (joinL (λe2=>ifB (ai e2 d6) (joinL (λe3=>onB d3 (joinL (λe4=>joinL (λe5=>joinL (λe6=>joinL (λe7=>ab (λe8 e9=>joinL (λf0=>ifB (ai f0 e4) (joinL (λf1=>ifB (ai f1 e5) (joinL (λf2=>ifB (ai f2 e6) (joinL (λf3=>joinL (λf4=>joinL (λf5=>pg e3 h E g k rc c2 f e9 f4 f5) λf5=>aF f4 (f5 undef) (f5 mv) (f5 undef)) λf4=>aF e3 (f4 f3) (f4 undef) (f4 undef)) λf3=>aF e3 (binR (binC E .gtr 3 false false) e6 e8 f3) (f3 undef) (f3 undef))) λf2=>jS e3 f2 e5 E e9)) λf1=>jO e3 e4 e9 f1)) λf0=>aF e3 (f0 (.pointer (some (Addr.mk h.1 8 none)))) (f0 undef) (f0 undef)) λe8=>mI e3 rc e7 d9 e8) λe7=>aF e3 (e7 c2.1) (e7 undef) (e7 undef)) λe6=>jS e3 e6 e5 E d9) λe5=>jO e3 e4 d9 e5) λe4=>aF e3 (e4 (.pointer (some (Addr.mk h.1 8 none)))) (e4 undef) (e4 undef)) (joinL (λe4=>joinL (λe5=>joinL (λe6=>joinL (λ_=>ab (λ_ e7=>joinL (λe8=>ifB (ai e8 e4) (joinL (λe9=>ifB (ai e9 e5) (joinL (λf0=>ifB (ai f0 e6) (joinL (λ_=>joinL (λf1=>joinL (λf2=>pL h E g k rc c2 e7 f1 f2) λf2=>aF f1 (f2 undef) (f2 mv) (f2 undef)) λf1=>f1 undef) λf1=>f1 undef)) λf0=>f0 undef)) λe9=>e9 undef)) λe8=>e8 undef) λe7=>e7 undef d9) λe7=>e7 undef) λe6=>e6 undef) λe5=>e5 undef) λe4=>e4 undef)) λe3=>aF d3 (binR (binC E .lss 3 false false) d6 d8 e3) (e3 undef) (e3 undef))) λe2=>jS d3 e2 d5 E d9)) λe1=>jO d3 d4 d9 e1)) λe0=>aF d3 (e0 (.pointer (some (Addr.mk h.1 8 none)))) (e0 undef) (e0 undef)) λd8=>mI d3 rc d7 c9 d8) λd7=>aF d3 (d7 c2.1) (d7 undef) (d7 undef)) λd6=>jS d3 d6 d5 E c9) λd5=>jO d3 d4 c9 d5) λd4=>aF d3 (d4 (.pointer (some (Addr.mk h.1 8 none)))) (d4 undef) (d4 undef))) λd2=>onSl (getF c6 3) (bindO (aZ E c9 37 (getF c6 3)) d2) λ_ d3 _=>d2 (.int .i64 (.ofNat d3)))))) λc7=>onSl (getF c6 3) (bindO (aZ E c4 37 (getF c6 3)) c7) λ_ c8 _=>c7 (.int .i64 (.ofNat c8))))
def p19 (E:Env) (rc:RC) (a0:Value) (h:H) (k:Value->H->R):R:=onCells a0 λa=>ifB (allF (λb=>cell1F b) a) (ifB (ble h.1 1000000000) (letH (ae h (.row 54 (lenF a) false false 0 (T.ofList unk a))) λb=>onRow (hget b h.1) λ_ c _ _ _ d=>ifB (ble 2 c) (binR (binC E .gtr 5 false true) (getF d 1) (.int .u8 (.ofNat 40)) λe=>@joinR [2,3] (λf g=>ifB (ble g.1 1000000000) (letH (H.mk (Nat.add g.1 1) g.2) λi=>onRow (hget i h.1) λ_ j _ _ _ l=>ifB (ble 2 j) (letH (hset i g.1 (.row 77 2 false false 0 (T.ofList unk [.string (ByteArray.mk #[]),.string (ByteArray.mk #[])]))) λm=>rc 36 [] m λn o=>ifB (ai (.pointer (some (Addr.mk h.1 1 none))) (.pointer (some (Addr.mk h.1 1 none)))) (onRow (hget o h.1) λ_ p _ _ _ q=>ifB (ble 2 p) (ifB (ai (getF q 1) (getF l 1)) (onNat (getF l 1) none λr=>onSl n none λs t _=>ifB (ble (Nat.succ r) t) (addOffF s (Nat.mul r 2) λu=>onPtr u λv=>onRow (hget o v.1) λ_ w _ _ _ x=>ifB (ble (Nat.add v.2 2) w) (onRow (hget o g.1) λy z a1 a2 a3 a4=>ifB (notB a2) (ifB (beq (lenF (ac x 2 v.2)) 2) (ifB (ble a3 0) (ifB (ble 2 z) (ifB (ble z 1000000000) (ifB (allF (λa5=>cell1F a5) (ac x 2 v.2)) (letH (hset o g.1 (.row y z a1 false a3 (putF a4 0 (ac x 2 v.2)))) λa5=>onRow (hget a5 g.1) λ_ a6 _ _ _ a7=>ifB (ble 2 a6) (bindO (aZ E a5 9 (getF a7 1)) λa8=>binR (binC E .gtr 3 false true) a8 (.int .i64 (.ofNat 0)) λa9=>ab (λb0 b1=>ab (λb2 b3=>ab (λb4 b5=>ab (λb6 b7=>ab (λb8 b9=>ab (λc0 c1=>onB a9 (@joinR [5] (λc2 c3=>Bw h E g k rc f (.bool false) c2 c3) λc2=>c2 (getF a7 1,()) c1) (@joinR [5] (λc2 c3=>Bw h E g k rc f c0 c2 c3) λc2=>onB c0 (c2 (getF a7 1,()) c1) (bindO (aZ E c1 9 (getF a7 1)) λc3=>binR (binC E .sub 3 false true) c3 (.int .i64 (.ofNat 1)) λc4=>bindO (cI E 9 (getF a7 1) none (some c4) none) λc5=>c2 (c5,()) c1))) λc0=>aF a9 (c0 undef b9) (binR (binC E .eql 5 false true) b8 (.int .u8 (.ofNat 43)) λc1=>c0 c1 b9) (c0 undef b9)) λb8=>aF a9 (b8 undef b7) (bindO (cQ E 9 b0 b6) λb9=>b8 b9 b7) (b8 undef b7)) λb6=>aF a9 (b6 undef b5) (binR (binC E .sub 3 false true) b4 (.int .i64 (.ofNat 1)) λb7=>b6 b7 b5) (b6 undef b5)) λb4=>aF a9 (b4 undef b3) (bindO (aZ E b3 9 b2) λb5=>b4 b5 b3) (b4 undef b3)) λb2=>aF a9 (b2 undef b1) (b2 (getF a7 1) b1) (b2 undef b1)) λb0=>aF a9 (b0 undef a5) (b0 (getF a7 1) a5) (b0 undef a5)))))))))))))))) λf=>onB e (f (.string (ByteArray.mk #[]),(.bool false,())) b) (k (.tuple ⟨[.string (ByteArray.mk #[]),.bool false]⟩) b))))
theorem aco (t:ak) (rc:RC) (a0:Value) (h:H) (k:Value->H->R):(aD (EX t) KK 19).run rc [a0] h k=p19 (EX t) rc a0 h k:=by kernel_rfl
end Go.Ev
