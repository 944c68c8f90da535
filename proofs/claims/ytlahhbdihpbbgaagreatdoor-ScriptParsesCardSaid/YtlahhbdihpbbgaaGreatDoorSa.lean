import Derived.Lib.FieldsP
import Derived.Lib.MapLaws
import Derived.Lib.Split
import Derived.Lib.SplitLaws
import Derived.Lib.Replace
noncomputable section
set_option linter.unusedVariables false
set_option linter.unusedSimpArgs false
open Nat (ble beq)
namespace Go.Ev
open Go
abbrev Bs:=List UInt8
def cK (acc:Bs):Bs->List Bs
 | []=>if acc=[] then [] else [acc]
 | b :: s=>if b=32 then (if acc=[] then cK [] s else acc :: cK [] s) else cK (acc ++ [b]) s
def bd (s:Bs):List Bs:=cK [] s
theorem lJ:∀(x acc y:Bs),(∀b∈x,b≠32)->cK acc (x++y)=cK (acc++x) y
 | [],acc,y,_=>by simp
 | b :: x,acc,y,h=>by rw[List.cons_append,cK,if_neg (h b (List.mem_cons_self ..)),lJ x _ y λc hc=>h c (List.mem_cons_of_mem _ hc)];simp
def lS (r:Nat):Bool:=beq r 32
theorem oW {r:Nat} (h:r≠32):lS r=false:=by
 unfold lS;cases e:beq r 32 with
 | false=>rfl
 | true=>exact absurd (Nat.eq_of_beq_eq_true e) h
theorem zx (s:ByteArray) (pos:Nat) (h:pos<s.size):
  (s.data.toList[pos]?=some 32/\Utf8.decode s pos=(32,1)) \/
  (lS (Utf8.decode s pos).1=false/\1<=(Utf8.decode s pos).2/\pos+(Utf8.decode s pos).2<=s.size/\∀b∈(s.data.toList.drop pos).take (Utf8.decode s pos).2,b≠32):=by
 have hn:s.data.toList.length=s.size:=rfl;rw[Lib.decode_N s pos];have hg:∀j,pos+j<s.size->s.data.toList[pos+j]?=some (s.data.toList.getD (pos+j) 0):=λj hj=>by rw[List.getD_eq_getElem?_getD,List.getElem?_eq_getElem (by omega)];rfl
 have g0:=hg 0 (by omega);rw[Nat.add_zero] at g0;have hmem:∀(k:Nat) (b:UInt8),b∈(s.data.toList.drop pos).take k->∃j,j<k/\pos+j<s.size/\b=s.data.toList.getD (pos+j) 0:=by intro k b hb;obtain⟨j,hj⟩:=List.mem_iff_getElem?.1 hb;have hl:=(List.getElem?_eq_some_iff.1 hj).1;rw[List.length_take,List.length_drop] at hl;rw[List.getElem?_take_of_lt (by omega),List.getElem?_drop,hg j (by omega)] at hj;exact⟨j,by omega,by omega,(Option.some.inj hj).symm⟩
 have h32:∀b:UInt8,b.toNat≠32->b≠32:=λb h e=>h (by rw[e];rfl);rcases Lib.decodeN_shape (s.data.toList.length-pos) (s.data.toList.getD pos 0).toNat (s.data.toList.getD (pos+1) 0).toNat (s.data.toList.getD (pos+2) 0).toNat (s.data.toList.getD (pos+3) 0).toNat with ⟨c,e⟩ | ⟨c,c1,c2,cv,e⟩ | ⟨c,c1,c2,c3,cv,_,e⟩ | ⟨c,c1,c2,c3,c4,cv,_,e⟩ | e
 ·rw[e];by_cases q:(s.data.toList.getD pos 0).toNat=32
  ·left;refine⟨?_,by rw[q]⟩;rw[g0]
   congr 1
   exact UInt8.toNat_inj.1 q
  ·right;refine⟨oW q,Nat.le_refl _,by show pos+1<=_;omega,λb hb=>?_⟩;obtain⟨j,hj,_,rfl⟩:=hmem 1 b hb;have:j=0:=by omega
   subst this;exact h32 _ q
 ·right;rw[e];refine⟨oW (by simp only;omega),by simp only;omega,by simp only;omega,λb hb=>?_⟩;obtain⟨j,hj,_,rfl⟩:=hmem 2 b hb;refine h32 _ ?_
  match j,hj with
  | 0,_=>rw[Nat.add_zero];omega
  | 1,_=>omega
 ·right;rw[e];refine⟨oW (by simp only;omega),by simp only;omega,by simp only;omega,λb hb=>?_⟩;obtain⟨j,hj,_,rfl⟩:=hmem 3 b hb;refine h32 _ ?_
  match j,hj with
  | 0,_=>rw[Nat.add_zero];omega
  | 1,_=>omega
  | 2,_=>omega
 ·right;rw[e];refine⟨oW (by simp only;omega),by simp only;omega,by simp only;omega,λb hb=>?_⟩;obtain⟨j,hj,_,rfl⟩:=hmem 4 b hb;refine h32 _ ?_
  match j,hj with
  | 0,_=>rw[Nat.add_zero];omega
  | 1,_=>omega
  | 2,_=>omega
  | 3,_=>omega
 ·
  by_cases q:(s.data.toList.getD pos 0).toNat<128
  ·rw[Lib.decodeN_ascii _ _ _ _ _ q] at e;have:=congrArg Prod.fst e;simp only at this;omega
  ·right;rw[e];refine⟨rfl,Nat.le_refl _,by show pos+1<=_;omega,λb hb=>?_⟩;obtain⟨j,hj,_,rfl⟩:=hmem 1 b hb;have:j=0:=by omega
   subst this;exact h32 _ (by rw[Nat.add_zero];omega)
def L9 (L:Bs) (st:Option Nat) (pos:Nat):Bs:=match st with | some a=>(L.drop a).take (pos-a) | none=>[]
def pcs (L:Bs) (l:List (Nat × Nat)):List Bs:=l.map λx=>(L.drop x.1).take (x.2-x.1)
theorem eF (s:ByteArray):∀(f pos:Nat) (st:Option Nat) (acc:List (Nat × Nat)),s.size<=pos+f->pos<=s.size->(∀a,st=some a->a<pos) ->
  pcs s.data.toList (Lib.closeSpans s (Lib.spansFromP lS s f pos st acc))=pcs s.data.toList acc++cK (L9 s.data.toList st pos) (s.data.toList.drop pos)
 | 0,pos,st,acc,hf,hp,hst=>by
  have hn:s.data.toList.length=s.size:=rfl;obtain rfl:pos=s.size:=by omega
  rw[Lib.spansFromP_end _ _ _ _ _ _ (Nat.lt_irrefl _),List.drop_of_length_le (by omega),cK];unfold Lib.closeSpans;cases st with
  | none=>simp[L9]
  | some a=>
   have ha:=hst a rfl;have:L9 s.data.toList (some a) s.size ≠ []:=by unfold L9;intro e;have:=congrArg List.length e;simp only[List.length_take,List.length_drop,List.length_nil] at this;omega
   rw[if_neg this];simp[pcs,L9]
 | f+1,pos,st,acc,hf,hp,hst=>by
  have hn:s.data.toList.length=s.size:=rfl;by_cases hlt:pos<s.size
  ·rw[Lib.spansFromP.eq_def];dsimp only;rw[if_pos hlt];rcases zx s pos hlt with ⟨hb,e⟩ | ⟨hr,hw,hle,hno⟩
   ·rw[e];have hd:s.data.toList.drop pos=32 :: s.data.toList.drop (pos+1):=by
     rw[List.drop_eq_getElem_cons (by omega)]
     congr 1
     exact Option.some.inj ((List.getElem?_eq_getElem _).symm.trans hb)
    rw[if_pos (by rfl),hd,cK,if_pos rfl];cases st with
    | none=> rw[if_pos (show L9 s.data.toList none pos=[] from rfl)];exact eF s f (pos+1) none acc (by omega) (by omega) (λa h=>nomatch h)
    | some a=>
     have ha:=hst a rfl;have:L9 s.data.toList (some a) pos ≠ []:=by unfold L9;intro e;have:=congrArg List.length e;simp only[List.length_take,List.length_drop,List.length_nil] at this;omega
     rw[if_neg this];refine (eF s f (pos+1) none (acc ++ [(a,pos)]) (by omega) (by omega) (λa h=>nomatch h)).trans ?_;simp[pcs,L9]
   ·rw[if_neg (by rw[hr];exact Bool.false_ne_true)];obtain⟨w,hwe⟩:∃w,(Utf8.decode s pos).2=w:=⟨_,rfl⟩;rw[hwe] at hw hle hno ⊢;have hd:s.data.toList.drop pos=(s.data.toList.drop pos).take w++s.data.toList.drop (pos+w):=by rw[<-List.drop_drop,List.take_append_drop]
    rw[hd,lJ _ _ _ hno];cases st with
    | none=>
     refine (eF s f (pos+w) (some pos) acc (by omega) (by omega) (λa h=>by cases h;omega)).trans ?_
     congr 2
     show (s.data.toList.drop pos).take (pos+w-pos)=[]++_;rw[Nat.add_sub_cancel_left,List.nil_append]
    | some a=>
     have ha:=hst a rfl;refine (eF s f (pos+w) (some a) acc (by omega) (by omega) (λa' h=>by cases h;omega)).trans ?_
     congr 2
     show (s.data.toList.drop a).take (pos+w-a)=(s.data.toList.drop a).take (pos-a)++(s.data.toList.drop pos).take w;rw[show pos+w-a=(pos-a)+w by omega,List.take_add,List.drop_drop,show a+(pos-a)=pos by omega]
  ·rw[Lib.spansFromP_end _ _ _ _ _ _ hlt];obtain rfl:pos=s.size:=by omega
   have:=eF s 0 s.size st acc (by omega) (Nat.le_refl _) hst;rwa [Lib.spansFromP_end _ _ _ _ _ _ hlt] at this
theorem pF (s:ByteArray):(Lib.goFieldsP lS s).map (λx=>x.data.toList)=bd s.data.toList:=by have h:=eF s s.size 0 none [] (by omega) (Nat.zero_le _) (λa h=>nomatch h);unfold Lib.goFieldsP Lib.spansOfP;rw[List.map_map];refine Eq.trans ?_ h;unfold pcs;refine List.map_congr_left λx _=>?_;show (s.extract x.1 x.2).data.toList=_;rw[ByteArray.data_extract,Array.toList_extract]
def yX (b:UInt8):List Bs->List Bs
 | []=>[[b]]
 | l :: r=>(b :: l) :: r
def aR:Bs->List Bs
 | []=>[[]]
 | b :: s=>if b=10 then [] :: aR s else yX b (aR s)
theorem xG:∀s,aR s ≠ []
 | []=>by simp[aR]
 | b :: s=>by
  unfold aR;split
  ·simp
  ·unfold yX;split <;> simp
theorem lM:∀s:Bs,Lib.split s [10]=aR s
 | []=>by unfold Lib.split;rw[Lib.count_one];rfl
 | b :: s=>by
  have ih:=lM s;unfold Lib.split at ih ⊢;unfold aR;by_cases hb:b=10
  ·subst hb;rw[if_pos rfl,Lib.count_cons_eq,Nat.add_comm 1,Lib.splitK];have hix:Lib.index (10 :: s) [10]=0:=by rw[Lib.index];simp[List.isPrefixOf]
   rw[hix,if_neg (by decide),ih.symm];rfl
  ·rw[if_neg hb,Lib.count_cons_ne _ _ _ hb,<-ih];have hp:([10]:List UInt8).isPrefixOf (b :: s)=false:=by simp[List.isPrefixOf,Ne.symm hb]
   have hix:Lib.index (b :: s) [10]=if Lib.index s [10]==-1 then -1 else Lib.index s [10]+1:=by rw[Lib.index,hp];simp
   cases hc:Lib.count s [10] with
   | zero=>rfl
   | succ k=>
    by_cases hm:Lib.index s [10]=-1
    ·rw[Lib.count_miss hm] at hc;exact nomatch hc
    ·have hge:=Lib.index_ge s [10];obtain⟨j,hj⟩:∃j:Nat,Lib.index s [10]=j:=⟨(Lib.index s [10]).toNat,by omega⟩;have h1:¬ (Lib.index s [10]==-1)=true:=λe=>hm (beq_iff_eq.1 e);rw[Lib.splitK,Lib.splitK,if_neg h1];rw[hix,if_neg h1,hj];have h2:¬ (((j:Int)+1)==-1)=true:=λe=>by have:=beq_iff_eq.1 e;omega
     rw[if_neg h2];have h3:((j:Int)+1).toNat=j+1:=by omega
     rw[h3];rfl
theorem ju (s:ByteArray):(Lib.splitB ⟨#[10]⟩ 0 (Lib.countB s ⟨#[10]⟩) s).map (λx=>x.data.toList)=aR s.data.toList:=by rw[<-lM,Lib.splitB_data];rfl
end Go.Ev
namespace Go.Ev
def fE (b:UInt8):Bool:=ble 48 b.toNat&&ble b.toNat 57
def gb (n:Nat):Bs->Nat
 | []=>n
 | b :: s=>gb (10*n+(b.toNat-48)) s
def cC (w:Bs):Nat × Nat:=
 if w=[] \/ (1<w.length/\w[0]?=some 48) \/ w.all fE=false then (0,14)
 else if 4294967296<gb 0 w then (0,3) else (gb 0 w,0)
structure iq where
 line:Nat
 op:Nat
 label:Bs
 on:List Bs
 n:Int
 m:Int
 k:Int
 kind:Nat
 texts:List Bs
inductive Sg | L | h | o | n | m | k | c | t
deriving DecidableEq
structure Form where
 word:Bs
 rest:List Sg
 more:Bool
def bs (s:List Nat):Bs:=s.map UInt8.ofNat
def str (s:String):Bs:=s.toList.map λc=>UInt8.ofNat c.toNat
open Sg in
def dL : List Form:= [⟨str "pool", [L, h], false⟩, ⟨str "block", [L, h, n], false⟩, ⟨str "strdup", [L, h, t], false⟩, ⟨str "read", [h, n, m], false⟩, ⟨str "write", [h, n, t], false⟩,
 ⟨str "resize", [h, n], false⟩, ⟨str "append", [h, t], true⟩, ⟨str "size", [h], false⟩, ⟨str "alloc", [h, n, m], false⟩, ⟨str "objects", [h], false⟩, ⟨str "load", [h, k, n, m], false⟩,
 ⟨str "store", [h, k, n, t], false⟩, ⟨str "free", [h, k], false⟩, ⟨str "begin", [h, m], false⟩, ⟨str "grow", [h, t], true⟩, ⟨str "blank", [h, n], false⟩, ⟨str "shrink", [h, n], false⟩,
 ⟨str "finish", [h], false⟩, ⟨str "abort", [h], false⟩, ⟨str "limit", [h, o], false⟩, ⟨str "set", [h, t, n], false⟩, ⟨str "get", [h, t], false⟩, ⟨str "drop", [h, t], false⟩,
 ⟨str "clean", [h, c, n], false⟩, ⟨str "pre", [h, c, n], false⟩, ⟨str "kill", [h, n], false⟩, ⟨str "run", [h, n], false⟩, ⟨str "destroy", [h], false⟩, ⟨str "clear", [h], false⟩,
 ⟨str "steal", [h, h], false⟩, ⟨str "reparent", [h, h, h], false⟩, ⟨str "refer", [h, h], false⟩, ⟨str "unlink", [h, h], false⟩, ⟨str "trim", [], false⟩, ⟨str "keep", [n], false⟩,
 ⟨str "refuse", [n], false⟩, ⟨str "report", [h], false⟩, ⟨str "log", [], false⟩, ⟨str "find", [], true⟩, ⟨str "doom", [h, h], false⟩, ⟨str "doomed", [h, h], false⟩]
def ch : List Bs:= [str "note", str "alloc", str "again", str "kill", str "destroy"]
def jq (w:Bs):List Bs->Nat
 | []=>0
 | x :: l=>if x=w then 0 else jq w l+1
def dX (x:iq) (s:Sg) (w:Bs):Except Nat iq:=
 match s with
 |.L=>if 16<w.length then .error 16 else .ok { x with label:=w }
 |.h=>.ok { x with on:=x.on ++ [w] }
 |.o=> if w = str "none" then .ok { x with n:= -1 } else if (cC w).2 = 0 then .ok { x with n:= (cC w).1 } else .error (cC w).2
 |.n=>if (cC w).2=0 then .ok { x with n:=(cC w).1 } else .error (cC w).2
 |.m=>if (cC w).2=0 then .ok { x with m:=(cC w).1 } else .error (cC w).2
 |.k=>if (cC w).2=0 then .ok { x with k:=(cC w).1 } else .error (cC w).2
 |.c=>if jq w ch<5 then .ok { x with kind:=jq w ch } else .error 14
 |.t=> .ok { x with texts:= x.texts ++ [if w = str "." then [] else w] }
def fv (f:Form):iq->Nat->List Bs->Except Nat iq
 | x,_,[]=>.ok x
 | x,i,w :: l=>match dX x (f.rest.getD i .t) w with
  |.error e=>.error e
  |.ok y=>fv f y (i+1) l
def lK (f:Form) (n:Nat):Bool:=if f.more then ble f.rest.length n else beq n f.rest.length
def lH (w:Bs):List Form->Nat->Option (Nat × Form)
 | [],_=>none
 | f :: l,i=>if f.word=w then some (i,f) else lH w l (i+1)
def fX (line:Nat):List Bs->Except Nat iq
 | []=>.error 14
 | w :: l=>match lH w dL 0 with
  | none=>.error 14
  | some (i,f)=>if lK f l.length then fv f ⟨line,i,[],[],0,0,0,0,[]⟩ 0 l else .error 14
def cW (l:List Bs):Nat × Nat × Nat:=
 match l with
 | [a, b, c]=> if a = str "arena" then (if (cC b).2 = 0 then ((cC b).1, (cC c).1, (cC c).2) else (0, 0, (cC b).2)) else (0, 0, 14)
 | _=>(0,0,14)
def bX (s:Bs):List Bs:=match bd s with
 | []=>[]
 | w :: l=>if w[0]?=some 35 then [] else w :: l
abbrev PR:=Nat × Nat × List iq × Nat × Nat
def wQ:List Bs->Nat->Option (Nat × Nat)->List iq->PR
 | [],_,none,_=>(0,0,[],0,19)
 | [],_,some ck,out=>(ck.1,ck.2,out,0,0)
 | s :: r,i,st,out=>
  if bX s=[] then wQ r (i+1) st out
  else match st with
   | none=>if (cW (bX s)).2.2=0 then wQ r (i+1) (some ((cW (bX s)).1,(cW (bX s)).2.1)) out else (0,0,[],i+1,(cW (bX s)).2.2)
   | some ck=>if 1000<=out.length then (0,0,[],i+1,15)
    else match fX (i+1) (bX s) with
     |.error e=>(0,0,[],i+1,e)
     |.ok c=>wQ r (i+1) (some ck) (out ++ [c])
def eB (s:Bs):PR:=if 65536<s.length then (0,0,[],0,16) else wQ (aR s) 0 none []
theorem fo (s:Bs) (r:List Bs) (i:Nat) (st:Option (Nat × Nat)) (out:List iq):wQ (s :: r) i st out =
  if bX s=[] then wQ r (i+1) st out
  else match st with
   | none=>if (cW (bX s)).2.2=0 then wQ r (i+1) (some ((cW (bX s)).1,(cW (bX s)).2.1)) out else (0,0,[],i+1,(cW (bX s)).2.2)
   | some ck=>if 1000<=out.length then (0,0,[],i+1,15)
    else match fX (i+1) (bX s) with
     |.error e=>(0,0,[],i+1,e)
     |.ok c=>wQ r (i+1) (some ck) (out ++ [c]):=by cases st <;> rfl
end Go.Ev
namespace Go.Ev
open Go
def arj (c:iq):Prop:=c.on.length<=8000/\c.texts.length<=8000
theorem asd {x y:iq} {s:Sg} {w:Bs} (h:dX x s w=.ok y):y.on.length<=x.on.length+1/\y.texts.length<=x.texts.length+1:=by unfold dX at h;split at h <;> (try split at h) <;> (try split at h) <;> first | (cases h;done) | (cases h;simp)
theorem ap6:∀(l:List Bs) (f:Form) (x:iq) (i:Nat) (y:iq),fv f x i l=.ok y->y.on.length<=x.on.length+l.length/\y.texts.length<=x.texts.length+l.length
 | [],f,x,i,y,h=>by cases h;simp
 | w :: l,f,x,i,y,h=>by
  unfold fv at h;split at h
  ·exact nomatch h
  ·rename_i z hz;have h1:=asd hz;have h2:=ap6 l f z (i+1) y h;rw[List.length_cons];omega
theorem arT {line:Nat} {l:List Bs} {c:iq} (h:fX line l=.ok c):c.on.length<=l.length/\c.texts.length<=l.length:=by
 unfold fX at h;split at h
 ·exact nomatch h
 ·split at h
  ·exact nomatch h
  ·split at h
   ·have:=ap6 _ _ _ _ _ h;simp only[List.length_nil,List.length_cons] at this ⊢;omega
   ·exact nomatch h
theorem asG (s:Bs):(bX s).length<=(bd s).length:=by
 unfold bX;split
 ·simp
 ·rename_i w l h;rw[h];split <;> simp
theorem arv:∀(L:List Bs) (i:Nat) (st:Option (Nat × Nat)) (out:List iq),(∀s∈L,(bd s).length<=8000)->out.length<=1000->(∀c∈out,arj c)->(wQ L i st out).2.2.1.length<=1000/\∀c∈(wQ L i st out).2.2.1,arj c
 | [],i,st,out,_,h1,h2=>by cases st <;> first | exact⟨h1,h2⟩ | exact⟨by simp[wQ],λc hc=>nomatch hc⟩
 | s :: L,i,st,out,hL,h1,h2=>by
  have hr:∀s∈L,(bd s).length<=8000:=λx hx=>hL x (List.mem_cons_of_mem _ hx);have h0:∀a b,(((0,0,[],a,b):PR).2.2.1.length<=1000)/\∀c∈((0,0,[],a,b):PR).2.2.1,arj c:=λa b=>⟨Nat.zero_le _,λc hc=>nomatch hc⟩;rw[fo];by_cases hw:bX s=[]
  ·rw[if_pos hw];exact arv L _ st out hr h1 h2
  ·rw[if_neg hw];cases st with
   | none=>
    dsimp only;split
    ·exact arv L _ _ out hr h1 h2
    ·exact h0 _ _
   | some ck=>
    dsimp only;split
    ·exact h0 _ _
    ·rename_i hlen;split
     ·exact h0 _ _
     ·rename_i c hc;have hcl:=arT hc;have hwl:=asG s;have hs:=hL s (List.mem_cons_self ..);refine arv L _ _ _ hr (by simp;omega) λx hx=>?_;rcases List.mem_append.1 hx with hx | hx
      ·exact h2 x hx
      ·rw[List.mem_singleton.1 hx];exact⟨by omega,by omega⟩
theorem as4 {s:Bs} (h:∀x∈aR s,(bd x).length<=8000):(eB s).2.2.1.length<=1000/\∀c∈(eB s).2.2.1,arj c:=by
 unfold eB;split
 ·exact⟨Nat.zero_le _,λc hc=>nomatch hc⟩
 ·exact arv _ _ _ _ h (Nat.zero_le _) (λc hc=>nomatch hc)
theorem arc:∀(s acc:Bs),(cK acc s).length<=s.length+(if acc=[] then 0 else 1)
 | [],acc=>by unfold cK;split <;> simp
 | b :: s,acc=>by
  unfold cK;by_cases hb:b=32
  ·rw[if_pos hb];have h0:=arc s [];rw[if_pos rfl] at h0;by_cases ha:acc=[]
   ·rw[if_pos ha,if_pos ha];simp;omega
   ·rw[if_neg ha,if_neg ha];simp;omega
  ·rw[if_neg hb];have h0:=arc s (acc ++ [b]);rw[if_neg (by simp)] at h0;simp only[List.length_cons];omega
theorem akp (s:Bs):(bd s).length<=s.length:=by have:=arc s [];rwa [if_pos rfl] at this
end Go.Ev
