/-
  PRINTING A SCRIPT, purely: what a command's line is, or that it can't be written.
-/
import Derived.Test.YtglmdggjibmjcaaGreatDoorJ0
import Derived.Lib.FieldsP
import Derived.Lib.MapLaws
import Derived.Lib.Split
import Derived.Lib.SplitLaws
import Derived.Lib.ItoaNum
noncomputable section
set_option linter.all false
set_option maxRecDepth 100000
open Nat (ble beq)
namespace Go.Ev
open Go
abbrev Bs:=List UInt8
def cD (acc:Bs):Bs->List Bs
 | []=>if acc=[] then [] else [acc]
 | b :: s=>if b=32 then (if acc=[] then cD [] s else acc :: cD [] s) else cD (acc ++ [b]) s
def bO (s:Bs):List Bs:=cD [] s
def kK:∀(x acc y:Bs),(∀b∈x,b≠32)->cD acc (x++y)=cD (acc++x) y
 | [],acc,y,_=>by simp
 | b :: x,acc,y,h=>by rw[KY,cD,if_neg (h b (Jq ..)),kK x _ y λc hc=>h c (JG _ hc)];simp
def pk (r:Nat):Bool:=beq r 32
def tq {r:Nat} (h:r≠32):pk r=false:=by
 unfold pk;cases e:beq r 32 with
 | false=>rfl
 | true=>exact absurd (I8 e) h
def F9 (s:ByteArray) (pos:Nat) (h:pos<s.size):
  (s.data.toList[pos]?=some 32/\Utf8.decode s pos=(32,1)) \/
  (pk (Utf8.decode s pos).1=false/\1<=(Utf8.decode s pos).2/\pos+(Utf8.decode s pos).2<=s.size/\∀b∈(s.data.toList.drop pos).take (Utf8.decode s pos).2,b≠32):=by
 have hn:s.data.toList.length=s.size:=rfl;rw[Lib.decode_N s pos];have hg:∀j,pos+j<s.size->s.data.toList[pos+j]?=some (s.data.toList.getD (pos+j) 0):=λj hj=>by rw[Jc,Jn (by omega)];rfl
 have g0:=hg 0 (by omega);rw[Kp] at g0;have hmem:∀(k:Nat) (b:UInt8),b∈(s.data.toList.drop pos).take k->∃j,j<k/\pos+j<s.size/\b=s.data.toList.getD (pos+j) 0:=by intro k b hb;obtain⟨j,hj⟩:=List.mem_iff_getElem?.1 hb;have hl:=(List.getElem?_eq_some_iff.1 hj).1;rw[List.length_take,List.length_drop] at hl;rw[List.getElem?_take_of_lt (by omega),List.getElem?_drop,hg j (by omega)] at hj;exact⟨j,by omega,by omega,(JJ hj).symm⟩
 have h32:∀b:UInt8,b.toNat≠32->b≠32:=λb h e=>h (by rw[e];rfl);rcases Lib.decodeN_shape (s.data.toList.length-pos) (s.data.toList.getD pos 0).toNat (s.data.toList.getD (pos+1) 0).toNat (s.data.toList.getD (pos+2) 0).toNat (s.data.toList.getD (pos+3) 0).toNat with ⟨c,e⟩ | ⟨c,c1,c2,cv,e⟩ | ⟨c,c1,c2,c3,cv,_,e⟩ | ⟨c,c1,c2,c3,c4,cv,_,e⟩ | e
 ·rw[e];by_cases q:(s.data.toList.getD pos 0).toNat=32
  ·left;refine⟨?_,by rw[q]⟩;rw[g0]
   congr 1
   exact UInt8.toNat_inj.1 q
  ·right;refine⟨tq q,Jd _,by show pos+1<=_;omega,λb hb=>?_⟩;obtain⟨j,hj,_,rfl⟩:=hmem 1 b hb;have:j=0:=by omega
   subst this;exact h32 _ q
 ·right;rw[e];refine⟨tq (by simp only;omega),by simp only;omega,by simp only;omega,λb hb=>?_⟩;obtain⟨j,hj,_,rfl⟩:=hmem 2 b hb;refine h32 _ ?_
  match j,hj with
  | 0,_=>rw[Kp];omega
  | 1,_=>omega
 ·right;rw[e];refine⟨tq (by simp only;omega),by simp only;omega,by simp only;omega,λb hb=>?_⟩;obtain⟨j,hj,_,rfl⟩:=hmem 3 b hb;refine h32 _ ?_
  match j,hj with
  | 0,_=>rw[Kp];omega
  | 1,_=>omega
  | 2,_=>omega
 ·right;rw[e];refine⟨tq (by simp only;omega),by simp only;omega,by simp only;omega,λb hb=>?_⟩;obtain⟨j,hj,_,rfl⟩:=hmem 4 b hb;refine h32 _ ?_
  match j,hj with
  | 0,_=>rw[Kp];omega
  | 1,_=>omega
  | 2,_=>omega
  | 3,_=>omega
 ·
  by_cases q:(s.data.toList.getD pos 0).toNat<128
  ·rw[Lib.decodeN_ascii _ _ _ _ _ q] at e;have:=congrArg Prod.fst e;simp only at this;omega
  ·right;rw[e];refine⟨rfl,Jd _,by show pos+1<=_;omega,λb hb=>?_⟩;obtain⟨j,hj,_,rfl⟩:=hmem 1 b hb;have:j=0:=by omega
   subst this;exact h32 _ (by rw[Kp];omega)
def NA (L:Bs) (st:Option Nat) (pos:Nat):Bs:=match st with | some a=>(L.drop a).take (pos-a) | none=>[]
def pcs (L:Bs) (l:List (Nat × Nat)):List Bs:=l.map λx=>(L.drop x.1).take (x.2-x.1)
def fT (s:ByteArray):∀(f pos:Nat) (st:Option Nat) (acc:List (Nat × Nat)),s.size<=pos+f->pos<=s.size->(∀a,st=some a->a<pos) ->
  pcs s.data.toList (Lib.closeSpans s (Lib.spansFromP pk s f pos st acc))=pcs s.data.toList acc++cD (NA s.data.toList st pos) (s.data.toList.drop pos)
 | 0,pos,st,acc,hf,hp,hst=>by
  have hn:s.data.toList.length=s.size:=rfl;obtain rfl:pos=s.size:=by omega
  rw[Lib.spansFromP_end _ _ _ _ _ _ (KO _),List.drop_of_length_le (by omega),cD];unfold Lib.closeSpans;cases st with
  | none=>simp[NA]
  | some a=>
   have ha:=hst a rfl;have:NA s.data.toList (some a) s.size ≠ []:=by unfold NA;intro e;have:=congrArg List.length e;simp only[List.length_take,List.length_drop,Kl] at this;omega
   rw[if_neg this];simp[pcs,NA]
 | f+1,pos,st,acc,hf,hp,hst=>by
  have hn:s.data.toList.length=s.size:=rfl;by_cases hlt:pos<s.size
  ·rw[Lib.spansFromP.eq_def];dsimp only;rw[if_pos hlt];rcases F9 s pos hlt with ⟨hb,e⟩ | ⟨hr,hw,hle,hno⟩
   ·rw[e];have hd:s.data.toList.drop pos=32 :: s.data.toList.drop (pos+1):=by
     rw[JR (by omega)]
     congr 1
     exact JJ ((Jn _).symm.trans hb)
    rw[if_pos (by rfl),hd,cD,if_pos rfl];cases st with
    | none=> rw[if_pos (show NA s.data.toList none pos=[] from rfl)];exact fT s f (pos+1) none acc (by omega) (by omega) (λa h=>nomatch h)
    | some a=>
     have ha:=hst a rfl;have:NA s.data.toList (some a) pos ≠ []:=by unfold NA;intro e;have:=congrArg List.length e;simp only[List.length_take,List.length_drop,Kl] at this;omega
     rw[if_neg this];refine (fT s f (pos+1) none (acc ++ [(a,pos)]) (by omega) (by omega) (λa h=>nomatch h)).trans ?_;simp[pcs,NA]
   ·rw[if_neg (by rw[hr];exact Bool.false_ne_true)];obtain⟨w,hwe⟩:∃w,(Utf8.decode s pos).2=w:=⟨_,rfl⟩;rw[hwe] at hw hle hno ⊢;have hd:s.data.toList.drop pos=(s.data.toList.drop pos).take w++s.data.toList.drop (pos+w):=by rw[<-List.drop_drop,List.take_append_drop]
    rw[hd,kK _ _ _ hno];cases st with
    | none=>
     refine (fT s f (pos+w) (some pos) acc (by omega) (by omega) (λa h=>by cases h;omega)).trans ?_
     congr 2
     show (s.data.toList.drop pos).take (pos+w-pos)=[]++_;rw[Nat.add_sub_cancel_left,KE]
    | some a=>
     have ha:=hst a rfl;refine (fT s f (pos+w) (some a) acc (by omega) (by omega) (λa' h=>by cases h;omega)).trans ?_
     congr 2
     show (s.data.toList.drop a).take (pos+w-a)=(s.data.toList.drop a).take (pos-a)++(s.data.toList.drop pos).take w;rw[show pos+w-a=(pos-a)+w by omega,List.take_add,List.drop_drop,show a+(pos-a)=pos by omega]
  ·rw[Lib.spansFromP_end _ _ _ _ _ _ hlt];obtain rfl:pos=s.size:=by omega
   have:=fT s 0 s.size st acc (by omega) (Jd _) hst;rwa [Lib.spansFromP_end _ _ _ _ _ _ hlt] at this
def tM (s:ByteArray):(Lib.goFieldsP pk s).map (λx=>x.data.toList)=bO s.data.toList:=by have h:=fT s s.size 0 none [] (by omega) (JY _) (λa h=>nomatch h);unfold Lib.goFieldsP Lib.spansOfP;rw[List.map_map];refine Eq.trans ?_ h;unfold pcs;refine List.map_congr_left λx _=>?_;show (s.extract x.1 x.2).data.toList=_;rw[ByteArray.data_extract,Array.toList_extract]
def Co (b:UInt8):List Bs->List Bs
 | []=>[[b]]
 | l :: r=>(b :: l) :: r
def aU:Bs->List Bs
 | []=>[[]]
 | b :: s=>if b=10 then [] :: aU s else Co b (aU s)
def lA:∀s,aU s ≠ []
 | []=>by simp[aU]
 | b :: s=>by
  unfold aU;split
  ·simp
  ·unfold Co;split <;> simp
def oZ:∀s:Bs,Lib.split s [10]=aU s
 | []=>by unfold Lib.split;rw[Lib.count_one];rfl
 | b :: s=>by
  have ih:=oZ s;unfold Lib.split at ih ⊢;unfold aU;by_cases hb:b=10
  ·subst hb;rw[if_pos rfl,Lib.count_cons_eq,Nat.add_comm 1,Lib.splitK];have hix:Lib.index (10 :: s) [10]=0:=by rw[Lib.index];simp[List.isPrefixOf]
   rw[hix,if_neg (by decide),ih.symm];rfl
  ·rw[if_neg hb,Lib.count_cons_ne _ _ _ hb,<-ih];have hp:([10]:List UInt8).isPrefixOf (b :: s)=false:=by simp[List.isPrefixOf,Ne.symm hb]
   have hix:Lib.index (b :: s) [10]=if Lib.index s [10]==-1 then -1 else Lib.index s [10]+1:=by rw[Lib.index,hp];simp
   cases hc:Lib.count s [10] with
   | zero=>rfl
   | succ k=>
    by_cases hm:Lib.index s [10]=-1
    ·rw[Lib.count_miss hm] at hc;exact nomatch hc
    ·have hge:=Lib.index_ge s [10];obtain⟨j,hj⟩:∃j:Nat,Lib.index s [10]=j:=⟨(Lib.index s [10]).toNat,by omega⟩;have h1:¬ (Lib.index s [10]==-1)=true:=λe=>hm (beq_iff_eq.1 e);rw[Lib.splitK,Lib.splitK,if_neg h1];rw[hix,if_neg h1,hj];have h2:¬ (((j:Int)+1)==-1)=true:=λe=>by have:=beq_iff_eq.1 e;omega
     rw[if_neg h2];have h3:((j:Int)+1).toNat=j+1:=by omega
     rw[h3];rfl
def lO (s:ByteArray):(Lib.splitB ⟨#[10]⟩ 0 (Lib.countB s ⟨#[10]⟩) s).map (λx=>x.data.toList)=aU s.data.toList:=by rw[<-oZ,Lib.splitB_data];rfl
end Go.Ev
namespace Go.Ev
def dR (b:UInt8):Bool:=ble 48 b.toNat&&ble b.toNat 57
def fp (n:Nat):Bs->Nat
 | []=>n
 | b :: s=>fp (10*n+(b.toNat-48)) s
def bM (w:Bs):Nat × Nat:=
 if w=[] \/ (1<w.length/\w[0]?=some 48) \/ w.all dR=false then (0,14)
 else if 4294967296<fp 0 w then (0,3) else (fp 0 w,0)
structure bV where
 line:Nat
 op:Nat
 label:Bs
 on:List Bs
 n:Int
 m:Int
 k:Int
 kind:Nat
 texts:List Bs
inductive Sg | L | h | o | n | m | k | c | t
deriving DecidableEq
structure Form where
 word:Bs
 rest:List Sg
 more:Bool
def bs (s:List Nat):Bs:=s.map UInt8.ofNat
def str (s:String):Bs:=s.toList.map λc=>UInt8.ofNat c.toNat
open Sg in
def co : List Form:= [⟨str "pool", [L, h], false⟩, ⟨str "block", [L, h, n], false⟩, ⟨str "strdup", [L, h, t], false⟩, ⟨str "read", [h, n, m], false⟩, ⟨str "write", [h, n, t], false⟩,
 ⟨str "resize", [h, n], false⟩, ⟨str "append", [h, t], true⟩, ⟨str "size", [h], false⟩, ⟨str "alloc", [h, n, m], false⟩, ⟨str "objects", [h], false⟩, ⟨str "load", [h, k, n, m], false⟩,
 ⟨str "store", [h, k, n, t], false⟩, ⟨str "free", [h, k], false⟩, ⟨str "begin", [h, m], false⟩, ⟨str "grow", [h, t], true⟩, ⟨str "blank", [h, n], false⟩, ⟨str "shrink", [h, n], false⟩,
 ⟨str "finish", [h], false⟩, ⟨str "abort", [h], false⟩, ⟨str "limit", [h, o], false⟩, ⟨str "set", [h, t, n], false⟩, ⟨str "get", [h, t], false⟩, ⟨str "drop", [h, t], false⟩,
 ⟨str "clean", [h, c, n], false⟩, ⟨str "pre", [h, c, n], false⟩, ⟨str "kill", [h, n], false⟩, ⟨str "run", [h, n], false⟩, ⟨str "destroy", [h], false⟩, ⟨str "clear", [h], false⟩,
 ⟨str "steal", [h, h], false⟩, ⟨str "reparent", [h, h, h], false⟩, ⟨str "refer", [h, h], false⟩, ⟨str "unlink", [h, h], false⟩, ⟨str "trim", [], false⟩, ⟨str "keep", [n], false⟩,
 ⟨str "refuse", [n], false⟩, ⟨str "report", [h], false⟩, ⟨str "log", [], false⟩, ⟨str "find", [], true⟩, ⟨str "doom", [h, h], false⟩, ⟨str "doomed", [h, h], false⟩]
def aZ : List Bs:= [str "note", str "alloc", str "again", str "kill", str "destroy"]
def gD (w:Bs):List Bs->Nat
 | []=>0
 | x :: l=>if x=w then 0 else gD w l+1
def eE (x:bV) (s:Sg) (w:Bs):Except Nat bV:=
 match s with
 |.L=>if 16<w.length then .error 16 else .ok { x with label:=w }
 |.h=>.ok { x with on:=x.on ++ [w] }
 |.o=> if w = str "none" then .ok { x with n:= -1 } else if (bM w).2 = 0 then .ok { x with n:= (bM w).1 } else .error (bM w).2
 |.n=>if (bM w).2=0 then .ok { x with n:=(bM w).1 } else .error (bM w).2
 |.m=>if (bM w).2=0 then .ok { x with m:=(bM w).1 } else .error (bM w).2
 |.k=>if (bM w).2=0 then .ok { x with k:=(bM w).1 } else .error (bM w).2
 |.c=>if gD w aZ<5 then .ok { x with kind:=gD w aZ } else .error 14
 |.t=> .ok { x with texts:= x.texts ++ [if w = str "." then [] else w] }
def dz (f:Form):bV->Nat->List Bs->Except Nat bV
 | x,_,[]=>.ok x
 | x,i,w :: l=>match eE x (f.rest.getD i .t) w with
  |.error e=>.error e
  |.ok y=>dz f y (i+1) l
def jp (f:Form) (n:Nat):Bool:=if f.more then ble f.rest.length n else beq n f.rest.length
def j6 (w:Bs):List Form->Nat->Option (Nat × Form)
 | [],_=>none
 | f :: l,i=>if f.word=w then some (i,f) else j6 w l (i+1)
def eY (line:Nat):List Bs->Except Nat bV
 | []=>.error 14
 | w :: l=>match j6 w co 0 with
  | none=>.error 14
  | some (i,f)=>if jp f l.length then dz f ⟨line,i,[],[],0,0,0,0,[]⟩ 0 l else .error 14
def cQ (l:List Bs):Nat × Nat × Nat:=
 match l with
 | [a, b, c]=> if a = str "arena" then (if (bM b).2 = 0 then ((bM b).1, (bM c).1, (bM c).2) else (0, 0, (bM b).2)) else (0, 0, 14)
 | _=>(0,0,14)
def cd (s:Bs):List Bs:=match bO s with
 | []=>[]
 | w :: l=>if w[0]?=some 35 then [] else w :: l
abbrev PR:=Nat × Nat × List bV × Nat × Nat
def Aj:List Bs->Nat->Option (Nat × Nat)->List bV->PR
 | [],_,none,_=>(0,0,[],0,19)
 | [],_,some ck,out=>(ck.1,ck.2,out,0,0)
 | s :: r,i,st,out=>
  if cd s=[] then Aj r (i+1) st out
  else match st with
   | none=>if (cQ (cd s)).2.2=0 then Aj r (i+1) (some ((cQ (cd s)).1,(cQ (cd s)).2.1)) out else (0,0,[],i+1,(cQ (cd s)).2.2)
   | some ck=>if 1000<=out.length then (0,0,[],i+1,15)
    else match eY (i+1) (cd s) with
     |.error e=>(0,0,[],i+1,e)
     |.ok c=>Aj r (i+1) (some ck) (out ++ [c])
def gJ (s:Bs):PR:=if 65536<s.length then (0,0,[],0,16) else Aj (aU s) 0 none []
def jC (s:Bs) (r:List Bs) (i:Nat) (st:Option (Nat × Nat)) (out:List bV):Aj (s :: r) i st out =
  if cd s=[] then Aj r (i+1) st out
  else match st with
   | none=>if (cQ (cd s)).2.2=0 then Aj r (i+1) (some ((cQ (cd s)).1,(cQ (cd s)).2.1)) out else (0,0,[],i+1,(cQ (cd s)).2.2)
   | some ck=>if 1000<=out.length then (0,0,[],i+1,15)
    else match eY (i+1) (cd s) with
     |.error e=>(0,0,[],i+1,e)
     |.ok c=>Aj r (i+1) (some ck) (out ++ [c]):=by cases st <;> rfl
def Nc (i:Nat) (ck:Nat × Nat) (out:List bV):Aj [] i (some ck) out=(ck.1,ck.2,out,0,0):=rfl
def oV:∀(s acc:Bs),acc ≠ []->(∀b∈s,b≠32)->cD acc s=[acc++s]
 | [],acc,h,_=>by rw[cD,if_neg h,KB]
 | b :: s,acc,h,hs=>by rw[cD,if_neg (hs b (Jq ..)),oV s _ (by simp) λc hc=>hs c (JG _ hc)];simp
def jd:∀(a s:Bs),(∀b∈a,b≠10)->aU (a++10 :: s)=a :: aU s
 | [],s,_=>by rw[KE,aU,if_pos rfl]
 | b :: a,s,h=>by rw[KY,aU,if_neg (h b (Jq ..)),jd a s λc hc=>h c (JG _ hc)];rfl
end Go.Ev
namespace Go.Ev
open Go
def aG (w:Bs):Bool:=!w.isEmpty&&w.all λb=>!(b==32) && !(b==10)
def dn (n:Int):Option Bs:=if 0<=n/\n<=4294967296 then some (Lib.decDigits n.toNat) else none
def fg (s : Bs):Option Bs:= if s = [] then some (str ".") else if s = str "." then none else if aG s then some s else none
def eD (c:bV):Sg->List Bs->List Bs->Option (Bs × List Bs × List Bs)
 |.L,on,tx=>if aG c.label/\c.label.length<=16 then some (c.label,on,tx) else none
 |.h,w :: on,tx=>if aG w then some (w,on,tx) else none
 |.h,[],_=>none
 |.t,on,s :: tx=>(fg s).map λw=>(w,on,tx)
 |.t,_,[]=>none
 |.c,on,tx=>if c.kind<=4 then some (aZ.getD c.kind [],on,tx) else none
 |.o, on, tx=> if c.n = -1 then some (str "none", on, tx) else (dn c.n).map fun w=> (w, on, tx)
 |.n,on,tx=>(dn c.n).map λw=>(w,on,tx)
 |.m,on,tx=>(dn c.m).map λw=>(w,on,tx)
 |.k,on,tx=>(dn c.k).map λw=>(w,on,tx)
def dl (c:bV):List Sg->List Bs->List Bs->Option (List Bs × List Bs × List Bs)
 | [],on,tx=>some ([],on,tx)
 | s :: r,on,tx=>match eD c s on tx with
  | none=>none
  | some (w,on',tx')=>match dl c r on' tx' with
   | none=>none
   | some (ws,on'',tx'')=>some (w :: ws,on'',tx'')
def eC:List Bs->Option (List Bs)
 | []=>some []
 | s :: r=>match fg s,eC r with
  | some w,some ws=>some (w :: ws)
  | _,_=>none
def fG (c:bV) (f:Form):Bool:=
 !(beq c.on.length (f.rest.count .h))||!(ble (f.rest.count .t) c.texts.length)||(!f.more && !(ble c.texts.length (f.rest.count .t))) ||
 (decide (c.n≠0) && !(f.rest.contains .n||f.rest.contains .o))||(decide (c.m≠0) && !f.rest.contains .m)||(decide (c.k≠0) && !f.rest.contains .k)||(decide (c.kind≠0) && !f.rest.contains .c)||(!c.label.isEmpty && !f.rest.contains .L)
def ig (c:bV):Option (List Bs):=
 if c.op<=40 then
  let f:=co.getD c.op ⟨[],[],false⟩
  if fG c f then none
  else match dl c f.rest c.on c.texts with
   | none=>none
   | some (ws,_,tx)=>match eC tx with
    | none=>none
    | some ts=>some (f.word :: (ws++ts))
 else none
def bQ:List Bs->Bs
 | []=>[]
 | [w]=>w
 | w :: l=>w++32 :: bQ l
def im (c:bV):Option Bs:=(ig c).map λws=>bQ ws ++ [10]
def fQ:List bV->Option Bs
 | []=>some []
 | c :: l=>match im c,fQ l with
  | some s,some r=>some (s++r)
  | _,_=>none
def gE (cap keeps:Int) (l:List bV):Except Nat Bs:=
 if 1000<l.length then .error 15
 else match dn cap,dn keeps with
  | some a,some b=>match fQ l with
   | none=>.error 14
   | some r=> if 65536<(bQ [str "arena", a, b] ++ [10]++r).length then .error 16 else .ok (bQ [str "arena", a, b] ++ [10]++r)
  | _,_=>.error 14
def xC {u:Nat} (h:u<10):dR (UInt8.ofNat (48+u))=true:=by
 match u,h with
 | 0,_=>rfl
 | 1,_=>rfl
 | 2,_=>rfl
 | 3,_=>rfl
 | 4,_=>rfl
 | 5,_=>rfl
 | 6,_=>rfl
 | 7,_=>rfl
 | 8,_=>rfl
 | 9,_=>rfl
def ov {u:Nat} (h:u<10):(UInt8.ofNat (48+u)).toNat=48+u:=by
 match u,h with
 | 0,_=>rfl
 | 1,_=>rfl
 | 2,_=>rfl
 | 3,_=>rfl
 | 4,_=>rfl
 | 5,_=>rfl
 | 6,_=>rfl
 | 7,_=>rfl
 | 8,_=>rfl
 | 9,_=>rfl
def nY (b:UInt8):∀(w:Bs) (n:Nat),fp n (w ++ [b])=10*fp n w+(b.toNat-48)
 | [],n=>rfl
 | c :: w,n=>by show fp (10*n+(c.toNat-48)) (w ++ [b])=_;rw[nY b w];rfl
def uD (u:Nat):(Lib.decDigits u).all dR=true:=by
 induction u using Nat.strongRecOn with
 | ind u ih=>
  rw[Lib.decDigits];by_cases h:u<10
  ·rw[dif_pos h,JZ,xC h];rfl
  ·rw[dif_neg h,List.all_append,ih (u / 10) (by omega),JZ,xC (Nat.mod_lt _ (by decide))];rfl
def nX (u:Nat):Lib.decDigits u ≠ []:=by
 rw[Lib.decDigits];split
 ·simp
 ·simp
def Cw (u:Nat):fp 0 (Lib.decDigits u)=u:=by
 induction u using Nat.strongRecOn with
 | ind u ih=>
  rw[Lib.decDigits];by_cases h:u<10
  ·rw[dif_pos h];show 10*0+((UInt8.ofNat (48+u)).toNat-48)=u;rw[ov h];omega
  ·rw[dif_neg h,nY,ih (u / 10) (by omega),ov (Nat.mod_lt _ (by decide))];omega
def Hy (u:Nat):(Lib.decDigits u)[0]?=some 48->(Lib.decDigits u).length=1:=by
 induction u using Nat.strongRecOn with
 | ind u ih=>
  rw[Lib.decDigits];by_cases h:u<10
  ·rw[dif_pos h];intro _;rfl
  ·rw[dif_neg h];intro e;exfalso;have hne:=nX (u / 10);rw[Kj (J8.2 hne)] at e;have h1:=ih (u / 10) (by omega) e;by_cases h2:u / 10<10
   ·rw[Lib.decDigits_one h2] at e;have e:UInt8.ofNat (48+u / 10)=48:=by simpa using e
    have:=ov h2;rw[e] at this;have:48=48+u / 10:=this;omega
   ·rw[Lib.decDigits,dif_neg h2,Jt] at h1;have:=J8.2 (nX (u / 10 / 10));simp only[J7] at h1;omega
def Ik {u:Nat} (h:u<=4294967296):bM (Lib.decDigits u)=(u,0):=by
 unfold bM;rw[if_neg,if_neg (by rw[Cw];omega),Cw];rintro (h1 | h1 | h1)
 ·exact nX u h1
 ·have:=Hy u h1.2;omega
 ·rw[uD] at h1;exact nomatch h1
end Go.Ev
