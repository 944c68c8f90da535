/-
  EVALUATOR, PART 25: code and calls, but for regions that draw their order.
-/
import Derived.Test.YtglmdggjibmjcaaGreatDoorJa
import Derived.Laws.MakeOwn
import Derived.Laws.IdiomCopy
import Derived.Laws.Append
import Derived.Laws.AppendOwn
import Derived.Lib.UnsafeStr
import Derived.Lib.ConvBytes
import Derived.Deep.LoopGhost
import Derived.Scope
noncomputable section
set_option linter.all false
open Nat (ble beq)
namespace Go.Ev
open Go
section
def mN {x y:Value} (h:gu x y=true):x=y:=by
 unfold gu at h;split at h
 ·simp only[Ja,beq_iff_eq] at h;rw[h.1,h.2]
 ·simp only[beq_iff_eq] at h;rw[h]
 ·rw[eB] at h;simp only[beq_iff_eq] at h;rw[h]
 ·rfl
 ·simp only[beq_iff_eq] at h;rw[h]
 ·simp only[Ja] at h;rw[I8 h.1,I8 h.2]
 ·simp only[Ja,beq_iff_eq] at h;rw[h.1.1,I8 h.1.2,I8 h.2]
 ·simp only[beq_iff_eq] at h;rw[h]
 ·rfl
 ·rfl
 ·cases h
def flat_get (z:List Value):∀(len i:Nat),i<len*z.length->((List.replicate len z).flatten)[i]?=z[i%z.length]?
 | 0,i,h=>by simp at h
 | len+1,i,h=>by
  simp only[List.replicate_succ,List.flatten_cons];have hz:0<z.length:=by
   rcases Nat.eq_zero_or_pos z.length with e | e
   ·rw[e] at h;simp at h
   ·exact e
  by_cases hi:i<z.length
  ·rw[Kj hi,Nat.mod_eq_of_lt hi]
  ·have hi:=Nat.le_of_not_lt hi;rw[KA hi,flat_get z len (i-z.length) (by rw[Nat.succ_mul] at h;omega),<-Nat.mod_eq_sub_mod hi]
def iN (z:List Value) (len:Nat):((List.replicate len z).flatten).length=len*z.length:=by simp
def ni (pl:Nat->Option (Nat × Nat)):∀(parts:List (Nat × Value)) (cs r:List Value),dx pl cs parts=some r->r.length=cs.length
 | [],cs,r,h=>by simp[dx] at h;rw[h]
 | (i,v) :: ps,cs,r,h=>by
  simp only[dx] at h;split at h
  ·cases h
  ·rename_i off size e;cases hck:(beq (cellsOfV v).length size&&ble (off+(cellsOfV v).length) cs.length&&(cellsOfV v).all cell1) with
   | false=>simp[hck] at h
   | true=> simp only[hck,Jo] at h;simp only[Ja] at hck;rw[ni pl ps _ r h,Aa (I7 hck.1.2)]
def qW {ρ:Ren} {z:List Value} (hz:bT (ga ρ) z z) (len:Nat):
  bT (ga ρ) (List.replicate len z).flatten ((Array.range (len*z.length)).map (λi=>(⟨z⟩:Array Value)[i%(⟨z⟩:Array Value).size]!)).toList:=by
 refine bT.of_get (by simp) λi v v' e e'=>?_;have hi:i<len*z.length:=by have:=(List.getElem?_eq_some_iff.1 e).1;rwa [iN] at this
 rw[flat_get z len i hi] at e;have hz0:0<z.length:=by
  rcases Nat.eq_zero_or_pos z.length with q | q
  ·rw[q] at hi;simp at hi
  ·exact q
 have hm:i%z.length<z.length:=Nat.mod_lt _ hz0;have e2:v'=z[i%z.length]:=by simp[hi] at e';rw[<-e'];simp[getElem!_def,hm]
 rw[Jn hm] at e;cases e;subst e2;obtain⟨u,hu,hr⟩:=hz.get (i%z.length) _ (Jn hm);rw[Jn hm] at hu;cases hu;exact hr
section
variable {P : Program} {ρ : Ren} {w : World}
def qs {c:T Value} {n:Nat} {cs:Array Value} (e:TypeId) (hn:cs.size=n) (hc:∀i,i<n->∃v',cs[i]?=some v'/\ga ρ (c.get i) v'):
  ∀ρ',ρ.le ρ'->eV P ρ' (w.alloc (.cells cs e)) (w.heap.size,0) (.row e n false false 0 c):=by
 intro ρ' hle;refine⟨cs,(0,0),heap_alloc_new w _,by omega,λ_=>⟨hn,rfl⟩,λh=>Bool.noConfusion h,λi hi=>?_,.inr (Jd _)⟩;obtain⟨v',h1,h2⟩:=hc i hi;exact⟨v',h1,h2.mono hle⟩
def jK {l:List Value} {cs:Array Value} (e:TypeId) (h:bT (ga ρ) l cs.toList):
  ∀ρ',ρ.le ρ'->eV P ρ' (w.alloc (.cells cs e)) (w.heap.size,0) (.row e l.length false false 0 (T.ofList unk l)):=by
 refine qs e (by have:=h.length;simp at this;omega) λi hi=>?_;rw[T.get_ofList];obtain⟨v',e1,e2⟩:=h.get i l[i] (Jn hi);refine⟨v',by simpa using e1,?_⟩;rw[Jc,Jn hi];exact e2
def iB:∀(ρ':Ren) (id:Nat),ρ.le ρ'->ρ' id=some (w.heap.size,0)->VR ρ' (ptr id 0) (.pointer (some ⟨w.heap.size,0,none⟩)):=by intro ρ' id _ h;exact VR.of1 (by simp[ptr,cW,cU,h])
def kO (n m:Nat):∀(ρ':Ren) (id:Nat),ρ.le ρ'->ρ' id=some (w.heap.size,0)->VR ρ' (.slice (some ⟨id,0,none⟩) n (2*m)) (.slice (some ⟨w.heap.size,0,none⟩) n m):=by
 intro ρ' id _ h;have e:2*m / 2=m:=by omega
 exact VR.of1 (by simp[cW,cU,h,e])
variable {E : Env} (hE : TypesOK P E) {h : H} (hr : eZ P ρ h w)
include hE hr
def oe {t:TM} {a:Act} (ht:ek ρ t a) {o:Oper} {ob:AO} {k:Nat->Value} (hl:dk E t o=some (ob,k)):
  ∃O V',(execOp a.eval o).run P w=.ok (.value V') (w.alloc O)/\live ob=true/\wr ob=true/\(∀ρ',ρ.le ρ'->eV P ρ' (w.alloc O) (w.heap.size,0) ob) /\
   ∀ρ' id,ρ.le ρ'->ρ' id=some (w.heap.size,0)->VR ρ' (k id) V':=by
 have hev:=j5 hr ht;unfold dk at hl;unfold execOp;split at hl
 ·rename_i e eo;have key:∀{l:List Value},cK E e=some l->(Instr.alloc e true (.tuple #[])).run P w=.ok (.pointer (some ⟨w.heap.size,0,none⟩)) (w.alloc (.cells ⟨l⟩ e))/\bT (ga ρ) l l:=by intro l hz;obtain⟨z,h1,h2,h3⟩:=eU (ρ:=ρ) hE hz w;exact⟨by simp[Instr.alloc,h1,newVar,newRow,h2],h3⟩
  split at hl
  ·rename_i hz;simp only[I9,JA] at hl;obtain⟨rfl,rfl⟩:=hl;obtain⟨h1,h2⟩:=key hz;exact⟨.cells ⟨[]⟩ e,_,by simp[eo,h1],rfl,rfl,qs e rfl (λi hi=>by omega),iB⟩
  ·rename_i x l n0 e0 hz hu;obtain⟨h1,h2⟩:=key hz;refine⟨.cells ⟨x :: l⟩ e,.pointer (some ⟨w.heap.size,0,none⟩),by simp[eo,h1],?_⟩;cases hs:l.all (gu x) with
   | true=>
    simp only[hs,Jo,I9,JA] at hl;obtain⟨rfl,rfl⟩:=hl;refine⟨rfl,rfl,qs e rfl (λi hi=>?_),iB⟩;have hlt:i<(x :: l).length:=hi;obtain⟨v',e1,e2⟩:=h2.get i (x :: l)[i] (Jn hlt);refine⟨v',by simpa using e1,?_⟩;have:(x :: l)[i]=x:=by
     cases i with
     | zero=>rfl
     | succ i=> simp only[List.getElem_cons_succ];exact (mN (Jv.1 hs _ (J6 _))).symm
    rw[this] at e2;exact e2
   | false=> simp only[hs,JP,I9,JA] at hl;obtain⟨rfl,rfl⟩:=hl;refine⟨rfl,rfl,qs e rfl (λi hi=>?_),iB⟩;have hlt:i<(x :: l).length:=hi;exact⟨(x :: l)[i],by simp[hlt],.inl rfl⟩
  ·rename_i x l d hne hz hu;simp only[I9,JA] at hl;obtain⟨rfl,rfl⟩:=hl;obtain⟨h1,h2⟩:=key hz;exact⟨.cells ⟨x :: l⟩ e,_,by simp[eo,h1],rfl,rfl,jK e h2,iB⟩
  ·cases hl
 ·rename_i e x eo;cases hc:(cellsOfV (ev t x)).all cell1 with
  | false=>simp[hc] at hl
  | true=> simp only[hc,Jo,I9,JA] at hl;obtain⟨rfl,rfl⟩:=hl;obtain⟨l',e1,e2,_⟩:=mB (hev x) hc;exact⟨.cells ⟨l'⟩ e,_,by simp[eo,Instr.box,newVar,newRow,e1],rfl,rfl,jK e e2,iB⟩
 ·rename_i ty len parts eo;split at hl
  ·rename_i e hu;split at hl
   ·rename_i s z hs hz;cases hck:(ble (len*s) 100000&&beq z.length s) with
    | false=>simp[hck] at hl
    | true=>
     simp only[hck,Jo] at hl;simp only[Ja] at hck;have h1:=I7 hck.1;have h2:=I8 hck.2;cases hf:dx (λi=>some (i*s,s)) (List.replicate len z).flatten (parts.toList.map λp=>(p.1,ev t p.2)) with
     | none=>simp[hf] at hl
     | some cs=>
      simp only[hf,I9,JA] at hl;obtain⟨rfl,rfl⟩:=hl;obtain⟨z0,z1,z2,z3⟩:=eU (ρ:=ρ) hE hz w;have hrep:=qW z3 len;have hlen:=ni _ _ _ _ hf
      obtain⟨r',hr',hall⟩:=na (pl':=λi=>some (i*s,s)) (by intro i p h;exact h) _ (parts.toList.map λp=>(p.1,a.eval p.2)) _ _ cs (by simp) (by
       intro i p p' e1 e2;rw[JX] at e1 e2;cases hq:parts.toList[i]? with
       | none=>simp[hq] at e1
       | some q=>
        simp only[hq,KD,I9] at e1 e2;subst e1;subst e2
        exact⟨rfl,hev _⟩) hrep hf
      have ep:(parts.map λ(x:Nat × Operand)=>match x with | (i,x)=>(i,a.eval x))=⟨parts.toList.map λp=>(p.1,a.eval p.2)⟩:=by apply Array.ext';simp
      refine⟨.cells ⟨r'⟩ e,.slice (some ⟨w.heap.size,0,none⟩) len len,?_,rfl,rfl,?_,kO len len⟩
      ·have hm:¬ 2 ^ 24<len*s:=by omega
       simp only[eo];rw[ep];rw[h2] at hr';by_cases h0:len*s=0
       ·rw[h0] at hr';simp only[Instr.buildSlice,Sem.run_bind,bn hE hu,Result.andThen_ok,dy hE hs,h0];simp[Array.range_zero'] at hr' ⊢;simp[hr',newRow]
       ·have hr2:Instr.fill (λi=>some (i*s,s)) ((Array.range (len*s)).map (λi=>(⟨z⟩:Array Value)[i%(⟨z⟩:Array Value).size]!)) (parts.toList.map λp=>(p.1,a.eval p.2))=some ⟨r'⟩:=by rw[<-hr']
        simp only[Instr.buildSlice,Sem.run_bind,bn hE hu,Result.andThen_ok,dy hE hs];rw[if_neg hm];simp only[if_neg h0];simp only[Sem.run_bind,z1,Result.andThen_ok,Sem.run_pure,z2,hr2,newRow];rfl
      ·rw[<-h2,<-iN,<-hlen];exact jK e hall
   ·cases hl
  ·cases hl
 ·rename_i ty l c eo;split at hl
  ·rename_i e kl n kc m hu el ec;split at hl
   ·rename_i i z hi hz;cases hck:(ble n m&&ble m 100000000&&ble (i.bytes*m) 1000000000&&beq z.length i.size) with
    | false=>simp[hck] at hl
    | true=>
     simp only[hck,Jo] at hl;simp only[Ja] at hck;obtain⟨⟨⟨c1,c2⟩,c3⟩,c4⟩:=hck;have c1:=I7 c1;have c2:=I7 c2;have c3:=I7 c3;have c4:=I8 c4;have vl:=hev l;have vc:=hev c;rw[el] at vl;rw[ec] at vc;have hi':P.info? e=some i:=hE.types e i hi;obtain⟨z0,z1,z2,z3⟩:=eU (ρ:=ρ) hE hz w;have hz0:i.zero=some z0:=by
      cases hzz:i.zero with
      | none=>simp[zeroValue,typeInfo,hi',hzz] at z1
      | some q=>simp[zeroValue,typeInfo,hi',hzz] at z1;rw[z1]
     have hb:((i.bytes:Int)*(m:Int)<=281474976710656):=by
      have h:((i.bytes*m:Nat):Int)<=281474976710656:=by omega
      rwa [Int.natCast_mul] at h
     have hrun:=run_make (P:=P) w ty e i z0 (cV hE hu) hi' hz0 kl kc (n:Int) (m:Int) (by omega) (by omega) hb (by omega);simp only[Int.toNat_natCast] at hrun;have hrep:=qW z3 m;rw[<-z2,c4] at hrep;have hx:(execOp a.eval o).run P w=.ok (.value (.slice (some ⟨w.heap.size,0,none⟩) n m)) (w.alloc (.cells (madeCells z0.cells (m*i.size)) e)):=by unfold execOp;simp only[eo];rw[vl.int,vc.int,Sem.run_bind];rw[show (Int.ofNat n)=(n:Int) from rfl,show (Int.ofNat m)=(m:Int) from rfl,hrun];rfl
     unfold execOp at hx;have hrow:=jK (P:=P) (w:=w) (ρ:=ρ) e (cs:=madeCells z0.cells (m*i.size)) hrep;have hfl:=iN z m;rw[c4] at hfl;rw[hfl] at hrow;split at hl
     ·rename_i x _ _ _;simp only[I9,JA] at hl;obtain⟨rfl,rfl⟩:=hl;refine⟨_,_,hx,rfl,rfl,?_,kO n m⟩;simp only[Jz,Kl,JN] at c4;refine qs e (by simp[size_madeCells,<-c4]) λj hj=>?_;obtain⟨v',e1,e2⟩:=hrep.get j _ (by rw[flat_get _ _ _ (by simpa using hj)];simp only[Jz,Kl,JN,Nat.mod_one];rfl);exact⟨v',by rw[<-Kb];exact e1,e2⟩
     ·cases hm:ble m 10000 with
      | false=>simp[hm] at hl
      | true=> simp only[hm,Jo,I9,JA] at hl;obtain⟨rfl,rfl⟩:=hl;refine⟨_,_,hx,rfl,rfl,?_,kO n m⟩;exact hrow
   ·cases hl
  ·cases hl
 ·rename_i ty eo;simp only[I9,JA] at hl;obtain⟨rfl,rfl⟩:=hl;refine⟨.map #[] 0,.map (some w.heap.size),by simp[eo,Instr.makeMap],rfl,rfl,λρ' _=>⟨#[],heap_alloc_new w _,trivial⟩,λρ' id _ h=>VR.of1 (by simp[cW,cU,h])⟩
 ·rename_i ty r eo;split at hl
  ·rename_i k0 e0 kr n hu er;simp only[I9,JA] at hl;obtain⟨rfl,rfl⟩:=hl;have vr:=hev r;rw[er] at vr;refine⟨.map #[] 0,.map (some w.heap.size),?_,rfl,rfl,λρ' _=>⟨#[],heap_alloc_new w _,trivial⟩,λρ' id _ h=>VR.of1 (by simp[cW,cU,h])⟩;simp[eo,Instr.makeMap,vr.int,bn hE hu,asInt,asIntOf]
  ·cases hl
 ·rename_i ty x eo;split at hl
  ·rename_i d0 v0 l hu ex;simp only[I9,JA] at hl;obtain⟨rfl,rfl⟩:=hl;have vx:=hev x;rw[ex] at vx;refine⟨.stringIter ⟨⟨l⟩⟩ 0,.pointer (some ⟨w.heap.size,0,none⟩),?_,rfl,rfl,λρ' _=>heap_alloc_new w _,iB⟩;simp[eo,Instr.range,vx.string,bn hE hu]
  ·cases hl
 ·cases hl
end
end
section
def dX {n:Nat} (h:n<=1000000000+2000):n+1<2 ^ deep:=by
 have:(2:Nat) ^ deep=1099511627776:=by decide
 omega
def eV.congr {P:Program} {ρ:Ren} {w w':World} {p:Nat × Nat} {ob:AO} (hh:w'.heap[p.1]?=w.heap[p.1]?) (h:eV P ρ w p ob):eV P ρ w' p ob:=by
 cases ob with
 | dead=>trivial
 | row e n op ro fz c=>obtain⟨cs,fr,h1,h2⟩:=h;exact⟨cs,fr,hh.trans h1,h2⟩
 | map es clock=>obtain⟨es',h1,h2⟩:=h;exact⟨es',hh.trans h1,h2⟩
 | iter s pos=>exact hh.trans h
def je.mono {ρ ρ':Ren} (h:ρ.le ρ'):∀{l:List (Value × Value)} {m:List MapEntry},je ρ l m->je ρ' l m
 | [],[],_=>trivial
 | _ :: _,_ :: _,⟨h1,h2,h3⟩=>⟨h1,h2.mono h,je.mono h h3⟩
 | [],_ :: _,h=>h.elim
 | _ :: _,[],h=>h.elim
def eV.mono {P:Program} {ρ ρ':Ren} (hl:ρ.le ρ') {w:World} {p:Nat × Nat} {ob:AO} (h:eV P ρ w p ob):eV P ρ' w p ob:=by
 cases ob with
 | dead=>trivial
 | row e n op ro fz c=> obtain⟨cs,fr,h1,h2,h3,h4,h5,h6⟩:=h;exact⟨cs,fr,h1,h2,h3,h4,λi hi=>let ⟨v,a,b⟩:=h5 i hi;⟨v,a,b.mono hl⟩,h6⟩
 | map es clock=>obtain⟨es',h1,h2⟩:=h;exact⟨es',h1,h2.mono hl⟩
 | iter s pos=>exact h
def CF {ob:AO} (h:wr ob=true):live ob=true:=by cases ob <;> first | rfl | simp[wr] at h
section
variable {P : Program} {ρ : Ren} {h : H} {w : World}
def Step.set (hr:eZ P ρ h w) {id:Nat} {p:Nat × Nat} (hp:ρ id=some p) (hw:wr (h.objs.get id)=true) {w':World} {ob:AO}
  (hother:∀b,b≠p.1->w'.heap[b]?=w.heap[b]?) (hsize:w'.heap.size=w.heap.size) (ht:w'.tape=w.tape) (ho:w'.os=w.os) (hout:w'.output=w.output)
  (hob:eV P ρ w' p ob):Step P ρ h w ρ (h.set id ob) w':=by
 have hlive:=CF hw;have hsm:=hr.small id hlive;have hget:∀k,(h.set id ob).objs.get k=if k=id then ob else h.objs.get k:=λk=>T.get_ins _ _ _ _ _ hsm
 have hold:∀j,live ((h.set id ob).objs.get j)=true->live (h.objs.get j)=true:=by
  intro j hj;by_cases e:j=id
  ·subst e;exact hlive
  ·rw[hget,if_neg e] at hj;exact hj
 refine⟨ρ.le_refl,λ_ _ e _=>e,Jd _,?_,⟨hr.dom,?_,?_,?_,?_,hr.glob,?_⟩,?_,?_,by omega,ht,ho,hout⟩
 ·intro j hj hn;rw[hget,if_neg];intro e;subst e;rw[hp] at hn;cases hn
 ·intro i j a b ha hb hi hj e;exact hr.inj i j a b ha hb (hold i hi) (hold j hj) e
 ·intro j q hq;by_cases e:j=id
  ·subst e;rw[hp] at hq;cases hq;rw[hget,if_pos rfl];exact hob
  ·rw[hget,if_neg e];by_cases hl:live (h.objs.get j)=true
   ·have hne:q.1≠p.1:=λe'=>e (hr.inj j id q p hq hp hl hlive e');exact (hr.obj j q hq).congr (hother _ hne)
   ·cases ho:h.objs.get j with
    | dead=>trivial
    | row _ _ _ _ _ _=>rw[ho] at hl;simp[live] at hl
    | map _ _=>rw[ho] at hl;simp[live] at hl
    | iter _ _=>rw[ho] at hl;simp[live] at hl
 ·intro j hj;exact hr.small j (hold j hj)
 ·intro j hj;have hlt:=hr.dom id p hp;rw[hget,if_neg (by have:h.next<=j:=hj;omega)];exact hr.fresh j hj
 ·intro j q hq hl;rw[hsize];exact hr.inside j q hq (hold j hl)
 ·intro b hb hn;refine hother b λe=>hn ⟨id,p,hp,e.symm,hw⟩
 ·rintro b ⟨j,q,hq,e,hj⟩ hb;by_cases e':j=id
  ·subst e';rw[hp] at hq;cases hq;exact⟨j,p,hp,e,hw⟩
  ·rw[hget,if_neg e'] at hj;exact⟨j,q,hq,e,hj⟩
def Ren.upd (ρ:Ren) (id:Nat) (p:Nat × Nat):Ren:=λj=>if j=id then some p else ρ j
def Ren.le_upd {ρ:Ren} {id:Nat} {p:Nat × Nat} (h:ρ id=none):ρ.le (ρ.upd id p):=by
 intro j q e;unfold Ren.upd;rw[if_neg]
 ·exact e
 ·intro e';subst e';rw[h] at e;cases e
def Ren.upd_same {ρ:Ren} {id:Nat} {p:Nat × Nat}:ρ.upd id p id=some p:=if_pos rfl
def Ren.upd_other {ρ:Ren} {id j:Nat} {p:Nat × Nat} (h:j≠id):ρ.upd id p j=ρ j:=if_neg h
def Step.give (hr:eZ P ρ h w) {id:Nat} {p:Nat × Nat} {O:T AO} {w':World} {ob:AO}
  (hn:ρ id=none) (hid:h.next=id) (hsm:id+1<2 ^ deep)
  (hO:∀j,O.get j=h.objs.get j \/ (O.get j=.dead/\(ρ j).isSome=true))
  (hne:∀j q,ρ j=some q->live (O.get j)=true->q.1≠p.1/\w'.heap[q.1]?=w.heap[q.1]?)
  (hin:p.1<w'.heap.size) (hob:∀ρ',ρ.le ρ'->eV P ρ' w' p ob)
  (hsame:∀b,b<w.heap.size->¬ Wr ρ h b->w'.heap[b]?=w.heap[b]?) (hown:p.1<w.heap.size->Wr ρ h p.1)
  (hsize:w.heap.size<=w'.heap.size) (ht:w'.tape=w.tape) (ho:w'.os=w.os) (hout:w'.output=w.output):
  Step P ρ h w (ρ.upd id p) (H.push { h with objs:=O } ob) w':=by
 have hget:∀k,(H.push { h with objs:=O } ob).objs.get k=if k=id then ob else O.get k:=by intro k;show (T.ins deep O h.next ob).get k=_;rw[hid,T.get_ins _ _ _ _ _ hsm]
 have hle:=Ren.le_upd (p:=p) hn;have hlive:∀j,live (O.get j)=true->live (h.objs.get j)=true:=by
  intro j hj;rcases hO j with e | e
  ·rwa [e] at hj
  ·rw[e.1] at hj;cases hj
 refine⟨hle,?_,?_,?_,⟨?_,?_,?_,?_,?_,?_,?_⟩,hsame,?_,hsize,ht,ho,hout⟩
 ·intro j q e hl;rw[Ren.upd_other (by omega)] at e;exact e
 ·show h.next<=h.next+1;omega
 ·intro j hj hnn;rw[hget,if_neg (by omega)];rcases hO j with e | e
  ·exact e
  ·rw[hnn] at e;simp at e
 ·intro j q e;show j<h.next+1;by_cases ej:j=id
  ·omega
  ·rw[Ren.upd_other ej] at e;have:=hr.dom j q e;omega
 ·intro i j a b ha hb hi hj e;by_cases ei:i=id
  ·by_cases ej:j=id
   ·rw[ei,ej]
   ·exfalso;rw[ei,Ren.upd_same] at ha;cases ha;rw[Ren.upd_other ej] at hb;rw[hget,if_neg ej] at hj;exact (hne j b hb hj).1 e.symm
  ·rw[Ren.upd_other ei] at ha;rw[hget,if_neg ei] at hi;by_cases ej:j=id
   ·exfalso;rw[ej,Ren.upd_same] at hb;cases hb;exact (hne i a ha hi).1 e
   ·rw[Ren.upd_other ej] at hb;rw[hget,if_neg ej] at hj;exact hr.inj i j a b ha hb (hlive i hi) (hlive j hj) e
 ·intro j q hq;rw[hget];by_cases ej:j=id
  ·rw[ej,Ren.upd_same] at hq;cases hq;rw[if_pos ej];exact hob _ hle
  ·rw[Ren.upd_other ej] at hq;rw[if_neg ej];by_cases hl:live (O.get j)=true
   ·have:=(hr.obj j q hq).congr (hne j q hq hl).2;rcases hO j with e | e
    ·rw[e];exact this.mono hle
    ·rw[e.1];trivial
   ·cases e:O.get j with
    | dead=>trivial
    | row _ _ _ _ _ _=>rw[e] at hl;simp[live] at hl
    | map _ _=>rw[e] at hl;simp[live] at hl
    | iter _ _=>rw[e] at hl;simp[live] at hl
 ·intro j hj;rw[hget] at hj;by_cases ej:j=id
  ·rw[ej];exact hsm
  ·rw[if_neg ej] at hj;exact hr.small j (hlive j hj)
 ·intro j hj;have hj:h.next+1<=j:=hj;rw[hget,if_neg (by omega)];rcases hO j with e | e
  ·rw[e];exact hr.fresh j (by omega)
  ·exact e.1
 ·intro g hg;have:=hr.glob g hg;rw[Ren.upd_other]
  ·exact this
  ·intro e;rw[e,hn] at this;cases this
 ·intro j q hq hl;by_cases ej:j=id
  ·rw[ej,Ren.upd_same] at hq;cases hq;exact hin
  ·rw[Ren.upd_other ej] at hq;rw[hget,if_neg ej] at hl;exact Jp (hr.inside j q hq (hlive j hl)) hsize
 ·rintro b ⟨j,q,hq,e,hj⟩ hb;by_cases ej:j=id
  ·rw[ej,Ren.upd_same] at hq;cases hq;rw[<-e] at hb ⊢;exact hown hb
  ·rw[Ren.upd_other ej] at hq;rw[hget,if_neg ej] at hj;rcases hO j with e' | e'
   ·rw[e'] at hj;exact⟨j,q,hq,e,hj⟩
   ·rw[e'.1] at hj;cases hj
def eZ.unmapped (hr:eZ P ρ h w) {id:Nat} (hid:h.next<=id):ρ id=none:=by
 cases e:ρ id with
 | none=>rfl
 | some p=>have:=hr.dom id p e;omega
def Step.alloc (hr:eZ P ρ h w) (hroom:room h=true) {O:Obj} {x:Nat} {ob:AO} (hob:∀ρ',ρ.le ρ'->eV P ρ' (w.alloc O) (w.heap.size,x) ob):
  Step P ρ h w (ρ.upd h.next (w.heap.size,x)) (h.push ob) (w.alloc O):=by
 have hroom:=I7 hroom;have:=Step.give hr (id:=h.next) (p:=(w.heap.size,x)) (O:=h.objs) (w':=w.alloc O) (ob:=ob) (hr.unmapped (Jd _)) rfl (dX (by omega)) (λ_=>.inl rfl)
  (λj q hq hl=>by
   have hlt:=hr.inside j q hq hl
   exact⟨by show q.1≠w.heap.size;omega,heap_alloc_old w O _ hlt⟩) (by simp) hob (λb hb _=>heap_alloc_old w O b hb) (λh=>absurd h (KO _)) (by simp) rfl rfl rfl
 exact this
def eZ.drew (hr:eZ P ρ h w):eZ P ρ h w.drew:=
 ⟨hr.dom,hr.inj,λid p hp=>(hr.obj id p hp).congr rfl,hr.small,hr.fresh,hr.glob,hr.inside⟩
def Step.drew (hr:eZ P ρ h w):Step P ρ h w ρ h w.drew:=
 ⟨ρ.le_refl,λ_ _ e _=>e,Jd _,λ_ _ _=>rfl,hr.drew,λ_ _ _=>rfl,λ_ e _=>e,Jd _,rfl,rfl,rfl⟩
end
end
section
def bJ:∀(l:List Value) (c:T Value) (off:Nat),off+l.length<=1000000000->∀k,(putCells c off l).get k=if off<=k/\k<off+l.length then l.getD (k-off) unk else c.get k
 | [],c,off,_,k=>by rw[if_neg (by simp)];rfl
 | v :: l,c,off,h,k=>by
  simp only[Jz] at h;simp only[putCells];rw[bJ l _ (off+1) (by omega) k,T.get_ins _ _ _ _ _ (dX (by omega))];by_cases e:k=off
  ·subst e;rw[if_neg (by omega),if_pos rfl,if_pos (by simp)];simp
  ·rw[if_neg e];by_cases h1:off+1<=k/\k<off+1+l.length
   ·rw[if_pos h1,if_pos (by simp only[Jz];omega)];rw[show k-off=(k-(off+1))+1 by omega];simp
   ·rw[if_neg h1,if_neg (by simp only[Jz];omega)]
def iZ (b:Nat) (t:TypeId) (fr:Nat × Nat):∀(vs:List Value) (o:Nat) (w:World) (cur:Array Value),w.heap[b]?=some (.cells cur t fr)->o+vs.length<=cur.size ->
  ∃cur':Array Value,(w.setCells b o vs).heap[b]?=some (.cells cur' t fr)/\cur'.size=cur.size/\(∀k,cur'[k]?=if o<=k/\k<o+vs.length then vs[k-o]? else cur[k]?) /\
   (∀k,k≠b->(w.setCells b o vs).heap[k]?=w.heap[k]?)/\(w.setCells b o vs).heap.size=w.heap.size /\
   (w.setCells b o vs).tape=w.tape/\(w.setCells b o vs).os=w.os/\(w.setCells b o vs).output=w.output
 | [],o,w,cur,hg,_=>by refine⟨cur,hg,rfl,λk=>?_,λ_ _=>rfl,rfl,rfl,rfl,rfl⟩;rw[if_neg (by simp)]
 | v :: l,o,w,cur,hg,hl=>by
  simp only[Jz] at hl;have e:=setCell_eq_setRow w b o cur t fr v hg;have hg':(w.setCell ⟨b,o,none⟩ v).heap[b]?=some (.cells (cur.setIfInBounds o v) t fr):=by rw[e];exact setRow_heap w b cur _ t fr hg
  obtain⟨cur',h1,h2,h3,h4,h5,h6,h7,h8⟩:=iZ b t fr l (o+1) (w.setCell ⟨b,o,none⟩ v) (cur.setIfInBounds o v) hg' (by simp;omega);refine⟨cur',h1,by simpa using h2,λk=>?_,λk hk=>?_,?_,?_,?_,?_⟩
  ·rw[h3 k];by_cases e:k=o
   ·subst e;rw[if_neg (by omega),if_pos (by simp)];have:k<cur.size:=by omega
    simp[this]
   ·by_cases h':o+1<=k/\k<o+1+l.length
    ·rw[if_pos h',if_pos (by simp only[Jz];omega)];rw[show k-o=(k-(o+1))+1 by omega];simp
    ·rw[if_neg h',if_neg (by simp only[Jz];omega)];rw[Array.getElem?_setIfInBounds_ne (λe'=>e e'.symm)]
  ·rw[World.setCells,h4 k hk];rw[e];exact setRow_other w b k _ hk
  ·rw[World.setCells,h5,e];exact setRow_size _ _ _
  ·rw[World.setCells,h6,e];rfl
  ·rw[World.setCells,h7,e];rfl
  ·rw[World.setCells,h8,e];rfl
section
variable {P : Program} {ρ : Ren} {h : H} {w : World}
def nC (hr:eZ P ρ h w) {id:Nat} {p:Nat × Nat} (hp:ρ id=some p) {off:Nat} {l l':List Value} {h':H}
  (hs:ci h ⟨id,off,none⟩ l=some h') (ha:bT (ga ρ) l l') (h1:∀u∈l',u.oneCell'=true):
  (storeCells ⟨p.1,off,none⟩ l').run P w=.ok () (w.setCells p.1 off l')/\Step P ρ h w ρ h' (w.setCells p.1 off l'):=by
 unfold ci at hs;split at hs
 ·rename_i e n op fz c ho;cases hck:(ble fz off&&ble (off+l.length) n&&ble n 1000000000&&l.all cell1) with
  | false=>simp[hck] at hs
  | true=>
   simp only[hck,Jo,I9] at hs;subst hs;simp only[Ja] at hck;obtain⟨⟨⟨c1,c2⟩,c3⟩,_⟩:=hck;have c1:=I7 c1;have c2:=I7 c2;have c3:=I7 c3;have hO:=hr.obj _ _ hp;have ho':h.objs.get id=.row e n op false fz c:=ho;rw[ho'] at hO;obtain⟨cs,fr,hg,hn,hcl,hop,hc,hfr⟩:=hO;have hfr:=hfr.resolve_left (by simp);have hlen:=ha.length;obtain⟨cur',g1,g2,g3,g4,g5,g6,g7,g8⟩:=iZ p.1 e fr l' off w cs hg (by omega);refine⟨?_,?_⟩
   ·have:=run_storeCells_cells (P:=P) p.1 off l' 0 w (λj hj=>by
     have:off+0+j<cs.size:=by omega
     simp[World.cell?,hg];omega) (λj hj=>by
     simp[World.frozen?,hg]
     omega) h1
    simpa using this
   ·refine Step.set hr hp (by rw[ho'];rfl) g4 g5 g6 g7 g8 ⟨cur',fr,g1,by omega,λe'=>by have:=hcl e';omega,λe'=>?_,λi hi=>?_,.inr hfr⟩
    ·obtain⟨i,hi,hsz⟩:=hop e';exact⟨i,hi,by omega⟩
    ·rw[g3 i,bJ _ _ _ (by omega)];by_cases hk:off<=i/\i<off+l.length
     ·rw[if_pos hk,if_pos (by omega)];have hlt:i-off<l.length:=by omega
      obtain⟨v',e1,e2⟩:=ha.get (i-off) l[i-off] (Jn hlt);refine⟨v',e1,?_⟩;rw[Jc,Jn hlt];exact e2
     ·rw[if_neg hk,if_neg (by omega)];exact hc i hi
 ·cases hs
def Ed {E:Env} (hE:TypesOK P E) (hr:eZ P ρ h w) {t:TypeId} {ad:Addr} {p:Nat × Nat} (hp:ρ ad.block=some p) (hsp:ad.spot=none) {v v':Value} (hv:VR ρ v v') {h':H} (hs:nS E h t ad v=some h'):
  ∃w',(storeVar t ⟨p.1,ad.off,none⟩ v').run P w=.ok () w'/\Step P ρ h w ρ h' w':=by
 unfold nS at hs;split at hs
 ·rename_i s hsz;cases hl:beq (cellsOfV v).length s with
  | false=>simp[hl] at hs
  | true=>
   simp only[hl,Jo] at hs;have hl:=I8 hl;have hall:(cellsOfV v).all cell1=true:=by
    unfold ci at hs;split at hs
    ·rename_i e n op fz c ho;cases hck:(ble fz ad.off&&ble (ad.off+(cellsOfV v).length) n&&ble n 1000000000&&(cellsOfV v).all cell1) with
     | false=>simp[hck] at hs
     | true=>simp only[Ja] at hck;exact hck.2
    ·cases hs
   obtain⟨l',e1,e2,e3⟩:=mB hv hall;have hlen:=e2.length;obtain⟨b,off,sp⟩:=ad;simp only at hsp hp;subst hsp;obtain⟨r1,r2⟩:=nC hr hp hs e2 e3;refine⟨_,?_,r2⟩;unfold storeVar;have hne:¬ (v'.cells.size≠s):=by rw[e1];simp;omega
   simp only[Sem.run_bind,dy hE hsz,Result.andThen_ok];rw[if_neg hne];simp only[e1];exact r1
 ·cases hs
def ik {ad:Addr} {l:List Value} {h':H} (hs:ci h ad l=some h'):l.all cell1=true:=by
 unfold ci at hs;split at hs
 ·rename_i e n op fz c ho;cases hck:(ble fz ad.off&&ble (ad.off+l.length) n&&ble n 1000000000&&l.all cell1) with
  | false=>simp[hck] at hs
  | true=>simp only[Ja] at hck;exact hck.2
 ·cases hs
def mX {l l':List Value} (ha:bT (ga ρ) l l') (hl:l.all cell1=true):∀u∈l',u.oneCell'=true:=by
 intro u hu;obtain⟨i,hi⟩:=List.getElem?_of_mem hu;have hlt:i<l.length:=by have:=ha.length;have:=(List.getElem?_eq_some_iff.1 hi).1;omega
 obtain⟨v',hv',hr⟩:=ha.get i l[i] (by simp[hlt]);rw[hi] at hv';cases hv';exact (oh (Jv.1 hl _ (J6 hlt)) hr).2
end
end
section
def sC {ρ:Ren}:∀(l:List UInt8),bT (ga ρ) (l.map λb=>Value.int .u8 b.toNat) (l.map λb=>Value.int .u8 b.toNat)
 | []=>trivial
 | _ :: l=>⟨.inr rfl,sC l⟩
section
variable {P : Program} {ρ : Ren} {h : H} {w : World}
def AU (hr:eZ P ρ h w) {s n:Nat} {y y':Value} {l:List Value} (hy:VR ρ y y') (hs:lE h s n y=some l):
  ∃l',(∀w1:World,w1.heap=w.heap->(Builtin.firstCells s n y').run P w1=.ok ⟨l'⟩ w1)/\bT (ga ρ) l l'/\l.length=n*s:=by
 unfold lE at hs;split at hs
 ·rename_i ad k c;have emp:beq n 0=true->l=[]->∃l',(∀w1:World,w1.heap=w.heap->(Builtin.firstCells s n y').run P w1=.ok ⟨l'⟩ w1)/\bT (ga ρ) l l'/\l.length=n*s:=by intro hn0 hl;subst hl;have hn:=I8 hn0;subst hn;obtain⟨a',c',rfl,_⟩:=hy.slice_some;refine⟨[],λw1 _=>?_,trivial,by simp⟩;simp only[Builtin.firstCells,Nat.zero_mul];rfl
  split at hs
  ·rename_i e m op ro fz cs hsp0 ho;cases hle:ble (ad.off+n*s) m with
   | false=>
    rw[hle,JP] at hs;cases hn0:beq n 0 with
    | false=>rw[hn0] at hs;exact nomatch hs
    | true=>rw[hn0,Jo,I9] at hs;exact emp hn0 hs.symm
   | true=>
    simp only[hle,Jo,I9] at hs;subst hs;obtain⟨p,hp,hsp,rfl⟩:=hy.slice (.inr (.inr hsp0));have hO:=hr.obj _ _ hp;rw[ho] at hO;obtain⟨l',h1,h2,h3⟩:=eR hO (n*s) ad.off (I7 hle);refine⟨l',λw1 hw=>?_,h3,by rw[h3.length,h1]⟩
    exact run_firstCells_some (P:=P) w1 s n ⟨p.1,ad.off,none⟩ _ _ l' h1 (λj v hj=>by
     have:=h2 j v hj
     simpa [World.cell?,hw] using this)
  ·cases hn0:beq n 0 with
   | false=>rw[hn0] at hs;exact nomatch hs
   | true=>rw[hn0,Jo,I9] at hs;exact emp hn0 hs.symm
 ·rename_i k c;cases hn:beq n 0 with
  | false=>simp[hn] at hs
  | true=> simp only[hn,Jo,I9] at hs;subst hs;have hn:=I8 hn;subst hn;rw[hy.nilslice];exact⟨[],λw1 _=>run_firstCells_none w1 _ _ _ _,trivial,by simp⟩
 ·rename_i l0;cases hck:(beq s 1&&ble n l0.length) with
  | false=>simp[hck] at hs
  | true=>
   simp only[hck,Jo,I9] at hs;subst hs;simp only[Ja] at hck;have h1:=I8 hck.1;have h2:=I7 hck.2;subst h1;rw[hy.string];refine⟨(l0.take n).map λb=>.int .u8 b.toNat,λw1 _=>?_,sC _,by simp;omega⟩;simp only[Builtin.firstCells,Sem.run_pure]
   congr 1
   apply Array.ext';simp[lJ]
 ·cases hs
def CB {s n:Nat} {y y':Value} {l:List Value} (hy:VR ρ y y') (hs:lE h s n y=some l) (w:World):(Builtin.lenOf y').run P w=.ok (ja y) w:=by
 unfold lE at hs;split at hs
 ·obtain⟨_,_,rfl,_⟩:=hy.slice_some;rfl
 ·rw[hy.nilslice];rfl
 ·rw[hy.string];rfl
 ·cases hs
variable {E : Env} (hE : TypesOK P E)
include hE
def GO (hr:eZ P ρ h w) {t:TypeId} {tys:Array TypeId} (ht:tys[0]?=some t) (ty:TypeId) {x x' y y' v:Value} {h':H} (hx:VR ρ x x') (hy:VR ρ y y') (hv:copyV E h t x y=some (v,h')):
  ∃w',(Builtin.copy_ tys ty #[x',y']).run P w=.ok v w'/\VR ρ v v/\Step P ρ h w ρ h' w':=by
 unfold copyV at hv;split at hv
 ·rename_i e a n c hu;split at hv
  ·rename_i s hs;simp only at hv;have hk:(bif ble (ja y) n then ja y else n)=Nat.min (ja y) n:=by
    cases hb:ble (ja y) n with
    | true=>have:=I7 hb;simp[Nat.min_eq_left this]
    | false=>
     have:n<=ja y:=by
      rcases Nat.le_total (ja y) n with h | h
      ·rw[Js h] at hb;cases hb
      ·exact h
     simp[Nat.min_eq_right this]
   rw[hk] at hv;cases hsrc:lE h s (Nat.min (ja y) n) y with
   | none=>simp[hsrc] at hv
   | some cs=>
    simp only[hsrc] at hv;obtain⟨l',h1,h2,h3⟩:=AU hr hy hsrc;have h1:=h1 w rfl;have hlen:=CB (P:=P) hy hsrc w;cases a with
    | none=> simp only[I9,JA] at hv;obtain⟨rfl,rfl⟩:=hv;rw[hx.nilslice];exact⟨w,by simp[Builtin.copy_,ht,bn hE hu,hlen,dy hE hs,h1];rfl,VR.of1 rfl,Step.refl hr⟩
    | some ad=>
     simp only at hv;cases hsp0:ad.spot.isSome with
     | true=>rw[hsp0] at hv;exact nomatch hv
     | false=>
     rw[hsp0,JP] at hv;cases hst:ci h ad cs with
     | none=>simp[hst] at hv
     | some h2'=> simp only[hst,I9,JA] at hv;obtain⟨rfl,rfl⟩:=hv;obtain⟨p,hp,hsp,rfl⟩:=hx.slice (.inr (.inr (by simpa using hsp0)));obtain⟨b,off,sp⟩:=ad;simp only at hsp hp;subst hsp;obtain⟨r1,r2⟩:=nC hr hp hst h2 (mX h2 (ik hst));exact⟨_,by simp[Builtin.copy_,ht,bn hE hu,hlen,dy hE hs,h1,r1];rfl,VR.of1 rfl,r2⟩
  ·cases hv
 ·cases hv
end
end
section
def kA {ρ:Ren} {z:List Value} (hz:bT (ga ρ) z z) (k:Nat):∃l',Builtin.zeroCells ⟨z⟩ k=⟨l'⟩/\bT (ga ρ) (List.replicate k z).flatten l':=
 ⟨_,rfl,qW hz k⟩
def BU (P:Program) (tys:List TypeId):Prop:=tys=[] \/ ∃u l d,tys=u :: l/\P.underlying u=some d/\(d=.string \/ ∃k,d=.slice k)
section
variable {P : Program} {w : World} {t e ty : TypeId} {tys : List TypeId} {i : TypeInfo} {y : Value} {m len cap : Nat} {news : Array Value}
def pJ (hz:BU P tys) (hu:P.underlying t=some (.slice e)) (hi:P.info? e=some i) (hlen:(Builtin.lenOf y).run P w=.ok m w)
  (happ:(Builtin.firstCells i.size m y).run P w=.ok news w) (hle:len+m<=cap):
  (Builtin.append_ ⟨t :: tys⟩ ty #[.slice none len cap,y]).run P w=.ok (.slice none (len+m) cap) w:=by
 rcases hz with rfl | ⟨u,l,d,rfl,hd,rfl | ⟨k,rfl⟩⟩
 ·simp[Builtin.append_,run_underlying hu,sizeOf,typeInfo,hi,hlen,hle,happ]
 ·simp[Builtin.append_,run_underlying hu,run_underlying hd,sizeOf,typeInfo,hi,hlen,hle,happ]
 ·simp[Builtin.append_,run_underlying hu,run_underlying hd,sizeOf,typeInfo,hi,hlen,hle,happ]
def qw {a:Addr} {w':World} (hz:BU P tys) (hu:P.underlying t=some (.slice e)) (hi:P.info? e=some i) (hlen:(Builtin.lenOf y).run P w=.ok m w)
  (happ:(Builtin.firstCells i.size m y).run P w=.ok news w) (hle:len+m<=cap) (hst:(storeCells (a.add (len*i.size)) news.toList).run P w=.ok () w'):
  (Builtin.append_ ⟨t :: tys⟩ ty #[.slice (some a) len cap,y]).run P w=.ok (.slice (some a) (len+m) cap) w':=by
 rcases hz with rfl | ⟨u,l,d,rfl,hd,rfl | ⟨k,rfl⟩⟩
 ·simp[Builtin.append_,run_underlying hu,sizeOf,typeInfo,hi,hlen,hle,happ,hst]
 ·simp[Builtin.append_,run_underlying hu,run_underlying hd,sizeOf,typeInfo,hi,hlen,hle,happ,hst]
 ·simp[Builtin.append_,run_underlying hu,run_underlying hd,sizeOf,typeInfo,hi,hlen,hle,happ,hst]
def zL {a:Option Addr} {olds:Array Value} {z:Value} (hz:BU P tys) (hu:P.underlying t=some (.slice e)) (hi:P.info? e=some i) (hzero:i.zero=some z) (hlen:(Builtin.lenOf y).run P w=.ok m w)
  (happ:(Builtin.firstCells i.size m y).run P w.drew=.ok news w.drew) (hold:(Builtin.firstCells i.size len (.slice a len cap)).run P w.drew=.ok olds w.drew) (hle:cap<len+m)
  (hn:len+m<=1000000000) (hb:(len+m)*i.bytes<=1000000000):
  (Builtin.append_ ⟨t :: tys⟩ ty #[.slice a len cap,y]).run P w=.ok (.slice (some ⟨w.heap.size,0,none⟩) (len+m) (grownCap w (len+m) cap e))
   (w.drew.alloc (.cells (olds++news++Builtin.zeroCells z.cells (grownCap w (len+m) cap e-(len+m))) e)):=by
 have h1:¬ (len+m<=cap):=by omega
 have h2:¬ (9223372036854775807<((len+m:Nat):Int)):=by omega
 have h2':¬ (9223372036854775807<(len:Int)+(m:Int)):=by omega
 have h3:=growslice_fits (need:=len+m) (old:=cap) (bytes:=i.bytes) (by omega) (by omega);have h3':¬ (281474976710656<Builtin.nextslicecap (len+m) cap*i.bytes):=by omega
 rcases hz with rfl | ⟨u,l,d,rfl,hd,rfl | ⟨k,rfl⟩⟩
 ·simp[Builtin.append_,run_underlying hu,sizeOf,typeInfo,zeroValue,hi,hzero,hlen,h1,h2,h2',h3',Question.forced,happ,hold,newRow,grownCap]
 ·simp[Builtin.append_,run_underlying hu,run_underlying hd,sizeOf,typeInfo,zeroValue,hi,hzero,hlen,h1,h2,h2',h3',Question.forced,happ,hold,newRow,grownCap]
 ·simp[Builtin.append_,run_underlying hu,run_underlying hd,sizeOf,typeInfo,zeroValue,hi,hzero,hlen,h1,h2,h2',h3',Question.forced,happ,hold,newRow,grownCap]
variable {u : TypeId} {k kk : IntKind}
def nQ {z:Value} (hd:P.underlying u=some (.int kk)) (hu:P.underlying t=some (.slice e)) (hi:P.info? e=some i) (hzero:i.zero=some z) (hm:m<=100000) (hb:(len+m)*i.bytes<=1000000000)
  (hle:len+m<=cap) (h0:m=0):
  (Builtin.append_ ⟨t :: u :: tys⟩ ty #[.slice none len cap,.int k (m:Int)]).run P w=.ok (.slice none (len+m) cap) w:=by
 have hw:IntKind.i64.wrap (m:Int)=m:=by rw[IntKind.wrap_i64];omega
 subst h0;have hw0:IntKind.i64.wrap 0=0:=by rw[IntKind.wrap_i64];omega
 have hle':len<=cap:=by omega
 simp[Builtin.append_,run_underlying hu,run_underlying hd,asInt,asIntOf,sizeOf,typeInfo,zeroValue,hi,hzero,hw0,hle']
def oy {a:Addr} {w':World} {z:Value} (hd:P.underlying u=some (.int kk)) (hu:P.underlying t=some (.slice e)) (hi:P.info? e=some i) (hzero:i.zero=some z) (hm:m<=100000) (hb:(len+m)*i.bytes<=1000000000)
  (hle:len+m<=cap) (hst:(storeCells (a.add (len*i.size)) (Builtin.zeroCells z.cells m).toList).run P w=.ok () w') (hsz:z.cells.size=i.size):
  (Builtin.append_ ⟨t :: u :: tys⟩ ty #[.slice (some a) len cap,.int k (m:Int)]).run P w=.ok (.slice (some a) (len+m) cap) w':=by
 have hw:IntKind.i64.wrap (m:Int)=m:=by rw[IntKind.wrap_i64];omega
 have h1:¬ ((m:Int)<0):=by omega
 have hb2:m*i.bytes<=1000000000:=JV (Kr _ (by omega)) hb;have h2:¬ (281474976710656<(m:Int)*(i.bytes:Int)):=by
  have:(m:Int)*(i.bytes:Int)=((m*i.bytes:Nat):Int):=by simp
  rw[this];omega
 by_cases h0:m*i.size=0
 ·have he:Builtin.zeroCells z.cells m=#[]:=by apply Array.ext';simp[Builtin.zeroCells,hsz,h0,Array.range_zero']
  rw[he] at hst;simp[Builtin.append_,run_underlying hu,run_underlying hd,asInt,asIntOf,sizeOf,typeInfo,zeroValue,hi,hzero,hw,h1,h2,hle,h0,hst]
 ·simp[Builtin.append_,run_underlying hu,run_underlying hd,asInt,asIntOf,sizeOf,typeInfo,zeroValue,hi,hzero,hw,h1,h2,hle,h0,hst]
def pi {a:Option Addr} {olds:Array Value} {z:Value} (hd:P.underlying u=some (.int kk)) (hu:P.underlying t=some (.slice e)) (hi:P.info? e=some i) (hzero:i.zero=some z) (hm:m<=100000)
  (hold:(Builtin.firstCells i.size len (.slice a len cap)).run P w.drew=.ok olds w.drew) (hle:cap<len+m)
  (hn:len+m<=1000000000) (hb:(len+m)*i.bytes<=1000000000) (hsz:z.cells.size=i.size):
  (Builtin.append_ ⟨t :: u :: tys⟩ ty #[.slice a len cap,.int k (m:Int)]).run P w=.ok (.slice (some ⟨w.heap.size,0,none⟩) (len+m) (grownCap w (len+m) cap e))
   (w.drew.alloc (.cells (olds++Builtin.zeroCells z.cells m++Builtin.zeroCells z.cells (grownCap w (len+m) cap e-(len+m))) e)):=by
 have hw:IntKind.i64.wrap (m:Int)=m:=by rw[IntKind.wrap_i64];omega
 have g1:¬ ((m:Int)<0):=by omega
 have hb2:m*i.bytes<=1000000000:=JV (Kr _ (by omega)) hb;have g2:¬ (281474976710656<(m:Int)*(i.bytes:Int)):=by
  have:(m:Int)*(i.bytes:Int)=((m*i.bytes:Nat):Int):=by simp
  rw[this];omega
 have h1:¬ (len+m<=cap):=by omega
 have h2:¬ (9223372036854775807<((len+m:Nat):Int)):=by omega
 have h2':¬ (9223372036854775807<(len:Int)+(m:Int)):=by omega
 have h3:=growslice_fits (need:=len+m) (old:=cap) (bytes:=i.bytes) (by omega) (by omega);have h3':¬ (281474976710656<Builtin.nextslicecap (len+m) cap*i.bytes):=by omega
 by_cases h0:m*i.size=0
 ·have he:Builtin.zeroCells z.cells m=#[]:=by apply Array.ext';simp[Builtin.zeroCells,hsz,h0,Array.range_zero']
  simp[Builtin.append_,run_underlying hu,run_underlying hd,asInt,asIntOf,sizeOf,typeInfo,zeroValue,hi,hzero,hw,g1,g2,h1,h2,h2',h3',h0,Question.forced,hold,newRow,grownCap,he]
 ·simp[Builtin.append_,run_underlying hu,run_underlying hd,asInt,asIntOf,sizeOf,typeInfo,zeroValue,hi,hzero,hw,g1,g2,h1,h2,h2',h3',h0,Question.forced,hold,newRow,grownCap]
end
end
section
def gN (c:T Value):∀(n off k:Nat) (h:k<(bq c off n).length),(bq c off n)[k]=c.get (off+k)
 | 0,_,k,h=>by simp[bq] at h
 | n+1,off,0,_=>rfl
 | n+1,off,k+1,h=>by have:=gN c n (off+1) k (by simpa [bq] using h);simp only[bq,List.getElem_cons_succ];rw[this];congr 1;omega
section
variable {P : Program} {ρ : Ren} {h : H} {w : World} {E : Env}
def yI {l:List Value} {pre rest:Array Value} {e:TypeId} {i:TypeInfo} {x:Nat} (hi:P.info? e=some i) (hl:bT (ga ρ) l pre.toList) (hrest:rest.size=x*i.size):
  ∀ρ',ρ.le ρ'->eV P ρ' (w.alloc (.cells (pre++rest) e)) (w.heap.size,x) (.row e l.length true false 0 (T.ofList unk l)):=by
 intro ρ' hle;have hlen:=hl.length;simp only[Array.length_toList] at hlen;refine⟨pre++rest,(0,0),heap_alloc_new w _,by simp;omega,λe=>(Bool.noConfusion e),λ_=>⟨i,hi,by simp;omega⟩,λj hj=>?_,.inr (Jd _)⟩;rw[T.get_ofList];obtain⟨v',e1,e2⟩:=hl.get j l[j] (Jn hj);refine⟨v',?_,?_⟩
 ·rw[Array.getElem?_append_left (by omega)];simpa using e1
 ·rw[Jc,Jn hj];exact e2.mono hle
def vo {tys:List TypeId} (hE:TypesOK P E) (h:io E tys=some false):BU P tys:=by
 cases tys with
 | nil=>exact .inl rfl
 | cons u l=>
  refine .inr ⟨u,l,?_⟩;simp only[io] at h;split at h
  ·simp at h
  ·rename_i k hu;exact⟨_,rfl,cV hE hu,.inr ⟨k,rfl⟩⟩
  ·rename_i hu;exact⟨_,rfl,cV hE hu,.inl rfl⟩
  ·cases h
def yJ {tys:List TypeId} (hE:TypesOK P E) (h:io E tys=some true):∃u l k,tys=u :: l/\P.underlying u=some (.int k):=by
 cases tys with
 | nil=>simp[io] at h
 | cons u l=>
  simp only[io] at h;split at h
  ·rename_i k hu;exact⟨u,l,k,rfl,cV hE hu⟩
  ·simp at h
  ·simp at h
  ·cases h
variable (hE : TypesOK P E)
include hE
def yA (hr:eZ P ρ h w) {t e ty:TypeId} {tys:List TypeId} {zeros:Bool} {i:TypeInfo} {z:List Value} {m len:Nat} {news:List Value} {y y':Value} (hz:io E tys=some zeros)
  (hu:E.und t=some (.slice e)) (hi:E.info e=some i) (hzc:cK E e=some z) (hnews:jl h i.size z zeros y=some (m,news)) (hzl:z.length=i.size) (hy:VR ρ y y')
  (hn:len+m<=1000000000) (hb:(len+m)*i.bytes<=1000000000):
  news.length=m*i.size/\∃news',bT (ga ρ) news news' /\
  (∀cap,len+m<=cap->(zeros=true->m=0)->(Builtin.append_ ⟨t :: tys⟩ ty #[.slice none len cap,y']).run P w=.ok (.slice none (len+m) cap) w) /\
  (∀a cap w',len+m<=cap->(storeCells (a.add (len*i.size)) news').run P w=.ok () w'->(Builtin.append_ ⟨t :: tys⟩ ty #[.slice (some a) len cap,y']).run P w=.ok (.slice (some a) (len+m) cap) w') /\
  (∀a cap olds,(Builtin.firstCells i.size len (.slice a len cap)).run P w.drew=.ok olds w.drew->cap<len+m ->
   ∃rest x,rest.size=x*i.size/\(Builtin.append_ ⟨t :: tys⟩ ty #[.slice a len cap,y']).run P w=.ok (.slice (some ⟨w.heap.size,0,none⟩) (len+m) (len+m+x)) (w.drew.alloc (.cells (olds++⟨news'⟩++rest) e))):=by
 have hi':P.info? e=some i:=hE.types e i hi;have hu':=cV hE hu;obtain⟨z0,z1,z2,z3⟩:=eU (ρ:=ρ) hE hzc w;have hz0:i.zero=some z0:=by
  cases hzz:i.zero with
  | none=>simp[zeroValue,typeInfo,hi',hzz] at z1
  | some q=>simp[zeroValue,typeInfo,hi',hzz] at z1;rw[z1]
 have hzs:z0.cells.size=i.size:=by rw[z2];exact hzl
 have hrest:∀k,(Builtin.zeroCells z0.cells k).size=k*i.size:=by intro k;simp[Builtin.zeroCells,hzs]
 cases zeros with
 | false=>
  simp only[jl,JP] at hnews;cases hsrc:lE h i.size (ja y) y with
  | none=>simp[hsrc] at hnews
  | some l=>
   simp only[hsrc,I9,JA] at hnews;obtain⟨rfl,rfl⟩:=hnews;have hlen:=CB (P:=P) hy hsrc;obtain⟨l',f1,f2,f3⟩:=AU hr hy hsrc;have hnn:=vo hE hz;refine⟨f3,l',f2,λcap hle _=>?_,λa cap w' hle hst=>?_,λa cap olds hold hle=>?_⟩
   ·exact pJ hnn hu' hi' (hlen w) (f1 w rfl) hle
   ·exact qw hnn hu' hi' (hlen w) (f1 w rfl) hle hst
   ·have hge:=grownCap_ge w (len+ja y) cap e;refine⟨_,grownCap w (len+ja y) cap e-(len+ja y),hrest _,?_⟩;have:=zL (ty:=ty) hnn hu' hi' hz0 (hlen w) (f1 w.drew rfl) hold hle hn hb;rw[this]
    congr 2
    omega
 | true=>
  simp only[jl,Jo] at hnews;obtain⟨u,l,kk,rfl,hd⟩:=yJ hE hz;split at hnews
  ·rename_i k n;cases hk:ble n 100000 with
   | false=>simp[hk] at hnews
   | true=>
    simp only[hk,Jo,I9,JA] at hnews;obtain⟨rfl,rfl⟩:=hnews;have hk:=I7 hk;rw[hy.int];obtain⟨l',e1,e2⟩:=kA z3 n;rw[<-z2] at e1;refine⟨by rw[iN,hzl],l',e2,λcap hle h0=>?_,λa cap w' hle hst=>?_,λa cap olds hold hle=>?_⟩
    ·exact nQ hd hu' hi' hz0 hk hb hle (h0 rfl)
    ·exact oy hd hu' hi' hz0 hk hb hle (by rw[e1];exact hst) hzs
    ·have hge:=grownCap_ge w (len+n) cap e;refine⟨_,grownCap w (len+n) cap e-(len+n),hrest _,?_⟩;have:=pi (ty:=ty) (tys:=l) (k:=k) hd hu' hi' hz0 hk hold hle hn hb hzs;rw[e1] at this;have hcast:(Int.ofNat n)=(n:Int):=rfl;rw[hcast,this]
     congr 2
     omega
  ·cases hnews
def zC (hr:eZ P ρ h w) {t:TypeId} {tys:List TypeId} {zeros:Bool} (hz:io E tys=some zeros) (ty:TypeId) {x x' y y' v:Value} {h':H} (hx:VR ρ x x') (hy:VR ρ y y') (hv:eT E h t zeros x y=some (v,h')):
  ∃ρ' v' w',(Builtin.append_ ⟨t :: tys⟩ ty #[x',y']).run P w=.ok v' w'/\VR ρ' v v'/\Step P ρ h w ρ' h' w':=by
 unfold eT at hv;split at hv
 ·rename_i e a len c hu;split at hv
  ·rename_i i z hi hzc;split at hv
   ·rename_i s m news hs hnews;replace hs:i.size=s+1:=hs;simp only at hv;cases hck:(ble ((len+m)*(i.bytes+1)) 1000000000&&ble ((len+m)*(s+1)) 1000000000&&beq z.length (s+1)) with
    | false=>simp[hck] at hv
    | true=>
     simp only[hck,Jo] at hv;simp only[Ja] at hck;obtain⟨⟨c1,c2⟩,c3⟩:=hck;have c1:=I7 c1;have c2:=I7 c2;have c3:=I8 c3;have hneed:len+m<=1000000000:=JV (Nat.le_mul_of_pos_right _ (by omega)) c2;have hi':P.info? e=some i:=hE.types e i hi;have hbytes:(len+m)*i.bytes<=1000000000:=JV (KN _ (by omega)) c1;obtain⟨hlenN,news',hall,A1,A2,A3⟩:=yA hE hr (ty:=ty) hz hu hi hzc hnews (by rw[c3,hs]) hy hneed hbytes;rw[hs] at hlenN A2 A3;cases hle:ble (len+m) (c / 2) with
     | true=>
      have hle':=I7 hle;simp only[hle,Jo] at hv;cases a with
      | none=>
       cases hm:beq m 0 with
       | false=>simp[hm] at hv
       | true=> simp only[hm,Jo,I9,JA] at hv;obtain⟨rfl,rfl⟩:=hv;rw[hx.nilslice];exact⟨ρ,_,w,A1 _ hle' (λ_=>I8 hm),VR.of1 rfl,Step.refl hr⟩
      | some ad=>
       simp only at hv;cases hsp0:ad.spot.isSome with
       | true=>rw[hsp0] at hv;exact nomatch hv
       | false=>
       rw[hsp0,JP] at hv;cases hst:ci h ⟨ad.block,ad.off+len*(s+1),none⟩ news with
       | none=>simp[hst] at hv
       | some h2=>
        simp only[hst,I9,JA] at hv;obtain⟨rfl,rfl⟩:=hv;obtain⟨p,hp,hsp,hx'⟩:=hx.slice (.inr (.inr (by simpa using hsp0)));obtain⟨r1,r2⟩:=nC hr hp hst hall (mX hall (ik hst));have hadd:(⟨p.1,ad.off,none⟩:Addr).add (len*(s+1))=⟨p.1,ad.off+len*(s+1),none⟩:=by unfold Addr.add;split <;> simp_all
        rw[<-hadd] at r1;rw[hx'];refine⟨ρ,_,_,A2 _ _ _ (by split <;> omega) r1,?_,r2⟩;exact VR.of1 (by simp[cW,cU,hsp,hp])
     | false=>
      have hle':c / 2<len+m:=by
       rcases Nat.lt_or_ge (c / 2) (len+m) with h | h
       ·exact h
       ·rw[Js h] at hle;cases hle
      simp only[hle,JP] at hv;cases hroom:room h with
      | false=>simp[hroom] at hv
      | true=>
       simp only[hroom,Jo] at hv;have fresh:∀(a':Option Addr) (cap:Nat) (olds:List Value) (olds':List Value),olds.length=len*(s+1)->bT (ga ρ) olds olds' ->
         (Builtin.firstCells (s+1) len (.slice a' len cap)).run P w.drew=.ok ⟨olds'⟩ w.drew->cap<len+m ->
         ∃ρ' v' w',(Builtin.append_ ⟨t :: tys⟩ ty #[.slice a' len cap,y']).run P w=.ok v' w' /\
          VR ρ' (.slice (some ⟨h.next,0,none⟩) (len+m) (2*(len+m)+1)) v'/\Step P ρ h w ρ' (h.push (.row e ((len+m)*(s+1)) true false 0 (T.ofList unk (olds++news)))) w':=by
        intro a' cap olds olds' ho1 ho2 ho3 hc;obtain⟨rest,xx,hrest,hrun⟩:=A3 a' cap _ ho3 hc;have hall2:bT (ga ρ) (olds++news) ((⟨olds'⟩:Array Value)++⟨news'⟩).toList:=by simp only[Array.toList_append];exact ho2.append hall
        have hrow:=yI (P:=P) (w:=w.drew) (e:=e) hi' hall2 (by rw[hs];exact hrest) (x:=xx);have hl:(olds++news).length=(len+m)*(s+1):=by simp[ho1,hlenN,Nat.add_mul]
        rw[hl] at hrow;have hstep:=Step.alloc hr.drew hroom hrow;refine⟨_,_,_,hrun,?_,(Step.drew hr).trans hstep⟩;have e1:(2*(len+m)+1)%2=1:=by omega
        have e2:(2*(len+m)+1) / 2=len+m:=by omega
        exact VR.of1 (by simp[cW,cU,Ren.upd_same,e1,e2])
       cases a with
       | none=>
        cases hl0:beq len 0 with
        | false=>simp[hl0] at hv
        | true=> simp only[hl0,Jo,I9,JA] at hv;obtain⟨rfl,rfl⟩:=hv;have hl0:=I8 hl0;subst hl0;rw[hx.nilslice];have:=fresh none (c / 2) [] [] (by simp) trivial (run_firstCells_none w.drew _ _ _ _) hle';simpa using this
       | some ad=>
        simp only at hv;cases hsp0:ad.spot.isSome with
        | true=>rw[hsp0] at hv;exact nomatch hv
        | false=>
        rw[hsp0,JP] at hv;obtain⟨p,hp,hsp,hx'⟩:=hx.slice (.inr (.inr (by simpa using hsp0)));have hO:=hr.obj _ _ hp;split at hv
        ·rename_i e' n op ro fz cs ho;rw[ho] at hO;cases hc2:beq (c%2) 0 with
         | true=>
          simp only[hc2,Jo] at hv;have hc2:=I8 hc2;cases hin:ble (ad.off+len*(s+1)) n with
          | false=>simp[hin] at hv
          | true=> simp only[hin,Jo,I9,JA] at hv;obtain⟨rfl,rfl⟩:=hv;have hin:=I7 hin;obtain⟨olds',o1,o2,o3⟩:=eR hO (len*(s+1)) ad.off hin;rw[hx',if_pos hc2];refine fresh (some ⟨p.1,ad.off,none⟩) (c / 2) (bq cs ad.off (len*(s+1))) olds' (by rw[o3.length,o1]) o3 ?_ hle';exact run_firstCells_some (P:=P) w.drew (s+1) len ⟨p.1,ad.off,none⟩ _ _ olds' o1 (λj v hj=>by simpa using o2 j v hj)
         | false=>
          simp only[hc2,JP] at hv;have hc2:¬ c%2=0:=by intro e;rw[e] at hc2;cases hc2
          cases hq:(op&&beq e e' && !ro&&beq ad.off 0&&beq (c / 2) len&&beq (len*(s+1)) n&&ble fz n&&news.all cell1) with
          | false=>simp[hq] at hv
          | true=>
           simp only[hq,Jo,I9,JA] at hv;obtain⟨rfl,rfl⟩:=hv;simp only[Ja] at hq;obtain⟨⟨⟨⟨⟨⟨⟨q1,q2⟩,q3⟩,q4⟩,q5⟩,q6⟩,q7⟩,q8⟩:=hq;have q2:=I8 q2;have q4:=I8 q4;have q5:=I8 q5;have q6:=I8 q6;have q7:=I7 q7;subst q2;rw[hx',if_neg hc2,q5,q4];have q3:ro=false:=by simpa using q3
           subst q3;subst q1;obtain⟨cur,fr,hg,hcn,_,hop,hcells,hfr⟩:=hO;have hfr:=hfr.resolve_left (by simp);obtain⟨i2,hi2,hsz⟩:=hop rfl;rw[hi'] at hi2;cases hi2;rw[hs] at hsz;have hplt:p.1<w.heap.size:=(Jw.1 hg).1;have hnl:=hall.length;have hwr:wr (h.objs.get ad.block)=true:=by rw[ho];rfl
           have hlv:=CF hwr;have hbsm:=hr.small _ hlv;have hWr:Wr ρ h p.1:=⟨ad.block,p,hp,rfl,hwr⟩;have hget:∀j,(T.ins deep h.objs ad.block .dead).get j=if j=ad.block then .dead else h.objs.get j:=λj=>T.get_ins _ _ _ _ _ hbsm
           have hnext:ρ h.next=none:=hr.unmapped (Jd _);have hroom':=I7 hroom;have hOO:∀j,(T.ins deep h.objs ad.block .dead).get j=h.objs.get j \/ ((T.ins deep h.objs ad.block .dead).get j=.dead/\(ρ j).isSome=true):=by
            intro j;by_cases e:j=ad.block
            ·right;rw[hget,if_pos e,e,hp];exact⟨rfl,rfl⟩
            ·left;rw[hget,if_neg e]
           have hliv:∀j,live ((T.ins deep h.objs ad.block .dead).get j)=true->j≠ad.block/\live (h.objs.get j)=true:=by
            intro j hj;by_cases e:j=ad.block
            ·rw[hget,if_pos e] at hj;cases hj
            ·rw[hget,if_neg e] at hj;exact⟨e,hj⟩
           have hmul:(len+m)*(s+1)=n+m*(s+1):=by rw[Nat.add_mul,q6]
           have hval:∀b x,(ρ.upd h.next (b,x)).le (ρ.upd h.next (b,x))->VR (ρ.upd h.next (b,x)) (.slice (some ⟨h.next,0,none⟩) (len+m) (2*(len+m)+1)) (.slice (some ⟨b,0,none⟩) (len+m) (len+m+x)):=by
            intro b x _;have e1:(2*(len+m)+1)%2=1:=by omega
            have e2:(2*(len+m)+1) / 2=len+m:=by omega
            exact VR.of1 (by simp[cW,cU,Ren.upd_same,e1,e2])
           have hputs:∀k,(putCells cs n news).get k=if n<=k/\k<n+news.length then news.getD (k-n) unk else cs.get k:=bJ _ _ _ (by omega)
           by_cases hroomy:m<=p.2
           ·
            have hfit:n+news'.length<=cur.size:=by have:m*(s+1)<=p.2*(s+1):=Kr _ hroomy;omega
            obtain⟨cur',g1,g2,g3,g4,g5,g6,g7,g8⟩:=iZ p.1 e fr news' n w cur hg hfit;have hst:(storeCells ((⟨p.1,0,none⟩:Addr).add (len*(s+1))) news').run P w=.ok () (w.setCells p.1 n news'):=by
             have hadd:(⟨p.1,0,none⟩:Addr).add (len*(s+1))=⟨p.1,n,none⟩:=by unfold Addr.add;split <;> simp_all
             rw[hadd]
             have:=run_storeCells_cells (P:=P) p.1 n news' 0 w (λj hj=>by
              simp[World.cell?,hg];omega) (λj hj=>by
              simp[World.frozen?,hg]
              omega) (mX hall q8)
             simpa using this
            have hrun:=A2 ⟨p.1,0,none⟩ (len+p.2) _ (by omega) hst;refine⟨ρ.upd h.next (p.1,p.2-m),_,_,hrun,?_,?_⟩
            ·have:=hval p.1 (p.2-m) (Ren.le_refl _);rwa [show len+m+(p.2-m)=len+p.2 by omega] at this
            ·refine Step.give hr (p:=(p.1,p.2-m)) hnext rfl (dX (by omega)) hOO (λj q hq hl=>?_) (by simp only[g5];exact hplt) (λρ' hle=>?_) (λb hb hn=>g4 b λe=>hn (e ▸ hWr)) (λ_=>hWr) (by omega) g6 g7 g8
             ·obtain⟨e1,e2⟩:=hliv j hl;have hne:q.1≠p.1:=λe'=>e1 (hr.inj j ad.block q p hq hp e2 hlv e');exact⟨hne,g4 _ hne⟩
             ·refine⟨cur',fr,g1,?_,λe=>(Bool.noConfusion e),λ_=>⟨i,hi',?_⟩,λk hk=>?_,.inr hfr⟩
              ·omega
              ·have:p.2*(s+1)=(p.2-m)*(s+1)+m*(s+1):=by rw[<-Nat.add_mul];congr 1;omega
               simp only[hs];omega
              ·rw[g3 k,hputs k];by_cases hk2:n<=k/\k<n+news.length
               ·rw[if_pos hk2,if_pos (by omega)];have hlt:k-n<news.length:=by omega
                obtain⟨v',e1,e2⟩:=hall.get (k-n) news[k-n] (Jn hlt);refine⟨v',e1,?_⟩;rw[Jc,Jn hlt];exact e2.mono hle
               ·rw[if_neg hk2,if_neg (by omega)];obtain⟨v',e1,e2⟩:=hcells k (by omega);exact⟨v',e1,e2.mono hle⟩
           ·
            obtain⟨olds',o1,o2,o3⟩:=eR (w:=w) (n:=n) (op:=true) (ro:=false) (e:=e) (c:=cs) ⟨cur,fr,hg,hcn,λe=>(Bool.noConfusion e),λ_=>⟨i,hi',by rw[hs];exact hsz⟩,hcells,.inr hfr⟩ n 0 (by omega);have hold:(Builtin.firstCells (s+1) len (.slice (some ⟨p.1,0,none⟩) len (len+p.2))).run P w.drew=.ok ⟨olds'⟩ w.drew:=
             run_firstCells_some (P:=P) w.drew (s+1) len ⟨p.1,0,none⟩ _ _ olds' (by rw[o1,q6]) (λj v hj=>by simpa using o2 j v hj)
            obtain⟨rest,xx,hrest,hrun⟩:=A3 _ _ _ hold (by omega);refine⟨ρ.upd h.next (w.heap.size,xx),_,_,hrun,hval w.heap.size xx (Ren.le_refl _),(Step.drew hr).trans ?_⟩;refine Step.give hr.drew (p:=(w.heap.size,xx)) hnext rfl (dX (by omega)) hOO (λj q hq hl=>?_) (by simp) (λρ' hle=>?_) (λb hb _=>heap_alloc_old w.drew _ b hb) (λhh=>absurd hh (KO _)) (by simp) rfl rfl rfl
            ·obtain⟨e1,e2⟩:=hliv j hl;have hlt:=hr.inside j q hq e2;exact⟨by show q.1≠w.heap.size;omega,heap_alloc_old w.drew _ _ hlt⟩
            ·have hol:=o3.length;refine⟨_,(0,0),heap_alloc_new w.drew _,by simp;omega,λe=>(Bool.noConfusion e),λ_=>⟨i,hi',by simp[hs];omega⟩,λk hk=>?_,.inr (JY _)⟩;rw[hputs k];by_cases hk2:n<=k/\k<n+news.length
             ·rw[if_pos hk2];have hlt:k-n<news.length:=by omega
              obtain⟨v',e1,e2⟩:=hall.get (k-n) news[k-n] (Jn hlt);refine⟨v',?_,?_⟩
              ·rw[Array.getElem?_append_left (by simp;omega),Array.getElem?_append_right (by simp;omega)];simpa [o1] using e1
              ·rw[Jc,Jn hlt];exact e2.mono hle
             ·rw[if_neg hk2];have hkn:k<n:=by omega
              have hkl:k<(bq cs 0 n).length:=by omega
              obtain⟨v',e1,e2⟩:=o3.get k _ (Jn hkl);refine⟨v',?_,?_⟩
              ·rw[Array.getElem?_append_left (by simp;omega),Array.getElem?_append_left (by simp;omega)];simpa using e1
              ·rw[gN] at e2;simp only[JN] at e2;exact e2.mono hle
        ·cases hv
   ·cases hv
  ·cases hv
 ·cases hv
end
end
section
def sW:∀(l:List Value) (bs:List UInt8),cT l=some bs->l=bs.map λb=>Value.int .u8 b.toNat
 | [],bs,h=>by simp[cT] at h;subst h;rfl
 | v :: l,bs,h=>by
  unfold cT at h;split at h
  ·rename_i e;cases e
  ·rename_i n l' e;simp only[List.cons.injEq] at e;obtain⟨rfl,rfl⟩:=e;cases hn:Nat.blt n 256 with
   | false=>simp[hn] at h
   | true=>
    simp only[hn,Jo] at h;have hn:n<256:=I7 hn;cases hr:cT l with
    | none=>simp[hr] at h
    | some r=>
     simp only[hr,I9] at h;subst h;simp only[J5];rw[<-sW l r hr]
     congr 2
     simp;omega
  ·cases h
def B8 {ρ:Ren}:∀(bs:List UInt8) (l':List Value),bT (ga ρ) (bs.map λb=>Value.int .u8 b.toNat) l'->l'=bs.map λb=>Value.int .u8 b.toNat
 | [],[],_=>rfl
 | b :: bs,v :: l,⟨h1,h2⟩=>by have:=(VR.of0 h1).int;rw[this,B8 bs l h2];rfl
 | [],_ :: _,h=>h.elim
 | _ :: _,[],h=>h.elim
def FD {d:TypeDesc} {k a:Value} (hd:ml d k=true) (h:nZ d k a=some true):a=k/\Instr.sameBits 10000 a k=true:=by
 unfold nZ at h;split at h
 ·split at h
  ·rename_i hk;simp only[I9,beq_iff_eq] at h;subst hk;subst h;exact⟨rfl,by simp[Instr.sameBits]⟩
  ·cases h
 ·simp[ml] at hd
 ·simp only[I9,eB,beq_iff_eq] at h;subst h;exact⟨rfl,by simp only[Instr.sameBits,beq_toListBytes,ByteArray.toList_eq,beq_self_eq_true]⟩
 ·cases h
def td {ρ:Ren} {d:TypeDesc} {k v v':Value} (hd:ml d k=true) (hv:pY ρ v v'):∀(es:List (Value × Value)) (es':List MapEntry) (i:Nat) (r:Option (List (Value × Value))),je ρ es es'->lX d k v es=some r ->
  (r=none/\Instr.findNow d k es' i=some none) \/ ∃es2 j v0 e0,r=some es2/\Instr.findNow d k es' i=some (some (i+j,v0))/\es'[j]?=some e0/\Instr.sameBits 10000 e0.key k=true /\
   je ρ es2 (es'.modify j λe=>{ e with key:=k,val:=v' })
 | [],[],i,r,_,hl=>by simp[lX] at hl;subst hl;exact .inl ⟨rfl,rfl⟩
 | (a,u) :: es,e :: es',i,r,⟨h1,h2,h3⟩,hl=>by
  simp only[lX] at hl;cases hq:nZ d k a with
  | none=>simp[hq] at hl
  | some b=>
   have hn:=wY hd hq;simp only[hq] at hl;unfold Instr.findNow;rw[h1,hn];cases b with
   | true=> simp only[I9] at hl;subst hl;obtain⟨e1,e2⟩:=FD hd hq;exact .inr ⟨_,0,e.val,e,rfl,rfl,rfl,by rw[h1];exact e2,rfl,hv,h3⟩
   | false=>
    simp only at hl;cases hm:lX d k v es with
    | none=>simp[hm] at hl
    | some q=>
     rcases td hd hv es es' (i+1) q h3 hm with ⟨rfl,hf⟩ | ⟨es2,j,v0,e0,rfl,hf,he,hs,hr⟩
     ·simp only[hm,I9] at hl;subst hl;exact .inl ⟨rfl,hf⟩
     ·simp only[hm,I9] at hl;subst hl;refine .inr ⟨_,j+1,v0,e0,rfl,?_,by simpa using he,hs,?_⟩
      ·simp only[hf];congr 3;omega
      ·simp only[List.modify_succ_cons];exact⟨h1,h2,hr⟩
 | [],_ :: _,_,_,h,_=>h.elim
 | _ :: _,[],_,_,h,_=>h.elim
def je.append {ρ:Ren} {k v:Value} {e:MapEntry} (hk:e.key=k) (hv:pY ρ v e.val):∀{l:List (Value × Value)} {m:List MapEntry},je ρ l m->je ρ (l ++ [(k,v)]) (m ++ [e])
 | [],[],_=>⟨hk,hv,trivial⟩
 | (_,_) :: _,_ :: _,⟨h1,h2,h3⟩=>⟨h1,h2,je.append hk hv h3⟩
 | [],_ :: _,h=>h.elim
 | _ :: _,[],h=>h.elim
section
variable {P : Program} {ρ : Ren} {h : H} {w : World} {E : Env} (hE : TypesOK P E)
include hE
def rS (hr:eZ P ρ h w) {t:TypeId} {m m' k k' v v':Value} {h':H} (hm:VR ρ m m') (hk:VR ρ k k') (hv:VR ρ v v') (hs:iK E h t m k v=some h'):
  ∃w',(Instr.mapUpdate t m' k' v').run P w=.ok () w'/\Step P ρ h w ρ h' w':=by
 unfold iK at hs;split at hs
 ·rename_i kt et r hu;split at hs
  ·rename_i d hd;cases hck:(ml d k && !isTuple v) with
   | false=>simp[hck] at hs
   | true=>
    simp only[hck,Jo] at hs;simp only[Ja] at hck;obtain⟨hkd,hnt⟩:=hck;have hv2:pY ρ v v':=by
     rcases hv with hv | ⟨l,l',e,_⟩
     ·exact hv
     ·subst e;simp[isTuple] at hnt
    have hkk:=vK hkd hk;subst hkk;obtain⟨p,hp,rfl⟩:=hm.map;have hO:=hr.obj _ _ hp;split at hs
    ·rename_i es clock ho;rw[ho] at hO;obtain⟨es',hg,her⟩:=hO;have hgo:=mt (P:=P) hg (by simp);have hplt:p.1<w.heap.size:=(Jw.1 hg).1;have hchk:∀b,(Instr.checkKey b 10000 kt k').run P w=.ok () w:=λb=>qH (cV hE hd) hkd 9999 b;have hrun:∀{o:Option (Nat × Value)},Instr.findNow d k' es'.toList 0=some o->(Instr.findKey kt k' es'.toList).run P w=.ok o w:=by intro o ho;simp only[Instr.findKey,Sem.run_bind,bn hE hd,Result.andThen_ok,ho,Sem.run_pure]
     have hset:∀(o:Obj) (ob:AO),(∀w',w'.heap[p.1]?=some o->eV P ρ w' p ob)->(∀c e f,o ≠ .cells c e f) ->
       ∃w',(setObj p.1 o).run P w=.ok () w'/\Step P ρ h w ρ (h.set r ob) w':=by
      intro o ob hob hoc;refine⟨{ w with heap:=w.heap.setIfInBounds p.1 o },?_,?_⟩
      ·simp only[setObj,Sem.run,hg]
      ·refine Step.set hr hp (by rw[ho];rfl) (λb hb=>?_) (by simp) rfl rfl rfl (hob _ ?_)
       ·simp[Array.getElem?_setIfInBounds_ne (λe=>hb e.symm)]
       ·simp[hplt]
     cases hmp:lX d k' v es with
     | none=>simp[hmp] at hs
     | some q=>
      rcases td hkd hv2 es es'.toList 0 q her hmp with ⟨rfl,hf⟩ | ⟨es2,j,v0,e0,rfl,hf,he,hsb,hr2⟩
      ·simp only[hmp,I9] at hs;subst hs;obtain⟨w',r1,r2⟩:=hset (.map (es'.push { key:=k',val:=v',born:=clock }) (clock+1)) (.map (es ++ [(k',v)]) (clock+1))
        (λw' hw=>⟨_,hw,by simp only[Array.toList_push];exact je.append (e:={ key:=k',val:=v',born:=clock }) rfl hv2 her⟩) (by simp)
       refine⟨w',?_,r2⟩;simp only[Instr.mapUpdate,Sem.run_bind,bn hE hu,Result.andThen_ok,hgo,hchk,hrun hf,r1]
      ·simp only[hmp,I9] at hs;subst hs;have hka:((es'[0+j]?).map (·.key)).getD k'=e0.key:=by rw[JN];rw[<-Kb,he];rfl
       obtain⟨w',r1,r2⟩:=hset (.map (es'.modify (0+j) λe=>{ e with key:=k',val:=v' }) clock) (.map es2 clock)
        (λw' hw=>⟨_,hw,by rw[JN,Array.toList_modify];exact hr2⟩) (by simp)
       refine⟨w',?_,r2⟩;simp only[Instr.mapUpdate,Sem.run_bind,bn hE hu,Result.andThen_ok,hgo,hchk,hrun hf,hka,Instr.keyThatStays,hsb,if_true,Sem.run_pure,r1]
    ·cases hs
  ·cases hs
 ·cases hs
end
end
section
section
variable {P : Program} {ρ : Ren} {h : H} {w : World} {E : Env} (hE : TypesOK P E)
include hE
def Eg (hr:eZ P ρ h w) {b:Builtin} {args args':List Value} {tys:List TypeId} {v:Value} {h':H} (ty:TypeId) (cs:Array Bool) (ha:bT (VR ρ) args args') (hv:ba E h b args tys=some (v,h')):
  ∃ρ' v' w',(builtin b ⟨tys⟩ ty cs ⟨args'⟩).run P w=.ok (.value v') w'/\VR ρ' v v'/\Step P ρ h w ρ' h' w':=by
 unfold ba at hv;split at hv
 ·rename_i x y t tys
  match args',ha with
  | [x',y'],⟨hx,hy,_⟩=>
   split at hv
   ·rename_i zeros hz;obtain⟨ρ',v',w',h1,h2,h3⟩:=zC hE hr hz ty hx hy hv;exact⟨ρ',v',w',by simp[builtin,h1],h2,h3⟩
   ·cases hv
 ·rename_i x y t tys
  match args',ha with
  | [x',y'],⟨hx,hy,_⟩=> obtain⟨w',h1,h2,h3⟩:=GO hE hr (tys:=⟨t :: tys⟩) rfl ty hx hy hv;exact⟨ρ,v,w',by simp[builtin,h1],h2,h3⟩
 ·rename_i x t tys
  match args',ha with
  | [x'],⟨hx,_⟩=>
   split at hv
   ·rename_i e a n c hu;have he:VR ρ (.tuple #[]) (.tuple #[]):=VR.undef ρ;split at hv
    ·simp only[I9,JA] at hv;obtain⟨rfl,rfl⟩:=hv;rw[hx.nilslice];exact⟨ρ,.tuple #[],w,by simp[builtin,Builtin.clear_,bn hE hu],he,Step.refl hr⟩
    ·simp only[I9,JA] at hv;obtain⟨rfl,rfl⟩:=hv;obtain⟨_,_,rfl,_⟩:=hx.slice_some;exact⟨ρ,.tuple #[],w,by simp[builtin,Builtin.clear_,bn hE hu],he,Step.refl hr⟩
    ·rename_i ad n;cases hz:cK E e with
     | none=>simp[hz] at hv
     | some z=>
      simp only[hz] at hv;cases hst:ci h ad (List.replicate (n+1) z).flatten with
      | none=>simp[hst] at hv
      | some h2=> simp only[hst,I9,JA] at hv;obtain⟨rfl,rfl⟩:=hv;obtain⟨p,hp,hsp,rfl⟩:=hx.slice (.inl (Nat.succ_ne_zero _));obtain⟨bk,off,sp⟩:=ad;simp only at hsp hp;subst hsp;obtain⟨z0,z1,z2,z3⟩:=eU (ρ:=ρ) hE hz w;obtain⟨l',e1,e2⟩:=kA z3 (n+1);rw[<-z2] at e1;obtain⟨r1,r2⟩:=nC hr hp hst e2 (mX e2 (ik hst));refine⟨ρ,.tuple #[],_,?_,he,r2⟩;simp[builtin,Builtin.clear_,bn hE hu,z1,e1,r1]
   ·cases hv
 ·rename_i x y t u
  match args',ha with
  | [x',y'],⟨hx,hy,_⟩=>
   split at hv
   ·rename_i e p n hu;have hp':=cV hE hu;split at hv
    ·rename_i p';simp only[I9,JA] at hv;obtain⟨rfl,rfl⟩:=hv;have hx':∃q,x'=.pointer q:=by
      cases p with
      | none=>exact⟨_,hx.nilptr⟩
      | some ad=>obtain⟨_,_,_,e⟩:=hx.ptr;exact⟨_,e⟩
     obtain⟨q,rfl⟩:=hx';rw[hy.int];have:=Lib.run_unsafeString_none (P:=P) (w:=w) t u ty q;exact⟨ρ,.string .empty,w,by simp only[builtin,Sem.run_bind];rw[show (Int.ofNat 0)=0 from rfl,this];rfl,VR.of1 rfl,Step.refl hr⟩
    ·rename_i ad n;split at hv
     ·rename_i e' m op fz c ho hs;cases hck:(beq e e'&&beq ad.off 0&&ble (n+1) m&&ble n 1000000000) with
      | false=>simp[hck] at hv
      | true=>
       simp only[hck,Jo] at hv;simp only[Ja] at hck;obtain⟨⟨⟨c1,c2⟩,c3⟩,c4⟩:=hck;have c1:=I8 c1;have c2:=I8 c2;have c3:=I7 c3;have c4:=I7 c4;subst c1;cases hb:cT (bq c 0 (n+1)) with
       | none=>simp[hb] at hv
       | some l=>
        simp only[hb,I9,JA] at hv;obtain⟨rfl,rfl⟩:=hv;obtain⟨pp,hpp,hsp,rfl⟩:=hx.ptr;rw[hy.int,c2];have hO:=hr.obj _ _ hpp;rw[ho] at hO;obtain⟨cur,fr,hg,hcn,hcl,hop,hcells,hfr0⟩:=hO;have hfr:=hfr0.resolve_left (by simp);obtain⟨l',o1,o2,o3⟩:=eR (P:=P) (ρ:=ρ) (w:=w) (p:=pp) (n:=m) (op:=op) (ro:=false) (e:=e) (c:=c) (fz:=fz) ⟨cur,fr,hg,hcn,hcl,hop,hcells,hfr0⟩ (n+1) 0 (by omega);have hbs:=sW _ _ hb;rw[hbs] at o3;have hl':=B8 l l' o3;have hll:l.length=n+1:=by rw[<-o1,hl'];simp
        have hc1:P.cellsOf e=1:=by have:=uj hE hs;obtain⟨i,hi,hsz⟩:=this;unfold Program.cellsOf;rw[hi];exact hsz
        have hsh:w.shape? pp.1=some (e,cur.size):=by simp[World.shape?,hg]
        have hrun:=Lib.run_unsafeString_row (P:=P) (w:=w) t u ty e hp' hc1 pp.1 cur.size hsh l (by intro e;rw[e] at hll;simp at hll) (by omega) (by omega) (λj x hj=>o2 j _ (by rw[hl'];simp[hj]));rw[hll] at hrun;have hcast:Int.ofNat (n+1)=((n+1:Nat):Int):=rfl;refine⟨ρ,.string ⟨⟨l⟩⟩,_,by simp only[builtin,Sem.run_bind];rw[hcast,hrun];rfl,VR.of1 rfl,?_⟩;have hplt:pp.1<w.heap.size:=(Jw.1 hg).1;have hval:w.heap[pp.1]=.cells cur e fr:=(Jw.1 hg).2;have hn0:¬ (n+1=0):=by omega
        refine Step.set hr hpp (by rw[ho];rfl) (λb hb=>?_) ?_ ?_ ?_ ?_ ?_
        ·simp[World.freeze,hn0,Array.getElem?_modify,hb.symm]
        ·simp[World.freeze,hn0]
        ·simp[World.freeze,hn0]
        ·simp[World.freeze,hn0]
        ·simp[World.freeze,hn0]
        ·refine⟨cur,(if fr.1==fr.2 then (0,n+1) else (min fr.1 0,max fr.2 (n+1))),?_,hcn,hcl,hop,hcells,.inr ?_⟩
         ·obtain⟨lo,hi⟩:=fr;simp[World.freeze,hn0,Array.getElem?_modify,hg]
         ·have hfz:fz<=(bif ble fz (n+1) then n+1 else fz)/\n+1<=(bif ble fz (n+1) then n+1 else fz):=by
           cases hq:ble fz (n+1) with
           | true=>have:=I7 hq;simp only[Jo];omega
           | false=>
            have:n+1<fz:=by
             rcases Nat.lt_or_ge (n+1) fz with h | h
             ·exact h
             ·rw[Js h] at hq;cases hq
            simp only[JP];omega
          split
          ·exact hfz.2
          ·simp only[Nat.max_le];exact⟨JV hfr hfz.1,hfz.2⟩
     ·cases hv
    ·cases hv
   ·cases hv
 ·cases hv
omit hE in
def FX (hr:eZ P ρ h w) {x x':Value} (hx:VR ρ x x') {v:Value} {h':H} (ty:TypeId) (hv:iR h x=some (v,h')):
  ∃v' w',(Instr.next x' true ty).run P w=.ok v' w'/\VR ρ v v'/\Step P ρ h w ρ h' w':=by
 unfold iR at hv;split at hv
 ·rename_i ad;obtain⟨p,hp,hsp,rfl⟩:=hx.ptr;split at hv
  ·rename_i s pos ho;have hO:=hr.obj _ _ hp;rw[ho] at hO;have hO:w.heap[p.1]?=some (.stringIter ⟨⟨s⟩⟩ pos):=hO;cases h0:beq ad.off 0 with
   | false=>rw[h0] at hv;exact nomatch hv
   | true=>
    have h0':=I8 h0;rw[h0] at hv;rw[h0'];simp only[Jo] at hv;have hget:(getObj p.1).run P w=.ok (.stringIter ⟨⟨s⟩⟩ pos) w:=by simp[getObj,Sem.run,hO]
    cases hd:s.drop pos with
    | nil=>
     simp only[hd,I9,JA] at hv;obtain⟨rfl,rfl⟩:=hv;have hle:¬ pos<(⟨⟨s⟩⟩:ByteArray).size:=by have:=List.drop_eq_nil_iff.1 hd;show ¬ pos<s.length;omega
     refine⟨.tuple #[.bool false],w,?_,.inr ⟨[.bool false],[.bool false],rfl,rfl,fE rfl,trivial⟩,Step.refl hr⟩;simp[Instr.next,Sem.run_bind,hget,hle]
    | cons b r=>
     simp only[hd] at hv;have hlt0:pos<s.length:=by
      rcases Nat.lt_or_ge pos s.length with q | q
      ·exact q
      ·rw[List.drop_eq_nil_of_le q] at hd;exact nomatch hd
     cases hb:Nat.blt b.toNat 128 with
     | false=>
      simp only[hb,JP,I9,JA] at hv;obtain⟨rfl,rfl⟩:=hv;have hlt':pos<(⟨⟨s⟩⟩:ByteArray).size:=hlt0;refine⟨.tuple #[.bool true,.int .i64 pos,.int .i32 (Utf8.decode ⟨⟨s⟩⟩ pos).1],{ w with heap:=w.heap.setIfInBounds p.1 (.stringIter ⟨⟨s⟩⟩ (pos+(Utf8.decode ⟨⟨s⟩⟩ pos).2)) },?_,.inr ⟨_,_,rfl,rfl,fE rfl,fE rfl,fE rfl,trivial⟩,?_⟩
      ·simp[Instr.next,Sem.run_bind,hget,hlt',setObj,Sem.run,hO,goInt]
      ·refine Step.set hr hp (by rw[ho];rfl) (λj hj=>?_) (by simp) rfl rfl rfl ?_
       ·simp[Array.getElem?_setIfInBounds_ne (Ne.symm hj)]
       ·show (w.heap.setIfInBounds p.1 _)[p.1]?=_;simp[(Jw.1 hO).1]
     | true=>
      simp only[hb,Jo,I9,JA] at hv;obtain⟨rfl,rfl⟩:=hv;have hb':b.toNat<128:=I7 hb;have hlt:pos<s.length:=by
       rcases Nat.lt_or_ge pos s.length with q | q
       ·exact q
       ·rw[List.drop_eq_nil_of_le q] at hd;exact nomatch hd
      have hbs:s[pos]=b:=by
       have:=JR hlt;rw[hd] at this;injection this with e1 _
       exact e1.symm
      have hdec:Utf8.decode ⟨⟨s⟩⟩ pos=(b.toNat,1):=by
       have hg:(⟨⟨s⟩⟩:ByteArray).get! (pos+0)=b:=by show (⟨s⟩:Array UInt8)[pos+0]! = b;rw[Kp,getElem!_pos (⟨s⟩:Array UInt8) pos hlt];exact hbs
       unfold Utf8.decode;simp only[hg];rw[if_pos hb']
      have hlt':pos<(⟨⟨s⟩⟩:ByteArray).size:=hlt;refine⟨.tuple #[.bool true,.int .i64 pos,.int .i32 b.toNat],{ w with heap:=w.heap.setIfInBounds p.1 (.stringIter ⟨⟨s⟩⟩ (pos+1)) },?_,.inr ⟨_,_,rfl,rfl,fE rfl,fE rfl,fE rfl,trivial⟩,?_⟩
      ·simp[Instr.next,Sem.run_bind,hget,hlt',hdec,setObj,Sem.run,hO,goInt]
      ·refine Step.set hr hp (by rw[ho];rfl) (λj hj=>?_) (by simp) rfl rfl rfl ?_
       ·simp[Array.getElem?_setIfInBounds_ne (Ne.symm hj)]
       ·show (w.heap.setIfInBounds p.1 _)[p.1]?=_;simp[(Jw.1 hO).1]
  ·exact nomatch hv
 ·exact nomatch hv
def Eb (hr:eZ P ρ h w) {x x':Value} (hx:VR ρ x x') {s d:TypeId} {v:Value} {h':H} (hv:tG E h s d x=some (v,h')):
  ∃ρ' v' w',(convert s d x').run P w=.ok v' w'/\VR ρ' v v'/\Step P ρ h w ρ' h' w':=by
 unfold tG at hv;split at hv
 ·rename_i e l hs hd;rw[hx.string];split at hv
  ·rename_i i he hi;cases hck:(beq i.size 1&&room h&&ble l.length 100000) with
   | false=>rw[hck] at hv;exact nomatch hv
   | true=>
    rw[hck] at hv;simp only[Jo,I9,JA] at hv;obtain⟨rfl,rfl⟩:=hv;simp only[Ja] at hck;have h1:=I8 hck.1.1;have hrun:=Lib.run_convert_string_bytes (P:=P) w s d e ⟨⟨l⟩⟩ (cV hE hs) (cV hE hd) (cV hE he);have hroom:=I7 hck.1.2;have hge:l.length<=grownCap w l.length 0 e:=grownCap_ge w l.length 0 e;have hsz:(Lib.bytesCells w e ⟨⟨l⟩⟩).size=grownCap w l.length 0 e:=by show ((Array.map _ (⟨l⟩:Array UInt8))++Array.replicate (grownCap w l.length 0 e-l.length) _).size=_;simp;omega
    have hnone:ρ h.next=none:=hr.unmapped (Jd _);refine⟨ρ.upd h.next (w.heap.size,grownCap w l.length 0 e-l.length),_,_,hrun,?_,?_⟩
    ·have e2:(2*l.length+1) / 2=l.length:=by omega
     have e3:l.length+(grownCap w l.length 0 e-l.length)=grownCap w l.length 0 e:=by omega
     refine VR.of1 ?_;have e4:(2*l.length+1)%2=1:=by omega
     simp only[cW,cU,Ren.upd_same,e4,e2,Nat.one_ne_zero,if_false,e3];rfl
    ·refine Step.give hr (p:=(w.heap.size,grownCap w l.length 0 e-l.length)) (O:=h.objs) hnone rfl (dX (by omega)) (λ_=>.inl rfl) (λj q hq hl=>?_) (by rw[Lib.bytesWorld_size];omega) (λρ' hle=>?_) (λb hb _=>Lib.bytesWorld_at_old w e _ b hb) (λhh=>absurd hh (KO _)) (by rw[Lib.bytesWorld_size];omega) ?_ ?_ ?_
     ·have hlt:=hr.inside j q hq hl;exact⟨by show q.1≠w.heap.size;omega,Lib.bytesWorld_at_old w e _ _ hlt⟩
     ·refine⟨_,_,Lib.bytesWorld_at_new w e ⟨⟨l⟩⟩,by omega,λq=>(nomatch q),λ_=>⟨i,hE.types e i hi,?_⟩,λk hk=>?_,.inl rfl⟩
      ·show _=l.length+(grownCap w l.length 0 e-l.length)*i.size;rw[h1,hsz];omega
      ·refine⟨.int .u8 (l[k]'hk).toNat,?_,?_⟩
       ·show ((Array.map _ (⟨l⟩:Array UInt8))++Array.replicate (grownCap w l.length 0 e-l.length) _)[k]?=_;rw[Array.getElem?_append_left (by simpa using hk)];simp[hk]
       ·rw[T.get_ofList,Jc];simp only[JX,Jn hk,KD,KH];exact .inr rfl
     all_goals first | rfl | (simp[Lib.bytesWorld,World.freeze];done) | (simp[Lib.bytesWorld,World.freeze];rfl)
  ·exact nomatch hv
 ·exact nomatch hv
def nh (hr:eZ P ρ h w) {t:TM} {a:Act} (ht:ek ρ t a) {o:Oper} {v:Value} {h':H} (hv:heavy E t h o=some (v,h')):
  ∃ρ' v' w' n,(execOp a.eval o).run P w=.ok n w'/\(n=.value v' \/ (n=.skip/\v'=undef))/\VR ρ' v v'/\Step P ρ h w ρ' h' w':=by
 have hev:=j5 hr ht;unfold heavy at hv;unfold execOp;split at hv
 ·rename_i ty x y e;have hx:=hev x;split at hv
  ·rename_i ad ex;rw[ex] at hx;cases hs:nS E h ty ad (ev t y) with
   | none=>simp[hs] at hv
   | some h2=> simp only[hs,I9,JA] at hv;obtain⟨rfl,rfl⟩:=hv;obtain⟨p,hp,hsp,hx'⟩:=hx.ptr;obtain⟨w',h1,h2⟩:=Ed hE hr hp hsp (hev y) hs;exact⟨ρ,undef,w',.skip,by simp[e,hx',Instr.storeAt,Instr.sureAddr,h1],.inr ⟨rfl,rfl⟩,VR.undef ρ,h2⟩
  ·cases hv
 ·rename_i ty m k x e;cases hs:iK E h ty (ev t m) (ev t k) (ev t x) with
  | none=>simp[hs] at hv
  | some h2=> simp only[hs,I9,JA] at hv;obtain⟨rfl,rfl⟩:=hv;obtain⟨w',h1,h2⟩:=rS hE hr (hev m) (hev k) (hev x) hs;exact⟨ρ,undef,w',.skip,by simp[e,h1],.inr ⟨rfl,rfl⟩,VR.undef ρ,h2⟩
 ·rename_i c e;split at hv
  ·rename_i b ec;obtain⟨ρ',v',w',h1,h2,h3⟩:=Eg hE hr o.type (c.args.map λ| .const _=>true | _=>false) (kN hr ht c.args.toList) hv;refine⟨ρ',v',w',.value v',?_,.inl rfl,h2,h3⟩;have e1:c.args.map a.eval=⟨c.args.toList.map a.eval⟩:=by apply Array.ext';simp
   simp only[e,Sem.run_bind,resolve,ec,Sem.run_pure,Result.andThen_ok,invoke,e1];exact h1
  ·cases hv
 ·rename_i it e;obtain⟨v',w',h1,h2,h3⟩:=FX hr (hev it) o.type hv;exact⟨ρ,v',w',.value v',by simp[e,h1],.inl rfl,h2,h3⟩
 ·rename_i s d x e;obtain⟨ρ',v',w',h1,h2,h3⟩:=Eb hE hr (hev x) hv;exact⟨ρ',v',w',.value v',by simp[e,h1],.inl rfl,h2,h3⟩
 ·cases hv
end
end
section
def dL (P:Program) (ρ:Ren) (h:H) (w:World) (f:FuncId) (args':List Value) (v:Value) (h':H):Prop:=
 (∃v' ρ' w',(callFunc f ⟨args'⟩).run P w=.ok (.value v') w'/\VR ρ' v v'/\Step P ρ h w ρ' h' w') \/
 (∃fn, P.funcs[f]? = some fn /\ fn.body.isNone = false /\ (fn.name== "runtime.NumGoroutine") = false /\
  Calls P f ⟨args'⟩ w λe w'=>∃ρ' v',e=.returned v'/\VR ρ' v v'/\Step P ρ h w ρ' h' w')
def dC (P:Program) (f:FuncId) (k:List Value->H->Option (Value × H)):Prop:=
 ∀ρ h w args args' v h',eZ P ρ h w->bT (VR ρ) args args'->k args h=some (v,h')->dL P ρ h w f args' v h'
def fu (plans:Nat->Option lH) (ce:Array Oper->lH->Bool) (nt:Nat):Code->Bool
 |.region id ops draw=>ops.toList.all (eF nt)&&(bif draw then (match plans id with | some p=>ce ops p | none=>true) else true)
 |.seq a b=>fu plans ce nt a&&fu plans ce nt b
 |.cond _ a b=>fu plans ce nt a&&fu plans ce nt b
 |.block _ c=>fu plans ce nt c
 |.loop c=>fu plans ce nt c
 |.scope c=>fu plans ce nt c
 | _=>true
def rj (nt:Nat) (D:List Deferred) (P:Program) (ρ:Ren) (h:H) (w:World):Out->Exit->Act->World->Prop
 |.norm t h',e,a',w'=>e=.normal/\∃ρ',Step P ρ h w ρ' h' w'/\ek ρ' t a'/\nt<=a'.tmps.size/\a'.defers=D
 |.exit id t h',e,a',w'=>e=.exit id/\∃ρ',Step P ρ h w ρ' h' w'/\ek ρ' t a'/\nt<=a'.tmps.size/\a'.defers=D
 |.ret t h',e,a',w'=>e=.ret/\∃ρ',Step P ρ h w ρ' h' w'/\ek ρ' t a'/\nt<=a'.tmps.size/\a'.defers=D
 |.fail,_,_,_=>False
def rj.step {nt:Nat} {D:List Deferred} {P:Program} {ρ ρ₁:Ren} {h h₁:H} {w w₁:World} (s:Step P ρ h w ρ₁ h₁ w₁) {out:Out} {e:Exit} {a:Act} {w':World}
  (ho:rj nt D P ρ₁ h₁ w₁ out e a w'):rj nt D P ρ h w out e a w':=by
 cases out with
 | fail=>exact ho
 | norm t h'=>obtain⟨e,ρ',s',r⟩:=ho;exact⟨e,ρ',s.trans s',r⟩
 | exit id t h'=>obtain⟨e,ρ',s',r⟩:=ho;exact⟨e,ρ',s.trans s',r⟩
 | ret t h'=>obtain⟨e,ρ',s',r⟩:=ho;exact⟨e,ρ',s.trans s',r⟩
structure gp (P:Program) (E:Env) (ce:Array Oper->lH->Bool):Prop extends TypesOK P E where
 funs:∀f fn,E.funs.get f=some fn->P.funcs[f]?=some fn
 names : ∀f fn, E.funs.get f = some fn -> E.ext f = none -> (fn.name== "runtime.NumGoroutine") = false /\ fn.ntmps <= 1000000000
 codes:∀f fn c,E.funs.get f=some fn->E.ext f=none->fn.body=some c->fu (E.plans f) ce fn.ntmps c=true
 mixed:P.follows .mixedOrders=true
 ext:∀f fn k,E.funs.get f=some fn->E.ext f=some k->dC P f k
section
variable {P : Program} {E : Env} {nt : Nat} {ρ : Ren} {h : H} {w : World}
def wU (hE:TypesOK P E) {t:TM} {a:Act} (hr:eZ P ρ h w) (ht:ek ρ t a):∀(l:List ResultVar) (vs:List Value),fO E h t l=some vs ->
  ∃vs',(l.mapM (λ(x:ResultVar)=>match x with
   |.tmp i=>pure (a.tmps.getD i undef)
   |.cell i ty=>do loadVar ty (<-asAddr (a.tmps.getD i undef)):ResultVar->Sem Value)).run P w=.ok vs' w/\bT (VR ρ) vs vs'
 | [],vs,hv=>by simp[fO] at hv;subst hv;exact⟨[],by simp,trivial⟩
 | x :: l,vs,hv=>by
  simp only[fO] at hv;cases h1:sn E h t x with
  | none=>simp[h1] at hv
  | some v=>
   simp only[h1] at hv;cases h2:fO E h t l with
   | none=>simp[h2] at hv
   | some vs2=>
    simp only[h2,I9] at hv;subst hv;obtain⟨l',e1,e2⟩:=wU hE hr ht l vs2 h2
    have hx:∃v',(match x with
      |.tmp i=>pure (a.tmps.getD i undef)
      |.cell i ty=>do loadVar ty (<-asAddr (a.tmps.getD i undef)):Sem Value).run P w=.ok v' w/\VR ρ v v':=by
     cases x with
     | tmp i=> simp only[sn,I9] at h1;subst h1;exact⟨_,rfl,ht i⟩
     | cell i ty=>
      simp only[sn] at h1;split at h1
      ·rename_i ad ea;have hp:=ht i;rw[ea] at hp;obtain⟨p,hp1,hp2,hp3⟩:=hp.ptr;obtain⟨v',g1,g2⟩:=xY hE hr hp1 h1;refine⟨v',?_,g2⟩;simp only[hp3,asAddr,Sem.run_bind,Sem.run_pure,Result.andThen_ok,g1]
      ·cases h1
    obtain⟨v',g1,g2⟩:=hx;refine⟨v' :: l',?_,g2,e2⟩;simp only[List.mapM_cons,Sem.run_bind,g1,Result.andThen_ok,e1,Sem.run_pure]
def my (hE:TypesOK P E) {t:TM} {a:Act} (hr:eZ P ρ h w) (ht:ek ρ t a) {fn:Func} {vs:List Value} {v:Value} (hv:fO E h t fn.results.toList=some vs) (hu:gQ vs=some v):
  ∃v',(results fn a.tmps).run P w=.ok v' w/\VR ρ v v':=by
 obtain⟨vs',e1,e2⟩:=wU hE hr ht _ _ hv
 have hm:(fn.results.mapM (λ(x:ResultVar)=>match x with
   |.tmp i=>pure (a.tmps.getD i undef)
   |.cell i ty=>do loadVar ty (<-asAddr (a.tmps.getD i undef)):ResultVar->Sem Value)).run P w=.ok ⟨vs'⟩ w:=by
  rw[Array.mapM_eq_mapM_toList,Sem.run_map,e1];rfl
 have key:∀v',(do
   let vs <-(fn.results.mapM (λ(x:ResultVar)=>match x with
    |.tmp i=>pure (a.tmps.getD i undef)
    |.cell i ty=>do loadVar ty (<-asAddr (a.tmps.getD i undef)):ResultVar->Sem Value))
   pure (if h:vs.size=1 then vs[0] else .tuple vs):Sem Value).run P w=.ok v' w->(results fn a.tmps).run P w=.ok v' w:=λ_ h=>h
 suffices hs:∃v',(do
   let vs <-(fn.results.mapM (λ(x:ResultVar)=>match x with
    |.tmp i=>pure (a.tmps.getD i undef)
    |.cell i ty=>do loadVar ty (<-asAddr (a.tmps.getD i undef)):ResultVar->Sem Value))
   pure (if h:vs.size=1 then vs[0] else .tuple vs):Sem Value).run P w=.ok v' w/\VR ρ v v' by
  obtain⟨v',h1,h2⟩:=hs;exact⟨v',key v' h1,h2⟩
 rw[Sem.run_bind,hm];simp only[Result.andThen_ok,Sem.run_pure];have hlen:=e2.length;unfold gQ at hu;split at hu
 ·simp only[I9] at hu;subst hu
  match vs',e2 with
  | [v'],⟨g,_⟩=>exact⟨v',rfl,g⟩
 ·rename_i hne;cases hall:vs.all λv=>!isTuple v with
  | false=>simp[hall] at hu
  | true=>
   simp only[hall,Jo,I9] at hu;subst hu;refine⟨.tuple ⟨vs'⟩,?_,.inr ⟨vs,vs',rfl,rfl,?_⟩⟩
   ·have:¬ ((⟨vs'⟩:Array Value).size=1):=by
     intro e;have:vs.length=1:=by rw[hlen];exact e
     match vs,this with
     | [x],_=>exact hne x rfl
    rw[dif_neg this]
   ·refine bT.of_get hlen λi x x' g1 g2=>?_;obtain⟨y,g3,g4⟩:=e2.get i x g1;rw[g3] at g2;cases g2;rcases g4 with g4 | ⟨l,l',ex,_⟩
    ·exact g4
    ·exfalso;have:=Jv.1 hall x (List.mem_of_getElem? g1);subst ex;simp[isTuple] at this
def dU {ops:Array Oper} {t:TM} {a:Act} {o:Oper} (ht:∀d∈o.looksAt ops,VR ρ (t.get d) (a.tmps.getD d undef)) (hd:∀o∈ops.toList,eF nt o=true) (hn:nt<=a.tmps.size) {b:Bool} (hw:bU ops t o=some b):
  Region.wanted o (yielded ops a.tmps)=b:=by
 unfold bU at hw;unfold Region.wanted;split at hw
 ·rename_i e;simp only[I9] at hw;subst hw;simp[e]
 ·rename_i g want e;simp only[e];split at hw
  ·rename_i og eg;split at hw
   ·rename_i d ed;have hmem:og∈ops.toList:=by have:=Array.mem_of_getElem? eg;simpa using this
    have hlt:d<nt:=by have:=hd og hmem;simp only[eF,ed] at this;exact I7 this
    have hlt2:d<a.tmps.size:=Jp hlt hn;have hv:=ht d (by simp[Oper.looksAt,e,eg,ed]);have hy:yielded ops a.tmps g=match a.tmps.getD d undef with | .bool b=>some b | _=>none:=by simp only[yielded,eg,KS,ed];rw[Kk hlt2,JH,Kk hlt2];simp only[KH];generalize a.tmps[d]=x;cases x <;> rfl
    rw[hy];split at hw
    ·rename_i b' eb;simp only[I9] at hw;subst hw;rw[eb] at hv;rw[hv.bool];cases b' <;> cases want <;> rfl
    ·rename_i eb;simp only[I9] at hw;subst hw;rw[eb] at hv;obtain⟨l',e1,e2⟩:=hv.tuple;rw[e1];rfl
    ·cases hw
   ·cases hw
  ·cases hw
def nV {ops:Array Oper} {t:TM} {a:Act} (ht:ek ρ t a) (hd:∀o∈ops.toList,eF nt o=true) (hn:nt<=a.tmps.size) {o:Oper} {b:Bool} (hw:bU ops t o=some b):
  Region.wanted o (yielded ops a.tmps)=b:=dU (λd _=>ht d) hd hn hw
end
end
section
def fJ (P:Program) (E:Env) (ex:gq):Prop:=
 ∀f args h v h',kb E ex f args h=some (v,h')->∀ρ w args',eZ P ρ h w->bT (VR ρ) args args'->dL P ρ h w f args' v h'
section
variable {P : Program} {E : Env} {nt : Nat} {ρ : Ren} {h : H} {w : World}
def Cm (hE:TypesOK P E) {ex:gq} (hc:fJ P E ex) {o:Oper} {t:TM} {v:Value} {h':H} (hv:ie E ex o t h=some (v,h')) (hr:eZ P ρ h w) {a b:Act} (ht:ek ρ t b) (hab:execOp a.eval o=execOp b.eval o)
  {K:Act->World->Prop} {Q:Exit->Act->World->Prop} (hK:∀ρ' v' w',VR ρ' v v'->Step P ρ h w ρ' h' w'->K (a.put o.dst v') w'):o.wp P a w K Q:=by
 unfold ie at hv;split at hv
 ·rename_i c hcall;unfold gk at hcall;split at hcall
  ·rename_i c' eop;split at hcall
   ·rename_i x ecallee;simp only[I9] at hcall;subst hcall;split at hv
    ·rename_i f args ht';unfold target at ht';rw[ecallee] at ht';simp only at ht';split at ht'
     ·rename_i f' first caps ef
      simp only[I9,JA] at ht';obtain⟨rfl,rfl⟩:=ht';have hf:=j5 hr ht x;rw[ef] at hf;obtain⟨u1,u2,g1,g2,g3⟩:=hf.func;have hargs:bT (VR ρ) (first.toList++c'.args.toList.map (ev t)++caps.toList) (u1++c'.args.toList.map b.eval++u2):=
       ((lz g1).append (kN hr ht _)).append (lz g2)
      have hcl:=hc _ _ _ _ _ hv ρ w _ hr hargs;have hexec:(execOp b.eval o).run P w=(callFunc f' ⟨u1++c'.args.toList.map b.eval++u2⟩).run P w:=by
       unfold execOp;have e1:c'.args.map b.eval=⟨c'.args.toList.map b.eval⟩:=by apply Array.ext';simp
       simp only[eop,Sem.run_bind,resolve,ecallee,g3,Deferred.ofValue,Sem.run_pure,Result.andThen_ok,invoke,e1];simp
      unfold Oper.wp;rw[hab,hexec];rcases hcl with ⟨v',ρ',w',r1,r2,r3⟩ | ⟨fn,hfn,hbody,hname,hcalls⟩
      ·rw[r1];exact hK ρ' v' w' r2 r3
      ·have hrun:(callFunc f' ⟨u1++c'.args.toList.map b.eval++u2⟩).run P w=.ok (.enter f' ⟨u1++c'.args.toList.map b.eval++u2⟩) w:=by unfold callFunc;rw[Sem.run_bind,run_program];simp only[Result.andThen_ok,hfn,hname,hbody,J1,if_false];rfl
       rw[hrun];refine Calls.mono hcalls ?_;rintro e w'' ⟨ρ',v',rfl,r2,r3⟩;exact hK ρ' v' w'' r2 r3
     ·cases ht'
    ·cases hv
   ·cases hcall
  ·cases hcall
 ·cases hl:light E t h o with
  | some u=> simp only[hl,I9,JA] at hv;obtain⟨rfl,rfl⟩:=hv;obtain⟨v',h1,h2⟩:=qE hE hr ht hl;unfold Oper.wp;rw[hab,h1];exact hK ρ v' w h2 (Step.refl hr)
  | none=>
   simp only[hl] at hv;cases hh:heavy E t h o with
   | some u=>
    obtain⟨u,h2⟩:=u;simp only[hh,I9,JA] at hv;obtain⟨rfl,rfl⟩:=hv;obtain⟨ρ',v',w',n,g1,g2,g3,g4⟩:=nh hE hr ht hh;unfold Oper.wp;rw[hab,g1];rcases g2 with rfl | ⟨rfl,rfl⟩
    ·exact hK ρ' v' w' g3 g4
    ·exact hK ρ' _ w' g3 g4
   | none=>
    simp only[hh] at hv;cases ha:dk E t o with
    | none=>simp[ha] at hv
    | some u=>
     obtain⟨ob,k⟩:=u;simp only[ha] at hv;cases hroom:room h with
     | false=>simp[hroom] at hv
     | true=> simp only[hroom,Jo,I9,JA] at hv;obtain⟨rfl,rfl⟩:=hv;obtain⟨O,V',g1,g2,g3,g4,g5⟩:=oe hE hr ht ha;unfold Oper.wp;rw[hab,g1];exact hK _ _ _ (g5 _ _ (Ren.le_upd (hr.unmapped (Jd _))) Ren.upd_same) (Step.alloc hr hroom g4)
def A8 (hE:TypesOK P E) {ex:gq} (hc:fJ P E ex) {o:Oper} {t:TM} {v:Value} {h':H} (hv:ie E ex o t h=some (v,h')) (hr:eZ P ρ h w) {a:Act} (ht:ek ρ t a)
  {K:Act->World->Prop} {Q:Exit->Act->World->Prop} (hK:∀ρ' v' w',VR ρ' v v'->Step P ρ h w ρ' h' w'->K (a.put o.dst v') w'):o.wp P a w K Q:=Cm hE hc hv hr ht rfl hK
def cG (a:Act) (d:Option Tmp) (v:Value):(a.put d v).tmps.size=a.tmps.size/\(a.put d v).defers=a.defers:=by cases d <;> simp[Act.put]
def ek.putV {t:TM} {a:Act} (ht:ek ρ t a) {o:Oper} (hd:eF nt o=true) (hn:nt<=a.tmps.size) (hb:nt<=1000000000) {v v':Value} (hv:VR ρ v v'):ek ρ (putV t o.dst v) (a.put o.dst v'):=by
 unfold Ev.putV;unfold eF at hd;cases e:o.dst with
 | none=>exact ht
 | some d=> simp only[e] at hd;have hd:d<nt:=I7 hd;exact ht.put d (Jp hd hn) (dX (JV (Nat.le_of_lt hd) (JV hb (by decide)))) hv
def tz (hE:TypesOK P E) {ex:gq} (hc:fJ P E ex) {ops:Array Oper} (hd:∀o∈ops.toList,eF nt o=true) (hb:nt<=1000000000) {Q:Exit->Act->World->Prop}:
  ∀(os:List Oper) (l:List Nat) (t t':TM) (h h':H) (ρ:Ren) (w:World) (a:Act),l.map (λi=>ops[i]?)=os.map some->eN E ex ops os t h=some (t',h')->eZ P ρ h w->ek ρ t a->nt<=a.tmps.size ->
   (∀ρ' w' a',Step P ρ h w ρ' h' w'->ek ρ' t' a'->nt<=a'.tmps.size->a'.defers=a.defers->Q .normal a' w')->wpOps P ops Q l a w
 | [],[],t,t',h,h',ρ,w,a,_,hv,hr,ht,hn,hQ=>by simp only[eN,I9,JA] at hv;obtain⟨rfl,rfl⟩:=hv;exact hQ ρ w a (Step.refl hr) ht hn rfl
 | o :: os,i :: l,t,t',h,h',ρ,w,a,hl,hv,hr,ht,hn,hQ=>by
  simp only[J5,List.cons.injEq] at hl;obtain⟨hi,hl⟩:=hl;have hmem:o∈ops.toList:=by simpa using Array.mem_of_getElem? hi
  simp only[eN] at hv;cases hop:Eo E ex ops o t h with
  | none=>simp[hop] at hv
  | some u=>
   obtain⟨t1,h1⟩:=u;simp only[hop] at hv;simp only[wpOps,hi];unfold Eo at hop;cases hw:bU ops t o with
   | none=>simp[hw] at hop
   | some b=>
    rw[nV ht hd hn hw];cases b with
    | false=> simp only[hw,I9,JA] at hop;obtain⟨rfl,rfl⟩:=hop;simp only[J1,if_false];refine tz hE hc hd hb os l _ t' h h' ρ w _ hl hv hr (ht.putV (hd o hmem) hn hb (VR.undef ρ)) (by rw[(cG a _ _).1];exact hn) ?_;intro ρ' w' a' s1 s2 s3 s4;exact hQ ρ' w' a' s1 s2 s3 (by rw[s4,(cG a _ _).2])
    | true=>
     simp only[hw] at hop;cases hval:ie E ex o t h with
     | none=>simp[hval] at hop
     | some u=> obtain⟨v,h2⟩:=u;simp only[hval,I9,JA] at hop;obtain⟨rfl,rfl⟩:=hop;simp only[if_true];refine .inl (A8 hE hc hval hr ht λρ1 v' w1 g1 g2=>?_);refine tz hE hc hd hb os l _ t' h2 h' ρ1 w1 _ hl hv g2.rel ((ht.mono g2.ext).putV (hd o hmem) hn hb g1) (by rw[(cG a _ _).1];exact hn) ?_;intro ρ' w' a' s1 s2 s3 s4;exact hQ ρ' w' a' (g2.trans s1) s2 s3 (by rw[s4,(cG a _ _).2])
 | [],_ :: _,_,_,_,_,_,_,_,hl,_,_,_,_,_=>by simp at hl
 | _ :: _,[],_,_,_,_,_,_,_,hl,_,_,_,_,_=>by simp at hl
def ez (ops:Array Oper):(List.range ops.size).map (λi=>ops[i]?)=ops.toList.map some:=by
 apply List.ext_getElem?;intro i;simp only[JX];by_cases hi:i<ops.size
 ·simp[hi]
 ·have:ops.size<=i:=Nat.le_of_not_lt hi;simp[this]
end
end
section
def rp (P:Program) (E:Env) (ce:Array Oper->lH->Bool):Prop:=
 ∀(ex:gq),fJ P E ex->∀(nt:Nat) (ops:Array Oper) (p:lH) (ρ:Ren) (h:H) (w:World) (t t':TM) (h':H) (a:Act) (Q:Exit->Act->World->Prop),
  (∀o∈ops.toList,eF nt o=true)->nt<=1000000000->ce ops p=true->room h=true->p.keep<=1000 ->
  eQ E ex ops h.next p.steps t { h with next:=h.next+p.keep }=some (t',h')->eZ P ρ h w->ek ρ t a->nt<=a.tmps.size ->
  (∀ρ' w' a',Step P ρ h w ρ' h' w'->ek ρ' t' a'->nt<=a'.tmps.size->a'.defers=a.defers->Q .normal a' w') ->
  wpAny P .any ops Q ops.size (Array.replicate ops.size false) a w
section
variable {P : Program} {E : Env} {ce : Array Oper -> lH -> Bool}
def wt (hE:gp P E ce) {ex:gq}
  (hx:∀fn c t h nt,fu (E.plans fn) ce nt c=true->nt<=1000000000->ex fn c t h ≠ .fail->∀(ρ:Ren) (w:World) (a:Act),eZ P ρ h w->ek ρ t a->nt<=a.tmps.size ->
   c.wp P (rj nt a.defers P ρ h w (ex fn c t h)) a w):fJ P E ex:=by
 intro f args h v h' hv ρ w args' hr ha;unfold kb at hv;split at hv
 ·cases hv
 ·rename_i fn hf;split at hv
  ·rename_i k hk;exact hE.ext f fn k hf hk ρ h w args args' v h' hr ha hv
  ·rename_i hk;split at hv
   ·cases hv
   ·rename_i c hbody;obtain⟨hn1,hn2⟩:=hE.names f fn hf hk;right;refine⟨fn,hE.funs f fn hf,by rw[hbody];rfl,hn1,?_⟩;have hcode:=hE.codes f fn c hf hk hbody;have ht:ek ρ (T.ofList undef args) { tmps:=⟨args'⟩++Array.replicate (fn.ntmps-args'.length) undef,defers:=[] }:=by
     intro i;rw[T.get_ofList];have hl:=ha.length;simp only[Jc];by_cases hi:i<args.length
     ·obtain⟨v',e1,e2⟩:=ha.get i _ (Jn hi);rw[Jn hi];rw[JH,Array.getElem?_append_left (by simp;omega)];simp only[KL,e1];exact e2
     ·rw[Kw (Nat.le_of_not_lt hi)];rw[JH,Array.getElem?_append_right (by simp;omega)];have:((Array.replicate (fn.ntmps-args'.length) undef)[i-(⟨args'⟩:Array Value).size]?).getD undef=undef:=by rw[Array.getElem?_replicate];split <;> rfl
      rw[this];exact VR.undef ρ
    have hsz:fn.ntmps<=(⟨args'⟩++Array.replicate (fn.ntmps-args'.length) undef:Array Value).size:=by simp;omega
    have hwp:=hx f c (T.ofList undef args) h fn.ntmps hcode hn2;refine calls_of_wp (hE.funs f fn hf) hbody ?_;cases ho:ex f c (T.ofList undef args) h with
    | fail=>simp[ho] at hv
    | exit id t1 h1=>simp[ho] at hv
    | norm t1 h1=>
     have:=hwp (by rw[ho];simp) ρ w _ hr ht hsz;rw[ho] at this;refine wp_mono this ?_;rintro e a' w' ⟨rfl,ρ',s1,s2,s3,s4⟩;simp only[ho] at hv;cases hres:fO E h1 t1 fn.results.toList with
     | none=>simp[hres] at hv
     | some vs=>
      simp only[hres] at hv;cases htu:gQ vs with
      | none=>simp[htu] at hv
      | some u=> simp only[htu,I9,JA] at hv;obtain⟨rfl,rfl⟩:=hv;obtain⟨v',r1,r2⟩:=my hE.toTypesOK s1.rel s2 hres htu;exact⟨s4,v',r1,ρ',v',rfl,r2,s1⟩
    | ret t1 h1=>
     have:=hwp (by rw[ho];simp) ρ w _ hr ht hsz;rw[ho] at this;refine wp_mono this ?_;rintro e a' w' ⟨rfl,ρ',s1,s2,s3,s4⟩;simp only[ho] at hv;cases hres:fO E h1 t1 fn.results.toList with
     | none=>simp[hres] at hv
     | some vs=>
      simp only[hres] at hv;cases htu:gQ vs with
      | none=>simp[htu] at hv
      | some u=> simp only[htu,I9,JA] at hv;obtain⟨rfl,rfl⟩:=hv;obtain⟨v',r1,r2⟩:=my hE.toTypesOK s1.rel s2 hres htu;exact⟨s4,v',r1,ρ',v',rfl,r2,s1⟩
def uh (hE:gp P E ce) (hR:rp P E ce):∀(n:Nat) (fn:FuncId) (c:Code) (t:TM) (h:H) (nt:Nat),fu (E.plans fn) ce nt c=true->nt<=1000000000->cZ E n fn c t h ≠ .fail ->
  ∀(ρ:Ren) (w:World) (a:Act),eZ P ρ h w->ek ρ t a->nt<=a.tmps.size->c.wp P (rj nt a.defers P ρ h w (cZ E n fn c t h)) a w
 | 0,fn,c,t,h,nt,_,_,hne,_,_,_,_,_,_=>absurd rfl hne
 | n+1,fn,c,t,h,nt,hcode,hb,hne,ρ,w,a,hr,ht,hn=>by
  have IH:=uh hE hR n;have hcalls:fJ P E (cZ E n):=wt hE λfn c t h nt h1 h2 h3 ρ w a h4 h5 h6=>IH fn c t h nt h1 h2 h3 ρ w a h4 h5 h6;simp only[cZ] at hne ⊢;have andThen:∀(x:Code) (o1:Out) (rest:TM->H->Out) (K:Act->World->Prop),o1 ≠ .fail->x.wp P (rj nt a.defers P ρ h w o1) a w ->
    ∀(out:Out),out=(match o1 with | .norm t h=>rest t h | o=>o) ->
    (∀t1 h1 ρ1 w1 a1,o1=.norm t1 h1->Step P ρ h w ρ1 h1 w1->ek ρ1 t1 a1->nt<=a1.tmps.size->a1.defers=a.defers->K a1 w1) ->
    x.wp P (Exit.then K (rj nt a.defers P ρ h w out)) a w:=by
   intro x o1 rest K ho1 hx out hout hK;refine wp_mono hx ?_;intro e a1 w1 ho;cases o1 with
   | fail=>exact ho.elim
   | norm t1 h1=> obtain⟨rfl,ρ1,s1,s2,s3,s4⟩:=ho;exact hK t1 h1 ρ1 w1 a1 rfl s1 s2 s3 s4
   | exit id t1 h1=> subst hout;obtain⟨rfl,r⟩:=ho;exact⟨rfl,r⟩
   | ret t1 h1=> subst hout;obtain⟨rfl,r⟩:=ho;exact⟨rfl,r⟩
  cases c with
  | skip=>exact wp_skip ⟨rfl,ρ,Step.refl hr,ht,hn,rfl⟩
  | label l=>exact wp_label ⟨rfl,ρ,Step.refl hr,ht,hn,rfl⟩
  | exit id=>exact wp_exit ⟨rfl,ρ,Step.refl hr,ht,hn,rfl⟩
  | scope b=>
   simp only[fu] at hcode;simp only[dI] at hne ⊢;refine wp_scope_straight (wp_mono (IH fn b t h nt hcode hb hne ρ w a hr ht hn) ?_);intro e a1 w1 ho;cases hx:cZ E n fn b t h with
   | fail=>rw[hx] at ho;exact ho.elim
   | norm t1 h1=>rw[hx] at ho;obtain⟨rfl,r⟩:=ho;exact⟨rfl,r⟩
   | exit id t1 h1=>rw[hx] at ho;obtain⟨rfl,r⟩:=ho;exact⟨rfl,r⟩
   | ret t1 h1=>rw[hx] at ho;obtain⟨rfl,r⟩:=ho;exact⟨rfl,r⟩
  | ret=>exact wp_ret ⟨rfl,ρ,Step.refl hr,ht,hn,rfl⟩
  | seq x y=>
   simp only[fu,Ja] at hcode;simp only[dI] at hne ⊢;refine wp_seq ?_;cases ho:cZ E n fn x t h with
   | fail=>rw[ho] at hne;exact absurd rfl hne
   | norm t1 h1=> rw[ho] at hne;have h1':=IH fn x t h nt hcode.1 hb (by rw[ho];simp) ρ w a hr ht hn;rw[ho] at h1';refine andThen x (.norm t1 h1) (cZ E n fn y) _ (by simp) h1' _ rfl ?_;rintro t2 h2 ρ1 w1 a1 e s1 s2 s3 s4;cases e;have h2':=IH fn y t1 h1 nt hcode.2 hb hne ρ1 w1 a1 s1.rel s2 s3;rw[s4] at h2';exact wp_mono h2' λe a' w' ho=>ho.step s1
   | exit id t1 h1=> have h1':=IH fn x t h nt hcode.1 hb (by rw[ho];simp) ρ w a hr ht hn;rw[ho] at h1';exact andThen x (.exit id t1 h1) (cZ E n fn y) _ (by simp) h1' _ rfl (λ_ _ _ _ _ e=>by cases e)
   | ret t1 h1=> have h1':=IH fn x t h nt hcode.1 hb (by rw[ho];simp) ρ w a hr ht hn;rw[ho] at h1';exact andThen x (.ret t1 h1) (cZ E n fn y) _ (by simp) h1' _ rfl (λ_ _ _ _ _ e=>by cases e)
  | cond x c1 c2=>
   simp only[fu,Ja] at hcode;simp only[dI] at hne ⊢;have hx:=j5 hr ht x;split at hne
   ·rename_i ex;rw[ex] at hx;exact wp_cond_true hx.bool (IH fn c1 t h nt hcode.1 hb hne ρ w a hr ht hn)
   ·rename_i ex;rw[ex] at hx;exact wp_cond_false hx.bool (IH fn c2 t h nt hcode.2 hb hne ρ w a hr ht hn)
   ·exact absurd rfl hne
  | block id b=>
   simp only[fu] at hcode;simp only[dI] at hne ⊢;refine wp_block ?_;cases ho:cZ E n fn b t h with
   | fail=>rw[ho] at hne;exact absurd rfl hne
   | norm t1 h1=> have h1':=IH fn b t h nt hcode hb (by rw[ho];simp) ρ w a hr ht hn;rw[ho] at h1';refine wp_mono h1' ?_;rintro e a' w' ⟨rfl,r⟩;exact⟨rfl,r⟩
   | ret t1 h1=> have h1':=IH fn b t h nt hcode hb (by rw[ho];simp) ρ w a hr ht hn;rw[ho] at h1';refine wp_mono h1' ?_;rintro e a' w' ⟨rfl,r⟩;exact⟨rfl,r⟩
   | exit id' t1 h1=>
    have h1':=IH fn b t h nt hcode hb (by rw[ho];simp) ρ w a hr ht hn;rw[ho] at h1';refine wp_mono h1' ?_;rintro e a' w' ⟨rfl,r⟩;simp only[Exit.inBlock];cases he:beq id' id with
    | true=> have:=I8 he;rw[if_pos this];exact⟨rfl,r⟩
    | false=>
     have:¬ id'=id:=by intro e;subst e;simp at he
     rw[if_neg this];exact⟨rfl,r⟩
  | loop b=>
   refine wp_loop_ghost (λm a1 w1=>∃t1 h1 ρ1,dI E (cZ E m) fn (.loop b) t1 h1=dI E (cZ E n) fn (.loop b) t h/\m<=n/\Step P ρ h w ρ1 h1 w1/\ek ρ1 t1 a1/\nt<=a1.tmps.size/\a1.defers=a.defers) n ⟨t,h,ρ,rfl,Jd _,Step.refl hr,ht,hn,rfl⟩ ?_;rintro m a1 w1 ⟨t1,h1,ρ1,e1,hm,s1,s2,s3,s4⟩;rw[<-e1] at hne ⊢;simp only[dI] at hne ⊢;have IHm:=uh hE hR m fn b t1 h1 nt (by simpa [fu] using hcode) hb;cases ho:cZ E m fn b t1 h1 with
   | fail=>rw[ho] at hne;exact absurd rfl hne
   | norm t2 h2=>
    have h1':=IHm (by rw[ho];simp) ρ1 w1 a1 s1.rel s2 s3;rw[ho] at h1';refine wp_mono h1' ?_;rintro e a' w' ⟨rfl,ρ2,r1,r2,r3,r4⟩;rw[ho] at hne;cases m with
    | zero=>exact absurd rfl hne
    | succ m=> refine⟨m,KV _,t2,h2,ρ2,?_,by omega,s1.trans r1,r2,r3,r4.trans s4⟩;rfl
   | exit id t2 h2=> have h1':=IHm (by rw[ho];simp) ρ1 w1 a1 s1.rel s2 s3;rw[ho] at h1';refine wp_mono h1' ?_;rintro e a' w' ⟨rfl,ρ2,r1,r2,r3,r4⟩;exact⟨rfl,ρ2,s1.trans r1,r2,r3,r4.trans s4⟩
   | ret t2 h2=> have h1':=IHm (by rw[ho];simp) ρ1 w1 a1 s1.rel s2 s3;rw[ho] at h1';refine wp_mono h1' ?_;rintro e a' w' ⟨rfl,ρ2,r1,r2,r3,r4⟩;exact⟨rfl,ρ2,s1.trans r1,r2,r3,r4.trans s4⟩
  | region id ops draw=>
   simp only[fu,Ja] at hcode;have hd:∀o∈ops.toList,eF nt o=true:=Jv.1 hcode.1;cases draw with
   | false=>
    simp only[dI] at hne ⊢;cases ho:eN E (cZ E n) ops ops.toList t h with
    | none=>rw[ho] at hne;exact absurd rfl hne
    | some u=> obtain⟨t1,h1⟩:=u;refine wp_region ?_;refine tz hE.toTypesOK hcalls hd hb ops.toList _ t t1 h h1 ρ w a (ez ops) ho hr ht hn ?_;intro ρ' w' a' r1 r2 r3 r4;exact⟨rfl,ρ',r1,r2,r3,r4⟩
   | true=>
    simp only[dI] at hne ⊢;cases hp:E.plans fn id with
    | none=>rw[hp] at hne;exact absurd rfl hne
    | some p=>
     have hplan:=hcode.2;simp only[Jo,hp] at hplan;simp only[hp] at hne ⊢;cases hck:(room h&&ble p.keep 1000) with
     | false=>simp[hck] at hne
     | true=>
      simp only[hck,Jo] at hne ⊢;simp only[Ja] at hck;cases ho:eQ E (cZ E n) ops h.next p.steps t { h with next:=h.next+p.keep } with
      | none=>rw[ho] at hne;exact absurd rfl hne
      | some u=> obtain⟨t1,h1⟩:=u;refine wp_region_any hE.mixed ?_;refine hR (cZ E n) hcalls nt ops p ρ h w.drew t t1 h1 a _ hd hb hplan hck.1 (I7 hck.2) ho hr.drew ht hn ?_;intro ρ' w' a' r1 r2 r3 r4;exact⟨rfl,ρ',(Step.drew hr).trans r1,r2,r3,r4⟩
  | _=>exact absurd rfl hne
def pw (hE:gp P E ce) (hR:rp P E ce) (n:Nat):fJ P E (cZ E n):=
 wt hE λfn c t h nt h1 h2 h3 ρ w a h4 h5 h6=>uh hE hR n fn c t h nt h1 h2 h3 ρ w a h4 h5 h6
end
end
end Go.Ev
