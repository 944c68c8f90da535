/-
  THE ROW of two numbers, a list of commands and a text: the law's function answers true wherever the row's premise holds.
-/
import Derived.Test.YtglmdggjibmjcaaGreatDoorZa
import Derived.ProofKit
import Derived.Stop.Joined
import Derived.SliceStrings
import Derived.ReadAgain
import Derived.Deep.Slices
import Derived.Carry
noncomputable section
set_option linter.all false
set_option maxRecDepth 100000
open Nat (ble beq)
namespace Go.Proofs.YtglmdggjibmjcaaGreatDoor
open Go Go.Ev Go.ChangeShapes Go.WideShapes Go.ChangeAt Go.RowKit
section
def own:ownKnob Tryz.prog.godebug=none:=by kernel_rfl
def D6 : Array Field:= #[.mk "Line" 3 0 false "" "" 0, .mk "Op" 5 1 false "" "" 8, .mk "Label" 9 2 false "" "" 16, .mk "On" 37 3 false "" "" 32, .mk "N" 3 4 false "" "" 56, .mk "M" 3 5 false "" "" 64, .mk "K" 3 6 false "" "" 72, .mk "Kind" 5 7 false "" "" 80, .mk "Texts" 37 8 false "" "" 88]
def u3:Tryz.prog.underlying 3=some (.int .i64):=by kernel_rfl
def u5:Tryz.prog.underlying 5=some (.int .u8):=by kernel_rfl
def u9:Tryz.prog.underlying 9=some .string:=by kernel_rfl
def DR:Tryz.prog.underlying 22=some (.slice 39):=by kernel_rfl
def u37:Tryz.prog.underlying 37=some (.slice 9):=by kernel_rfl
def u39:Tryz.prog.underlying 39=some (.struct D6):=by kernel_rfl
def c3:Tryz.prog.cellsOf 3=1:=by kernel_rfl
def c5:Tryz.prog.cellsOf 5=1:=by kernel_rfl
def c9:Tryz.prog.cellsOf 9=1:=by kernel_rfl
def c37:Tryz.prog.cellsOf 37=1:=by kernel_rfl
def c39:Tryz.prog.cellsOf 39=9:=by kernel_rfl
def T6 (t:TypeId):Prop:=t=3 \/ t=5 \/ t=9 \/ t=22 \/ t=37 \/ t=39
def Uz {t e:TypeId} (h:T6 t) (q:Tryz.prog.underlying t=some (.slice e)):(t=22/\e=39) \/ (t=37/\e=9):=by
 rcases h with rfl | rfl | rfl | rfl | rfl | rfl
 ·rw[u3] at q;exact nomatch q
 ·rw[u5] at q;exact nomatch q
 ·rw[u9] at q;exact nomatch q
 ·rw[DR] at q;cases q;exact .inl ⟨rfl,rfl⟩
 ·rw[u37] at q;cases q;exact .inr ⟨rfl,rfl⟩
 ·rw[u39] at q;exact nomatch q
def arp {t:TypeId} {fs:Array Field} (h:T6 t) (q:Tryz.prog.underlying t=some (.struct fs)):t=39/\fs=D6:=by
 rcases h with rfl | rfl | rfl | rfl | rfl | rfl
 ·rw[u3] at q;exact nomatch q
 ·rw[u5] at q;exact nomatch q
 ·rw[u9] at q;exact nomatch q
 ·rw[DR] at q;exact nomatch q
 ·rw[u37] at q;exact nomatch q
 ·rw[u39] at q;cases q;exact⟨rfl,rfl⟩
def Ie {t:TypeId} (h:T6 t):Tryz.prog.underlying t=some (.int .i64) \/ Tryz.prog.underlying t=some (.int .u8) \/ Tryz.prog.underlying t=some .string \/ (∃e,Tryz.prog.underlying t=some (.slice e)) \/ ∃fs,Tryz.prog.underlying t=some (.struct fs):=by
 rcases h with rfl | rfl | rfl | rfl | rfl | rfl
 ·exact .inl u3
 ·exact .inr (.inl u5)
 ·exact .inr (.inr (.inl u9))
 ·exact .inr (.inr (.inr (.inl ⟨_,DR⟩)))
 ·exact .inr (.inr (.inr (.inl ⟨_,u37⟩)))
 ·exact .inr (.inr (.inr (.inr ⟨_,u39⟩)))
def apZ:∀(j:Nat) f,D6.toList[j]?=some f->f.offset=((D6.toList.take j).map λf=>Tryz.prog.cellsOf f.type).sum:=by
 intro j f hf
 match j,hf with
 | 0,hf=>cases hf;rfl
 | 1,hf=>cases hf;show 1=([Tryz.prog.cellsOf 3]:List Nat).sum;rw[c3];rfl
 | 2,hf=>cases hf;show 2=([Tryz.prog.cellsOf 3,Tryz.prog.cellsOf 5]:List Nat).sum;rw[c3,c5];rfl
 | 3,hf=>cases hf;show 3=([Tryz.prog.cellsOf 3,Tryz.prog.cellsOf 5,Tryz.prog.cellsOf 9]:List Nat).sum;rw[c3,c5,c9];rfl
 | 4,hf=>cases hf;show 4=([Tryz.prog.cellsOf 3,Tryz.prog.cellsOf 5,Tryz.prog.cellsOf 9,Tryz.prog.cellsOf 37]:List Nat).sum;rw[c3,c5,c9,c37];rfl
 | 5,hf=>cases hf;show 5=([Tryz.prog.cellsOf 3,Tryz.prog.cellsOf 5,Tryz.prog.cellsOf 9,Tryz.prog.cellsOf 37,Tryz.prog.cellsOf 3]:List Nat).sum;rw[c3,c5,c9,c37];rfl
 | 6,hf=>cases hf;show 6=([Tryz.prog.cellsOf 3,Tryz.prog.cellsOf 5,Tryz.prog.cellsOf 9,Tryz.prog.cellsOf 37,Tryz.prog.cellsOf 3,Tryz.prog.cellsOf 3]:List Nat).sum;rw[c3,c5,c9,c37];rfl
 | 7,hf=>cases hf;show 7=([Tryz.prog.cellsOf 3,Tryz.prog.cellsOf 5,Tryz.prog.cellsOf 9,Tryz.prog.cellsOf 37,Tryz.prog.cellsOf 3,Tryz.prog.cellsOf 3,Tryz.prog.cellsOf 3]:List Nat).sum;rw[c3,c5,c9,c37];rfl
 | 8,hf=>cases hf;show 8=([Tryz.prog.cellsOf 3,Tryz.prog.cellsOf 5,Tryz.prog.cellsOf 9,Tryz.prog.cellsOf 37,Tryz.prog.cellsOf 3,Tryz.prog.cellsOf 3,Tryz.prog.cellsOf 3,Tryz.prog.cellsOf 5]:List Nat).sum;rw[c3,c5,c9,c37];rfl
 | n+9,hf=>exact nomatch hf
def ao3:∀f∈D6.toList,T6 f.type:=by
 intro f hf;simp only[D6,Jr,List.mem_nil_iff,or_false] at hf;rcases hf with rfl | rfl | rfl | rfl | rfl | rfl | rfl | rfl | rfl
 ·exact .inl rfl
 ·exact .inr (.inl rfl)
 ·exact .inr (.inr (.inl rfl))
 ·exact .inr (.inr (.inr (.inr (.inl rfl))))
 ·exact .inl rfl
 ·exact .inl rfl
 ·exact .inl rfl
 ·exact .inr (.inl rfl)
 ·exact .inr (.inr (.inr (.inr (.inl rfl))))
def aqg:Kids Tryz.prog T6:=by
 constructor
 ·intro t e ht h;rcases Ie ht with q | q | q | ⟨_,q⟩ | ⟨_,q⟩ <;> rw[q] at h <;> exact nomatch h
 ·intro t e ht h;rcases Uz ht h with ⟨_,rfl⟩ | ⟨_,rfl⟩
  ·exact .inr (.inr (.inr (.inr (.inr rfl))))
  ·exact .inr (.inr (.inl rfl))
 ·intro t e n ht h;rcases Ie ht with q | q | q | ⟨_,q⟩ | ⟨_,q⟩ <;> rw[q] at h <;> exact nomatch h
 ·intro t fs ht h;obtain⟨rfl,rfl⟩:=arp ht h;refine⟨ao3,?_,apZ⟩;rw[c39];show 9=([Tryz.prog.cellsOf 3,Tryz.prog.cellsOf 5,Tryz.prog.cellsOf 9,Tryz.prog.cellsOf 37,Tryz.prog.cellsOf 3,Tryz.prog.cellsOf 3,Tryz.prog.cellsOf 3,Tryz.prog.cellsOf 5,Tryz.prog.cellsOf 37]:List Nat).sum;rw[c3,c5,c9,c37];rfl
 ·intro t k e ht h;rcases Ie ht with q | q | q | ⟨_,q⟩ | ⟨_,q⟩ <;> rw[q] at h <;> exact nomatch h
def ar4:∀t e,T6 t->Tryz.prog.underlying t=some (.slice e)->0<Tryz.prog.cellsOf e:=by
 intro t e ht h;rcases Uz ht h with ⟨_,rfl⟩ | ⟨_,rfl⟩
 ·rw[c39];decide
 ·rw[c9];decide
section
variable {H : Type} {enc : TypeId × Value -> H} {W : World} {b : Nat} {held : Bool}
def SQ {bk off:Nat} {v:Value} (h:W.cell? ⟨bk,off,none⟩=some v):∃cs t fr,W.heap[bk]?=some (.cells cs t fr)/\∀o,W.cell? ⟨bk,o,none⟩=cs[o]?:=by
 unfold World.cell? at h ⊢;split at h
 ·rename_i cs t fr hh;simp only at hh;refine⟨cs,t,fr,hh,λo=>?_⟩;simp only[hh];rfl
 ·exact nomatch h
def rx (bk off i:Nat):(Addr.add ⟨bk,off,none⟩ i)=⟨bk,off+i,none⟩:=by
 unfold Addr.add;split
 ·rename_i e;subst e;rfl
 ·rfl
def Bq {fuel:Nat} {cs:List Value} {x:DataW H × List MemPlace} (h:DataW.trod enc Tryz.prog W b (λ_=>true) held fuel 37 cs=some x):∃v l,cs=[v]/\ng W v l:=by
 rcases open_strings u37 u9 c9 h with ⟨hcs,_⟩ | ⟨a,len,cap,ss,hcs,_,hl,hm,hz,_,hcell,_⟩
 ·exact⟨_,[],hcs,.nil⟩
 ·obtain⟨bk,off,spot⟩:=a;simp only[if_true] at hz;by_cases h0:cap=0
  ·subst h0;obtain rfl:len=0:=by omega
   cases spot with
   | some s=>exact⟨_,[],hcs,.gar⟩
   | none=>exact⟨_,[],hcs,ng.row (cs:=#[]) (t:=0) (fr:=(0,0)) (l:=[]) (λq=>absurd rfl q) (λi hi=>absurd hi (Jy _)) (JY _)⟩
  ·have hc0:=hcell 0 (by omega);have e0:(Addr.add ⟨bk,off,spot⟩ 0)=⟨bk,off,spot⟩:=if_pos rfl;rw[e0] at hc0;cases spot with
   | some s=>
    exfalso;unfold World.cell? at hc0;split at hc0
    ·exact nomatch hc0
    ·exact nomatch hc0
   | none=>
    obtain⟨cells,t,fr,hh,hread⟩:=SQ hc0;have hlen:((ss.take len).map λs=>s.data.toList).length=len:=by simp;omega
    refine⟨_,(ss.take len).map λs=>s.data.toList,hcs,?_⟩;have:=ng.row (w:=W) (b:=bk) (o:=off) (cap:=cap) (l:=(ss.take len).map λs=>s.data.toList) (λ_=>hh) (λi hi=>?_) (by omega)
    ·rw[hlen] at this;exact this
    ·have hi':i<ss.length:=by omega
     have h1:=hcell i hi';rw[rx,hread] at h1;rw[h1]
     congr 2
     simp only[List.getElem_map,List.getElem_take];rw[Jc,Jn hi'];rfl
def yL {n:Int} (h:(Lit.int .i64 n).wf=true):eX n:=by simp[Lit.wf] at h;exact⟨h.1,h.2⟩
def u8_in {n:Int} (h:(Lit.int .u8 n).wf=true):∃m:Nat,n=.ofNat m/\m<=255:=by
 simp[Lit.wf] at h;have h1:(0:Int)<=n:=h.1;have h2:n<=(255:Int):=h.2;cases n with
 | ofNat m=>exact⟨m,rfl,Int.ofNat_le.1 h2⟩
 | negSucc m=>exact absurd h1 (by simp)
def LU {fuel:Nat} {cs:List Value} {x:DataW H × List MemPlace} (h:DataW.trod enc Tryz.prog W b (λ_=>true) held fuel 39 cs=some x):∃r:Int × bV × Value × Value,cs=aO r.1 r.2.1 r.2.2.1 r.2.2.2/\ng W r.2.2.1 r.2.1.on/\ng W r.2.2.2 r.2.1.texts/\ZC r.2.1:=by
 obtain⟨xs,n,rfl,_,hl,hxl,hd⟩:=DataW.trod_struct u39 h;rw[c39] at hl;have hxl:xs.length=9:=hxl;have hx:∀i,i<9->∃y,xs[i]?=some y:=λi hi=>⟨_,Jn (by omega)⟩
 match cs,hl with
 | [v0,v1,v2,v3,v4,v5,v6,v7,v8],_=> have d0:=hd 0 _ rfl;have d1:=hd 1 _ rfl;have d2:=hd 2 _ rfl;have d3:=hd 3 _ rfl;have d4:=hd 4 _ rfl;have d5:=hd 5 _ rfl;have d6:=hd 6 _ rfl;have d7:=hd 7 _ rfl;have d8:=hd 8 _ rfl;obtain⟨y0,e0⟩:=hx 0 (by omega);obtain⟨y1,e1⟩:=hx 1 (by omega);obtain⟨y2,e2⟩:=hx 2 (by omega);obtain⟨y3,e3⟩:=hx 3 (by omega);obtain⟨y4,e4⟩:=hx 4 (by omega);obtain⟨y5,e5⟩:=hx 5 (by omega);obtain⟨y6,e6⟩:=hx 6 (by omega);obtain⟨y7,e7⟩:=hx 7 (by omega);obtain⟨y8,e8⟩:=hx 8 (by omega);change DataW.trod enc Tryz.prog W b (λ_=>true) held n 3 (List.take (Tryz.prog.cellsOf 3) [v0,v1,v2,v3,v4,v5,v6,v7,v8])=xs[0]? at d0;change DataW.trod enc Tryz.prog W b (λ_=>true) held n 5 (List.take (Tryz.prog.cellsOf 5) [v1,v2,v3,v4,v5,v6,v7,v8])=xs[1]? at d1;change DataW.trod enc Tryz.prog W b (λ_=>true) held n 9 (List.take (Tryz.prog.cellsOf 9) [v2,v3,v4,v5,v6,v7,v8])=xs[2]? at d2;change DataW.trod enc Tryz.prog W b (λ_=>true) held n 37 (List.take (Tryz.prog.cellsOf 37) [v3,v4,v5,v6,v7,v8])=xs[3]? at d3;change DataW.trod enc Tryz.prog W b (λ_=>true) held n 3 (List.take (Tryz.prog.cellsOf 3) [v4,v5,v6,v7,v8])=xs[4]? at d4;change DataW.trod enc Tryz.prog W b (λ_=>true) held n 3 (List.take (Tryz.prog.cellsOf 3) [v5,v6,v7,v8])=xs[5]? at d5;change DataW.trod enc Tryz.prog W b (λ_=>true) held n 3 (List.take (Tryz.prog.cellsOf 3) [v6,v7,v8])=xs[6]? at d6;change DataW.trod enc Tryz.prog W b (λ_=>true) held n 5 (List.take (Tryz.prog.cellsOf 5) [v7,v8])=xs[7]? at d7;change DataW.trod enc Tryz.prog W b (λ_=>true) held n 37 (List.take (Tryz.prog.cellsOf 37) [v8])=xs[8]? at d8;rw[c3,e0] at d0;rw[c5,e1] at d1;rw[c9,e2] at d2;rw[c37,e3] at d3;rw[c3,e4] at d4;rw[c3,e5] at d5;rw[c3,e6] at d6;rw[c5,e7] at d7;rw[c37,e8] at d8;obtain⟨ln,q0,_,_⟩:=DataW.trod_int u3 d0;obtain⟨op,q1,_,w1⟩:=DataW.trod_int u5 d1;obtain⟨lb,q2,_,_⟩:=DataW.trod_string u9 d2;obtain⟨on,lon,q3,a1⟩:=Bq d3;obtain⟨cn,q4,_,w4⟩:=DataW.trod_int u3 d4;obtain⟨cm,q5,_,w5⟩:=DataW.trod_int u3 d5;obtain⟨ck,q6,_,w6⟩:=DataW.trod_int u3 d6;obtain⟨kd,q7,_,w7⟩:=DataW.trod_int u5 d7;obtain⟨tx,ltx,q8,a2⟩:=Bq d8;obtain⟨op,rfl,hop⟩:=u8_in w1;obtain⟨kd,rfl,hkd⟩:=u8_in w7;have q0:v0=_:=(List.cons.inj q0).1;have q1:v1=_:=(List.cons.inj q1).1;have q2:v2=_:=(List.cons.inj q2).1;have q3:v3=_:=(List.cons.inj q3).1;have q4:v4=_:=(List.cons.inj q4).1;have q5:v5=_:=(List.cons.inj q5).1;have q6:v6=_:=(List.cons.inj q6).1;have q7:v7=_:=(List.cons.inj q7).1;have q8:v8=_:=(List.cons.inj q8).1;subst q0 q1 q2 q3 q4 q5 q6 q7 q8;exact⟨(ln,⟨0,op,lb.data.toList,lon,cn,cm,ck,kd,ltx⟩,v3,v8),rfl,a1,a2,⟨yL w4,yL w5,yL w6⟩,hop,hkd⟩
end
end
def A6 {W:World} {base:Nat} {v:Value} (hv:Value.okWide Tryz.prog W .any base 3 v):∃n:Int,eX n/\v=.int .i64 n:=by
 cases v <;> simp only[Value.okWide,Cell.okWide,Cell.ok,u3] at hv
 obtain⟨rfl,h1,h2⟩:=hv;exact⟨_,⟨h1,h2⟩,rfl⟩
def aey {W:World} {a:Addr} {cs:List Value} {n:Nat} (h:W.cells? 0 a n=some cs) (j:Nat) (hj:j<n):W.cell? (a.add j)=cs[j]?:=by unfold World.cells? at h;rw[if_pos (JY _)] at h;have:=mapM_some_get h j j (by rw[List.getElem?_range hj]);exact this
def HD {H:Type} {enc:TypeId × Value->H} {W:World} {base:Nat} {held:Bool} {v:Value} {d:DataW H} {p:List MemPlace} (hv:Value.okWide Tryz.prog W .any base 22 v)
  (h:DataW.Trod enc Tryz.prog W 0 (λ_=>true) held 22 v d p):∃ons txs l,uU W ons txs v l/\∀c∈l,ZC c:=by
 obtain⟨a0,len,cap,rfl⟩:=okWide_slice DR hv;obtain⟨fuel,hf⟩:=h;rcases Go.Deep.open_slice DR hf with ⟨hcs,_⟩ | ⟨a,len',cap',m,n,D,Pl,hcs,_,hl,_,hm,_,hel⟩
 ·simp[Value.cells] at hcs;obtain⟨rfl,rfl,rfl⟩:=hcs;exact⟨λ_=>.slice none 0 0,λ_=>.slice none 0 0,[],.nil,λc hc=>absurd hc (by simp)⟩
 ·simp[Value.cells] at hcs;obtain⟨rfl,rfl,rfl⟩:=hcs;simp only[if_true] at hm;subst hm;simp only[Value.okWide,DR,Cell.okWide,Cell.ok] at hv;obtain⟨_,_,_,hspot,row,cells,hsh,_⟩:=hv;obtain⟨bk,off,spot⟩:=a;have hspot:spot=none:=hspot;subst hspot;unfold World.shape? at hsh;split at hsh
  ·rename_i cs el fr hh;have hread:∀o,W.cell? ⟨bk,o,none⟩=cs[o]?:=λo=>by unfold World.cell?;simp only[hh];rfl
   have each:∀i,∃r:Int × bV × Value × Value,i<len->(∀j,j<9->cs[off+i*9+j]?=(aO r.1 r.2.1 r.2.2.1 r.2.2.2)[j]?)/\ng W r.2.2.1 r.2.1.on/\ng W r.2.2.2 r.2.1.texts/\ZC r.2.1:=λi=>by
    by_cases hi:i<len
    ·obtain⟨cs',h1,h2⟩:=hel i (by omega);obtain⟨r,rfl,a1,a2,z⟩:=LU h2;rw[c39] at h1;refine⟨r,λ_=>⟨λj hj=>?_,a1,a2,z⟩⟩;have:=aey h1 j hj;rw[rx,rx,hread] at this;exact this
    ·exact⟨(0,⟨0,0,[],[],0,0,0,0,[]⟩,.slice none 0 0,.slice none 0 0),λq=>absurd q hi⟩
   obtain⟨f,hf⟩:=Classical.axiomOfChoice each;have hlen:((List.range len).map λi=>(f i).2.1).length=len:=by simp
   refine⟨λi=>(f i).2.2.1,λi=>(f i).2.2.2,(List.range len).map λi=>(f i).2.1,?_,?_⟩
   ·have:=uU.row (w:=W) (b:=bk) (o:=off) (cap:=m) (ons:=λi=>(f i).2.2.1) (txs:=λi=>(f i).2.2.2) (l:=(List.range len).map λi=>(f i).2.1) (λ_=>hh) (λi hi=>?_) (by omega)
    ·rw[hlen] at this;exact this
    ·rw[hlen] at hi;obtain⟨h1,h2,h3,_⟩:=hf i hi;have e:((List.range len).map λi=>(f i).2.1)[i]'(by rw[hlen];exact hi)=(f i).2.1:=by simp
     rw[e];exact⟨⟨(f i).1,h1⟩,h2,h3⟩
   ·intro c hc;obtain⟨i,hi,rfl⟩:=List.mem_map.1 hc;exact (hf i (List.mem_range.1 hi)).2.2.2
  ·exact nomatch hsh
def again {H:Type} {enc:TypeId × Value->H} {W W':World} {t:TypeId} (ht:T6 t) {v:Value} {d:DataW H} {p:List MemPlace} (hkeep:∀b,b<W.heap.size->W'.heap[b]?=W.heap[b]?)
  (h:DataW.Trod enc Tryz.prog W 0 (λ_=>true) true t v d p):DataW.Trod enc Tryz.prog W' 0 (λb=>decide (b<W.heap.size)) true t v d p:=by
 have hlt:∀q∈p,q.block<W.heap.size:=by obtain⟨n,hn⟩:=h;exact DataW.trod_lt n _ _ _ hn
 obtain⟨n,hn⟩:=DataW.Trod.respare (spare':=λb=>decide (b<W.heap.size)) aqg ar4 ht h (λq hq=>decide_eq_true (hlt q hq));refine⟨n,DataW.trod_carry n _ _ _ hn λq hq=>?_⟩;have hq:=hkeep _ (hlt q hq);cases q with
 | cell b off=> show W'.cell? ⟨b,off,none⟩=W.cell? ⟨b,off,none⟩;unfold World.cell?;rw[show W'.heap[b]?=W.heap[b]? from hq]
 | map b=>exact hq
def Fc (s:ChangeSpec):Prop:=s.vars=[]/\∀H d1 d2 d3 d4,s.fn H [d1,d2,d3,d4]={ results:=[.lit (.bool true)],args:=[d1,d2,d3,d4] }
def Mz {W:World} {base:Nat} {v:Value} (hv:Value.okWide Tryz.prog W .any base 9 v):∃s:ByteArray,v=.string s:=by
 cases v <;> simp only[Value.okWide,Cell.okWide,Cell.ok,u9] at hv
 exact⟨_,rfl⟩
def Ru {s:ChangeSpec} (hs:Fc s) {f:FuncId} {fn:Func} (hf:Tryz.prog.funcs[f]?=some fn) (hpar:fn.params=#[3,3,22,9]) (hres:fn.resultTypes=#[4]) (noInit:Tryz.prog.inits.idxOf? f=none)
  (hcalls:∀(W:World) (m:Int) (u:TypeId) (off B:Nat),zT W m u off B->∀cap keeps ons txs v l,eX cap->eX keeps->uU W ons txs v l->(∀c∈l,ZC c)->∀s:List UInt8,Calls Tryz.prog f #[.int .i64 cap,.int .i64 keeps,v,.string ⟨⟨s⟩⟩] W λe W'=>e=.returned (.bool true)/\W.heap.size<=W'.heap.size/\(∀b,b<W.heap.size->W'.heap[b]?=W.heap[b]?)/\W'.os=W.os/\W'.output=W.output)
  (os:Os) (started:os.Started) (H:Type) (enc:TypeId × Value->H)
  (hok:Input.okWideB Tryz.prog ((World.laidAll Tryz.prog os kv).forCall (λ_ _=>0) ⟨#[],mG,[]⟩) f ⟨#[],mG,[]⟩=true)
  (hpre:s.preB enc Tryz.prog fn [] false ((World.laidAll Tryz.prog os kv).forCall (λ_ _=>0) ⟨#[],mG,[]⟩).memory mG 8=true)
  (hsz:s.sizedB enc Tryz.prog fn false ((World.laidAll Tryz.prog os kv).forCall (λ_ _=>0) ⟨#[],mG,[]⟩).memory mG 8=true):
  ReturnsInHanded {} Tryz.checked os f .any (λw args=>(s.pre enc Tryz.prog fn [] false w args/\laidMetH Tryz.prog kv w)/\sizedMet enc Tryz.prog fn (OpenSpec.ofChange s) false w args)
   (s.post enc Tryz.prog fn false true false false):=by
 refine returnsInHanded_of_calls (C:=Tryz.checked) own started noInit
  (ChangeSpec.witness_shaped (enc:=enc) (C:=Tryz.checked) (os:=os) (X:=λw _=>laidMetH Tryz.prog kv w) false (World.laidAll Tryz.prog os kv) mG 8 (World.laidAll_os _ _ _) (uH os) hok hpre hsz (by rw[MakeChecks.laidMetH_plain _ _ _ (by kernel_rfl)];exact D7 os _)) ?_
 intro w tape i _ hsh _ hokW hp _;obtain⟨⟨⟨ds,gs,before,hW,hc⟩,hL⟩,_⟩:=hp;have hW':=DataW.Whole.of_heap (w':=w.forCall tape i) (by rfl) hW;have hL':laidMetH Tryz.prog kv (w.forCall tape i):=hL.of_heap (by rfl);rw[MakeChecks.laidMetH_plain _ _ _ (by kernel_rfl)] at hL';have hWk:=hW';obtain⟨p,q,hA,hV,hb,_⟩:=hWk;rw[hpar] at hA;rw[hs.1] at hV;obtain⟨rfl,rfl⟩:=trodVars_none hV;obtain⟨v0,v1,v2,v3,d0,d1,d2,d3,p0,p1,p2,p3,ha,rfl,rfl,h0,h1,h2,h3⟩:=trodAll_four hA;obtain⟨_,_,_,fn',hfn',_,_,_,_,hval⟩:=hokW;have hfn:fn'=fn:=JJ (hfn'.symm.trans hf);subst hfn;obtain⟨n0,z0,rfl⟩:=A6 (hval 0 3 v0 (by rw[hpar];rfl) (by rw[ha];rfl));obtain⟨n1,z1,rfl⟩:=A6 (hval 1 3 v1 (by rw[hpar];rfl) (by rw[ha];rfl));obtain⟨ons,txs,l,a2,z2⟩:=HD (hval 2 22 v2 (by rw[hpar];rfl) (by rw[ha];rfl)) h2;obtain⟨⟨⟨s3⟩⟩,rfl⟩:=Mz (hval 3 9 v3 (by rw[hpar];rfl) (by rw[ha];rfl));rw[ha] at hW' ⊢;obtain⟨m,u,off,B,st⟩:=zi hsh hL';refine (hcalls _ m u off B st n0 n1 ons txs v2 l z0 z1 a2 z2 s3).mono ?_;rintro e W' ⟨rfl,hsize,hkeep,hos,hout⟩;refine ChangeSpec.post_blind (W:=w.forCall tape i) (W':=W') ⟨[d0,d1,d2,d3],[],before,[],p0++(p1++(p2++p3)),[],hW',?_,?_,?_,?_,λh=>by cases h⟩
 ·rw[hres,show s.fn H ([d0,d1,d2,d3] ++ [])=_ from hs.2 H d0 d1 d2 d3];exact trodAll_mk1 (shut_bool Tryz.underlying4 true)
 ·rw[hpar,show s.fn H ([d0,d1,d2,d3] ++ [])=_ from hs.2 H d0 d1 d2 d3];exact trodAll_mk4 (again (.inl rfl) hkeep h0) (again (.inl rfl) hkeep h1) (again (.inr (.inr (.inr (.inl rfl)))) hkeep h2) (again (.inr (.inr (.inl rfl))) hkeep h3)
 ·rw[hs.1,show s.fn H ([d0,d1,d2,d3] ++ [])=_ from hs.2 H d0 d1 d2 d3];rfl
 ·refine⟨hos,hout,λk hk=>?_⟩;rw[hkeep k hk];have h:=World.keptBut_refl (w.forCall tape i) (λ_=>False);have:=h.2.2 k hk
  revert this
  cases (w.forCall tape i).heap[k]? with
  | none=>exact λh=>h
  | some o=>cases o <;> intro h <;> first | exact⟨rfl,rfl,rfl,λ_ _=>rfl⟩ | exact .inr ⟨rfl,rfl⟩ | exact h
end Go.Proofs.YtglmdggjibmjcaaGreatDoor
