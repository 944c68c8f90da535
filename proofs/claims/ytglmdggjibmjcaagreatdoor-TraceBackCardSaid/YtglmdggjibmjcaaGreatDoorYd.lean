/-
  WHETHER A SHORT STRING HOLDS A BLANK OR A LINE FEED, rune by rune, in abstract memory.
-/
import Derived.Test.YtglmdggjibmjcaaGreatDoorYc
import Derived.Laws.Runes
import Derived.Lib.IndexAny
noncomputable section
set_option linter.all false
set_option maxRecDepth 100000
open Nat (ble beq)
namespace Go.Ev
open Go F Go.Proofs
section
structure UB (E:Env):Prop where
 u3:E.und 3=some (.int .i64)
 u5:E.und 5=some (.int .u8)
 u9:E.und 9=some .string
 u41:E.und 41=some (.pointer 44)
 z44:E.size 44=some (1+1)
 u100:E.und 100=some .unsafePointer
 u75:E.und 75=some (.pointer 5)
 z5:E.size 5=some 1
 l42:∃i,ug E 42 5 1 i [.int .u8 (.ofNat 0)]/\i.bytes=1
structure BI (h:H) (bb:Nat) (s:List UInt8):Prop where
 ex:∃c v,hget h bb=.row 44 2 false false 0 c/\((getF c 0=.pointer none/\s=[]) \/ getF c 0=.pointer (some ⟨bb,0,none⟩))/\getF c 1=v/\OL 5 1 h v s.length (s.map cF)/\∀p,dv v=some p->bb<p
 lt:bb<h.next
def BI.new {h:H} (hn:h.next<=1000000000):BI (ag h (.row 44 2 false false 0 (T.ofList unk [.pointer none,.slice none 0 0]))) h.next []:=
 ⟨⟨_,.slice none 0 0,az _ _ hn,.inl ⟨rfl,rfl⟩,rfl,.nil,λp hp=>(nomatch hp)⟩,KV _⟩
variable {E : Env} (u : UB E) {rc : RC}
include u
theorem asT (h55:∀v h k,rc 55 [v] h k=k v h) {h:H} {bb:Nat} {s:List UInt8} (b:BI h bb s) (hn:h.next<=900000000):
  ∃h',(∀k,p27 E rc (.pointer (some ⟨bb,0,none⟩)) h k=k (.tuple ⟨[]⟩) h')/\h'.next=h.next/\(∀id,id≠bb->hget h' id=hget h id) /\
   ∃c v,hget h' bb=.row 44 2 false false 0 c/\getF c 0=.pointer (some ⟨bb,0,none⟩)/\getF c 1=v/\OL 5 1 h' v s.length (s.map cF)/\∀p,dv v=some p->bb<p:=by
 obtain⟨⟨c,v,hq,h0,h1,o,hv⟩,hlt⟩:=b;have hqr:∀k,onRow (hget h bb) k=k 44 2 false false 0 c:=λk=>by rw[hq];rfl
 rcases h0 with ⟨h0,hs⟩ | h0
 ·
  have e1:∀cx cy k,binR (binC E .eql 41 cx cy) (getF c 0) (.pointer none) k=k (.bool true):=λcx cy k=>by rw[h0];exact vA u.u41
  refine⟨hset h bb (.row 44 2 false false 0 (dW 40 c 0 (.pointer (some ⟨bb,0,none⟩)))),λk=>?_,rfl,λid hid=>by rw[bS _ _ _ _ (by omega),if_neg hid],dW 40 c 0 (.pointer (some ⟨bb,0,none⟩)),v,bj _ _ _ (by omega),?_,?_,?_,hv⟩
  ·have hup:=BL (h:=h) (b:=bb) u.u41 u.u100 u.z44 hq (by omega);have hdown:=tj (h:=h) (b:=bb) u.u100 u.u41 u.z44 hq (by omega);unfold p27;simp (disch:=first | omega | (simp only[JD,Ju,Je];omega)) only[↓aR,↓au,↓hqr,↓aj,↓e1,↓ah,↓aA];rw[hup,aK,h55,hdown,aK];simp (disch:=first | omega | (simp only[JD,Ju,Je];omega)) only[↓aR,↓au,↓oY,↓hqr];show letH (hset h bb (.row 44 2 false false 0 (putF c 0 [.pointer (some ⟨bb,0,none⟩)]))) _=_;rw[aD];rfl
  ·rw[jw _ _ _ _ (by omega),if_pos rfl]
  ·rw[jw _ _ _ _ (by omega),if_neg (by omega),h1]
  ·exact o.keep (Jd _) λp hp _=>by rw[bS _ _ _ _ (by omega),if_neg (by have:=hv p hp;omega)]
 ·have e1:∀cx cy k,binR (binC E .eql 41 cx cy) (getF c 0) (.pointer none) k=k (.bool false):=λcx cy k=>by rw[h0];exact kX u.u41
  have e2:∀cx cy k,binR (binC E .neq 41 cx cy) (getF c 0) (.pointer (some ⟨bb,0,none⟩)) k=k (.bool false):=λcx cy k=>by rw[h0];exact yb u.u41 u.z44
  refine⟨h,λk=>?_,rfl,λ_ _=>rfl,c,v,hq,h0,h1,o,hv⟩;unfold p27;simp (disch:=first | omega | (simp only[JD,Ju,Je];omega)) only[↓aR,↓au,↓hqr,↓aj,↓e1,↓e2,↓ah,↓ax]
omit u in
theorem mJ:∀s:List UInt8,cT (s.map cF)=some s
 | []=>rfl
 | b :: l=>by have hb:Nat.blt b.toNat 256=true:=aM b.toNat_lt;show (bif Nat.blt b.toNat 256 then (match cT (l.map cF) with | some r=>some (UInt8.ofNat b.toNat :: r) | none=>none) else none)=_;rw[hb,mJ l];simp
theorem GT {h:H} {bb:Nat} {s:List UInt8} (b:BI h bb s) (hne:s ≠ []) (hn:h.next<=900000000) (hs:s.length<=500000000):
  ∃h',(∀k,p17 E rc (.pointer (some ⟨bb,0,none⟩)) h k=k (.string ⟨⟨s⟩⟩) h')/\h'.next=h.next/\∀id,id<bb->hget h' id=hget h id:=by
 obtain⟨⟨c,v,hq,h0,h1,o,hv⟩,hlt⟩:=b;have hqr:∀k,onRow (hget h bb) k=k 44 2 false false 0 c:=λk=>by rw[hq];rfl
 have hh:(H.mk h.1 h.2)=h:=rfl;have hpos:0<s.length:=J8.2 hne;generalize hL:s.map cF=L at o;generalize hnl:s.length=n at o;cases o with
 | nil=>omega
 | row hb hr hl hc hp=>
  rename_i sb fz op cs;subst hnl;have hcl:bq cs 0 s.length=s.map cF:=by rw[Nat.mul_one] at hl;rw[hL,<-hl];exact dD L cs 0 λj hj=>by rw[JN,<-bI,hc j hj]
  have hus:ba E h .unsafeString [.pointer (some ⟨sb,0,none⟩),.int .i64 (.ofNat s.length)] [75,3]=some (.string ⟨⟨s⟩⟩,hset h sb (.row 5 (s.length*1) op false s.length cs)):=by rw[bv] at hr;obtain⟨m,hm⟩:∃m,s.length=m+1:=⟨s.length-1,by omega⟩;have hby:=mJ s;rw[<-hcl,hm] at hby;rw[hm] at hr ⊢;have g1:ble (m+1) ((m+1)*1)=true:=aM (by omega);have g2:ble m 1000000000=true:=aM (by omega);have g3:ble 0 (m+1)=true:=aM (by omega);rw[fi];simp only[ba,u.u75,hr,u.z5,JQ,g1,g2,g3,Bool.and_self,Jo,hby]
  refine⟨hset h sb (.row 5 (s.length*1) op false s.length cs),λk=>?_,rfl,λid hid=>by rw[bS _ _ _ _ (by omega),if_neg (by have:=hv sb rfl;omega)]⟩;unfold p17;rw[hh];simp (disch:=first | omega | (simp only[JD,Ju,Je];omega)) only[↓aj,↓aD,↓aR,↓au,↓hqr];rw[show Nat.add 0 1=1 from rfl,h1,lR (by cases op <;> simp[Bool.toNat] <;> omega)];simp (disch:=first | omega | (simp only[JD,Ju,Je];omega)) only[↓aK,↓aR,↓au,↓hqr,↓aj];rw[aW,bp];dsimp only;rw[hus];rfl
end
def Im {h:H} {z:List Value} (x:Bs):jl h 1 z false (ak x)=some (x.length,x.map cF):=by have h1:ble x.length x.length=true:=aM (Jd _);simp only[jl,JP,ja,ak,lE,h1,JQ,Bool.and_self,Jo,List.take_length];rfl
def sd:∀x:Bs,(x.map cF).all cell1=true
 | []=>rfl
 | b :: x=>by rw[J5,JZ,sd x];rfl
def Ll {E:Env} {n:Nat} {i:TypeInfo} (T1:ug E 42 5 1 i [.int .u8 (.ofNat 0)]) (hi:i.bytes=1) (u9:E.und 9=some .string) {h:H} {v:Value} {L:List Value} (o:OL 5 1 h v n L) {x:Bs} (hx:x ≠ []) (hn:h.next+1<=1000000000) (hn2:n+x.length<=400000000):
  ∃v' h',ba E h .append [v,ak x] [42,9]=some (v',h')/\OL 5 1 h' v' (n+x.length) (L++x.map cF)/\h'.next=h.next+1/\dv v'=some h.next/\∀id,id<h.next->dv v≠some id->hget h' id=hget h id:=by
 have hpos:0<x.length:=J8.2 hx;have hroom:room h=true:=aM (by omega);have hnum:io E [9]=some false:=by simp only[io,u9]
 have hss:i.size=0+1:=T1.sz;have hnews:=Im (h:=h) (z:=[.int .u8 (.ofNat 0)]) x;have b1:ble ((n+x.length)*(1+1)) 1000000000=true:=aM (by omega);have b2:ble ((n+x.length)*(0+1)) 1000000000=true:=aM (by omega);have hzb:beq ([.int .u8 (.ofNat 0)]:List Value).length (0+1)=true:=rfl;have hlx:(x.map cF).length=x.length:=Kx ..;cases o with
 | nil=>
  have b1':ble ((0+x.length)*(1+1)) 1000000000=true:=b1;have b2':ble ((0+x.length)*(0+1)) 1000000000=true:=b2;have g0:ble (0+x.length) 0=false:=dt (by omega);have e0:ba E h .append [.slice none 0 0,ak x] [42,9]=some (.slice (some ⟨h.next,0,none⟩) x.length (2*x.length+1),ag h (.row 5 x.length true false 0 (T.ofList unk (x.map cF)))):=by rw[cY];simp only[ba,hnum,eT,T1.u,T1.inf,T1.zc,hss,hnews,hi,b1',b2',hzb,Bool.and_self,Jo,Nat.zero_div,g0,JP,hroom,JQ];simp only[JN,Nat.mul_one]
  refine⟨_,_,e0,?_,rfl,rfl,λid hid _=>bN _ _ (by omega) hid⟩;have hq:hget (ag h (.row 5 x.length true false 0 (T.ofList unk (x.map cF)))) h.next=.row 5 ((0+x.length)*1) true false 0 (T.ofList unk (x.map cF)):=by rw[az _ _ (by omega),JN,Nat.mul_one]
  have:=OL.row (e:=5) (s:=1) (n:=0+x.length) (op:=true) (fz:=0) (L:=[]++x.map cF) (show h.next<h.next+1 by omega) hq (by simp) (λj hj=>by rw[aI,KE]) (by omega);rw[JN] at this ⊢;exact this
 | row hb hq hL hc hp=>
  rename_i b fz op cells;have hqp:h.objs.get b=.row 5 (n*1) op false 0 cells:=by rw[<-bv,hq]
  have g1:ble (n+x.length) n=false:=dt (by omega);have hl1:∀op:Bool,(2*n+op.toNat) / 2=n:=λop=>by cases op <;> simp[Bool.toNat] <;> omega
  cases op with
  | false=>
   have h2:beq ((2*n+Bool.toNat false)%2) 0=true:=gm (by simp[Bool.toNat]);have h3:ble (0+n*(0+1)) (n*1)=true:=aM (by omega);have e0:ba E h .append [.slice (some ⟨b,0,none⟩) n (2*n+Bool.toNat false),ak x] [42,9] =
     some (.slice (some ⟨h.next,0,none⟩) (n+x.length) (2*(n+x.length)+1),ag h (.row 5 ((n+x.length)*1) true false 0 (T.ofList unk (ae cells (n*1) 0++x.map cF)))):=by
    rw[cY];simp only[ba,Option.isSome_none,hnum,eT,T1.u,T1.inf,T1.zc,hss,hnews,hi,b1,b2,hzb,Bool.and_self,Jo,JP,hl1,g1,hroom,hqp,h2,h3,dK]
   refine⟨_,_,e0,?_,rfl,rfl,λid hid _=>bN _ _ (by omega) hid⟩;have hq2:hget (ag h (.row 5 ((n+x.length)*1) true false 0 (T.ofList unk (ae cells (n*1) 0++x.map cF)))) h.next=.row 5 ((n+x.length)*1) true false 0 (T.ofList unk (ae cells (n*1) 0++x.map cF)):=az _ _ (by omega);refine .row (n:=n+x.length) (op:=true) (fz:=0) (show h.next<h.next+1 by omega) hq2 (by rw[Jt,hL,hlx];omega) (λj hj=>?_) (by omega);have hcl:ae cells (n*1) 0=L:=by rw[dK,<-hL];exact dD L cells 0 λk hk=>by rw[JN,<-bI,hc k hk]
   rw[aI,hcl]
  | true=>
   have h2:beq ((2*n+Bool.toNat true)%2) 0=false:=dB (by simp[Bool.toNat]);have h4:beq n n=true:=JQ n;have h5:beq (n*(0+1)) (n*1)=true:=gm (by omega);have h6:ble 0 (n*1)=true:=aM (JY _);have h7:beq 5 5=true:=rfl;have h8:=sd x;have e0:ba E h .append [.slice (some ⟨b,0,none⟩) n (2*n+Bool.toNat true),ak x] [42,9] =
     some (.slice (some ⟨h.next,0,none⟩) (n+x.length) (2*(n+x.length)+1),ag (hset h b .dead) (.row 5 ((n+x.length)*1) true false 0 (putCells cells (n*1) (x.map cF)))):=by
    rw[cY,fi];simp only[ba,Option.isSome_none,hnum,eT,T1.u,T1.inf,T1.zc,hss,hnews,hi,b1,b2,hzb,Bool.and_self,Jo,JP,hl1,g1,hroom,hqp,h2,h4,h5,h6,h7,h8,JQ,Bool.not_false]
   have hnx2:(hset h b .dead).next=h.next:=rfl;refine⟨_,_,e0,?_,rfl,rfl,λid hid hne=>?_⟩
   ·have hq2:hget (ag (hset h b .dead) (.row 5 ((n+x.length)*1) true false 0 (putCells cells (n*1) (x.map cF)))) h.next=.row 5 ((n+x.length)*1) true false 0 (putCells cells (n*1) (x.map cF)):=by rw[<-hnx2,az _ _ (by rw[hnx2];omega)]
    refine .row (n:=n+x.length) (op:=true) (fz:=0) (show h.next<h.next+1 by omega) hq2 (by rw[Jt,hL,hlx];omega) (λj hj=>?_) (by omega);rw[bI,bJ _ _ _ (by rw[hlx];omega)];rw[Jt] at hj;by_cases q:j<L.length
    ·rw[if_neg (by omega),<-bI,hc j q,Jc,Jc,Kj q]
    ·rw[if_pos (by omega),Jc,Jc,KA (by omega),hL]
   ·rw[bN _ _ (by rw[hnx2];omega) (by rw[hnx2];omega),bS _ _ _ _ (by omega),if_neg (λe=>hne (by rw[e];rfl))]
def au4 {E:Env} (u:UB E) {rc:RC} (h27:∀{h:H} {bb:Nat} {s:List UInt8},BI h bb s->h.next<=900000000->∃h',(∀k,rc 27 [.pointer (some ⟨bb,0,none⟩)] h k=k (.tuple ⟨[]⟩) h')/\h'.next=h.next/\(∀id,id≠bb->hget h' id=hget h id) /\
   ∃c v,hget h' bb=.row 44 2 false false 0 c/\getF c 0=.pointer (some ⟨bb,0,none⟩)/\getF c 1=v/\OL 5 1 h' v s.length (s.map cF)/\∀p,dv v=some p->bb<p)
  {h:H} {bb:Nat} {s:List UInt8} (b:BI h bb s) (hn:h.next<=800000000) {x:Bs} (hx:x ≠ []) (hs:s.length+x.length<=400000000):
  ∃h',(∀k,p14 E rc (.pointer (some ⟨bb,0,none⟩)) (ak x) h k=k (.tuple ⟨[.int .i64 (.ofNat x.length),.nilIface]⟩) h')/\BI h' bb (s++x)/\h'.next=h.next+1/\∀id,id<bb->hget h' id=hget h id:=by
 obtain⟨i,T1,hi⟩:=u.l42;obtain⟨h1,e1,n1,k1,c,v,hq,h0,hv1,o,hv⟩:=h27 b (by omega);have hlt:=b.lt;obtain⟨v2,h2,e2,o2,n2,b2,f2⟩:=Ll T1 hi u.u9 o hx (by omega) hs;have hqr:∀k,onRow (hget h1 bb) k=k 44 2 false false 0 c:=λk=>by rw[hq];rfl
 have hq2:hget h2 bb=.row 44 2 false false 0 c:=by rw[f2 bb (by omega) (λe=>KO _ (hv bb e)),hq]
 have hpx:0<x.length:=J8.2 hx;have hcl:cell1F v2=true:=by generalize s.length+x.length=m at o2;generalize List.map cF s++List.map cF x=M at o2;cases o2 <;> rfl
 have hoc:∀k,onCells v2 k=k [v2]:=λk=>by generalize s.length+x.length=m at o2;generalize List.map cF s++List.map cF x=M at o2;cases o2 <;> rfl
 have h9:E.und 9=some .string:=u.u9;refine⟨hset h2 bb (.row 44 2 false false 0 (putF c 1 [v2])),λk=>?_,⟨⟨putF c 1 [v2],v2,bj _ _ _ (by omega),.inr ?_,?_,?_,?_⟩,?_⟩,?_,λid hid=>?_⟩
 ·unfold p14;rw[e1];simp only[↓aR,↓au,↓hqr];rw[aP (show ble (Nat.succ (Nat.add 0 1)) 2=true from rfl),show getF c (Nat.add 0 1)=v from hv1,cg e2];simp only[↓aR,↓au,↓hoc];have hst:=uK hq2 (show 1+1<=2 by omega) (by omega) hcl (λt=>bindO (aX E t 9 (ak x)) λt1=>ifB (nT [t1,.nilIface]) (k (.tuple ⟨[t1,.nilIface]⟩) t));refine Eq.trans hst ?_;rw[show aX E (hset h2 bb (.row 44 2 false false 0 (putF c 1 [v2]))) 9 (ak x)=some (.int .i64 (.ofNat x.length)) by unfold aX;rw[h9];rfl,aK];rfl
 ·rw[eu _ (by omega),if_neg (by omega),h0]
 ·rw[eu _ (by omega),if_pos rfl]
 ·rw[Jt,List.map_append];exact o2.keep (Jd _) λp hp _=>by rw[b2] at hp;obtain rfl:=JJ hp;rw[bS _ _ _ _ (by omega),if_neg (by omega)]
 ·intro p hp;rw[b2] at hp;obtain rfl:=JJ hp;omega
 ·show bb<h2.next;omega
 ·show h2.next=_;omega
 ·rw[bS _ _ _ _ (by omega),if_neg (by omega),f2 id (by omega) (λe=>by have:=hv id e;omega),k1 id (by omega)]
def asv {E:Env} {u42:E.und 42=some (.slice 5)} {rc:RC} {h:H} {bb:Nat} {s:Bs} (b:BI h bb s) (k:Value->H->R):p16 E rc (.pointer (some ⟨bb,0,none⟩)) h k=k (.int .i64 (.ofNat s.length)) h:=by
 obtain⟨⟨c,v,hq,h0,h1,o,hv⟩,hlt⟩:=b;have hqr:∀k,onRow (hget h bb) k=k 44 2 false false 0 c:=λk=>by rw[hq];rfl
 unfold p16;simp only[↓aR,↓au,↓hqr];rw[aP (show ble (Nat.succ (Nat.add 0 1)) 2=true from rfl),aW,show getF c (Nat.add 0 1)=v from h1];generalize hL:s.map cF=L at o;generalize hnl:s.length=n at o;cases o with
 | nil=>
  rw[ji];have:aX E h 42 (.slice none 0 0)=some (.int .i64 (.ofNat 0)):=by unfold aX;rw[u42];rfl
  rw[this];rfl
 | row=>rw[bp]
def nB (l:List Value):allF (λy=>cell1F y) l=l.all cell1F:=by
 induction l with
 | nil=>rfl
 | cons v l ih=> show Bool.rec (motive:=λ_=>Bool) false (allF (λy=>cell1F y) l) (cell1F v)=_;rw[JZ,ih];cases cell1F v <;> rfl
def xt {h:H} {ty b:Nat} {cells:T Value} {L:List Value} (hq:hget h b=.row ty 9 false false 0 cells) (hL:L.length=9) (h1:L.all cell1F=true) (K:H->R):
  (onRow (hget h b) λc d e f g h'=>ifB (notB f) (ifB (beq (lenF L) 9) (ifB (ble g 0) (ifB (ble 9 d) (ifB (ble d 1000000000) (ifB (allF (λy=>cell1F y) L) (letH (hset h b (.row c d e false g (putF h' 0 L))) K)))))))=K (hset h b (.row ty 9 false false 0 (putF cells 0 L))):=by
 rw[hq,cz,aP (c:=notB false) rfl,aP (c:=beq (lenF L) 9) (by rw[dh,hL];rfl),aj (JY _),aj (Jd _),aj (by omega),aP (by rw[nB,h1]),aD]
def iA (cells:T Value) {L:List Value} (hl:L.length=9):ae (putF cells 0 L) 9 0=L:=by rw[dK,<-hl];refine dD L _ 0 λi hi=>?_;rw[fF,bJ _ _ _ (by omega),if_pos (by omega)];simp
def aal {cells:T Value} {L:List Value} (hl:L.length=9) (hc:∀i,i<9->getF cells i=L.getD i unk):ae cells 9 0=L:=by rw[dK,<-hl];refine dD L _ 0 λi hi=>?_;rw[JN,<-bI,hc i (by omega)]
def WL.cellsV {h:H} {von vtx:Value} {l m:List Bs} (o1:WL h von l) (o2:WL h vtx m) (ln:Int) (c:bV):(aO ln c von vtx).all cell1F=true:=by have z1:=o1.cell1;have z2:=o2.cell1;unfold aO ak;simp only[JZ,z1,z2];rfl
def avk {E:Env} (u:UP E) {rc:RC} {hS:H} (u63:E.und 63=some (.slice 67)) (W:Mf rc hS) {h:H} (hSh:bu hS h) {c:bV} (C:Hx c) {ln:Int} {von vtx:Value} (o1:WL h von c.on) (o2:WL h vtx c.texts) (c1:cj von) (c2:cj vtx) (hn:h.next<=500000000) (k:Value->H->R) (X:R)
  (e:p15 E rc (.agg ⟨aO ln c von vtx⟩) h k=X):∃h',X=k (.tuple ⟨[ak (dw c).1,.bool (dw c).2]⟩) h'/\Fr h h' 36100:=by
 have u3:=u.u3;have u5:=u.u5;have ha:allF (λb=>cell1F b) (aO ln c von vtx)=true:=by rw[nB];exact o1.cellsV o2 ln c
 unfold p15 at e;rw[bP,aP ha,aj (show h.1<=1000000000 by show h.next<=_;omega),aD,show lenF (aO ln c von vtx)=9 from rfl] at e;have f1:Fr h (ag h (.row 39 9 false false 0 (T.ofList unk (aO ln c von vtx)))) 1:=Fr.push _ (by omega);have g1:hget (ag h (.row 39 9 false false 0 (T.ofList unk (aO ln c von vtx)))) h.1=.row 39 9 false false 0 (T.ofList unk (aO ln c von vtx)):=az _ _ (by show h.next<=_;omega);have n1:(ag h (.row 39 9 false false 0 (T.ofList unk (aO ln c von vtx)))).next=h.next+1:=rfl;generalize ag h (.row 39 9 false false 0 (T.ofList unk (aO ln c von vtx)))=h1 at e f1 g1 n1;have gc1:getF (T.ofList unk (aO ln c von vtx)) 1=.int .u8 (.ofNat c.op):=rfl;have gc7:getF (T.ofList unk (aO ln c von vtx)) 7=.int .u8 (.ofNat c.kind):=rfl;have cv:∀(n:Nat) (hh:H) (K:Value->R),n<=255->(onNat (.int .u8 (.ofNat n)) (bindO (aY E hh 5 3 (.int .u8 (.ofNat n))) K) λf=>@Bool.rec (λ_=>R) (bindO (aY E hh 5 3 (.int .u8 (.ofNat n))) K) (K (.int .i64 (.ofNat f))) (ble f 9223372036854775807))=K (.int .i64 (.ofNat n)):=λn hh K hb=>by rw[bC,aM (show n<=9223372036854775807 by omega)]
 have hop:=C.op;have hkd:=C.kd;have q1:∀K,onRow (hget h1 h.1) K=K 39 9 false false 0 (T.ofList unk (aO ln c von vtx)):=λK=>by rw[g1];rfl
 rw[aj (show h1.1<=1000000000 by show h1.next<=_;omega),aD,Ey] at e;simp only[↓q1] at e;rw[aP (show ble 2 9=true from rfl),aW] at e;unfold Is at e;rw[gc1,cv _ _ _ hop,W.rows _ _ (by omega),aP (gg _)] at e;have f2:Fr h1 (ag h1 pg) 1:=Fr.push _ (by omega);have n2:(ag h1 pg).next=h1.next+1:=rfl;generalize ag h1 pg=h2 at e f2 n2;have q2:∀K,onRow (hget h2 h.1) K=K 39 9 false false 0 (T.ofList unk (aO ln c von vtx)):=λK=>by rw[f2.old _ (by show h.next<h1.next;omega),g1];rfl
 simp only[↓q2] at e;rw[aP (show ble 2 9=true from rfl),gc1,aP (iC _ _),aW,cv _ _ _ hop,aP (iC _ _),aW,bp] at e;dsimp only at e;rw[iw u3,aW] at e;have fh2:Fr h h2 2:=f1.trans f2 (by omega);by_cases qo:41<=c.op
 ·have hlt:dw c=([],false):=by unfold dw;rw[if_pos (.inl qo)]
  rw[hlt];rw[aM qo] at e;simp only[Cx,B4,↓aW,↓aE,↓ah,↓cu,↓aA,show am undef undef=true from rfl,↓di] at e;exact⟨h2,e.symm,fh2.mono (by omega)⟩
 ·rw[dt (show c.op<41 by omega)] at e;simp only[↓cP,↓aW,B4,↓au,↓q2] at e;rw[aP (show ble (Nat.succ 7) 9=true from rfl),gc7] at e;simp only[Cx,↓cP,↓aW] at e;rw[cv _ _ _ hkd,aE,W.kinds _ _ (by omega)] at e;have f3:Fr h2 (ag h2 (.row 9 5 false false 0 (T.ofList unk (aZ.map ak)))) 1:=Fr.push _ (by omega);have n3:(ag h2 (.row 9 5 false false 0 (T.ofList unk (aZ.map ak)))).next=h2.next+1:=rfl;generalize ag h2 (.row 9 5 false false 0 (T.ofList unk (aZ.map ak)))=h3 at e f3 n3;have fh3:Fr h h3 3:=fh2.trans f3 (by omega);have q3:∀K,onRow (hget h3 h.1) K=K 39 9 false false 0 (T.ofList unk (aO ln c von vtx)):=λK=>by rw[f3.old _ (by show h.next<h2.next;omega),f2.old _ (by show h.next<h1.next;omega),g1];rfl
  simp only[↓au,↓q3,↓aW] at e;rw[aP (gg _),aP (show ble (Nat.succ 7) 9=true from rfl),gc7,aP (iC _ _),cv _ _ _ hkd,aP (iC _ _),bp] at e;simp only[iw u3,↓ax,↓ah] at e;by_cases qk:5<=c.kind
  ·have hlt:dw c=([],false):=by unfold dw;rw[if_pos (.inr qk)]
   rw[hlt];rw[aM qk,aA] at e;exact⟨h3,e.symm,fh3.mono (by omega)⟩
  ·rw[dt (show c.kind<5 by omega),ax] at e;obtain⟨h4,e4,f4⟩:=Qu u W (hSh.trans fh3.from) C (o1.fr fh3) (o2.fr fh3) c1 c2 (by omega) (by omega) (ch:=h) ((f3.old _ (by show h.next<h2.next;omega)).trans ((f2.old _ (by show h.next<h1.next;omega)).trans g1)) (by show h.next<h3.next;omega) (by omega) k _ X e;exact⟨h4,e4,fh3.trans f4 (by omega)⟩
section
inductive CW (W:H->Value->List Bs->Prop) (h:H):Value->List bV->Prop
 | nil:CW W h (.slice none 0 0) []
 | row {b o e m c fz:Nat} {op ro:Bool} {cells:T Value} {l:List bV} (hb:b<h.next) (hq:l ≠ []->hget h b=.row e m op ro fz cells) (hm:o+l.length*9<=m)
   (hc:∀i,(hi:i<l.length)->i<1002->∃ln von vtx,ae cells 9 (o+i*9)=aO ln l[i] von vtx/\W h von l[i].on/\W h vtx l[i].texts):CW W h (.slice (some ⟨b,o,none⟩) l.length c) l
def mK (W:H->Value->List Bs->Prop):Prop:=(∀h h' v l,W h v l->bu h h'->W h' v l)/\∀h v l,W h v l->WL h v l
def IX (rc:RC) (hS:H) (W:H->Value->List Bs->Prop):Prop:=∀(c:bV) (ln:Int) (von vtx:Value) (h:H) (k:Value->H->R) (X:R),bu hS h->Hx c->W h von c.on->W h vtx c.texts->h.next<=500000000->rc 15 [.agg ⟨aO ln c von vtx⟩] h k=X ->
 ∃h',X=k (.tuple ⟨[ak (dw c).1,.bool (dw c).2]⟩) h'/\Fr h h' 36100
def iP:List bV->Option Bs
 | []=>some []
 | c :: l=>if (dw c).2 then (iP l).map ((dw c).1 ++ ·) else none
def Gu (ws:List Bs):bQ ws ++ [10] ≠ []:=by simp
def FR {c:bV} (h:(dw c).2=true):(dw c).1 ≠ []:=by
 unfold dw at h ⊢;split at h
 ·exact nomatch h
 split at h
 ·exact nomatch h
 rename_i h1 h2;rw[if_neg h1,if_neg h2];exact Gu _
structure acM (rc:RC) (hS:H) (W:H->Value->List Bs->Prop):Prop where
 line:IX rc hS W
 wr:∀(h:H) (bb:Nat) (s x:Bs),BI h bb s->h.next<=800000000->x ≠ []->s.length+x.length<=400000000->∃h',(∀k,rc 14 [.pointer (some ⟨bb,0,none⟩),ak x] h k=k (.tuple ⟨[.int .i64 (.ofNat x.length),.nilIface]⟩) h')/\BI h' bb (s++x)/\h'.next=h.next+1/\∀id,id<bb->hget h' id=hget h id
 len:∀(h:H) (bb:Nat) (s:Bs) (k:Value->H->R),BI h bb s->rc 16 [.pointer (some ⟨bb,0,none⟩)] h k=k (.int .i64 (.ofNat s.length)) h
 str:∀(h:H) (bb:Nat) (s:Bs),BI h bb s->s ≠ []->h.next<=900000000->s.length<=500000000->∃h',(∀k,rc 17 [.pointer (some ⟨bb,0,none⟩)] h k=k (.string ⟨⟨s⟩⟩) h')/\h'.next=h.next/\∀id,id<bb->hget h' id=hget h id
 num:∀(n:Int) (h:H) (k:Value->H->R),eX n->bu hS h->rc 13 [.int .i64 n] h k=k (ak (cR n)) h
def BI.fr {h h':H} {bb n:Nat} {s:Bs} (b:BI h bb s) (f:Fr h h' n):BI h' bb s:=by obtain⟨⟨c,v,hq,h0,h1,o,hv⟩,hlt⟩:=b;exact⟨⟨c,v,(f.old _ hlt).trans hq,h0,h1,o.keep f.le λp _ hl=>f.old p hl,hv⟩,Jp hlt f.le⟩
def oX (c:bV):Prop:=(dw c).1.length<=100000
variable {E : Env} (u : UT E) {rc : RC} {hS : H} {W : H -> Value -> List Bs -> Prop}
include u
theorem HE (hW:mK W) (P:acM rc hS W) {hb:H} (hSb:bu hS hb) {v:Value} {l:List bV} (o:CW W hb v l) (hl:l.length<=1000) (hC:∀c∈l,Hx c) (hL:∀c∈l,oX c) {bb:Nat} {bH:H} (hbb:bH.1=bb) (hlo:hb.next<=bb) (k:Value->H->R) (fin:aa [6,7]->H->R):
  ∀(d i N:Nat) (x y:Value) (s:Bs) (h:H) (X:R),i+d=l.length->d<N->bu hb h->BI h bb s->h.next+d*36102<=400000000->s.length+d*100000<=200000000 ->
   @loopF [6,7,37] (Ex E (.int .i64 (.ofNat l.length)) v rc bH k fin) N (x,(y,(.int .i64 (.ofNat i),()))) h=X ->
   match iP (l.drop i) with
   | none=>∃h',X=k (.tuple ⟨[ak [],.int .i64 (.ofNat 14)]⟩) h'/\dj hb.next h h' (d*36102)
   | some r=>∃h' x' y',X=fin (x',(y',())) h'/\BI h' bb (s++r)/\dj hb.next h h' (d*36102)/\r.length<=d*100000:=by
 have u3:=u.u3;intro d
 induction d with
 | zero=> intro i N x y s h X hi hN f b hn hs e;obtain⟨N',rfl⟩:∃N',N=N'+1:=⟨N-1,by omega⟩;rw[aT] at e;generalize @loopF [6,7,37] (Ex E (.int .i64 (.ofNat l.length)) v rc bH k fin) N'=L at e;unfold Ex at e;dsimp only at e;rw[fj u3 (show l.length<=i by omega),ah,ax] at e;rw[List.drop_eq_nil_of_le (by omega)];exact⟨h,x,y,e.symm,by simpa using b,dj.refl _ _ _,by simp⟩
 | succ d ih=>
  intro i N x y s h X hi hN f b hn hs e;obtain⟨N',rfl⟩:∃N',N=N'+1:=⟨N-1,by omega⟩;have hlt:i<l.length:=by omega
  rw[aT] at e;generalize hLp:@loopF [6,7,37] (Ex E (.int .i64 (.ofNat l.length)) v rc bH k fin) N'=L at e;unfold Ex at e;dsimp only at e;rw[gt u3 hlt,ah,aA] at e;dsimp only at e;rw[ah,bC] at e;have hle:=f.le;cases o with
  | nil=>exact absurd hlt (Jy _)
  | row hbk hq hm hc=>
   rename_i bk of e' m c fz op ro cs;have hq:=hq (λq=>by subst q;exact absurd hlt (Jy _));obtain⟨ln,von,vtx,hcell,w1,w2⟩:=hc i hlt (by omega);have hqr:∀K,onRow (hget h bk) K=K e' m op ro fz cs:=λK=>by rw[f.old _ hbk,hq];rfl
   rw[bp,aj (show Nat.succ i<=l.length from hlt),bw,au] at e;simp only[Ju,↓hqr] at e;have hmi:of+i*9+9<=m:=by omega
   rw[aj (show Nat.add (of+i*9) 9<=m from hmi),hcell,aj (show h.1<=1000000000 by show h.next<=_;omega),aD] at e;have f1:Fr h (ag h (.row 39 9 false false 0 (T.ofList unk qg))) 1:=Fr.push _ (by omega);have g1:hget (ag h (.row 39 9 false false 0 (T.ofList unk qg))) h.1=.row 39 9 false false 0 (T.ofList unk qg):=az _ _ (by show h.next<=_;omega);have n1:(ag h (.row 39 9 false false 0 (T.ofList unk qg))).next=h.next+1:=rfl;generalize ag h (.row 39 9 false false 0 (T.ofList unk qg))=h1 at e f1 g1 n1;generalize T.ofList unk qg=zc at g1;have hall:=(hW.2 _ _ _ w1).cellsV (hW.2 _ _ _ w2) ln l[i];rw[xt g1 (show (aO ln l[i] von vtx).length=9 from rfl) hall] at e;have b1:=b.fr f1;have fb1:dj hb.next h h1 1:=f1.b hle;have f2:dj h.next h1 (hset h1 h.1 (.row 39 9 false false 0 (putF zc 0 (aO ln l[i] von vtx)))) 0:=dj.set (Jd _) (by show h.next<=_;omega) _;have g2:hget (hset h1 h.1 (.row 39 9 false false 0 (putF zc 0 (aO ln l[i] von vtx)))) h.1=.row 39 9 false false 0 (putF zc 0 (aO ln l[i] von vtx)):=bj _ _ _ (by show h.next<=_;omega);have n2:(hset h1 h.1 (.row 39 9 false false 0 (putF zc 0 (aO ln l[i] von vtx)))).next=h1.next:=rfl;generalize hset h1 h.1 (.row 39 9 false false 0 (putF zc 0 (aO ln l[i] von vtx)))=h2 at e f2 g2 n2;have f12:Fr h h2 1:=⟨by omega,by omega,λid hid=>(f2.old id hid).trans (f1.old id hid)⟩;rw[g2,cz,aP (show ble 9 9=true from rfl),iA _ (show (aO ln l[i] von vtx).length=9 from rfl)] at e;have hmem:=J6 hlt;have hF2:bu hb h2:=f.trans f12.from;obtain⟨h3,e3,f3⟩:=P.line l[i] ln von vtx h2 _ X (hSb.trans hF2) (hC _ hmem) (hW.1 _ _ _ _ w1 hF2) (hW.1 _ _ _ _ w2 hF2) (by omega) e;have f13:Fr h h3 36101:=f12.trans f3 (by omega);have hll:(dw l[i]).1.length<=100000:=hL _ hmem;have hmul:(d+1)*36102=d*36102+36102:=Nat.succ_mul _ _;have hmul2:(d+1)*100000=d*100000+100000:=Nat.succ_mul _ _;rw[hmul] at hn ⊢;rw[hmul2] at hs ⊢;rw[JR hlt];unfold iP;rw[bg,bB,bg,du,bB] at e3;have hu3:=f13.ub;have hl3:=f13.le;cases hok:(dw l[i]).2 with
   | false=> rw[hok,ax,ah] at e3;rw[if_neg (by simp)];exact⟨h3,e3,(f13.b hle).mono (by omega)⟩
   | true=>
    rw[hok,aA,ah] at e3;dsimp only at e3;unfold anm at e3;rw[hbb] at e3;rw[if_pos rfl];obtain⟨h4,e4,b4,n4,o4⟩:=P.wr h3 bb s (dw l[i]).1 (b.fr f13) (by omega) (FR hok) (by omega);rw[e4] at e3;dsimp only at e3;rw[dr u3 (by omega)] at e3;have f14:dj hb.next h h4 36102:=⟨by omega,by omega,λid hid=>(o4 id (by omega)).trans (f13.old id (by omega))⟩;have key:=ih (i+1) N' x y (s++(dw l[i]).1) h4 X (by omega) (by omega) (f.frB f14 (Jd _)) b4 (by omega) (by rw[Jt];omega) (by rw[hLp];exact e3.symm);cases hbd:iP (l.drop (i+1)) with
    | none=> rw[hbd] at key;obtain⟨h5,e5,f5⟩:=key;exact⟨h5,e5,f14.trans f5 (by omega)⟩
    | some r=>
     rw[hbd] at key;obtain⟨h5,x',y',e5,b5,f5,hr⟩:=key;refine⟨h5,x',y',e5,?_,f14.trans f5 (by omega),?_⟩
     ·rw[<-KM];exact b5
     ·rw[Jt];omega
def eK (cap keeps:Int) (l:List bV):Bs × Nat:=
 if 1000<l.length then ([],15)
 else if cR cap=[] \/ cR keeps=[] then ([],14)
 else match iP l with
  | none=>([],14)
  | some r=>if 65536<([97,114,101,110,97,32]++cR cap ++ [32]++cR keeps ++ [10]++r).length then ([],16) else ([97,114,101,110,97,32]++cR cap ++ [32]++cR keeps ++ [10]++r,0)
omit u in
theorem lY {W:H->Value->List Bs->Prop} {tl ty:TypeId} (hu:E.und tl=some (.slice ty)) {h h':H} {v:Value} {l:List bV} (o:CW W h v l) (K:Value->R):onSl v (bindO (aX E h' tl v) K) (λ_ n _=>K (.int .i64 (.ofNat n)))=K (.int .i64 (.ofNat l.length)):=by
 cases o with
 | nil=>
  rw[ji];have:aX E h' tl (.slice none 0 0)=some (.int .i64 (.ofNat 0)):=by unfold aX;rw[hu];rfl
  rw[this];rfl
 | row=>rw[bp]
theorem aev (DR:E.und 22=some (.slice 39)) (hW:mK W) (P:acM rc hS W) {h:H} (hSh:bu hS h) {v:Value} {l:List bV} (o:CW W h v l) (hC:l.length<=1000->∀c∈l,Hx c) (hL:l.length<=1000->∀c∈l,oX c) {cap keeps:Int} (hcap:eX cap) (hkeeps:eX keeps) (hn:h.next<=300000000) (k:Value->H->R) (X:R)
  (e:p7 E rc (.int .i64 cap) (.int .i64 keeps) v h k=X):∃h',X=k (.tuple ⟨[ak (eK cap keeps l).1,.int .i64 (.ofNat (eK cap keeps l).2)]⟩) h'/\Fr h h' 40000000:=by
 have u3:=u.u3;unfold p7 at e;obtain⟨K,hK,e⟩:=sg e;rw[aW,lY DR o,fD u3] at e;by_cases q0:1000<l.length
 ·rw[aM (show 1000+1<=l.length by omega),ah,aA] at e;unfold eK;rw[if_pos q0];exact⟨h,e.symm,Fr.refl _ _⟩
 have hl:l.length<=1000:=by omega
 rw[dt (show l.length<1000+1 by omega),ah,ax,P.num _ _ _ hcap hSh] at e;have hs:∀(n:Int) (K:Value->R),binR (binC E .eql 9 false true) (ak (cR n)) (.string (ByteArray.mk #[])) K=K (.bool (cR n==[])):=λn K=>by rw[mG];exact rQ u.toUS
 rw[hs] at e;unfold eK;rw[if_neg q0];by_cases q1:cR cap=[]
 ·rw[show (cR cap==[])=true by rw[q1];rfl] at e;simp only[↓aE,↓cu,↓ah,↓aA] at e;rw[if_pos (.inl q1)];exact⟨h,e.symm,Fr.refl _ _⟩
 rw[show (cR cap==[])=false from JM.2 q1] at e;simp only[↓aE,↓cP] at e;rw[P.num _ _ _ hkeeps hSh] at e;rw[hs] at e;by_cases q2:cR keeps=[]
 ·rw[show (cR keeps==[])=true by rw[q2];rfl] at e;simp only[↓aE,↓ax,↓ah,↓aA] at e;rw[if_pos (.inr q2)];exact⟨h,e.symm,Fr.refl _ _⟩
 rw[show (cR keeps==[])=false from JM.2 q2] at e;simp only[↓aE,↓ax,↓ah] at e;rw[if_neg (by rintro (h | h);exact q1 h;exact q2 h)];subst hK;dsimp only at e;rw[aj (show h.1<=1000000000 by show h.next<=_;omega),aD] at e;have b1:=BI.new (h:=h) (by omega);have f1:Fr h (ag h (.row 44 2 false false 0 (T.ofList unk [.pointer none,.slice none 0 0]))) 1:=Fr.push _ (by omega);have n1:(ag h (.row 44 2 false false 0 (T.ofList unk [.pointer none,.slice none 0 0]))).next=h.next+1:=rfl;generalize ag h (.row 44 2 false false 0 (T.ofList unk [.pointer none,.slice none 0 0]))=h1 at e b1 f1 n1;have hS1:=hSh.trans f1.from;have hc1:=gU cap;have hk1:=gU keeps;have ad:∀{cx cy:Bool} (a b:Bs) (K:Value->R),a.length+b.length<=1000000000->binR (binC E .add 9 cx cy) (ak a) (ak b) K=K (ak (a++b)):=λa b K hab=>aqm u.toUS hab;rw[P.num _ _ _ hcap hS1,show (.string ⟨⟨[97,114,101,110,97,32]⟩⟩:Value)=ak [97,114,101,110,97,32] from rfl,ad _ _ _ (by simp;omega),show (.string ⟨⟨[32]⟩⟩:Value)=ak [32] from rfl,ad _ _ _ (by simp;omega),P.num _ _ _ hkeeps hS1,ad _ _ _ (by simp;omega),show (.string ⟨⟨[10]⟩⟩:Value)=ak [10] from rfl,ad _ _ _ (by simp;omega)] at e;obtain⟨h2,e2,b2,n2,o2⟩:=P.wr h1 h.next [] ([97,114,101,110,97,32]++cR cap ++ [32]++cR keeps ++ [10]) b1 (by omega) (by simp) (by simp;omega);rw[e2] at e;rw[KE] at b2;have f2:Fr h h2 2:=⟨by omega,by omega,λid hid=>(o2 id hid).trans (f1.old id hid)⟩;rw[aW,lY DR o,ah] at e;have key:=HE u hW P hSh o hl (hC hl) (hL hl) (bb:=h.next) (bH:=h) rfl (Jd _) k _ l.length 0 cM _ _ _ h2 X (by omega) (by unfold cM;omega) f2.from b2 (by omega) (by simp;omega) e;have hmul:l.length*36102<=1000*36102:=Kr _ hl;rw[List.drop_zero] at key;cases hbd:iP l with
 | none=> rw[hbd] at key;obtain⟨h3,e3,f3⟩:=key;exact⟨h3,e3,⟨by have:=f3.le;omega,by have:=f3.ub;omega,λid hid=>(f3.old id hid).trans (f2.old id hid)⟩⟩
 | some r=>
  rw[hbd] at key;obtain⟨h3,x',y',e3,b3,f3,hr⟩:=key;have hmul2:l.length*100000<=1000*100000:=Kr _ hl;dsimp only at e3 ⊢;generalize hS0:[97,114,101,110,97,32]++cR cap ++ [32]++cR keeps ++ [10]=s0 at e3 b3 ⊢;have hs0:s0.length<=40/\s0 ≠ []:=by subst hS0;simp;omega
  have hu3:=f3.ub;have hl3:=f3.le;rw[P.len _ _ _ _ b3,fD u3] at e3;have fh3:Fr h h3 39900000:=⟨by omega,by omega,λid hid=>(f3.old id hid).trans (f2.old id hid)⟩;by_cases q3:65536<(s0++r).length
  ·rw[aM (show 65536+1<=(s0++r).length by omega),ah,aA] at e3;rw[if_pos q3];exact⟨h3,e3,fh3.mono (by omega)⟩
  ·rw[dt (show (s0++r).length<65536+1 by omega),ah,ax] at e3;rw[if_neg q3];obtain⟨h4,e4,n4,o4⟩:=P.str h3 h.next (s0++r) b3 (by simp[hs0.2]) (by omega) (by omega);dsimp only at e3;rw[e4] at e3;exact⟨h4,e3,⟨by omega,by omega,λid hid=>(o4 id hid).trans (fh3.old id hid)⟩⟩
end
def p63 (E:Env) (rc:RC) (a0:Value) (a1:Value) (h:H) (k:Value->H->R):R:=rc 79 [a0,a1] h λa b=>binR (binC E .geq 3 false true) a (.int .i64 (.ofNat 0)) λc=>k c b
def ZF (t:aN) (rc:RC) (a0:Value) (a1:Value) (h:H) (k:Value->H->R):(cf (EX t) KK 63).run rc [a0,a1] h k=p63 (EX t) rc a0 a1 h k:=by kernel_rfl
def ajL (E:Env) (rc:RC) (a0:Value) (h:H) (k:Value->H->R):R:=binR (binC E .gtr 3 false true) a0 (.int .i64 (.ofNat 8)) λa=>k a h
def Re (t:aN) (rc:RC) (a0:Value) (h:H) (k:Value->H->R):(cf (EX t) KK 101).run rc [a0] h k=ajL (EX t) rc a0 h k:=by kernel_rfl
def sG (a:Nat->Value) (b:H) (rc:RC) (a1:Value) (E:Env) (k:Value->H->R) (c:aa [4]->H->R):(aa [4]->H->R)->aa [4]->H->R:=λd e f=>cE (iR f (a b.1)) λg h=>onTup g λi=>nthF 0 i λj=>@joinR [] (λ_ l=>@joinR [4] (λm n=>d (m.1,()) n) λm=>onTup g λn=>nthF 1 n λo=>onTup g λp=>nthF 2 p λq=>rc 100 [a1,q] l λr s=>binR (binC E .geq 3 false true) r (.int .i64 (.ofNat 0)) λt=>@joinR [4] (λu v=>m (u.1,()) v) λu=>onB t (u (e.1,()) s) (k o s)) λl=>onB j (c (e.1,()) h) (l () h)
def aro (E:Env) (a0:Value) (rc:RC) (a:H) (k:Value->H->R) (b:aa [4]->H->R):(aa [4,8]->H->R)->aa [4,8]->H->R:=λc d e=>bindO (aX E e 9 a0) λf=>binR (binC E .lss 3 false false) d.2.1 f λg=>@joinR [] (λ_ h=>@joinR [4] (λi j=>binR (binC E .add 3 false true) d.2.1 (.int .i64 (.ofNat 1)) λl=>c (i.1,(l,())) j) λi=>bindO (dA E 9 a0 d.2.1) λj=>rc 103 [.pointer (some (Addr.mk a.1 0 none)),j] h λl m=>@joinR [4] (λn o=>i (n.1,()) o) λn=>onB l (n (d.1,()) m) (k d.2.1 m)) λh=>onB g (b (d.1,()) e) (h () e)
def p79 (E : Env) (rc : RC) (a0 : Value) (a1 : Value) (h : H) (k : Value -> H -> R):R:= binR (binC E .eql 9 false true) a1 (.string (ByteArray.mk #[])) fun a=> @joinR [4] (fun b c=> bindO (aX E c 9 a1) fun d=> binR (binC E .eql 3 false true) d (.int .i64 (.ofNat 1)) fun e=> @joinR [4] (fun f g=> bindO (aX E g 9 a0) fun i=> rc 101 [i] g fun j l=> @joinR [4] (fun m n=> lK (dk E (@T.n Value (@T.c Value undef) a0 (@T.c Value undef)) (Oper.mk none (Op.range 9 (.tmp 0)) 0 " " #[] none)) fun o p=> ifB (ble n.1 1000000000) (letH (ag n o) fun q=> @joinR [4] (fun _ r=> k (.int .i64 (.negSucc 0)) r) fun r=> @loopF [4] (sG p n rc a1 E k r) cM (m.1, ()) q)) fun m=> onB j (m (f.1, ()) l) (rc 102 [a1] l fun n o=> onTup n fun p=> nthF 0 p fun q=> onTup n fun r=> nthF 1 r fun s=> ifB (ble o.1 1000000000) (letH (ag o (.row 148 256 false false 0 (@T.c Value (.bool false)))) fun t=> onCells q fun u=> onRow (hget t o.1) fun v w x y z a2=> ifB (notB y) (ifB (beq (lenF u) 256) (ifB (ble z 0) (ifB (ble 256 w) (ifB (ble w 1000000000) (ifB (allF (fun a3=> cell1F a3) u) (letH (hset t o.1 (.row v w x false z (putF a2 0 u))) fun a3=> @joinR [4] (fun a4 a5=> m (a4.1, ()) a5) fun a4=> onB s (a4 (f.1, ()) a3) (@joinR [4] (fun _ a5=> k (.int .i64 (.negSucc 0)) a5) fun a5=> @loopF [4, 8] (aro E a0 rc o k a5) cM (f.1, (.int .i64 (.ofNat 0), ())) a3)))))))))) fun f=> onB e (f (b.1, ()) c) (bindO (dA E 9 a1 (.int .i64 (.ofNat 0))) fun g=> joinL (fun i=> binR (binC E .geq 21 false true) i (.int .i32 (.ofNat 128)) fun j=> @joinR [5] (fun l m=> rc 100 [a0, l.1] m fun n o=> k n o) fun l=> onB j (l (i, ()) c) (l (.int .i32 (.ofNat 65533), ()) c)) fun i=> onNat g (bindO (aY E c 5 21 g) i) fun j=> @Bool.rec (fun _=> R) (bindO (aY E c 5 21 g) i) (i (.int .i32 (.ofNat j))) (ble j 2147483647))) fun b=> onB a (b (.int .i64 (.ofNat 0), ()) h) (k (.int .i64 (.negSucc 0)) h)
def YZ (t:aN) (rc:RC) (a0:Value) (a1:Value) (h:H) (k:Value->H->R):(cf (EX t) KK 79).run rc [a0,a1] h k=p79 (EX t) rc a0 a1 h k:=by kernel_rfl
def adC (E:Env) (a:Value) (b:aa [4,9]) (a0 c:Value) (d:aa [12]->H->R):(aa [12]->H->R)->aa [12]->H->R:=λe f g=>bindO (aX E g 9 a) λh=>binR (binC E .lss 3 false false) f.1 h λi=>@joinR [] (λ_ j=>@joinR [] (λ_ l=>binR (binC E .add 3 false true) f.1 (.int .i64 (.ofNat 1)) λm=>e (m,()) l) λl=>ifB (ble j.1 1000000000) (letH (H.mk j.1 j.2) λm=>binR (binC E .sub 3 false false) b.2.1 f.1 λn=>bindO (dA E 9 a0 n) λo=>binR (binC E .sub 3 false false) c f.1 λp=>bindO (dA E 9 a p) λq=>binR (binC E .neq 5 false false) o q λr=>@joinR [] (λ_ s=>l () s) λs=>onB r (s () m) none)) λj=>onB i (d (f.1,()) g) (j () g)
def IY (E:Env) (a0 a b:Value) (k:Value->H->R) (rc:RC) (c:aa [4,9]->H->R):(aa [4,9,10]->H->R)->aa [4,9,10]->H->R:=λd e f=>bindO (aX E f 9 a0) λg=>binR (binC E .lss 3 false false) e.2.1 g λh=>@joinR [] (λ_ i=>@joinR [4,9,10] (λj l=>d (j.1,(j.2.1,(j.2.2.1,()))) l) λ_=>ifB (ble i.1 1000000000) (letH (H.mk i.1 i.2) λj=>bindO (dA E 9 a0 e.2.1) λl=>bindO (dA E 9 a b) λm=>binR (binC E .neq 5 false false) l m λn=>@joinR [4,9] (λo p=>@joinR [12] (λ_ q=>binR (binC E .sub 3 false false) o.2.1 b λr=>k r q) λq=>@loopF [12] (adC E a o a0 b q) cM (.int .i64 (.ofNat 1),()) p) λo=>onB n (o (e.1,(e.2.1,())) j) (ifB (ble j.1 1000000000) (letH (H.mk j.1 j.2) λp=>binR (binC E .add 3 false true) e.2.1 (.int .i64 (.ofNat 1)) λq=>bindO (dm E 9 a0 (some q) none none) λr=>bindO (dA E 9 a b) λs=>rc 168 [r,s] p λt u=>binR (binC E .lss 3 false true) t (.int .i64 (.ofNat 0)) λv=>@joinR [4] (λw x=>binR (binC E .add 3 false true) t (.int .i64 (.ofNat 1)) λy=>binR (binC E .add 3 false false) e.2.1 y λz=>o (w.1,(z,())) x) λw=>onB v (w (e.1,()) u) (k (.int .i64 (.negSucc 0)) u))))) λi=>onB h (c (e.1,(e.2.1,())) f) (i () f)
def oi (a:Nat->Value) (b:H) (E:Env) (k:Value->H->R) (c:aa [4]->H->R):(aa [4]->H->R)->aa [4]->H->R:=λd e f=>cE (iR f (a b.1)) λg h=>onTup g λi=>nthF 0 i λj=>@joinR [] (λ_ l=>@joinR [4] (λm n=>d (m.1,()) n) λm=>onTup g λn=>nthF 1 n λo=>onTup g λp=>nthF 2 p λq=>binR (binC E .eql 21 false true) q (.int .i32 (.ofNat 65533)) λr=>@joinR [4] (λs t=>m (s.1,()) t) λs=>onB r (s (e.1,()) l) (k o l)) λl=>onB j (c (e.1,()) h) (l () h)
def yM (E : Env) (a1 : Value) (a : aa [4] -> H -> R) (rc : RC) (b : H) (k : Value -> H -> R) (a0 : Value):R:= binR (binC E .eql 21 false true) a1 (.int .i32 (.ofNat 65533)) fun c=> @joinR [4] (fun d e=> a (d.1, ()) e) fun d=> onB c (rc 169 [a1] b fun e f=> onB e (@joinR [4] (fun g h=> d (g.1, ()) h) fun _=> k (.int .i64 (.negSucc 0)) f) (@joinR [4] (fun g h=> d (g.1, ()) h) fun _=> bindO (aY E f 21 9 a1) fun g=> bindO (aX E f 9 g) fun h=> binR (binC E .sub 3 false true) h (.int .i64 (.ofNat 1)) fun i=> @joinR [4, 9] (fun _ j=> k (.int .i64 (.negSucc 0)) j) fun j=> @loopF [4, 9, 10] (IY E a0 g i k rc j) cM (.int .i64 (.ofNat 0), (i, (.int .i64 (.ofNat 0), ()))) f)) (lK (dk E (@T.n Value (@T.c Value undef) a0 (@T.c Value undef)) (Oper.mk none (Op.range 9 (.tmp 0)) 0 " " #[] none)) fun e f=> ifB (ble b.1 1000000000) (letH (ag b e) fun g=> @joinR [4] (fun _ h=> k (.int .i64 (.negSucc 0)) h) fun h=> @loopF [4] (oi f b E k h) cM (.int .i64 (.ofNat 0), ()) g))
def GZ (E:Env) (rc:RC) (a0:Value) (a1:Value) (h:H) (k:Value->H->R):R:=@joinR [4] (λa b=>k a.1 b) λa=>binR (binC E .leq 21 true false) (.int .i32 (.ofNat 0)) a1 λb=>ac (λc d=>ac (λe f=>onB b (@joinR [4] (λg i=>a (g.1,()) i) λg=>yM E a1 g rc f k a0) (@joinR [4] (λg i=>a (g.1,()) i) λg=>onB e (yM E a1 g rc f k a0) (joinL (λi=>rc 168 [a0,i] f λj l=>k j l) λi=>onNat a1 (bindO (aY E f 21 5 a1) i) λj=>@Bool.rec (λ_=>R) (bindO (aY E f 21 5 a1) i) (i (.int .u8 (.ofNat j))) (ble j 255)))) λe=>aF b (e undef d) (binR (binC E .lss 21 false true) c (.int .i32 (.ofNat 128)) λf=>e f d) (e undef d)) λc=>aF b (c undef h) (c a1 h) (c undef h)
def Ro (t:aN) (rc:RC) (a0:Value) (a1:Value) (h:H) (k:Value->H->R):(cf (EX t) KK 100).run rc [a0,a1] h k=GZ (EX t) rc a0 a1 h k:=by kernel_rfl
section
section
variable {E : Env} {m n : Nat} {cx cy : Bool} {k : Value -> R} {ty : TypeId} (hE : E.und ty = some (.int .i32))
include hE
theorem Az:binR (binC E .leq ty cx cy) (.int .i32 (.ofNat m)) (.int .i32 (.ofNat n)) k=k (.bool (decide (m<=n))):=by
 have hb:ij E .leq ty cx cy (.int .i32 (.ofNat m)) (.int .i32 (.ofNat n))=some (.bool (decide ((m:Int)<=n))):=rfl;have hd:decide ((m:Int)<=n)=decide (m<=n):=by
  by_cases q:m<=n
  ·rw[decide_eq_true q,decide_eq_true (by omega)]
  ·rw[decide_eq_false q,decide_eq_false (by omega)]
 rw[<-hd];unfold binR binC;rw[hE]
 first
  | rfl
  | (show bindO (ij E .leq ty cx cy (.int .i32 (.ofNat m)) (.int .i32 (.ofNat n))) k=_;rw[hb];rfl)
theorem AJ:binR (binC E .lss ty cx cy) (.int .i32 (.ofNat m)) (.int .i32 (.ofNat n)) k=k (.bool (decide (m<n))):=by
 have hb:ij E .lss ty cx cy (.int .i32 (.ofNat m)) (.int .i32 (.ofNat n))=some (.bool (decide ((m:Int)<n))):=rfl;have hd:decide ((m:Int)<n)=decide (m<n):=by
  by_cases q:m<n
  ·rw[decide_eq_true q,decide_eq_true (by omega)]
  ·rw[decide_eq_false q,decide_eq_false (by omega)]
 rw[<-hd];unfold binR binC;rw[hE]
 first
  | rfl
  | (show bindO (ij E .lss ty cx cy (.int .i32 (.ofNat m)) (.int .i32 (.ofNat n))) k=_;rw[hb];rfl)
end
def j9:Bs:=[32,10]
def ajf {h:H} {ib pos:Nat} {s:Bs} {b:UInt8} (hq:hget h ib=.iter s pos) (hp:s[pos]?=some b) (hb:b.toNat<128):
  iR h (.pointer (some ⟨ib,0,none⟩))=some (.tuple ⟨[.bool true,.int .i64 (.ofNat pos),.int .i32 (.ofNat b.toNat)]⟩,hset h ib (.iter s (pos+1))):=by
 obtain⟨h1,h2⟩:=List.getElem?_eq_some_iff.1 hp;subst h2;exact nW hq h1 hb
structure aqQ (rc:RC) (hS:H):Prop where
 idx:∀(s:Bs) (b:UInt8) (h:H) (k:Value->H->R),bu hS h->rc 168 [ak s,cF b] h k=k (.int .i64 (Lib.indexByte s b)) h
 val:∀(r:Nat) (h:H) (k:Value->H->R),bu hS h->Utf8.valid (r:Int)=true->rc 169 [.int .i32 (.ofNat r)] h k=k (.bool true) h
def anV (x y z:Value) (K:Value->R):nthF 2 [x,y,z] K=K z:=rfl
def apG (x y z:Value) (K:Value->R):nthF 1 [x,y,z] K=K y:=rfl
variable {E : Env} (u : UT E) {rc : RC}
include u
theorem Du {ib:Nat} {a:Nat->Value} {bH:H} (ha:a bH.1=.pointer (some ⟨ib,0,none⟩)) (hib:ib<=900000000) (k:Value->H->R) (c:aa [4]->H->R):∀(d pos N:Nat) (x:Value) (h:H),pos+d=2->d<N->hget h ib=.iter j9 pos ->
  ∃h' x',@loopF [4] (oi a bH E k c) N (x,()) h=c (x',()) h'/\dj ib h h' 0:=by
 intro d
 induction d with
 | zero=> intro pos N x h hp hN hi;obtain⟨N',rfl⟩:∃N',N=N'+1:=⟨N-1,by omega⟩;rw[aT];generalize @loopF [4] (oi a bH E k c) N'=L;unfold oi;rw[ha,cg (nr hi (by show 2<=pos;omega)),bg,bB,ah,ax];exact⟨h,x,rfl,dj.refl _ _ _⟩
 | succ d ih=>
  intro pos N x h hp hN hi;obtain⟨N',rfl⟩:∃N',N=N'+1:=⟨N-1,by omega⟩;obtain⟨b,hb,hb1,hb2⟩:∃b:UInt8,j9[pos]?=some b/\b.toNat<128/\b.toNat≠65533:=by
   match pos,hp with
   | 0,_=>exact⟨32,rfl,by decide,by decide⟩
   | 1,_=>exact⟨10,rfl,by decide,by decide⟩
   | n+2,hp=>omega
  have ih':=ih (pos+1) N' x (hset h ib (.iter j9 (pos+1))) (by omega) (by omega) (bj _ _ _ (by omega));rw[aT];generalize @loopF [4] (oi a bH E k c) N'=L at ih';unfold oi;rw[ha,cg (ajf hi hb hb1),bg,bB,ah,aA];dsimp only;rw[ah,bg,apG,bg,anV,uf u.u21,dB hb2,ah,ax];obtain⟨h',x',e,f⟩:=ih';exact⟨h',x',e,(dj.set (Jd _) (by omega) _).trans f (Jd _)⟩
theorem X8 {hS:H} (I:aqQ rc hS) {r:Nat} (hr:128<=r) (hv:Utf8.valid (r:Int)=true) {h:H} (hq:bu hS h) (hn:h.next<=800000000) (k:Value->H->R):∃h',GZ E rc (ak j9) (.int .i32 (.ofNat r)) h k=k (.int .i64 (.negSucc 0)) h'/\Fr h h' 1:=by
 have u3:=u.u3;have u5:=u.u5;unfold GZ;rw[ah,Az u.u21,decide_eq_true (JY _)];simp only[↓aE,↓cu];rw[AJ u.u21,decide_eq_false (by omega)];simp only[↓aA,↓ax,↓ah];unfold yM;rw[uf u.u21,ah];by_cases q:r=65533
 ·rw[gm q,aA,pZ (kz u.toUS j9),aj (show h.1<=1000000000 by show h.next<=_;omega),aD,ah];have f1:Fr h (ag h (.iter j9 0)) 1:=Fr.push _ (by omega);obtain⟨h',x',e,f⟩:=Du u (a:=λid=>ptr id 0) (bH:=h) (ib:=h.next) rfl (by omega) k (λ_ h=>k (.int .i64 (.negSucc 0)) h) 2 0 cM (.int .i64 (.ofNat 0)) (ag h (.iter j9 0)) rfl (by unfold cM;omega) (az _ _ (by omega));exact⟨h',e,⟨by have:=f.le;have:=f1.le;omega,by have:=f.ub;have:=f1.ub;omega,λid hid=>(f.old id hid).trans (f1.old id hid)⟩⟩
 ·rw[dB q,ax,I.val _ _ _ hq hv,aA,ah];obtain⟨s2,s4,slast⟩:=encode_facts (r:Int) hv (by omega);obtain⟨e,he⟩:∃e:Bs,Utf8.encode (r:Int)=⟨⟨e⟩⟩:=by generalize Utf8.encode (r:Int)=x;obtain⟨⟨e⟩⟩:=x;exact⟨e,rfl⟩
  have hcv:aY E h 21 9 (.int .i32 (.ofNat r))=some (ak e):=by unfold aY;rw[u.u21,u.u9];show some (Value.string (Utf8.encode (r:Int)))=_;rw[he];rfl
  rw[he] at s2 s4;have hle:(⟨⟨e⟩⟩:ByteArray).size=e.length:=rfl;rw[hle] at s2 s4;have hlt:e.length-1<e.length:=by omega
  have hlast:128<=(e[e.length-1]'hlt).toNat:=by have:=slast;rw[he] at this;exact this (by show e.length-1<e.length;omega)
  rw[hcv,aK,show aX E h 9 (ak e)=_ from js u.toUS,aK,gK u3 (show 1<=e.length by omega) (by omega),ah];obtain⟨N',hN'⟩:∃N',cM=N'+1:=⟨999999,by unfold cM;omega⟩;rw[hN',aT];generalize @loopF [4,9,10] _ N'=L;unfold IY;rw[show aX E h 9 (ak j9)=some (.int .i64 (.ofNat 2)) from js u.toUS,aK];dsimp only;by_cases q2:e.length-1<2
  ·rw[gt u3 q2,ah,aA];dsimp only;rw[ah,aj (show h.1<=1000000000 by show h.next<=_;omega),aD,Ey];have e1:e.length-1=1:=by omega
   have i1:dA E 9 (ak j9) (.int .i64 (.ofNat (e.length-1)))=some (cF 10):=by rw[e1];exact tg u.toUS (s:=j9) (j:=1) rfl
   have i2:dA E 9 (ak e) (.int .i64 (.ofNat (e.length-1)))=some (cF (e[e.length-1]'hlt)):=tg u.toUS (Jn hlt);rw[i1,aK,i2,aK]
   rw[show ∀K:Value->R,binR (binC E .neq 5 false false) (cF 10) (cF (e[e.length-1]'hlt)) K=K (.bool true) from λK=>by unfold cF;rw[Fg u5,dB (show ¬ (10:UInt8).toNat=(e[e.length-1]'hlt).toNat by show ¬ 10=_;omega)];rfl]
   rw[ah,aA,aj (show h.1<=1000000000 by show h.next<=_;omega),aD,dr u3 (by omega)];have hsl:dm E 9 (ak j9) (some (.int .i64 (.ofNat (e.length-1+1)))) none none=some (ak []):=by rw[e1];unfold dm;rw[u.u9];rfl
   rw[hsl,aK,aK,I.idx _ _ _ _ hq,show Lib.indexByte [] (e[e.length-1]'hlt)=Int.negSucc 0 from rfl,U1 u3,decide_eq_true (by decide),ah,aA];exact⟨h,rfl,Fr.refl _ _⟩
  ·rw[fj u3 (show 2<=e.length-1 by omega),ah,ax];exact⟨h,rfl,Fr.refl _ _⟩
end
section
def gZ (b:UInt8):Bool:=b==32||b==10
def AR (s:Bs) (pos:Nat) (h:pos<s.length):
  (s[pos].toNat<128/\Utf8.decode ⟨⟨s⟩⟩ pos=(s[pos].toNat,1)) \/
  (128<=s[pos].toNat/\128<=(Utf8.decode ⟨⟨s⟩⟩ pos).1/\Utf8.valid ((Utf8.decode ⟨⟨s⟩⟩ pos).1:Int)=true/\1<=(Utf8.decode ⟨⟨s⟩⟩ pos).2/\pos+(Utf8.decode ⟨⟨s⟩⟩ pos).2<=s.length/\∀j,j<(Utf8.decode ⟨⟨s⟩⟩ pos).2->∀b,s[pos+j]?=some b->gZ b=false):=by
 have hg:∀j b,s[pos+j]?=some b->s.getD (pos+j) 0=b:=λj b hb=>by rw[Jc,hb];rfl
 have g0:s.getD pos 0=s[pos]:=by rw[Jc,Jn h];rfl
 have hsep:∀b:UInt8,128<=b.toNat->gZ b=false:=λb hb=>by unfold gZ;rw[show (b==32)=false from JM.2 λe=>by subst e;exact absurd hb (by decide),show (b==10)=false from JM.2 λe=>by subst e;exact absurd hb (by decide)];rfl
 have val:∀n:Nat,(n<55296 \/ 57344<=n)->n<=1114111->Utf8.valid (n:Int)=true:=λn h1 h2=>by unfold Utf8.valid;simp only[J4,Ja,Kh];omega
 have hdec:Utf8.decode ⟨⟨s⟩⟩ pos=Lib.decodeN (s.length-pos) (s.getD pos 0).toNat (s.getD (pos+1) 0).toNat (s.getD (pos+2) 0).toNat (s.getD (pos+3) 0).toNat:=Lib.decode_N ⟨⟨s⟩⟩ pos;rw[hdec];have hb:=s[pos].toNat_lt;rcases Lib.decodeN_shape (s.length-pos) (s.getD pos 0).toNat (s.getD (pos+1) 0).toNat (s.getD (pos+2) 0).toNat (s.getD (pos+3) 0).toNat with ⟨c,e⟩ | ⟨c0,c1,c2,c3,e⟩ | ⟨c0,c1,c2,c3,c4,c5,e⟩ | ⟨c0,c1,c2,c3,c4,c5,c6,e⟩ | e
 ·left;rw[g0] at c e;rw[g0];exact⟨c,e⟩
 ·right;rw[e];have hx:∀j,j<2->128<=(s.getD (pos+j) 0).toNat:=λj hj=>by
   match j,hj with
   | 0,_=>rw[Kp];omega
   | 1,_=>omega
  refine⟨by rw[<-g0];omega,by simp only;omega,val _ (.inl (by simp only;omega)) (by simp only;omega),by simp only;omega,by simp only;omega,λj hj b hb=>hsep b ?_⟩;rw[<-hg j b hb];exact hx j hj
 ·right;rw[e];have hx:∀j,j<3->128<=(s.getD (pos+j) 0).toNat:=λj hj=>by
   match j,hj with
   | 0,_=>rw[Kp];omega
   | 1,_=>omega
   | 2,_=>omega
  refine⟨by rw[<-g0];omega,by simp only;omega,val _ c5 (by simp only;omega),by simp only;omega,by simp only;omega,λj hj b hb=>hsep b ?_⟩;rw[<-hg j b hb];exact hx j hj
 ·right;rw[e];have hx:∀j,j<4->128<=(s.getD (pos+j) 0).toNat:=λj hj=>by
   match j,hj with
   | 0,_=>rw[Kp];omega
   | 1,_=>omega
   | 2,_=>omega
   | 3,_=>omega
  refine⟨by rw[<-g0];omega,by simp only;omega,val _ (.inr (by simp only;omega)) c6,by simp only;omega,by simp only;omega,λj hj b hb=>hsep b ?_⟩;rw[<-hg j b hb];exact hx j hj
 ·by_cases q:(s.getD pos 0).toNat<128
  ·rw[Lib.decodeN_ascii _ _ _ _ _ q] at e;have:=congrArg Prod.fst e;simp only at this;omega
  ·right;rw[e];refine⟨by rw[<-g0];omega,by decide,by decide,by decide,by simp only;omega,λj hj b hb=>hsep b ?_⟩;rw[<-hg j b hb];have hj:j<1:=hj;obtain rfl:j=0:=by omega
   rw[Kp];omega
def Ix {h:H} {ib pos:Nat} {s:Bs} (hq:hget h ib=.iter s pos) (hp:pos<s.length):
  iR h (.pointer (some ⟨ib,0,none⟩))=some (.tuple ⟨[.bool true,.int .i64 (.ofNat pos),.int .i32 (.ofNat (Utf8.decode ⟨⟨s⟩⟩ pos).1)]⟩,hset h ib (.iter s (pos+(Utf8.decode ⟨⟨s⟩⟩ pos).2))):=by
 rcases AR s pos hp with ⟨h1,e⟩ | ⟨h1,_⟩
 ·rw[e];exact nW hq hp h1
 ·rw[bv] at hq;have hb':Nat.blt s[pos].toNat 128=false:=dt (by omega);unfold iR;simp only[hq,JQ,Jo,JR hp,hb',JP,fi]
def aej (rc:RC) (hS:H):Prop:=∀(r:Nat) (h:H),bu hS h->h.next<=800000000 ->
 (∀b:UInt8,r=b.toNat->b.toNat<128->∀k:Value->H->R,rc 100 [ak j9,.int .i32 (.ofNat r)] h k=k (.int .i64 (Lib.indexByte j9 b)) h) /\
 (128<=r->Utf8.valid (r:Int)=true->∀k:Value->H->R,∃h',rc 100 [ak j9,.int .i32 (.ofNat r)] h k=k (.int .i64 (.negSucc 0)) h'/\Fr h h' 1)
def HW {b:UInt8}:(gZ b=true->∃n:Nat,Lib.indexByte j9 b=(n:Int))/\(gZ b=false->Lib.indexByte j9 b=-1):=by
 unfold gZ;by_cases q1:b=32
 ·subst q1;exact⟨λ_=>⟨0,rfl⟩,λh=>by simp at h⟩
 ·by_cases q2:b=10
  ·subst q2;exact⟨λ_=>⟨1,rfl⟩,λh=>by simp at h⟩
  ·refine⟨λh=>by simp[q1,q2] at h,λ_=>?_⟩;unfold j9 Lib.indexByte Lib.indexByte Lib.indexByte;rw[show ((32:UInt8)==b)=false from JM.2 (Ne.symm q1),show ((10:UInt8)==b)=false from JM.2 (Ne.symm q2)];rfl
variable {E : Env} (u : UT E) {rc : RC}
include u
theorem WS {hS:H} (hR:aej rc hS) {w:Bs} {ib:Nat} {a:Nat->Value} {bH:H} (ha:a bH.1=.pointer (some ⟨ib,0,none⟩)) (hSi:hS.next<=ib) (k:Value->H->R) (c:aa [4]->H->R) (X:R):∀(d pos N:Nat) (x:Value) (h:H),w.length<=pos+d->pos<=w.length->d<N->ib<h.next->h.next+d<=700000000->hget h ib=.iter w pos->bu hS h ->
  @loopF [4] (sG a bH rc (ak j9) E k c) N (x,()) h=X->∃h',dj ib h h' d/\(((w.drop pos).any gZ=true/\∃n:Nat,X=k (.int .i64 (.ofNat n)) h') \/ ((w.drop pos).any gZ=false/\∃x',X=c (x',()) h')):=by
 have u3:=u.u3;intro d
 induction d with
 | zero=> intro pos N x h hp hpl hN hib hn hi hq e;obtain⟨N',rfl⟩:∃N',N=N'+1:=⟨N-1,by omega⟩;rw[aT] at e;generalize @loopF [4] (sG a bH rc (ak j9) E k c) N'=L at e;unfold sG at e;rw[ha,cg (nr hi (by omega)),bg,bB,ah,ax] at e;refine⟨h,dj.refl _ _ _,.inr ⟨?_,x,e.symm⟩⟩;rw[List.drop_eq_nil_of_le (by omega)];rfl
 | succ d ih=>
  intro pos N x h hp hpl hN hib hn hi hq e;obtain⟨N',rfl⟩:∃N',N=N'+1:=⟨N-1,by omega⟩;rw[aT] at e;generalize hL:@loopF [4] (sG a bH rc (ak j9) E k c) N'=L at e;unfold sG at e;by_cases hlt:pos<w.length
  ·rw[ha,cg (Ix hi hlt),bg,bB,ah,aA] at e;dsimp only at e;rw[ah,bg,apG,bg,anV] at e;rcases AR w pos hlt with ⟨h1,e1⟩ | ⟨h1,h2,h3,h4,h5,h6⟩
   ·rw[e1] at e;have f1:dj ib h (hset h ib (.iter w (pos+1))) 0:=dj.set (Jd _) (by omega) _;have hi1:hget (hset h ib (.iter w (pos+1))) ib=.iter w (pos+1):=bj _ _ _ (by omega);have n1:(hset h ib (.iter w (pos+1))).next=h.next:=rfl;dsimp only at e;generalize hset h ib (.iter w (pos+1))=g1 at e f1 hi1 n1;rw[(hR w[pos].toNat g1 (hq.frB f1 hSi) (by omega)).1 w[pos] rfl h1] at e;rw[JR hlt,List.any_cons];cases hs:gZ w[pos] with
    | true=> obtain⟨n,hn1⟩:=HW.1 hs;rw[hn1,sP u3,decide_eq_true (by simp),ah,aA] at e;exact⟨g1,f1.mono (by omega),.inl ⟨rfl,pos,e.symm⟩⟩
    | false=> rw[HW.2 hs,sP u3,decide_eq_false (by decide),ah,ax] at e;obtain⟨h',f2,hh⟩:=ih (pos+1) N' x g1 (by omega) (by omega) (by omega) (by omega) (by omega) hi1 (hq.frB f1 hSi) (by rw[hL];exact e);exact⟨h',f1.trans f2 (by omega),by simpa using hh⟩
   ·generalize Utf8.decode ⟨⟨w⟩⟩ pos=dd at e h2 h3 h4 h5 h6;obtain⟨r,wd⟩:=dd;dsimp only at e h2 h3 h4 h5 h6;have f1:dj ib h (hset h ib (.iter w (pos+wd))) 0:=dj.set (Jd _) (by omega) _;have hi1:hget (hset h ib (.iter w (pos+wd))) ib=.iter w (pos+wd):=bj _ _ _ (by omega);have n1:(hset h ib (.iter w (pos+wd))).next=h.next:=rfl;generalize hset h ib (.iter w (pos+wd))=g1 at e f1 hi1 n1;obtain⟨g2,e2,f2⟩:=(hR r g1 (hq.frB f1 hSi) (by omega)).2 h2 h3 _;rw[e2,sP u3,decide_eq_false (by decide),ah,ax] at e;have hu2:=f2.ub;have hl2:=f2.le;obtain⟨h',f3,hh⟩:=ih (pos+wd) N' x g2 (by omega) (by omega) (by omega) (by omega) (by omega) ((f2.old _ (by omega)).trans hi1) ((hq.frB f1 hSi).trans f2.from) (by rw[hL];exact e);have hdrop:(w.drop pos).any gZ=(w.drop (pos+wd)).any gZ:=by
     have:w.drop pos=(w.drop pos).take wd++w.drop (pos+wd):=by rw[<-List.drop_drop,List.take_append_drop]
     rw[this,List.any_append];have h0:((w.drop pos).take wd).any gZ=false:=by rw[List.any_eq_false];intro b hb;obtain⟨j,hj⟩:=List.mem_iff_getElem?.1 hb;have hl:=(List.getElem?_eq_some_iff.1 hj).1;rw[List.length_take,List.length_drop] at hl;rw[List.getElem?_take_of_lt (by omega),List.getElem?_drop] at hj;rw[h6 j (by omega) b hj];simp
     rw[h0,Bool.false_or]
    rw[hdrop];exact⟨h',(f1.trans (f2.b (by omega)) (Jd _)).trans f3 (by omega),hh⟩
  ·rw[ha,cg (nr hi (by omega)),bg,bB,ah,ax] at e;refine⟨h,dj.refl _ _ _,.inr ⟨?_,x,e.symm⟩⟩;rw[List.drop_eq_nil_of_le (by omega)];rfl
theorem as8 {hS:H} (hR:aej rc hS) (h101:∀(n:Nat) (h:H) (k:Value->H->R),rc 101 [.int .i64 (.ofNat n)] h k=k (.bool (ble (8+1) n)) h) {w:Bs} (hw:w.length<=8) {h:H} (hq:bu hS h) (hn:h.next<=600000000) (k:Value->H->R) (X:R) (e:p79 E rc (ak w) (ak j9) h k=X):
  ∃(h':H) (z:Int),X=k (.int .i64 z) h'/\(w.any gZ=decide (0<=z)):=by
 have u3:=u.u3;unfold p79 at e;rw[mG,show ∀K:Value->R,binR (binC E .eql 9 false true) (ak j9) (.string ⟨⟨[]⟩⟩) K=K (.bool false) from λK=>rQ u.toUS] at e;rw[ah,ax] at e;dsimp only at e;rw[show aX E h 9 (ak j9)=some (.int .i64 (.ofNat 2)) from js u.toUS,aK,j1 u3,show beq 2 1=false from rfl,ah,ax] at e;dsimp only at e;rw[show aX E h 9 (ak w)=some (.int .i64 (.ofNat w.length)) from js u.toUS,aK,h101,dt (show w.length<8+1 by omega),ah,ax] at e;dsimp only at e;rw[pZ (kz u.toUS w),aj (show h.1<=1000000000 by show h.next<=_;omega),aD,ah] at e;obtain⟨h',f,hh⟩:=WS u hR (a:=λid=>ptr id 0) (bH:=h) (ib:=h.next) rfl hq.le k _ X w.length 0 cM _ (ag h (.iter w 0)) (by omega) (by omega) (by unfold cM;omega) (show h.next<h.next+1 by omega) (show h.next+1+w.length<=_ by omega) (az _ _ (by omega)) (hq.trans (Fr.push _ (by omega)).from) e;rw[List.drop_zero] at hh;rcases hh with ⟨h1,n,hx⟩ | ⟨h1,x',hx⟩
 ·exact⟨h',n,hx,by rw[h1,decide_eq_true (by omega)]⟩
 ·exact⟨h',.negSucc 0,hx,by rw[h1];rfl⟩
end
end Go.Ev
