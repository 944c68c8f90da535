/-
  WHETHER A SHORT STRING HOLDS A BLANK OR A LINE FEED, rune by rune, in abstract memory.
-/
import Derived.Test.YtglmdggjibmjcaaGreatDoorSc
import Derived.Laws.Runes
import Derived.Lib.IndexAny
noncomputable section
set_option linter.unusedVariables false
set_option linter.unusedSimpArgs false
set_option maxRecDepth 100000
open Nat (ble beq)
namespace Go.Ev
open Go F Go.Proofs
section
structure UB (E:Env):Prop where
 u3:E.und 3=some (.int .i64)
 u5:E.und 5=some (.int .u8)
 u9:E.und 9=some .string
 u41:E.und 41=some (.pointer 44)
 z44:E.size 44=some (1+1)
 u100:E.und 100=some .unsafePointer
 u75:E.und 75=some (.pointer 5)
 z5:E.size 5=some 1
 l42:∃i,EI E 42 5 1 i [.int .u8 (.ofNat 0)]/\i.bytes=1
structure BI (h:H) (bb:Nat) (s:List UInt8):Prop where
 ex:∃c v,hget h bb=.row 44 2 false false 0 c/\((getF c 0=.pointer none/\s=[]) \/ getF c 0=.pointer (some ⟨bb,0,none⟩))/\getF c 1=v/\OL 5 1 h v s.length (s.map cg)/\∀p,fX v=some p->bb<p
 lt:bb<h.next
theorem BI.new {h:H} (hn:h.next<=1000000000):BI (ae h (.row 44 2 false false 0 (T.ofList unk [.pointer none,.slice none 0 0]))) h.next []:=
 ⟨⟨_,.slice none 0 0,aB _ _ hn,.inl ⟨rfl,rfl⟩,rfl,.nil,λp hp=>(nomatch hp)⟩,Nat.lt_succ_self _⟩
variable {E : Env} (u : UB E) {rc : RC}
include u
theorem aom (h55:∀v h k,rc 55 [v] h k=k v h) {h:H} {bb:Nat} {s:List UInt8} (b:BI h bb s) (hn:h.next<=900000000):
  ∃h',(∀k,p27 E rc (.pointer (some ⟨bb,0,none⟩)) h k=k (.tuple ⟨[]⟩) h')/\h'.next=h.next/\(∀id,id≠bb->hget h' id=hget h id) /\
   ∃c v,hget h' bb=.row 44 2 false false 0 c/\getF c 0=.pointer (some ⟨bb,0,none⟩)/\getF c 1=v/\OL 5 1 h' v s.length (s.map cg)/\∀p,fX v=some p->bb<p:=by
 obtain⟨⟨c,v,hq,h0,h1,o,hv⟩,hlt⟩:=b;have hqr:∀k,onRow (hget h bb) k=k 44 2 false false 0 c:=λk=>by rw[hq];rfl
 rcases h0 with ⟨h0,hs⟩ | h0
 ·
  have e1:∀cx cy k,binR (binC E .eql 41 cx cy) (getF c 0) (.pointer none) k=k (.bool true):=λcx cy k=>by rw[h0];exact uk u.u41
  refine⟨hset h bb (.row 44 2 false false 0 (du 40 c 0 (.pointer (some ⟨bb,0,none⟩)))),λk=>?_,rfl,λid hid=>by rw[bU _ _ _ _ (by omega),if_neg hid],du 40 c 0 (.pointer (some ⟨bb,0,none⟩)),v,bp _ _ _ (by omega),?_,?_,?_,hv⟩
  ·have hup:=yY (h:=h) (b:=bb) u.u41 u.u100 u.z44 hq (by omega);have hdown:=qS (h:=h) (b:=bb) u.u100 u.u41 u.z44 hq (by omega);unfold p27;simp (disch:=first | omega | (simp only[Nat.add_eq,Nat.mul_eq,Nat.succ_eq_add_one];omega)) only[↓aX,↓au,↓hqr,↓am,↓e1,↓ag,↓az];rw[hup,aA,h55,hdown,aA];simp (disch:=first | omega | (simp only[Nat.add_eq,Nat.mul_eq,Nat.succ_eq_add_one];omega)) only[↓aX,↓au,↓nz,↓hqr];show letH (hset h bb (.row 44 2 false false 0 (putF c 0 [.pointer (some ⟨bb,0,none⟩)]))) _=_;rw[aE];rfl
  ·rw[iB _ _ _ _ (by omega),if_pos rfl]
  ·rw[iB _ _ _ _ (by omega),if_neg (by omega),h1]
  ·exact o.keep (Nat.le_refl _) λp hp _=>by rw[bU _ _ _ _ (by omega),if_neg (by have:=hv p hp;omega)]
 ·have e1:∀cx cy k,binR (binC E .eql 41 cx cy) (getF c 0) (.pointer none) k=k (.bool false):=λcx cy k=>by rw[h0];exact j3 u.u41
  have e2:∀cx cy k,binR (binC E .neq 41 cx cy) (getF c 0) (.pointer (some ⟨bb,0,none⟩)) k=k (.bool false):=λcx cy k=>by rw[h0];exact vM u.u41 u.z44
  refine⟨h,λk=>?_,rfl,λ_ _=>rfl,c,v,hq,h0,h1,o,hv⟩;unfold p27;simp (disch:=first | omega | (simp only[Nat.add_eq,Nat.mul_eq,Nat.succ_eq_add_one];omega)) only[↓aX,↓au,↓hqr,↓am,↓e1,↓e2,↓ag,↓ar]
omit u in
theorem mf:∀s:List UInt8,cu (s.map cg)=some s
 | []=>rfl
 | b :: l=>by have hb:Nat.blt b.toNat 256=true:=aJ b.toNat_lt;show (bif Nat.blt b.toNat 256 then (match cu (l.map cg) with | some r=>some (UInt8.ofNat b.toNat :: r) | none=>none) else none)=_;rw[hb,mf l];simp
theorem apg {h:H} {bb:Nat} {s:List UInt8} (b:BI h bb s) (hne:s ≠ []) (hn:h.next<=900000000) (hs:s.length<=500000000):
  ∃h',(∀k,p17 E rc (.pointer (some ⟨bb,0,none⟩)) h k=k (.string ⟨⟨s⟩⟩) h')/\h'.next=h.next/\∀id,id<bb->hget h' id=hget h id:=by
 obtain⟨⟨c,v,hq,h0,h1,o,hv⟩,hlt⟩:=b;have hqr:∀k,onRow (hget h bb) k=k 44 2 false false 0 c:=λk=>by rw[hq];rfl
 have hh:(H.mk h.1 h.2)=h:=rfl;have hpos:0<s.length:=List.length_pos_iff.2 hne;generalize hL:s.map cg=L at o;generalize hnl:s.length=n at o;cases o with
 | nil=>omega
 | row hb hr hl hc hp=>
  rename_i sb fz op cs;subst hnl;have hcl:aY cs 0 s.length=s.map cg:=by rw[Nat.mul_one] at hl;rw[hL,<-hl];exact dD L cs 0 λj hj=>by rw[Nat.zero_add,<-bF,hc j hj]
  have hus:ba E h .unsafeString [.pointer (some ⟨sb,0,none⟩),.int .i64 (.ofNat s.length)] [75,3]=some (.string ⟨⟨s⟩⟩,hset h sb (.row 5 (s.length*1) op false s.length cs)):=by rw[bi] at hr;obtain⟨m,hm⟩:∃m,s.length=m+1:=⟨s.length-1,by omega⟩;have hby:=mf s;rw[<-hcl,hm] at hby;rw[hm] at hr ⊢;have g1:ble (m+1) ((m+1)*1)=true:=aJ (by omega);have g2:ble m 1000000000=true:=aJ (by omega);have g3:ble 0 (m+1)=true:=aJ (by omega);rw[eD];simp only[ba,u.u75,hr,u.z5,Nat.beq_refl,g1,g2,g3,Bool.and_self,cond_true,hby]
  refine⟨hset h sb (.row 5 (s.length*1) op false s.length cs),λk=>?_,rfl,λid hid=>by rw[bU _ _ _ _ (by omega),if_neg (by have:=hv sb rfl;omega)]⟩;unfold p17;rw[hh];simp (disch:=first | omega | (simp only[Nat.add_eq,Nat.mul_eq,Nat.succ_eq_add_one];omega)) only[↓am,↓aE,↓aX,↓au,↓hqr];rw[show Nat.add 0 1=1 from rfl,h1,kO (by cases op <;> simp[Bool.toNat] <;> omega)];simp (disch:=first | omega | (simp only[Nat.add_eq,Nat.mul_eq,Nat.succ_eq_add_one];omega)) only[↓aA,↓aX,↓au,↓hqr,↓am];rw[bd,bP];dsimp only;rw[hus];rfl
end
theorem ES {h:H} {z:List Value} (x:Bs):iv h 1 z false (aj x)=some (x.length,x.map cg):=by have h1:ble x.length x.length=true:=aJ (Nat.le_refl _);simp only[iv,cond_false,ie,aj,kq,h1,Nat.beq_refl,Bool.and_self,cond_true,List.take_length];rfl
theorem qB:∀x:Bs,(x.map cg).all cell1=true
 | []=>rfl
 | b :: x=>by rw[List.map_cons,List.all_cons,qB x];rfl
theorem Md {E:Env} {n:Nat} {i:TypeInfo} (T1:EI E 42 5 1 i [.int .u8 (.ofNat 0)]) (hi:i.bytes=1) (u9:E.und 9=some .string) {h:H} {v:Value} {L:List Value} (o:OL 5 1 h v n L) {x:Bs} (hx:x ≠ []) (hn:h.next+1<=1000000000) (hn2:n+x.length<=400000000):
  ∃v' h',ba E h .append [v,aj x] [42,9]=some (v',h')/\OL 5 1 h' v' (n+x.length) (L++x.map cg)/\h'.next=h.next+1/\fX v'=some h.next/\∀id,id<h.next->fX v≠some id->hget h' id=hget h id:=by
 have hpos:0<x.length:=List.length_pos_iff.2 hx;have hroom:room h=true:=aJ (by omega);have hnum:gu E [9]=some false:=by simp only[gu,u9]
 have hss:i.size=0+1:=T1.sz;have hnews:=ES (h:=h) (z:=[.int .u8 (.ofNat 0)]) x;have b1:ble ((n+x.length)*(1+1)) 1000000000=true:=aJ (by omega);have b2:ble ((n+x.length)*(0+1)) 1000000000=true:=aJ (by omega);have hzb:beq ([.int .u8 (.ofNat 0)]:List Value).length (0+1)=true:=rfl;have hlx:(x.map cg).length=x.length:=List.length_map ..;cases o with
 | nil=>
  have b1':ble ((0+x.length)*(1+1)) 1000000000=true:=b1;have b2':ble ((0+x.length)*(0+1)) 1000000000=true:=b2;have g0:ble (0+x.length) 0=false:=cz (by omega);have e0:ba E h .append [.slice none 0 0,aj x] [42,9]=some (.slice (some ⟨h.next,0,none⟩) x.length (2*x.length+1),ae h (.row 5 x.length true false 0 (T.ofList unk (x.map cg)))):=by rw[cV];simp only[ba,hnum,en,T1.u,T1.inf,T1.zc,hss,hnews,hi,b1',b2',hzb,Bool.and_self,cond_true,Nat.zero_div,g0,cond_false,hroom,Nat.beq_refl];simp only[Nat.zero_add,Nat.mul_one]
  refine⟨_,_,e0,?_,rfl,rfl,λid hid _=>bu _ _ (by omega) hid⟩;have hq:hget (ae h (.row 5 x.length true false 0 (T.ofList unk (x.map cg)))) h.next=.row 5 ((0+x.length)*1) true false 0 (T.ofList unk (x.map cg)):=by rw[aB _ _ (by omega),Nat.zero_add,Nat.mul_one]
  have:=OL.row (e:=5) (s:=1) (n:=0+x.length) (op:=true) (fz:=0) (L:=[]++x.map cg) (show h.next<h.next+1 by omega) hq (by simp) (λj hj=>by rw[aH,List.nil_append]) (by omega);rw[Nat.zero_add] at this ⊢;exact this
 | row hb hq hL hc hp=>
  rename_i b fz op cells;have hqp:h.objs.get b=.row 5 (n*1) op false 0 cells:=by rw[<-bi,hq]
  have g1:ble (n+x.length) n=false:=cz (by omega);have hl1:∀op:Bool,(2*n+op.toNat) / 2=n:=λop=>by cases op <;> simp[Bool.toNat] <;> omega
  cases op with
  | false=>
   have h2:beq ((2*n+Bool.toNat false)%2) 0=true:=fU (by simp[Bool.toNat]);have h3:ble (0+n*(0+1)) (n*1)=true:=aJ (by omega);have e0:ba E h .append [.slice (some ⟨b,0,none⟩) n (2*n+Bool.toNat false),aj x] [42,9] =
     some (.slice (some ⟨h.next,0,none⟩) (n+x.length) (2*(n+x.length)+1),ae h (.row 5 ((n+x.length)*1) true false 0 (T.ofList unk (ac cells (n*1) 0++x.map cg)))):=by
    rw[cV];simp only[ba,Option.isSome_none,hnum,en,T1.u,T1.inf,T1.zc,hss,hnews,hi,b1,b2,hzb,Bool.and_self,cond_true,cond_false,hl1,g1,hroom,hqp,h2,h3,ez]
   refine⟨_,_,e0,?_,rfl,rfl,λid hid _=>bu _ _ (by omega) hid⟩;have hq2:hget (ae h (.row 5 ((n+x.length)*1) true false 0 (T.ofList unk (ac cells (n*1) 0++x.map cg)))) h.next=.row 5 ((n+x.length)*1) true false 0 (T.ofList unk (ac cells (n*1) 0++x.map cg)):=aB _ _ (by omega);refine .row (n:=n+x.length) (op:=true) (fz:=0) (show h.next<h.next+1 by omega) hq2 (by rw[List.length_append,hL,hlx];omega) (λj hj=>?_) (by omega);have hcl:ac cells (n*1) 0=L:=by rw[ez,<-hL];exact dD L cells 0 λk hk=>by rw[Nat.zero_add,<-bF,hc k hk]
   rw[aH,hcl]
  | true=>
   have h2:beq ((2*n+Bool.toNat true)%2) 0=false:=dH (by simp[Bool.toNat]);have h4:beq n n=true:=Nat.beq_refl n;have h5:beq (n*(0+1)) (n*1)=true:=fU (by omega);have h6:ble 0 (n*1)=true:=aJ (Nat.zero_le _);have h7:beq 5 5=true:=rfl;have h8:=qB x;have e0:ba E h .append [.slice (some ⟨b,0,none⟩) n (2*n+Bool.toNat true),aj x] [42,9] =
     some (.slice (some ⟨h.next,0,none⟩) (n+x.length) (2*(n+x.length)+1),ae (hset h b .dead) (.row 5 ((n+x.length)*1) true false 0 (putCells cells (n*1) (x.map cg)))):=by
    rw[cV,eD];simp only[ba,Option.isSome_none,hnum,en,T1.u,T1.inf,T1.zc,hss,hnews,hi,b1,b2,hzb,Bool.and_self,cond_true,cond_false,hl1,g1,hroom,hqp,h2,h4,h5,h6,h7,h8,Nat.beq_refl,Bool.not_false]
   have hnx2:(hset h b .dead).next=h.next:=rfl;refine⟨_,_,e0,?_,rfl,rfl,λid hid hne=>?_⟩
   ·have hq2:hget (ae (hset h b .dead) (.row 5 ((n+x.length)*1) true false 0 (putCells cells (n*1) (x.map cg)))) h.next=.row 5 ((n+x.length)*1) true false 0 (putCells cells (n*1) (x.map cg)):=by rw[<-hnx2,aB _ _ (by rw[hnx2];omega)]
    refine .row (n:=n+x.length) (op:=true) (fz:=0) (show h.next<h.next+1 by omega) hq2 (by rw[List.length_append,hL,hlx];omega) (λj hj=>?_) (by omega);rw[bF,bw _ _ _ (by rw[hlx];omega)];rw[List.length_append] at hj;by_cases q:j<L.length
    ·rw[if_neg (by omega),<-bF,hc j q,List.getD_eq_getElem?_getD,List.getD_eq_getElem?_getD,List.getElem?_append_left q]
    ·rw[if_pos (by omega),List.getD_eq_getElem?_getD,List.getD_eq_getElem?_getD,List.getElem?_append_right (by omega),hL]
   ·rw[bu _ _ (by rw[hnx2];omega) (by rw[hnx2];omega),bU _ _ _ _ (by omega),if_neg (λe=>hne (by rw[e];rfl))]
theorem aqH {E:Env} (u:UB E) {rc:RC} (h27:∀{h:H} {bb:Nat} {s:List UInt8},BI h bb s->h.next<=900000000->∃h',(∀k,rc 27 [.pointer (some ⟨bb,0,none⟩)] h k=k (.tuple ⟨[]⟩) h')/\h'.next=h.next/\(∀id,id≠bb->hget h' id=hget h id) /\
   ∃c v,hget h' bb=.row 44 2 false false 0 c/\getF c 0=.pointer (some ⟨bb,0,none⟩)/\getF c 1=v/\OL 5 1 h' v s.length (s.map cg)/\∀p,fX v=some p->bb<p)
  {h:H} {bb:Nat} {s:List UInt8} (b:BI h bb s) (hn:h.next<=800000000) {x:Bs} (hx:x ≠ []) (hs:s.length+x.length<=400000000):
  ∃h',(∀k,p14 E rc (.pointer (some ⟨bb,0,none⟩)) (aj x) h k=k (.tuple ⟨[.int .i64 (.ofNat x.length),.nilIface]⟩) h')/\BI h' bb (s++x)/\h'.next=h.next+1/\∀id,id<bb->hget h' id=hget h id:=by
 obtain⟨i,T1,hi⟩:=u.l42;obtain⟨h1,e1,n1,k1,c,v,hq,h0,hv1,o,hv⟩:=h27 b (by omega);have hlt:=b.lt;obtain⟨v2,h2,e2,o2,n2,b2,f2⟩:=Md T1 hi u.u9 o hx (by omega) hs;have hqr:∀k,onRow (hget h1 bb) k=k 44 2 false false 0 c:=λk=>by rw[hq];rfl
 have hq2:hget h2 bb=.row 44 2 false false 0 c:=by rw[f2 bb (by omega) (λe=>Nat.lt_irrefl _ (hv bb e)),hq]
 have hpx:0<x.length:=List.length_pos_iff.2 hx;have hcl:cell1F v2=true:=by generalize s.length+x.length=m at o2;generalize List.map cg s++List.map cg x=M at o2;cases o2 <;> rfl
 have hoc:∀k,onCells v2 k=k [v2]:=λk=>by generalize s.length+x.length=m at o2;generalize List.map cg s++List.map cg x=M at o2;cases o2 <;> rfl
 have h9:E.und 9=some .string:=u.u9;refine⟨hset h2 bb (.row 44 2 false false 0 (putF c 1 [v2])),λk=>?_,⟨⟨putF c 1 [v2],v2,bp _ _ _ (by omega),.inr ?_,?_,?_,?_⟩,?_⟩,?_,λid hid=>?_⟩
 ·unfold p14;rw[e1];simp only[↓aX,↓au,↓hqr];rw[aO (show ble (Nat.succ (Nat.add 0 1)) 2=true from rfl),show getF c (Nat.add 0 1)=v from hv1,cB e2];simp only[↓aX,↓au,↓hoc];have hst:=rQ hq2 (show 1+1<=2 by omega) (by omega) hcl (λt=>bindO (aZ E t 9 (aj x)) λt1=>ifB (nT [t1,.nilIface]) (k (.tuple ⟨[t1,.nilIface]⟩) t));refine Eq.trans hst ?_;rw[show aZ E (hset h2 bb (.row 44 2 false false 0 (putF c 1 [v2]))) 9 (aj x)=some (.int .i64 (.ofNat x.length)) by unfold aZ;rw[h9];rfl,aA];rfl
 ·rw[dN _ (by omega),if_neg (by omega),h0]
 ·rw[dN _ (by omega),if_pos rfl]
 ·rw[List.length_append,List.map_append];exact o2.keep (Nat.le_refl _) λp hp _=>by rw[b2] at hp;obtain rfl:=Option.some.inj hp;rw[bU _ _ _ _ (by omega),if_neg (by omega)]
 ·intro p hp;rw[b2] at hp;obtain rfl:=Option.some.inj hp;omega
 ·show bb<h2.next;omega
 ·show h2.next=_;omega
 ·rw[bU _ _ _ _ (by omega),if_neg (by omega),f2 id (by omega) (λe=>by have:=hv id e;omega),k1 id (by omega)]
theorem apl {E:Env} {u42:E.und 42=some (.slice 5)} {rc:RC} {h:H} {bb:Nat} {s:Bs} (b:BI h bb s) (k:Value->H->R):p16 E rc (.pointer (some ⟨bb,0,none⟩)) h k=k (.int .i64 (.ofNat s.length)) h:=by
 obtain⟨⟨c,v,hq,h0,h1,o,hv⟩,hlt⟩:=b;have hqr:∀k,onRow (hget h bb) k=k 44 2 false false 0 c:=λk=>by rw[hq];rfl
 unfold p16;simp only[↓aX,↓au,↓hqr];rw[aO (show ble (Nat.succ (Nat.add 0 1)) 2=true from rfl),bd,show getF c (Nat.add 0 1)=v from h1];generalize hL:s.map cg=L at o;generalize hnl:s.length=n at o;cases o with
 | nil=>
  rw[oT];have:aZ E h 42 (.slice none 0 0)=some (.int .i64 (.ofNat 0)):=by unfold aZ;rw[u42];rfl
  rw[this];rfl
 | row=>rw[bP]
theorem lX (l:List Value):allF (λy=>cell1F y) l=l.all cell1F:=by
 induction l with
 | nil=>rfl
 | cons v l ih=> show Bool.rec (motive:=λ_=>Bool) false (allF (λy=>cell1F y) l) (cell1F v)=_;rw[List.all_cons,ih];cases cell1F v <;> rfl
theorem QS {h:H} {ty b:Nat} {cells:T Value} {L:List Value} (hq:hget h b=.row ty 9 false false 0 cells) (hL:L.length=9) (h1:L.all cell1F=true) (K:H->R):
  (onRow (hget h b) λc d e f g h'=>ifB (notB f) (ifB (beq (lenF L) 9) (ifB (ble g 0) (ifB (ble 9 d) (ifB (ble d 1000000000) (ifB (allF (λy=>cell1F y) L) (letH (hset h b (.row c d e false g (putF h' 0 L))) K)))))))=K (hset h b (.row ty 9 false false 0 (putF cells 0 L))):=by
 rw[hq,bV,aO (c:=notB false) rfl,aO (c:=beq (lenF L) 9) (by rw[cC,hL];rfl),am (Nat.zero_le _),am (Nat.le_refl _),am (by omega),aO (by rw[lX,h1]),aE]
theorem nc (cells:T Value) {L:List Value} (hl:L.length=9):ac (putF cells 0 L) 9 0=L:=by rw[ez,<-hl];refine dD L _ 0 λi hi=>?_;rw[fv,bw _ _ _ (by omega),if_pos (by omega)];simp
theorem WL.cellsV {h:H} {von vtx:Value} {l m:List Bs} (o1:WL h von l) (o2:WL h vtx m) (ln:Int) (c:dj):(aL ln c von vtx).all cell1F=true:=by have z1:=o1.cell1;have z2:=o2.cell1;unfold aL aj;simp only[List.all_cons,z1,z2];rfl
theorem ata {E:Env} (u:UP E) {rc:RC} {hS:H} (u63:E.und 63=some (.slice 67)) (W:Jq rc hS) {h:H} (hSh:bJ hS h) {c:dj} (C:vR c) {ln:Int} {von vtx:Value} (o1:WL h von c.on) (o2:WL h vtx c.texts) (c1:cL von) (c2:cL vtx) (hn:h.next<=500000000) (k:Value->H->R) (X:R)
  (e:p15 E rc (.agg ⟨aL ln c von vtx⟩) h k=X):∃h',X=k (.tuple ⟨[aj (dE c).1,.bool (dE c).2]⟩) h'/\Fr h h' 9100:=by
 have u3:=u.u3;have u5:=u.u5;have ha:allF (λb=>cell1F b) (aL ln c von vtx)=true:=by rw[lX];exact o1.cellsV o2 ln c
 unfold p15 at e;rw[bW,aO ha,am (show h.1<=1000000000 by show h.next<=_;omega),aE,show lenF (aL ln c von vtx)=9 from rfl] at e;have f1:Fr h (ae h (.row 39 9 false false 0 (T.ofList unk (aL ln c von vtx)))) 1:=Fr.push _ (by omega);have g1:hget (ae h (.row 39 9 false false 0 (T.ofList unk (aL ln c von vtx)))) h.1=.row 39 9 false false 0 (T.ofList unk (aL ln c von vtx)):=aB _ _ (by show h.next<=_;omega);have n1:(ae h (.row 39 9 false false 0 (T.ofList unk (aL ln c von vtx)))).next=h.next+1:=rfl;generalize ae h (.row 39 9 false false 0 (T.ofList unk (aL ln c von vtx)))=h1 at e f1 g1 n1;have gc1:getF (T.ofList unk (aL ln c von vtx)) 1=.int .u8 (.ofNat c.op):=rfl;have gc7:getF (T.ofList unk (aL ln c von vtx)) 7=.int .u8 (.ofNat c.kind):=rfl;have cv:∀(n:Nat) (hh:H) (K:Value->R),n<=255->(onNat (.int .u8 (.ofNat n)) (bindO (aQ E hh 5 3 (.int .u8 (.ofNat n))) K) λf=>@Bool.rec (λ_=>R) (bindO (aQ E hh 5 3 (.int .u8 (.ofNat n))) K) (K (.int .i64 (.ofNat f))) (ble f 9223372036854775807))=K (.int .i64 (.ofNat n)):=λn hh K hb=>by rw[bK,aJ (show n<=9223372036854775807 by omega)]
 have hop:=C.op;have hkd:=C.kd;have q1:∀K,onRow (hget h1 h.1) K=K 39 9 false false 0 (T.ofList unk (aL ln c von vtx)):=λK=>by rw[g1];rfl
 rw[am (show h1.1<=1000000000 by show h1.next<=_;omega),aE,FU] at e;simp only[↓q1] at e;rw[aO (show ble 2 9=true from rfl),bd] at e;unfold Dz at e;rw[gc1,cv _ _ _ hop,W.rows _ _ (by omega),aO (dQ _)] at e;have f2:Fr h1 (ae h1 nL) 1:=Fr.push _ (by omega);have n2:(ae h1 nL).next=h1.next+1:=rfl;generalize ae h1 nL=h2 at e f2 n2;have q2:∀K,onRow (hget h2 h.1) K=K 39 9 false false 0 (T.ofList unk (aL ln c von vtx)):=λK=>by rw[f2.old _ (by show h.next<h1.next;omega),g1];rfl
 simp only[↓q2] at e;rw[aO (show ble 2 9=true from rfl),gc1,aO (fB _ _),bd,cv _ _ _ hop,aO (fB _ _),bd,bP] at e;dsimp only at e;rw[jj u3,bd] at e;have fh2:Fr h h2 2:=f1.trans f2 (by omega);by_cases qo:41<=c.op
 ·have hlt:dE c=([],false):=by unfold dE;rw[if_pos (.inl qo)]
  rw[hlt];rw[aJ qo] at e;simp only[yV,zv,↓bd,↓aK,↓ag,↓bT,↓az,show ai undef undef=true from rfl,↓bI] at e;exact⟨h2,e.symm,fh2.mono (by omega)⟩
 ·rw[cz (show c.op<41 by omega)] at e;simp only[↓cS,↓bd,zv,↓au,↓q2] at e;rw[aO (show ble (Nat.succ 7) 9=true from rfl),gc7] at e;simp only[yV,↓cS,↓bd] at e;rw[cv _ _ _ hkd,aK,W.kinds _ _ (by omega)] at e;have f3:Fr h2 (ae h2 (.row 9 5 false false 0 (T.ofList unk (dk.map aj)))) 1:=Fr.push _ (by omega);have n3:(ae h2 (.row 9 5 false false 0 (T.ofList unk (dk.map aj)))).next=h2.next+1:=rfl;generalize ae h2 (.row 9 5 false false 0 (T.ofList unk (dk.map aj)))=h3 at e f3 n3;have fh3:Fr h h3 3:=fh2.trans f3 (by omega);have q3:∀K,onRow (hget h3 h.1) K=K 39 9 false false 0 (T.ofList unk (aL ln c von vtx)):=λK=>by rw[f3.old _ (by show h.next<h2.next;omega),f2.old _ (by show h.next<h1.next;omega),g1];rfl
  simp only[↓au,↓q3,↓bd] at e;rw[aO (dQ _),aO (show ble (Nat.succ 7) 9=true from rfl),gc7,aO (fB _ _),cv _ _ _ hkd,aO (fB _ _),bP] at e;simp only[jj u3,↓ar,↓ag] at e;by_cases qk:5<=c.kind
  ·have hlt:dE c=([],false):=by unfold dE;rw[if_pos (.inr qk)]
   rw[hlt];rw[aJ qk,az] at e;exact⟨h3,e.symm,fh3.mono (by omega)⟩
  ·rw[cz (show c.kind<5 by omega),ar] at e;obtain⟨h4,e4,f4⟩:=OD u W (hSh.trans fh3.from) C (o1.fr fh3) (o2.fr fh3) c1 c2 (by omega) (by omega) (ch:=h) ((f3.old _ (by show h.next<h2.next;omega)).trans ((f2.old _ (by show h.next<h1.next;omega)).trans g1)) (by show h.next<h3.next;omega) (by omega) k _ X e;exact⟨h4,e4,fh3.trans f4 (by omega)⟩
section
inductive CW (W:H->Value->List Bs->Prop) (h:H):Value->List dj->Prop
 | nil:CW W h (.slice none 0 0) []
 | row {b o e m c fz:Nat} {op ro:Bool} {cells:T Value} {l:List dj} (hb:b<h.next) (hq:l ≠ []->hget h b=.row e m op ro fz cells) (hm:o+l.length*9<=m)
   (hc:∀i,(hi:i<l.length)->i<1002->∃ln von vtx,ac cells 9 (o+i*9)=aL ln l[i] von vtx/\W h von l[i].on/\W h vtx l[i].texts):CW W h (.slice (some ⟨b,o,none⟩) l.length c) l
def jG (W:H->Value->List Bs->Prop):Prop:=(∀h h' v l,W h v l->bJ h h'->W h' v l)/\∀h v l,W h v l->WL h v l
def Ew (rc:RC) (hS:H) (W:H->Value->List Bs->Prop):Prop:=∀(c:dj) (ln:Int) (von vtx:Value) (h:H) (k:Value->H->R) (X:R),bJ hS h->vR c->W h von c.on->W h vtx c.texts->h.next<=500000000->rc 15 [.agg ⟨aL ln c von vtx⟩] h k=X ->
 ∃h',X=k (.tuple ⟨[aj (dE c).1,.bool (dE c).2]⟩) h'/\Fr h h' 9100
def nA:List dj->Option Bs
 | []=>some []
 | c :: l=>if (dE c).2 then (nA l).map ((dE c).1 ++ ·) else none
theorem Er (ws:List Bs):dh ws ++ [10] ≠ []:=by simp
theorem Eu {c:dj} (h:(dE c).2=true):(dE c).1 ≠ []:=by
 unfold dE at h ⊢;split at h
 ·exact nomatch h
 split at h
 ·exact nomatch h
 rename_i h1 h2;rw[if_neg h1,if_neg h2];exact Er _
structure ahk (rc:RC) (hS:H) (W:H->Value->List Bs->Prop):Prop where
 line:Ew rc hS W
 wr:∀(h:H) (bb:Nat) (s x:Bs),BI h bb s->h.next<=800000000->x ≠ []->s.length+x.length<=400000000->∃h',(∀k,rc 14 [.pointer (some ⟨bb,0,none⟩),aj x] h k=k (.tuple ⟨[.int .i64 (.ofNat x.length),.nilIface]⟩) h')/\BI h' bb (s++x)/\h'.next=h.next+1/\∀id,id<bb->hget h' id=hget h id
 len:∀(h:H) (bb:Nat) (s:Bs) (k:Value->H->R),BI h bb s->rc 16 [.pointer (some ⟨bb,0,none⟩)] h k=k (.int .i64 (.ofNat s.length)) h
 str:∀(h:H) (bb:Nat) (s:Bs),BI h bb s->s ≠ []->h.next<=900000000->s.length<=500000000->∃h',(∀k,rc 17 [.pointer (some ⟨bb,0,none⟩)] h k=k (.string ⟨⟨s⟩⟩) h')/\h'.next=h.next/\∀id,id<bb->hget h' id=hget h id
 num:∀(n:Int) (h:H) (k:Value->H->R),dF n->bJ hS h->rc 13 [.int .i64 n] h k=k (aj (cr n)) h
theorem BI.fr {h h':H} {bb n:Nat} {s:Bs} (b:BI h bb s) (f:Fr h h' n):BI h' bb s:=by obtain⟨⟨c,v,hq,h0,h1,o,hv⟩,hlt⟩:=b;exact⟨⟨c,v,(f.old _ hlt).trans hq,h0,h1,o.keep f.le λp _ hl=>f.old p hl,hv⟩,Nat.lt_of_lt_of_le hlt f.le⟩
def rj (c:dj):Prop:=(dE c).1.length<=100000
variable {E : Env} (u : UT E) {rc : RC} {hS : H} {W : H -> Value -> List Bs -> Prop}
include u
theorem aqo (hW:jG W) (P:ahk rc hS W) {hb:H} (hSb:bJ hS hb) {v:Value} {l:List dj} (o:CW W hb v l) (hl:l.length<=1000) (hC:∀c∈l,vR c) (hL:∀c∈l,rj c) {bb:Nat} {bH:H} (hbb:bH.1=bb) (hlo:hb.next<=bb) (k:Value->H->R) (fin:aa [6,7]->H->R):
  ∀(d i N:Nat) (x y:Value) (s:Bs) (h:H) (X:R),i+d=l.length->d<N->bJ hb h->BI h bb s->h.next+d*9102<=400000000->s.length+d*100000<=200000000 ->
   @loopF [6,7,37] (Bb E (.int .i64 (.ofNat l.length)) v rc bH k fin) N (x,(y,(.int .i64 (.ofNat i),()))) h=X ->
   match nA (l.drop i) with
   | none=>∃h',X=k (.tuple ⟨[aj [],.int .i64 (.ofNat 14)]⟩) h'/\dI hb.next h h' (d*9102)
   | some r=>∃h' x' y',X=fin (x',(y',())) h'/\BI h' bb (s++r)/\dI hb.next h h' (d*9102)/\r.length<=d*100000:=by
 have u3:=u.u3;intro d
 induction d with
 | zero=> intro i N x y s h X hi hN f b hn hs e;obtain⟨N',rfl⟩:∃N',N=N'+1:=⟨N-1,by omega⟩;rw[aR] at e;generalize @loopF [6,7,37] (Bb E (.int .i64 (.ofNat l.length)) v rc bH k fin) N'=L at e;unfold Bb at e;dsimp only at e;rw[fp u3 (show l.length<=i by omega),ag,ar] at e;rw[List.drop_eq_nil_of_le (by omega)];exact⟨h,x,y,e.symm,by simpa using b,dI.refl _ _ _,by simp⟩
 | succ d ih=>
  intro i N x y s h X hi hN f b hn hs e;obtain⟨N',rfl⟩:∃N',N=N'+1:=⟨N-1,by omega⟩;have hlt:i<l.length:=by omega
  rw[aR] at e;generalize hLp:@loopF [6,7,37] (Bb E (.int .i64 (.ofNat l.length)) v rc bH k fin) N'=L at e;unfold Bb at e;dsimp only at e;rw[gt u3 hlt,ag,az] at e;dsimp only at e;rw[ag,bK] at e;have hle:=f.le;cases o with
  | nil=>exact absurd hlt (Nat.not_lt_zero _)
  | row hbk hq hm hc=>
   rename_i bk of e' m c fz op ro cs;have hq:=hq (λq=>by subst q;exact absurd hlt (Nat.not_lt_zero _));obtain⟨ln,von,vtx,hcell,w1,w2⟩:=hc i hlt (by omega);have hqr:∀K,onRow (hget h bk) K=K e' m op ro fz cs:=λK=>by rw[f.old _ hbk,hq];rfl
   rw[bP,am (show Nat.succ i<=l.length from hlt),bM,au] at e;simp only[Nat.mul_eq,↓hqr] at e;have hmi:of+i*9+9<=m:=by omega
   rw[am (show Nat.add (of+i*9) 9<=m from hmi),hcell,am (show h.1<=1000000000 by show h.next<=_;omega),aE] at e;have f1:Fr h (ae h (.row 39 9 false false 0 (T.ofList unk lu))) 1:=Fr.push _ (by omega);have g1:hget (ae h (.row 39 9 false false 0 (T.ofList unk lu))) h.1=.row 39 9 false false 0 (T.ofList unk lu):=aB _ _ (by show h.next<=_;omega);have n1:(ae h (.row 39 9 false false 0 (T.ofList unk lu))).next=h.next+1:=rfl;generalize ae h (.row 39 9 false false 0 (T.ofList unk lu))=h1 at e f1 g1 n1;generalize T.ofList unk lu=zc at g1;have hall:=(hW.2 _ _ _ w1).cellsV (hW.2 _ _ _ w2) ln l[i];rw[QS g1 (show (aL ln l[i] von vtx).length=9 from rfl) hall] at e;have b1:=b.fr f1;have fb1:dI hb.next h h1 1:=f1.b hle;have f2:dI h.next h1 (hset h1 h.1 (.row 39 9 false false 0 (putF zc 0 (aL ln l[i] von vtx)))) 0:=dI.set (Nat.le_refl _) (by show h.next<=_;omega) _;have g2:hget (hset h1 h.1 (.row 39 9 false false 0 (putF zc 0 (aL ln l[i] von vtx)))) h.1=.row 39 9 false false 0 (putF zc 0 (aL ln l[i] von vtx)):=bp _ _ _ (by show h.next<=_;omega);have n2:(hset h1 h.1 (.row 39 9 false false 0 (putF zc 0 (aL ln l[i] von vtx)))).next=h1.next:=rfl;generalize hset h1 h.1 (.row 39 9 false false 0 (putF zc 0 (aL ln l[i] von vtx)))=h2 at e f2 g2 n2;have f12:Fr h h2 1:=⟨by omega,by omega,λid hid=>(f2.old id hid).trans (f1.old id hid)⟩;rw[g2,bV,aO (show ble 9 9=true from rfl),nc _ (show (aL ln l[i] von vtx).length=9 from rfl)] at e;have hmem:=List.getElem_mem hlt;have hF2:bJ hb h2:=f.trans f12.from;obtain⟨h3,e3,f3⟩:=P.line l[i] ln von vtx h2 _ X (hSb.trans hF2) (hC _ hmem) (hW.1 _ _ _ _ w1 hF2) (hW.1 _ _ _ _ w2 hF2) (by omega) e;have f13:Fr h h3 9101:=f12.trans f3 (by omega);have hll:(dE l[i]).1.length<=100000:=hL _ hmem;have hmul:(d+1)*9102=d*9102+9102:=Nat.succ_mul _ _;have hmul2:(d+1)*100000=d*100000+100000:=Nat.succ_mul _ _;rw[hmul] at hn ⊢;rw[hmul2] at hs ⊢;rw[List.drop_eq_getElem_cons hlt];unfold nA;rw[bA,bG,bA,gO,bG] at e3;have hu3:=f13.ub;have hl3:=f13.le;cases hok:(dE l[i]).2 with
   | false=> rw[hok,ar,ag] at e3;rw[if_neg (by simp)];exact⟨h3,e3,(f13.b hle).mono (by omega)⟩
   | true=>
    rw[hok,az,ag] at e3;dsimp only at e3;unfold ajt at e3;rw[hbb] at e3;rw[if_pos rfl];obtain⟨h4,e4,b4,n4,o4⟩:=P.wr h3 bb s (dE l[i]).1 (b.fr f13) (by omega) (Eu hok) (by omega);rw[e4] at e3;dsimp only at e3;rw[cf u3 (by omega)] at e3;have f14:dI hb.next h h4 9102:=⟨by omega,by omega,λid hid=>(o4 id (by omega)).trans (f13.old id (by omega))⟩;have key:=ih (i+1) N' x y (s++(dE l[i]).1) h4 X (by omega) (by omega) (f.frB f14 (Nat.le_refl _)) b4 (by omega) (by rw[List.length_append];omega) (by rw[hLp];exact e3.symm);cases hbd:nA (l.drop (i+1)) with
    | none=> rw[hbd] at key;obtain⟨h5,e5,f5⟩:=key;exact⟨h5,e5,f14.trans f5 (by omega)⟩
    | some r=>
     rw[hbd] at key;obtain⟨h5,x',y',e5,b5,f5,hr⟩:=key;refine⟨h5,x',y',e5,?_,f14.trans f5 (by omega),?_⟩
     ·rw[<-List.append_assoc];exact b5
     ·rw[List.length_append];omega
def iV (cap keeps:Int) (l:List dj):Bs × Nat:=
 if 1000<l.length then ([],15)
 else if cr cap=[] \/ cr keeps=[] then ([],14)
 else match nA l with
  | none=>([],14)
  | some r=>if 65536<([97,114,101,110,97,32]++cr cap ++ [32]++cr keeps ++ [10]++r).length then ([],16) else ([97,114,101,110,97,32]++cr cap ++ [32]++cr keeps ++ [10]++r,0)
omit u in
theorem mL {W:H->Value->List Bs->Prop} {tl ty:TypeId} (hu:E.und tl=some (.slice ty)) {h h':H} {v:Value} {l:List dj} (o:CW W h v l) (K:Value->R):onSl v (bindO (aZ E h' tl v) K) (λ_ n _=>K (.int .i64 (.ofNat n)))=K (.int .i64 (.ofNat l.length)):=by
 cases o with
 | nil=>
  rw[oT];have:aZ E h' tl (.slice none 0 0)=some (.int .i64 (.ofNat 0)):=by unfold aZ;rw[hu];rfl
  rw[this];rfl
 | row=>rw[bP]
theorem axH (uN:E.und 22=some (.slice 39)) (hW:jG W) (P:ahk rc hS W) {h:H} (hSh:bJ hS h) {v:Value} {l:List dj} (o:CW W h v l) (hC:l.length<=1000->∀c∈l,vR c) (hL:l.length<=1000->∀c∈l,rj c) {cap keeps:Int} (hcap:dF cap) (hkeeps:dF keeps) (hn:h.next<=300000000) (k:Value->H->R) (X:R)
  (e:p7 E rc (.int .i64 cap) (.int .i64 keeps) v h k=X):∃h',X=k (.tuple ⟨[aj (iV cap keeps l).1,.int .i64 (.ofNat (iV cap keeps l).2)]⟩) h'/\Fr h h' 10000000:=by
 have u3:=u.u3;unfold p7 at e;obtain⟨K,hK,e⟩:=qf e;rw[bd,mL uN o,dC u3] at e;by_cases q0:1000<l.length
 ·rw[aJ (show 1000+1<=l.length by omega),ag,az] at e;unfold iV;rw[if_pos q0];exact⟨h,e.symm,Fr.refl _ _⟩
 have hl:l.length<=1000:=by omega
 rw[cz (show l.length<1000+1 by omega),ag,ar,P.num _ _ _ hcap hSh] at e;have hs:∀(n:Int) (K:Value->R),binR (binC E .eql 9 false true) (aj (cr n)) (.string (ByteArray.mk #[])) K=K (.bool (cr n==[])):=λn K=>by rw[Ap];exact Bz u.toUS
 rw[hs] at e;unfold iV;rw[if_neg q0];by_cases q1:cr cap=[]
 ·rw[show (cr cap==[])=true by rw[q1];rfl] at e;simp only[↓aK,↓bT,↓ag,↓az] at e;rw[if_pos (.inl q1)];exact⟨h,e.symm,Fr.refl _ _⟩
 rw[show (cr cap==[])=false from beq_eq_false_iff_ne.2 q1] at e;simp only[↓aK,↓cS] at e;rw[P.num _ _ _ hkeeps hSh] at e;rw[hs] at e;by_cases q2:cr keeps=[]
 ·rw[show (cr keeps==[])=true by rw[q2];rfl] at e;simp only[↓aK,↓ar,↓ag,↓az] at e;rw[if_pos (.inr q2)];exact⟨h,e.symm,Fr.refl _ _⟩
 rw[show (cr keeps==[])=false from beq_eq_false_iff_ne.2 q2] at e;simp only[↓aK,↓ar,↓ag] at e;rw[if_neg (by rintro (h | h);exact q1 h;exact q2 h)];subst hK;dsimp only at e;rw[am (show h.1<=1000000000 by show h.next<=_;omega),aE] at e;have b1:=BI.new (h:=h) (by omega);have f1:Fr h (ae h (.row 44 2 false false 0 (T.ofList unk [.pointer none,.slice none 0 0]))) 1:=Fr.push _ (by omega);have n1:(ae h (.row 44 2 false false 0 (T.ofList unk [.pointer none,.slice none 0 0]))).next=h.next+1:=rfl;generalize ae h (.row 44 2 false false 0 (T.ofList unk [.pointer none,.slice none 0 0]))=h1 at e b1 f1 n1;have hS1:=hSh.trans f1.from;have hc1:=fT cap;have hk1:=fT keeps;have ad:∀{cx cy:Bool} (a b:Bs) (K:Value->R),a.length+b.length<=1000000000->binR (binC E .add 9 cx cy) (aj a) (aj b) K=K (aj (a++b)):=λa b K hab=>ku u.toUS hab;rw[P.num _ _ _ hcap hS1,show (.string ⟨⟨[97,114,101,110,97,32]⟩⟩:Value)=aj [97,114,101,110,97,32] from rfl,ad _ _ _ (by simp;omega),show (.string ⟨⟨[32]⟩⟩:Value)=aj [32] from rfl,ad _ _ _ (by simp;omega),P.num _ _ _ hkeeps hS1,ad _ _ _ (by simp;omega),show (.string ⟨⟨[10]⟩⟩:Value)=aj [10] from rfl,ad _ _ _ (by simp;omega)] at e;obtain⟨h2,e2,b2,n2,o2⟩:=P.wr h1 h.next [] ([97,114,101,110,97,32]++cr cap ++ [32]++cr keeps ++ [10]) b1 (by omega) (by simp) (by simp;omega);rw[e2] at e;rw[List.nil_append] at b2;have f2:Fr h h2 2:=⟨by omega,by omega,λid hid=>(o2 id hid).trans (f1.old id hid)⟩;rw[bd,mL uN o,ag] at e;have key:=aqo u hW P hSh o hl (hC hl) (hL hl) (bb:=h.next) (bH:=h) rfl (Nat.le_refl _) k _ l.length 0 cK _ _ _ h2 X (by omega) (by unfold cK;omega) f2.from b2 (by omega) (by simp;omega) e;have hmul:l.length*9102<=1000*9102:=Nat.mul_le_mul_right _ hl;rw[List.drop_zero] at key;cases hbd:nA l with
 | none=> rw[hbd] at key;obtain⟨h3,e3,f3⟩:=key;exact⟨h3,e3,⟨by have:=f3.le;omega,by have:=f3.ub;omega,λid hid=>(f3.old id hid).trans (f2.old id hid)⟩⟩
 | some r=>
  rw[hbd] at key;obtain⟨h3,x',y',e3,b3,f3,hr⟩:=key;have hmul2:l.length*100000<=1000*100000:=Nat.mul_le_mul_right _ hl;dsimp only at e3 ⊢;generalize hS0:[97,114,101,110,97,32]++cr cap ++ [32]++cr keeps ++ [10]=s0 at e3 b3 ⊢;have hs0:s0.length<=40/\s0 ≠ []:=by subst hS0;simp;omega
  have hu3:=f3.ub;have hl3:=f3.le;rw[P.len _ _ _ _ b3,dC u3] at e3;have fh3:Fr h h3 9900000:=⟨by omega,by omega,λid hid=>(f3.old id hid).trans (f2.old id hid)⟩;by_cases q3:65536<(s0++r).length
  ·rw[aJ (show 65536+1<=(s0++r).length by omega),ag,az] at e3;rw[if_pos q3];exact⟨h3,e3,fh3.mono (by omega)⟩
  ·rw[cz (show (s0++r).length<65536+1 by omega),ag,ar] at e3;rw[if_neg q3];obtain⟨h4,e4,n4,o4⟩:=P.str h3 h.next (s0++r) b3 (by simp[hs0.2]) (by omega) (by omega);dsimp only at e3;rw[e4] at e3;exact⟨h4,e3,⟨by omega,by omega,λid hid=>(o4 id hid).trans (fh3.old id hid)⟩⟩
end
def p63 (E:Env) (rc:RC) (a0:Value) (a1:Value) (h:H) (k:Value->H->R):R:=rc 79 [a0,a1] h λa b=>binR (binC E .geq 3 false true) a (.int .i64 (.ofNat 0)) λc=>k c b
theorem akA (t:ak) (rc:RC) (a0:Value) (a1:Value) (h:H) (k:Value->H->R):(aD (EX t) KK 63).run rc [a0,a1] h k=p63 (EX t) rc a0 a1 h k:=by kernel_rfl
def U6 (E:Env) (rc:RC) (a0:Value) (h:H) (k:Value->H->R):R:=binR (binC E .gtr 3 false true) a0 (.int .i64 (.ofNat 8)) λa=>k a h
theorem M0 (t:ak) (rc:RC) (a0:Value) (h:H) (k:Value->H->R):(aD (EX t) KK 101).run rc [a0] h k=U6 (EX t) rc a0 h k:=by kernel_rfl
def qw (a:Nat->Value) (b:H) (rc:RC) (a1:Value) (E:Env) (k:Value->H->R) (c:aa [4]->H->R):(aa [4]->H->R)->aa [4]->H->R:=λd e f=>cO (hG f (a b.1)) λg h=>onTup g λi=>nthF 0 i λj=>@joinR [] (λ_ l=>@joinR [4] (λm n=>d (m.1,()) n) λm=>onTup g λn=>nthF 1 n λo=>onTup g λp=>nthF 2 p λq=>rc 100 [a1,q] l λr s=>binR (binC E .geq 3 false true) r (.int .i64 (.ofNat 0)) λt=>@joinR [4] (λu v=>m (u.1,()) v) λu=>onB t (u (e.1,()) s) (k o s)) λl=>onB j (c (e.1,()) h) (l () h)
def aqn (E:Env) (a0:Value) (rc:RC) (a:H) (k:Value->H->R) (b:aa [4]->H->R):(aa [4,8]->H->R)->aa [4,8]->H->R:=λc d e=>bindO (aZ E e 9 a0) λf=>binR (binC E .lss 3 false false) d.2.1 f λg=>@joinR [] (λ_ h=>@joinR [4] (λi j=>binR (binC E .add 3 false true) d.2.1 (.int .i64 (.ofNat 1)) λl=>c (i.1,(l,())) j) λi=>bindO (cQ E 9 a0 d.2.1) λj=>rc 103 [.pointer (some (Addr.mk a.1 0 none)),j] h λl m=>@joinR [4] (λn o=>i (n.1,()) o) λn=>onB l (n (d.1,()) m) (k d.2.1 m)) λh=>onB g (b (d.1,()) e) (h () e)
def p79 (E : Env) (rc : RC) (a0 : Value) (a1 : Value) (h : H) (k : Value -> H -> R):R:= binR (binC E .eql 9 false true) a1 (.string (ByteArray.mk #[])) fun a=> @joinR [4] (fun b c=> bindO (aZ E c 9 a1) fun d=> binR (binC E .eql 3 false true) d (.int .i64 (.ofNat 1)) fun e=> @joinR [4] (fun f g=> bindO (aZ E g 9 a0) fun i=> rc 101 [i] g fun j l=> @joinR [4] (fun m n=> kB (cM E (@T.n Value (@T.c Value undef) a0 (@T.c Value undef)) (Oper.mk none (Op.range 9 (.tmp 0)) 0 " " #[] none)) fun o p=> ifB (ble n.1 1000000000) (letH (ae n o) fun q=> @joinR [4] (fun _ r=> k (.int .i64 (.negSucc 0)) r) fun r=> @loopF [4] (qw p n rc a1 E k r) cK (m.1, ()) q)) fun m=> onB j (m (f.1, ()) l) (rc 102 [a1] l fun n o=> onTup n fun p=> nthF 0 p fun q=> onTup n fun r=> nthF 1 r fun s=> ifB (ble o.1 1000000000) (letH (ae o (.row 148 256 false false 0 (@T.c Value (.bool false)))) fun t=> onCells q fun u=> onRow (hget t o.1) fun v w x y z a2=> ifB (notB y) (ifB (beq (lenF u) 256) (ifB (ble z 0) (ifB (ble 256 w) (ifB (ble w 1000000000) (ifB (allF (fun a3=> cell1F a3) u) (letH (hset t o.1 (.row v w x false z (putF a2 0 u))) fun a3=> @joinR [4] (fun a4 a5=> m (a4.1, ()) a5) fun a4=> onB s (a4 (f.1, ()) a3) (@joinR [4] (fun _ a5=> k (.int .i64 (.negSucc 0)) a5) fun a5=> @loopF [4, 8] (aqn E a0 rc o k a5) cK (f.1, (.int .i64 (.ofNat 0), ())) a3)))))))))) fun f=> onB e (f (b.1, ()) c) (bindO (cQ E 9 a1 (.int .i64 (.ofNat 0))) fun g=> joinL (fun i=> binR (binC E .geq 21 false true) i (.int .i32 (.ofNat 128)) fun j=> @joinR [5] (fun l m=> rc 100 [a0, l.1] m fun n o=> k n o) fun l=> onB j (l (i, ()) c) (l (.int .i32 (.ofNat 65533), ()) c)) fun i=> onNat g (bindO (aQ E c 5 21 g) i) fun j=> @Bool.rec (fun _=> R) (bindO (aQ E c 5 21 g) i) (i (.int .i32 (.ofNat j))) (ble j 2147483647))) fun b=> onB a (b (.int .i64 (.ofNat 0), ()) h) (k (.int .i64 (.negSucc 0)) h)
theorem abG (t:ak) (rc:RC) (a0:Value) (a1:Value) (h:H) (k:Value->H->R):(aD (EX t) KK 79).run rc [a0,a1] h k=p79 (EX t) rc a0 a1 h k:=by kernel_rfl
def Xn (E:Env) (a:Value) (b:aa [4,9]) (a0 c:Value) (d:aa [12]->H->R):(aa [12]->H->R)->aa [12]->H->R:=λe f g=>bindO (aZ E g 9 a) λh=>binR (binC E .lss 3 false false) f.1 h λi=>@joinR [] (λ_ j=>@joinR [] (λ_ l=>binR (binC E .add 3 false true) f.1 (.int .i64 (.ofNat 1)) λm=>e (m,()) l) λl=>ifB (ble j.1 1000000000) (letH (H.mk j.1 j.2) λm=>binR (binC E .sub 3 false false) b.2.1 f.1 λn=>bindO (cQ E 9 a0 n) λo=>binR (binC E .sub 3 false false) c f.1 λp=>bindO (cQ E 9 a p) λq=>binR (binC E .neq 5 false false) o q λr=>@joinR [] (λ_ s=>l () s) λs=>onB r (s () m) none)) λj=>onB i (d (f.1,()) g) (j () g)
def Ft (E:Env) (a0 a b:Value) (k:Value->H->R) (rc:RC) (c:aa [4,9]->H->R):(aa [4,9,10]->H->R)->aa [4,9,10]->H->R:=λd e f=>bindO (aZ E f 9 a0) λg=>binR (binC E .lss 3 false false) e.2.1 g λh=>@joinR [] (λ_ i=>@joinR [4,9,10] (λj l=>d (j.1,(j.2.1,(j.2.2.1,()))) l) λ_=>ifB (ble i.1 1000000000) (letH (H.mk i.1 i.2) λj=>bindO (cQ E 9 a0 e.2.1) λl=>bindO (cQ E 9 a b) λm=>binR (binC E .neq 5 false false) l m λn=>@joinR [4,9] (λo p=>@joinR [12] (λ_ q=>binR (binC E .sub 3 false false) o.2.1 b λr=>k r q) λq=>@loopF [12] (Xn E a o a0 b q) cK (.int .i64 (.ofNat 1),()) p) λo=>onB n (o (e.1,(e.2.1,())) j) (ifB (ble j.1 1000000000) (letH (H.mk j.1 j.2) λp=>binR (binC E .add 3 false true) e.2.1 (.int .i64 (.ofNat 1)) λq=>bindO (cI E 9 a0 (some q) none none) λr=>bindO (cQ E 9 a b) λs=>rc 168 [r,s] p λt u=>binR (binC E .lss 3 false true) t (.int .i64 (.ofNat 0)) λv=>@joinR [4] (λw x=>binR (binC E .add 3 false true) t (.int .i64 (.ofNat 1)) λy=>binR (binC E .add 3 false false) e.2.1 y λz=>o (w.1,(z,())) x) λw=>onB v (w (e.1,()) u) (k (.int .i64 (.negSucc 0)) u))))) λi=>onB h (c (e.1,(e.2.1,())) f) (i () f)
def mE (a:Nat->Value) (b:H) (E:Env) (k:Value->H->R) (c:aa [4]->H->R):(aa [4]->H->R)->aa [4]->H->R:=λd e f=>cO (hG f (a b.1)) λg h=>onTup g λi=>nthF 0 i λj=>@joinR [] (λ_ l=>@joinR [4] (λm n=>d (m.1,()) n) λm=>onTup g λn=>nthF 1 n λo=>onTup g λp=>nthF 2 p λq=>binR (binC E .eql 21 false true) q (.int .i32 (.ofNat 65533)) λr=>@joinR [4] (λs t=>m (s.1,()) t) λs=>onB r (s (e.1,()) l) (k o l)) λl=>onB j (c (e.1,()) h) (l () h)
def xI (E : Env) (a1 : Value) (a : aa [4] -> H -> R) (rc : RC) (b : H) (k : Value -> H -> R) (a0 : Value):R:= binR (binC E .eql 21 false true) a1 (.int .i32 (.ofNat 65533)) fun c=> @joinR [4] (fun d e=> a (d.1, ()) e) fun d=> onB c (rc 169 [a1] b fun e f=> onB e (@joinR [4] (fun g h=> d (g.1, ()) h) fun _=> k (.int .i64 (.negSucc 0)) f) (@joinR [4] (fun g h=> d (g.1, ()) h) fun _=> bindO (aQ E f 21 9 a1) fun g=> bindO (aZ E f 9 g) fun h=> binR (binC E .sub 3 false true) h (.int .i64 (.ofNat 1)) fun i=> @joinR [4, 9] (fun _ j=> k (.int .i64 (.negSucc 0)) j) fun j=> @loopF [4, 9, 10] (Ft E a0 g i k rc j) cK (.int .i64 (.ofNat 0), (i, (.int .i64 (.ofNat 0), ()))) f)) (kB (cM E (@T.n Value (@T.c Value undef) a0 (@T.c Value undef)) (Oper.mk none (Op.range 9 (.tmp 0)) 0 " " #[] none)) fun e f=> ifB (ble b.1 1000000000) (letH (ae b e) fun g=> @joinR [4] (fun _ h=> k (.int .i64 (.negSucc 0)) h) fun h=> @loopF [4] (mE f b E k h) cK (.int .i64 (.ofNat 0), ()) g))
def Fv (E:Env) (rc:RC) (a0:Value) (a1:Value) (h:H) (k:Value->H->R):R:=@joinR [4] (λa b=>k a.1 b) λa=>binR (binC E .leq 21 true false) (.int .i32 (.ofNat 0)) a1 λb=>ab (λc d=>ab (λe f=>onB b (@joinR [4] (λg i=>a (g.1,()) i) λg=>xI E a1 g rc f k a0) (@joinR [4] (λg i=>a (g.1,()) i) λg=>onB e (xI E a1 g rc f k a0) (joinL (λi=>rc 168 [a0,i] f λj l=>k j l) λi=>onNat a1 (bindO (aQ E f 21 5 a1) i) λj=>@Bool.rec (λ_=>R) (bindO (aQ E f 21 5 a1) i) (i (.int .u8 (.ofNat j))) (ble j 255)))) λe=>aF b (e undef d) (binR (binC E .lss 21 false true) c (.int .i32 (.ofNat 128)) λf=>e f d) (e undef d)) λc=>aF b (c undef h) (c a1 h) (c undef h)
theorem My (t:ak) (rc:RC) (a0:Value) (a1:Value) (h:H) (k:Value->H->R):(aD (EX t) KK 100).run rc [a0,a1] h k=Fv (EX t) rc a0 a1 h k:=by kernel_rfl
section
section
variable {E : Env} {m n : Nat} {cx cy : Bool} {k : Value -> R} {ty : TypeId} (hE : E.und ty = some (.int .i32))
include hE
theorem yG:binR (binC E .leq ty cx cy) (.int .i32 (.ofNat m)) (.int .i32 (.ofNat n)) k=k (.bool (decide (m<=n))):=by
 have hb:ip E .leq ty cx cy (.int .i32 (.ofNat m)) (.int .i32 (.ofNat n))=some (.bool (decide ((m:Int)<=n))):=rfl;have hd:decide ((m:Int)<=n)=decide (m<=n):=by
  by_cases q:m<=n
  ·rw[decide_eq_true q,decide_eq_true (by omega)]
  ·rw[decide_eq_false q,decide_eq_false (by omega)]
 rw[<-hd];unfold binR binC;rw[hE]
 first
  | rfl
  | (show bindO (ip E .leq ty cx cy (.int .i32 (.ofNat m)) (.int .i32 (.ofNat n))) k=_;rw[hb];rfl)
theorem zo:binR (binC E .lss ty cx cy) (.int .i32 (.ofNat m)) (.int .i32 (.ofNat n)) k=k (.bool (decide (m<n))):=by
 have hb:ip E .lss ty cx cy (.int .i32 (.ofNat m)) (.int .i32 (.ofNat n))=some (.bool (decide ((m:Int)<n))):=rfl;have hd:decide ((m:Int)<n)=decide (m<n):=by
  by_cases q:m<n
  ·rw[decide_eq_true q,decide_eq_true (by omega)]
  ·rw[decide_eq_false q,decide_eq_false (by omega)]
 rw[<-hd];unfold binR binC;rw[hE]
 first
  | rfl
  | (show bindO (ip E .lss ty cx cy (.int .i32 (.ofNat m)) (.int .i32 (.ofNat n))) k=_;rw[hb];rfl)
end
def jv:Bs:=[32,10]
theorem agA {h:H} {ib pos:Nat} {s:Bs} {b:UInt8} (hq:hget h ib=.iter s pos) (hp:s[pos]?=some b) (hb:b.toNat<128):
  hG h (.pointer (some ⟨ib,0,none⟩))=some (.tuple ⟨[.bool true,.int .i64 (.ofNat pos),.int .i32 (.ofNat b.toNat)]⟩,hset h ib (.iter s (pos+1))):=by
 obtain⟨h1,h2⟩:=List.getElem?_eq_some_iff.1 hp;subst h2;exact mT hq h1 hb
structure arK (rc:RC) (hS:H):Prop where
 idx:∀(s:Bs) (b:UInt8) (h:H) (k:Value->H->R),bJ hS h->rc 168 [aj s,cg b] h k=k (.int .i64 (Lib.indexByte s b)) h
 val:∀(r:Nat) (h:H) (k:Value->H->R),bJ hS h->Utf8.valid (r:Int)=true->rc 169 [.int .i32 (.ofNat r)] h k=k (.bool true) h
theorem atI (x y z:Value) (K:Value->R):nthF 2 [x,y,z] K=K z:=rfl
theorem aof (x y z:Value) (K:Value->R):nthF 1 [x,y,z] K=K y:=rfl
variable {E : Env} (u : UT E) {rc : RC}
include u
theorem AQ {ib:Nat} {a:Nat->Value} {bH:H} (ha:a bH.1=.pointer (some ⟨ib,0,none⟩)) (hib:ib<=900000000) (k:Value->H->R) (c:aa [4]->H->R):∀(d pos N:Nat) (x:Value) (h:H),pos+d=2->d<N->hget h ib=.iter jv pos ->
  ∃h' x',@loopF [4] (mE a bH E k c) N (x,()) h=c (x',()) h'/\dI ib h h' 0:=by
 intro d
 induction d with
 | zero=> intro pos N x h hp hN hi;obtain⟨N',rfl⟩:∃N',N=N'+1:=⟨N-1,by omega⟩;rw[aR];generalize @loopF [4] (mE a bH E k c) N'=L;unfold mE;rw[ha,cB (lE hi (by show 2<=pos;omega)),bA,bG,ag,ar];exact⟨h,x,rfl,dI.refl _ _ _⟩
 | succ d ih=>
  intro pos N x h hp hN hi;obtain⟨N',rfl⟩:∃N',N=N'+1:=⟨N-1,by omega⟩;obtain⟨b,hb,hb1,hb2⟩:∃b:UInt8,jv[pos]?=some b/\b.toNat<128/\b.toNat≠65533:=by
   match pos,hp with
   | 0,_=>exact⟨32,rfl,by decide,by decide⟩
   | 1,_=>exact⟨10,rfl,by decide,by decide⟩
   | n+2,hp=>omega
  have ih':=ih (pos+1) N' x (hset h ib (.iter jv (pos+1))) (by omega) (by omega) (bp _ _ _ (by omega));rw[aR];generalize @loopF [4] (mE a bH E k c) N'=L at ih';unfold mE;rw[ha,cB (agA hi hb hb1),bA,bG,ag,az];dsimp only;rw[ag,bA,aof,bA,atI,rq u.u21,dH hb2,ag,ar];obtain⟨h',x',e,f⟩:=ih';exact⟨h',x',e,(dI.set (Nat.le_refl _) (by omega) _).trans f (Nat.le_refl _)⟩
theorem TG {hS:H} (I:arK rc hS) {r:Nat} (hr:128<=r) (hv:Utf8.valid (r:Int)=true) {h:H} (hq:bJ hS h) (hn:h.next<=800000000) (k:Value->H->R):∃h',Fv E rc (aj jv) (.int .i32 (.ofNat r)) h k=k (.int .i64 (.negSucc 0)) h'/\Fr h h' 1:=by
 have u3:=u.u3;have u5:=u.u5;unfold Fv;rw[ag,yG u.u21,decide_eq_true (Nat.zero_le _)];simp only[↓aK,↓bT];rw[zo u.u21,decide_eq_false (by omega)];simp only[↓az,↓ar,↓ag];unfold xI;rw[rq u.u21,ag];by_cases q:r=65533
 ·rw[fU q,az,oz (jT u.toUS jv),am (show h.1<=1000000000 by show h.next<=_;omega),aE,ag];have f1:Fr h (ae h (.iter jv 0)) 1:=Fr.push _ (by omega);obtain⟨h',x',e,f⟩:=AQ u (a:=λid=>ptr id 0) (bH:=h) (ib:=h.next) rfl (by omega) k (λ_ h=>k (.int .i64 (.negSucc 0)) h) 2 0 cK (.int .i64 (.ofNat 0)) (ae h (.iter jv 0)) rfl (by unfold cK;omega) (aB _ _ (by omega));exact⟨h',e,⟨by have:=f.le;have:=f1.le;omega,by have:=f.ub;have:=f1.ub;omega,λid hid=>(f.old id hid).trans (f1.old id hid)⟩⟩
 ·rw[dH q,ar,I.val _ _ _ hq hv,az,ag];obtain⟨s2,s4,slast⟩:=encode_facts (r:Int) hv (by omega);obtain⟨e,he⟩:∃e:Bs,Utf8.encode (r:Int)=⟨⟨e⟩⟩:=by generalize Utf8.encode (r:Int)=x;obtain⟨⟨e⟩⟩:=x;exact⟨e,rfl⟩
  have hcv:aQ E h 21 9 (.int .i32 (.ofNat r))=some (aj e):=by unfold aQ;rw[u.u21,u.u9];show some (Value.string (Utf8.encode (r:Int)))=_;rw[he];rfl
  rw[he] at s2 s4;have hle:(⟨⟨e⟩⟩:ByteArray).size=e.length:=rfl;rw[hle] at s2 s4;have hlt:e.length-1<e.length:=by omega
  have hlast:128<=(e[e.length-1]'hlt).toNat:=by have:=slast;rw[he] at this;exact this (by show e.length-1<e.length;omega)
  rw[hcv,aA,show aZ E h 9 (aj e)=_ from fD u.toUS,aA,fO u3 (show 1<=e.length by omega) (by omega),ag];obtain⟨N',hN'⟩:∃N',cK=N'+1:=⟨999999,by unfold cK;omega⟩;rw[hN',aR];generalize @loopF [4,9,10] _ N'=L;unfold Ft;rw[show aZ E h 9 (aj jv)=some (.int .i64 (.ofNat 2)) from fD u.toUS,aA];dsimp only;by_cases q2:e.length-1<2
  ·rw[gt u3 q2,ag,az];dsimp only;rw[ag,am (show h.1<=1000000000 by show h.next<=_;omega),aE,FU];have e1:e.length-1=1:=by omega
   have i1:cQ E 9 (aj jv) (.int .i64 (.ofNat (e.length-1)))=some (cg 10):=by rw[e1];exact lD u.toUS (s:=jv) (j:=1) rfl
   have i2:cQ E 9 (aj e) (.int .i64 (.ofNat (e.length-1)))=some (cg (e[e.length-1]'hlt)):=lD u.toUS (List.getElem?_eq_getElem hlt);rw[i1,aA,i2,aA]
   rw[show ∀K:Value->R,binR (binC E .neq 5 false false) (cg 10) (cg (e[e.length-1]'hlt)) K=K (.bool true) from λK=>by unfold cg;rw[xM u5,dH (show ¬ (10:UInt8).toNat=(e[e.length-1]'hlt).toNat by show ¬ 10=_;omega)];rfl]
   rw[ag,az,am (show h.1<=1000000000 by show h.next<=_;omega),aE,cf u3 (by omega)];have hsl:cI E 9 (aj jv) (some (.int .i64 (.ofNat (e.length-1+1)))) none none=some (aj []):=by rw[e1];unfold cI;rw[u.u9];rfl
   rw[hsl,aA,aA,I.idx _ _ _ _ hq,show Lib.indexByte [] (e[e.length-1]'hlt)=Int.negSucc 0 from rfl,SF u3,decide_eq_true (by decide),ag,az];exact⟨h,rfl,Fr.refl _ _⟩
  ·rw[fp u3 (show 2<=e.length-1 by omega),ag,ar];exact⟨h,rfl,Fr.refl _ _⟩
end
section
def gg (b:UInt8):Bool:=b==32||b==10
theorem yC (s:Bs) (pos:Nat) (h:pos<s.length):
  (s[pos].toNat<128/\Utf8.decode ⟨⟨s⟩⟩ pos=(s[pos].toNat,1)) \/
  (128<=s[pos].toNat/\128<=(Utf8.decode ⟨⟨s⟩⟩ pos).1/\Utf8.valid ((Utf8.decode ⟨⟨s⟩⟩ pos).1:Int)=true/\1<=(Utf8.decode ⟨⟨s⟩⟩ pos).2/\pos+(Utf8.decode ⟨⟨s⟩⟩ pos).2<=s.length/\∀j,j<(Utf8.decode ⟨⟨s⟩⟩ pos).2->∀b,s[pos+j]?=some b->gg b=false):=by
 have hg:∀j b,s[pos+j]?=some b->s.getD (pos+j) 0=b:=λj b hb=>by rw[List.getD_eq_getElem?_getD,hb];rfl
 have g0:s.getD pos 0=s[pos]:=by rw[List.getD_eq_getElem?_getD,List.getElem?_eq_getElem h];rfl
 have hsep:∀b:UInt8,128<=b.toNat->gg b=false:=λb hb=>by unfold gg;rw[show (b==32)=false from beq_eq_false_iff_ne.2 λe=>by subst e;exact absurd hb (by decide),show (b==10)=false from beq_eq_false_iff_ne.2 λe=>by subst e;exact absurd hb (by decide)];rfl
 have val:∀n:Nat,(n<55296 \/ 57344<=n)->n<=1114111->Utf8.valid (n:Int)=true:=λn h1 h2=>by unfold Utf8.valid;simp only[Bool.or_eq_true,Bool.and_eq_true,decide_eq_true_eq];omega
 have hdec:Utf8.decode ⟨⟨s⟩⟩ pos=Lib.decodeN (s.length-pos) (s.getD pos 0).toNat (s.getD (pos+1) 0).toNat (s.getD (pos+2) 0).toNat (s.getD (pos+3) 0).toNat:=Lib.decode_N ⟨⟨s⟩⟩ pos;rw[hdec];have hb:=s[pos].toNat_lt;rcases Lib.decodeN_shape (s.length-pos) (s.getD pos 0).toNat (s.getD (pos+1) 0).toNat (s.getD (pos+2) 0).toNat (s.getD (pos+3) 0).toNat with ⟨c,e⟩ | ⟨c0,c1,c2,c3,e⟩ | ⟨c0,c1,c2,c3,c4,c5,e⟩ | ⟨c0,c1,c2,c3,c4,c5,c6,e⟩ | e
 ·left;rw[g0] at c e;rw[g0];exact⟨c,e⟩
 ·right;rw[e];have hx:∀j,j<2->128<=(s.getD (pos+j) 0).toNat:=λj hj=>by
   match j,hj with
   | 0,_=>rw[Nat.add_zero];omega
   | 1,_=>omega
  refine⟨by rw[<-g0];omega,by simp only;omega,val _ (.inl (by simp only;omega)) (by simp only;omega),by simp only;omega,by simp only;omega,λj hj b hb=>hsep b ?_⟩;rw[<-hg j b hb];exact hx j hj
 ·right;rw[e];have hx:∀j,j<3->128<=(s.getD (pos+j) 0).toNat:=λj hj=>by
   match j,hj with
   | 0,_=>rw[Nat.add_zero];omega
   | 1,_=>omega
   | 2,_=>omega
  refine⟨by rw[<-g0];omega,by simp only;omega,val _ c5 (by simp only;omega),by simp only;omega,by simp only;omega,λj hj b hb=>hsep b ?_⟩;rw[<-hg j b hb];exact hx j hj
 ·right;rw[e];have hx:∀j,j<4->128<=(s.getD (pos+j) 0).toNat:=λj hj=>by
   match j,hj with
   | 0,_=>rw[Nat.add_zero];omega
   | 1,_=>omega
   | 2,_=>omega
   | 3,_=>omega
  refine⟨by rw[<-g0];omega,by simp only;omega,val _ (.inr (by simp only;omega)) c6,by simp only;omega,by simp only;omega,λj hj b hb=>hsep b ?_⟩;rw[<-hg j b hb];exact hx j hj
 ·by_cases q:(s.getD pos 0).toNat<128
  ·rw[Lib.decodeN_ascii _ _ _ _ _ q] at e;have:=congrArg Prod.fst e;simp only at this;omega
  ·right;rw[e];refine⟨by rw[<-g0];omega,by decide,by decide,by decide,by simp only;omega,λj hj b hb=>hsep b ?_⟩;rw[<-hg j b hb];have hj:j<1:=hj;obtain rfl:j=0:=by omega
   rw[Nat.add_zero];omega
theorem EG {h:H} {ib pos:Nat} {s:Bs} (hq:hget h ib=.iter s pos) (hp:pos<s.length):
  hG h (.pointer (some ⟨ib,0,none⟩))=some (.tuple ⟨[.bool true,.int .i64 (.ofNat pos),.int .i32 (.ofNat (Utf8.decode ⟨⟨s⟩⟩ pos).1)]⟩,hset h ib (.iter s (pos+(Utf8.decode ⟨⟨s⟩⟩ pos).2))):=by
 rcases yC s pos hp with ⟨h1,e⟩ | ⟨h1,_⟩
 ·rw[e];exact mT hq hp h1
 ·rw[bi] at hq;have hb':Nat.blt s[pos].toNat 128=false:=cz (by omega);unfold hG;simp only[hq,Nat.beq_refl,cond_true,List.drop_eq_getElem_cons hp,hb',cond_false,eD]
def Ve (rc:RC) (hS:H):Prop:=∀(r:Nat) (h:H),bJ hS h->h.next<=800000000 ->
 (∀b:UInt8,r=b.toNat->b.toNat<128->∀k:Value->H->R,rc 100 [aj jv,.int .i32 (.ofNat r)] h k=k (.int .i64 (Lib.indexByte jv b)) h) /\
 (128<=r->Utf8.valid (r:Int)=true->∀k:Value->H->R,∃h',rc 100 [aj jv,.int .i32 (.ofNat r)] h k=k (.int .i64 (.negSucc 0)) h'/\Fr h h' 1)
theorem Dc {b:UInt8}:(gg b=true->∃n:Nat,Lib.indexByte jv b=(n:Int))/\(gg b=false->Lib.indexByte jv b=-1):=by
 unfold gg;by_cases q1:b=32
 ·subst q1;exact⟨λ_=>⟨0,rfl⟩,λh=>by simp at h⟩
 ·by_cases q2:b=10
  ·subst q2;exact⟨λ_=>⟨1,rfl⟩,λh=>by simp at h⟩
  ·refine⟨λh=>by simp[q1,q2] at h,λ_=>?_⟩;unfold jv Lib.indexByte Lib.indexByte Lib.indexByte;rw[show ((32:UInt8)==b)=false from beq_eq_false_iff_ne.2 (Ne.symm q1),show ((10:UInt8)==b)=false from beq_eq_false_iff_ne.2 (Ne.symm q2)];rfl
variable {E : Env} (u : UT E) {rc : RC}
include u
theorem TS {hS:H} (hR:Ve rc hS) {w:Bs} {ib:Nat} {a:Nat->Value} {bH:H} (ha:a bH.1=.pointer (some ⟨ib,0,none⟩)) (hSi:hS.next<=ib) (k:Value->H->R) (c:aa [4]->H->R) (X:R):∀(d pos N:Nat) (x:Value) (h:H),w.length<=pos+d->pos<=w.length->d<N->ib<h.next->h.next+d<=700000000->hget h ib=.iter w pos->bJ hS h ->
  @loopF [4] (qw a bH rc (aj jv) E k c) N (x,()) h=X->∃h',dI ib h h' d/\(((w.drop pos).any gg=true/\∃n:Nat,X=k (.int .i64 (.ofNat n)) h') \/ ((w.drop pos).any gg=false/\∃x',X=c (x',()) h')):=by
 have u3:=u.u3;intro d
 induction d with
 | zero=> intro pos N x h hp hpl hN hib hn hi hq e;obtain⟨N',rfl⟩:∃N',N=N'+1:=⟨N-1,by omega⟩;rw[aR] at e;generalize @loopF [4] (qw a bH rc (aj jv) E k c) N'=L at e;unfold qw at e;rw[ha,cB (lE hi (by omega)),bA,bG,ag,ar] at e;refine⟨h,dI.refl _ _ _,.inr ⟨?_,x,e.symm⟩⟩;rw[List.drop_eq_nil_of_le (by omega)];rfl
 | succ d ih=>
  intro pos N x h hp hpl hN hib hn hi hq e;obtain⟨N',rfl⟩:∃N',N=N'+1:=⟨N-1,by omega⟩;rw[aR] at e;generalize hL:@loopF [4] (qw a bH rc (aj jv) E k c) N'=L at e;unfold qw at e;by_cases hlt:pos<w.length
  ·rw[ha,cB (EG hi hlt),bA,bG,ag,az] at e;dsimp only at e;rw[ag,bA,aof,bA,atI] at e;rcases yC w pos hlt with ⟨h1,e1⟩ | ⟨h1,h2,h3,h4,h5,h6⟩
   ·rw[e1] at e;have f1:dI ib h (hset h ib (.iter w (pos+1))) 0:=dI.set (Nat.le_refl _) (by omega) _;have hi1:hget (hset h ib (.iter w (pos+1))) ib=.iter w (pos+1):=bp _ _ _ (by omega);have n1:(hset h ib (.iter w (pos+1))).next=h.next:=rfl;dsimp only at e;generalize hset h ib (.iter w (pos+1))=g1 at e f1 hi1 n1;rw[(hR w[pos].toNat g1 (hq.frB f1 hSi) (by omega)).1 w[pos] rfl h1] at e;rw[List.drop_eq_getElem_cons hlt,List.any_cons];cases hs:gg w[pos] with
    | true=> obtain⟨n,hn1⟩:=Dc.1 hs;rw[hn1,pc u3,decide_eq_true (by simp),ag,az] at e;exact⟨g1,f1.mono (by omega),.inl ⟨rfl,pos,e.symm⟩⟩
    | false=> rw[Dc.2 hs,pc u3,decide_eq_false (by decide),ag,ar] at e;obtain⟨h',f2,hh⟩:=ih (pos+1) N' x g1 (by omega) (by omega) (by omega) (by omega) (by omega) hi1 (hq.frB f1 hSi) (by rw[hL];exact e);exact⟨h',f1.trans f2 (by omega),by simpa using hh⟩
   ·generalize Utf8.decode ⟨⟨w⟩⟩ pos=dd at e h2 h3 h4 h5 h6;obtain⟨r,wd⟩:=dd;dsimp only at e h2 h3 h4 h5 h6;have f1:dI ib h (hset h ib (.iter w (pos+wd))) 0:=dI.set (Nat.le_refl _) (by omega) _;have hi1:hget (hset h ib (.iter w (pos+wd))) ib=.iter w (pos+wd):=bp _ _ _ (by omega);have n1:(hset h ib (.iter w (pos+wd))).next=h.next:=rfl;generalize hset h ib (.iter w (pos+wd))=g1 at e f1 hi1 n1;obtain⟨g2,e2,f2⟩:=(hR r g1 (hq.frB f1 hSi) (by omega)).2 h2 h3 _;rw[e2,pc u3,decide_eq_false (by decide),ag,ar] at e;have hu2:=f2.ub;have hl2:=f2.le;obtain⟨h',f3,hh⟩:=ih (pos+wd) N' x g2 (by omega) (by omega) (by omega) (by omega) (by omega) ((f2.old _ (by omega)).trans hi1) ((hq.frB f1 hSi).trans f2.from) (by rw[hL];exact e);have hdrop:(w.drop pos).any gg=(w.drop (pos+wd)).any gg:=by
     have:w.drop pos=(w.drop pos).take wd++w.drop (pos+wd):=by rw[<-List.drop_drop,List.take_append_drop]
     rw[this,List.any_append];have h0:((w.drop pos).take wd).any gg=false:=by rw[List.any_eq_false];intro b hb;obtain⟨j,hj⟩:=List.mem_iff_getElem?.1 hb;have hl:=(List.getElem?_eq_some_iff.1 hj).1;rw[List.length_take,List.length_drop] at hl;rw[List.getElem?_take_of_lt (by omega),List.getElem?_drop] at hj;rw[h6 j (by omega) b hj];simp
     rw[h0,Bool.false_or]
    rw[hdrop];exact⟨h',(f1.trans (f2.b (by omega)) (Nat.le_refl _)).trans f3 (by omega),hh⟩
  ·rw[ha,cB (lE hi (by omega)),bA,bG,ag,ar] at e;refine⟨h,dI.refl _ _ _,.inr ⟨?_,x,e.symm⟩⟩;rw[List.drop_eq_nil_of_le (by omega)];rfl
theorem aoz {hS:H} (hR:Ve rc hS) (h101:∀(n:Nat) (h:H) (k:Value->H->R),rc 101 [.int .i64 (.ofNat n)] h k=k (.bool (ble (8+1) n)) h) {w:Bs} (hw:w.length<=8) {h:H} (hq:bJ hS h) (hn:h.next<=600000000) (k:Value->H->R) (X:R) (e:p79 E rc (aj w) (aj jv) h k=X):
  ∃(h':H) (z:Int),X=k (.int .i64 z) h'/\(w.any gg=decide (0<=z)):=by
 have u3:=u.u3;unfold p79 at e;rw[Ap,show ∀K:Value->R,binR (binC E .eql 9 false true) (aj jv) (.string ⟨⟨[]⟩⟩) K=K (.bool false) from λK=>Bz u.toUS] at e;rw[ag,ar] at e;dsimp only at e;rw[show aZ E h 9 (aj jv)=some (.int .i64 (.ofNat 2)) from fD u.toUS,aA,nR u3,show beq 2 1=false from rfl,ag,ar] at e;dsimp only at e;rw[show aZ E h 9 (aj w)=some (.int .i64 (.ofNat w.length)) from fD u.toUS,aA,h101,cz (show w.length<8+1 by omega),ag,ar] at e;dsimp only at e;rw[oz (jT u.toUS w),am (show h.1<=1000000000 by show h.next<=_;omega),aE,ag] at e;obtain⟨h',f,hh⟩:=TS u hR (a:=λid=>ptr id 0) (bH:=h) (ib:=h.next) rfl hq.le k _ X w.length 0 cK _ (ae h (.iter w 0)) (by omega) (by omega) (by unfold cK;omega) (show h.next<h.next+1 by omega) (show h.next+1+w.length<=_ by omega) (aB _ _ (by omega)) (hq.trans (Fr.push _ (by omega)).from) e;rw[List.drop_zero] at hh;rcases hh with ⟨h1,n,hx⟩ | ⟨h1,x',hx⟩
 ·exact⟨h',n,hx,by rw[h1,decide_eq_true (by omega)]⟩
 ·exact⟨h',.negSucc 0,hx,by rw[h1];rfl⟩
end
end Go.Ev
