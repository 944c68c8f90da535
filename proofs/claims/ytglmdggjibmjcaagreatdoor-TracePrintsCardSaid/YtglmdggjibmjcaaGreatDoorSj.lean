/-
  THE LAW of a script's printing answers true, in abstract memory.
-/
import Derived.Test.YtglmdggjibmjcaaGreatDoorSi
import Derived.Test.YtglmdggjibmjcaaGreatDoorSf
noncomputable section
set_option linter.unusedVariables false
set_option linter.unusedSimpArgs false
set_option maxRecDepth 100000
set_option exponentiation.threshold 3000
open Nat (ble beq)
namespace Go.Ev
open Go F Go.Proofs
inductive SL (B:Nat) (h:H):Value->List Bs->Prop
 | nil {a:Nat} {cs:T Value} (lo:B<=a) (lt:a<h.next) (hq:hget h a=.row 9 0 false false 0 cs):SL B h (.slice (some ⟨a,0,none⟩) 0 0) []
 | row {a:Nat} {cs:T Value} {l:List Bs} (lo:B<=a) (lt:a<h.next) (hq:hget h a=.row 9 l.length true false 0 cs) (hp:0<l.length) (hc:∀i,(hi:i<l.length)->getF cs i=aj l[i]):SL B h (.slice (some ⟨a,0,none⟩) l.length (2*l.length+1)) l
theorem axt {h:H} {x:Value} {m:List Bs} (o:WL h x m):ie x=m.length/\kq h 1 m.length x=some (m.map aj):=by
 cases o with
 | nil=>exact⟨rfl,rfl⟩
 | gar ha=>
  refine⟨rfl,?_⟩;rename_i a;obtain⟨b,of,sp⟩:=a;cases sp with
  | none=>exact nomatch ha
  | some p=>rfl
 | row hb hq hm hcap hc=>
  rename_i b of e n c fz op ro cs;refine⟨rfl,?_⟩;by_cases q:m=[]
  ·subst q;unfold kq;simp only[List.length_nil,Nat.zero_mul,Nat.beq_refl,cond_true,List.map_nil];cases h.objs.get b <;> first | rfl | (rename_i a1 a2 a3 a4 a5 a6;show (bif ble (of+0) a2 then some (aY a6 of 0) else some [])=some [];cases ble (of+0) a2 <;> rfl)
  ·have hq:=hq q;rw[bi] at hq;have h1:ble (of+m.length*1) n=true:=aJ (by omega);unfold kq;simp only[hq,h1,cond_true];rw[Nat.mul_one];have hml:(m.map aj).length=m.length:=List.length_map ..;have hcl:aY cs of (m.map aj).length=m.map aj:=by refine dD (m.map aj) cs of λi hi=>?_;rw[hml] at hi;rw[<-bF,hc i hi,List.getD_eq_getElem?_getD,List.getElem?_map,List.getElem?_eq_getElem hi];rfl
   rw[hml] at hcl;rw[hcl]
theorem Dg (m:List Bs):(m.map aj).all cell1=true:=by rw[List.all_eq_true];intro x hx;obtain⟨s,_,rfl⟩:=List.mem_map.1 hx;rfl
theorem appW {E:Env} {i:TypeInfo} (T1:EI E 37 9 1 i [.string ⟨⟨[]⟩⟩]) {B:Nat} {h:H} {v x:Value} {l m:List Bs} (o:SL B h v l) (w:WL h x m) (hl:l.length+m.length<=1000) (hn:h.next<=900000000):
  ∃v' h',ba E h .append [v,x] [37,37]=some (v',h')/\SL B h' v' (l++m)/\dI B h h' 1:=by
 obtain⟨w1,w2⟩:=axt w;obtain⟨s',hs',hs0⟩:∃s',i.size=s'+1/\s'=0:=⟨0,T1.sz,rfl⟩;have hss:s'+1=1:=by omega
 have hroom:room h=true:=aJ (by omega);have hnews:iv h (s'+1) [.string ⟨⟨[]⟩⟩] false x=some (m.length,m.map aj):=by rw[hss];simp only[iv,cond_false,w1,w2]
 have hnum:gu E [37]=some false:=by simp only[gu,T1.u]
 have hbt:=T1.bt;have b1:ble ((l.length+m.length)*(i.bytes+1)) 1000000000=true:=aJ (Nat.le_trans (Nat.mul_le_mul hl (show i.bytes+1<=1001 by omega)) (by decide));have b2:ble ((l.length+m.length)*(s'+1)) 1000000000=true:=aJ (by rw[hss];omega);have hzb:beq ([.string ⟨⟨[]⟩⟩]:List Value).length (s'+1)=true:=fU (by rw[hss];rfl);have hml:(m.map aj).length=m.length:=List.length_map ..;cases o with
 | nil lo lt hq=>
  rename_i a cs;have b1:ble ((0+m.length)*(i.bytes+1)) 1000000000=true:=b1;have b2:ble ((0+m.length)*(s'+1)) 1000000000=true:=b2;have hq':=hq;rw[bi] at hq';by_cases q:m=[]
  ·subst q;have hst:bO h ⟨a,0+0*(s'+1),none⟩ (([]:List Bs).map aj)=some (hset h a (.row 9 0 false false 0 cs)):=by rw[hss,eD];simp only[bO,hq',List.map_nil];rfl
   refine⟨.slice (some ⟨a,0,none⟩) 0 0,hset h a (.row 9 0 false false 0 cs),?_,?_,dI.mono (dI.set lo (by omega) _) (by omega)⟩
   ·have c0:ble (0+([]:List Bs).length) (0 / 2)=true:=rfl;simp only[ba,hnum,en,T1.u,T1.inf,T1.zc,hs',hnews,b1,b2,hzb,Bool.and_self,cond_true,c0,Option.isSome_none,cond_false,hst];rfl
   ·exact .nil lo (show a<h.next from lt) (bp _ _ _ (by omega))
  ·have hmp:0<m.length:=List.length_pos_iff.2 q;have c0:ble (0+m.length) (0 / 2)=false:=cz (by omega);have c1:beq (0%2) 0=true:=rfl;have c2:ble (0+0*(s'+1)) 0=true:=aJ (by omega);refine⟨.slice (some ⟨h.next,0,none⟩) m.length (2*m.length+1),ae h (.row 9 m.length true false 0 (T.ofList unk (m.map aj))),?_,?_,((Fr.push _ (by omega)).b (by omega)).mono (Nat.le_refl _)⟩
   ·simp only[ba,hnum,en,T1.u,T1.inf,T1.zc,hs',hnews,b1,b2,hzb,Bool.and_self,cond_true,c0,Option.isSome_none,cond_false,hroom,hq',c1,c2,cV];simp only[Nat.zero_mul,Nat.zero_add,hss,Nat.mul_one];rfl
   ·rw[List.nil_append];refine .row (by omega) (show h.next<h.next+1 by omega) (aB _ _ (by omega)) hmp λj hj=>?_;rw[aH,List.getD_eq_getElem?_getD,List.getElem?_map,List.getElem?_eq_getElem hj];rfl
 | row lo lt hq hp hc=>
  rename_i a cs;have hq':=hq;rw[bi] at hq';have hh:(2*l.length+1) / 2=l.length:=by omega
  by_cases q:m=[]
  ·subst q;have hst:bO h ⟨a,0+l.length*(s'+1),none⟩ (([]:List Bs).map aj)=some (hset h a (.row 9 l.length true false 0 cs)):=by rw[hss,eD,Nat.zero_add,Nat.mul_one];have d1:ble 0 l.length=true:=aJ (Nat.zero_le _);have d2:ble (l.length+0) l.length=true:=aJ (Nat.le_refl _);have d3:ble l.length 1000000000=true:=aJ (by omega);simp only[bO,hq',List.map_nil,List.length_nil,d1,d2,d3,List.all_nil,Bool.and_self,cond_true];rfl
   refine⟨.slice (some ⟨a,0,none⟩) l.length (2*l.length+1),hset h a (.row 9 l.length true false 0 cs),?_,?_,dI.mono (dI.set lo (by omega) _) (by omega)⟩
   ·have c0:ble (l.length+([]:List Bs).length) l.length=true:=aJ (Nat.le_refl _);simp only[ba,hnum,en,T1.u,T1.inf,T1.zc,hs',hnews,b1,b2,hzb,Bool.and_self,cond_true,hh,c0,Option.isSome_none,cond_false,hst];rfl
   ·rw[List.append_nil];exact .row lo (show a<h.next from lt) (bp _ _ _ (by omega)) hp hc
  ·have hmp:0<m.length:=List.length_pos_iff.2 q;have c0:ble (l.length+m.length) l.length=false:=cz (by omega);have c1:beq ((2*l.length+1)%2) 0=false:=dH (by omega);have c2:beq (l.length*(s'+1)) l.length=true:=fU (by rw[hss];omega);have c3:ble 0 l.length=true:=aJ (Nat.zero_le _);have hac:=Dg m;refine⟨.slice (some ⟨h.next,0,none⟩) (l.length+m.length) (2*(l.length+m.length)+1),ae (hset h a .dead) (.row 9 (l.length+m.length) true false 0 (putCells cs l.length (m.map aj))),?_,?_,?_⟩
   ·simp only[ba,hnum,en,T1.u,T1.inf,T1.zc,hs',hnews,b1,b2,hzb,Bool.and_self,cond_true,hh,c0,Option.isSome_none,cond_false,hroom,hq',c1,c2,c3,hac,Nat.beq_refl,Bool.not_false,cV,eD];simp only[hss,Nat.mul_one]
    try rfl
   ·have e:l.length+m.length=(l++m).length:=(List.length_append ..).symm;rw[e];refine .row (by omega) (show h.next<h.next+1 by omega) (aB (hset h a .dead) _ (by show h.next<=_;omega)) (by rw[<-e];omega) λj hj=>?_;rw[<-e] at hj;rw[bF,bw _ _ _ (by rw[hml];omega),hml];by_cases q2:j<l.length
    ·rw[if_neg (by omega),<-bF,hc j q2,List.getElem_append_left q2]
    ·rw[if_pos (by omega),List.getElem_append_right (by omega),List.getD_eq_getElem?_getD,List.getElem?_map,List.getElem?_eq_getElem (show j-l.length<m.length by omega)];rfl
   ·exact (dI.set lo (by omega) _).trans ((Fr.push _ (by show h.next<=_;omega)).b (by show B<=h.next;omega)) (Nat.le_refl _)
theorem SL.wl {B:Nat} {h:H} {v:Value} {l:List Bs} (o:SL B h v l):WL h v l:=by
 cases o with
 | nil lo lt hq=>exact .row (l:=[]) (c:=0) lt (λq=>absurd rfl q) (m:=0) (o:=0) (cells:=.c unk) (e:=0) (fz:=0) (op:=false) (ro:=false) (by simp) (by simp) λi hi=>absurd hi (Nat.not_lt_zero _)
 | row lo lt hq hp hc=>exact .row (c:=2*l.length+1) lt (λ_=>hq) (by omega) (by omega) λi hi=>by rw[Nat.zero_add];exact hc i hi
def Ak (E:Env) (a a0:Value) (b:aa [3]->H->R):(aa [3,8]->H->R)->aa [3,8]->H->R:=λc d e=>binR (binC E .lss 3 false false) d.2.1 a λf=>@joinR [] (λ_ g=>@joinR [3] (λh i=>binR (binC E .add 3 false true) d.2.1 (.int .i64 (.ofNat 1)) λj=>c (h.1,(j,())) i) λh=>onNat d.2.1 none λi=>onSl a0 none λj l _=>ifB (ble (Nat.succ i) l) (addOffF j (Nat.mul i 9) λm=>onPtr m λn=>onRow (hget g n.1) λ_ o _ _ _ p=>ifB (ble (Nat.add n.2 9) o) (ifB (ble g.1 1000000000) (letH (ae g (.row 39 9 false false 0 (T.ofList unk lu))) λq=>onRow (hget q g.1) λr s t u v w=>ifB (notB u) (ifB (beq (lenF (ac p 9 n.2)) 9) (ifB (ble v 0) (ifB (ble 9 s) (ifB (ble s 1000000000) (ifB (allF (λx=>cell1F x) (ac p 9 n.2)) (letH (hset q g.1 (.row r s t false v (putF w 0 (ac p 9 n.2)))) λx=>onRow (hget x g.1) λ_ y _ _ _ z=>ifB (ble 1 y) (onRow (hget x g.1) λ_ a1 _ _ _ a2=>ifB (ble 2 a1) (onRow (hget x g.1) λ_ a3 _ _ _ a4=>ifB (ble 3 a3) (onRow (hget x g.1) λ_ a5 _ _ _ a6=>ifB (ble 4 a5) (onRow (hget x g.1) λ_ a7 _ _ _ a8=>ifB (ble 5 a7) (onRow (hget x g.1) λ_ a9 _ _ _ b0=>ifB (ble 6 a9) (onRow (hget x g.1) λ_ b1 _ _ _ b2=>ifB (ble 7 b1) (onRow (hget x g.1) λ_ b3 _ _ _ b4=>ifB (ble 8 b3) (onRow (hget x g.1) λ_ b5 _ _ _ b6=>ifB (ble 9 b5) (bindO (co E 54 [(0,getF z 0),(1,getF a2 1),(2,getF a4 2),(3,getF a6 3),(4,getF a8 4),(5,getF b0 5),(6,getF b2 6),(7,getF b4 7),(8,getF b6 8)]) λb7=>@Option.rec (List Value) (λ_=>R) none (λb8=>ifB (ble x.1 1000000000) (letH (ae x (.row 54 9 false false 0 (T.ofList unk b8))) λb9=>cO (ba E b9 Builtin.append [d.1,.slice (some (Addr.mk x.1 0 none)) 1 2] [30,30]) λc0 c1=>h (c0,()) c1)) (dm (λb8=>some (Nat.mul b8 9,9)) (List.flatten (List.replicate 1 (cellsOfV (.agg (@List.toArray Value lu))))) [(0,b7)])))))))))))))))))))) λg=>onB f (b (d.1,()) e) (g () e)
def p9 (E:Env) (rc:RC) (a0:Value) (h:H) (k:Value->H->R):R:=joinL (λa=>@joinR [3] (λb c=>k b.1 c) λb=>@loopF [3,8] (Ak E a a0 b) cK (.slice none 0 0,(.int .i64 (.ofNat 0),())) h) λa=>onSl a0 (bindO (aZ E h 22 a0) a) λ_ b _=>a (.int .i64 (.ofNat b))
theorem asT (t:ak) (rc:RC) (a0:Value) (h:H) (k:Value->H->R):(aD (EX t) KK 9).run rc [a0] h k=p9 (EX t) rc a0 h k:=by kernel_rfl
def CP (E:Env) (a b:Value) (k:Value->H->R) (c:aa [2,42]->H->R):(aa [2,42]->H->R)->aa [2,42]->H->R:=λd e f=>binR (binC E .lss 3 false false) e.2.1 a λg=>@joinR [] (λ_ h=>@joinR [2] (λi j=>binR (binC E .add 3 false true) e.2.1 (.int .i64 (.ofNat 1)) λl=>d (i.1,(l,())) j) λi=>onNat e.2.1 none λj=>onSl b none λl m _=>ifB (ble (Nat.succ j) m) (addOffF l (Nat.mul j 1) λn=>onPtr n λo=>onRow (hget h o.1) λ_ p _ _ _ q=>ifB (ble (Nat.succ o.2) p) (bindO (aZ E h 9 (getF q o.2)) λr=>binR (binC E .gtr 3 false true) r (.int .i64 (.ofNat 300)) λs=>@joinR [2] (λt u=>i (t.1,()) u) λt=>onB s (t (e.1,()) h) (k (.bool false) h)))) λh=>onB g (c (e.1,(e.2.1,())) f) (h () f)
def anq (a b:H) (E:Env) (c:aa [2]->H->R) (k:Value->H->R) (d:aa [2]):R:=ifB (ble a.1 1000000000) (letH (H.mk (Nat.add a.1 1) a.2) λe=>letH (hset e a.1 (.row 9 0 false false 0 (T.ofList unk (List.flatten (List.replicate 0 (cellsOfV (.string (ByteArray.mk #[])))))))) λf=>onRow (hget f b.1) λ_ g _ _ _ h=>ifB (ble 4 g) (onRow (hget f b.1) λ_ i _ _ _ j=>ifB (ble 9 i) (cO (ba E f Builtin.append [.slice (some (Addr.mk a.1 0 none)) 0 0,getF h 3] [37,37]) λl m=>ifB (ai (.pointer (some (Addr.mk b.1 8 none))) (.pointer (some (Addr.mk b.1 8 none)))) (onRow (hget m b.1) λ_ n _ _ _ o=>ifB (ble 9 n) (ifB (ai (getF o 8) (getF j 8)) (cO (ba E m Builtin.append [l,getF j 8] [37,37]) λp q=>joinL (λr=>@joinR [2,42] (λs t=>c (s.1,()) t) λs=>@loopF [2,42] (CP E r p k s) cK (d.1,(.int .i64 (.ofNat 0),())) q) λr=>onSl p (bindO (aZ E q 37 p) r) λ_ s _=>r (.int .i64 (.ofNat s))))))))
def YN (a:H) (E:Env) (b:aa [2]->H->R) (k:Value->H->R) (c:H):R:=@joinR [2] (λd e=>anq e a E b k d) λ_=>k (.bool false) c
def uI (a b:Value) (c:H) (d:Value->H->R):R:=aF a (onPtr b λe=>onRow (hget c e.1) λ_ f _ _ _ g=>ifB (ble (Nat.succ e.2) f) (d (getF g e.2) c)) (d undef c) (d undef c)
def adm (a:H) (E:Env) (b:aa [2]->H->R) (k:Value->H->R) (c:H):R:=ab (λ_ d=>ab (λ_ e=>ab (λ_ f=>ab (λ_ g=>YN a E b k g) λg=>g undef f) λf=>f undef e) λe=>e undef d) λd=>d undef c
def vU (a:Value) (E:Env) (b:Value) (c:Value->H->R) (d:H):R:=aF a (binR (binC E .gtr 3 false true) b (.int .i64 (.ofNat 6)) λe=>c e d) (c undef d) (c undef d)
def wP (a:Value) (b:Value->H->R) (c:H) (d:Value) (E:Env):R:=aF a (joinL (λe=>b e c) λe=>onSl d (bindO (aZ E c 37 d) e) λ_ f _=>e (.int .i64 (.ofNat f))) (b undef c) (b undef c)
def se (E:Env) (a a0:Value) (k:Value->H->R) (b:aa [2]->H->R):(aa [2,9]->H->R)->aa [2,9]->H->R:=λc d e=>binR (binC E .lss 3 false false) d.2.1 a λf=>@joinR [] (λ_ g=>@joinR [2] (λh i=>binR (binC E .add 3 false true) d.2.1 (.int .i64 (.ofNat 1)) λj=>c (h.1,(j,())) i) λh=>onNat d.2.1 none λi=>onSl a0 none λj l _=>ifB (ble (Nat.succ i) l) (addOffF j (Nat.mul i 9) λm=>onPtr m λn=>onRow (hget g n.1) λ_ o _ _ _ p=>ifB (ble (Nat.add n.2 9) o) (ifB (ble g.1 1000000000) (letH (ae g (.row 39 9 false false 0 (T.ofList unk lu))) λq=>onRow (hget q g.1) λr s t u v w=>ifB (notB u) (ifB (beq (lenF (ac p 9 n.2)) 9) (ifB (ble v 0) (ifB (ble 9 s) (ifB (ble s 1000000000) (ifB (allF (λx=>cell1F x) (ac p 9 n.2)) (letH (hset q g.1 (.row r s t false v (putF w 0 (ac p 9 n.2)))) λx=>binR (binC E .geq 3 false true) d.2.1 (.int .i64 (.ofNat 1001)) λy=>ab (λz a1=>ab (λa2 a3=>ab (λa4 a5=>ab (λa6 a7=>onB y (ab (λa8 a9=>ab (λb0 b1=>ab (λb2 b3=>ab (λb4 b5=>onB a6 (ab (λb6 b7=>ab (λb8 b9=>ab (λc0 c1=>ab (λc2 c3=>onB b4 (@joinR [2] (λc4 c5=>anq c5 g E h k c4) λc4=>onB c2 (c4 (d.1,()) c3) (k (.bool false) c3)) (YN g E h k c3)) λc2=>aF b4 (binR (binC E .gtr 3 false true) c0 (.int .i64 (.ofNat 300)) λc3=>c2 c3 c1) (c2 undef c1) (c2 undef c1)) λc0=>aF b4 (bindO (aZ E b9 9 b8) λc1=>c0 c1 b9) (c0 undef b9) (c0 undef b9)) λb8=>uI b4 b6 b7 b8) λb6=>aF b4 (b6 (.pointer (some (Addr.mk g.1 2 none))) b5) (b6 undef b5) (b6 undef b5)) (adm g E h k b5)) λb4=>vU a6 E b2 b4 b3) λb2=>wP a6 b2 b1 b0 E) λb0=>uI a6 a8 a9 b0) λa8=>aF a6 (a8 (.pointer (some (Addr.mk g.1 8 none))) a7) (a8 undef a7) (a8 undef a7)) (ab (λ_ a8=>ab (λ_ a9=>ab (λ_ b0=>ab (λ_ b1=>adm g E h k b1) λb1=>b1 undef b0) λb0=>b0 undef a9) λa9=>a9 undef a8) λa8=>a8 undef a7)) λa6=>vU y E a4 a6 a5) λa4=>wP y a4 a3 a2 E) λa2=>uI y z a1 a2) λz=>aF y (z (.pointer (some (Addr.mk g.1 3 none))) x) (z undef x) (z undef x))))))))))) λg=>onB f (b (d.1,()) e) (g () e)
def p6 (E:Env) (rc:RC) (a0:Value) (h:H) (k:Value->H->R):R:=joinL (λa=>@joinR [2] (λ_ b=>k (.bool true) b) λb=>@loopF [2,9] (se E a a0 k b) cK (.bool false,(.int .i64 (.ofNat 0),())) h) λa=>onSl a0 (bindO (aZ E h 22 a0) a) λ_ b _=>a (.int .i64 (.ofNat b))
theorem avu (t:ak) (rc:RC) (a0:Value) (h:H) (k:Value->H->R):(aD (EX t) KK 6).run rc [a0] h k=p6 (EX t) rc a0 h k:=by kernel_rfl
def acO (rc:RC) (a0 a1 a2:Value) (a:H) (E:Env) (k:Value->H->R):R:=rc 7 [a0,a1,a2] a λb c=>onTup b λd=>nthF 0 d λe=>onTup b λf=>nthF 1 f λg=>rc 9 [a2] c λh i=>rc 8 [a0,a1,h] i λj l=>onTup j λm=>nthF 0 m λn=>onTup j λo=>nthF 1 o λp=>binR (binC E .eql 9 false false) e n λq=>ab (λr s=>ab (λt u=>ab (λv w=>onB q (k (.bool false) w) (k v w)) λv=>aF q (v undef u) (binR (binC E .eql 3 false false) r t λw=>v w u) (v undef u)) λt=>aF q (t undef s) (t p s) (t undef s)) λr=>aF q (r undef l) (r g l) (r undef l)
def ag2 (rc:RC) (a2:Value) (a:H) (a0 a1:Value) (E:Env) (k:Value->H->R) (b:aa [6]):R:=rc 6 [a2] a λc d=>onB c (@joinR [6] (λ_ e=>acO rc a0 a1 a2 e E k) λ_=>k (.bool true) d) (@joinR [6] (λ_ e=>acO rc a0 a1 a2 e E k) λe=>e (b.1,()) d)
def p3 (E:Env) (rc:RC) (a0:Value) (a1:Value) (a2:Value) (h:H) (k:Value->H->R):R:=rc 5 [] h λa b=>onB a (@joinR [6] (λc d=>ag2 rc a2 d a0 a1 E k c) λ_=>k (.bool false) b) (@joinR [6] (λc d=>ag2 rc a2 d a0 a1 E k c) λc=>c (.bool false,()) b)
theorem aud (t:ak) (rc:RC) (a0:Value) (a1:Value) (a2:Value) (h:H) (k:Value->H->R):(aD (EX t) KK 3).run rc [a0,a1,a2] h k=p3 (EX t) rc a0 a1 a2 h k:=by kernel_rfl
section
structure gN (c:dj):Prop where
 on:c.on.length<=6
 tx:c.texts.length<=6
 lb:c.label.length<=300
 ws:∀s∈c.on++c.texts,s.length<=300
variable {E : Env} (u : UT E) {i37 : TypeInfo} (T1 : EI E 37 9 1 i37 [.string ⟨⟨[]⟩⟩])
section
variable {a b c : H} {E : Env} {k : Value -> H -> R} {f : aa [2] -> H -> R}
theorem td:YN a E f k c=k (.bool false) c:=rfl
theorem sM:adm a E f k c=k (.bool false) c:=rfl
end
include u
theorem Gg {v:Value} {ws:List Bs} {h:H} (o:WL h v ws) (hl:ws.length<=1000) (k:Value->H->R) (c:aa [2,42]->H->R) (x:Value):∀(d i N:Nat),i+d=ws.length->d<N ->
  @loopF [2,42] (CP E (.int .i64 (.ofNat ws.length)) v k c) N (x,(.int .i64 (.ofNat i),())) h=if (ws.drop i).all (λs=>ble s.length 300)=true then c (x,(.int .i64 (.ofNat ws.length),())) h else k (.bool false) h:=by
 have u3:=u.u3;intro d
 induction d with
 | zero=> intro i N hi hN;obtain⟨N',rfl⟩:∃N',N=N'+1:=⟨N-1,by omega⟩;rw[aR,List.drop_eq_nil_of_le (by omega)];unfold CP;dsimp only;rw[fp u3 (by omega),ag,ar,show i=ws.length by omega];rfl
 | succ d ih=>
  intro i N hi hN;obtain⟨N',rfl⟩:∃N',N=N'+1:=⟨N-1,by omega⟩;have hlt:i<ws.length:=by omega
  rw[aR,List.drop_eq_getElem_cons hlt,List.all_cons];have ih':=ih (i+1) N' (by omega) (by omega);generalize @loopF [2,42] (CP E (.int .i64 (.ofNat ws.length)) v k c) N'=L at ih' ⊢;obtain⟨b,of,cp,e',m,op,ro,fz,cs,rfl,hq,hlt2,hcx⟩:=o.get hlt;have hqr:∀K,onRow (hget h b) K=K e' m op ro fz cs:=λK=>by rw[hq];rfl
  have hb1:ble (Nat.succ i) ws.length=true:=aJ hlt;have hb2:ble (Nat.succ (of+i)) m=true:=aJ (by omega);unfold CP;dsimp only;rw[gt u3 hlt,ag,az];dsimp only;simp only[↓ag,↓bK,↓bP,hb1,↓bI,↓bM,↓au,Nat.mul_eq,Nat.mul_one,↓hqr,hb2,hcx];unfold aj;rw[fD u.toUS,aA,dC u3];by_cases q:300<(ws[i]).length
  ·rw[aJ (by omega),az,cz q];rfl
  ·rw[cz (by omega),ar,aJ (show (ws[i]).length<=300 by omega),Bool.true_and,cf u3 (by omega),ih']
include T1
theorem Tg {l:List dj} {i:Nat} (hi:i<l.length) (hi2:i<=1001) {h:H} {bk of m cp e0 fz:Nat} {op ro:Bool} {cs:T Value} (hq:hget h bk=.row e0 m op ro fz cs) (hm:of+l.length*9<=m) {ln:Int} {von vtx:Value} (hcell:ac cs 9 (of+i*9)=aL ln l[i] von vtx) (w1:WL h von l[i].on) (w2:WL h vtx l[i].texts) (hn:h.next<=800000000)
  (k:Value->H->R) (c:aa [2]->H->R) (L:aa [2,9]->H->R) (x:Value) (X:R) (e:se E (.int .i64 (.ofNat l.length)) (.slice (some ⟨bk,of,none⟩) l.length cp) k c L (x,(.int .i64 (.ofNat i),())) h=X):
  ∃h',Fr h h' 6/\(X=k (.bool false) h' \/ (i<1001/\gN l[i]/\∃x',X=L (x',(.int .i64 (.ofNat (i+1)),())) h')):=by
 have u3:=u.u3;have hqr:∀K,onRow (hget h bk) K=K e0 m op ro fz cs:=λK=>by rw[hq];rfl
 unfold se at e;dsimp only at e;rw[gt u3 hi,ag,az] at e;dsimp only at e;rw[ag,bK,bP,am (show Nat.succ i<=l.length from hi),bM,au] at e;simp only[Nat.mul_eq,↓hqr] at e;rw[am (show Nat.add (of+i*9) 9<=m by show of+i*9+9<=m;omega),hcell,am (show h.1<=1000000000 by show h.next<=_;omega),aE] at e;have f1:Fr h (ae h (.row 39 9 false false 0 (T.ofList unk lu))) 1:=Fr.push _ (by omega);have g1:hget (ae h (.row 39 9 false false 0 (T.ofList unk lu))) h.1=.row 39 9 false false 0 (T.ofList unk lu):=aB _ _ (by show h.next<=_;omega);have n1:(ae h (.row 39 9 false false 0 (T.ofList unk lu))).next=h.next+1:=rfl;generalize ae h (.row 39 9 false false 0 (T.ofList unk lu))=h1 at e f1 g1 n1;generalize T.ofList unk lu=zc at g1;have hall:=w1.cellsV w2 ln l[i];rw[QS g1 (show (aL ln l[i] von vtx).length=9 from rfl) hall] at e;have f2:dI h.next h1 (hset h1 h.1 (.row 39 9 false false 0 (putF zc 0 (aL ln l[i] von vtx)))) 0:=dI.set (Nat.le_refl _) (by show h.next<=_;omega) _;have g2:hget (hset h1 h.1 (.row 39 9 false false 0 (putF zc 0 (aL ln l[i] von vtx)))) h.1=.row 39 9 false false 0 (putF zc 0 (aL ln l[i] von vtx)):=bp _ _ _ (by show h.next<=_;omega);have n2:(hset h1 h.1 (.row 39 9 false false 0 (putF zc 0 (aL ln l[i] von vtx)))).next=h1.next:=rfl;generalize hset h1 h.1 (.row 39 9 false false 0 (putF zc 0 (aL ln l[i] von vtx)))=h2 at e f2 g2 n2;have hcl:ac (putF zc 0 (aL ln l[i] von vtx)) 9 0=aL ln l[i] von vtx:=nc _ rfl;have gv:∀j,j<9->getF (putF zc 0 (aL ln l[i] von vtx)) j=(aL ln l[i] von vtx).getD j unk:=λj hj=>by rw[fv,bF,bw _ _ _ (by show 0+9<=_;omega),if_pos ⟨Nat.zero_le _,by show j<0+9;omega⟩];rfl
 generalize putF zc 0 (aL ln l[i] von vtx)=cc at g2 hcl gv;have f12:Fr h h2 1:=⟨Nat.le_trans f1.le f2.le,by have:=f1.ub;have:=f2.ub;omega,λid hid=>(f2.old id hid).trans (f1.old id hid)⟩;have hu2:=f12.ub;have q2:∀K,onRow (hget h2 h.1) K=K 39 9 false false 0 cc:=λK=>by rw[g2];rfl
 have g3:getF cc 3=von:=gv 3 (by omega);have g8:getF cc 8=vtx:=gv 8 (by omega);have gl:getF cc 2=aj l[i].label:=gv 2 (by omega);have b3:ble (Nat.succ 3) 9=true:=rfl;have b8:ble (Nat.succ 8) 9=true:=rfl;have b2:ble (Nat.succ 2) 9=true:=rfl;have l1:=λK=>io (E:=E) (h':=h2) (w1.fr f12) u.u37 K;have l2:=λK=>io (E:=E) (h':=h2) (w2.fr f12) u.u37 K;have q1:∀K,binR (binC E .gtr 3 false true) (.int .i64 (.ofNat l[i].on.length)) (.int .i64 (.ofNat 6)) K=K (.bool (ble 7 l[i].on.length)):=λK=>dC u3;have q3:∀K,binR (binC E .gtr 3 false true) (.int .i64 (.ofNat l[i].texts.length)) (.int .i64 (.ofNat 6)) K=K (.bool (ble 7 l[i].texts.length)):=λK=>dC u3;have q4:∀K,binR (binC E .gtr 3 false true) (.int .i64 (.ofNat l[i].label.length)) (.int .i64 (.ofNat 300)) K=K (.bool (ble 301 l[i].label.length)):=λK=>dC u3;have q5:∀K,bindO (aZ E h2 9 (aj l[i].label)) K=K (.int .i64 (.ofNat l[i].label.length)):=λK=>by unfold aj;rw[fD u.toUS,aA]
 rw[jj u3] at e;have bad:k (.bool false) h2=X->∃h',Fr h h' 6/\(X=k (.bool false) h' \/ (i<1001/\gN l[i]/\∃x',X=L (x',(.int .i64 (.ofNat (i+1)),())) h')):=λe=>⟨h2,f12.mono (by omega),.inl e.symm⟩;by_cases qi:1001<=i
 ·rw[aJ qi] at e;simp only[↓aK,↓bT,↓cZ,↓az,↓uI,↓vU,↓wP,↓sM,↓td] at e;exact bad e
 rw[cz (show i<1001 by omega)] at e;by_cases k1:7<=l[i].on.length
 ·rw[aJ k1] at q1;simp only[↓aK,↓bd,↓bT,↓cS,↓cZ,↓az,↓ar,↓uI,↓vU,↓wP,↓sM,↓td,↓au,↓q2,b3,↓bI,g3,↓l1,↓q1] at e;exact bad e
 rw[cz (show l[i].on.length<7 by omega)] at q1;by_cases k2:7<=l[i].texts.length
 ·rw[aJ k2] at q3;simp only[↓aK,↓bd,↓bT,↓cS,↓cZ,↓az,↓ar,↓uI,↓vU,↓wP,↓sM,↓td,↓au,↓q2,b3,b8,↓bI,g3,g8,↓l1,↓l2,↓q1,↓q3] at e;exact bad e
 rw[cz (show l[i].texts.length<7 by omega)] at q3;by_cases k3:301<=l[i].label.length
 ·rw[aJ k3] at q4;simp only[↓aK,↓bd,↓ag,↓bT,↓cS,↓cZ,↓az,↓ar,↓uI,↓vU,↓wP,↓sM,↓td,↓au,↓q2,b3,b8,b2,↓bI,g3,g8,gl,↓l1,↓l2,↓q1,↓q3,↓q5,↓q4] at e;exact bad e
 rw[cz (show l[i].label.length<301 by omega)] at q4;simp only[↓aK,↓bd,↓ag,↓bT,↓cS,↓cZ,↓az,↓ar,↓uI,↓vU,↓wP,↓sM,↓td,↓au,↓q2,b3,b8,b2,↓bI,g3,g8,gl,↓l1,↓l2,↓q1,↓q3,↓q5,↓q4] at e;unfold anq at e;rw[am (show h2.1<=1000000000 by show h2.next<=_;omega),aE,aE,ka] at e;have hlt2:h.next<h2.next:=by omega
 have f3:Fr h2 (ae h2 (.row 9 0 false false 0 (T.ofList unk (List.flatten (List.replicate 0 (cellsOfV (.string (ByteArray.mk #[])))))))) 1:=Fr.push _ (by omega);have g4:hget (ae h2 (.row 9 0 false false 0 (T.ofList unk (List.flatten (List.replicate 0 (cellsOfV (.string (ByteArray.mk #[])))))))) h2.next=.row 9 0 false false 0 (T.ofList unk (List.flatten (List.replicate 0 (cellsOfV (.string (ByteArray.mk #[])))))):=aB _ _ (by omega);have n3:(ae h2 (.row 9 0 false false 0 (T.ofList unk (List.flatten (List.replicate 0 (cellsOfV (.string (ByteArray.mk #[])))))))).next=h2.next+1:=rfl;generalize ae h2 (.row 9 0 false false 0 (T.ofList unk (List.flatten (List.replicate 0 (cellsOfV (.string (ByteArray.mk #[])))))))=h3 at e f3 g4 n3;have f13:Fr h h3 2:=f12.trans f3 (by omega);have q3r:∀K,onRow (hget h3 h.1) K=K 39 9 false false 0 cc:=λK=>by rw[f3.old _ hlt2,g2];rfl
 simp only[↓q3r] at e;rw[aO (show ble 4 9=true from rfl),aO (show ble 9 9=true from rfl),g3,g8] at e;obtain⟨v1,h4,e4,s4,f4⟩:=appW T1 (SL.nil (B:=h2.next) (Nat.le_refl _) (by omega) g4) (w1.fr f13) (by simp;omega) (by omega);have hu4:=f4.ub;rw[cB e4,aO (dQ _)] at e;have q4r:∀K,onRow (hget h4 h.1) K=K 39 9 false false 0 cc:=λK=>by rw[f4.old _ hlt2,f3.old _ hlt2,g2];rfl
 simp only[↓q4r] at e;have f34:Fr h h4 3:=by have a4:dI h.next h3 h4 1:=⟨f4.le,f4.ub,λid hid=>f4.old id (by omega)⟩;exact ((f13.b (Nat.le_refl _)).trans a4 (Nat.le_refl _)).fr
 rw[aO (show ble 9 9=true from rfl),g8,aO w2.same] at e;obtain⟨v2,h5,e5,s5,f5⟩:=appW T1 s4 (w2.fr f34) (by simp;omega) (by omega);have hu5:=f5.ub;have f35:Fr h h5 4:=by have a5:dI h.next h4 h5 1:=⟨f5.le,f5.ub,λid hid=>f5.old id (by omega)⟩;exact ((f34.b (Nat.le_refl _)).trans a5 (Nat.le_refl _)).fr
 rw[cB e5,bd] at e;rw[List.nil_append] at s5;rw[io s5.wl u.u37] at e;have hll:(l[i].on++l[i].texts).length<=1000:=by rw[List.length_append];omega
 rw[ag,Gg u s5.wl hll k _ x (l[i].on++l[i].texts).length 0 cK (by omega) (by unfold cK;omega),List.drop_zero] at e;cases ha:(l[i].on++l[i].texts).all (λs=>ble s.length 300) with
 | false=> rw[ha,if_neg (by decide)] at e;exact⟨h5,f35.mono (by omega),.inl e.symm⟩
 | true=> rw[ha,if_pos rfl] at e;dsimp only at e;rw[cf u3 (by omega)] at e;refine⟨h5,f35.mono (by omega),.inr ⟨by omega,⟨by omega,by omega,by omega,λs hs=>Nat.le_of_ble_eq_true (List.all_eq_true.1 ha s hs)⟩,x,e.symm⟩⟩
theorem arP {hb:H} {l:List dj} {bk of m cp e0 fz:Nat} {op ro:Bool} {cs:T Value} (hbk:bk<hb.next) (hq:l ≠ []->hget hb bk=.row e0 m op ro fz cs) (hm:of+l.length*9<=m)
  (hc:∀i,(hi:i<l.length)->i<1002->∃ln von vtx,ac cs 9 (of+i*9)=aL ln l[i] von vtx/\WL hb von l[i].on/\WL hb vtx l[i].texts) (k:Value->H->R) (c:aa [2]->H->R):
  ∀(d i N:Nat) (x:Value) (h:H) (X:R),i+d=1001->d<N->bJ hb h->h.next+(d+1)*6<=700000000->(∀j,(hj:j<l.length)->j<i->gN l[j]) ->
   @loopF [2,9] (se E (.int .i64 (.ofNat l.length)) (.slice (some ⟨bk,of,none⟩) l.length cp) k c) N (x,(.int .i64 (.ofNat i),())) h=X ->
   ∃h',Fr h h' ((d+1)*6)/\(X=k (.bool false) h' \/ (l.length<=1001/\(∀c∈l,gN c)/\∃x',X=c (x',()) h')):=by
 have u3:=u.u3;intro d
 induction d with
 | zero=>
  intro i N x h X hi hN f hn hp e;obtain⟨N',rfl⟩:∃N',N=N'+1:=⟨N-1,by omega⟩;rw[aR] at e;generalize @loopF [2,9] (se E (.int .i64 (.ofNat l.length)) (.slice (some ⟨bk,of,none⟩) l.length cp) k c) N'=L at e;by_cases q:l.length<=i
  ·unfold se at e;dsimp only at e;rw[fp u3 q,ag,ar] at e;refine⟨h,Fr.refl _ _,.inr ⟨by omega,λc hc=>?_,x,e.symm⟩⟩;obtain⟨j,hj,rfl⟩:=List.getElem_of_mem hc;exact hp j hj (by omega)
  ·have hlt:i<l.length:=by omega
   obtain⟨ln,von,vtx,hcell,w1,w2⟩:=hc i hlt (by omega);obtain⟨h',f',r⟩:=Tg u T1 hlt (by omega) ((f.old _ hbk).trans (hq (by intro q2;subst q2;exact absurd hlt (Nat.not_lt_zero _)))) hm hcell (w1.from f) (w2.from f) (by omega) k c L x X e;refine⟨h',f'.mono (by omega),?_⟩;rcases r with r | ⟨r,_⟩
   ·exact .inl r
   ·omega
 | succ d ih=>
  intro i N x h X hi hN f hn hp e;obtain⟨N',rfl⟩:∃N',N=N'+1:=⟨N-1,by omega⟩;rw[aR] at e;generalize hL:@loopF [2,9] (se E (.int .i64 (.ofNat l.length)) (.slice (some ⟨bk,of,none⟩) l.length cp) k c) N'=L at e;have hmul:(d+1+1)*6=(d+1)*6+6:=Nat.succ_mul _ _;rw[hmul] at hn ⊢;by_cases q:l.length<=i
  ·unfold se at e;dsimp only at e;rw[fp u3 q,ag,ar] at e;refine⟨h,Fr.refl _ _,.inr ⟨by omega,λc hc=>?_,x,e.symm⟩⟩;obtain⟨j,hj,rfl⟩:=List.getElem_of_mem hc;exact hp j hj (by omega)
  ·have hlt:i<l.length:=by omega
   obtain⟨ln,von,vtx,hcell,w1,w2⟩:=hc i hlt (by omega);obtain⟨h',f',r⟩:=Tg u T1 hlt (by omega) ((f.old _ hbk).trans (hq (by intro q2;subst q2;exact absurd hlt (Nat.not_lt_zero _)))) hm hcell (w1.from f) (w2.from f) (by omega) k c L x X e;have hu:=f'.ub;rcases r with r | ⟨r1,r2,x',r3⟩
   ·exact⟨h',f'.mono (by omega),.inl r⟩
   ·obtain⟨h2,f2,r⟩:=ih (i+1) N' x' h' X (by omega) (by omega) (f.trans f'.from) (by omega) (λj hj hji=>by
     by_cases q:j=i
     ·subst q;exact r2
     ·exact hp j hj (by omega)) (by rw[hL];exact r3.symm)
    exact⟨h2,f'.trans f2 (by omega),r⟩
theorem awF {rc:RC} (uN:E.und 22=some (.slice 39)) {W:H->Value->List Bs->Prop} (hW:jG W) {h:H} {v:Value} {l:List dj} (o:CW W h v l) (hn:h.next<=600000000) (k:Value->H->R) (X:R) (e:p6 E rc v h k=X):
  ∃h',Fr h h' 6012/\(X=k (.bool false) h' \/ (l.length<=1001/\(∀c∈l,gN c)/\X=k (.bool true) h')):=by
 have u3:=u.u3;unfold p6 at e;rw[bd,mL uN o,ag] at e;cases o with
 | nil=> rw[show cK=(cK-1)+1 from rfl,aR] at e;unfold se at e;dsimp only at e;rw[fp u3 (show ([]:List dj).length<=0 from Nat.le_refl _),ag,ar] at e;refine⟨h,Fr.refl _ _,Or.inr ⟨by simp,?_,e.symm⟩⟩;intro c hc;exact absurd hc (by simp)
 | row hbk hq hm hc=>
  obtain⟨h',f',r⟩:=arP u T1 hbk hq hm (λi hi hi2=>by
   obtain⟨ln,von,vtx,e,w1,w2⟩:=hc i hi hi2
   exact⟨ln,von,vtx,e,hW.2 _ _ _ w1,hW.2 _ _ _ w2⟩) k _ 1001 0 cK _ h X (by omega) (by unfold cK;omega) (bJ.refl _) (by omega) (λj _ hj=>absurd hj (Nat.not_lt_zero _)) e
  refine⟨h',f'.mono (by omega),?_⟩;rcases r with r | ⟨r1,r2,x',r3⟩
  ·exact .inl r
  ·exact .inr ⟨r1,r2,r3⟩
end
section
def B54 (E:Env):Prop:=∀(ln n m k:Int) (op kd:Nat) (lb:ByteArray) (a1 a2:Option Addr) (n1 c1 n2 c2:Nat),co E 54 [(0,.int .i64 ln),(1,.int .u8 (.ofNat op)),(2,.string lb),(3,.slice a1 n1 c1),(4,.int .i64 n),(5,.int .i64 m),(6,.int .i64 k),(7,.int .u8 (.ofNat kd)),(8,.slice a2 n2 c2)] =
 some (.agg ⟨[.int .i64 ln,.int .u8 (.ofNat op),.string lb,.slice a1 n1 c1,.int .i64 n,.int .i64 m,.int .i64 k,.int .u8 (.ofNat kd),.slice a2 n2 c2]⟩)
theorem WL.sl {h:H} {v:Value} {l:List Bs} (o:WL h v l):∃a n c,v=.slice a n c:=by cases o <;> exact⟨_,_,_,rfl⟩
theorem aax (ln n m k:Int) (op kd:Nat) (lb:ByteArray) (a1 a2:Option Addr) (n1 c1 n2 c2:Nat):dm (λb8=>some (b8*9,9)) (List.flatten (List.replicate 1 (cellsOfV (.agg (@List.toArray Value lu)))))
  [(0,.agg ⟨[.int .i64 ln,.int .u8 (.ofNat op),.string lb,.slice a1 n1 c1,.int .i64 n,.int .i64 m,.int .i64 k,.int .u8 (.ofNat kd),.slice a2 n2 c2]⟩)]=some [.int .i64 ln,.int .u8 (.ofNat op),.string lb,.slice a1 n1 c1,.int .i64 n,.int .i64 m,.int .i64 k,.int .u8 (.ofNat kd),.slice a2 n2 c2]:=rfl
structure OF (W:H->Value->List Bs->Prop) (hb h:H) (v:Value) (l:List dj) (n:Nat) (L:List Value):Prop where
 ol:OL 54 9 h v n L
 len:L.length=n*9
 lo:∀b,fX v=some b->hb.next<=b
 cells:∀i,(hi:i<n)->(hl:i<l.length)->∃ln von vtx,(∀j,j<9->L.getD (i*9+j) unk=(aL ln l[i] von vtx).getD j unk)/\W hb von l[i].on/\W hb vtx l[i].texts
variable {E : Env} (u : UT E) {i54 : TypeInfo} {z : List Value} (T1 : EI E 30 54 9 i54 z) (hB : B54 E)
include u T1 hB
theorem au4 {W:H->Value->List Bs->Prop} (hW:jG W) {hb:H} {l:List dj} (hl:l.length<=1001) {v0:Value} (o:CW W hb v0 l) (b:aa [3]->H->R):
  ∀(d i N:Nat) (v:Value) (L:List Value) (h:H) (X:R),i+d=l.length->d<N->bJ hb h->OF W hb h v l i L->h.next+d*4<=700000000 ->
   @loopF [3,8] (Ak E (.int .i64 (.ofNat l.length)) v0 b) N (v,(.int .i64 (.ofNat i),())) h=X ->
   ∃h' v' L',X=b (v',()) h'/\OF W hb h' v' l l.length L'/\dI hb.next h h' (d*4):=by
 have u3:=u.u3;intro d
 induction d with
 | zero=>
  intro i N v L h X hi hN f of hn e;obtain⟨N',rfl⟩:∃N',N=N'+1:=⟨N-1,by omega⟩;rw[aR] at e;generalize @loopF [3,8] (Ak E (.int .i64 (.ofNat l.length)) v0 b) N'=K at e;unfold Ak at e;dsimp only at e;rw[fp u3 (by omega),ag,ar] at e;obtain rfl:i=l.length:=by omega
  exact⟨h,v,L,e.symm,of,dI.refl _ _ _⟩
 | succ d ih=>
  intro i N v L h X hi hN f of hn e;obtain⟨N',rfl⟩:∃N',N=N'+1:=⟨N-1,by omega⟩;have hlt:i<l.length:=by omega
  rw[aR] at e;generalize hK:@loopF [3,8] (Ak E (.int .i64 (.ofNat l.length)) v0 b) N'=K at e;have o':=o;cases o' with
  | nil=>exact absurd hlt (Nat.not_lt_zero _)
  | row hbk hq hm hc=>
  rename_i bk ofs e0 m cp fz op ro cs;have hq:=hq (λq=>by subst q;exact absurd hlt (Nat.not_lt_zero _));obtain⟨ln,von,vtx,hcell,w1,w2⟩:=hc i hlt (by omega);have hqr:∀K,onRow (hget h bk) K=K e0 m op ro fz cs:=λK=>by rw[f.old _ hbk,hq];rfl
  unfold Ak at e;dsimp only at e;rw[gt u3 hlt,ag,az] at e;dsimp only at e;rw[ag,bK,bP,am (show Nat.succ i<=l.length from hlt),bM,au] at e;simp only[Nat.mul_eq,↓hqr] at e;rw[am (show Nat.add (ofs+i*9) 9<=m by show ofs+i*9+9<=m;omega),hcell,am (show h.1<=1000000000 by show h.next<=_;omega),aE] at e;have f1:Fr h (ae h (.row 39 9 false false 0 (T.ofList unk lu))) 1:=Fr.push _ (by omega);have g1:hget (ae h (.row 39 9 false false 0 (T.ofList unk lu))) h.1=.row 39 9 false false 0 (T.ofList unk lu):=aB _ _ (by show h.next<=_;omega);have n1:(ae h (.row 39 9 false false 0 (T.ofList unk lu))).next=h.next+1:=rfl;generalize ae h (.row 39 9 false false 0 (T.ofList unk lu))=h1 at e f1 g1 n1;generalize T.ofList unk lu=zc at g1;have hall:=(hW.2 _ _ _ w1).cellsV (hW.2 _ _ _ w2) ln l[i];rw[QS g1 (show (aL ln l[i] von vtx).length=9 from rfl) hall] at e;have f2:dI h.next h1 (hset h1 h.1 (.row 39 9 false false 0 (putF zc 0 (aL ln l[i] von vtx)))) 0:=dI.set (Nat.le_refl _) (by show h.next<=_;omega) _;have g2:hget (hset h1 h.1 (.row 39 9 false false 0 (putF zc 0 (aL ln l[i] von vtx)))) h.1=.row 39 9 false false 0 (putF zc 0 (aL ln l[i] von vtx)):=bp _ _ _ (by show h.next<=_;omega);have n2:(hset h1 h.1 (.row 39 9 false false 0 (putF zc 0 (aL ln l[i] von vtx)))).next=h1.next:=rfl;generalize hset h1 h.1 (.row 39 9 false false 0 (putF zc 0 (aL ln l[i] von vtx)))=h2 at e f2 g2 n2;have gv:∀j,j<9->getF (putF zc 0 (aL ln l[i] von vtx)) j=(aL ln l[i] von vtx).getD j unk:=λj hj=>by rw[fv,bF,bw _ _ _ (by show 0+9<=_;omega),if_pos ⟨Nat.zero_le _,by show j<0+9;omega⟩];rfl
  generalize putF zc 0 (aL ln l[i] von vtx)=cc at g2 gv;have f12:Fr h h2 1:=⟨Nat.le_trans f1.le f2.le,by have:=f1.ub;have:=f2.ub;omega,λid hid=>(f2.old id hid).trans (f1.old id hid)⟩;have hu2:=f12.ub;have hl2:=f12.le;have q2:∀K,onRow (hget h2 h.1) K=K 39 9 false false 0 cc:=λK=>by rw[g2];rfl
  simp only[↓q2,show ble 1 9=true from rfl,show ble 2 9=true from rfl,show ble 3 9=true from rfl,show ble 4 9=true from rfl,show ble 5 9=true from rfl,show ble 6 9=true from rfl,show ble 7 9=true from rfl,show ble 8 9=true from rfl,show ble 9 9=true from rfl,↓bI,gv 0 (by omega),gv 1 (by omega),gv 2 (by omega),gv 3 (by omega),gv 4 (by omega),gv 5 (by omega),gv 6 (by omega),gv 7 (by omega),gv 8 (by omega)] at e;obtain⟨a1,m1,c1,hv1⟩:=(hW.2 _ _ _ w1).sl;obtain⟨a2,m2,c2,hv2⟩:=(hW.2 _ _ _ w2).sl;have hb54:=hB ln l[i].n l[i].m l[i].k l[i].op l[i].kind ⟨⟨l[i].label⟩⟩ a1 a2 m1 c1 m2 c2;rw[<-hv1,<-hv2] at hb54;have hf54:=aax ln l[i].n l[i].m l[i].k l[i].op l[i].kind ⟨⟨l[i].label⟩⟩ a1 a2 m1 c1 m2 c2;rw[<-hv1,<-hv2] at hf54;change bindO (co E 54 [(0,.int .i64 ln),(1,.int .u8 (.ofNat l[i].op)),(2,.string ⟨⟨l[i].label⟩⟩),(3,von),(4,.int .i64 l[i].n),(5,.int .i64 l[i].m),(6,.int .i64 l[i].k),(7,.int .u8 (.ofNat l[i].kind)),(8,vtx)]) _=X at e;rw[hb54,aA,hf54] at e;dsimp only at e;rw[am (show h2.1<=1000000000 by show h2.next<=_;omega),aE] at e;have ol2:OL 54 9 h2 v i L:=of.ol.keep f12.le λbb hb hbl=>f12.old bb hbl
  obtain⟨v',h3,e3,ol3,n3,b3,fr3⟩:=x6 T1 ol2 (xs:=aL ln l[i] von vtx) rfl (by
   rw[List.all_eq_true];intro x hx;have:=List.all_eq_true.1 hall x hx
   rw[<-mz];exact this) (by omega) (by omega)
  rw[show ba E (ae h2 (.row 54 9 false false 0 (T.ofList unk [.int .i64 ln,.int .u8 (.ofNat l[i].op),.string ⟨⟨l[i].label⟩⟩,von,.int .i64 l[i].n,.int .i64 l[i].m,.int .i64 l[i].k,.int .u8 (.ofNat l[i].kind),vtx]))) .append [v,.slice (some ⟨h2.1,0,none⟩) 1 2] [30,30]=some (v',h3) from e3,cB rfl,cf u3 (by omega)] at e;have f3:dI hb.next h2 h3 2:=⟨by omega,by omega,λid hid=>fr3 id (by have:=f.le;omega) (λq=>by have:=of.lo _ q;omega)⟩;have f03:dI hb.next h h3 3:=(f12.b f.le).trans f3 (Nat.le_refl _);have hmul:(d+1)*4=d*4+4:=Nat.succ_mul _ _;rw[hmul] at hn ⊢;have hF3:bJ hb h3:=⟨Nat.le_trans f.le f03.le,λid hid=>(f03.old id hid).trans (f.old id hid)⟩;have of3:OF W hb h3 v' l (i+1) (L++aL ln l[i] von vtx):=by
   refine⟨ol3,by rw[List.length_append,of.len,show (aL ln l[i] von vtx).length=9 from rfl,Nat.succ_mul],λbb hbb=>by rw[b3] at hbb;cases hbb;have:=f.le;omega,λj hj hjl=>?_⟩;by_cases q:j<i
   ·obtain⟨ln',von',vtx',h1,h2,h3⟩:=of.cells j q hjl;refine⟨ln',von',vtx',λx hx=>?_,h2,h3⟩;rw[List.getD_eq_getElem?_getD,List.getElem?_append_left (by rw[of.len];omega),<-List.getD_eq_getElem?_getD,h1 x hx]
   ·obtain rfl:j=i:=by omega
    refine⟨ln,von,vtx,λx hx=>?_,w1,w2⟩;rw[List.getD_eq_getElem?_getD,List.getElem?_append_right (by rw[of.len];omega),of.len,show j*9+x-j*9=x by omega,<-List.getD_eq_getElem?_getD]
  have hu3:=f03.ub;obtain⟨h4,v4,L4,e4,of4,f4⟩:=ih (i+1) N' v' _ h3 X (by omega) (by omega) hF3 of3 (by omega) (by rw[hK];exact e);exact⟨h4,v4,L4,e4,of4,f03.trans f4 (by omega)⟩
theorem axU (uN:E.und 22=some (.slice 39)) {W:H->Value->List Bs->Prop} (hW:jG W) {h:H} {l:List dj} (hl:l.length<=1001) {v:Value} (o:CW W h v l) (hn:h.next<=600000000) {rc:RC} (k:Value->H->R) (X:R) (e:p9 E rc v h k=X):
  ∃h' v',X=k v' h'/\CW W h' v' l/\Fr h h' 4004:=by
 have u3:=u.u3;unfold p9 at e;rw[bd,mL uN o,ag] at e;obtain⟨h',v',L,e1,of,f⟩:=au4 u T1 hB hW hl o _ l.length 0 cK (.slice none 0 0) [] h X (by omega) (by unfold cK;omega) (bJ.refl _) ⟨.nil,rfl,(λb hb=>nomatch hb),(λi hi=>absurd hi (Nat.not_lt_zero _))⟩ (by omega) e;have ff:Fr h h' 4004:=(f.mono (by omega)).fr;refine⟨h',v',e1,?_,ff⟩;obtain⟨ol,hlen,lo,cells⟩:=of;generalize hln:l.length=n at ol hlen;cases ol with
 | nil=> have:l=[]:=List.length_eq_zero_iff.1 hln;subst this;exact .nil
 | row hb hq hL hc hp=> subst hln;refine .row (o:=0) hb (λ_=>hq) (by omega) λi hi _=>?_;obtain⟨ln,von,vtx,h1,h2,h3⟩:=cells i hi hi;refine⟨ln,von,vtx,?_,hW.1 _ _ _ _ h2 ff.from,hW.1 _ _ _ _ h3 ff.from⟩;rw[ez,Nat.zero_add];refine dD (aL ln l[i] von vtx) _ (i*9) λj hj=>?_;have hj:j<9:=hj;rw[<-bF,hc _ (by rw[hL];omega),h1 j hj]
end
end Go.Ev
namespace Go.Ev
open Go F Go.Proofs Go.RowKit
theorem cv3 (m:Nat) (a0:Value) (a1:Value) (a2:Value) (h:H) (k:Value->H->R):ax bQ KK (m+1) 3 [a0,a1,a2] h k=p3 bQ (ax bQ KK m) a0 a1 a2 h k:=lZ (by kernel_rfl) (aud jw _ a0 a1 a2 h k)
theorem cv6 (m:Nat) (a0:Value) (h:H) (k:Value->H->R):ax bQ KK (m+1) 6 [a0] h k=p6 bQ (ax bQ KK m) a0 h k:=lZ (by kernel_rfl) (avu jw _ a0 h k)
theorem cv8 (m:Nat) (a0:Value) (a1:Value) (a2:Value) (h:H) (k:Value->H->R):ax bQ KK (m+1) 8 [a0,a1,a2] h k=p8 bQ (ax bQ KK m) a0 a1 a2 h k:=lZ (by kernel_rfl) (avr jw _ a0 a1 a2 h k)
theorem cv9 (m:Nat) (a0:Value) (h:H) (k:Value->H->R):ax bQ KK (m+1) 9 [a0] h k=p9 bQ (ax bQ KK m) a0 h k:=lZ (by kernel_rfl) (asT jw _ a0 h k)
theorem awg (m:Nat) (a0:Value) (h:H) (k:Value->H->R):ax bQ KK (m+1) 18 [a0] h k=p18 bQ (ax bQ KK m) a0 h k:=lZ (by kernel_rfl) (aeq jw _ a0 h k)
theorem awm (m:Nat) (a0:Value) (h:H) (k:Value->H->R):ax bQ KK (m+1) 19 [a0] h k=p19 bQ (ax bQ KK m) a0 h k:=lZ (by kernel_rfl) (aco jw _ a0 h k)
theorem awu (m:Nat) (h:H) (k:Value->H->R):ax bQ KK (m+1) 36 [] h k=p36 bQ (ax bQ KK m)  h k:=lZ (by kernel_rfl) (agh jw _  h k)
theorem axI (m:Nat) (a0:Value) (a1:Value) (h:H) (k:Value->H->R):ax bQ KK (m+1) 37 [a0,a1] h k=p37 bQ (ax bQ KK m) a0 a1 h k:=lZ (by kernel_rfl) (Y2 jw _ a0 a1 h k)
theorem axF (m:Nat) (a0:Value) (a1:Value) (a2:Value) (h:H) (k:Value->H->R):ax bQ KK (m+1) 38 [a0,a1,a2] h k=p38 bQ (ax bQ KK m) a0 a1 a2 h k:=lZ (by kernel_rfl) (ait jw _ a0 a1 a2 h k)
theorem axQ (m:Nat) (a0:Value) (a1:Value) (a2:Value) (a3:Value) (h:H) (k:Value->H->R):ax bQ KK (m+1) 39 [a0,a1,a2,a3] h k=p39 bQ (ax bQ KK m) a0 a1 a2 a3 h k:=lZ (by kernel_rfl) (afm jw _ a0 a1 a2 a3 h k)
theorem axB (m:Nat) (a0:Value) (h:H) (k:Value->H->R):ax bQ KK (m+1) 40 [a0] h k=p40 bQ (ax bQ KK m) a0 h k:=lZ (by kernel_rfl) (ajr jw _ a0 h k)
theorem axN (m:Nat) (a0:Value) (h:H) (k:Value->H->R):ax bQ KK (m+1) 64 [a0] h k=p64 bQ (ax bQ KK m) a0 h k:=lZ (by kernel_rfl) (WY jw _ a0 h k)
theorem gv5:cY bQ KK 5=⟨λ_ args h c=>cO (be glob args h) c⟩:=by kernel_rfl
theorem r5 (m:Nat) {h:H} (hq:bJ (eS glob) h) (k:Value->H->R):ax bQ KK (m+1) 5 [] h k=k (.bool true) h:=by
 show (cY bQ KK 5).run _ _ _ _=_;rw[gv5];have e:be glob [] h=some (.bool true,h):=by show (bif eO glob 0 h then some (Value.bool true,h) else none)=_;rw[fe hq];rfl
 exact cB e k
theorem l30:EI bQ 30 54 9 ((bQ.info 54).getD default) ((bX bQ 54).getD []):=⟨by kernel_rfl,by kernel_rfl,by kernel_rfl,of_decide_eq_true (by kernel_rfl),by kernel_rfl,by kernel_rfl,by decide,by decide⟩
theorem axg:B54 bQ:=λln n m k op kd lb a1 a2 n1 c1 n2 c2=>by kernel_rfl
theorem aw8:bQ.und 30=some (.slice 54):=by kernel_rfl
theorem k64 (m:Nat):sE (ax bQ KK (m+1)):=λs h k hs=>(axN m _ h k).trans (apV Bq hs h k)
theorem k40 (m:Nat):wR (ax bQ KK (m+2)):=λs h k hs=>(axB (m+1) _ h k).trans (apX Bq (k64 m) hs h k)
theorem k37 (m:Nat):Fj (ax bQ KK (m+1)):=λs b h k hs=>(axI m _ _ h k).trans (as1 Bq hs b h k)
theorem k38 (m:Nat) (s:Bs) (b c:UInt8) (h:H) (k:Value->H->R) (hs:s.length<=900000):ax bQ KK (m+2) 38 [aj s,.int .u8 (.ofNat b.toNat),.int .u8 (.ofNat c.toNat)] h k=k (.bool (ju s b c)) h:=
 (axF (m+1) _ _ _ h k).trans (asy Bq (k37 m) hs b c h k)
theorem k18 (m:Nat) (n:Int) (h:H) (k:Value->H->R) (hn:dF n) (hq:bJ (eS glob) h):ax bQ KK (m+2) 18 [.int .i64 n] h k=k (dK (dV n)) h:=(awg (m+1) _ h k).trans (aoq Bq (k26 m) hn hq k)
theorem k39 (m:Nat):we (ax bQ KK (m+3)) (eS glob):=λc ln von vtx h s x y k X C hq o1 o2 hn hx hy hxl hyl e=>
 aqw Bq (hS:=eS glob) ⟨λn h k hn hq=>k18 m n h k hn hq,k40 m,k64 (m+1)⟩ o1 o2 C.z C.lb C.on C.tx C.kd hn hq hx hy hxl hyl k X ((axQ (m+2) _ _ _ _ h k).symm.trans e)
theorem aw2 (m:Nat):L19 (ax bQ KK (m+3)) (eS glob):=⟨k37 (m+2),k38 (m+1),k39 m,k40 (m+1),λh k hn=>(awu (m+2) h k).trans (au8 h k hn)⟩
theorem k19 (m:Nat) {W:H->Value->List Bs->Prop} (hW:jG W):Et (ax bQ KK (m+4)) (eS glob) W:=λc ln von vtx h k X hq C o1 o2 hn e=>
 auf Bq (aw2 m) C hq (hW.2 _ _ _ o1) (hW.2 _ _ _ o2) (by omega) k X ((awm (m+3) _ h k).symm.trans e)
theorem k8 (m:Nat) {W:H->Value->List Bs->Prop} (hW:jG W):adN (ax bQ KK (m+4)) (eS glob) W:=⟨k19 m hW,λn h k hn hq=>k18 (m+2) n h k hn hq⟩
def ji (ws:List Bs):Nat:=(ws.map λw=>w.length+1).sum
theorem lz (a b:List Bs):ji (a++b)=ji a+ji b:=by unfold ji;rw[List.map_append,List.sum_append]
theorem jy (w:Bs):ji [w]=w.length+1:=by unfold ji;simp
theorem sZ:∀ws:List Bs,(dh ws).length<=ji ws
 | []=>Nat.le_refl _
 | [w]=>by rw[jy];show w.length<=_;omega
 | w :: v :: l=>by have:=sZ (v :: l);show (w++32 :: dh (v :: l)).length<=ji ([w]++(v :: l));rw[lz,jy,List.length_append,List.length_cons];omega
theorem om:∀tx:List Bs,(∀s∈tx,s.length<=300)->ji (tx.map de)<=tx.length*302
 | [],_=>Nat.le_refl _
 | s :: tx,h=>by have h1:=om tx (λx hx=>h x (List.mem_cons_of_mem _ hx));have h2:=kh s;have h3:=h s (List.mem_cons_self ..);show ji ([de s]++tx.map de)<=_;rw[lz,jy,List.length_cons,Nat.succ_mul];omega
theorem qv {l:List Bs} (h:∀s∈l,s.length<=300):(l.headD []).length<=300:=by
 cases l with
 | nil=>simp
 | cons a l=>exact h a (List.mem_cons_self ..)
theorem AS (k:Nat):(dk.getD k []).length<=300:=by
 by_cases q:k<5
 ·match k,q with
  | 0,_=>exact (by decide)
  | 1,_=>exact (by decide)
  | 2,_=>exact (by decide)
  | 3,_=>exact (by decide)
  | 4,_=>exact (by decide)
 ·rw[List.getD_eq_getElem?_getD,List.getElem?_eq_none (by show 5<=k;omega)];simp
theorem Ba {c:dj} (C:gN c) {r:UInt8} {ws on tx:List Bs} (h1:∀s∈on,s.length<=300) (h2:∀s∈tx,s.length<=300) (h3:tx.length<=6):
  ji (br c r ws on tx).1<=ji ws+2000/\(∀s∈(br c r ws on tx).2.1,s.length<=300)/\(∀s∈(br c r ws on tx).2.2,s.length<=300)/\(br c r ws on tx).2.2.length<=6:=by
 have one:∀w:Bs,w.length<=301->ji (ws ++ [w])<=ji ws+2000:=λw hw=>by rw[lz,jy];omega
 have n1:=fT c.n;have n2:=fT c.m;have n3:=fT c.k;have hl:=C.lb;have hon:=qv h1;have htx:=qv h2;have htt:=kh (tx.headD []);have hk:=AS c.kind;unfold br;split
 ·exact⟨one _ (by omega),h1,h2,h3⟩
 split
 ·exact⟨one _ (by omega),λs hs=>h1 s (List.mem_of_mem_tail hs),h2,h3⟩
 split
 ·refine⟨one _ ?_,h1,h2,h3⟩;split
  ·simp
  ·omega
 split
 ·exact⟨one _ (by omega),h1,h2,h3⟩
 split
 ·exact⟨one _ (by omega),h1,h2,h3⟩
 split
 ·exact⟨one _ (by omega),h1,h2,h3⟩
 split
 ·exact⟨one _ (by omega),h1,λs hs=>h2 s (List.mem_of_mem_tail hs),by simp only[List.length_tail];omega⟩
 ·have:=om tx h2;have:tx.length*302<=6*302:=Nat.mul_le_mul_right _ h3;exact⟨by show ji (ws++tx.map de)<=_;rw[lz];omega,h1,h2,h3⟩
theorem yz {c:dj} (C:gN c):∀(rs:Bs) (ws on tx:List Bs),(∀s∈on,s.length<=300)->(∀s∈tx,s.length<=300)->tx.length<=6->ji (fI c rs (ws,on,tx)).1<=ji ws+rs.length*2000
 | [],ws,on,tx,_,_,_=>by show ji ws<=_;omega
 | r :: rs,ws,on,tx,h1,h2,h3=>by obtain⟨a,b,c',d⟩:=Ba C (r:=r) (ws:=ws) h1 h2 h3;have:=yz C rs (br c r ws on tx).1 _ _ b c' d;show ji (fI c rs (br c r ws on tx)).1<=_;rw[List.length_cons,Nat.succ_mul];exact Nat.le_trans this (by omega)
theorem B7 {i:Nat} (hi:i<41):(bR.getD i ([],[])).1.length<=20/\(bR.getD i ([],[])).2.length<=4:=by have h:=List.all_eq_true.1 oM (bR[i]'hi) (List.getElem_mem _);simp only[Bool.and_eq_true] at h;rw[List.getD_eq_getElem?_getD,List.getElem?_eq_getElem (show i<bR.length from hi)];exact⟨Nat.le_of_ble_eq_true h.1.1,Nat.le_of_ble_eq_true h.1.2⟩
theorem lJ {c:dj} (C:gN c):(∀s∈c.on,s.length<=300)/\∀s∈c.texts,s.length<=300:=⟨λs hs=>C.ws s (List.mem_append_left _ hs),λs hs=>C.ws s (List.mem_append_right _ hs)⟩
theorem zz {c:dj} (C:gN c):rj c:=by
 unfold rj dE;split
 ·simp
 split
 ·simp
 ·rename_i h1 h2;have hop:c.op<41:=by omega
  obtain⟨r1,r2⟩:=B7 hop;have h:=yz C (bR.getD c.op ([],[])).2 [(bR.getD c.op ([],[])).1] c.on c.texts (lJ C).1 (lJ C).2 C.tx;rw[jy] at h;have:=sZ (fI c (bR.getD c.op ([],[])).2 ([(bR.getD c.op ([],[])).1],c.on,c.texts)).1;have h4:(bR.getD c.op ([],[])).2.length*2000<=4*2000:=Nat.mul_le_mul_right _ r2;show (dh _ ++ [10]).length<=_;rw[List.length_append,List.length_singleton];omega
theorem GM {c:dj} (C:gN c):Si c:=by
 have h:=zz C;unfold Si;rw[sN,<-yE];unfold rj at h;cases (dE c).2 with
 | false=>simp
 | true=>simpa using h
def ZC (c:dj):Prop:=(dF c.n/\dF c.m/\dF c.k)/\c.op<=255/\c.kind<=255
theorem zT {c:dj} (C:gN c) (z:ZC c):vR c:=⟨z.1,z.2.1,z.2.2,by have:=C.lb;omega,λs hs=>by have:=(lJ C).1 s hs;omega,λs hs=>by have:=(lJ C).2 s hs;omega,by have:=C.tx;omega⟩
theorem CW.from {W:H->Value->List Bs->Prop} {h h':H} {v:Value} {l:List dj} (o:CW W h v l) (hW:jG W) (f:bJ h h'):CW W h' v l:=by
 cases o with
 | nil=>exact .nil
 | row hb hq hm hc=> refine .row (Nat.lt_of_lt_of_le hb f.le) (λq=>(f.old _ hb).trans (hq q)) hm λi hi hi2=>?_;obtain⟨ln,von,vtx,e,w1,w2⟩:=hc i hi hi2;exact⟨ln,von,vtx,e,hW.1 _ _ _ _ w1 f,hW.1 _ _ _ _ w2 f⟩
theorem awo (m:Nat) {h:H} (hq:bJ (eS glob) h) {v:Value} {l:List dj} (o:CW Ti h v l) (hZ:l.length<=1001->∀c∈l,ZC c) {cap keeps:Int} (hcap:dF cap) (hkeeps:dF keeps) (hn:h.next<=100000000) (k:Value->H->R):
  ∃h',ax bQ KK (m+9) 3 [.int .i64 cap,.int .i64 keeps,v] h k=k (.bool true) h':=by
 have u3:=Bq.u3;rw[cv3];generalize hX:p3 bQ (ax bQ KK (m+8)) (.int .i64 cap) (.int .i64 keeps) v h k=X;unfold p3 at hX;rw[r5 (m+7) hq,az,ag] at hX;unfold ag2 at hX;obtain⟨h1,f1,r⟩:=awF Bq l37 (rc:=ax bQ KK (m+7)) uN ja o (by omega) _ _ ((cv6 (m+7) _ _ _).symm.trans hX);rcases r with r | ⟨r1,r2,r⟩
 ·rw[ar,ag] at r;exact⟨h1,r⟩
 rw[az,ag] at r;have hu1:=f1.ub;have hZ:=hZ r1;have hq1:=hq.trans f1.from;have o1:CW Ti h1 v l:=o.from ja f1.from;unfold acO at r;obtain⟨h2,e2,f2⟩:=Av m hq1 o1 (λ_ c hc=>zT (r2 c hc) (hZ c hc)) (λ_ c hc=>zz (r2 c hc)) hcap hkeeps (by omega) _ _ r.symm;have hu2:=f2.ub;have hq2:=hq1.trans f2.from;have o2:CW Ti h2 v l:=o1.from ja f2.from;simp only[↓bA,↓bG,show ∀(x y:Value) (K:Value->R),nthF 1 [x,y] K=K y from λ_ _ _=>rfl] at e2;obtain⟨h3,v3,e3,o3,f3⟩:=axU Bq l30 axg uN ja r1 o2 (by omega) (rc:=ax bQ KK (m+7)) _ _ ((cv9 (m+7) _ _ _).symm.trans e2.symm);have hu3:=f3.ub;have hq3:=hq2.trans f3.from;obtain⟨h4,e4,f4⟩:=av2 Bq aw8 ja (k8 (m+3) ja) hq3 o3 (λ_ c hc=>zT (r2 c hc) (hZ c hc)) (λ_ c hc=>GM (r2 c hc)) hcap hkeeps (by omega) _ _ ((cv8 (m+7) _ _ _ _ _).symm.trans e3.symm);rw[As] at e4;unfold okR aj at e4;simp only[↓bA,↓bG,show ∀(x y:Value) (K:Value->R),nthF 1 [x,y] K=K y from λ_ _ _=>rfl] at e4;rw[Bz Bq.toUS,beq_self_eq_true] at e4;simp only[↓aK,↓bT,↓az] at e4;rw[nR u3,Nat.beq_refl] at e4;exact⟨h4,e4⟩
end Go.Ev
