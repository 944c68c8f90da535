/-
  LIGHT COMMANDS have short lines.
-/
import Derived.Test.YtglmdggjibmjcaaGreatDoorYd
noncomputable section
set_option linter.all false
set_option maxRecDepth 100000
set_option exponentiation.threshold 3000
open Nat (ble beq)
namespace Go.Ev
open Go F Go.Proofs
def WL.get {h:H} {v:Value} {l:List Bs} (o:WL h v l) {i:Nat} (hi:i<l.length):∃b of cp e m op ro fz cs,v=.slice (some ⟨b,of,none⟩) l.length cp/\hget h b=.row e m op ro fz cs/\of+i<m/\getF cs (of+i)=ak l[i]:=by
 cases o with
 | nil=>exact absurd hi (Jy _)
 | gar=>exact absurd hi (Jy _)
 | row hb hq hm hcap hc=>exact⟨_,_,_,_,_,_,_,_,_,rfl,hq (λq=>by rw[q] at hi;exact absurd hi (Jy _)),by omega,hc i hi⟩
inductive SL (B:Nat) (h:H):Value->List Bs->Prop
 | nil {a:Nat} {cs:T Value} (lo:B<=a) (lt:a<h.next) (hq:hget h a=.row 9 0 false false 0 cs):SL B h (.slice (some ⟨a,0,none⟩) 0 0) []
 | row {a:Nat} {cs:T Value} {l:List Bs} (lo:B<=a) (lt:a<h.next) (hq:hget h a=.row 9 l.length true false 0 cs) (hp:0<l.length) (hc:∀i,(hi:i<l.length)->getF cs i=ak l[i]):SL B h (.slice (some ⟨a,0,none⟩) l.length (2*l.length+1)) l
def awC {h:H} {x:Value} {m:List Bs} (o:WL h x m):ja x=m.length/\lE h 1 m.length x=some (m.map ak):=by
 cases o with
 | nil=>exact⟨rfl,rfl⟩
 | gar ha=>
  refine⟨rfl,?_⟩;rename_i a;obtain⟨b,of,sp⟩:=a;cases sp with
  | none=>exact nomatch ha
  | some p=>rfl
 | row hb hq hm hcap hc=>
  rename_i b of e n c fz op ro cs;refine⟨rfl,?_⟩;by_cases q:m=[]
  ·subst q;unfold lE;simp only[Kl,Nat.zero_mul,JQ,Jo,List.map_nil];cases h.objs.get b <;> first | rfl | (rename_i a1 a2 a3 a4 a5 a6;show (bif ble (of+0) a2 then some (bq a6 of 0) else some [])=some [];cases ble (of+0) a2 <;> rfl)
  ·have hq:=hq q;rw[bv] at hq;have h1:ble (of+m.length*1) n=true:=aM (by omega);unfold lE;simp only[hq,h1,Jo];rw[Nat.mul_one];have hml:(m.map ak).length=m.length:=Kx ..;have hcl:bq cs of (m.map ak).length=m.map ak:=by refine dD (m.map ak) cs of λi hi=>?_;rw[hml] at hi;rw[<-bI,hc i hi,Jc,JX,Jn hi];rfl
   rw[hml] at hcl;rw[hcl]
def HF (m:List Bs):(m.map ak).all cell1=true:=by rw[Jv];intro x hx;obtain⟨s,_,rfl⟩:=List.mem_map.1 hx;rfl
def appW {E:Env} {i:TypeInfo} (T1:ug E 37 9 1 i [.string ⟨⟨[]⟩⟩]) {B:Nat} {h:H} {v x:Value} {l m:List Bs} (o:SL B h v l) (w:WL h x m) (hl:l.length+m.length<=1000) (hn:h.next<=900000000):
  ∃v' h',ba E h .append [v,x] [37,37]=some (v',h')/\SL B h' v' (l++m)/\dj B h h' 1:=by
 obtain⟨w1,w2⟩:=awC w;obtain⟨s',hs',hs0⟩:∃s',i.size=s'+1/\s'=0:=⟨0,T1.sz,rfl⟩;have hss:s'+1=1:=by omega
 have hroom:room h=true:=aM (by omega);have hnews:jl h (s'+1) [.string ⟨⟨[]⟩⟩] false x=some (m.length,m.map ak):=by rw[hss];simp only[jl,JP,w1,w2]
 have hnum:io E [37]=some false:=by simp only[io,T1.u]
 have hbt:=T1.bt;have b1:ble ((l.length+m.length)*(i.bytes+1)) 1000000000=true:=aM (JV (KP hl (show i.bytes+1<=1001 by omega)) (by decide));have b2:ble ((l.length+m.length)*(s'+1)) 1000000000=true:=aM (by rw[hss];omega);have hzb:beq ([.string ⟨⟨[]⟩⟩]:List Value).length (s'+1)=true:=gm (by rw[hss];rfl);have hml:(m.map ak).length=m.length:=Kx ..;cases o with
 | nil lo lt hq=>
  rename_i a cs;have b1:ble ((0+m.length)*(i.bytes+1)) 1000000000=true:=b1;have b2:ble ((0+m.length)*(s'+1)) 1000000000=true:=b2;have hq':=hq;rw[bv] at hq';by_cases q:m=[]
  ·subst q;have hst:ci h ⟨a,0+0*(s'+1),none⟩ (([]:List Bs).map ak)=some (hset h a (.row 9 0 false false 0 cs)):=by rw[hss,fi];simp only[ci,hq',List.map_nil];rfl
   refine⟨.slice (some ⟨a,0,none⟩) 0 0,hset h a (.row 9 0 false false 0 cs),?_,?_,dj.mono (dj.set lo (by omega) _) (by omega)⟩
   ·have c0:ble (0+([]:List Bs).length) (0 / 2)=true:=rfl;simp only[ba,hnum,eT,T1.u,T1.inf,T1.zc,hs',hnews,b1,b2,hzb,Bool.and_self,Jo,c0,Option.isSome_none,JP,hst];rfl
   ·exact .nil lo (show a<h.next from lt) (bj _ _ _ (by omega))
  ·have hmp:0<m.length:=J8.2 q;have c0:ble (0+m.length) (0 / 2)=false:=dt (by omega);have c1:beq (0%2) 0=true:=rfl;have c2:ble (0+0*(s'+1)) 0=true:=aM (by omega);refine⟨.slice (some ⟨h.next,0,none⟩) m.length (2*m.length+1),ag h (.row 9 m.length true false 0 (T.ofList unk (m.map ak))),?_,?_,((Fr.push _ (by omega)).b (by omega)).mono (Jd _)⟩
   ·simp only[ba,hnum,eT,T1.u,T1.inf,T1.zc,hs',hnews,b1,b2,hzb,Bool.and_self,Jo,c0,Option.isSome_none,JP,hroom,hq',c1,c2,cY];simp only[Nat.zero_mul,JN,hss,Nat.mul_one];rfl
   ·rw[KE];refine .row (by omega) (show h.next<h.next+1 by omega) (az _ _ (by omega)) hmp λj hj=>?_;rw[aI,Jc,JX,Jn hj];rfl
 | row lo lt hq hp hc=>
  rename_i a cs;have hq':=hq;rw[bv] at hq';have hh:(2*l.length+1) / 2=l.length:=by omega
  by_cases q:m=[]
  ·subst q;have hst:ci h ⟨a,0+l.length*(s'+1),none⟩ (([]:List Bs).map ak)=some (hset h a (.row 9 l.length true false 0 cs)):=by rw[hss,fi,JN,Nat.mul_one];have d1:ble 0 l.length=true:=aM (JY _);have d2:ble (l.length+0) l.length=true:=aM (Jd _);have d3:ble l.length 1000000000=true:=aM (by omega);simp only[ci,hq',List.map_nil,Kl,d1,d2,d3,List.all_nil,Bool.and_self,Jo];rfl
   refine⟨.slice (some ⟨a,0,none⟩) l.length (2*l.length+1),hset h a (.row 9 l.length true false 0 cs),?_,?_,dj.mono (dj.set lo (by omega) _) (by omega)⟩
   ·have c0:ble (l.length+([]:List Bs).length) l.length=true:=aM (Jd _);simp only[ba,hnum,eT,T1.u,T1.inf,T1.zc,hs',hnews,b1,b2,hzb,Bool.and_self,Jo,hh,c0,Option.isSome_none,JP,hst];rfl
   ·rw[KB];exact .row lo (show a<h.next from lt) (bj _ _ _ (by omega)) hp hc
  ·have hmp:0<m.length:=J8.2 q;have c0:ble (l.length+m.length) l.length=false:=dt (by omega);have c1:beq ((2*l.length+1)%2) 0=false:=dB (by omega);have c2:beq (l.length*(s'+1)) l.length=true:=gm (by rw[hss];omega);have c3:ble 0 l.length=true:=aM (JY _);have hac:=HF m;refine⟨.slice (some ⟨h.next,0,none⟩) (l.length+m.length) (2*(l.length+m.length)+1),ag (hset h a .dead) (.row 9 (l.length+m.length) true false 0 (putCells cs l.length (m.map ak))),?_,?_,?_⟩
   ·simp only[ba,hnum,eT,T1.u,T1.inf,T1.zc,hs',hnews,b1,b2,hzb,Bool.and_self,Jo,hh,c0,Option.isSome_none,JP,hroom,hq',c1,c2,c3,hac,JQ,Bool.not_false,cY,fi];simp only[hss,Nat.mul_one]
    try rfl
   ·have e:l.length+m.length=(l++m).length:=(Jt ..).symm;rw[e];refine .row (by omega) (show h.next<h.next+1 by omega) (az (hset h a .dead) _ (by show h.next<=_;omega)) (by rw[<-e];omega) λj hj=>?_;rw[<-e] at hj;rw[bI,bJ _ _ _ (by rw[hml];omega),hml];by_cases q2:j<l.length
    ·rw[if_neg (by omega),<-bI,hc j q2,List.getElem_append_left q2]
    ·rw[if_pos (by omega),List.getElem_append_right (by omega),Jc,JX,Jn (show j-l.length<m.length by omega)];rfl
   ·exact (dj.set lo (by omega) _).trans ((Fr.push _ (by show h.next<=_;omega)).b (by show B<=h.next;omega)) (Jd _)
def SL.wl {B:Nat} {h:H} {v:Value} {l:List Bs} (o:SL B h v l):WL h v l:=by
 cases o with
 | nil lo lt hq=>exact .row (l:=[]) (c:=0) lt (λq=>absurd rfl q) (m:=0) (o:=0) (cells:=.c unk) (e:=0) (fz:=0) (op:=false) (ro:=false) (by simp) (by simp) λi hi=>absurd hi (Jy _)
 | row lo lt hq hp hc=>exact .row (c:=2*l.length+1) lt (λ_=>hq) (by omega) (by omega) λi hi=>by rw[JN];exact hc i hi
def El (E:Env) (a a0:Value) (b:aa [3]->H->R):(aa [3,8]->H->R)->aa [3,8]->H->R:=λc d e=>binR (binC E .lss 3 false false) d.2.1 a λf=>@joinR [] (λ_ g=>@joinR [3] (λh i=>binR (binC E .add 3 false true) d.2.1 (.int .i64 (.ofNat 1)) λj=>c (h.1,(j,())) i) λh=>onNat d.2.1 none λi=>onSl a0 none λj l _=>ifB (ble (Nat.succ i) l) (addOffF j (Nat.mul i 9) λm=>onPtr m λn=>onRow (hget g n.1) λ_ o _ _ _ p=>ifB (ble (Nat.add n.2 9) o) (ifB (ble g.1 1000000000) (letH (ag g (.row 39 9 false false 0 (T.ofList unk qg))) λq=>onRow (hget q g.1) λr s t u v w=>ifB (notB u) (ifB (beq (lenF (ae p 9 n.2)) 9) (ifB (ble v 0) (ifB (ble 9 s) (ifB (ble s 1000000000) (ifB (allF (λx=>cell1F x) (ae p 9 n.2)) (letH (hset q g.1 (.row r s t false v (putF w 0 (ae p 9 n.2)))) λx=>onRow (hget x g.1) λ_ y _ _ _ z=>ifB (ble 1 y) (onRow (hget x g.1) λ_ a1 _ _ _ a2=>ifB (ble 2 a1) (onRow (hget x g.1) λ_ a3 _ _ _ a4=>ifB (ble 3 a3) (onRow (hget x g.1) λ_ a5 _ _ _ a6=>ifB (ble 4 a5) (onRow (hget x g.1) λ_ a7 _ _ _ a8=>ifB (ble 5 a7) (onRow (hget x g.1) λ_ a9 _ _ _ b0=>ifB (ble 6 a9) (onRow (hget x g.1) λ_ b1 _ _ _ b2=>ifB (ble 7 b1) (onRow (hget x g.1) λ_ b3 _ _ _ b4=>ifB (ble 8 b3) (onRow (hget x g.1) λ_ b5 _ _ _ b6=>ifB (ble 9 b5) (bindO (cI E 54 [(0,getF z 0),(1,getF a2 1),(2,getF a4 2),(3,getF a6 3),(4,getF a8 4),(5,getF b0 5),(6,getF b2 6),(7,getF b4 7),(8,getF b6 8)]) λb7=>@Option.rec (List Value) (λ_=>R) none (λb8=>ifB (ble x.1 1000000000) (letH (ag x (.row 54 9 false false 0 (T.ofList unk b8))) λb9=>cE (ba E b9 Builtin.append [d.1,.slice (some (Addr.mk x.1 0 none)) 1 2] [30,30]) λc0 c1=>h (c0,()) c1)) (dx (λb8=>some (Nat.mul b8 9,9)) (List.flatten (List.replicate 1 (cellsOfV (.agg (@List.toArray Value qg))))) [(0,b7)])))))))))))))))))))) λg=>onB f (b (d.1,()) e) (g () e)
def p9 (E:Env) (rc:RC) (a0:Value) (h:H) (k:Value->H->R):R:=joinL (λa=>@joinR [3] (λb c=>k b.1 c) λb=>@loopF [3,8] (El E a a0 b) cM (.slice none 0 0,(.int .i64 (.ofNat 0),())) h) λa=>onSl a0 (bindO (aX E h 22 a0) a) λ_ b _=>a (.int .i64 (.ofNat b))
def asO (t:aN) (rc:RC) (a0:Value) (h:H) (k:Value->H->R):(cf (EX t) KK 9).run rc [a0] h k=p9 (EX t) rc a0 h k:=by kernel_rfl
def G3 (E:Env) (a b:Value) (k:Value->H->R) (c:aa [2,42]->H->R):(aa [2,42]->H->R)->aa [2,42]->H->R:=λd e f=>binR (binC E .lss 3 false false) e.2.1 a λg=>@joinR [] (λ_ h=>@joinR [2] (λi j=>binR (binC E .add 3 false true) e.2.1 (.int .i64 (.ofNat 1)) λl=>d (i.1,(l,())) j) λi=>onNat e.2.1 none λj=>onSl b none λl m _=>ifB (ble (Nat.succ j) m) (addOffF l (Nat.mul j 1) λn=>onPtr n λo=>onRow (hget h o.1) λ_ p _ _ _ q=>ifB (ble (Nat.succ o.2) p) (bindO (aX E h 9 (getF q o.2)) λr=>binR (binC E .gtr 3 false true) r (.int .i64 (.ofNat 300)) λs=>@joinR [2] (λt u=>i (t.1,()) u) λt=>onB s (t (e.1,()) h) (k (.bool false) h)))) λh=>onB g (c (e.1,(e.2.1,())) f) (h () f)
def adB (a b:H) (E:Env) (c:aa [2]->H->R) (k:Value->H->R) (d:aa [2]):R:=ifB (ble a.1 1000000000) (letH (H.mk (Nat.add a.1 1) a.2) λe=>letH (hset e a.1 (.row 9 0 false false 0 (T.ofList unk (List.flatten (List.replicate 0 (cellsOfV (.string (ByteArray.mk #[])))))))) λf=>onRow (hget f b.1) λ_ g _ _ _ h=>ifB (ble 4 g) (onRow (hget f b.1) λ_ i _ _ _ j=>ifB (ble 9 i) (cE (ba E f Builtin.append [.slice (some (Addr.mk a.1 0 none)) 0 0,getF h 3] [37,37]) λl m=>ifB (am (.pointer (some (Addr.mk b.1 8 none))) (.pointer (some (Addr.mk b.1 8 none)))) (onRow (hget m b.1) λ_ n _ _ _ o=>ifB (ble 9 n) (ifB (am (getF o 8) (getF j 8)) (cE (ba E m Builtin.append [l,getF j 8] [37,37]) λp q=>joinL (λr=>@joinR [2,42] (λs t=>c (s.1,()) t) λs=>@loopF [2,42] (G3 E r p k s) cM (d.1,(.int .i64 (.ofNat 0),())) q) λr=>onSl p (bindO (aX E q 37 p) r) λ_ s _=>r (.int .i64 (.ofNat s))))))))
def aaM (a:H) (E:Env) (b:aa [2]->H->R) (k:Value->H->R) (c:H):R:=@joinR [2] (λd e=>adB e a E b k d) λ_=>k (.bool false) c
def xe (a b:Value) (c:H) (d:Value->H->R):R:=aF a (onPtr b λe=>onRow (hget c e.1) λ_ f _ _ _ g=>ifB (ble (Nat.succ e.2) f) (d (getF g e.2) c)) (d undef c) (d undef c)
def YW (a:H) (E:Env) (b:aa [2]->H->R) (k:Value->H->R) (c:H):R:=ac (λ_ d=>ac (λ_ e=>ac (λ_ f=>ac (λ_ g=>aaM a E b k g) λg=>g undef f) λf=>f undef e) λe=>e undef d) λd=>d undef c
def zt (a:Value) (E:Env) (b:Value) (c:Value->H->R) (d:H):R:=aF a (binR (binC E .gtr 3 false true) b (.int .i64 (.ofNat 6)) λe=>c e d) (c undef d) (c undef d)
def zy (a:Value) (b:Value->H->R) (c:H) (d:Value) (E:Env):R:=aF a (joinL (λe=>b e c) λe=>onSl d (bindO (aX E c 37 d) e) λ_ f _=>e (.int .i64 (.ofNat f))) (b undef c) (b undef c)
def uI (E:Env) (a a0:Value) (k:Value->H->R) (b:aa [2]->H->R):(aa [2,9]->H->R)->aa [2,9]->H->R:=λc d e=>binR (binC E .lss 3 false false) d.2.1 a λf=>@joinR [] (λ_ g=>@joinR [2] (λh i=>binR (binC E .add 3 false true) d.2.1 (.int .i64 (.ofNat 1)) λj=>c (h.1,(j,())) i) λh=>onNat d.2.1 none λi=>onSl a0 none λj l _=>ifB (ble (Nat.succ i) l) (addOffF j (Nat.mul i 9) λm=>onPtr m λn=>onRow (hget g n.1) λ_ o _ _ _ p=>ifB (ble (Nat.add n.2 9) o) (ifB (ble g.1 1000000000) (letH (ag g (.row 39 9 false false 0 (T.ofList unk qg))) λq=>onRow (hget q g.1) λr s t u v w=>ifB (notB u) (ifB (beq (lenF (ae p 9 n.2)) 9) (ifB (ble v 0) (ifB (ble 9 s) (ifB (ble s 1000000000) (ifB (allF (λx=>cell1F x) (ae p 9 n.2)) (letH (hset q g.1 (.row r s t false v (putF w 0 (ae p 9 n.2)))) λx=>binR (binC E .geq 3 false true) d.2.1 (.int .i64 (.ofNat 1001)) λy=>ac (λz a1=>ac (λa2 a3=>ac (λa4 a5=>ac (λa6 a7=>onB y (ac (λa8 a9=>ac (λb0 b1=>ac (λb2 b3=>ac (λb4 b5=>onB a6 (ac (λb6 b7=>ac (λb8 b9=>ac (λc0 c1=>ac (λc2 c3=>onB b4 (@joinR [2] (λc4 c5=>adB c5 g E h k c4) λc4=>onB c2 (c4 (d.1,()) c3) (k (.bool false) c3)) (aaM g E h k c3)) λc2=>aF b4 (binR (binC E .gtr 3 false true) c0 (.int .i64 (.ofNat 300)) λc3=>c2 c3 c1) (c2 undef c1) (c2 undef c1)) λc0=>aF b4 (bindO (aX E b9 9 b8) λc1=>c0 c1 b9) (c0 undef b9) (c0 undef b9)) λb8=>xe b4 b6 b7 b8) λb6=>aF b4 (b6 (.pointer (some (Addr.mk g.1 2 none))) b5) (b6 undef b5) (b6 undef b5)) (YW g E h k b5)) λb4=>zt a6 E b2 b4 b3) λb2=>zy a6 b2 b1 b0 E) λb0=>xe a6 a8 a9 b0) λa8=>aF a6 (a8 (.pointer (some (Addr.mk g.1 8 none))) a7) (a8 undef a7) (a8 undef a7)) (ac (λ_ a8=>ac (λ_ a9=>ac (λ_ b0=>ac (λ_ b1=>YW g E h k b1) λb1=>b1 undef b0) λb0=>b0 undef a9) λa9=>a9 undef a8) λa8=>a8 undef a7)) λa6=>zt y E a4 a6 a5) λa4=>zy y a4 a3 a2 E) λa2=>xe y z a1 a2) λz=>aF y (z (.pointer (some (Addr.mk g.1 3 none))) x) (z undef x) (z undef x))))))))))) λg=>onB f (b (d.1,()) e) (g () e)
def p6 (E:Env) (rc:RC) (a0:Value) (h:H) (k:Value->H->R):R:=joinL (λa=>@joinR [2] (λ_ b=>k (.bool true) b) λb=>@loopF [2,9] (uI E a a0 k b) cM (.bool false,(.int .i64 (.ofNat 0),())) h) λa=>onSl a0 (bindO (aX E h 22 a0) a) λ_ b _=>a (.int .i64 (.ofNat b))
def aqS (t:aN) (rc:RC) (a0:Value) (h:H) (k:Value->H->R):(cf (EX t) KK 6).run rc [a0] h k=p6 (EX t) rc a0 h k:=by kernel_rfl
def aqc (rc:RC) (a0 a1 a2:Value) (a:H) (E:Env) (k:Value->H->R):R:=rc 7 [a0,a1,a2] a λb c=>onTup b λd=>nthF 0 d λe=>onTup b λf=>nthF 1 f λg=>rc 9 [a2] c λh i=>rc 8 [a0,a1,h] i λj l=>onTup j λm=>nthF 0 m λn=>onTup j λo=>nthF 1 o λp=>binR (binC E .eql 9 false false) e n λq=>ac (λr s=>ac (λt u=>ac (λv w=>onB q (k (.bool false) w) (k v w)) λv=>aF q (v undef u) (binR (binC E .eql 3 false false) r t λw=>v w u) (v undef u)) λt=>aF q (t undef s) (t p s) (t undef s)) λr=>aF q (r undef l) (r g l) (r undef l)
def arj (rc:RC) (a2:Value) (a:H) (a0 a1:Value) (E:Env) (k:Value->H->R) (b:aa [6]):R:=rc 6 [a2] a λc d=>onB c (@joinR [6] (λ_ e=>aqc rc a0 a1 a2 e E k) λ_=>k (.bool true) d) (@joinR [6] (λ_ e=>aqc rc a0 a1 a2 e E k) λe=>e (b.1,()) d)
def p3 (E:Env) (rc:RC) (a0:Value) (a1:Value) (a2:Value) (h:H) (k:Value->H->R):R:=rc 5 [] h λa b=>onB a (@joinR [6] (λc d=>arj rc a2 d a0 a1 E k c) λ_=>k (.bool false) b) (@joinR [6] (λc d=>arj rc a2 d a0 a1 E k c) λc=>c (.bool false,()) b)
section
structure iE (c:bV):Prop where
 on:c.on.length<=6
 tx:c.texts.length<=6
 lb:c.label.length<=300
 ws:∀s∈c.on++c.texts,s.length<=300
variable {E : Env} (u : UT E) {i37 : TypeInfo} (T1 : ug E 37 9 1 i37 [.string ⟨⟨[]⟩⟩])
section
variable {a b c : H} {E : Env} {k : Value -> H -> R} {f : aa [2] -> H -> R}
def ym:aaM a E f k c=k (.bool false) c:=rfl
def xR:YW a E f k c=k (.bool false) c:=rfl
end
include u
theorem Qz {v:Value} {ws:List Bs} {h:H} (o:WL h v ws) (hl:ws.length<=1000) (k:Value->H->R) (c:aa [2,42]->H->R) (x:Value):∀(d i N:Nat),i+d=ws.length->d<N ->
  @loopF [2,42] (G3 E (.int .i64 (.ofNat ws.length)) v k c) N (x,(.int .i64 (.ofNat i),())) h=if (ws.drop i).all (λs=>ble s.length 300)=true then c (x,(.int .i64 (.ofNat ws.length),())) h else k (.bool false) h:=by
 have u3:=u.u3;intro d
 induction d with
 | zero=> intro i N hi hN;obtain⟨N',rfl⟩:∃N',N=N'+1:=⟨N-1,by omega⟩;rw[aT,List.drop_eq_nil_of_le (by omega)];unfold G3;dsimp only;rw[fj u3 (by omega),ah,ax,show i=ws.length by omega];rfl
 | succ d ih=>
  intro i N hi hN;obtain⟨N',rfl⟩:∃N',N=N'+1:=⟨N-1,by omega⟩;have hlt:i<ws.length:=by omega
  rw[aT,JR hlt,JZ];have ih':=ih (i+1) N' (by omega) (by omega);generalize @loopF [2,42] (G3 E (.int .i64 (.ofNat ws.length)) v k c) N'=L at ih' ⊢;obtain⟨b,of,cp,e',m,op,ro,fz,cs,rfl,hq,hlt2,hcx⟩:=o.get hlt;have hqr:∀K,onRow (hget h b) K=K e' m op ro fz cs:=λK=>by rw[hq];rfl
  have hb1:ble (Nat.succ i) ws.length=true:=aM hlt;have hb2:ble (Nat.succ (of+i)) m=true:=aM (by omega);unfold G3;dsimp only;rw[gt u3 hlt,ah,aA];dsimp only;simp only[↓ah,↓bC,↓bp,hb1,↓di,↓bw,↓au,Ju,Nat.mul_one,↓hqr,hb2,hcx];unfold ak;rw[js u.toUS,aK,fD u3];by_cases q:300<(ws[i]).length
  ·rw[aM (by omega),aA,dt q];rfl
  ·rw[dt (by omega),ax,aM (show (ws[i]).length<=300 by omega),Ky,dr u3 (by omega),ih']
include T1
theorem UZ {l:List bV} {i:Nat} (hi:i<l.length) (hi2:i<=1001) {h:H} {bk of m cp e0 fz:Nat} {op ro:Bool} {cs:T Value} (hq:hget h bk=.row e0 m op ro fz cs) (hm:of+l.length*9<=m) {ln:Int} {von vtx:Value} (hcell:ae cs 9 (of+i*9)=aO ln l[i] von vtx) (w1:WL h von l[i].on) (w2:WL h vtx l[i].texts) (hn:h.next<=800000000)
  (k:Value->H->R) (c:aa [2]->H->R) (L:aa [2,9]->H->R) (x:Value) (X:R) (e:uI E (.int .i64 (.ofNat l.length)) (.slice (some ⟨bk,of,none⟩) l.length cp) k c L (x,(.int .i64 (.ofNat i),())) h=X):
  ∃h',Fr h h' 6/\(X=k (.bool false) h' \/ (i<1001/\iE l[i]/\∃x',X=L (x',(.int .i64 (.ofNat (i+1)),())) h')):=by
 have u3:=u.u3;have hqr:∀K,onRow (hget h bk) K=K e0 m op ro fz cs:=λK=>by rw[hq];rfl
 unfold uI at e;dsimp only at e;rw[gt u3 hi,ah,aA] at e;dsimp only at e;rw[ah,bC,bp,aj (show Nat.succ i<=l.length from hi),bw,au] at e;simp only[Ju,↓hqr] at e;rw[aj (show Nat.add (of+i*9) 9<=m by show of+i*9+9<=m;omega),hcell,aj (show h.1<=1000000000 by show h.next<=_;omega),aD] at e;have f1:Fr h (ag h (.row 39 9 false false 0 (T.ofList unk qg))) 1:=Fr.push _ (by omega);have g1:hget (ag h (.row 39 9 false false 0 (T.ofList unk qg))) h.1=.row 39 9 false false 0 (T.ofList unk qg):=az _ _ (by show h.next<=_;omega);have n1:(ag h (.row 39 9 false false 0 (T.ofList unk qg))).next=h.next+1:=rfl;generalize ag h (.row 39 9 false false 0 (T.ofList unk qg))=h1 at e f1 g1 n1;generalize T.ofList unk qg=zc at g1;have hall:=w1.cellsV w2 ln l[i];rw[xt g1 (show (aO ln l[i] von vtx).length=9 from rfl) hall] at e;have f2:dj h.next h1 (hset h1 h.1 (.row 39 9 false false 0 (putF zc 0 (aO ln l[i] von vtx)))) 0:=dj.set (Jd _) (by show h.next<=_;omega) _;have g2:hget (hset h1 h.1 (.row 39 9 false false 0 (putF zc 0 (aO ln l[i] von vtx)))) h.1=.row 39 9 false false 0 (putF zc 0 (aO ln l[i] von vtx)):=bj _ _ _ (by show h.next<=_;omega);have n2:(hset h1 h.1 (.row 39 9 false false 0 (putF zc 0 (aO ln l[i] von vtx)))).next=h1.next:=rfl;generalize hset h1 h.1 (.row 39 9 false false 0 (putF zc 0 (aO ln l[i] von vtx)))=h2 at e f2 g2 n2;have hcl:ae (putF zc 0 (aO ln l[i] von vtx)) 9 0=aO ln l[i] von vtx:=iA _ rfl;have gv:∀j,j<9->getF (putF zc 0 (aO ln l[i] von vtx)) j=(aO ln l[i] von vtx).getD j unk:=λj hj=>by rw[fF,bI,bJ _ _ _ (by show 0+9<=_;omega),if_pos ⟨JY _,by show j<0+9;omega⟩];rfl
 generalize putF zc 0 (aO ln l[i] von vtx)=cc at g2 hcl gv;have f12:Fr h h2 1:=⟨JV f1.le f2.le,by have:=f1.ub;have:=f2.ub;omega,λid hid=>(f2.old id hid).trans (f1.old id hid)⟩;have hu2:=f12.ub;have q2:∀K,onRow (hget h2 h.1) K=K 39 9 false false 0 cc:=λK=>by rw[g2];rfl
 have g3:getF cc 3=von:=gv 3 (by omega);have g8:getF cc 8=vtx:=gv 8 (by omega);have gl:getF cc 2=ak l[i].label:=gv 2 (by omega);have b3:ble (Nat.succ 3) 9=true:=rfl;have b8:ble (Nat.succ 8) 9=true:=rfl;have b2:ble (Nat.succ 2) 9=true:=rfl;have l1:=λK=>fv (E:=E) (h':=h2) (w1.fr f12) u.u37 K;have l2:=λK=>fv (E:=E) (h':=h2) (w2.fr f12) u.u37 K;have q1:∀K,binR (binC E .gtr 3 false true) (.int .i64 (.ofNat l[i].on.length)) (.int .i64 (.ofNat 6)) K=K (.bool (ble 7 l[i].on.length)):=λK=>fD u3;have q3:∀K,binR (binC E .gtr 3 false true) (.int .i64 (.ofNat l[i].texts.length)) (.int .i64 (.ofNat 6)) K=K (.bool (ble 7 l[i].texts.length)):=λK=>fD u3;have q4:∀K,binR (binC E .gtr 3 false true) (.int .i64 (.ofNat l[i].label.length)) (.int .i64 (.ofNat 300)) K=K (.bool (ble 301 l[i].label.length)):=λK=>fD u3;have q5:∀K,bindO (aX E h2 9 (ak l[i].label)) K=K (.int .i64 (.ofNat l[i].label.length)):=λK=>by unfold ak;rw[js u.toUS,aK]
 rw[iw u3] at e;have bad:k (.bool false) h2=X->∃h',Fr h h' 6/\(X=k (.bool false) h' \/ (i<1001/\iE l[i]/\∃x',X=L (x',(.int .i64 (.ofNat (i+1)),())) h')):=λe=>⟨h2,f12.mono (by omega),.inl e.symm⟩;by_cases qi:1001<=i
 ·rw[aM qi] at e;simp only[↓aE,↓cu,↓fx,↓aA,↓xe,↓zt,↓zy,↓xR,↓ym] at e;exact bad e
 rw[dt (show i<1001 by omega)] at e;by_cases k1:7<=l[i].on.length
 ·rw[aM k1] at q1;simp only[↓aE,↓aW,↓cu,↓cP,↓fx,↓aA,↓ax,↓xe,↓zt,↓zy,↓xR,↓ym,↓au,↓q2,b3,↓di,g3,↓l1,↓q1] at e;exact bad e
 rw[dt (show l[i].on.length<7 by omega)] at q1;by_cases k2:7<=l[i].texts.length
 ·rw[aM k2] at q3;simp only[↓aE,↓aW,↓cu,↓cP,↓fx,↓aA,↓ax,↓xe,↓zt,↓zy,↓xR,↓ym,↓au,↓q2,b3,b8,↓di,g3,g8,↓l1,↓l2,↓q1,↓q3] at e;exact bad e
 rw[dt (show l[i].texts.length<7 by omega)] at q3;by_cases k3:301<=l[i].label.length
 ·rw[aM k3] at q4;simp only[↓aE,↓aW,↓ah,↓cu,↓cP,↓fx,↓aA,↓ax,↓xe,↓zt,↓zy,↓xR,↓ym,↓au,↓q2,b3,b8,b2,↓di,g3,g8,gl,↓l1,↓l2,↓q1,↓q3,↓q5,↓q4] at e;exact bad e
 rw[dt (show l[i].label.length<301 by omega)] at q4;simp only[↓aE,↓aW,↓ah,↓cu,↓cP,↓fx,↓aA,↓ax,↓xe,↓zt,↓zy,↓xR,↓ym,↓au,↓q2,b3,b8,b2,↓di,g3,g8,gl,↓l1,↓l2,↓q1,↓q3,↓q5,↓q4] at e;unfold adB at e;rw[aj (show h2.1<=1000000000 by show h2.next<=_;omega),aD,aD,oG] at e;have hlt2:h.next<h2.next:=by omega
 have f3:Fr h2 (ag h2 (.row 9 0 false false 0 (T.ofList unk (List.flatten (List.replicate 0 (cellsOfV (.string (ByteArray.mk #[])))))))) 1:=Fr.push _ (by omega);have g4:hget (ag h2 (.row 9 0 false false 0 (T.ofList unk (List.flatten (List.replicate 0 (cellsOfV (.string (ByteArray.mk #[])))))))) h2.next=.row 9 0 false false 0 (T.ofList unk (List.flatten (List.replicate 0 (cellsOfV (.string (ByteArray.mk #[])))))):=az _ _ (by omega);have n3:(ag h2 (.row 9 0 false false 0 (T.ofList unk (List.flatten (List.replicate 0 (cellsOfV (.string (ByteArray.mk #[])))))))).next=h2.next+1:=rfl;generalize ag h2 (.row 9 0 false false 0 (T.ofList unk (List.flatten (List.replicate 0 (cellsOfV (.string (ByteArray.mk #[])))))))=h3 at e f3 g4 n3;have f13:Fr h h3 2:=f12.trans f3 (by omega);have q3r:∀K,onRow (hget h3 h.1) K=K 39 9 false false 0 cc:=λK=>by rw[f3.old _ hlt2,g2];rfl
 simp only[↓q3r] at e;rw[aP (show ble 4 9=true from rfl),aP (show ble 9 9=true from rfl),g3,g8] at e;obtain⟨v1,h4,e4,s4,f4⟩:=appW T1 (SL.nil (B:=h2.next) (Jd _) (by omega) g4) (w1.fr f13) (by simp;omega) (by omega);have hu4:=f4.ub;rw[cg e4,aP (gg _)] at e;have q4r:∀K,onRow (hget h4 h.1) K=K 39 9 false false 0 cc:=λK=>by rw[f4.old _ hlt2,f3.old _ hlt2,g2];rfl
 simp only[↓q4r] at e;have f34:Fr h h4 3:=by have a4:dj h.next h3 h4 1:=⟨f4.le,f4.ub,λid hid=>f4.old id (by omega)⟩;exact ((f13.b (Jd _)).trans a4 (Jd _)).fr
 rw[aP (show ble 9 9=true from rfl),g8,aP w2.same] at e;obtain⟨v2,h5,e5,s5,f5⟩:=appW T1 s4 (w2.fr f34) (by simp;omega) (by omega);have hu5:=f5.ub;have f35:Fr h h5 4:=by have a5:dj h.next h4 h5 1:=⟨f5.le,f5.ub,λid hid=>f5.old id (by omega)⟩;exact ((f34.b (Jd _)).trans a5 (Jd _)).fr
 rw[cg e5,aW] at e;rw[KE] at s5;rw[fv s5.wl u.u37] at e;have hll:(l[i].on++l[i].texts).length<=1000:=by rw[Jt];omega
 rw[ah,Qz u s5.wl hll k _ x (l[i].on++l[i].texts).length 0 cM (by omega) (by unfold cM;omega),List.drop_zero] at e;cases ha:(l[i].on++l[i].texts).all (λs=>ble s.length 300) with
 | false=> rw[ha,if_neg (by decide)] at e;exact⟨h5,f35.mono (by omega),.inl e.symm⟩
 | true=> rw[ha,if_pos rfl] at e;dsimp only at e;rw[dr u3 (by omega)] at e;refine⟨h5,f35.mono (by omega),.inr ⟨by omega,⟨by omega,by omega,by omega,λs hs=>I7 (Jv.1 ha s hs)⟩,x,e.symm⟩⟩
theorem ap6 {hb:H} {l:List bV} {bk of m cp e0 fz:Nat} {op ro:Bool} {cs:T Value} (hbk:bk<hb.next) (hq:l ≠ []->hget hb bk=.row e0 m op ro fz cs) (hm:of+l.length*9<=m)
  (hc:∀i,(hi:i<l.length)->i<1002->∃ln von vtx,ae cs 9 (of+i*9)=aO ln l[i] von vtx/\WL hb von l[i].on/\WL hb vtx l[i].texts) (k:Value->H->R) (c:aa [2]->H->R):
  ∀(d i N:Nat) (x:Value) (h:H) (X:R),i+d=1001->d<N->bu hb h->h.next+(d+1)*6<=700000000->(∀j,(hj:j<l.length)->j<i->iE l[j]) ->
   @loopF [2,9] (uI E (.int .i64 (.ofNat l.length)) (.slice (some ⟨bk,of,none⟩) l.length cp) k c) N (x,(.int .i64 (.ofNat i),())) h=X ->
   ∃h',Fr h h' ((d+1)*6)/\(X=k (.bool false) h' \/ (l.length<=1001/\(∀c∈l,iE c)/\∃x',X=c (x',()) h')):=by
 have u3:=u.u3;intro d
 induction d with
 | zero=>
  intro i N x h X hi hN f hn hp e;obtain⟨N',rfl⟩:∃N',N=N'+1:=⟨N-1,by omega⟩;rw[aT] at e;generalize @loopF [2,9] (uI E (.int .i64 (.ofNat l.length)) (.slice (some ⟨bk,of,none⟩) l.length cp) k c) N'=L at e;by_cases q:l.length<=i
  ·unfold uI at e;dsimp only at e;rw[fj u3 q,ah,ax] at e;refine⟨h,Fr.refl _ _,.inr ⟨by omega,λc hc=>?_,x,e.symm⟩⟩;obtain⟨j,hj,rfl⟩:=List.getElem_of_mem hc;exact hp j hj (by omega)
  ·have hlt:i<l.length:=by omega
   obtain⟨ln,von,vtx,hcell,w1,w2⟩:=hc i hlt (by omega);obtain⟨h',f',r⟩:=UZ u T1 hlt (by omega) ((f.old _ hbk).trans (hq (by intro q2;subst q2;exact absurd hlt (Jy _)))) hm hcell (w1.from f) (w2.from f) (by omega) k c L x X e;refine⟨h',f'.mono (by omega),?_⟩;rcases r with r | ⟨r,_⟩
   ·exact .inl r
   ·omega
 | succ d ih=>
  intro i N x h X hi hN f hn hp e;obtain⟨N',rfl⟩:∃N',N=N'+1:=⟨N-1,by omega⟩;rw[aT] at e;generalize hL:@loopF [2,9] (uI E (.int .i64 (.ofNat l.length)) (.slice (some ⟨bk,of,none⟩) l.length cp) k c) N'=L at e;have hmul:(d+1+1)*6=(d+1)*6+6:=Nat.succ_mul _ _;rw[hmul] at hn ⊢;by_cases q:l.length<=i
  ·unfold uI at e;dsimp only at e;rw[fj u3 q,ah,ax] at e;refine⟨h,Fr.refl _ _,.inr ⟨by omega,λc hc=>?_,x,e.symm⟩⟩;obtain⟨j,hj,rfl⟩:=List.getElem_of_mem hc;exact hp j hj (by omega)
  ·have hlt:i<l.length:=by omega
   obtain⟨ln,von,vtx,hcell,w1,w2⟩:=hc i hlt (by omega);obtain⟨h',f',r⟩:=UZ u T1 hlt (by omega) ((f.old _ hbk).trans (hq (by intro q2;subst q2;exact absurd hlt (Jy _)))) hm hcell (w1.from f) (w2.from f) (by omega) k c L x X e;have hu:=f'.ub;rcases r with r | ⟨r1,r2,x',r3⟩
   ·exact⟨h',f'.mono (by omega),.inl r⟩
   ·obtain⟨h2,f2,r⟩:=ih (i+1) N' x' h' X (by omega) (by omega) (f.trans f'.from) (by omega) (λj hj hji=>by
     by_cases q:j=i
     ·subst q;exact r2
     ·exact hp j hj (by omega)) (by rw[hL];exact r3.symm)
    exact⟨h2,f'.trans f2 (by omega),r⟩
theorem avR {rc:RC} (DR:E.und 22=some (.slice 39)) {W:H->Value->List Bs->Prop} (hW:mK W) {h:H} {v:Value} {l:List bV} (o:CW W h v l) (hn:h.next<=600000000) (k:Value->H->R) (X:R) (e:p6 E rc v h k=X):
  ∃h',Fr h h' 6012/\(X=k (.bool false) h' \/ (l.length<=1001/\(∀c∈l,iE c)/\X=k (.bool true) h')):=by
 have u3:=u.u3;unfold p6 at e;rw[aW,lY DR o,ah] at e;cases o with
 | nil=> rw[show cM=(cM-1)+1 from rfl,aT] at e;unfold uI at e;dsimp only at e;rw[fj u3 (show ([]:List bV).length<=0 from Jd _),ah,ax] at e;refine⟨h,Fr.refl _ _,Or.inr ⟨by simp,?_,e.symm⟩⟩;intro c hc;exact absurd hc (by simp)
 | row hbk hq hm hc=>
  obtain⟨h',f',r⟩:=ap6 u T1 hbk hq hm (λi hi hi2=>by
   obtain⟨ln,von,vtx,e,w1,w2⟩:=hc i hi hi2
   exact⟨ln,von,vtx,e,hW.2 _ _ _ w1,hW.2 _ _ _ w2⟩) k _ 1001 0 cM _ h X (by omega) (by unfold cM;omega) (bu.refl _) (by omega) (λj _ hj=>absurd hj (Jy _)) e
  refine⟨h',f'.mono (by omega),?_⟩;rcases r with r | ⟨r1,r2,x',r3⟩
  ·exact .inl r
  ·exact .inr ⟨r1,r2,r3⟩
end
section
def B54 (E:Env):Prop:=∀(ln n m k:Int) (op kd:Nat) (lb:ByteArray) (a1 a2:Option Addr) (n1 c1 n2 c2:Nat),cI E 54 [(0,.int .i64 ln),(1,.int .u8 (.ofNat op)),(2,.string lb),(3,.slice a1 n1 c1),(4,.int .i64 n),(5,.int .i64 m),(6,.int .i64 k),(7,.int .u8 (.ofNat kd)),(8,.slice a2 n2 c2)] =
 some (.agg ⟨[.int .i64 ln,.int .u8 (.ofNat op),.string lb,.slice a1 n1 c1,.int .i64 n,.int .i64 m,.int .i64 k,.int .u8 (.ofNat kd),.slice a2 n2 c2]⟩)
def WL.sl {h:H} {v:Value} {l:List Bs} (o:WL h v l):∃a n c,v=.slice a n c:=by cases o <;> exact⟨_,_,_,rfl⟩
def alc (ln n m k:Int) (op kd:Nat) (lb:ByteArray) (a1 a2:Option Addr) (n1 c1 n2 c2:Nat):dx (λb8=>some (b8*9,9)) (List.flatten (List.replicate 1 (cellsOfV (.agg (@List.toArray Value qg)))))
  [(0,.agg ⟨[.int .i64 ln,.int .u8 (.ofNat op),.string lb,.slice a1 n1 c1,.int .i64 n,.int .i64 m,.int .i64 k,.int .u8 (.ofNat kd),.slice a2 n2 c2]⟩)]=some [.int .i64 ln,.int .u8 (.ofNat op),.string lb,.slice a1 n1 c1,.int .i64 n,.int .i64 m,.int .i64 k,.int .u8 (.ofNat kd),.slice a2 n2 c2]:=rfl
structure OF (W:H->Value->List Bs->Prop) (hb h:H) (v:Value) (l:List bV) (n:Nat) (L:List Value):Prop where
 ol:OL 54 9 h v n L
 len:L.length=n*9
 lo:∀b,dv v=some b->hb.next<=b
 cells:∀i,(hi:i<n)->(hl:i<l.length)->∃ln von vtx,(∀j,j<9->L.getD (i*9+j) unk=(aO ln l[i] von vtx).getD j unk)/\W hb von l[i].on/\W hb vtx l[i].texts
variable {E : Env} (u : UT E) {i54 : TypeInfo} {z : List Value} (T1 : ug E 30 54 9 i54 z) (hB : B54 E)
include u T1 hB
theorem apU {W:H->Value->List Bs->Prop} (hW:mK W) {hb:H} {l:List bV} (hl:l.length<=1001) {v0:Value} (o:CW W hb v0 l) (b:aa [3]->H->R):
  ∀(d i N:Nat) (v:Value) (L:List Value) (h:H) (X:R),i+d=l.length->d<N->bu hb h->OF W hb h v l i L->h.next+d*4<=700000000 ->
   @loopF [3,8] (El E (.int .i64 (.ofNat l.length)) v0 b) N (v,(.int .i64 (.ofNat i),())) h=X ->
   ∃h' v' L',X=b (v',()) h'/\OF W hb h' v' l l.length L'/\dj hb.next h h' (d*4):=by
 have u3:=u.u3;intro d
 induction d with
 | zero=>
  intro i N v L h X hi hN f of hn e;obtain⟨N',rfl⟩:∃N',N=N'+1:=⟨N-1,by omega⟩;rw[aT] at e;generalize @loopF [3,8] (El E (.int .i64 (.ofNat l.length)) v0 b) N'=K at e;unfold El at e;dsimp only at e;rw[fj u3 (by omega),ah,ax] at e;obtain rfl:i=l.length:=by omega
  exact⟨h,v,L,e.symm,of,dj.refl _ _ _⟩
 | succ d ih=>
  intro i N v L h X hi hN f of hn e;obtain⟨N',rfl⟩:∃N',N=N'+1:=⟨N-1,by omega⟩;have hlt:i<l.length:=by omega
  rw[aT] at e;generalize hK:@loopF [3,8] (El E (.int .i64 (.ofNat l.length)) v0 b) N'=K at e;have o':=o;cases o' with
  | nil=>exact absurd hlt (Jy _)
  | row hbk hq hm hc=>
  rename_i bk ofs e0 m cp fz op ro cs;have hq:=hq (λq=>by subst q;exact absurd hlt (Jy _));obtain⟨ln,von,vtx,hcell,w1,w2⟩:=hc i hlt (by omega);have hqr:∀K,onRow (hget h bk) K=K e0 m op ro fz cs:=λK=>by rw[f.old _ hbk,hq];rfl
  unfold El at e;dsimp only at e;rw[gt u3 hlt,ah,aA] at e;dsimp only at e;rw[ah,bC,bp,aj (show Nat.succ i<=l.length from hlt),bw,au] at e;simp only[Ju,↓hqr] at e;rw[aj (show Nat.add (ofs+i*9) 9<=m by show ofs+i*9+9<=m;omega),hcell,aj (show h.1<=1000000000 by show h.next<=_;omega),aD] at e;have f1:Fr h (ag h (.row 39 9 false false 0 (T.ofList unk qg))) 1:=Fr.push _ (by omega);have g1:hget (ag h (.row 39 9 false false 0 (T.ofList unk qg))) h.1=.row 39 9 false false 0 (T.ofList unk qg):=az _ _ (by show h.next<=_;omega);have n1:(ag h (.row 39 9 false false 0 (T.ofList unk qg))).next=h.next+1:=rfl;generalize ag h (.row 39 9 false false 0 (T.ofList unk qg))=h1 at e f1 g1 n1;generalize T.ofList unk qg=zc at g1;have hall:=(hW.2 _ _ _ w1).cellsV (hW.2 _ _ _ w2) ln l[i];rw[xt g1 (show (aO ln l[i] von vtx).length=9 from rfl) hall] at e;have f2:dj h.next h1 (hset h1 h.1 (.row 39 9 false false 0 (putF zc 0 (aO ln l[i] von vtx)))) 0:=dj.set (Jd _) (by show h.next<=_;omega) _;have g2:hget (hset h1 h.1 (.row 39 9 false false 0 (putF zc 0 (aO ln l[i] von vtx)))) h.1=.row 39 9 false false 0 (putF zc 0 (aO ln l[i] von vtx)):=bj _ _ _ (by show h.next<=_;omega);have n2:(hset h1 h.1 (.row 39 9 false false 0 (putF zc 0 (aO ln l[i] von vtx)))).next=h1.next:=rfl;generalize hset h1 h.1 (.row 39 9 false false 0 (putF zc 0 (aO ln l[i] von vtx)))=h2 at e f2 g2 n2;have gv:∀j,j<9->getF (putF zc 0 (aO ln l[i] von vtx)) j=(aO ln l[i] von vtx).getD j unk:=λj hj=>by rw[fF,bI,bJ _ _ _ (by show 0+9<=_;omega),if_pos ⟨JY _,by show j<0+9;omega⟩];rfl
  generalize putF zc 0 (aO ln l[i] von vtx)=cc at g2 gv;have f12:Fr h h2 1:=⟨JV f1.le f2.le,by have:=f1.ub;have:=f2.ub;omega,λid hid=>(f2.old id hid).trans (f1.old id hid)⟩;have hu2:=f12.ub;have hl2:=f12.le;have q2:∀K,onRow (hget h2 h.1) K=K 39 9 false false 0 cc:=λK=>by rw[g2];rfl
  simp only[↓q2,show ble 1 9=true from rfl,show ble 2 9=true from rfl,show ble 3 9=true from rfl,show ble 4 9=true from rfl,show ble 5 9=true from rfl,show ble 6 9=true from rfl,show ble 7 9=true from rfl,show ble 8 9=true from rfl,show ble 9 9=true from rfl,↓di,gv 0 (by omega),gv 1 (by omega),gv 2 (by omega),gv 3 (by omega),gv 4 (by omega),gv 5 (by omega),gv 6 (by omega),gv 7 (by omega),gv 8 (by omega)] at e;obtain⟨a1,m1,c1,hv1⟩:=(hW.2 _ _ _ w1).sl;obtain⟨a2,m2,c2,hv2⟩:=(hW.2 _ _ _ w2).sl;have hb54:=hB ln l[i].n l[i].m l[i].k l[i].op l[i].kind ⟨⟨l[i].label⟩⟩ a1 a2 m1 c1 m2 c2;rw[<-hv1,<-hv2] at hb54;have hf54:=alc ln l[i].n l[i].m l[i].k l[i].op l[i].kind ⟨⟨l[i].label⟩⟩ a1 a2 m1 c1 m2 c2;rw[<-hv1,<-hv2] at hf54;change bindO (cI E 54 [(0,.int .i64 ln),(1,.int .u8 (.ofNat l[i].op)),(2,.string ⟨⟨l[i].label⟩⟩),(3,von),(4,.int .i64 l[i].n),(5,.int .i64 l[i].m),(6,.int .i64 l[i].k),(7,.int .u8 (.ofNat l[i].kind)),(8,vtx)]) _=X at e;rw[hb54,aK,hf54] at e;dsimp only at e;rw[aj (show h2.1<=1000000000 by show h2.next<=_;omega),aD] at e;have ol2:OL 54 9 h2 v i L:=of.ol.keep f12.le λbb hb hbl=>f12.old bb hbl
  obtain⟨v',h3,e3,ol3,n3,b3,fr3⟩:=ud T1 ol2 (xs:=aO ln l[i] von vtx) rfl (by
   rw[Jv];intro x hx;have:=Jv.1 hall x hx
   rw[<-oj];exact this) (by omega) (by omega)
  rw[show ba E (ag h2 (.row 54 9 false false 0 (T.ofList unk [.int .i64 ln,.int .u8 (.ofNat l[i].op),.string ⟨⟨l[i].label⟩⟩,von,.int .i64 l[i].n,.int .i64 l[i].m,.int .i64 l[i].k,.int .u8 (.ofNat l[i].kind),vtx]))) .append [v,.slice (some ⟨h2.1,0,none⟩) 1 2] [30,30]=some (v',h3) from e3,cg rfl,dr u3 (by omega)] at e;have f3:dj hb.next h2 h3 2:=⟨by omega,by omega,λid hid=>fr3 id (by have:=f.le;omega) (λq=>by have:=of.lo _ q;omega)⟩;have f03:dj hb.next h h3 3:=(f12.b f.le).trans f3 (Jd _);have hmul:(d+1)*4=d*4+4:=Nat.succ_mul _ _;rw[hmul] at hn ⊢;have hF3:bu hb h3:=⟨JV f.le f03.le,λid hid=>(f03.old id hid).trans (f.old id hid)⟩;have of3:OF W hb h3 v' l (i+1) (L++aO ln l[i] von vtx):=by
   refine⟨ol3,by rw[Jt,of.len,show (aO ln l[i] von vtx).length=9 from rfl,Nat.succ_mul],λbb hbb=>by rw[b3] at hbb;cases hbb;have:=f.le;omega,λj hj hjl=>?_⟩;by_cases q:j<i
   ·obtain⟨ln',von',vtx',h1,h2,h3⟩:=of.cells j q hjl;refine⟨ln',von',vtx',λx hx=>?_,h2,h3⟩;rw[Jc,Kj (by rw[of.len];omega),<-Jc,h1 x hx]
   ·obtain rfl:j=i:=by omega
    refine⟨ln,von,vtx,λx hx=>?_,w1,w2⟩;rw[Jc,KA (by rw[of.len];omega),of.len,show j*9+x-j*9=x by omega,<-Jc]
  have hu3:=f03.ub;obtain⟨h4,v4,L4,e4,of4,f4⟩:=ih (i+1) N' v' _ h3 X (by omega) (by omega) hF3 of3 (by omega) (by rw[hK];exact e);exact⟨h4,v4,L4,e4,of4,f03.trans f4 (by omega)⟩
end
end Go.Ev
namespace Go.Ev
open Go F Go.Proofs Go.RowKit
def jQ (ws:List Bs):Nat:=(ws.map λw=>w.length+1).sum
def mV (a b:List Bs):jQ (a++b)=jQ a+jQ b:=by unfold jQ;rw[List.map_append,List.sum_append]
def kB (w:Bs):jQ [w]=w.length+1:=by unfold jQ;simp
def wM:∀ws:List Bs,(bQ ws).length<=jQ ws
 | []=>Jd _
 | [w]=>by rw[kB];show w.length<=_;omega
 | w :: v :: l=>by have:=wM (v :: l);show (w++32 :: bQ (v :: l)).length<=jQ ([w]++(v :: l));rw[mV,kB,Jt,Jz];omega
def qG:∀tx:List Bs,(∀s∈tx,s.length<=300)->jQ (tx.map dF)<=tx.length*302
 | [],_=>Jd _
 | s :: tx,h=>by have h1:=qG tx (λx hx=>h x (JG _ hx));have h2:=lh s;have h3:=h s (Jq ..);show jQ ([dF s]++tx.map dF)<=_;rw[mV,kB,Jz,Nat.succ_mul];omega
def sj {l:List Bs} (h:∀s∈l,s.length<=300):(l.headD []).length<=300:=by
 cases l with
 | nil=>simp
 | cons a l=>exact h a (Jq ..)
def DY (k:Nat):(aZ.getD k []).length<=300:=by
 by_cases q:k<5
 ·match k,q with
  | 0,_=>exact (by decide)
  | 1,_=>exact (by decide)
  | 2,_=>exact (by decide)
  | 3,_=>exact (by decide)
  | 4,_=>exact (by decide)
 ·rw[Jc,Kw (by show 5<=k;omega)];simp
def Dw {c:bV} (C:iE c) {r:UInt8} {ws on tx:List Bs} (h1:∀s∈on,s.length<=300) (h2:∀s∈tx,s.length<=300) (h3:tx.length<=6):
  jQ (bK c r ws on tx).1<=jQ ws+2000/\(∀s∈(bK c r ws on tx).2.1,s.length<=300)/\(∀s∈(bK c r ws on tx).2.2,s.length<=300)/\(bK c r ws on tx).2.2.length<=6:=by
 have one:∀w:Bs,w.length<=301->jQ (ws ++ [w])<=jQ ws+2000:=λw hw=>by rw[mV,kB];omega
 have n1:=gU c.n;have n2:=gU c.m;have n3:=gU c.k;have hl:=C.lb;have hon:=sj h1;have htx:=sj h2;have htt:=lh (tx.headD []);have hk:=DY c.kind;unfold bK;split
 ·exact⟨one _ (by omega),h1,h2,h3⟩
 split
 ·exact⟨one _ (by omega),λs hs=>h1 s (List.mem_of_mem_tail hs),h2,h3⟩
 split
 ·refine⟨one _ ?_,h1,h2,h3⟩;split
  ·simp
  ·omega
 split
 ·exact⟨one _ (by omega),h1,h2,h3⟩
 split
 ·exact⟨one _ (by omega),h1,h2,h3⟩
 split
 ·exact⟨one _ (by omega),h1,h2,h3⟩
 split
 ·exact⟨one _ (by omega),h1,λs hs=>h2 s (List.mem_of_mem_tail hs),by simp only[List.length_tail];omega⟩
 ·have:=qG tx h2;have:tx.length*302<=6*302:=Kr _ h3;exact⟨by show jQ (ws++tx.map dF)<=_;rw[mV];omega,h1,h2,h3⟩
def Bn {c:bV} (C:iE c):∀(rs:Bs) (ws on tx:List Bs),(∀s∈on,s.length<=300)->(∀s∈tx,s.length<=300)->tx.length<=6->jQ (gb c rs (ws,on,tx)).1<=jQ ws+rs.length*2000
 | [],ws,on,tx,_,_,_=>by show jQ ws<=_;omega
 | r :: rs,ws,on,tx,h1,h2,h3=>by obtain⟨a,b,c',d⟩:=Dw C (r:=r) (ws:=ws) h1 h2 h3;have:=Bn C rs (bK c r ws on tx).1 _ _ b c' d;show jQ (gb c rs (bK c r ws on tx)).1<=_;rw[Jz,Nat.succ_mul];exact JV this (by omega)
def G1 {i:Nat} (hi:i<41):(ct.getD i ([],[])).1.length<=20/\(ct.getD i ([],[])).2.length<=4:=by have h:=Jv.1 rm (ct[i]'hi) (J6 _);simp only[Ja] at h;rw[Jc,Jn (show i<ct.length from hi)];exact⟨I7 h.1.1,I7 h.1.2⟩
def nl {c:bV} (C:iE c):(∀s∈c.on,s.length<=300)/\∀s∈c.texts,s.length<=300:=⟨λs hs=>C.ws s (Ku _ hs),λs hs=>C.ws s (Kf _ hs)⟩
def vS {c:bV} (C:iE c):(dw c).1.length<=15000:=by
 unfold dw;split
 ·simp
 split
 ·simp
 ·rename_i h1 h2;have hop:c.op<41:=by omega
  obtain⟨r1,r2⟩:=G1 hop;have h:=Bn C (ct.getD c.op ([],[])).2 [(ct.getD c.op ([],[])).1] c.on c.texts (nl C).1 (nl C).2 C.tx;rw[kB] at h;have:=wM (gb c (ct.getD c.op ([],[])).2 ([(ct.getD c.op ([],[])).1],c.on,c.texts)).1;have h4:(ct.getD c.op ([],[])).2.length*2000<=4*2000:=Kr _ r2;show (bQ _ ++ [10]).length<=_;rw[Jt,J7];omega
def RI {c:bV} (C:iE c):oX c:=JV (vS C) (by decide)
def ZC (c:bV):Prop:=(eX c.n/\eX c.m/\eX c.k)/\c.op<=255/\c.kind<=255
def Ph {c:bV} (C:iE c) (z:ZC c):Hx c:=⟨z.1,z.2.1,z.2.2,by have:=C.lb;omega,λs hs=>by have:=(nl C).1 s hs;omega,λs hs=>by have:=(nl C).2 s hs;omega,by have:=C.tx;omega⟩
def CW.from {W:H->Value->List Bs->Prop} {h h':H} {v:Value} {l:List bV} (o:CW W h v l) (hW:mK W) (f:bu h h'):CW W h' v l:=by
 cases o with
 | nil=>exact .nil
 | row hb hq hm hc=> refine .row (Jp hb f.le) (λq=>(f.old _ hb).trans (hq q)) hm λi hi hi2=>?_;obtain⟨ln,von,vtx,e,w1,w2⟩:=hc i hi hi2;exact⟨ln,von,vtx,e,hW.1 _ _ _ _ w1 f,hW.1 _ _ _ _ w2 f⟩
end Go.Ev
