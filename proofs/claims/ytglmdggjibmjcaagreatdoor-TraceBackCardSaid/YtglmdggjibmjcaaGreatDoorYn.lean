/-
  THE LAW of printing and parsing back answers true, in abstract memory.
-/
import Derived.Test.YtglmdggjibmjcaaGreatDoorYl
import Derived.Test.YtglmdggjibmjcaaGreatDoorYm
noncomputable section
set_option linter.all false
set_option maxRecDepth 100000
set_option exponentiation.threshold 3000
open Nat (ble beq)
namespace Go.Ev.Bk
open Go F Go.Proofs
open Go.Ev.Pa (EB yg tB tB_ok okLines)
def X5 {W:H->Value->List Bs->Prop} {hb h g:H} {v:Value} {l:List bV} {n:Nat} {L:List Value} (o:OF W hb h v l n L) (K:Value->R):onSl v (bindO (aX EB g 30 v) K) (λ_ n _=>K (.int .i64 (.ofNat n)))=K (.int .i64 (.ofNat n)):=by
 obtain⟨ol,_,_,_⟩:=o;cases ol with
 | nil=>
  rw[ji];have:aX EB g 30 (.slice none 0 0)=some (.int .i64 (.ofNat 0)):=by unfold aX;rw[aw7];rfl
  rw[this];rfl
 | row=>rw[bp]
def If {W:H->Value->List Bs->Prop} {hb h:H} {v:Value} {l:List bV} {n:Nat} {L:List Value} (o:OF W hb h v l n L) (hn:0<n):∃b op cells,v=.slice (some ⟨b,0,none⟩) n (2*n+op.toNat)/\b<h.next/\hb.next<=b /\
  hget h b=.row 54 (n*9) op false 0 cells/\∀i,i<n*9->getF cells i=L.getD i unk:=by
 obtain⟨ol,len,lo,_⟩:=o;cases ol with
 | nil=>exact absurd hn (KO 0)
 | row hb hq hL hc hp=>exact⟨_,_,_,rfl,hb,lo _ rfl,hq,λi hi=>hc i (by omega)⟩
def wm {hS:H} [HS hS] (m:Nat) {h:H} (hq:bu hS h) (hn:h.next<=300000000) {s:Bs} (hs:s.length<=70000) (hls:okLines (aU s)) {cap keeps ln:Nat} {l l2:List bV} (hp:gJ s=(cap,keeps,l2,ln,0)) {v:Value} (o:CW WL h v l)
  (hl:l.length<=1001) (he:l.map strip=l2.map strip) (hb:∀c∈l,c.on.length<=100000/\c.texts.length<=100000) (k:Value->H->R) (X:R) (e:ar EB KK (m+6) 10 [ak s,.int .i64 (.ofNat cap),.int .i64 (.ofNat keeps),v] h k=X):
  ∃h',X=k (.bool true) h'/\Fr h h' 5700000:=by
 have u3:=IZ.u3;have hlen:l.length=l2.length:=by have:=congrArg List.length he;simpa using this
 have e:=(av0 (m+5) _ _ _ _ h k).symm.trans e;unfold p10 at e;obtain⟨h1,v1,f1,e1,c1,lo1⟩:=Pa.parse_run m hs hls hq (by omega) _ _ e;rw[hp] at e1 c1;have hu1:=f1.ub;have hl1:=f1.le;obtain⟨o1,_⟩:=UO c1;have o1:CW WL h1 v1 l2:=o1;have n1:∀(x y:Value) (K:Value->R) (r:List Value),nthF 1 (x :: y :: r) K=K y:=λ_ _ _ _=>rfl;have n2:∀(x y z:Value) (K:Value->R) (r:List Value),nthF 2 (x :: y :: z :: r) K=K z:=λ_ _ _ _ _=>rfl;have n3:∀(x y z w:Value) (K:Value->R) (r:List Value),nthF 3 (x :: y :: z :: w :: r) K=K w:=λ_ _ _ _ _ _=>rfl;have n4:∀(x y z w a:Value) (K:Value->R) (r:List Value),nthF 4 (x :: y :: z :: w :: a :: r) K=K a:=λ_ _ _ _ _ _ _=>rfl;simp only[↓bg,↓bB,↓n1,↓n2,↓n3,↓n4] at e1;rw[Pa.neq_i64' Qa,JQ,show (!true)=false from rfl] at e1;simp only[↓aE,↓cP,Aq] at e1;rw[Pa.neq_i64' u3,JQ,show (!true)=false from rfl] at e1;simp only[↓aE,↓cP,↓ax] at e1;rw[Pa.neq_i64' u3,JQ,show (!true)=false from rfl] at e1;have f1':Fr h h1 5600240:=(f1.mono (by omega)).fr;have o0:CW WL h1 v l:=by
  have mW:mK WL:=⟨λh h' v l o f=>o.frB (B:=0) f.le f.old,λh v l o=>o⟩;cases o with
  | nil=>exact .nil
  | row hb hq hm hc=> refine .row (Jp hb f1'.le) (λq=>(f1'.old _ hb).trans (hq q)) hm λi hi hi2=>?_;obtain⟨ln,von,vtx,e,w1,w2⟩:=hc i hi hi2;exact⟨ln,von,vtx,e,mW.1 _ _ _ _ w1 f1'.from,mW.1 _ _ _ _ w2 f1'.from⟩
 simp only[↓aE,↓cP,↓ax,EV] at e1;rw[aW,lY GE o0] at e1;rw[aW,lY GE o1,hlen,Pa.neq_i64' u3,JQ,show (!true)=false from rfl] at e1;simp only[↓aE,↓cP,↓ax,↓ah] at e1;unfold Ir at e1;obtain⟨h2,va,La,e2,ofA,f2⟩:=of_run (m+4) hl (cw0 o0 (bu.refl h1)) (by omega) _ _ e1.symm;have hu2:=f2.ub;have hl2:=f2.le;have e2:=e2;obtain⟨h3,vb,Lb,e3,ofB,f3⟩:=of_run (m+4) (by omega) (cw0 o1 f2.from) (by omega) _ _ e2.symm;have hu3:=f3.ub;have hl3:=f3.le;rw[aW,X5 ofA,ah] at e3;have fr:∀{h':H},h1.next<=h'.next->h'.next<=h1.next+10010->(∀id,id<h1.next->hget h' id=hget h1 id)->Fr h h' 5700000:=λa b c=>⟨by omega,by omega,λid hid=>(c id (by omega)).trans (f1'.old id hid)⟩;have hold3:∀id,id<h1.next->hget h3 id=hget h1 id:=λid hid=>(f3.old id (by omega)).trans (f2.old id hid);rw[<-hlen] at ofB;by_cases q:l.length=0
 ·rw[show cM=(cM-1)+1 from rfl,aT,q] at e3;generalize @loopF [8,50] _ (cM-1)=L at e3;unfold sA at e3;dsimp only at e3;rw[fj u3 (Jd _),ah,ax] at e3;exact⟨h3,e3,fr (by omega) (by omega) hold3⟩
 ·obtain⟨A,opA,cA,rfl,a1,a2,a3,a4⟩:=If ofA (by omega);obtain⟨B,opB,cB,rfl,b1,b2,b3,b4⟩:=If ofB (by omega);obtain⟨h4,x4,e4,r1,r2,r3⟩:=ahv (k20 (m+3)) he hl hb (h0:=h1) (h2:=h3) (A:=A) (B:=B) (La:=La) (Lb:=Lb) (opB:=opB) (cellsB:=cB) a2 (by omega) b1 (by omega) hold3
   (λi hi=>by
    obtain⟨ln,von,vtx,q1,q2,q3⟩:=ofA.cells i hi hi
    exact⟨ln,von,vtx,q1,q2.1,q3.1⟩)
   (λi hi=>by
    obtain⟨ln,von,vtx,q1,q2,q3⟩:=ofB.cells i (by omega) hi
    exact⟨ln,von,vtx,q1,q2.1,q3.1⟩) b3 b4 k _ l.length 0 cM _ h3 cA _ (by omega) (by unfold cM;omega) (Jd _) (λ_ _ _=>rfl) ((f3.old A a1).trans a3) (λj _ hj=>a4 j hj) (by omega) e3.symm
  exact⟨h4,e4,fr (by omega) (by omega) r3⟩
def Ho:mK WL:=⟨λh h' v l o f=>o.frB (B:=0) f.le f.old,λh v l o=>o⟩
def gv5:bR EB KK 5=⟨λ_ args h c=>cE (bA glob args h) c⟩:=by kernel_rfl
def r5 {hS:H} [HS hS] (m:Nat) {h:H} (hq:bu hS h) (k:Value->H->R):ar EB KK (m+1) 5 [] h k=k (.bool true) h:=by
 show (bR EB KK 5).run _ _ _ _=_;rw[gv5];have e:bA glob [] h=some (.bool true,h):=by show (bif dO glob 0 h then some (Value.bool true,h) else none)=_;rw[qI hq];rfl
 exact cg e k
def gv7:bR EB KK 7=⟨λ_ args h c=>cE (qO args h) c⟩:=by kernel_rfl
def k7 {hS:H} [HS hS] (m:Nat) {h:H} (hq:bu hS h) {v:Value} {l:List bV} (o:CW WL h v l) (hk:nD v) {cap keeps:Int} (g:rv cap keeps l) (k:Value->H->R):
  ar EB KK (m+1) 7 [.int .i64 cap,.int .i64 keeps,v] h k=k (.tuple ⟨[ak (eK cap keeps l).1,.int .i64 (.ofNat (eK cap keeps l).2)]⟩) h:=by
 show (bR EB KK 7).run _ _ _ _=_;rw[gv7];exact cg (C7 (qI hq) o hk g) k
def SF {h:H} {s:Bs} (K:Value->R):bindO (aX EB h 9 (ak s)) K=K (.int .i64 (.ofNat s.length)):=by
 have:aX EB h 9 (ak s)=some (.int .i64 (.ofNat s.length)):=by unfold aX;rw[IZ.u9];rfl
 rw[this];rfl
def U4 {m n:Nat} {cx cy:Bool} {k:Value->R}:binR (binC EB .gtr 3 cx cy) (.int .i64 (.ofNat m)) (.int .i64 (.ofNat n)) k=k (.bool (ble (n+1) m)):=fD IZ.u3
def Ba {n:Nat} (h:n<=4294967296):eX (.ofNat n):=by have e:Int.ofNat n=(n:Int):=rfl;rw[e];exact⟨by omega,by omega⟩
def HC {hS:H} [HS hS] (m:Nat) {h:H} (hq:bu hS h) (hn:h.next<=200000000) (s:Bs) (hs:s.length<=8000) (k:Value->H->R) (X:R) (b:aa [8]) (e:KU (ar EB KK (m+7)) (ak s) h EB k b=X):∃h',X=k (.bool true) h':=by
 unfold KU at e;have hls:okLines (aU s):=λx hx=>by have h1:=Pa.line_le s x hx;have h2:=CY x;exact⟨by omega,by omega⟩
 obtain⟨h1,v1,f1,e1,c1,lo1⟩:=Pa.parse_run (m+2) (by omega) hls hq (by omega) _ _ e;have hu1:=f1.ub;have hl1:=f1.le;have n1:∀(x y:Value) (K:Value->R) (r:List Value),nthF 1 (x :: y :: r) K=K y:=λ_ _ _ _=>rfl;have n2:∀(x y z:Value) (K:Value->R) (r:List Value),nthF 2 (x :: y :: z :: r) K=K z:=λ_ _ _ _ _=>rfl;have n3:∀(x y z w:Value) (K:Value->R) (r:List Value),nthF 3 (x :: y :: z :: w :: r) K=K w:=λ_ _ _ _ _ _=>rfl;have n4:∀(x y z w a:Value) (K:Value->R) (r:List Value),nthF 4 (x :: y :: z :: w :: a :: r) K=K a:=λ_ _ _ _ _ _ _=>rfl;obtain⟨n,kp,mm,ln,er,hps⟩:∃n kp mm ln er,gJ s=(n,kp,mm,ln,er):=⟨_,_,_,_,_,rfl⟩;rw[hps] at e1 c1;simp only[↓bg,↓bB,↓n1,↓n2,↓n3,↓n4] at e1;rw[Pa.neq_i64' Qa] at e1;by_cases q:er=0
 ·subst q;rw[JQ,show (!true)=false from rfl,ah,ax] at e1;dsimp only at e1;obtain⟨⟨z1,z2⟩,hm,hok,s',hp,hs',hls',hback⟩:=DJ hs hps;obtain⟨o1,k1⟩:=UO c1;have o1:CW WL h1 v1 mm:=o1;have hq1:bu hS h1:=hq.trans ⟨hl1,f1.old⟩;have g:rv (.ofNat n) (.ofNat kp) mm:=⟨Ba z1,Ba z2,by omega,λc hc=>(hok c hc).1,λc hc=>(hok c hc).2.1⟩;rw[k7 (m+6) hq1 o1 k1 g] at e1;have hpt:eK (.ofNat n) (.ofNat kp) mm=(s',0):=by rw[ww,show gE (.ofNat n) (.ofNat kp) mm=.ok s' from hp]
  rw[hpt] at e1;simp only[↓bg,↓bB,↓n1] at e1;rw[j1 Qa,JQ] at e1;simp only[↓aE,↓cu] at e1;unfold GU at e1;rw[cu] at e1;obtain⟨h2,e2,f2⟩:=wm (m+1) hq1 (by omega) (by omega) hls' hback o1 (by omega) (kL mm 2).symm (λc hc=>⟨by have:=(hok c hc).2.2;omega,by have:=(hok c hc).1.nt;omega⟩) _ _ e1.symm;rw[aA] at e2;exact⟨h2,e2⟩
 ·rw[show beq er 0=false from by cases er with | zero=>exact absurd rfl q | succ n=>rfl] at e1;rw[show (!false)=true from rfl,ah,aA] at e1;exact⟨h1,e1⟩
def law4 {hS:H} [HS hS] (m:Nat) {h:H} (hq:bu hS h) (hn:h.next<=100000000) {v:Value} {l:List bV} (o:CW WL h v l) (hk:nD v) (hZ:l.length<=1001->∀c∈l,ZC c) {cap keeps:Int} (hcap:eX cap) (hkeeps:eX keeps) (s:Bs) (k:Value->H->R):
  ∃h',ar EB KK (m+8) 4 [.int .i64 cap,.int .i64 keeps,v,ak s] h k=k (.bool true) h':=by
 have u3:=IZ.u3;rw[cv4];generalize hX:p4 EB (ar EB KK (m+7)) (.int .i64 cap) (.int .i64 keeps) v (ak s) h k=X;unfold p4 at hX;rw[r5 (m+6) hq,aA,ah] at hX;unfold alh at hX;obtain⟨h1,f1,r⟩:=avR IZ aw2 (rc:=ar EB KK (m+6)) GE Ho o (by omega) _ _ ((cv6 (m+6) _ _ _).symm.trans hX);have hu1:=f1.ub;rcases r with r | ⟨r1,r2,r⟩
 ·rw[ax] at r;simp only[↓aE,IR,↓ah] at r;exact⟨h1,r⟩
 rw[aA] at r;have hZ:=hZ r1;have hq1:=hq.trans f1.from;have o1:CW WL h1 v l:=o.from Ho f1.from;simp only[↓aE] at r;rw[aW,lY GE o1,U4] at r;by_cases q1:61<=l.length
 ·rw[aM q1] at r;simp only[↓cu,↓aA,IR,↓aE,↓ah] at r;exact⟨h1,r⟩
 rw[dt (by omega)] at r;simp only[↓aE,↓cP] at r;rw[SF] at r;rw[U4] at r;by_cases q2:8001<=s.length
 ·rw[aM q2] at r;simp only[↓cu,↓aA,↓ax,IR,↓aE,↓ah] at r;exact⟨h1,r⟩
 rw[dt (by omega),ax,ah,ax] at r;dsimp only at r;unfold aiC at r;have g:rv cap keeps l:=⟨hcap,hkeeps,r1,λc hc=>Ph (r2 c hc) (hZ c hc),λc hc=>RI (r2 c hc)⟩;rw[k7 (m+6) hq1 o1 hk g] at r;have n1:∀(x y:Value) (K:Value->R) (r:List Value),nthF 1 (x :: y :: r) K=K y:=λ_ _ _ _=>rfl;simp only[↓bg,↓bB,↓n1] at r;rw[j1 Qa] at r;rw[ww] at r;cases hp:gE cap keeps l with
 | error er=>
  rw[hp] at r;dsimp only at r;have hne:beq er 0=false:=by
   unfold gE at hp;split at hp
   ·cases hp;rfl
   ·split at hp
    ·split at hp
     ·cases hp;rfl
     ·split at hp
      ·cases hp;rfl
      ·exact nomatch hp
    ·cases hp;rfl
  rw[hne] at r;simp only[↓aE,↓cP,↓ax,GU,↓ah] at r;exact HC m hq1 (by omega) s (by omega) k X _ r.symm
 | ok s'=>
  rw[hp] at r;dsimp only at r;rw[JQ] at r;simp only[↓aE,↓cu,GU] at r;obtain⟨b1,b2,b3,b4,b5⟩:=jN hp;have hls:okLines (aU s'):=oR hp λc hc y hy=>by rw[<-xL hy];exact vS (r2 c hc)
  rw[show (Value.int .i64 cap)=.int .i64 (.ofNat cap.toNat) from by rw[show (Int.ofNat cap.toNat)=cap from b2],show (Value.int .i64 keeps)=.int .i64 (.ofNat keeps.toNat) from by rw[show (Int.ofNat keeps.toNat)=keeps from b3]] at r;obtain⟨h2,e2,f2⟩:=wm (m+1) hq1 (by omega) (by omega) hls b1 o1 r1 (kL l 2).symm (λc hc=>⟨by have:=(r2 c hc).on;omega,by have:=(r2 c hc).tx;omega⟩) _ _ r.symm;have hu2:=f2.ub;simp only[↓aA,↓cu,↓aE,↓ax,↓ah] at e2;exact HC m (hq1.trans f2.from) (by omega) s (by omega) k X _ e2.symm
end Go.Ev.Bk
