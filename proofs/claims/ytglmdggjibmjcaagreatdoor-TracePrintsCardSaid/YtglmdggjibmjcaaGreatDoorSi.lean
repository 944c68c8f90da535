/-
  THE REFERENCE's SCRIPT of commands, printed, in abstract memory.
-/
import Derived.Test.YtglmdggjibmjcaaGreatDoorSh
noncomputable section
set_option linter.unusedVariables false
set_option linter.unusedSimpArgs false
set_option maxRecDepth 100000
open Nat (ble beq)
namespace Go.Ev
open Go F Go.Proofs
section
section
variable {h : H} {E : Env} {a : H} {k : Value -> H -> R} {rc : RC} {b : aa [5]} {c : H} {g : H} {d : aa [2, 3]}
end
variable {E : Env} (u : UT E) {rc : RC} {hS : H}
include u
theorem awj {ch:H} {a g:H} {k:Value->H->R} {rest:Bs} {f:aa [2,3]} {cs:T Value} {von vtx:Value} {on tx:List Bs} (qc:∀K,onRow (hget a ch.1) K=K 54 9 false false 0 cs) (g3:getF cs 3=von) (g8:getF cs 8=vtx) (o1:WL a von on) (o2:WL a vtx tx)
  (hn:a.next<=900000000) {nh nt:Nat} (h1:∀K,rc 37 [aj rest,.int .u8 (.ofNat 104)] a K=K (.int .i64 (.ofNat nh)) a) (h2:∀K,rc 37 [aj rest,.int .u8 (.ofNat 116)] a K=K (.int .i64 (.ofNat nt)) a) (more:Bool):
  Bw ch E g k rc f (.bool more) (aj rest,()) a=if (!beq on.length nh||ble (tx.length+1) nt||(ble (nt+1) tx.length && !more))=true then k FW a else oX a ch E g k rc (aj rest,()) f:=by
 have u3:=u.u3;subst g3 g8;have l1:=λK=>io (E:=E) (h':=a) o1 u.u37 K;have l2:=λK=>io (E:=E) (h':=a) o2 u.u37 K;have s1:∀K,ifB (ai (getF cs 3) (getF cs 3)) K=K:=λK=>aO o1.same K;have s2:∀K,ifB (ai (getF cs 8) (getF cs 8)) K=K:=λK=>aO o2.same K;have s3:∀(p:Addr) K,ifB (ai (.pointer (some p)) (.pointer (some p))) K=K:=λp K=>aO (dQ p) K;have s4:∀(x:IntKind) (n:Int) K,ifB (ai (.int x n) (.int x n)) K=K:=λx n K=>aO (fB x n) K;have s5:∀K,ifB (ai undef undef) K=K:=λK=>rfl;have b4:∀K,ifB (ble 4 9) K=K:=λK=>rfl;have b8:∀K,ifB (ble (Nat.succ 8) 9) K=K:=λK=>rfl;have e0:∀K:H->R,ifB (ble a.1 1000000000) (letH (H.mk a.1 a.2) K)=K a:=λK=>by rw[am (show a.1<=1000000000 by show a.next<=_;omega),aE]
 have q1:∀K,binR (binC E .neq 3 false false) (.int .i64 (.ofNat on.length)) (.int .i64 (.ofNat nh)) K=K (.bool (!beq on.length nh)):=λK=>lS u3;have q2:∀K,binR (binC E .lss 3 false false) (.int .i64 (.ofNat tx.length)) (.int .i64 (.ofNat nt)) K=K (.bool (ble (tx.length+1) nt)):=λK=>oi u3;have q3:∀K,binR (binC E .gtr 3 false false) (.int .i64 (.ofNat tx.length)) (.int .i64 (.ofNat nt)) K=K (.bool (ble (nt+1) tx.length)):=λK=>dC u3;generalize (!beq on.length nh)=b1 at q1 ⊢;generalize ble (tx.length+1) nt=b2 at q2 ⊢;generalize ble (nt+1) tx.length=b3 at q3 ⊢;unfold Bw;cases b1
 ·cases b2
  ·cases b3
   ·simp only[↓e0,↓qc,↓b4,↓b8,↓bI,↓bd,↓aK,↓ag,↓l1,↓l2,↓h1,↓h2,↓s1,↓s2,↓s3,↓s4,↓s5,↓q1,↓q2,↓q3,↓bT,↓cS,↓cZ,↓az,↓ar,↓au,↓pg,↓jS,↓jO,↓mI,↓pL,↓oB,↓Ms,Bool.or_false,Bool.false_or,Bool.false_and,↓reduceIte,Bool.false_eq_true]
   ·cases more <;>
    simp only[↓e0,↓qc,↓b4,↓b8,↓bI,↓bd,↓aK,↓ag,↓l1,↓l2,↓h1,↓h2,↓s1,↓s2,↓s3,↓s4,↓s5,↓q1,↓q2,↓q3,↓bT,↓cS,↓cZ,↓az,↓ar,↓au,↓pg,↓jS,↓jO,↓mI,↓pL,↓oB,↓Ms,Bool.or_false,Bool.false_or,Bool.true_and,Bool.not_true,Bool.not_false,↓reduceIte,Bool.false_eq_true] <;> rfl
  ·simp only[↓e0,↓qc,↓b4,↓b8,↓bI,↓bd,↓aK,↓ag,↓l1,↓l2,↓h1,↓h2,↓s1,↓s2,↓s3,↓s4,↓s5,↓q1,↓q2,↓q3,↓bT,↓cS,↓cZ,↓az,↓ar,↓au,↓pg,↓jS,↓jO,↓mI,↓pL,↓oB,↓Ms,Bool.or_true,Bool.true_or,↓reduceIte]
 ·simp only[↓e0,↓qc,↓b4,↓b8,↓bI,↓bd,↓aK,↓ag,↓l1,↓l2,↓h1,↓h2,↓s1,↓s2,↓s3,↓s4,↓s5,↓q1,↓q2,↓q3,↓bT,↓cS,↓cZ,↓az,↓ar,↓au,↓pg,↓jS,↓jO,↓mI,↓pL,↓oB,↓Ms,Bool.true_or,↓reduceIte]
end
section
theorem set2 {h:H} {ty b:Nat} {cells:T Value} {L:List Value} (hq:hget h b=.row ty 2 false false 0 cells) (hL:L.length=2) (h1:L.all cell1F=true) (K:H->R):
  (onRow (hget h b) λc d e f g h'=>ifB (notB f) (ifB (beq (lenF L) 2) (ifB (ble g 0) (ifB (ble 2 d) (ifB (ble d 1000000000) (ifB (allF (λy=>cell1F y) L) (letH (hset h b (.row c d e false g (putF h' 0 L))) K)))))))=K (hset h b (.row ty 2 false false 0 (putF cells 0 L))):=by
 rw[hq,bV,aO (c:=notB false) rfl,aO (c:=beq (lenF L) 2) (by rw[cC,hL];rfl),am (Nat.zero_le _),am (Nat.le_refl _),am (by omega),aO (by rw[lX,h1]),aE]
theorem aws (cells:T Value) (a b:Value):getF (putF cells 0 [a,b]) 0=a/\getF (putF cells 0 [a,b]) 1=b:=by rw[fv,bF,bF,bw _ _ _ (by simp),bw _ _ _ (by simp),if_pos (by simp),if_pos (by simp)];exact⟨rfl,rfl⟩
def qO (c:dj) (f:Form):Bool:=!beq c.on.length (f.rest.count .h)||ble (c.texts.length+1) (f.rest.count .t)||(ble (f.rest.count .t+1) c.texts.length && !f.more)
def uv (c:dj) (rb:Bs):Bool:=!(c.n==(0:Nat)) && !ju rb 78 79||!(c.m==(0:Nat)) && !ju rb 77 77||(!(c.k==(0:Nat)) && !ju rb 75 75||!beq c.kind 0 && !ju rb 107 107||!(c.label==([]:Bs)) && !ju rb 76 76)
def iK (c:dj):Bs × Bool:=
 if 41<=c.op then ([],false)
 else if qO c (fZ c.op)||uv c ((fZ c.op).rest.map dr) then ([],false)
 else match pH c (fZ c.op).rest c.on c.texts (fZ c.op).word with
  | none=>([],false)
  | some (a,tx)=>match sk tx a with
   | none=>([],false)
   | some s=>(s ++ [10],true)
theorem jF (s:Sg):∀g:List Sg,(g.map dr).count (dr s)=g.count s
 | []=>rfl
 | a :: g=>by
  rw[List.map_cons,List.count_cons,List.count_cons,jF s g];have:(dr a==dr s)=(a==s):=by cases a <;> cases s <;> rfl
  rw[this]
theorem tg:∀(tx:List Bs) (a s:Bs),small tx->sk tx a=some s->s.length<=a.length+tx.length*100000
 | [],a,s,_,h=>by cases h;simp
 | t :: tx,a,s,hs,h=>by
  unfold sk at h;split at h
  ·have h1:=tg tx _ s (λx hx=>hs x (List.mem_cons_of_mem _ hx)) h;have h2:=ni t;have h3:=hs t (List.mem_cons_self ..);have:(t :: tx).length*100000=tx.length*100000+100000:=by rw[List.length_cons,Nat.succ_mul]
   rw[List.length_append] at h1;omega
  ·exact nomatch h
structure L19 (rc:RC) (hS:H):Prop where
 has:Fj rc
 two:∀(s:Bs) (b c:UInt8) (h:H) (k:Value->H->R),s.length<=900000->rc 38 [aj s,.int .u8 (.ofNat b.toNat),.int .u8 (.ofNat c.toNat)] h k=k (.bool (ju s b c)) h
 part:we rc hS
 text:wR rc
 table:∀(h:H) (k:Value->H->R),h.next<=900000000->rc 36 [] h k=k (.slice (some ⟨h.next,0,none⟩) 41 82) (ae h nH)
variable {E : Env} (u : UT E) {rc : RC} {hS : H}
include u
theorem apo {s:Bs} {n:Nat} (h:n<=s.length):cI E 9 (.string ⟨⟨s⟩⟩) none (some (.int .i64 (.ofNat n))) none=some (.string ⟨⟨s.take n⟩⟩):=by have g1:ble n s.length=true:=aJ h;have g2:ble 0 n=true:=rfl;unfold cI;rw[u.u9];simp only[bound,g1,cond_true,g2];rfl
theorem Of (W:L19 rc hS) {c:dj} (C:vR c) {ln:Int} {von vtx:Value} {ch gh a:H} (hSa:bJ hS a) (hrow:hget a ch.1=.row 54 9 false false 0 (T.ofList unk (aL ln c von vtx))) (hch:ch.1<a.next) {cs:T Value} {r0:Bs} (hg:hget a gh.1=.row 77 2 false false 0 cs) (hg0:getF cs 0=aj (fZ c.op).word) (o1:WL a von c.on) (o2:WL a vtx c.texts) (hn:a.next<=700000000)
  (hw:(fZ c.op).word.length<=100) (hr:(fZ c.op).rest.length<=4) (hop:¬ 41<=c.op) (k:Value->H->R) (f:aa [2,3]) (X:R) (e:Bw ch E gh k rc f (.bool (fZ c.op).more) (aj ((fZ c.op).rest.map dr),()) a=X):∃h',X=k (dK (iK c)) h'/\Fr a h' 8:=by
 have u3:=u.u3;have u5:=u.u5;have qc:∀K,onRow (hget a ch.1) K=K 54 9 false false 0 (T.ofList unk (aL ln c von vtx)):=λK=>by rw[hrow];rfl
 have gv:∀i,getF (T.ofList unk (aL ln c von vtx)) i=(aL ln c von vtx).getD i unk:=λi=>by rw[aH]
 unfold iK;rw[if_neg hop];generalize fZ c.op=F at *;have hrl:(F.rest.map dr).length<=4:=by rw[List.length_map];exact hr
 have c1:∀(s:Sg) K,rc 37 [aj (F.rest.map dr),.int .u8 (.ofNat (dr s).toNat)] a K=K (.int .i64 (.ofNat (F.rest.count s))) a:=λs K=>by rw[W.has _ _ _ _ (by omega),jF]
 rw[awj u qc (gv 3) (gv 8) o1 o2 (by omega) (c1 .h) (c1 .t)] at e;change (if qO c F=true then _ else _)=X at e;cases h1:qO c F with
 | true=> rw[h1,if_pos rfl] at e;rw[if_pos (by rw[Bool.true_or])];exact⟨a,e.symm,Fr.refl _ _⟩
 | false=>
  rw[h1,if_neg (by decide)] at e;rw[s17 qc (gv 4) (gv 5) (gv 6) (gv 7) (gv 2) (λK=>rk u3) (λK=>rk u3) (λK=>rk u3) (λK=>xM u5) (λK=>DO u.toUS) (λK=>W.two _ 78 79 _ K (by omega)) (λK=>W.two _ 77 77 _ K (by omega)) (λK=>W.two _ 75 75 _ K (by omega)) (λK=>W.two _ 107 107 _ K (by omega)) (λK=>W.two _ 76 76 _ K (by omega))] at e;change (if uv c (F.rest.map dr)=true then _ else _)=X at e;rw[Bool.false_or];cases h2:uv c (F.rest.map dr) with
  | true=> rw[h2,if_pos rfl] at e;rw[if_pos rfl];exact⟨a,e.symm,Fr.refl _ _⟩
  | false=>
   rw[h2,if_neg (by decide)] at e;rw[if_neg (by decide)];unfold qO at h1;simp only[Bool.or_eq_false_iff] at h1;have k1:c.on.length=F.rest.count .h:=Nat.eq_of_beq_eq_true (by simpa using h1.1.1);have k2:F.rest.count .t<=c.texts.length:=by
    have:=h1.1.2;by_cases q:c.texts.length+1<=F.rest.count .t
    ·rw[aJ q] at this;exact nomatch this
    ·omega
   unfold tV at e;rw[hg,bV,aO (show ble 1 2=true from rfl),ag,hg0] at e;obtain⟨h3,f3,hm⟩:=FD u W.part C hSa hrow hch o1 o2 hr k _ f.1 f.2.1 F.rest.length 0 cK 0 0 F.word a X (by omega) (by unfold cK;omega) (bJ.refl _) (by omega) (by omega) (by rw[List.drop_zero];omega) (by rw[List.drop_zero];omega) (by omega) (by omega) e;rw[List.drop_zero,List.drop_zero,List.drop_zero] at hm;cases hA:pH c F.rest c.on c.texts F.word with
   | none=>rw[hA] at hm;exact⟨h3,hm,f3.mono (by omega)⟩
   | some p=>
    obtain⟨a1,tx1⟩:=p;rw[hA] at hm;obtain⟨y,m1,rfl,m3,m4⟩:=hm;dsimp only at m1;have nt:=C.nt;rw[ag,CS u W.text C (by rw[f3.old _ hch,hrow]) (o2.fr f3) k _ f.1 f.2.1 (c.texts.length-y) y cK a1 (by omega) (by unfold cK;omega) (by omega)] at m1;cases hB:sk (c.texts.drop y) a1 with
    | none=>rw[hB] at m1;exact⟨h3,by simp only[hB];exact m1,f3.mono (by omega)⟩
    | some s=> rw[hB] at m1;have hsl:=tg _ _ _ (kN C.tx y) hB;rw[List.length_drop] at hsl;dsimp only at m1;unfold aj at m1;rw[ku u.toUS (by rw[List.length_singleton];omega),aO (show nT [.string ⟨⟨s ++ [10]⟩⟩,.bool true]=true from rfl)] at m1;exact⟨h3,by simp only[hB];exact m1,f3.mono (by omega)⟩
theorem auf (W:L19 rc hS) {c:dj} (C:vR c) {ln:Int} {von vtx:Value} {h:H} (hSh:bJ hS h) (o1:WL h von c.on) (o2:WL h vtx c.texts) (hn:h.next<=600000000) (k:Value->H->R) (X:R)
  (e:p19 E rc (.agg ⟨aL ln c von vtx⟩) h k=X):∃h',X=k (dK (iK c)) h'/\Fr h h' 11:=by
 have u3:=u.u3;have u5:=u.u5;unfold p19 at e;have ha:allF (λb=>cell1F b) (aL ln c von vtx)=true:=by rw[lX];exact o1.cellsV o2 ln c
 rw[gz,aO ha,am (show h.1<=1000000000 by show h.next<=_;omega),aE,show lenF (aL ln c von vtx)=9 from rfl] at e;have f1:Fr h (ae h (.row 54 9 false false 0 (T.ofList unk (aL ln c von vtx)))) 1:=Fr.push _ (by omega);have g1:hget (ae h (.row 54 9 false false 0 (T.ofList unk (aL ln c von vtx)))) h.1=.row 54 9 false false 0 (T.ofList unk (aL ln c von vtx)):=aB _ _ (by show h.next<=_;omega);have n1:(ae h (.row 54 9 false false 0 (T.ofList unk (aL ln c von vtx)))).next=h.next+1:=rfl;generalize ae h (.row 54 9 false false 0 (T.ofList unk (aL ln c von vtx)))=h1 at e f1 g1 n1;have gc1:getF (T.ofList unk (aL ln c von vtx)) 1=.int .u8 (.ofNat c.op):=rfl;have q1:∀K,onRow (hget h1 h.1) K=K 54 9 false false 0 (T.ofList unk (aL ln c von vtx)):=λK=>by rw[g1];rfl
 have b2:ble 2 9=true:=rfl;simp only[↓q1] at e;rw[aO b2,gc1,aea u5] at e;by_cases qo:41<=c.op
 ·rw[aJ qo] at e;simp only[↓ag,↓az] at e;refine⟨h1,?_,f1.mono (by omega)⟩;unfold iK;rw[if_pos qo];exact e.symm
 ·have hop:c.op<41:=by omega
  rw[cz (show c.op<40+1 by omega)] at e;simp only[↓ag,↓ar] at e;have q1':∀K,onRow (hget (H.mk (Nat.add h1.1 1) h1.2) h.1) K=K 54 9 false false 0 (T.ofList unk (aL ln c von vtx)):=q1;rw[am (show h1.1<=1000000000 by show h1.next<=_;omega),aE] at e;simp only[↓q1'] at e;rw[aO b2,aE,ka] at e;have f2:Fr h1 (ae h1 (.row 77 2 false false 0 (T.ofList unk [.string (ByteArray.mk #[]),.string (ByteArray.mk #[])]))) 1:=Fr.push _ (by omega);have g2:hget (ae h1 (.row 77 2 false false 0 (T.ofList unk [.string (ByteArray.mk #[]),.string (ByteArray.mk #[])]))) h1.1=.row 77 2 false false 0 (T.ofList unk [.string (ByteArray.mk #[]),.string (ByteArray.mk #[])]):=aB _ _ (by show h1.next<=_;omega);have n2:(ae h1 (.row 77 2 false false 0 (T.ofList unk [.string (ByteArray.mk #[]),.string (ByteArray.mk #[])]))).next=h1.next+1:=rfl;generalize ae h1 (.row 77 2 false false 0 (T.ofList unk [.string (ByteArray.mk #[]),.string (ByteArray.mk #[])]))=h2 at e f2 g2 n2;rw[W.table _ _ (by omega),aO (dQ _)] at e;have f3:Fr h2 (ae h2 nH) 1:=Fr.push _ (by omega);have g3:hget (ae h2 nH) h2.next=nH:=aB _ _ (by omega);have n3:(ae h2 nH).next=h2.next+1:=rfl;generalize ae h2 nH=h3 at e f3 g3 n3;have hc3:hget h3 h.1=.row 54 9 false false 0 (T.ofList unk (aL ln c von vtx)):=by rw[f3.old _ (by show h.next<h2.next;omega),f2.old _ (by show h.next<h1.next;omega),g1]
  have q3:∀K,onRow (hget h3 h.1) K=K 54 9 false false 0 (T.ofList unk (aL ln c von vtx)):=λK=>by rw[hc3];rfl
  have q3r:∀K,onRow (hget h3 h2.next) K=K 77 82 false false 0 (T.ofList unk (gY iw)):=λK=>by rw[g3];rfl
  have hg3:hget h3 h1.1=.row 77 2 false false 0 (T.ofList unk [.string (ByteArray.mk #[]),.string (ByteArray.mk #[])]):=by rw[f3.old _ (by show h1.next<h2.next;omega),g2]
  simp only[↓q3] at e;rw[aO b2,gc1,aO (fB _ _),bK,bP,am (show Nat.succ c.op<=41 from hop),bM,au] at e;simp only[↓q3r,Nat.mul_eq,Nat.zero_add,Nat.add_eq] at e;have hf:=List.all_eq_true.1 ac9 c.op (List.mem_range.2 hop);unfold Tf at hf;simp only[Bool.and_eq_true,decide_eq_true_eq] at hf;obtain⟨⟨hf1,hf2⟩,hf3⟩:=hf;have hf3:=Nat.le_of_ble_eq_true hf3;rw[am (show c.op*2+2<=82 by omega),AX hop] at e;change onRow _ (λy z a1 a2 a3 a4=>ifB (notB a2) (ifB (beq (lenF [aj (mZ c.op).1,aj (mZ c.op).2]) 2) (ifB (ble a3 0) (ifB (ble 2 z) (ifB (ble z 1000000000) (ifB (allF (λa5=>cell1F a5) [aj (mZ c.op).1,aj (mZ c.op).2]) (letH (hset h3 h1.1 (.row y z a1 false a3 (putF a4 0 [aj (mZ c.op).1,aj (mZ c.op).2]))) _)))))))=X at e;rw[set2 hg3 rfl rfl] at e;obtain⟨p1,p2⟩:=aws (T.ofList unk [.string (ByteArray.mk #[]),.string (ByteArray.mk #[])]) (aj (mZ c.op).1) (aj (mZ c.op).2);generalize putF (T.ofList unk [.string (ByteArray.mk #[]),.string (ByteArray.mk #[])]) 0 [aj (mZ c.op).1,aj (mZ c.op).2]=cs at e p1 p2;have f4:dI h1.next h3 (hset h3 h1.1 (.row 77 2 false false 0 cs)) 0:=dI.set (Nat.le_refl _) (by show h1.next<=_;omega) _;have g4:hget (hset h3 h1.1 (.row 77 2 false false 0 cs)) h1.1=.row 77 2 false false 0 cs:=bp _ _ _ (by show h1.next<=_;omega);have n4:(hset h3 h1.1 (.row 77 2 false false 0 cs)).next=h3.next:=rfl;generalize hset h3 h1.1 (.row 77 2 false false 0 cs)=h4 at e f4 g4 n4;have q4:∀K,onRow (hget h4 h1.1) K=K 77 2 false false 0 cs:=λK=>by rw[g4];rfl
  have hc4:hget h4 h.1=.row 54 9 false false 0 (T.ofList unk (aL ln c von vtx)):=by rw[f4.old _ (by show h.next<h1.next;omega),hc3]
  have f04:Fr h h4 3:=by have a1:=f1.b (B:=h.next) (Nat.le_refl _);have a2:=f2.b (B:=h.next) f1.le;have a3:=f3.b (B:=h.next) (Nat.le_trans f1.le f2.le);have a4:dI h.next h3 h4 0:=⟨f4.le,f4.ub,λid hid=>f4.old id (by omega)⟩;exact (((a1.trans a2 (Nat.le_refl _)).trans a3 (Nat.le_refl _)).trans a4 (by omega)).fr
  have hu4:=f04.ub;simp only[↓q4,p2] at e;rw[aO (show ble 2 2=true from rfl)] at e;have fin:∀(f:aa [2,3]),Bw h E h1 k rc f (.bool (fZ c.op).more) (aj ((fZ c.op).rest.map dr),()) h4=X->∃h',X=k (dK (iK c)) h'/\Fr h h' 11:=λf e=>by
   have hrl:(fZ c.op).rest.length<=4:=by rw[hf2,List.length_append,List.length_map] at hf3;omega
   have hwl:(fZ c.op).word.length<=100:=by
    have:(List.range 41).all (λi=>ble (fZ i).word.length 100)=true:=by decide
    exact Nat.le_of_ble_eq_true (List.all_eq_true.1 this c.op (List.mem_range.2 hop))
   obtain⟨h5,e5,f5⟩:=Of u (r0:=[]) W C (hSh.trans f04.from) hc4 (by show h.next<h4.next;have:=f1.ub;have:=f2.le;have:=f3.le;have:=f4.le;omega) g4 (by rw[p1,hf1]) (o1.fr f04) (o2.fr f04) (by omega) hwl hrl (by omega) k f X e;exact⟨h5,e5,f04.trans f5 (by omega)⟩
  rw[hf2] at e;generalize fZ c.op=F at *;unfold aj at e;rw[fD u.toUS,aA,dC u3] at e;cases hm:F.more with
  | true=>
   rw[hm] at e fin;have hll:(F.rest.map dr ++ [43]).length=(F.rest.map dr).length+1:=by simp
   rw[if_pos rfl,hll,aJ (by omega)] at e;have hlen:∀(hh:H),aZ E hh 9 (.string ⟨⟨F.rest.map dr ++ [43]⟩⟩)=some (.int .i64 (.ofNat ((F.rest.map dr).length+1))):=λhh=>by rw[fD u.toUS,hll]
   have hsub:∀K,binR (binC E .sub 3 false true) (.int .i64 (.ofNat ((F.rest.map dr).length+1))) (.int .i64 (.ofNat 1)) K=K (.int .i64 (.ofNat (F.rest.map dr).length)):=λK=>by rw[fO u3 (by omega) (by rw[hf2,hm,if_pos rfl] at hf3;omega)];rfl
   have hix:cQ E 9 (.string ⟨⟨F.rest.map dr ++ [43]⟩⟩) (.int .i64 (.ofNat (F.rest.map dr).length))=some (cg 43):=lD u.toUS (by rw[List.getElem?_append_right (Nat.le_refl _)];simp);have hsl:cI E 9 (.string ⟨⟨F.rest.map dr ++ [43]⟩⟩) none (some (.int .i64 (.ofNat (F.rest.map dr).length))) none=some (.string ⟨⟨F.rest.map dr⟩⟩):=by rw[apo u (by rw[hll];omega),List.take_append_of_le_length (Nat.le_refl _),List.take_length]
   have heq:∀K,binR (binC E .eql 5 false true) (cg 43) (.int .u8 (.ofNat 43)) K=K (.bool true):=λK=>by unfold cg;rw[hU u5];rfl
   simp only[↓aK,↓bT,hlen,↓aA,↓hsub,hix,↓heq,↓az,↓ag,hsl] at e;exact fin _ e
  | false=>
   rw[hm] at e fin;rw[if_neg (by decide),List.append_nil] at e;rcases List.eq_nil_or_concat F.rest with hr | ⟨g,s,hr⟩
   ·rw[hr] at e fin;rw[show ble (0+1) (List.map dr []).length=false from rfl] at e;simp only[↓aK,↓cS,↓ar,↓ag] at e;exact fin _ e
   ·have hne:F.rest ≠ []:=by rw[hr];simp
    clear hr;have hll:(F.rest.map dr).length=(F.rest.map dr).length-1+1:=by have:=List.length_pos_iff.2 hne;rw[List.length_map];omega
    have hge:∃x:Sg,(F.rest.map dr)[(F.rest.map dr).length-1]?=some (dr x):=by
     rw[List.getElem?_map];have:(F.rest.map dr).length-1<F.rest.length:=by have:=List.length_pos_iff.2 hne;rw[List.length_map];omega
     rw[List.getElem?_eq_getElem this];exact⟨_,rfl⟩
    obtain⟨x,hge⟩:=hge;have hlen:∀(hh:H),aZ E hh 9 (.string ⟨⟨F.rest.map dr⟩⟩)=some (.int .i64 (.ofNat ((F.rest.map dr).length))):=λhh=>by rw[fD u.toUS]
    have hl4:(F.rest.map dr).length<=4:=by rw[hf2,hm,if_neg (by decide),List.append_nil] at hf3;exact hf3
    rw[aJ (show 0+1<=(F.rest.map dr).length by omega)] at e;have hsub:∀K,binR (binC E .sub 3 false true) (.int .i64 (.ofNat (F.rest.map dr).length)) (.int .i64 (.ofNat 1)) K=K (.int .i64 (.ofNat ((F.rest.map dr).length-1))):=λK=>by rw[fO u3 (by omega) (by omega)]
    have hix:cQ E 9 (.string ⟨⟨F.rest.map dr⟩⟩) (.int .i64 (.ofNat ((F.rest.map dr).length-1)))=some (cg (dr x)):=lD u.toUS hge;have heq:∀K,binR (binC E .eql 5 false true) (cg (dr x)) (.int .u8 (.ofNat 43)) K=K (.bool false):=λK=>by unfold cg;rw[hU u5];cases x <;> rfl
    simp only[↓aK,↓bT,hlen,↓aA,↓hsub,hix,↓heq,↓az,↓ar,↓ag] at e;exact fin _ e
end
end Go.Ev
namespace Go.Ev
open Go F
theorem nX (s:Sg):∀g:List Sg,g.contains s=ble 1 (g.count s)
 | []=>rfl
 | a :: g=>by
  rw[List.contains_cons,nX s g,List.count_cons];by_cases q:a=s
  ·subst q;rw[beq_self_eq_true,Bool.true_or,if_pos rfl,aJ (by omega)]
  ·rw[beq_eq_false_iff_ne.2 (λe=>q e.symm),Bool.false_or,if_neg (by simpa using q),Nat.add_zero]
theorem od (s:Sg) (g:List Sg):ju (g.map dr) (dr s) (dr s)=g.contains s:=by
 unfold ju;rw[jF,nX];by_cases q:1<=g.count s
 ·rw[aJ q,aJ (by omega)]
 ·rw[cz (by omega),cz (by omega)]
theorem M8 (s v:Sg) (g:List Sg):ju (g.map dr) (dr s) (dr v)=(g.contains s||g.contains v):=by
 unfold ju;rw[jF,jF,nX,nX];by_cases q:1<=g.count s
 ·rw[aJ q,aJ (by omega)];rfl
 ·rw[cz (show g.count s<1 by omega)];by_cases q2:1<=g.count v
  ·rw[aJ q2,aJ (by omega)];rfl
  ·rw[cz (show g.count v<1 by omega),cz (by omega)];rfl
theorem vE (a b:Nat):ble (a+1) b=!ble b a:=by
 by_cases q:b<=a
 ·rw[aJ q,cz (by omega)];rfl
 ·rw[cz (show a<b by omega),aJ (by omega)];rfl
theorem wV (n:Int):(!(n==((0:Nat):Int)))=decide (n≠0):=by
 by_cases q:n=0
 ·subst q;rfl
 ·rw[decide_eq_true q];simp;exact q
theorem Q4 (c:dj) (f:Form):(qO c f||uv c (f.rest.map dr))=gL c f:=by
 unfold qO uv gL;rw[show ju (f.rest.map dr) 78 79=_ from M8 .n .o f.rest,show ju (f.rest.map dr) 77 77=_ from od .m f.rest,show ju (f.rest.map dr) 75 75=_ from od .k f.rest,show ju (f.rest.map dr) 107 107=_ from od .c f.rest,show ju (f.rest.map dr) 76 76=_ from od .L f.rest];rw[vE,vE,wV,wV,wV];have e1:(!beq c.kind 0)=decide (c.kind≠0):=by
  by_cases q:c.kind=0
  ·rw[q];rfl
  ·rw[dH q,decide_eq_true q];rfl
 have e2:(!(c.label==([]:Bs)))=!c.label.isEmpty:=by cases c.label <;> rfl
 rw[e1,e2,Bool.and_comm (!ble c.texts.length _)];simp only[Bool.or_assoc]
def onT (s:Sg) (on:List Bs):List Bs:=if s=.h then on.tail else on
def txT (s:Sg) (tx:List Bs):List Bs:=if s=.t then tx.tail else tx
theorem wv (n:Int):∃w,ij n=(if (dV n).2 then some w else none)/\((dV n).2=true->(dV n).1=32 :: w):=by
 unfold ij dV;by_cases q:0<=n/\n<=4294967296
 ·rw[if_pos q,decide_eq_true q];exact⟨_,rfl,λ_=>by rw[uF q.1]⟩
 ·rw[if_neg q,decide_eq_false q];exact⟨[],rfl,λh=>nomatch h⟩
theorem zO {c:dj} {s:Sg} {on tx:List Bs} (h1:s=.h->on ≠ []) (h2:s=.t->tx ≠ []):∃w,o8 c s on tx=(if (jr c on tx s).2 then some (w,onT s on,txT s tx) else none)/\((jr c on tx s).2=true->(jr c on tx s).1=32 :: w):=by
 have num:∀n:Int,∃w,((ij n).map λw=>(w,on,tx))=(if (dV n).2 then some (w,on,tx) else none)/\((dV n).2=true->(dV n).1=32 :: w):=λn=>by obtain⟨w,e1,e2⟩:=wv n;refine⟨w,?_,e2⟩;rw[e1];cases (dV n).2 <;> rfl
 cases s with
 | L=>
  refine⟨c.label,?_,λ_=>rfl⟩;show (if aM c.label=true/\c.label.length<=16 then some (c.label,on,tx) else none)=if (aM c.label&&ble c.label.length 16)=true then some (c.label,on,tx) else none
  by_cases q:c.label.length<=16
  ·rw[aJ q];cases aM c.label with
   | true=>rw[if_pos ⟨rfl,q⟩];rfl
   | false=>rw[if_neg (λh=>nomatch h.1)];rfl
  ·rw[cz (by omega),Bool.and_false,if_neg (λh=>q h.2)];rfl
 | h=> obtain⟨w,on',rfl⟩:=List.exists_cons_of_ne_nil (h1 rfl);exact⟨w,rfl,λ_=>rfl⟩
 | t=>
  obtain⟨w,tx',rfl⟩:=List.exists_cons_of_ne_nil (h2 rfl);show ∃v,((gH w).map λw=>(w,on,tx'))=(if (eP w).2=true then some (v,on,tx') else none)/\((eP w).2=true->(eP w).1=32 :: v);unfold gH eP;by_cases q:w=[]
  ·rw[if_pos q,if_pos q];exact⟨[46],rfl,λ_=>rfl⟩
  ·rw[if_neg q,if_neg q];by_cases q2:w=[46]
   ·rw[if_pos (show w = str "." from q2)]
    subst q2;exact⟨[],rfl,λh=>nomatch h⟩
   ·rw[if_neg (show ¬ w = str "." from q2)]
    have:(!(w==([46]:Bs))&&aM w)=aM w:=by rw[beq_eq_false_iff_ne.2 q2];rfl
    refine⟨w,?_,λ_=>rfl⟩;simp only[this];cases aM w <;> rfl
 | c=>
  show ∃w,(if c.kind<=4 then some (dk.getD c.kind [],on,tx) else none)=(if ble c.kind 4=true then some (w,on,tx) else none)/\(ble c.kind 4=true->32 :: ga.getD (min c.kind 5) []=32 :: w);by_cases q:c.kind<=4
  ·rw[if_pos q,aJ q];refine⟨_,rfl,λ_=>?_⟩;rw[Nat.min_eq_left (by omega)]
   match c.kind,q with
   | 0,_=>rfl
   | 1,_=>rfl
   | 2,_=>rfl
   | 3,_=>rfl
   | 4,_=>rfl
  ·rw[if_neg q,cz (by omega)];exact⟨[],rfl,λh=>nomatch h⟩
 | o=>
  show ∃w, (if c.n = -1 then some (str "none", on, tx) else (ij c.n).map fun w=> (w, on, tx)) = (if (if c.n = -1 then (([32, 110, 111, 110, 101]:Bs), true) else dV c.n).2 = true then some (w, on, tx) else none) /\ ((if c.n = -1 then (([32, 110, 111, 110, 101]:Bs), true) else dV c.n).2 = true -> (if c.n = -1 then (([32, 110, 111, 110, 101]:Bs), true) else dV c.n).1 = 32 :: w)
  by_cases q:c.n=-1
  ·rw[if_pos q,if_pos q];exact⟨str "none", rfl, fun _=> rfl⟩
  ·rw[if_neg q,if_neg q];exact num c.n
 | n=>exact num c.n
 | m=>exact num c.m
 | k=>exact num c.k
def blanks (ws:List Bs):Bs:=(ws.map (32 :: ·)).flatten
theorem jI (w:Bs) (ws:List Bs):blanks (w :: ws)=32 :: (w++blanks ws):=by unfold blanks;rw[List.map_cons,List.flatten_cons];rfl
theorem xw (a b:List Bs):blanks (a++b)=blanks a++blanks b:=by unfold blanks;rw[List.map_append,List.flatten_append]
theorem nC:∀(w:Bs) (ws:List Bs),dh (w :: ws)=w++blanks ws
 | w,[]=>by unfold blanks;simp[dh]
 | w,v :: ws=>by rw[jI];show w++32 :: dh (v :: ws)=_;rw[nC v ws]
theorem xW {c:dj}:∀(g:List Sg) (on tx:List Bs) (a:Bs),g.count .h<=on.length->g.count .t<=tx.length->pH c g on tx a=(eB c g on tx).map λp=>(a++blanks p.1,p.2.2)
 | [],on,tx,a,_,_=>by show some (a,tx)=some (a++blanks [],tx);unfold blanks;simp
 | s :: g,on,tx,a,h1,h2=>by
  rw[List.count_cons] at h1 h2;obtain⟨w,e1,e2⟩:=zO (c:=c) (s:=s) (on:=on) (tx:=tx) (λq e=>by rw[if_pos (by rw[q];rfl),e] at h1;simp at h1) (λq e=>by rw[if_pos (by rw[q];rfl),e] at h2;simp at h2);unfold pH eB;rw[e1];cases hp:(jr c on tx s).2 with
  | false=>rfl
  | true=>
   have e2:=e2 hp;have l1:g.count .h<=(onT s on).length:=by
    unfold onT;by_cases q:s=.h
    ·rw[if_pos q,List.length_tail];rw[if_pos (by rw[q];rfl)] at h1;omega
    ·rw[if_neg q];omega
   have l2:g.count .t<=(txT s tx).length:=by
    unfold txT;by_cases q:s=.t
    ·rw[if_pos q,List.length_tail];rw[if_pos (by rw[q];rfl)] at h2;omega
    ·rw[if_neg q];omega
   rw[if_pos rfl,if_pos rfl];show pH c g (onT s on) (txT s tx) _=_;rw[xW g _ _ _ l1 l2,e2];simp only;cases eB c g (onT s on) (txT s tx) with
   | none=>rfl
   | some p=> obtain⟨ws,o,t⟩:=p;simp[jI]
theorem yc:∀(tx:List Bs) (a:Bs),sk tx a=(gM tx).map λws=>a++blanks ws
 | [],a=>by show some a=some (a++blanks []);unfold blanks;simp
 | s :: l,a=>by
  unfold sk gM;have h:=zO (c:=⟨0,0,[],[],0,0,0,0,[]⟩) (s:=.t) (on:=[]) (tx:=[s]) (λq=>nomatch q) (λ_=>by simp);obtain⟨w,e1,e2⟩:=h;have e1:((gH s).map λw=>(w,([]:List Bs),([]:List Bs)))=if (eP s).2=true then some (w,[],[]) else none:=e1
  have e2:(eP s).2=true->(eP s).1=32 :: w:=e2;cases hp:(eP s).2 with
  | false=>
   rw[hp] at e1;cases ht:gH s with
   | none=>rfl
   | some v=>rw[ht] at e1;exact nomatch e1
  | true=>
   rw[hp] at e1;cases ht:gH s with
   | none=>rw[ht] at e1;exact nomatch e1
   | some v=>
    rw[ht] at e1;have:v=w:=by simpa using e1
    subst this;rw[if_pos rfl,e2 hp,yc l];cases gM l with
    | none=>rfl
    | some ws=>simp[jI]
theorem sN (c:dj):iK c=match qW c with | some s=>(s,true) | none=>([],false):=by
 unfold iK qW wW;by_cases q:c.op<=40
 ·rw[if_neg (by omega),if_pos q,Q4]
  show _=match (if gL c (fZ c.op)=true then none else match eB c (fZ c.op).rest c.on c.texts with
   | none=>none
   | some (ws,_,tx)=>match gM tx with
    | none=>none
    | some ts=>some ((fZ c.op).word :: (ws++ts))).map λws=>dh ws ++ [10] with | some s=>(s,true) | none=>([],false)
  generalize fZ c.op=f;cases hs:gL c f with
  | true=>rfl
  | false=>
   obtain⟨s1,s2,_⟩:=qQ hs;rw[if_neg (by decide),if_neg (by decide),xW _ _ _ _ (by omega) s2];cases eB c f.rest c.on c.texts with
   | none=>rfl
   | some p=>
    obtain⟨ws,o,t⟩:=p;simp only[Option.map_some];rw[yc];cases gM t with
    | none=>rfl
    | some ts=> simp only[Option.map_some];rw[nC,xw];simp
 ·rw[if_pos (by omega),if_neg q];rfl
def lA:List dj->Bs->Option Bs
 | [],a=>some a
 | c :: l,a=>if (iK c).2 then lA l (a++(iK c).1) else none
def rt (cap keeps:Int) (l:List dj):Bs × Nat:=
 if 1000<l.length then ([],15)
 else if !(dV cap).2||!(dV keeps).2 then ([],14)
 else match lA l ([97,114,101,110,97]++(dV cap).1++(dV keeps).1 ++ [10]) with
  | none=>([],14)
  | some s=>if 65536<s.length then ([],16) else (s,0)
theorem vj:∀(l:List dj) (a:Bs),lA l a=(kD l).map (a ++ ·)
 | [],a=>by show some a=some (a ++ []);simp
 | c :: l,a=>by
  unfold lA kD;rw[sN];cases qW c with
  | none=>rfl
  | some s=>
   simp only[if_true];rw[vj l];cases kD l with
   | none=>rfl
   | some r=>simp
theorem As (cap keeps:Int) (l:List dj):rt cap keeps l=iV cap keeps l:=by
 rw[Fs];unfold rt wk;by_cases q:1000<l.length
 ·rw[if_pos q,if_pos q]
 rw[if_neg q,if_neg q];obtain⟨a,e1,e2⟩:=wv cap;obtain⟨b,e3,e4⟩:=wv keeps;rw[e1,e3];cases h1:(dV cap).2 with
 | false=>rfl
 | true=>
  cases h2:(dV keeps).2 with
  | false=>rfl
  | true=>
   rw[e2 h1,e4 h2,vj];simp only[if_true,Bool.not_true,Bool.or_false];rw[if_neg (by decide)];cases kD l with
   | none=>rfl
   | some r=>
    have e : dh [str "arena", a, b] ++ [10]++r = [97, 114, 101, 110, 97]++32 :: a++32 :: b ++ [10]++r:= by
     show (str "arena"++32 :: (a++32 :: b)) ++ [10]++r = _
     have : str "arena" = [97, 114, 101, 110, 97]:= by decide
     rw[this];simp
    simp only[Option.map_some,e];by_cases q2:65536<([97,114,101,110,97]++32 :: a++32 :: b ++ [10]++r).length
    ·rw[if_pos q2,if_pos q2]
    ·rw[if_neg q2,if_neg q2]
end Go.Ev
namespace Go.Ev
open Go F Go.Proofs
section
def Et (rc:RC) (hS:H) (W:H->Value->List Bs->Prop):Prop:=∀(c:dj) (ln:Int) (von vtx:Value) (h:H) (k:Value->H->R) (X:R),bJ hS h->vR c->W h von c.on->W h vtx c.texts->h.next<=500000000->rc 19 [.agg ⟨aL ln c von vtx⟩] h k=X ->
 ∃h',X=k (dK (iK c)) h'/\Fr h h' 11
structure adN (rc:RC) (hS:H) (W:H->Value->List Bs->Prop):Prop where
 line:Et rc hS W
 num:∀(n:Int) (h:H) (k:Value->H->R),dF n->bJ hS h->rc 18 [.int .i64 n] h k=k (dK (dV n)) h
def Si (c:dj):Prop:=(iK c).1.length<=100000
def okR (p:Bs × Nat):Value:=.tuple ⟨[aj p.1,.int .i64 (.ofNat p.2)]⟩
variable {E : Env} (u : UT E) {rc : RC} {hS : H} {W : H -> Value -> List Bs -> Prop}
include u
theorem aoA (hW:jG W) (P:adN rc hS W) {hb:H} (hSb:bJ hS hb) {v:Value} {l:List dj} (o:CW W hb v l) (hl:l.length<=1000) (hC:∀c∈l,vR c) (hL:∀c∈l,Si c) (k:Value->H->R) (fin:aa [6,7,12]->H->R) (x y:Value):
  ∀(d i N:Nat) (s:Bs) (h:H) (X:R),i+d=l.length->d<N->bJ hb h->h.next+d*12<=400000000->s.length+d*100000<=900000000 ->
   @loopF [6,7,12,43] (An E (.int .i64 (.ofNat l.length)) v rc k fin) N (x,(y,(aj s,(.int .i64 (.ofNat i),())))) h=X ->
   ∃h',Fr h h' (d*12)/\match lA (l.drop i) s with
    | none=>X=k (okR ([],14)) h'
    | some r=>X=fin (x,(y,(aj r,()))) h'/\r.length<=s.length+d*100000:=by
 have u3:=u.u3;intro d
 induction d with
 | zero=> intro i N s h X hi hN f hn hs e;obtain⟨N',rfl⟩:∃N',N=N'+1:=⟨N-1,by omega⟩;rw[aR] at e;generalize @loopF [6,7,12,43] (An E (.int .i64 (.ofNat l.length)) v rc k fin) N'=L at e;unfold An at e;dsimp only at e;rw[fp u3 (show l.length<=i by omega),ag,ar] at e;rw[List.drop_eq_nil_of_le (by omega)];exact⟨h,Fr.refl _ _,e.symm,by omega⟩
 | succ d ih=>
  intro i N s h X hi hN f hn hs e;obtain⟨N',rfl⟩:∃N',N=N'+1:=⟨N-1,by omega⟩;have hlt:i<l.length:=by omega
  rw[aR] at e;generalize hLp:@loopF [6,7,12,43] (An E (.int .i64 (.ofNat l.length)) v rc k fin) N'=L at e;unfold An at e;dsimp only at e;rw[gt u3 hlt,ag,az] at e;dsimp only at e;rw[ag,bK] at e;have hle:=f.le;cases o with
  | nil=>exact absurd hlt (Nat.not_lt_zero _)
  | row hbk hq hm hc=>
   rename_i bk of e' m c fz op ro cs;have hq:=hq (λq=>by subst q;exact absurd hlt (Nat.not_lt_zero _));obtain⟨ln,von,vtx,hcell,w1,w2⟩:=hc i hlt (by omega);have hqr:∀K,onRow (hget h bk) K=K e' m op ro fz cs:=λK=>by rw[f.old _ hbk,hq];rfl
   rw[bP,am (show Nat.succ i<=l.length from hlt),bM,au] at e;simp only[Nat.mul_eq,↓hqr] at e;have hmi:of+i*9+9<=m:=by omega
   rw[am (show Nat.add (of+i*9) 9<=m from hmi),hcell,am (show h.1<=1000000000 by show h.next<=_;omega),aE] at e;have f1:Fr h (ae h (.row 54 9 false false 0 (T.ofList unk lu))) 1:=Fr.push _ (by omega);have g1:hget (ae h (.row 54 9 false false 0 (T.ofList unk lu))) h.1=.row 54 9 false false 0 (T.ofList unk lu):=aB _ _ (by show h.next<=_;omega);have n1:(ae h (.row 54 9 false false 0 (T.ofList unk lu))).next=h.next+1:=rfl;generalize ae h (.row 54 9 false false 0 (T.ofList unk lu))=h1 at e f1 g1 n1;generalize T.ofList unk lu=zc at g1;have hall:=(hW.2 _ _ _ w1).cellsV (hW.2 _ _ _ w2) ln l[i];rw[QS g1 (show (aL ln l[i] von vtx).length=9 from rfl) hall] at e;have f2:dI h.next h1 (hset h1 h.1 (.row 54 9 false false 0 (putF zc 0 (aL ln l[i] von vtx)))) 0:=dI.set (Nat.le_refl _) (by show h.next<=_;omega) _;have g2:hget (hset h1 h.1 (.row 54 9 false false 0 (putF zc 0 (aL ln l[i] von vtx)))) h.1=.row 54 9 false false 0 (putF zc 0 (aL ln l[i] von vtx)):=bp _ _ _ (by show h.next<=_;omega);generalize hset h1 h.1 (.row 54 9 false false 0 (putF zc 0 (aL ln l[i] von vtx)))=h2 at e f2 g2;have f12:Fr h h2 1:=⟨Nat.le_trans f1.le f2.le,by have:=f1.ub;have:=f2.ub;omega,λid hid=>(f2.old id hid).trans (f1.old id hid)⟩;rw[g2,bV,aO (show ble 9 9=true from rfl),nc _ (show (aL ln l[i] von vtx).length=9 from rfl)] at e;have hmem:=List.getElem_mem hlt;have hF2:bJ hb h2:=f.trans f12.from;have hmul:(d+1)*12=d*12+12:=Nat.succ_mul _ _;have hmul2:(d+1)*100000=d*100000+100000:=Nat.succ_mul _ _;have hu12:=f12.ub;obtain⟨h3,e3,f3⟩:=P.line l[i] ln von vtx h2 _ X (hSb.trans hF2) (hC _ hmem) (hW.1 _ _ _ _ w1 hF2) (hW.1 _ _ _ _ w2 hF2) (by omega) e;have f13:Fr h h3 12:=f12.trans f3 (by omega);have hll:(iK l[i]).1.length<=100000:=hL _ hmem;have hu3:=f13.ub;rw[hmul] at hn ⊢;rw[hmul2] at hs ⊢;rw[List.drop_eq_getElem_cons hlt];unfold lA;unfold dK aj at e3;generalize iK l[i]=p at *;obtain⟨w,ok⟩:=p;simp only[↓bA,↓bG,show ∀(x y:Value) (K:Value->R),nthF 1 [x,y] K=K y from λ_ _ _=>rfl] at e3;simp only at hll;cases ok with
   | false=> simp only[↓ag,↓ar] at e3;rw[if_neg (by simp)];exact⟨h3,f13.mono (by omega),e3⟩
   | true=>
    simp only[↓ag,↓az] at e3;rw[if_pos rfl];unfold akG at e3;dsimp only at e3;rw[ku u.toUS (by omega),cf u3 (by omega)] at e3;have hwl:(s++w).length<=s.length+100000:=by rw[List.length_append];omega
    obtain⟨h4,f4,hm4⟩:=ih (i+1) N' (s++w) h3 X (by omega) (by omega) (f.trans f13.from) (by omega) (by omega) (by rw[hLp];exact e3.symm);refine⟨h4,f13.trans f4 (by omega),?_⟩;cases hb:lA (l.drop (i+1)) (s++w) with
    | none=>rw[hb] at hm4;exact hm4
    | some r=>rw[hb] at hm4;exact⟨hm4.1,by have:=hm4.2;omega⟩
theorem av2 (u30:E.und 30=some (.slice 54)) (hW:jG W) (P:adN rc hS W) {h:H} (hSh:bJ hS h) {v:Value} {l:List dj} (o:CW W h v l) (hC:l.length<=1000->∀c∈l,vR c) (hL:l.length<=1000->∀c∈l,Si c) {cap keeps:Int} (hcap:dF cap) (hkeeps:dF keeps) (hn:h.next<=300000000) (k:Value->H->R) (X:R)
  (e:p8 E rc (.int .i64 cap) (.int .i64 keeps) v h k=X):∃h',X=k (okR (rt cap keeps l)) h'/\Fr h h' 20000:=by
 have u3:=u.u3;unfold p8 at e;rw[bd,mL u30 o,dC u3] at e;unfold rt;by_cases q:1000<l.length
 ·rw[aJ (by omega)] at e;simp only[↓ag,↓az] at e;rw[if_pos q];exact⟨h,e.symm,Fr.refl _ _⟩
 ·have hl:l.length<=1000:=by omega
  rw[cz (by omega)] at e;simp only[↓ag,↓ar] at e;rw[if_neg q,P.num _ _ _ hcap hSh] at *;have hl1:=iD hcap;have hl2:=iD hkeeps;generalize dV cap=a at e hl1 ⊢;obtain⟨a,oa⟩:=a;have e1:∀(p:Bs × Bool) (K:List Value->R),onTup (dK p) K=K [aj p.1,.bool p.2]:=λp K=>rfl;have e2:∀(x y:Value) (K:Value->R),nthF 1 [x,y] K=K y:=λ_ _ _=>rfl;simp only[↓e1,↓bG,↓e2,↓P.num _ _ _ hkeeps hSh] at e;generalize dV keeps=b at e hl2 ⊢;obtain⟨b,ob⟩:=b;have bad:k (okR ([],14)) h=X->(oa&&ob)=false->∃h',X=k (okR (if (!oa||!ob)=true then ([],14) else match lA l ([97,114,101,110,97]++a++b ++ [10]) with | none=>([],14) | some s=>if 65536<s.length then ([],16) else (s,0))) h'/\Fr h h' 20000:=λe1 e2=>by refine⟨h,?_,Fr.refl _ _⟩;rw[if_pos (by cases oa <;> cases ob <;> first | rfl | exact nomatch e2)];exact e1.symm
  cases oa with
  | false=> simp only[↓e1,↓bG,↓e2,↓ar,↓aK,↓ag] at e;exact bad e rfl
  | true=>
   cases ob with
   | false=> simp only[↓e1,↓bG,↓e2,↓ar,↓az,↓aK,↓ag] at e;exact bad e rfl
   | true=>
    simp only[↓e1,↓bG,↓e2,↓ar,↓az,↓aK,↓ag] at e;clear bad;simp only at hl1 hl2;unfold aaZ aj at e;rw[ku u.toUS (by simp;omega),ku u.toUS (by simp;omega),ku u.toUS (by simp;omega),bd,mL u30 o,ag] at e;obtain⟨h1,f1,hm⟩:=aoA u hW P hSh o hl (hC hl) (hL hl) k _ _ _ l.length 0 cK ([97,114,101,110,97]++a++b ++ [10]) h X (by omega) (by unfold cK;omega) (bJ.refl _) (by omega) (by simp;omega) e;rw[List.drop_zero] at hm;rw[if_neg (show ¬ (!(a,true).2||!(b,true).2)=true from λh=>nomatch h)];cases hb:lA l ([97,114,101,110,97]++a++b ++ [10]) with
    | none=> rw[hb] at hm;exact⟨h1,hm,f1.mono (by omega)⟩
    | some r=>
     rw[hb] at hm;obtain⟨m1,m2⟩:=hm;dsimp only at m1;unfold aj at m1;rw[fD u.toUS,aA,dC u3,ag] at m1;refine⟨h1,?_,f1.mono (by omega)⟩;simp only;by_cases q2:65536<r.length
     ·rw[aJ (by omega),az] at m1;rw[if_pos q2];exact m1
     ·rw[cz (by omega),ar] at m1;dsimp only at m1;rw[aO (show nT [.string ⟨⟨r⟩⟩,.int .i64 (.ofNat 0)]=true from rfl)] at m1;rw[if_neg q2];exact m1
end
end Go.Ev
