/-
  THE REFERENCE's LINE in abstract memory: how many words; word by word.
-/
import Derived.Test.YtglmdggjibmjcaaGreatDoorSg
import Derived.Lib.ItoaLen
noncomputable section
set_option linter.unusedVariables false
set_option linter.unusedSimpArgs false
set_option maxRecDepth 100000
open Nat (ble beq)
namespace Go.Ev
open Go F Go.Proofs
section
def dV (n:Int):Bs × Bool:=(32 :: Lib.itoa n,decide (0<=n/\n<=4294967296))
def eP (s:Bs):Bs × Bool:=if s=[] then ([32,46],true) else (32 :: s,!(s==[46])&&aM s)
def dK (p:Bs × Bool):Value:=.tuple ⟨[aj p.1,.bool p.2]⟩
def okB (b:UInt8):Bool:=!(b==32) && !(b==10)
theorem Cy (s:Bs):aM s=(!s.isEmpty&&s.all okB):=rfl
variable {E : Env} (u : UT E) {rc : RC}
include u
theorem aoq {Q:H->Prop} (hI:wL rc Q) {n:Int} (hn:dF n) {h:H} (hq:Q h) (k:Value->H->R):p18 E rc (.int .i64 n) h k=k (dK (dV n)) h:=by
 have u3:=u.u3;have hl:=Lib.itoa_length_le n hn.1 hn.2;unfold p18 dK dV;rw[hI n h _ hn hq];unfold aj;rw[ku u.toUS (by simp;omega),pc u3];by_cases q:n ≥ ((0:Nat):Int)
 ·rw[decide_eq_true q];simp only[↓aK,↓bT,↓az];rw[asl u3,aO (show nT [.string ⟨⟨[32]++Lib.itoa n⟩⟩,.bool (decide (n<=((4294967296:Nat):Int)))]=true from rfl)];have:decide (0<=n/\n<=4294967296)=decide (n<=((4294967296:Nat):Int)):=by
   by_cases q2:n<=((4294967296:Nat):Int)
   ·rw[decide_eq_true q2,decide_eq_true (by omega)]
   ·rw[decide_eq_false q2,decide_eq_false (by omega)]
  rw[this];rfl
 ·rw[decide_eq_false q];simp only[↓aK,↓cS,↓ar];rw[aO (show nT [.string ⟨⟨[32]++Lib.itoa n⟩⟩,.bool false]=true from rfl),decide_eq_false (show ¬ (0<=n/\n<=4294967296) by omega)];rfl
theorem ai8 {s:Bs} (hs:s.length<=900000) (k:Value->H->R) (a:aa [2]->H->R) (h:H):∀(d pos N:Nat) (x:Value),pos+d=s.length->d<N ->
  @loopF [2,3] (sO E (aj s) k a) N (x,(.int .i64 (.ofNat pos),())) h=if (s.drop pos).all okB=true then a (x,()) h else k (.bool false) h:=by
 have u3:=u.u3;have u5:=u.u5;intro d
 induction d with
 | zero=> intro pos N x hp hN;obtain⟨N',rfl⟩:∃N',N=N'+1:=⟨N-1,by omega⟩;rw[aR,List.drop_eq_nil_of_le (by omega)];unfold sO aj;dsimp only;rw[fD u.toUS,aA,fp u3 (by omega),ag,ar];rfl
 | succ d ih=>
  intro pos N x hp hN;obtain⟨N',rfl⟩:∃N',N=N'+1:=⟨N-1,by omega⟩;have hlt:pos<s.length:=by omega
  rw[aR,List.drop_eq_getElem_cons hlt,List.all_cons];have ih':=ih (pos+1) N' x (by omega) (by omega);generalize @loopF [2,3] (sO E (aj s) k a) N'=L at ih' ⊢;have hg:s[pos]?=some s[pos]:=List.getElem?_eq_getElem hlt;generalize s[pos]=b at hg ⊢;unfold sO aj;dsimp only;rw[fD u.toUS,aA,gt u3 hlt,ag,az];dsimp only;rw[ag,lD u.toUS hg,aA];unfold cg;rw[hU u5];by_cases q1:b=32
  ·subst q1;simp only[show beq (32:UInt8).toNat 32=true from rfl,↓aK,↓bT,↓ag,↓az];rfl
  ·rw[dH (show b.toNat≠32 from λe=>q1 (UInt8.toNat_inj.1 e))];simp only[↓aK,↓cS,↓ag,↓ar];rw[lD u.toUS hg,aA];unfold cg;rw[hU u5];by_cases q2:b=10
   ·subst q2;rw[show beq (10:UInt8).toNat 10=true from rfl,az];rfl
   ·rw[dH (show b.toNat≠10 from λe=>q2 (UInt8.toNat_inj.1 e)),ar,cf u3 (by omega),ih'];have:okB b=true:=by unfold okB;rw[beq_eq_false_iff_ne.2 q1,beq_eq_false_iff_ne.2 q2];rfl
    rw[this,Bool.true_and]
theorem apV {s:Bs} (hs:s.length<=900000) (h:H) (k:Value->H->R):p64 E rc (aj s) h k=k (.bool (aM s)) h:=by
 unfold p64;rw[ag,ai8 u hs _ _ _ s.length 0 cK _ (by omega) (by unfold cK;omega),List.drop_zero,Cy];unfold aj;rw[Ap,DO u.toUS];cases hs2:s.all okB with
 | false=>rw[Bool.and_false];rfl
 | true=> rw[if_pos rfl,Bool.and_true];cases s <;> rfl
def sE (rc:RC):Prop:=∀(s:Bs) (h:H) (k:Value->H->R),s.length<=900000->rc 64 [aj s] h k=k (.bool (aM s)) h
theorem apX (W:sE rc) {s:Bs} (hs:s.length<=900000) (h:H) (k:Value->H->R):p40 E rc (aj s) h k=k (dK (eP s)) h:=by
 unfold p40 eP dK;have hw:=W s;unfold aj at hw ⊢;rw[Ap,Bz u.toUS,ag];by_cases q:s=[]
 ·subst q;rfl
 ·rw[show (s==([]:Bs))=false from beq_eq_false_iff_ne.2 q,ar];dsimp only;rw[ku u.toUS (by simp;omega),DO u.toUS,if_neg q];simp only[↓aK];by_cases q2:s=[46]
  ·subst q2;simp only[show (!([46]==([46]:Bs)))=false from rfl,↓cS,↓ar];rfl
  ·rw[show (s==([46]:Bs))=false from beq_eq_false_iff_ne.2 q2];simp only[Bool.not_false,↓bT,↓az,hw _ _ hs];rfl
theorem afB {s:Bs} (hs:s.length<=900000) (b:UInt8) (a:aa [5]->H->R) (h:H):∀(d pos N n:Nat),pos+d=s.length->d<N->n<=pos ->
  @loopF [5,6] (tH E (aj s) (.int .u8 (.ofNat b.toNat)) a) N (.int .i64 (.ofNat n),(.int .i64 (.ofNat pos),())) h=a (.int .i64 (.ofNat (n+(s.drop pos).count b)),()) h:=by
 have u3:=u.u3;have u5:=u.u5;intro d
 induction d with
 | zero=> intro pos N n hp hN hn;obtain⟨N',rfl⟩:∃N',N=N'+1:=⟨N-1,by omega⟩;rw[aR,List.drop_eq_nil_of_le (by omega)];unfold tH aj;dsimp only;rw[fD u.toUS,aA,fp u3 (by omega),ag,ar];rfl
 | succ d ih=>
  intro pos N n hp hN hn;obtain⟨N',rfl⟩:∃N',N=N'+1:=⟨N-1,by omega⟩;have hlt:pos<s.length:=by omega
  rw[aR,List.drop_eq_getElem_cons hlt];have ih':=ih (pos+1) N';generalize @loopF [5,6] (tH E (aj s) (.int .u8 (.ofNat b.toNat)) a) N'=L at ih' ⊢;have hg:s[pos]?=some s[pos]:=List.getElem?_eq_getElem hlt;generalize s[pos]=c at hg ⊢;unfold tH aj;dsimp only;rw[fD u.toUS,aA,gt u3 hlt,ag,az];dsimp only;rw[ag,lD u.toUS hg,aA];unfold cg;rw[hU u5,ag,List.count_cons];by_cases q1:c=b
  ·subst q1;rw[fU rfl,az,cf u3 (by omega)];dsimp only;rw[cf u3 (by omega),ih' _ (by omega) (by omega) (by omega),if_pos (beq_self_eq_true _)];rw[show n+1+(s.drop (pos+1)).count c=n+((s.drop (pos+1)).count c+1) by omega]
  ·rw[dH (show c.toNat≠b.toNat from λe=>q1 (UInt8.toNat_inj.1 e)),ar];dsimp only;rw[cf u3 (by omega),ih' _ (by omega) (by omega) (by omega),if_neg (by simpa using q1)];rfl
theorem as1 {s:Bs} (hs:s.length<=900000) (b:UInt8) (h:H) (k:Value->H->R):p37 E rc (aj s) (.int .u8 (.ofNat b.toNat)) h k=k (.int .i64 (.ofNat (s.count b))) h:=by unfold p37;rw[ag,afB u hs b _ _ s.length 0 cK 0 (by omega) (by unfold cK;omega) (by omega),List.drop_zero,Nat.zero_add]
def Fj (rc:RC):Prop:=∀(s:Bs) (b:UInt8) (h:H) (k:Value->H->R),s.length<=900000->rc 37 [aj s,.int .u8 (.ofNat b.toNat)] h k=k (.int .i64 (.ofNat (s.count b))) h
def ju (s:Bs) (b c:UInt8):Bool:=ble 1 (s.count b+s.count c)
theorem asy (W:Fj rc) {s:Bs} (hs:s.length<=900000) (b c:UInt8) (h:H) (k:Value->H->R):p38 E rc (aj s) (.int .u8 (.ofNat b.toNat)) (.int .u8 (.ofNat c.toNat)) h k=k (.bool (ju s b c)) h:=by unfold p38 ju;have h1:=List.count_le_length (a:=b) (l:=s);have h2:=List.count_le_length (a:=c) (l:=s);rw[W _ _ _ _ hs,W _ _ _ _ hs,cf u.u3 (by omega),dC u.u3]
end
section
def iw:List (Bs × Bs):=[([112,111,111,108],[76,104]),([98,108,111,99,107],[76,104,78]),([115,116,114,100,117,112],[76,104,116]),([114,101,97,100],[104,78,77]),([119,114,105,116,101],[104,78,116]),([114,101,115,105,122,101],[104,78]),([97,112,112,101,110,100],[104,116,43]),([115,105,122,101],[104]),([97,108,108,111,99],[104,78,77]),([111,98,106,101,99,116,115],[104]),([108,111,97,100],[104,75,78,77]),([115,116,111,114,101],[104,75,78,116]),([102,114,101,101],[104,75]),([98,101,103,105,110],[104,77]),([103,114,111,119],[104,116,43]),([98,108,97,110,107],[104,78]),([115,104,114,105,110,107],[104,78]),([102,105,110,105,115,104],[104]),([97,98,111,114,116],[104]),([108,105,109,105,116],[104,79]),([115,101,116],[104,116,78]),([103,101,116],[104,116]),([100,114,111,112],[104,116]),([99,108,101,97,110],[104,107,78]),([112,114,101],[104,107,78]),([107,105,108,108],[104,78]),([114,117,110],[104,78]),([100,101,115,116,114,111,121],[104]),([99,108,101,97,114],[104]),([115,116,101,97,108],[104,104]),([114,101,112,97,114,101,110,116],[104,104,104]),([114,101,102,101,114],[104,104]),([117,110,108,105,110,107],[104,104]),([116,114,105,109],[]),([107,101,101,112],[78]),([114,101,102,117,115,101],[78]),([114,101,112,111,114,116],[104]),([108,111,103],[]),([102,105,110,100],[43]),([100,111,111,109],[104,104]),([100,111,111,109,101,100],[104,104])]
def nH:AO:=.row 77 82 false false 0 (T.ofList unk (gY iw))
def p36 (E:Env) (rc:RC) (h:H) (k:Value->H->R):R:=ifB (ble h.1 1000000000) (letH (ae h nH) λa=>k (.slice (some (Addr.mk h.1 0 none)) 41 82) a)
theorem agh (t:ak) (rc:RC) (h:H) (k:Value->H->R):(aD (EX t) KK 36).run rc [] h k=p36 (EX t) rc h k:=by kernel_rfl
theorem au8 {E:Env} {rc:RC} (h:H) (k:Value->H->R) (hn:h.next<=900000000):p36 E rc h k=k (.slice (some ⟨h.next,0,none⟩) 41 82) (ae h nH):=by unfold p36;rw[am (show h.1<=1000000000 by show h.next<=_;omega),aE]
theorem Ao {i:Nat} (hi:i<41):getF (T.ofList unk (gY iw)) (2*i)=aj (iw.getD i ([],[])).1/\getF (T.ofList unk (gY iw)) (2*i+1)=aj (iw.getD i ([],[])).2:=by have h:=ng iw i hi;rw[aH,aH,List.getD_eq_getElem?_getD (l:=iw),List.getElem?_eq_getElem (show i<iw.length from hi)];exact h
theorem AX {i:Nat} (hi:i<41):ac (T.ofList unk (gY iw)) 2 (i*2)=[aj (iw.getD i ([],[])).1,aj (iw.getD i ([],[])).2]:=by obtain⟨h1,h2⟩:=Ao hi;show [getF _ (i*2),getF _ (i*2+1)]=_;rw[Nat.mul_comm i 2,h1,h2]
def dr:Sg->UInt8
 |.L=>76 | .h=>104 | .o=>79 | .n=>78 | .m=>77 | .k=>75 | .c=>107 | .t=>116
def mZ (i:Nat):Bs × Bs:=iw.getD i ([],[])
def Tf (i:Nat):Bool:=decide ((mZ i).1=(fZ i).word)&&decide ((mZ i).2=(fZ i).rest.map dr++if (fZ i).more then [43] else [])&&ble (mZ i).2.length 4
theorem ac9:(List.range 41).all Tf=true:=by decide
def ga:List Bs:=dk ++ [[],[]]
def jr (c:dj) (on tx:List Bs):Sg->Bs × Bool
 |.L=>(32 :: c.label,aM c.label&&ble c.label.length 16)
 |.h=>(32 :: on.headD [],aM (on.headD []))
 |.t=>eP (tx.headD [])
 |.c=>(32 :: ga.getD (min c.kind 5) [],ble c.kind 4)
 |.o=>if c.n=-1 then ([32,110,111,110,101],true) else dV c.n
 |.n=>dV c.n
 |.m=>dV c.m
 |.k=>dV c.k
theorem min_i64 (E:Env) (h:H) (a b:Nat):bg E h .min [.int .i64 (.ofNat a),.int .i64 (.ofNat b)] [3,3]=some (.int .i64 (.ofNat (min a b))):=by
 have:bg E h .min [.int .i64 (.ofNat a),.int .i64 (.ofNat b)] [3,3]=some (.int .i64 (if (b:Int)<a then b else a)):=by
  first | rfl | (simp[bg,mu];done)
 rw[this]
 congr 2
 by_cases q:b<a
 ·rw[if_pos (by omega),Nat.min_eq_right (by omega)];rfl
 ·rw[if_neg (by omega),Nat.min_eq_left (by omega)];rfl
structure awv (rc:RC) (hS:H):Prop where
 num:∀(n:Int) (h:H) (k:Value->H->R),dF n->bJ hS h->rc 18 [.int .i64 n] h k=k (dK (dV n)) h
 text:∀(s:Bs) (h:H) (k:Value->H->R),s.length<=900000->rc 40 [aj s] h k=k (dK (eP s)) h
 whole:sE rc
theorem WL.get {h:H} {v:Value} {l:List Bs} (o:WL h v l) {i:Nat} (hi:i<l.length):∃b of cp e m op ro fz cs,v=.slice (some ⟨b,of,none⟩) l.length cp/\hget h b=.row e m op ro fz cs/\of+i<m/\getF cs (of+i)=aj l[i]:=by
 cases o with
 | nil=>exact absurd hi (Nat.not_lt_zero _)
 | gar=>exact absurd hi (Nat.not_lt_zero _)
 | row hb hq hm hcap hc=>exact⟨_,_,_,_,_,_,_,_,_,rfl,hq (λq=>by rw[q] at hi;exact absurd hi (Nat.not_lt_zero _)),by omega,hc i hi⟩
theorem lC (p:Bs × Bool) (k:Value->H->R) (h:H):uQ (dK p) k h=k (dK p) h:=rfl
theorem qq {l:List Bs} {i:Nat} (h:i<l.length):(l.drop i).headD []=l[i]:=by rw[List.drop_eq_getElem_cons h];rfl
variable {E : Env} (u : UT E) {rc : RC}
include u
theorem aqw {hS:H} (W:awv rc hS) {c:dj} {ln:Int} {von vtx:Value} {h:H} (o1:WL h von c.on) (o2:WL h vtx c.texts) (hz:dF c.n/\dF c.m/\dF c.k) (hlb:c.label.length<=90000) (son:small c.on) (stx:small c.texts) (hkd:c.kind<=255) (hn:h.next<=800000000) (hSh:bJ hS h)
  {s:Sg} {x y:Nat} (hx:s=.h->x<c.on.length) (hy:s=.t->y<c.texts.length) (hxl:x<=100000) (hyl:y<=100000) (k:Value->H->R) (X:R)
  (e:p39 E rc (.agg ⟨aL ln c von vtx⟩) (.int .u8 (.ofNat (dr s).toNat)) (.int .i64 (.ofNat x)) (.int .i64 (.ofNat y)) h k=X):∃h',X=k (dK (jr c (c.on.drop x) (c.texts.drop y) s)) h'/\Fr h h' 2:=by
 have u3:=u.u3;have u5:=u.u5;unfold p39 at e;have ha:allF (λb=>cell1F b) (aL ln c von vtx)=true:=by unfold aL aj;simp only[gF,o1.cell1,o2.cell1];rfl
 rw[gz,aO ha,am (show h.1<=1000000000 by show h.next<=_;omega),aE] at e;rw[show lenF (aL ln c von vtx)=9 from rfl] at e;have f1:Fr h (ae h (.row 54 9 false false 0 (T.ofList unk (aL ln c von vtx)))) 1:=Fr.push _ (by omega);have g1:hget (ae h (.row 54 9 false false 0 (T.ofList unk (aL ln c von vtx)))) h.1=.row 54 9 false false 0 (T.ofList unk (aL ln c von vtx)):=aB _ _ (by omega);have hn1:(ae h (.row 54 9 false false 0 (T.ofList unk (aL ln c von vtx)))).next=h.next+1:=rfl;generalize ae h (.row 54 9 false false 0 (T.ofList unk (aL ln c von vtx)))=h1 at e f1 g1 hn1;have hS1:bJ hS h1:=hSh.trans f1.from;have qc:∀K,onRow (hget h1 h.1) K=K 54 9 false false 0 (T.ofList unk (aL ln c von vtx)):=λK=>by rw[g1];rfl
 have gv:∀i,getF (T.ofList unk (aL ln c von vtx)) i=(aL ln c von vtx).getD i unk:=λi=>by rw[aH]
 have g3:getF (T.ofList unk (aL ln c von vtx)) 3=von:=gv 3;have g4:getF (T.ofList unk (aL ln c von vtx)) 4=.int .i64 c.n:=gv 4;have g5:getF (T.ofList unk (aL ln c von vtx)) 5=.int .i64 c.m:=gv 5;have g6:getF (T.ofList unk (aL ln c von vtx)) 6=.int .i64 c.k:=gv 6;have g7:getF (T.ofList unk (aL ln c von vtx)) 7=.int .u8 (.ofNat c.kind):=gv 7;have g8:getF (T.ofList unk (aL ln c von vtx)) 8=vtx:=gv 8;have gl:getF (T.ofList unk (aL ln c von vtx)) 2=aj c.label:=gv 2;have n1:∀K,rc 18 [.int .i64 c.n] h1 K=K (dK (dV c.n)) h1:=λK=>W.num _ _ _ hz.1 hS1;have n2:∀K,rc 18 [.int .i64 c.m] h1 K=K (dK (dV c.m)) h1:=λK=>W.num _ _ _ hz.2.1 hS1;have n3:∀K,rc 18 [.int .i64 c.k] h1 K=K (dK (dV c.k)) h1:=λK=>W.num _ _ _ hz.2.2 hS1;have fin:∀p:Bs × Bool,k (dK p) h1=X->jr c (c.on.drop x) (c.texts.drop y) s=p->∃h',X=k (dK (jr c (c.on.drop x) (c.texts.drop y) s)) h'/\Fr h h' 2:=λp e1 e2=>⟨h1,by rw[e2];exact e1.symm,f1.mono (by omega)⟩;have b1:ble 2 9=true:=rfl;have b2:ble 3 9=true:=rfl;have b3:ble 4 9=true:=rfl;have b4:ble 5 9=true:=rfl;have b5:ble 6 9=true:=rfl;have b6:ble 7 9=true:=rfl;have b7:ble 8 9=true:=rfl;have b8:ble 9 9=true:=rfl;have b9:ble (Nat.succ 2) 9=true:=rfl;simp only[↓ag,↓hU u5] at e;cases s with
 | L=>
  simp only[show beq (dr .L).toNat 76=true from rfl,↓az] at e;rw[am (show h1.1<=1000000000 by show h1.next<=_;omega),aE,FU] at e;simp only[↓qc,b2,↓bI,gl] at e;unfold aj at e;rw[ku u.toUS (by simp;omega)] at e;have hw:=W.whole c.label h1;unfold aj at hw;rw[hw _ (by omega)] at e;simp only[↓qc,b2,↓bI,gl,dQ] at e;unfold aj at e;rw[aO (iz _),ku u.toUS (by simp;omega),aO (iz _)] at e;simp only[↓bd] at e;cases hwl:aM c.label with
  | false=> rw[hwl] at e;simp only[↓cS,↓ar] at e;exact fin (32 :: c.label,false) e (by show (32 :: c.label,aM c.label&&_)=_;rw[hwl];rfl)
  | true=> rw[hwl] at e;simp only[↓bT,↓az,↓au,↓qc,b9,↓bI,gl] at e;unfold aj at e;rw[fD u.toUS,aA,nZ u3] at e;exact fin (32 :: c.label,ble c.label.length 16) e (by show (32 :: c.label,aM c.label&&_)=_;rw[hwl];rfl)
 | h=>
  have hx:=hx rfl;have hsm:(c.on[x]).length<=90000:=son _ (List.getElem_mem hx);simp only[show beq (dr .h).toNat 76=false from rfl,show beq (dr .h).toNat 104=true from rfl,↓az,↓ar] at e;rw[am (show h1.1<=1000000000 by show h1.next<=_;omega),aE,FU] at e;simp only[↓qc,b3,↓bI,g3,↓bK] at e;obtain⟨b,of,cp,e',m,op,ro,fz,cs,rfl,hq,hlt,hcx⟩:=(o1.fr f1).get hx;have hqr:∀K,onRow (hget h1 b) K=K e' m op ro fz cs:=λK=>by rw[hq];rfl
  have hb1:ble (Nat.succ x) c.on.length=true:=aJ hx;have hb2:ble (Nat.succ (of+x)) m=true:=aJ (by omega);simp only[↓bP,hb1,↓bI,↓bM,↓au,Nat.mul_eq,Nat.mul_one,↓hqr,hb2,hcx] at e;unfold aj at e;have hww:=W.whole c.on[x] h1;unfold aj at hww hcx;rw[ku u.toUS (by simp;omega),hww _ (by omega)] at e;simp only[dQ,↓qc,b3,↓bI,g3] at e;rw[aO (show ai (.slice (some ⟨b,of,none⟩) c.on.length cp) (.slice (some ⟨b,of,none⟩) c.on.length cp)=true from o1.same),aO (fB _ _)] at e;simp only[↓bP,hb1,↓bI,↓bM,↓au,Nat.mul_eq,Nat.mul_one,dQ,↓hqr,hb2,hcx] at e;rw[aO (iz _),ku u.toUS (by simp;omega),aO (iz _)] at e;exact fin (32 :: c.on[x],aM c.on[x]) e (by show (32 :: (c.on.drop x).headD [],aM ((c.on.drop x).headD []))=_;rw[qq hx])
 | t=>
  have hy:=hy rfl;have hsm:(c.texts[y]).length<=90000:=stx _ (List.getElem_mem hy);simp only[show beq (dr .t).toNat 76=false from rfl,show beq (dr .t).toNat 104=false from rfl,show beq (dr .t).toNat 116=true from rfl,↓az,↓ar] at e;simp only[↓qc,b8,↓bI,g8,↓bK] at e;obtain⟨b,of,cp,e',m,op,ro,fz,cs,rfl,hq,hlt,hcx⟩:=(o2.fr f1).get hy;have hqr:∀K,onRow (hget h1 b) K=K e' m op ro fz cs:=λK=>by rw[hq];rfl
  have hb1:ble (Nat.succ y) c.texts.length=true:=aJ hy;have hb2:ble (Nat.succ (of+y)) m=true:=aJ (by omega);simp only[↓bP,hb1,↓bI,↓bM,↓au,Nat.mul_eq,Nat.mul_one,↓hqr,hb2,hcx] at e;rw[W.text _ _ _ (by omega)] at e;exact fin (eP c.texts[y]) e (by show eP ((c.texts.drop y).headD [])=_;rw[qq hy])
 | c=>
  simp only[show beq (dr .c).toNat 76=false from rfl,show beq (dr .c).toNat 104=false from rfl,show beq (dr .c).toNat 116=false from rfl,show beq (dr .c).toNat 107=true from rfl,↓az,↓ar] at e;rw[am (show h1.1<=1000000000 by show h1.next<=_;omega),aE,aE,ka] at e;have f2:Fr h1 (ae h1 (.row 9 7 false false 0 (T.ofList unk (ga.map aj)))) 1:=Fr.push _ (by omega);have g2:hget (ae h1 (.row 9 7 false false 0 (T.ofList unk (ga.map aj)))) h1.1=.row 9 7 false false 0 (T.ofList unk (ga.map aj)):=aB _ _ (by show h1.next<=_;omega);rw[show (lay (lay (lay (lay (lay (lay (lay (List.flatten (List.replicate 7 (cellsOfV (.string (ByteArray.mk #[]))))) 0 (cellsOfV (.string ⟨⟨[110,111,116,101]⟩⟩))) 1 (cellsOfV (.string ⟨⟨[97,108,108,111,99]⟩⟩))) 2 (cellsOfV (.string ⟨⟨[97,103,97,105,110]⟩⟩))) 3 (cellsOfV (.string ⟨⟨[107,105,108,108]⟩⟩))) 4 (cellsOfV (.string ⟨⟨[100,101,115,116,114,111,121]⟩⟩))) 5 (cellsOfV (.string (ByteArray.mk #[])))) 6 (cellsOfV (.string (ByteArray.mk #[]))))=ga.map aj from rfl] at e;generalize ae h1 (.row 9 7 false false 0 (T.ofList unk (ga.map aj)))=h2 at e f2 g2;have qc2:∀K,onRow (hget h2 h.1) K=K 54 9 false false 0 (T.ofList unk (aL ln c von vtx)):=λK=>by rw[f2.old _ (show h.next<h1.next by omega),g1];rfl
  have qk:∀K,onRow (hget h2 h1.1) K=K 9 7 false false 0 (T.ofList unk (ga.map aj)):=λK=>by rw[g2];rfl
  have hb5:ble (Nat.succ (min c.kind 5)) 7=true:=aJ (by omega);have hb6:ble c.kind 9223372036854775807=true:=aJ (by omega);have hk7:getF (T.ofList unk (ga.map aj)) (min c.kind 5)=aj (ga.getD (min c.kind 5) []):=by
   rw[aH];have:min c.kind 5<7:=by omega
   generalize min c.kind 5=j at this
   match j,this with
   | 0,_=>rfl
   | 1,_=>rfl
   | 2,_=>rfl
   | 3,_=>rfl
   | 4,_=>rfl
   | 5,_=>rfl
   | 6,_=>rfl
  have hk7l:(ga.getD (min c.kind 5) []).length<=10:=by
   have:min c.kind 5<7:=by omega
   generalize min c.kind 5=j at this
   match j,this with
   | 0,_=>exact (by decide)
   | 1,_=>exact (by decide)
   | 2,_=>exact (by decide)
   | 3,_=>exact (by decide)
   | 4,_=>exact (by decide)
   | 5,_=>exact (by decide)
   | 6,_=>exact (by decide)
  simp only[↓qc2,b7,↓bI,g7,↓bd,↓bK] at e;rw[hb6] at e;dsimp only at e;simp only[min_i64,↓aA,↓bK,hb5,↓bI,↓bM,↓au,Nat.mul_eq,Nat.mul_one,Nat.zero_add,↓qk,hk7] at e;unfold aj at e;rw[ku u.toUS (by show 1+_<=_;omega),an5 u5] at e;exact⟨h2,e.symm,f1.trans f2 (by omega)⟩
 | o=>
  simp only[show beq (dr .o).toNat 76=false from rfl,show beq (dr .o).toNat 104=false from rfl,show beq (dr .o).toNat 116=false from rfl,show beq (dr .o).toNat 107=false from rfl,show beq (dr .o).toNat 79=true from rfl,↓az,↓ar,↓qc,b4,↓bI,g4,↓B0 u3] at e;by_cases qm:c.n=-1
  ·rw[decide_eq_true qm,az] at e;exact fin ([32,110,111,110,101],true) e (if_pos qm)
  ·rw[decide_eq_false qm,ar] at e;unfold yM at e;simp only[↓qc,b4,↓bI,g4,↓n1,↓lC] at e;exact fin (dV c.n) e (if_neg qm)
 | n=> simp only[show beq (dr .n).toNat 76=false from rfl,show beq (dr .n).toNat 104=false from rfl,show beq (dr .n).toNat 116=false from rfl,show beq (dr .n).toNat 107=false from rfl,show beq (dr .n).toNat 79=false from rfl,show beq (dr .n).toNat 78=true from rfl,↓az,↓ar,yM,↓qc,b4,↓bI,g4,↓n1,↓lC] at e;exact fin (dV c.n) e rfl
 | m=> simp only[show beq (dr .m).toNat 76=false from rfl,show beq (dr .m).toNat 104=false from rfl,show beq (dr .m).toNat 116=false from rfl,show beq (dr .m).toNat 107=false from rfl,show beq (dr .m).toNat 79=false from rfl,show beq (dr .m).toNat 78=false from rfl,show beq (dr .m).toNat 77=true from rfl,↓az,↓ar,↓qc,b5,↓bI,g5,↓n2,↓lC] at e;exact fin (dV c.m) e rfl
 | k=> simp only[show beq (dr .k).toNat 76=false from rfl,show beq (dr .k).toNat 104=false from rfl,show beq (dr .k).toNat 116=false from rfl,show beq (dr .k).toNat 107=false from rfl,show beq (dr .k).toNat 79=false from rfl,show beq (dr .k).toNat 78=false from rfl,show beq (dr .k).toNat 77=false from rfl,↓az,↓ar,↓qc,b6,↓bI,g6,↓n3,↓lC] at e;exact fin (dV c.k) e rfl
end
section
def FW:Value:=dK ([],false)
section
variable {h : H} {E : Env} {a b : H} {k : Value -> H -> R} {rc : RC} {c : aa [5]} {d : aa [2, 3]}
theorem no6:Ej a E k h rc c b=k FW b:=rfl
theorem Ms:xN h E a k rc c b=k FW b:=rfl
theorem ap5:sw a E k h rc c b=k FW b:=by unfold sw;simp only[↓aK,↓cZ,gZ,uh,no6]
theorem VO:sf a E k h rc c b=k FW b:=by unfold sf;simp only[↓aK,↓cZ,gZ,oD,ap5]
end
variable {E : Env} (u : UT E) {rc : RC}
theorem s15 {ch:H} {a b:H} {k:Value->H->R} {rest:Bs} {d:aa [2,3]} {zk zd zl ck cd cl:Bool} {cs:T Value} {vk vd vl:Value} (qc:∀K,onRow (hget a ch.1) K=K 54 9 false false 0 cs) (gk:getF cs 6=vk) (gd:getF cs 7=vd) (gl:getF cs 2=vl)
  (hk:∀K,binR (binC E .neq 3 false true) vk (.int .i64 (.ofNat 0)) K=K (.bool zk)) (hd:∀K,binR (binC E .neq 5 false true) vd (.int .u8 (.ofNat 0)) K=K (.bool zd)) (hl:∀K,binR (binC E .neq 9 false true) vl (.string (ByteArray.mk #[])) K=K (.bool zl))
  (nk:∀K,rc 38 [aj rest,.int .u8 (.ofNat 75),.int .u8 (.ofNat 75)] a K=K (.bool ck) a) (nd:∀K,rc 38 [aj rest,.int .u8 (.ofNat 107),.int .u8 (.ofNat 107)] a K=K (.bool cd) a) (nl:∀K,rc 38 [aj rest,.int .u8 (.ofNat 76),.int .u8 (.ofNat 76)] a K=K (.bool cl) a):
  mG (.bool true) b E k ch rc (aj rest,()) d a=k FW a/\mG (.bool false) b E k ch rc (aj rest,()) d a=if (zk && !ck||zd && !cd||zl && !cl)=true then k FW a else tV a b E k ch rc (aj rest,()) d:=by
 have b6:ble (Nat.succ 6) 9=true:=rfl;have b7:ble (Nat.succ 7) 9=true:=rfl;have b2:ble (Nat.succ 2) 9=true:=rfl;constructor
 ·unfold mG;simp only[↓aK,↓bT,↓cZ,↓az,↓ar,gZ,uh,pn,oD,ou,oQ,sG,VO]
 ·unfold mG;cases zk <;> cases ck <;> cases zd <;> cases cd <;> cases zl <;> cases cl <;>
   simp only[↓aK,↓ag,↓bT,↓cS,↓cZ,↓az,↓ar,↓oB,↓gZ,↓uh,↓pn,↓oD,↓ou,↓oQ,↓VO,↓ap5,↓no6,↓au,↓qc,b6,b7,b2,↓bI,gk,gd,gl,↓hk,↓hd,↓hl,↓nk,↓nd,↓nl,Bool.and_true,Bool.and_false,Bool.true_and,Bool.false_and,Bool.not_true,Bool.not_false,Bool.or_true,Bool.or_false,Bool.true_or,Bool.false_or,↓reduceIte,Bool.false_eq_true] <;> rfl
theorem s17 {ch:H} {a b:H} {k:Value->H->R} {rest:Bs} {d:aa [2,3]} {zn zm zk zd zl cn cm ck cd cl:Bool} {cs:T Value} {vn vm vk vd vl:Value} (qc:∀K,onRow (hget a ch.1) K=K 54 9 false false 0 cs) (gn:getF cs 4=vn) (gm:getF cs 5=vm) (gk:getF cs 6=vk) (gd:getF cs 7=vd) (gl:getF cs 2=vl)
  (hn:∀K,binR (binC E .neq 3 false true) vn (.int .i64 (.ofNat 0)) K=K (.bool zn)) (hm:∀K,binR (binC E .neq 3 false true) vm (.int .i64 (.ofNat 0)) K=K (.bool zm))
  (hk:∀K,binR (binC E .neq 3 false true) vk (.int .i64 (.ofNat 0)) K=K (.bool zk)) (hd:∀K,binR (binC E .neq 5 false true) vd (.int .u8 (.ofNat 0)) K=K (.bool zd)) (hl:∀K,binR (binC E .neq 9 false true) vl (.string (ByteArray.mk #[])) K=K (.bool zl))
  (nn:∀K,rc 38 [aj rest,.int .u8 (.ofNat 78),.int .u8 (.ofNat 79)] a K=K (.bool cn) a) (nm:∀K,rc 38 [aj rest,.int .u8 (.ofNat 77),.int .u8 (.ofNat 77)] a K=K (.bool cm) a)
  (nk:∀K,rc 38 [aj rest,.int .u8 (.ofNat 75),.int .u8 (.ofNat 75)] a K=K (.bool ck) a) (nd:∀K,rc 38 [aj rest,.int .u8 (.ofNat 107),.int .u8 (.ofNat 107)] a K=K (.bool cd) a) (nl:∀K,rc 38 [aj rest,.int .u8 (.ofNat 76),.int .u8 (.ofNat 76)] a K=K (.bool cl) a):
  oX a ch E b k rc (aj rest,()) d=if (zn && !cn||zm && !cm||(zk && !ck||zd && !cd||zl && !cl))=true then k FW a else tV a b E k ch rc (aj rest,()) d:=by
 obtain⟨h1,h2⟩:=s15 (b:=b) (k:=k) (d:=d) qc gk gd gl hk hd hl nk nd nl;generalize (zk && !ck||zd && !cd||zl && !cl)=w at *;have b5:ble (Nat.succ 5) 9=true:=rfl;have b4:ble 5 9=true:=rfl;unfold oX;cases zn <;> cases cn <;> cases zm <;> cases cm <;>
   simp only[↓aK,↓ag,↓bT,↓cS,↓cZ,↓az,↓ar,↓gZ,↓pn,↓ou,↓oQ,↓sG,↓VO,↓au,↓qc,b4,b5,↓bI,gn,gm,↓hn,↓hm,↓nn,↓nm,↓h1,↓h2,Bool.and_true,Bool.and_false,Bool.true_and,Bool.false_and,Bool.not_true,Bool.not_false,Bool.or_true,Bool.or_false,Bool.true_or,Bool.false_or,↓reduceIte,Bool.false_eq_true]
end
section
def pH (c:dj):List Sg->List Bs->List Bs->Bs->Option (Bs × List Bs)
 | [],on,tx,a=>some (a,tx)
 | s :: g,on,tx,a=>if (jr c on tx s).2 then pH c g (if s=.h then on.tail else on) (if s=.t then tx.tail else tx) (a++(jr c on tx s).1) else none
def sk:List Bs->Bs->Option Bs
 | [],a=>some a
 | s :: l,a=>if (eP s).2 then sk l (a++(eP s).1) else none
theorem iD {n:Int} (h:dF n):(dV n).1.length<=30:=by have:=Lib.itoa_length_le n h.1 h.2;show (32 :: Lib.itoa n).length<=30;rw[List.length_cons];omega
theorem ni (s:Bs):(eP s).1.length<=s.length+2:=by
 unfold eP;split
 ·simp
 ·simp
theorem qG {l:List Bs} (h:small l):(l.headD []).length<=90000:=by
 cases l with
 | nil=>simp
 | cons a l=>exact h a (List.mem_cons_self ..)
theorem kN {l:List Bs} (h:small l) (n:Nat):small (l.drop n):=λs hs=>h s (List.mem_of_mem_drop hs)
theorem BA {c:dj} (C:vR c) {on tx:List Bs} (h1:small on) (h2:small tx) (s:Sg):(jr c on tx s).1.length<=100000:=by
 cases s with
 | L=>have:=C.lb;show (32 :: c.label).length<=_;simp;omega
 | h=>have:=qG h1;show (32 :: on.headD []).length<=_;rw[List.length_cons];omega
 | t=>have:=qG h2;have h3:=ni (tx.headD []);show (eP _).1.length<=_;omega
 | c=>
  show (32 :: ga.getD (min c.kind 5) []).length<=_;have:min c.kind 5<7:=by omega
  generalize min c.kind 5=j at this
  match j,this with
  | 0,_=>exact (by decide)
  | 1,_=>exact (by decide)
  | 2,_=>exact (by decide)
  | 3,_=>exact (by decide)
  | 4,_=>exact (by decide)
  | 5,_=>exact (by decide)
  | 6,_=>exact (by decide)
 | o=>
  have:=iD C.z.1;show (if c.n=-1 then _ else dV c.n).1.length<=_;split
  ·simp
  ·omega
 | n=>have:=iD C.z.1;show (dV c.n).1.length<=_;omega
 | m=>have:=iD C.z.2.1;show (dV c.m).1.length<=_;omega
 | k=>have:=iD C.z.2.2;show (dV c.k).1.length<=_;omega
def we (rc:RC) (hS:H):Prop:=∀(c:dj) (ln:Int) (von vtx:Value) (h:H) (s:Sg) (x y:Nat) (k:Value->H->R) (X:R),vR c->bJ hS h->WL h von c.on->WL h vtx c.texts->h.next<=800000000->(s=.h->x<c.on.length)->(s=.t->y<c.texts.length)->x<=100000->y<=100000 ->
 rc 39 [.agg ⟨aL ln c von vtx⟩,.int .u8 (.ofNat (dr s).toNat),.int .i64 (.ofNat x),.int .i64 (.ofNat y)] h k=X->∃h',X=k (dK (jr c (c.on.drop x) (c.texts.drop y) s)) h'/\Fr h h' 2
def wR (rc:RC):Prop:=∀(s:Bs) (h:H) (k:Value->H->R),s.length<=900000->rc 40 [aj s] h k=k (dK (eP s)) h
theorem aui (s:Sg):beq (dr s).toNat 104=decide (s=.h):=by cases s <;> rfl
theorem Sv (s:Sg):beq (dr s).toNat 116=decide (s=.t):=by cases s <;> rfl
variable {E : Env} (u : UT E) {rc : RC} {hS : H}
include u
theorem FD (P:we rc hS) {c:dj} (C:vR c) {ln:Int} {von vtx:Value} {hb ch:H} (hSb:bJ hS hb) (hrow:hget hb ch.1=.row 54 9 false false 0 (T.ofList unk (aL ln c von vtx))) (hch:ch.1<hb.next) (o1:WL hb von c.on) (o2:WL hb vtx c.texts) {g:List Sg} (hg:g.length<=4) (k:Value->H->R) (b:aa [2,3,7,9]->H->R) (v2 v3:Value):
  ∀(d pos N x y:Nat) (acc:Bs) (h:H) (X:R),pos+d=g.length->d<N->bJ hb h->x<=pos->y<=pos->(g.drop pos).count .h+x<=c.on.length->(g.drop pos).count .t+y<=c.texts.length->acc.length+d*100000<=800000000->h.next+2*d<=790000000 ->
   @loopF [2,3,7,8,9,10] (qC E (aj (g.map dr),()) ch rc k b) N (v2,(v3,(aj acc,(.int .i64 (.ofNat x),(.int .i64 (.ofNat y),(.int .i64 (.ofNat pos),())))))) h=X ->
   ∃h',Fr h h' (2*d)/\match pH c (g.drop pos) (c.on.drop x) (c.texts.drop y) acc with
    | none=>X=k FW h'
    | some (acc',tx')=>∃y',X=b (v2,(v3,(aj acc',(.int .i64 (.ofNat y'),())))) h'/\tx'=c.texts.drop y'/\y'<=c.texts.length/\acc'.length<=acc.length+d*100000:=by
 have u3:=u.u3;have u5:=u.u5;intro d
 induction d with
 | zero=> intro pos N x y acc h X hp hN f hx hy hox hty ha hn e;obtain⟨N',rfl⟩:∃N',N=N'+1:=⟨N-1,by omega⟩;rw[aR] at e;generalize @loopF [2,3,7,8,9,10] (qC E (aj (g.map dr),()) ch rc k b) N'=L at e;unfold qC aj at e;dsimp only at e;rw[fD u.toUS,aA,fp u3 (by rw[List.length_map];omega),ag,ar] at e;rw[List.drop_eq_nil_of_le (show g.length<=pos by omega)];refine⟨h,Fr.refl _ _,y,e.symm,rfl,by omega,by omega⟩
 | succ d ih=>
  intro pos N x y acc h X hp hN f hx hy hox hty ha hn e;obtain⟨N',rfl⟩:∃N',N=N'+1:=⟨N-1,by omega⟩;rw[aR] at e;generalize hL:@loopF [2,3,7,8,9,10] (qC E (aj (g.map dr),()) ch rc k b) N'=L at e;have hpos:pos<g.length:=by omega
  have hg':(g.map dr)[pos]?=some (dr g[pos]):=by rw[List.getElem?_map,List.getElem?_eq_getElem hpos];rfl
  rw[List.drop_eq_getElem_cons hpos] at hox hty ⊢;unfold qC aj at e;dsimp only at e;rw[fD u.toUS,aA,gt u3 (by rw[List.length_map];omega),ag,az] at e;dsimp only at e;rw[ag,am (show h.1<=1000000000 by show h.next<=_;omega),aE,FU,f.old _ hch,hrow,bV,aO (show ble 9 9=true from rfl),lD u.toUS hg',aA,show ac (T.ofList unk (aL ln c von vtx)) 9 0=aL ln c von vtx from rfl] at e;have hxh:g[pos]=.h->x<c.on.length:=λq=>by rw[q,List.count_cons_self] at hox;omega
  have hyt:g[pos]=.t->y<c.texts.length:=λq=>by rw[q,List.count_cons_self] at hty;omega
  obtain⟨h1,e1,f1⟩:=P c ln von vtx h g[pos] x y _ _ C (hSb.trans f) (o1.from f) (o2.from f) (by omega) hxh hyt (by omega) (by omega) e;have hpl:=BA C (kN C.on x) (kN C.tx y) g[pos];have hu1:=f1.ub;clear e;unfold dK aj at e1;unfold pH;generalize hP:jr c (c.on.drop x) (c.texts.drop y) g[pos]=P1 at e1 hpl;obtain⟨w,ok⟩:=P1;simp only[↓bA,↓bG,show ∀(x y:Value) (K:Value->R),nthF 1 [x,y] K=K y from λ_ _ _=>rfl] at e1;cases ok with
  | false=> simp only[↓ag,↓ar] at e1;rw[if_neg (by simp)];exact⟨h1,f1.mono (by omega),e1⟩
  | true=>
   simp only[↓ag,↓az] at e1;rw[if_pos rfl];unfold D1 at e1;dsimp only at e1;rw[ku u.toUS (by simp only at hpl;omega),lD u.toUS hg',aA] at e1;unfold cg at e1;rw[hU u5,ag,aui] at e1;rw[List.count_cons] at hox hty;have hd:(d+1)*100000=d*100000+100000:=Nat.succ_mul _ _;have hwl:(acc++w).length<=acc.length+100000:=by rw[List.length_append];simp only at hpl;omega
   by_cases q1:g[pos]=.h
   ·have hx':=hxh q1;rw[decide_eq_true q1,az,cf u3 (by omega)] at e1;dsimp only at e1;rw[aA,hU u5,ag,Sv,decide_eq_false (show ¬ g[pos]=.t by rw[q1];decide),ar] at e1;dsimp only at e1;rw[cf u3 (by omega)] at e1;rw[if_pos (by rw[q1];rfl)] at hox;rw[if_neg (by rw[q1];decide)] at hty;obtain⟨h2,f2,hm⟩:=ih (pos+1) N' (x+1) y (acc++w) h1 X (by omega) (by omega) (f.trans f1.from) (by omega) (by omega) (by omega) (by omega) (by omega) (by omega) (by rw[hL];exact e1.symm);rw[if_pos q1,if_neg (show ¬ g[pos]=.t by rw[q1];decide),show (c.on.drop x).tail=c.on.drop (x+1) from List.tail_drop ..];refine⟨h2,f1.trans f2 (by omega),?_⟩;cases hA:pH c (g.drop (pos+1)) (c.on.drop (x+1)) (c.texts.drop y) (acc++w) with
    | none=>rw[hA] at hm;exact hm
    | some p=>rw[hA] at hm;obtain⟨a',tx'⟩:=p;obtain⟨y',m1,m2,m3,m4⟩:=hm;exact⟨y',m1,m2,m3,by omega⟩
   ·rw[decide_eq_false q1,ar] at e1;dsimp only at e1;rw[aA,hU u5,ag,Sv] at e1;rw[if_neg (by simpa using q1)] at hox;by_cases q2:g[pos]=.t
    ·have hy':=hyt q2;rw[decide_eq_true q2,az] at e1;rw[cf u3 (by omega)] at e1;dsimp only at e1;rw[cf u3 (by omega)] at e1;rw[if_pos (by rw[q2];rfl)] at hty;obtain⟨h2,f2,hm⟩:=ih (pos+1) N' x (y+1) (acc++w) h1 X (by omega) (by omega) (f.trans f1.from) (by omega) (by omega) (by omega) (by omega) (by omega) (by omega) (by rw[hL];exact e1.symm);rw[if_neg q1,if_pos q2,show (c.texts.drop y).tail=c.texts.drop (y+1) from List.tail_drop ..];refine⟨h2,f1.trans f2 (by omega),?_⟩;cases hA:pH c (g.drop (pos+1)) (c.on.drop x) (c.texts.drop (y+1)) (acc++w) with
     | none=>rw[hA] at hm;exact hm
     | some p=>rw[hA] at hm;obtain⟨a',tx'⟩:=p;obtain⟨y',m1,m2,m3,m4⟩:=hm;exact⟨y',m1,m2,m3,by omega⟩
    ·rw[decide_eq_false q2,ar] at e1;dsimp only at e1;rw[cf u3 (by omega)] at e1;rw[if_neg (by simpa using q2)] at hty;obtain⟨h2,f2,hm⟩:=ih (pos+1) N' x y (acc++w) h1 X (by omega) (by omega) (f.trans f1.from) (by omega) (by omega) (by omega) (by omega) (by omega) (by omega) (by rw[hL];exact e1.symm);rw[if_neg q1,if_neg q2];refine⟨h2,f1.trans f2 (by omega),?_⟩;cases hA:pH c (g.drop (pos+1)) (c.on.drop x) (c.texts.drop y) (acc++w) with
     | none=>rw[hA] at hm;exact hm
     | some p=>rw[hA] at hm;obtain⟨a',tx'⟩:=p;obtain⟨y',m1,m2,m3,m4⟩:=hm;exact⟨y',m1,m2,m3,by omega⟩
theorem CS (P:wR rc) {c:dj} (C:vR c) {ln:Int} {von vtx:Value} {h ch:H} (hrow:hget h ch.1=.row 54 9 false false 0 (T.ofList unk (aL ln c von vtx))) (o2:WL h vtx c.texts) (k:Value->H->R) (b:aa [2,3,7]->H->R) (v2 v3:Value):
  ∀(d y N:Nat) (acc:Bs),y+d=c.texts.length->d<N->acc.length+d*100000<=900000000 ->
   @loopF [2,3,7,9] (qY ch E rc k b) N (v2,(v3,(aj acc,(.int .i64 (.ofNat y),())))) h =
   match sk (c.texts.drop y) acc with
    | none=>k FW h
    | some acc'=>b (v2,(v3,(aj acc',()))) h:=by
 have u3:=u.u3;have nt:=C.nt;have hqc:∀K,onRow (hget h ch.1) K=K 54 9 false false 0 (T.ofList unk (aL ln c von vtx)):=λK=>by rw[hrow];rfl
 have g8:getF (T.ofList unk (aL ln c von vtx)) 8=vtx:=by rw[aH];rfl
 have b9:ble 9 9=true:=rfl;have l2:=λK=>io (E:=E) (h':=h) o2 u.u37 K;intro d
 induction d with
 | zero=> intro y N acc hp hN ha;obtain⟨N',rfl⟩:∃N',N=N'+1:=⟨N-1,by omega⟩;rw[aR];generalize @loopF [2,3,7,9] (qY ch E rc k b) N'=L;unfold qY;simp only[↓hqc,b9,↓bI,↓bd,g8,↓l2];rw[fp u3 (by omega),ag,ar,List.drop_eq_nil_of_le (by omega)];rfl
 | succ d ih=>
  intro y N acc hp hN ha;obtain⟨N',rfl⟩:∃N',N=N'+1:=⟨N-1,by omega⟩;have hlt:y<c.texts.length:=by omega
  rw[aR,List.drop_eq_getElem_cons hlt];have ih':=ih (y+1) N';generalize @loopF [2,3,7,9] (qY ch E rc k b) N'=L at ih' ⊢;have hsm:(c.texts[y]).length<=90000:=C.tx _ (List.getElem_mem hlt);obtain⟨b',of,cp,e',m,op,ro,fz,cs,hv,hq,hlt2,hcx⟩:=o2.get hlt;have hqr:∀K,onRow (hget h b') K=K e' m op ro fz cs:=λK=>by rw[hq];rfl
  have hb1:ble (Nat.succ y) c.texts.length=true:=aJ hlt;have hb2:ble (Nat.succ (of+y)) m=true:=aJ (by omega);have ht:=P c.texts[y] h;have htl:=ni c.texts[y];unfold qY;simp only[↓hqc,b9,↓bI,↓bd,g8,↓l2];rw[gt u3 hlt,ag,az];simp only[↓ag,↓hqc,b9,↓bI,g8,↓bK];rw[hv];simp only[↓bP,hb1,↓bI,↓bM,↓au,Nat.mul_eq,Nat.mul_one,↓hqr,hb2,hcx];rw[ht _ (by omega)];unfold dK aj sk;generalize eP c.texts[y]=P1 at htl;obtain⟨w,ok⟩:=P1;simp only[↓bA,↓bG,show ∀(x y:Value) (K:Value->R),nthF 1 [x,y] K=K y from λ_ _ _=>rfl];have hd:(d+1)*100000=d*100000+100000:=Nat.succ_mul _ _;cases ok with
  | false=> simp only[↓ag,↓ar];rfl
  | true=> simp only[↓ag,↓az];unfold EJ;dsimp only;simp only at htl;rw[ku u.toUS (by omega),cf u3 (by omega)];have:=ih' (acc++w) (by omega) (by omega) (by rw[List.length_append];omega);unfold aj at this;rw[this];rfl
end
end Go.Ev
