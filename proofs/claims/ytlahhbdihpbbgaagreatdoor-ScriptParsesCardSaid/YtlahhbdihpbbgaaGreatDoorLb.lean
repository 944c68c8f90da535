/-
  THE LAYERS' EXAMPLES: one after another they are answered for.
-/
import Derived.Test.YtlahhbdihpbbgaaGreatDoorLa
import Derived.Test.YtlahhbdihpbbgaaGreatDoorMe
import Derived.Test.YtlahhbdihpbbgaaGreatDoorKb
noncomputable section
set_option linter.unusedVariables false
set_option linter.unusedSimpArgs false
set_option maxRecDepth 100000
set_option exponentiation.threshold 3000
open Nat (ble beq)
namespace Go.Ev
open Go F Go.Proofs
theorem arR (m:Nat) (a0 a1:Value) (h:H) (k:Value->H->R):az EE KK (m+1) 336 [a0,a1] h k=aeR EE (az EE KK m) a0 a1 h k:=by show (bN (EX jo) KK 336).run _ _ _ _=_;rw[bB (by kernel_rfl)];exact ES jo _ a0 a1 h k
theorem asN (m:Nat) (a0 a1:Value) (h:H) (k:Value->H->R):az EE KK (m+1) 335 [a0,a1] h k=WT EE (az EE KK m) a0 a1 h k:=by show (bN (EX jo) KK 335).run _ _ _ _=_;rw[bB (by kernel_rfl)];exact J0 jo _ a0 a1 h k
theorem asD (m:Nat) (a0 a1:Value) (h:H) (k:Value->H->R):az EE KK (m+1) 306 [a0,a1] h k=Yg EE (az EE KK m) a0 a1 h k:=by show (bN (EX jo) KK 306).run _ _ _ _=_;rw[bB (by kernel_rfl)];exact OG jo _ a0 a1 h k
theorem asO (m:Nat) (a0 a1 a2:Value) (h:H) (k:Value->H->R):az EE KK (m+1) 280 [a0,a1,a2] h k=aaX EE (az EE KK m) a0 a1 a2 h k:=by show (bN (EX jo) KK 280).run _ _ _ _=_;rw[bB (by kernel_rfl)];exact Ed jo _ a0 a1 a2 h k
theorem asz (m:Nat) (a0:Value) (h:H) (k:Value->H->R):az EE KK (m+1) 245 [a0] h k=ajf EE (az EE KK m) a0 h k:=by show (bN (EX jo) KK 245).run _ _ _ _=_;rw[bB (by kernel_rfl)];exact JB jo _ a0 h k
theorem arG (m:Nat) (a0:Value) (h:H) (k:Value->H->R):az EE KK (m+1) 278 [a0] h k=ahB EE (az EE KK m) a0 h k:=by show (bN (EX jo) KK 278).run _ _ _ _=_;rw[bB (by kernel_rfl)];exact HN jo _ a0 h k
theorem apN:EE.und 256=some (.slice 3):=by kernel_rfl
theorem aqN:EE.size 3=some 1:=by kernel_rfl
def ct (A:Addr) (n c:Nat):List Value:=[.slice (some A) n c]
theorem Bd (A:Addr) (n c:Nat):allF (λv=>cell1F v) (ct A n c)=true:=rfl
theorem zY (A:Addr) (n c:Nat):lenF (ct A n c)=1:=rfl
theorem zU {E:Env} {ty m n:Nat} {cx cy:Bool} {k:Value->R} (hE:E.und ty=some (.int .i64)) (h:n<=m):binR (binC E .geq ty cx cy) (.int .i64 (.ofNat m)) (.int .i64 (.ofNat n)) k=k (.bool true):=by rw[kh hE,be h]
set_option maxHeartbeats 1000000 in
theorem oR (m:Nat) {h:H} {A:Addr} {n c i:Nat} (hi:i<n) (hn:h.next<=1000000000) (k:Value->H->R):
  az EE KK (m+1) 336 [.agg ⟨ct A n c⟩,.int .i64 (.ofNat i)] h k=k (.bool true) (ag h (.row 258 1 false false 0 (T.ofList unk (ct A n c)))):=by
 have hrow:∀k,onRow (hget (ag h (.row 258 1 false false 0 (T.ofList unk (ct A n c)))) h.next) k=k 258 1 false false 0 (T.ofList unk (ct A n c)):=λk=>by rw[aD _ _ hn];rfl
 have e0:∀s k,onSl (getF (T.ofList unk (ct A n c)) 0) s k=k A n c:=λs k=>by rw[aL];rfl
 rw[arR];unfold aeR;simp (disch:=first | omega | (simp only[Nat.add_eq,Nat.mul_eq,Nat.succ_eq_add_one];omega)) only[↓bC,↓Bd,↓dm,↓zY,↓au,↓aJ,↓zU cI,↓bz,↓eC,↓aK,↓aG,↓hrow,↓e0,↓km cI]
def Bw:Value->Nat
 |.int .i64 (.ofNat w)=>w
 | _=>0
def kf (c:T Value):Nat->Nat->Nat->Nat
 | 0,_,x=>x
 | d+1,o,x=>kf c d (o+1) (x+Bw (getF c o))
def nb (c:T Value) (o n:Nat):Prop:=∀j,j<n->∃w,getF c (o+j)=.int .i64 (.ofNat w)/\w<=1000000
def kg (v77:Value) (n107:Nat) (k111:aa [5]->H->R):(aa [5,13]->H->R)->aa [5,13]->H->R:=
 (λk112=>(λe113=>(λh114=>(binR (binC EE Go.BinOp.lss 3 (aN (Go.Operand.tmp 13)) (aN (Go.Operand.tmp 12))) e113.2.1 (Value.int Go.IntKind.i64 (Int.ofNat n107)) (λv115=>(@joinR [] (λe116=>(λh117=>(@joinR (5 :: []) (λe118=>(λh119=>(binR (binC EE Go.BinOp.add 3 (aN (Go.Operand.tmp 13)) (aN (Go.Operand.const (Value.int Go.IntKind.i64 1)))) e113.2.1 (Value.int Go.IntKind.i64 (Int.ofNat 1)) (λv120=>(k112 (e118.1,(v120,())) h119))))) (λk121=>(onNat e113.2.1 none (λn122=>(onSl v77 none (λa123=>(λn124=>(λn125=>(ifB (ble (Nat.succ n122) n124) (addOffF a123 (Nat.mul n122 1) (λv126=>(onPtr v126 (λa127=>(onRow (hget h117 a127.1) (λx128=>(λn129=>(λx130=>(λx131=>(λn132=>(λt133=>(ifB (ble (Nat.succ a127.2) n129) (binR (binC EE Go.BinOp.add 3 (aN (Go.Operand.tmp 17)) (aN (Go.Operand.tmp 18))) e113.1 (@getF Go.Value t133 a127.2) (λv134=>(k121 (v134,()) h117)))))))))))))))))))))))))) (λk135=>(onB v115 (k111 (e113.1,()) h114) (k135 () h114)))))))))
def PU (E:Env) (rc:RC) (a0 a1:Value) (h:H) (k:Value->H->R):R:=
 (onCells a0 (λl68=>(ifB (allF (λv69=>(cell1F v69)) l68) (ifB (ble h.1 1000000000) (letH (ag h (AO.row 258 (lenF l68) Bool.false Bool.false 0 (@T.ofList Go.Value unk l68))) (λh70=>(onRow (hget h70 h.1) (λx71=>(λn72=>(λx73=>(λx74=>(λn75=>(λt76=>(ifB (ble (Nat.succ 0) n72) (bindO (dd E 256 (@getF Go.Value t76 0) none (some a1) none) (λv77=>(onSl v77 (bindO (bv E h70 256 v77) (λv78=>(@joinR (5 :: []) (λe79=>(λh80=>(k e79.1 h80))) (λk81=>(@loopF (5 :: (13 :: [])) (λk82=>(λe83=>(λh84=>(binR (binC E Go.BinOp.lss 3 (aN (Go.Operand.tmp 13)) (aN (Go.Operand.tmp 12))) e83.2.1 v78 (λv85=>(@joinR [] (λe86=>(λh87=>(@joinR (5 :: []) (λe88=>(λh89=>(binR (binC E Go.BinOp.add 3 (aN (Go.Operand.tmp 13)) (aN (Go.Operand.const (Value.int Go.IntKind.i64 1)))) e83.2.1 (Value.int Go.IntKind.i64 (Int.ofNat 1)) (λv90=>(k82 (e88.1,(v90,())) h89))))) (λk91=>(onNat e83.2.1 none (λn92=>(onSl v77 none (λa93=>(λn94=>(λn95=>(ifB (ble (Nat.succ n92) n94) (addOffF a93 (Nat.mul n92 1) (λv96=>(onPtr v96 (λa97=>(onRow (hget h87 a97.1) (λx98=>(λn99=>(λx100=>(λx101=>(λn102=>(λt103=>(ifB (ble (Nat.succ a97.2) n99) (binR (binC E Go.BinOp.add 3 (aN (Go.Operand.tmp 17)) (aN (Go.Operand.tmp 18))) e83.1 (@getF Go.Value t103 a97.2) (λv104=>(k91 (v104,()) h87)))))))))))))))))))))))))) (λk105=>(onB v85 (k81 (e83.1,()) h84) (k105 () h84))))))))) ft ((Value.int Go.IntKind.i64 (Int.ofNat 0)),((Value.int Go.IntKind.i64 (Int.ofNat 0)),())) h70))))) (λa106=>(λn107=>(λn108=>(@joinR (5 :: []) (λe109=>(λh110=>(k e109.1 h110))) (λk111=>(@loopF (5 :: (13 :: [])) (kg v77 n107 k111) ft ((Value.int Go.IntKind.i64 (Int.ofNat 0)),((Value.int Go.IntKind.i64 (Int.ofNat 0)),())) h70)))))))))))))))))))))))
theorem zQ (rc:RC) (a0 a1:Value) (h:H) (k:Value->H->R):WT EE rc a0 a1 h k=PU EE rc a0 a1 h k:=by kernel_rfl
theorem Ix {b o n cc:Nat} {e mm fz:Nat} {op ro:Bool} {cw:T Value} (k111:aa [5]->H->R) (hs:nb cw o n) (hm:o+n<=mm) (hn:n<=1000000):∀(d i N x:Nat) (h:H),i+d=n->d<N->x<=i*1000000->hget h b=.row e mm op ro fz cw ->
  loopF (ks:=[5,13]) (kg (.slice (some ⟨b,o,none⟩) n cc) n k111) N (.int .i64 (.ofNat x),(.int .i64 (.ofNat i),())) h=k111 (.int .i64 (.ofNat (kf cw d (o+i) x)),()) h:=by
 intro d
 induction d with
 | zero=> intro i N x h hi hN hx hq;obtain⟨N,rfl⟩:∃M,N=M+1:=⟨N-1,by omega⟩;rw[ce];unfold kg;simp (disch:=omega) only[↓iu cI,↓ai,↓aM];rfl
 | succ d ih=>
  intro i N x h hi hN hx hq;obtain⟨N,rfl⟩:∃M,N=M+1:=⟨N-1,by omega⟩;obtain⟨w,hw,hw2⟩:=hs i (by omega);have hqr:∀k,onRow (hget h b) k=k e mm op ro fz cw:=λk=>by rw[hq];rfl
  have hmul:(i+1)*1000000=i*1000000+1000000:=by omega
  have key:=ih (i+1) N (x+w) h (by omega) (by omega) (by omega) hq;rw[ce];generalize loopF (ks:=[5,13]) (kg (.slice (some ⟨b,o,none⟩) n cc) n k111) N=L at key ⊢;unfold kg;simp (disch:=first | omega | (simp only[Nat.add_eq,Nat.mul_eq,Nat.succ_eq_add_one];omega)) only[↓km cI,↓ai,↓aK,↓cn,↓bZ,↓au,↓co,↓aG,↓hqr];rw[show i.mul 1=i from Nat.mul_one i,hw];simp (disch:=first | omega | (simp only[Nat.add_eq,Nat.mul_eq,Nat.succ_eq_add_one];omega)) only[↓dl cI];rw[key];show _=k111 (.int .i64 (.ofNat (kf cw d (o+i+1) (x+Bw (getF cw (o+i))))),()) h;rw[hw];rfl
theorem xP {E:Env} {t e l c b o m:Nat} {kd:IntKind} (hE:E.und t=some (.slice e)) (hs:E.size e=some 1) (h1:m<=c / 2):
  dd E t (.slice (some ⟨b,o,none⟩) l c) none (some (.int kd (.ofNat m))) none=some (.slice (some ⟨b,o,none⟩) m c):=by
 have e1:2*(c / 2)+c%2=c:=by omega
 have h2:ble m (c / 2)=true:=be h1;simp only[dd,hE,hs,bound,h2,cond_true,Option.isNone_none,Option.isSome_some,Bool.or_true,Bool.and_true,fM];cases hc:beq (c / 2) 0 <;> simp[hc,e1]
theorem na (A:Addr) (n c:Nat):ac (T.ofList unk (ct A n c)) 1 0=ct A n c:=by show [getF _ 0]=_;rw[aL];rfl
set_option maxHeartbeats 1000000 in
theorem kY (m:Nat) {h:H} {b o n c i:Nat} {e mm fz:Nat} {op ro:Bool} {cw:T Value} (hi:i<=c / 2) (hs:nb cw o i) (hm:o+i<=mm) (hi2:i<=900000) (hb:b<h.next) (hq:hget h b=.row e mm op ro fz cw) (hn:h.next<=1000000000) (k:Value->H->R):
  az EE KK (m+1) 335 [.agg ⟨ct ⟨b,o,none⟩ n c⟩,.int .i64 (.ofNat i)] h k=k (.int .i64 (.ofNat (kf cw i o 0))) (ag h (.row 258 1 false false 0 (T.ofList unk (ct ⟨b,o,none⟩ n c)))):=by
 have hrow:∀k,onRow (hget (ag h (.row 258 1 false false 0 (T.ofList unk (ct ⟨b,o,none⟩ n c)))) h.next) k=k 258 1 false false 0 (T.ofList unk (ct ⟨b,o,none⟩ n c)):=λk=>by rw[aD _ _ hn];rfl
 have e0:getF (T.ofList unk (ct ⟨b,o,none⟩ n c)) 0=.slice (some ⟨b,o,none⟩) n c:=by rw[aL];rfl
 rw[asN,zQ];unfold PU;simp (disch:=first | omega | (simp only[Nat.add_eq,Nat.mul_eq,Nat.succ_eq_add_one];omega)) only[↓bC,↓Bd,↓dm,↓zY,↓au,↓aJ,↓hrow];rw[e0,xP apN aqN hi];simp (disch:=first | omega | (simp only[Nat.add_eq,Nat.mul_eq,Nat.succ_eq_add_one];omega)) only[↓bw,↓bZ,↓ai];have:=Ix (cc:=c) (b:=b) (o:=o) (n:=i) (λe109 h110=>k e109.1 h110) hs hm (by omega) i 0 ft 0 (ag h (.row 258 1 false false 0 (T.ofList unk (ct ⟨b,o,none⟩ n c)))) (by omega) (by unfold ft;omega) (by omega) (by rw[bp _ _ hn hb,hq]);rw[Nat.add_zero] at this;exact this
set_option maxHeartbeats 1000000 in
theorem xC (m:Nat) {h:H} {b o n c:Nat} {e mm fz:Nat} {op ro:Bool} {cw:T Value} (hi:n<=c / 2) (hs:nb cw o n) (hm:o+n<=mm) (hi2:n<=900000) (hb:b<h.next) (hq:hget h b=.row e mm op ro fz cw) (hn:h.next+10<=1000000000) (k:Value->H->R):
  az EE KK (m+2) 278 [.agg ⟨ct ⟨b,o,none⟩ n c⟩] h k=k (.int .i64 (.ofNat (kf cw n o 0))) (ag (ag h (.row 258 1 false false 0 (T.ofList unk (ct ⟨b,o,none⟩ n c)))) (.row 258 1 false false 0 (T.ofList unk (ct ⟨b,o,none⟩ n c)))):=by
 have hrow:∀k,onRow (hget (ag h (.row 258 1 false false 0 (T.ofList unk (ct ⟨b,o,none⟩ n c)))) h.next) k=k 258 1 false false 0 (T.ofList unk (ct ⟨b,o,none⟩ n c)):=λk=>by rw[aD _ _ (by omega)];rfl
 have e0:∀s k,onSl (getF (T.ofList unk (ct ⟨b,o,none⟩ n c)) 0) s k=k ⟨b,o,none⟩ n c:=λs k=>by rw[aL];rfl
 rw[arG];unfold ahB;simp (disch:=first | omega | (simp only[Nat.add_eq,Nat.mul_eq,Nat.succ_eq_add_one];omega)) only[↓bC,↓Bd,↓dm,↓zY,↓au,↓aJ,↓hrow,↓e0];rw[na,kY m hi hs hm hi2 (by rw[bO];omega) (by rw[bp _ _ (by omega) hb,hq]) (by rw[bO];omega)]
set_option maxHeartbeats 1000000 in
theorem xc (m:Nat) {h:H} {b o n c i:Nat} {e mm fz:Nat} {op ro:Bool} {cw:T Value} (hin:i<n) (hi:i<=c / 2) (hs:nb cw o i) (hm:o+i<=mm) (hi2:i<=900000) (hb:b<h.next) (hq:hget h b=.row e mm op ro fz cw) (hn:h.next+10<=1000000000):
  ∃h',ez h h'/\h'.next<=h.next+3/\∀k:Value->H->R,az EE KK (m+2) 306 [.agg ⟨ct ⟨b,o,none⟩ n c⟩,.int .i64 (.ofNat i)] h k=k (.int .i64 (.ofNat (kf cw i o 0))) h':=by
 have o1:ez h (ag h (.row 258 1 false false 0 (T.ofList unk (ct ⟨b,o,none⟩ n c)))):=(ez.refl h).push _ (by omega);generalize hh1:ag h (.row 258 1 false false 0 (T.ofList unk (ct ⟨b,o,none⟩ n c)))=g1 at o1;have n1:g1.next=h.next+1:=by rw[<-hh1];rfl
 have o2:ez g1 (ag g1 (.row 258 1 false false 0 (T.ofList unk (ct ⟨b,o,none⟩ n c)))):=(ez.refl g1).push _ (by omega);generalize hh2:ag g1 (.row 258 1 false false 0 (T.ofList unk (ct ⟨b,o,none⟩ n c)))=g2 at o2;have n2:g2.next=h.next+2:=by rw[<-hh2,bO,n1]
 have o3:ez g2 (ag g2 (.row 258 1 false false 0 (T.ofList unk (ct ⟨b,o,none⟩ n c)))):=(ez.refl g2).push _ (by omega);generalize hh3:ag g2 (.row 258 1 false false 0 (T.ofList unk (ct ⟨b,o,none⟩ n c)))=g3 at o3;have n3:g3.next=h.next+3:=by rw[<-hh3,bO,n2]
 have r1:hget g1 h.next=.row 258 1 false false 0 (T.ofList unk (ct ⟨b,o,none⟩ n c)):=by rw[<-hh1,aD _ _ (by omega)]
 have k1:∀k,onRow (hget g1 h.next) k=k 258 1 false false 0 (T.ofList unk (ct ⟨b,o,none⟩ n c)):=λk=>by rw[r1];rfl
 have k2:∀k,onRow (hget g2 h.next) k=k 258 1 false false 0 (T.ofList unk (ct ⟨b,o,none⟩ n c)):=λk=>by rw[o2.2 _ (by omega),r1];rfl
 have w1:∀k,az EE KK (m+1) 336 [.agg ⟨ct ⟨b,o,none⟩ n c⟩,.int .i64 (.ofNat i)] g1 k=k (.bool true) g2:=λk=>by rw[oR m hin (by omega),hh2]
 have w2:∀k,az EE KK (m+1) 335 [.agg ⟨ct ⟨b,o,none⟩ n c⟩,.int .i64 (.ofNat i)] g2 k=k (.int .i64 (.ofNat (kf cw i o 0))) g3:=λk=>by rw[kY m hi hs hm hi2 (by omega) (by rw[o2.2 _ (by omega),o1.2 _ hb,hq]) (by omega),hh3]
 refine⟨g3,o1.trans (o2.trans o3),by omega,λk=>?_⟩;rw[asD];unfold Yg;simp (disch:=first | omega | (simp only[Nat.add_eq,Nat.mul_eq,Nat.succ_eq_add_one];omega)) only[↓bC,↓Bd,↓dm,↓zY,↓au,↓aJ];rw[hh1];simp (disch:=first | omega | (simp only[Nat.add_eq,Nat.mul_eq,Nat.succ_eq_add_one];omega)) only[↓k1,↓au];rw[na];simp (disch:=first | omega | (simp only[Nat.add_eq,Nat.mul_eq,Nat.succ_eq_add_one];omega)) only[↓w1,↓aK,↓ai,↓k2,↓au];rw[na];simp only[↓w2]
set_option maxHeartbeats 1000000 in
theorem ya (m:Nat) {h:H} {A:Addr} {at0 size:Nat} (hn:h.next<=1000000000) (k:Value->H->R):
  az EE KK (m+1) 245 [.agg ⟨aW A at0 size⟩] h k=k (.int .i64 (.ofNat size)) (ag h (.row 131 3 false false 0 (T.ofList unk (aW A at0 size)))):=by
 have hrow:∀k,onRow (hget (ag h (.row 131 3 false false 0 (T.ofList unk (aW A at0 size)))) h.next) k=k 131 3 false false 0 (T.ofList unk (aW A at0 size)):=λk=>by rw[aD _ _ hn];rfl
 have e2:getF (T.ofList unk (aW A at0 size)) 2=.int .i64 (.ofNat size):=by rw[aL];rfl
 rw[asz];unfold ajf;simp (disch:=first | omega | (simp only[Nat.add_eq,Nat.mul_eq,Nat.succ_eq_add_one];omega)) only[↓bC,↓xU,↓dm,↓yg,↓au,↓aJ,↓hrow];rw[show Nat.add 0 2=2 from rfl,e2]
def Pd (v:Value) (k:List Value->R):R:=CV.rec (motive:=λ_=>R) none none k (asC v)
theorem uF {v:Value} {k:List Value->R} {r} (h:Pd v k=some r):∃l,v=.agg ⟨l⟩/\k l=some r:=by
 cases v with
 | agg a=>exact⟨a.1,rfl,h⟩
 | _=>exact nomatch h
def nV (v:Value) (k:Nat->Nat->Nat->Nat->R):R:=
 Pd v λl=>ifB (beq (lenF l) 1) (nthF 0 l λs=>onSl s none λad n c=>kA ad λb o=>k b o n c)
theorem ie {v:Value} {k:Nat->Nat->Nat->Nat->R} {r} (h:nV v k=some r):∃b o n c,v=.agg ⟨ct ⟨b,o,none⟩ n c⟩/\k b o n c=some r:=by
 unfold nV at h;obtain⟨l,ev,h⟩:=uF h;obtain⟨hl,h⟩:=ah h;obtain⟨s,e0,h⟩:=aH h;obtain⟨ad,n,c,es,h⟩:=en h;obtain⟨b,o,ed,h⟩:=cQ h;have hl:=Nat.eq_of_beq_eq_true hl;rw[bU] at hl;refine⟨b,o,n,c,?_,h⟩
 match l,hl with
 | [a],_=> simp at e0;rw[ev,e0,es,ed];rfl
def AR (c:T Value) (d:Nat):Nat->Nat->(Nat->R)->R:=
 Nat.rec (motive:=λ_=>Nat->Nat->(Nat->R)->R) (λ_ x k=>fcN x k) (λ_ ih o x k=>dN (getF c o) λw=>ifB (ble w 1000000) (ih (Nat.succ o) (Nat.add x w) k)) d
theorem jf {c:T Value}:∀{d o x:Nat} {k:Nat->R} {r},AR c d o x k=some r->nb c o d/\k (kf c d o x)=some r
 | 0,o,x,k,r,h=>by have h:fcN x k=some r:=h;rw[nh] at h;exact⟨λj hj=>absurd hj (Nat.not_lt_zero j),h⟩
 | d+1,o,x,k,r,h=>by
  have h:(dN (getF c o) λw=>ifB (ble w 1000000) (AR c d (Nat.succ o) (Nat.add x w) k))=some r:=h;obtain⟨w,e,h⟩:=bj h;obtain⟨hb,h⟩:=ah h;obtain⟨hs,hk⟩:=jf h;refine⟨λj hj=>?_,?_⟩
  ·cases j with
   | zero=>exact⟨w,e,Nat.le_of_ble_eq_true hb⟩
   | succ j=> obtain⟨w2,e2,h2⟩:=hs j (by omega);exact⟨w2,by rw[<-e2];congr 1;omega,h2⟩
  ·show k (kf c d (o+1) (x+Bw (getF c o)))=some r;rw[e];exact hk
def adX (args:List Value) (h:H):R:=
 nthF 0 args λv=>nthF 1 args λvi=>ifB (beq (lenF args) 2) (dN vi λi=>nV v λb o n c=>ifB (ble (Nat.succ i) n) (ifB (ble h.1 1000000000) (some (.bool true,h))))
theorem FJ {args:List Value} {h:H} {r:Value × H} (hq:adX args h=some r):gL 336 args h r:=by unfold adX at hq;obtain⟨v,e0,hq⟩:=aH hq;obtain⟨vi,e1,hq⟩:=aH hq;obtain⟨hl,hq⟩:=ah hq;have hl:=Nat.eq_of_beq_eq_true hl;rw[bU] at hl;have ha:=nJ e0 e1 hl;obtain⟨i,ei,hq⟩:=bj hq;obtain⟨b,o,n,c,ev,hq⟩:=ie hq;obtain⟨q1,hq⟩:=ah hq;obtain⟨q2,hq⟩:=ah hq;have hq:=Option.some.inj hq;subst hq;have q2:=Nat.le_of_ble_eq_true q2;refine⟨rfl,_,rfl,λ_ _ q=>q,1,_,(ez.refl h).push (.row 258 1 false false 0 (T.ofList unk (ct ⟨b,o,none⟩ n c))) q2,λk=>?_⟩;rw[ha,ev,ei];exact oR 0 (Nat.le_of_ble_eq_true q1) q2 k
def oN (v vi:Value) (h:H) (k:Nat->Nat->Nat->R):R:=
 dN vi λi=>nV v λb o n c=>ifB (ble i (Nat.div c 2)) (ifB (ble i 900000) (ifB (ble (Nat.succ b) h.1) (ifB (ble (Nat.add h.1 10) 1000000000) (onRow (hget h b) λ_ mm _ _ _ cw=>ifB (ble (Nat.add o i) mm) (AR cw i o 0 λx=>k i n x)))))
theorem lO {v vi:Value} {h:H} {k:Nat->Nat->Nat->R} {r} (hq:oN v vi h k=some r):
  ∃b o n c i e mm op ro fz cw,v=.agg ⟨ct ⟨b,o,none⟩ n c⟩/\vi=.int .i64 (.ofNat i)/\i<=c / 2/\i<=900000/\b<h.next/\h.next+10<=1000000000/\hget h b=.row e mm op ro fz cw/\o+i<=mm/\nb cw o i/\k i n (kf cw i o 0)=some r:=by
 unfold oN at hq;obtain⟨i,ei,hq⟩:=bj hq;obtain⟨b,o,n,c,ev,hq⟩:=ie hq;obtain⟨q1,hq⟩:=ah hq;obtain⟨q2,hq⟩:=ah hq;obtain⟨q3,hq⟩:=ah hq;obtain⟨q4,hq⟩:=ah hq;obtain⟨e,mm,op,ro,fz,cw,hr,hq⟩:=bE hq;obtain⟨q5,hq⟩:=ah hq;obtain⟨hs,hq⟩:=jf hq;exact⟨b,o,n,c,i,e,mm,op,ro,fz,cw,ev,ei,Nat.le_of_ble_eq_true q1,Nat.le_of_ble_eq_true q2,Nat.le_of_ble_eq_true q3,Nat.le_of_ble_eq_true q4,hr,Nat.le_of_ble_eq_true q5,hs,hq⟩
def tB (args:List Value) (h:H):R:=
 nthF 0 args λv=>nthF 1 args λvi=>ifB (beq (lenF args) 2) (oN v vi h λ_ _ x=>some (.int .i64 (.ofNat x),h))
theorem yb {args:List Value} {h:H} {r:Value × H} (hq:tB args h=some r):gL 335 args h r:=by unfold tB at hq;obtain⟨v,e0,hq⟩:=aH hq;obtain⟨vi,e1,hq⟩:=aH hq;obtain⟨hl,hq⟩:=ah hq;have hl:=Nat.eq_of_beq_eq_true hl;rw[bU] at hl;have ha:=nJ e0 e1 hl;obtain⟨b,o,n,c,i,e,mm,op,ro,fz,cw,ev,ei,q1,q2,q3,q4,hr,q5,hs,hq⟩:=lO hq;have hq:=Option.some.inj hq;subst hq;refine⟨rfl,_,rfl,λ_ _ q=>q,1,_,(ez.refl h).push (.row 258 1 false false 0 (T.ofList unk (ct ⟨b,o,none⟩ n c))) (by omega),λk=>?_⟩;rw[ha,ev,ei];exact kY 0 q1 hs q5 q2 q3 hr (by omega) k
def VY (args:List Value) (h:H):R:=
 nthF 0 args λv=>nthF 1 args λvi=>ifB (beq (lenF args) 2) (oN v vi h λi n x=>ifB (ble (Nat.succ i) n) (some (.int .i64 (.ofNat x),h)))
theorem F0 {args:List Value} {h:H} {r:Value × H} (hq:VY args h=some r):gL 306 args h r:=by unfold VY at hq;obtain⟨v,e0,hq⟩:=aH hq;obtain⟨vi,e1,hq⟩:=aH hq;obtain⟨hl,hq⟩:=ah hq;have hl:=Nat.eq_of_beq_eq_true hl;rw[bU] at hl;have ha:=nJ e0 e1 hl;obtain⟨b,o,n,c,i,e,mm,op,ro,fz,cw,ev,ei,q1,q2,q3,q4,hr,q5,hs,hq⟩:=lO hq;obtain⟨q6,hq⟩:=ah hq;have hq:=Option.some.inj hq;subst hq;obtain⟨h',ho,_,hk⟩:=xc 0 (Nat.le_of_ble_eq_true q6) q1 hs q5 q2 q3 hr q4;refine⟨rfl,_,rfl,λ_ _ q=>q,2,h',ho,λk=>?_⟩;rw[ha,ev,ei];exact hk k
def uq (args:List Value) (h:H):R:=
 nthF 0 args λv=>ifB (beq (lenF args) 1) (nV v λb o n c=>ifB (ble n (Nat.div c 2)) (ifB (ble n 900000) (ifB (ble (Nat.succ b) h.1) (ifB (ble (Nat.add h.1 10) 1000000000) (onRow (hget h b) λ_ mm _ _ _ cw=>ifB (ble (Nat.add o n) mm) (AR cw n o 0 λx=>some (.int .i64 (.ofNat x),h)))))))
theorem Pk {args:List Value} {v0:Value} (h0:args[0]?=some v0) (hl:args.length=1):args=[v0]:=by
 match args,hl with
 | [a],_=>simp at h0;rw[h0]
theorem xS {args:List Value} {h:H} {r:Value × H} (hq:uq args h=some r):gL 278 args h r:=by unfold uq at hq;obtain⟨v,e0,hq⟩:=aH hq;obtain⟨hl,hq⟩:=ah hq;have hl:=Nat.eq_of_beq_eq_true hl;rw[bU] at hl;have ha:=Pk e0 hl;obtain⟨b,o,n,c,ev,hq⟩:=ie hq;obtain⟨q1,hq⟩:=ah hq;obtain⟨q2,hq⟩:=ah hq;obtain⟨q3,hq⟩:=ah hq;obtain⟨q4,hq⟩:=ah hq;obtain⟨e,mm,op,ro,fz,cw,hr,hq⟩:=bE hq;obtain⟨q5,hq⟩:=ah hq;obtain⟨hs,hq⟩:=jf hq;have hq:=Option.some.inj hq;subst hq;have q4:h.next+10<=1000000000:=Nat.le_of_ble_eq_true q4;refine⟨rfl,_,rfl,λ_ _ q=>q,2,_,((ez.refl h).push (.row 258 1 false false 0 (T.ofList unk (ct ⟨b,o,none⟩ n c))) (by omega)).push (.row 258 1 false false 0 (T.ofList unk (ct ⟨b,o,none⟩ n c))) (by rw[bO];omega),λk=>?_⟩;rw[ha,ev];exact xC 0 (Nat.le_of_ble_eq_true q1) hs (Nat.le_of_ble_eq_true q5) (Nat.le_of_ble_eq_true q2) (Nat.le_of_ble_eq_true q3) hr q4 k
def ut (args:List Value) (h:H):R:=
 nthF 0 args λv=>ifB (beq (lenF args) 1) (iM v λp at0 size=>onPtr p λ_=>ifB (ble h.1 1000000000) (some (.int .i64 (.ofNat size),h)))
theorem xZ {args:List Value} {h:H} {r:Value × H} (hq:ut args h=some r):gL 245 args h r:=by unfold ut at hq;obtain⟨v,e0,hq⟩:=aH hq;obtain⟨hl,hq⟩:=ah hq;have hl:=Nat.eq_of_beq_eq_true hl;rw[bU] at hl;have ha:=Pk e0 hl;obtain⟨pv,at0,size,ev,hs,hat,hq⟩:=eI hq;obtain⟨A,eA,hq⟩:=bL hq;obtain⟨q,hq⟩:=ah hq;have hq:=Option.some.inj hq;subst hq;refine⟨rfl,_,rfl,λ_ _ q=>q,1,_,(ez.refl h).push (.row 131 3 false false 0 (T.ofList unk (aW A at0 size))) (Nat.le_of_ble_eq_true q),λk=>?_⟩;rw[ha,ev,eA];exact ya 0 (Nat.le_of_ble_eq_true q) k
theorem tX (A:Addr) (a s:Nat):aj (.agg ⟨aW A a s⟩) (.agg ⟨aW A a s⟩)=true:=by simp[aW,aj,iC,mN,fV]
theorem xL (A:Addr):aj (.pointer (some A)) (.pointer (some A))=true:=by simp[aj,iC,fV]
theorem Bh (A:Addr) (n c:Nat):aj (.slice (some A) n c) (.slice (some A) n c)=true:=by simp[aj,iC,fV]
theorem xE (k:IntKind) (n:Int):aj (.int k n) (.int k n)=true:=by simp[aj,iC,fV]
theorem QU (A:Addr) (a s:Nat) (k:R):ifB (aj (.agg ⟨aW A a s⟩) (.agg ⟨aW A a s⟩)) k=k:=fy (tX A a s) k
theorem yR (A:Addr) (k:R):ifB (aj (.pointer (some A)) (.pointer (some A))) k=k:=fy (xL A) k
theorem Xs (A:Addr) (n c:Nat) (k:R):ifB (aj (.slice (some A) n c) (.slice (some A) n c)) k=k:=fy (Bh A n c) k
theorem AM (kd:IntKind) (n:Int) (k:R):ifB (aj (.int kd n) (.int kd n)) k=k:=fy (xE kd n) k
theorem cells3 (A:Addr) (a s:Nat):ac (T.ofList unk (aW A a s)) 3 0=aW A a s:=by show [getF _ 0,getF _ 1,getF _ 2]=_;rw[aL,aL,aL];rfl
set_option maxHeartbeats 4000000 in
theorem Gu (m:Nat) {h:H} {p:Ch} {b o n c i at0 size w:Nat} {s:List UInt8} {e mm fz:Nat} {op ro:Bool} {cw:T Value} (hin:i<n) (hi:i<=c / 2) (hs:nb cw o i) (hw:getF cw (o+i)=.int .i64 (.ofNat w)) (hm:o+i<mm) (hi2:i<=900000) (hb:b<h.next) (hq:hget h b=.row e mm op ro fz cw)
  (h1:kf cw i o 0+w<=size) (hsz:size<=4611686018427387904) (hat:at0<=4611686018427387904) (x:mn h p (at0+kf cw i o 0) w) (hby:bV (ac p.cq w ((at0+kf cw i o 0)%4096))=some s) (hwm:w=1 \/ w=2 \/ w=4 \/ w=8) (hn:h.next+60<=1000000000):
  ∃h',ez h h'/\∀k:Value->H->R,az EE KK (m+9) 280 [.agg ⟨ct ⟨b,o,none⟩ n c⟩,.agg ⟨aW ⟨p.b,0,none⟩ at0 size⟩,.int .i64 (.ofNat i)] h k=k (.tuple ⟨[.int .u64 (.ofNat (ldv s 0 0)),.int .i64 (.ofNat 0)]⟩) h':=by
 have o1:ez h (ag h (.row 258 1 false false 0 (T.ofList unk (ct ⟨b,o,none⟩ n c)))):=(ez.refl h).push _ (by omega);generalize hh1:ag h (.row 258 1 false false 0 (T.ofList unk (ct ⟨b,o,none⟩ n c)))=g1 at o1;have n1:g1.next=h.next+1:=by rw[<-hh1];rfl
 have o2:ez g1 (ag g1 (.row 131 3 false false 0 (T.ofList unk (aW ⟨p.b,0,none⟩ at0 size)))):=(ez.refl g1).push _ (by omega);generalize hh2:ag g1 (.row 131 3 false false 0 (T.ofList unk (aW ⟨p.b,0,none⟩ at0 size)))=g2 at o2;have n2:g2.next=h.next+2:=by rw[<-hh2,bO,n1]
 have o3:ez g2 (ag g2 (.row 258 1 false false 0 (T.ofList unk (ct ⟨b,o,none⟩ n c)))):=(ez.refl g2).push _ (by omega);generalize hh3:ag g2 (.row 258 1 false false 0 (T.ofList unk (ct ⟨b,o,none⟩ n c)))=g3 at o3;have n3:g3.next=h.next+3:=by rw[<-hh3,bO,n2]
 have o13:ez h g3:=o1.trans (o2.trans o3);obtain⟨g4,o4,n4,hfat⟩:=xc (m+6) (h:=g3) hin hi hs (Nat.le_of_lt hm) hi2 (Nat.lt_of_lt_of_le hb o13.1) (by rw[o13.2 _ hb,hq]) (by omega);obtain⟨g5,o5,hld⟩:=nW m (h:=g4) h1 hsz hat ((x.old o13).old o4) hby hwm (by omega);have r1:hget g1 h.next=.row 258 1 false false 0 (T.ofList unk (ct ⟨b,o,none⟩ n c)):=by rw[<-hh1,aD _ _ (by omega)]
 have r2:hget g2 h.next=.row 258 1 false false 0 (T.ofList unk (ct ⟨b,o,none⟩ n c)):=by rw[o2.2 _ (by omega),r1]
 have r3:hget g3 h.next=.row 258 1 false false 0 (T.ofList unk (ct ⟨b,o,none⟩ n c)):=by rw[o3.2 _ (by omega),r2]
 have r4:hget g4 h.next=.row 258 1 false false 0 (T.ofList unk (ct ⟨b,o,none⟩ n c)):=by rw[o4.2 _ (by omega),r3]
 have v2:hget g2 g1.next=.row 131 3 false false 0 (T.ofList unk (aW ⟨p.b,0,none⟩ at0 size)):=by rw[<-hh2,aD _ _ (by omega)]
 have v3:hget g3 g1.next=.row 131 3 false false 0 (T.ofList unk (aW ⟨p.b,0,none⟩ at0 size)):=by rw[o3.2 _ (by omega),v2]
 have v4:hget g4 g1.next=.row 131 3 false false 0 (T.ofList unk (aW ⟨p.b,0,none⟩ at0 size)):=by rw[o4.2 _ (by omega),v3]
 have b3:hget g3 b=.row e mm op ro fz cw:=by rw[o13.2 _ hb,hq]
 have b4:hget g4 b=.row e mm op ro fz cw:=by rw[o4.2 _ (by omega),b3]
 have k2:∀k,onRow (hget g2 h.next) k=k 258 1 false false 0 (T.ofList unk (ct ⟨b,o,none⟩ n c)):=λk=>by rw[r2];rfl
 have k3:∀k,onRow (hget g3 h.next) k=k 258 1 false false 0 (T.ofList unk (ct ⟨b,o,none⟩ n c)):=λk=>by rw[r3];rfl
 have k4:∀k,onRow (hget g4 h.next) k=k 258 1 false false 0 (T.ofList unk (ct ⟨b,o,none⟩ n c)):=λk=>by rw[r4];rfl
 have l3:∀k,onRow (hget g3 g1.next) k=k 131 3 false false 0 (T.ofList unk (aW ⟨p.b,0,none⟩ at0 size)):=λk=>by rw[v3];rfl
 have l4:∀k,onRow (hget g4 g1.next) k=k 131 3 false false 0 (T.ofList unk (aW ⟨p.b,0,none⟩ at0 size)):=λk=>by rw[v4];rfl
 have q3:∀k,onRow (hget g3 b) k=k e mm op ro fz cw:=λk=>by rw[b3];rfl
 have q4:∀k,onRow (hget g4 b) k=k e mm op ro fz cw:=λk=>by rw[b4];rfl
 have e0:getF (T.ofList unk (ct ⟨b,o,none⟩ n c)) 0=.slice (some ⟨b,o,none⟩) n c:=by rw[aL];rfl
 have w1:∀k,az EE KK (m+8) 336 [.agg ⟨ct ⟨b,o,none⟩ n c⟩,.int .i64 (.ofNat i)] g2 k=k (.bool true) g3:=λk=>by rw[oR (m+7) hin (by omega),hh3]
 have hmk:H.mk (Nat.add g3.1 0) g3.2=g3:=by cases g3;rfl
 refine⟨g5,o13.trans (o4.trans o5),λk=>?_⟩;rw[asO];unfold aaX;simp (disch:=first | omega | (simp only[Nat.add_eq,Nat.mul_eq,Nat.succ_eq_add_one];omega)) only[↓bC,↓Bd,↓dm,↓zY,↓au,↓aJ];rw[hh1];simp (disch:=first | omega | (simp only[Nat.add_eq,Nat.mul_eq,Nat.succ_eq_add_one];omega)) only[↓bC,↓xU,↓dm,↓yg,↓au,↓aJ];rw[hh2];simp (disch:=first | omega | (simp only[Nat.add_eq,Nat.mul_eq,Nat.succ_eq_add_one];omega)) only[↓k2,↓au];rw[na];simp (disch:=first | omega | (simp only[Nat.add_eq,Nat.mul_eq,Nat.succ_eq_add_one];omega)) only[↓w1,↓aK,↓ai,↓au,↓aJ];rw[hmk];simp (disch:=first | omega | (simp only[Nat.add_eq,Nat.mul_eq,Nat.succ_eq_add_one];omega)) only[↓l3,↓k3,↓au,↓cn];rw[e0];simp (disch:=first | omega | (simp only[Nat.add_eq,Nat.mul_eq,Nat.succ_eq_add_one];omega)) only[↓bZ,↓au,↓co,↓aG,↓q3];have w2:∀k,az EE KK (m+8) 306 [.agg ⟨ct ⟨b,o,none⟩ n c⟩,.int .i64 (.ofNat i)] g3 k=k (.int .i64 (.ofNat (kf cw i o 0))) g4:=hfat;have hmul:i.mul 1=i:=Nat.mul_one i;rw[na,cells3,hmul,hw,w2];simp (disch:=first | omega | (simp only[Nat.add_eq,Nat.mul_eq,Nat.succ_eq_add_one];omega)) only[↓l4,↓au];rw[cells3];simp (disch:=first | omega | (simp only[Nat.add_eq,Nat.mul_eq,Nat.succ_eq_add_one];omega)) only[↓QU,↓yR,↓k4,↓au];rw[e0];simp (disch:=first | omega | (simp only[Nat.add_eq,Nat.mul_eq,Nat.succ_eq_add_one];omega)) only[↓Xs,↓AM,↓yR,↓q4,↓au];rw[hw];simp (disch:=first | omega | (simp only[Nat.add_eq,Nat.mul_eq,Nat.succ_eq_add_one];omega)) only[↓AM,↓hld,↓bJ,↓bK,↓cd];rfl
def S4 (args:List Value) (h:H):R:=
 nthF 0 args λvr=>nthF 1 args λvv=>nthF 2 args λvi=>ifB (beq (lenF args) 3) (dN vi λi=>nV vr λb o n c=>
 ifB (ble (Nat.succ i) n) (ifB (ble i (Nat.div c 2)) (ifB (ble i 900000) (ifB (ble (Nat.succ b) h.1) (ifB (ble (Nat.add h.1 60) 1000000000) (
 onRow (hget h b) λ_ mm _ _ _ cw=>ifB (ble (Nat.succ (Nat.add o i)) mm) (dN (getF cw (Nat.add o i)) λw=>ifB (beq w 1||beq w 2||beq w 4||beq w 8) (
 AR cw i o 0 λx=>iM vv λp at0 size=>ifB (ble (Nat.add x w) size) (fcN (Nat.add at0 x) λa=>
 Pm p a w h λcq=>ldQ cq w (Nat.mod a 4096) 0 0 λy=>some (.tuple ⟨[.int .u64 (.ofNat y),.int .i64 (.ofNat 0)]⟩,h))))))))))
theorem IN {args:List Value} {h:H} {r:Value × H} (hq:S4 args h=some r):gL 280 args h r:=by
 unfold S4 at hq;obtain⟨vr,e0,hq⟩:=aH hq;obtain⟨vv,e1,hq⟩:=aH hq;obtain⟨vi,e2,hq⟩:=aH hq;obtain⟨hl,hq⟩:=ah hq;have hl:=Nat.eq_of_beq_eq_true hl;rw[bU] at hl;have ha:=lN e0 e1 e2 hl;obtain⟨i,ei,hq⟩:=bj hq;obtain⟨b,o,n,c,er,hq⟩:=ie hq;obtain⟨q1,hq⟩:=ah hq;obtain⟨q2,hq⟩:=ah hq;obtain⟨q3,hq⟩:=ah hq;obtain⟨q4,hq⟩:=ah hq;obtain⟨q5,hq⟩:=ah hq;obtain⟨e,mm,op,ro,fz,cw,hrow,hq⟩:=bE hq;obtain⟨q6,hq⟩:=ah hq;obtain⟨w,hw,hq⟩:=bj hq;obtain⟨hm,hq⟩:=ah hq;obtain⟨hs,hq⟩:=jf hq;obtain⟨pv,at0,size,ev,hsz,hat,hq⟩:=eI hq;obtain⟨q7,hq⟩:=ah hq;rw[nh] at hq;obtain⟨p,ep,hok,_,hq⟩:=gC hq;obtain⟨s,hs2,hq⟩:=kJ (j:=0) hq rfl;have hq:=Option.some.inj hq;subst hq;have hm:w=1 \/ w=2 \/ w=4 \/ w=8:=by
  simp only[Bool.or_eq_true] at hm;rcases hm with ((q | q) | q) | q
  ·exact .inl (Nat.eq_of_beq_eq_true q)
  ·exact .inr (.inl (Nat.eq_of_beq_eq_true q))
  ·exact .inr (.inr (.inl (Nat.eq_of_beq_eq_true q)))
  ·exact .inr (.inr (.inr (Nat.eq_of_beq_eq_true q)))
 obtain⟨h',ho,hk⟩:=Gu 0 (n:=n) (c:=c) (Nat.le_of_ble_eq_true q1) (Nat.le_of_ble_eq_true q2) hs hw (Nat.le_of_ble_eq_true q6) (Nat.le_of_ble_eq_true q3) (Nat.le_of_ble_eq_true q4) hrow (Nat.le_of_ble_eq_true q7) hsz hat hok hs2 hm (Nat.le_of_ble_eq_true q5);refine⟨rfl,_,rfl,λ_ _ q=>q,9,h',ho,λk=>?_⟩;rw[ha,er,ev,ep,ei];exact hk k
end Go.Ev
namespace Go.Ev
open Go F Go.Proofs
set_option maxHeartbeats 2000000 in
theorem nl (n:Nat) {h:H} {p:Ch} {at0 size a m:Nat} {s:List UInt8} (h1:a+m<=size) (hs:size<=4611686018427387904) (hat:at0<=4611686018427387904) (x:mn h p (at0+a) m) (hby:bV (ac p.cq m ((at0+a)%4096))=some s) (hroom:h.next+30<=1000000000):
  ∃h',ez h h'/\∀k:Value->H->R,az EE KK (n+7) 277 [.agg ⟨aW ⟨p.b,0,none⟩ at0 size⟩,.int .i64 (.ofNat a),.int .i64 (.ofNat m)] h k=k (.tuple ⟨[.string ⟨⟨s⟩⟩,.int .i64 (.ofNat 0)]⟩) h':=by
 have o1:ez h (ag h (.row 131 3 false false 0 (T.ofList unk (aW ⟨p.b,0,none⟩ at0 size)))):=(ez.refl h).push _ (by omega);generalize hh1:ag h (.row 131 3 false false 0 (T.ofList unk (aW ⟨p.b,0,none⟩ at0 size)))=g1 at o1;have n1:g1.next=h.next+1:=by rw[<-hh1];rfl
 have o2:ez g1 (ag g1 (.row 131 3 false false 0 (T.ofList unk (aW ⟨p.b,0,none⟩ at0 size)))):=(ez.refl g1).push _ (by omega);generalize hh2:ag g1 (.row 131 3 false false 0 (T.ofList unk (aW ⟨p.b,0,none⟩ at0 size)))=g2 at o2;have n2:g2.next=h.next+2:=by rw[<-hh2,bO,n1]
 have r1:hget g1 h.next=.row 131 3 false false 0 (T.ofList unk (aW ⟨p.b,0,none⟩ at0 size)):=by rw[<-hh1,aD _ _ (by omega)]
 have r2:hget g2 h.next=.row 131 3 false false 0 (T.ofList unk (aW ⟨p.b,0,none⟩ at0 size)):=by rw[o2.2 _ (by omega),r1]
 have k1:∀k,onRow (hget g1 h.next) k=k 131 3 false false 0 (T.ofList unk (aW ⟨p.b,0,none⟩ at0 size)):=λk=>by rw[r1];rfl
 have k2:∀k,onRow (hget g2 h.next) k=k 131 3 false false 0 (T.ofList unk (aW ⟨p.b,0,none⟩ at0 size)):=λk=>by rw[r2];rfl
 have e0:getF (T.ofList unk (aW ⟨p.b,0,none⟩ at0 size)) 0=.pointer (some ⟨p.b,0,none⟩):=by rw[aL];rfl
 have e1:getF (T.ofList unk (aW ⟨p.b,0,none⟩ at0 size)) 1=.int .i64 (.ofNat at0):=by rw[aL];rfl
 have m1:=x.m1;obtain⟨h',ho,hx,hl⟩:=je n ((x.old o1).old o2) hby (by omega);refine⟨h',o1.trans (o2.trans ho),λk=>?_⟩;have w2:∀k,az EE KK (n+6) 170 [.agg ⟨aW ⟨p.b,0,none⟩ at0 size⟩,.int .i64 (.ofNat a),.int .i64 (.ofNat m)] g1 k=k (.int .i64 (.ofNat 0)) g2:=λk=>by rw[jV (n+5) h1 hs (by omega),hh2]
 rw[bg,Aq];unfold O7;simp (disch:=first | omega | (simp only[Nat.add_eq,Nat.mul_eq,Nat.succ_eq_add_one];omega)) only[↓bC,↓xU,↓dm,↓yg,↓au,↓aJ];rw[hh1];simp (disch:=first | omega | (simp only[Nat.add_eq,Nat.mul_eq,Nat.succ_eq_add_one];omega)) only[↓k1,↓au];rw[cells3];simp (disch:=first | omega | (simp only[Nat.add_eq,Nat.mul_eq,Nat.succ_eq_add_one];omega)) only[↓w2,↓pZ su,↓ai,↓aM,↓k2,↓au];rw[show Nat.add 0 1=1 from rfl,e0,e1];simp (disch:=first | omega | (simp only[Nat.add_eq,Nat.mul_eq,Nat.succ_eq_add_one];omega)) only[↓dl cI,↓hl,↓bJ,↓bK,↓cd];rfl
def oY (args:List Value) (h:H):R:=
 nthF 0 args λv=>nthF 1 args λva=>nthF 2 args λvm=>ifB (beq (lenF args) 3) (dN va λa=>dN vm λm=>
 iM v λp at0 size=>ifB (ble (Nat.add a m) size) (ifB (ble (Nat.add h.1 30) 1000000000) (fcN (Nat.add at0 a) λb=>
 Pm p b m h λc=>Bool.rec (motive:=λ_=>R) (ifB (mD c) (some (.tuple ⟨[unk,.int .i64 (.ofNat 0)]⟩,h)))
  (K7 c m (Nat.mod b 4096) λs=>some (.tuple ⟨[.string ⟨⟨s⟩⟩,.int .i64 (.ofNat 0)]⟩,h)) (ble m 12))))
theorem sU {args:List Value} {h:H} {r:Value × H} (hq:oY args h=some r):gL 277 args h r:=by
 unfold oY at hq;obtain⟨v,e0,hq⟩:=aH hq;obtain⟨va,e1,hq⟩:=aH hq;obtain⟨vm,e2,hq⟩:=aH hq;obtain⟨hl,hq⟩:=ah hq;have hl:=Nat.eq_of_beq_eq_true hl;rw[bU] at hl;have ha:=lN e0 e1 e2 hl;obtain⟨a,ea,hq⟩:=bj hq;obtain⟨m,em,hq⟩:=bj hq;obtain⟨pv,at0,size,ev,hs,hat,hq⟩:=eI hq;obtain⟨hsz,hq⟩:=ah hq;obtain⟨hroom,hq⟩:=ah hq;rw[nh] at hq;obtain⟨p,ep,hok,_,hq⟩:=gC hq;cases hm:ble m 12 with
 | false=>
  rw[hm] at hq;obtain⟨hb,hq⟩:=ah hq;obtain⟨s,hs2⟩:=gW hb m ((at0+a)%4096);have hq:=Option.some.inj hq;subst hq;obtain⟨h',ho,hk⟩:=nl 0 (Nat.le_of_ble_eq_true hsz) hs hat hok hs2 (Nat.le_of_ble_eq_true hroom);refine⟨rfl,.tuple ⟨[.string ⟨⟨s⟩⟩,.int .i64 (.ofNat 0)]⟩,rfl,λρ u q=>?_,7,h',ho,λk=>?_⟩
  ·obtain⟨l,rfl,hl⟩:=q.tuple
   match l,hl with
   | [u1,u2],⟨_,h2,_⟩=>exact .inr ⟨_,_,rfl,rfl,.inl (.inl rfl),h2,trivial⟩
  ·rw[ha,ev,ep,ea,em];exact hk k
 | true=>
 rw[hm] at hq;obtain⟨s,hs2,hq⟩:=kX hq;have hq:=Option.some.inj hq;subst hq;obtain⟨h',ho,hk⟩:=nl 0 (Nat.le_of_ble_eq_true hsz) hs hat hok hs2 (Nat.le_of_ble_eq_true hroom);refine⟨rfl,_,rfl,λ_ _ q=>q,7,h',ho,λk=>?_⟩;rw[ha,ev,ep,ea,em];exact hk k
end Go.Ev
namespace Go.Ev
open Go F Go.Proofs
def IZ:ak:=(((jo.ins 40 322 (some uy)).ins 40 30 (some pS)).ins 40 161 (some zt)).ins 40 159 (some (quick EE KK 100 159 uu))
def E1:Env:=EX IZ
theorem PP:aA IZ:=
 ar (ar (ar (ar vk (by decide) (xQ eR)) (by decide) (tI eR)) (by decide) (C7 eR)) (by decide) (dr eR eR λ_ _ _ h=>yi h)
theorem apq:eN Tryz.prog E1 bA:=fU IZ PP
def Ct:ak:=IZ.ins 40 243 (some (quick E1 KK 100 243 sR))
def E2:Env:=EX Ct
theorem PD:aA Ct:=ar PP (by decide) (dr eR apq λ_ _ _ h=>xJ h)
theorem akz:eN Tryz.prog E2 bA:=fU Ct PD
def Oo:ak:=Ct.ins 40 260 (some (quick E2 KK 100 260 zC))
def E3:Env:=EX Oo
theorem Pl:aA Oo:=ar PD (by decide) (dr eR akz λ_ _ _ h=>zF h)
theorem Ar:eN Tryz.prog E3 bA:=fU Oo Pl
def Hl:ak:=((Oo.ins 40 180 (some (quick E3 KK 100 180 tf))).ins 40 170 (some (quick E3 KK 100 170 pD))).ins 40 169 (some (quick E3 KK 100 169 pR))
def E4:Env:=EX Hl
theorem O5:aA Hl:=
 ar (ar (ar Pl (by decide) (dr eR Ar λ_ _ _ h=>yo h)) (by decide) (dr eR Ar λ_ _ _ h=>s7 h)) (by decide) (dr eR Ar λ_ _ _ h=>uI h)
theorem sx:eN Tryz.prog E4 bA:=fU Hl O5
def Bc:ak:=((((Hl.ins 40 336 (some (quick E4 KK 100 336 adX))).ins 40 335 (some (quick E4 KK 100 335 tB))).ins 40 306 (some (quick E4 KK 100 306 VY))).ins 40 278 (some (quick E4 KK 100 278 uq))).ins 40 245 (some (quick E4 KK 100 245 ut))
theorem OZ:aA Bc:=
 ar (ar (ar (ar (ar O5 (by decide) (dr eR sx λ_ _ _ h=>FJ h)) (by decide) (dr eR sx λ_ _ _ h=>yb h)) (by decide) (dr eR sx λ_ _ _ h=>F0 h)) (by decide) (dr eR sx λ_ _ _ h=>xS h)) (by decide) (dr eR sx λ_ _ _ h=>xZ h)
theorem ama:eN Tryz.prog (EX Bc) bA:=fU Bc OZ
def Bj:ak:=Bc.ins 40 280 (some (quick (EX Bc) KK 100 280 S4))
theorem PW:aA Bj:=ar OZ (by decide) (dr eR ama λ_ _ _ h=>IN h)
theorem ao6:eN Tryz.prog (EX Bj) bA:=fU Bj PW
def anE:ak:=Bj.ins 40 277 (some (quick (EX Bj) KK 100 277 oY))
theorem apx:aA anE:=ar PW (by decide) (dr eR ao6 λ_ _ _ h=>sU h)
def ajc:ak:=(anE.ins 40 72 (some kV)).ins 40 147 (some gp)
theorem n312:dC Tryz.prog 72 Extern.BytealgCount.count:=⟨AD 72,by kernel_rfl,by kernel_rfl,by kernel_rfl,by kernel_rfl,by kernel_rfl⟩
theorem n330:dC Tryz.prog 147 Extern.BytealgIndexByte.indexByte:=⟨AD 147,by kernel_rfl,by kernel_rfl,by kernel_rfl,by kernel_rfl,by kernel_rfl⟩
theorem Px:aA ajc:=ar (ar apx (by decide) (Ce n312)) (by decide) (pr n330)
def u8L (l:List Nat):List Value:=List.rec (motive:=λ_=>List Value) [] (λa _ ih=>.int .u8 (.ofNat a) :: ih) l
def Hr (l:List Nat):List Value:=List.rec (motive:=λ_=>List Value) [] (λa _ ih=>.int .u64 (.ofNat a) :: ih) l
def l32:List Nat:=[0,1,28,2,29,14,24,3,30,22,20,15,25,17,4,8,31,27,13,23,21,19,16,7,26,12,18,6,11,5,10,9]
def l64:List Nat:=[0,1,56,2,57,49,28,3,61,58,42,50,38,29,17,4,62,47,59,36,45,43,51,22,53,39,33,30,24,18,12,5,63,55,48,27,60,41,37,16,46,35,44,21,52,32,23,11,54,26,40,15,34,20,31,10,25,14,19,9,13,8,7,6]
def l20:List Nat:=[1,10,100,1000,10000,100000,1000000,10000000,100000000,1000000000,10000000000,100000000000,1000000000000,10000000000000,100000000000000,1000000000000000,10000000000000000,100000000000000000,1000000000000000000,10000000000000000000]
def glob:List AO:=[.dead,.dead,.dead,.dead,.dead,.row 394 32 false true 0 (T.ofList undef (u8L l32)),.row 395 64 false true 0 (T.ofList undef (u8L l64)),.row 423 20 false true 0 (T.ofList undef (Hr l20))]
theorem vT:PH glob=true:=by kernel_rfl
def ahw:ak:=ajc.ins 40 413 (some (aV glob))
def BO:ak:=ahw.ins 40 403 (some (aV glob))
def ZU:ak:=BO.ins 40 388 (some (aV glob))
def AZ:ak:=ZU.ins 40 373 (some (aV glob))
def V9:ak:=AZ.ins 40 352 (some (aV glob))
def z8:ak:=V9.ins 40 305 (some (aV glob))
def afj:ak:=z8.ins 40 220 (some (aV glob))
def zS:ak:=afj.ins 40 139 (some (aV glob))
def Vb:ak:=zS.ins 40 552 (some (aV glob))
def AG:ak:=Vb.ins 40 550 (some (aV glob))
def ajg:ak:=AG.ins 40 553 (some (aV glob))
def zZ:ak:=ajg.ins 40 551 (some (aV glob))
def acp:ak:=zZ.ins 40 548 (some (aV glob))
def Ba:ak:=acp.ins 40 544 (some (aV glob))
def aeD:ak:=Ba.ins 40 542 (some (aV glob))
def Cb:ak:=aeD.ins 40 540 (some (aV glob))
def aju:ak:=Cb.ins 40 539 (some (aV glob))
def ze:ak:=aju.ins 40 536 (some (aV glob))
def Ur:ak:=ze.ins 40 543 (some (aV glob))
def Ax:ak:=Ur.ins 40 541 (some (aV glob))
def acy:ak:=Ax.ins 40 538 (some (aV glob))
def Ay:ak:=acy.ins 40 535 (some (aV glob))
def ahP:ak:=Ay.ins 40 532 (some (aV glob))
def Bt:ak:=ahP.ins 40 530 (some (aV glob))
def ajx:ak:=Bt.ins 40 533 (some (aV glob))
def BB:ak:=ajx.ins 40 531 (some (aV glob))
def Qi:ak:=BB.ins 40 526 (some (aV glob))
def zj:ak:=Qi.ins 40 517 (some (aV glob))
def ack:ak:=zj.ins 40 503 (some (aV glob))
def Bz:ak:=ack.ins 40 493 (some (aV glob))
def YB:ak:=Bz.ins 40 460 (some (aV glob))
def A8:ak:=YB.ins 40 447 (some (aV glob))
def acU:ak:=A8.ins 40 486 (some (aV glob))
def BL:ak:=acU.ins 40 478 (some (aV glob))
def Tp:ak:=BL.ins 40 481 (some (aV glob))
def Aa:ak:=Tp.ins 40 471 (some (aV glob))
def ag5:ak:=Aa.ins 40 461 (some (aV glob))
def yC:ak:=ag5.ins 40 448 (some (aV glob))
def Zv:ak:=yC.ins 40 410 (some (aV glob))
def BW:ak:=Zv.ins 40 399 (some (aV glob))
def ajC:ak:=BW.ins 40 92 (some (aV glob))
def BF:ak:=ajC.ins 40 60 (some (aV glob))
def aci:ak:=BF.ins 40 462 (some (aV glob))
def yG:ak:=aci.ins 40 449 (some (aV glob))
def RP:ak:=yG.ins 40 463 (some (aV glob))
def zm:ak:=RP.ins 40 450 (some (aV glob))
def To:ak:=zm.ins 40 438 (some (aV glob))
def B6:ak:=To.ins 40 425 (some (aV glob))
def aiL:ak:=B6.ins 40 411 (some (aV glob))
def B7:ak:=aiL.ins 40 400 (some (aV glob))
def ZQ:ak:=B7.ins 40 384 (some (aV glob))
def Aw:ak:=ZQ.ins 40 361 (some (aV glob))
def Rn:ak:=Aw.ins 40 339 (some (aV glob))
def yA:ak:=Rn.ins 40 289 (some (aV glob))
def akk:ak:=yA.ins 40 209 (some (aV glob))
def y6:ak:=akk.ins 40 133 (some (aV glob))
def Rt:ak:=y6.ins 40 91 (some (aV glob))
def yK:ak:=Rt.ins 40 59 (some (aV glob))
def aja:ak:=yK.ins 40 32 (some (aV glob))
def Bv:ak:=aja.ins 40 13 (some (aV glob))
def xR:ak:=Bv.ins 40 6 (some (aV glob))
def ay (t:ak) (f:FuncId):Prop:=PG t 1000 f [] (td glob) (λv _=>some (v,td glob))=some (.bool true,td glob)
end Go.Ev
