/-
  THE LAYERS' EXAMPLES: one after another they are answered for.
-/
import Derived.Test.YtglmdggjibmjcaaGreatDoorHa
import Derived.Test.YtglmdggjibmjcaaGreatDoorIe
import Derived.Test.YtglmdggjibmjcaaGreatDoorGb
noncomputable section
set_option linter.all false
set_option maxRecDepth 100000
set_option exponentiation.threshold 3000
open Nat (ble beq)
namespace Go.Ev
open Go F Go.Proofs
def awJ (m:Nat) (a0 a1:Value) (h:H) (k:Value->H->R):ar EE KK (m+1) 507 [a0,a1] h k=ak0 EE (ar EE KK m) a0 a1 h k:=by show (bR (EX lG) KK 507).run _ _ _ _=_;rw[bY (by kernel_rfl)];exact J3 lG _ a0 a1 h k
def axc (m:Nat) (a0 a1:Value) (h:H) (k:Value->H->R):ar EE KK (m+1) 506 [a0,a1] h k=Xp EE (ar EE KK m) a0 a1 h k:=by show (bR (EX lG) KK 506).run _ _ _ _=_;rw[bY (by kernel_rfl)];exact LF lG _ a0 a1 h k
def awt (m:Nat) (a0 a1:Value) (h:H) (k:Value->H->R):ar EE KK (m+1) 508 [a0,a1] h k=Vp EE (ar EE KK m) a0 a1 h k:=by show (bR (EX lG) KK 508).run _ _ _ _=_;rw[bY (by kernel_rfl)];exact T0 lG _ a0 a1 h k
def avW (m:Nat) (a0 a1 a2:Value) (h:H) (k:Value->H->R):ar EE KK (m+1) 473 [a0,a1,a2] h k=adz EE (ar EE KK m) a0 a1 a2 h k:=by show (bR (EX lG) KK 473).run _ _ _ _=_;rw[bY (by kernel_rfl)];exact TP lG _ a0 a1 a2 h k
def awB (m:Nat) (a0:Value) (h:H) (k:Value->H->R):ar EE KK (m+1) 369 [a0] h k=aiL EE (ar EE KK m) a0 h k:=by show (bR (EX lG) KK 369).run _ _ _ _=_;rw[bY (by kernel_rfl)];exact Td lG _ a0 h k
def avX (m:Nat) (a0:Value) (h:H) (k:Value->H->R):ar EE KK (m+1) 471 [a0] h k=Zl EE (ar EE KK m) a0 h k:=by show (bR (EX lG) KK 471).run _ _ _ _=_;rw[bY (by kernel_rfl)];exact LH lG _ a0 h k
def arL:EE.und 320=some (.slice 3):=by kernel_rfl
def auN:EE.size 3=some 1:=by kernel_rfl
def dE (A:Addr) (n c:Nat):List Value:=[.slice (some A) n c]
def Hv (A:Addr) (n c:Nat):allF (λv=>cell1F v) (dE A n c)=true:=rfl
def GJ (A:Addr) (n c:Nat):lenF (dE A n c)=1:=rfl
def IK {E:Env} {ty m n:Nat} {cx cy:Bool} {k:Value->R} (hE:E.und ty=some (.int .i64)) (h:n<=m):binR (binC E .geq ty cx cy) (.int .i64 (.ofNat m)) (.int .i64 (.ofNat n)) k=k (.bool true):=by rw[iw hE,aM h]
set_option maxHeartbeats 1000000 in
def uu (m:Nat) {h:H} {A:Addr} {n c i:Nat} (hi:i<n) (hn:h.next<=1000000000) (k:Value->H->R):
  ar EE KK (m+1) 507 [.agg ⟨dE A n c⟩,.int .i64 (.ofNat i)] h k=k (.bool true) (ag h (.row 430 1 false false 0 (T.ofList unk (dE A n c)))):=by
 have hrow:∀k,onRow (hget (ag h (.row 430 1 false false 0 (T.ofList unk (dE A n c)))) h.next) k=k 430 1 false false 0 (T.ofList unk (dE A n c)):=λk=>by rw[az _ _ hn];rfl
 have e0:∀s k,onSl (getF (T.ofList unk (dE A n c)) 0) s k=k A n c:=λs k=>by rw[aI];rfl
 rw[awJ];unfold ak0;simp (disch:=first | omega | (simp only[JD,Ju,Je];omega)) only[↓bP,↓Hv,↓eI,↓GJ,↓aj,↓aD,↓IK dN,↓aE,↓cu,↓aA,↓au,↓hrow,↓e0,↓gt dN]
def HQ:Value->Nat
 |.int .i64 (.ofNat w)=>w
 | _=>0
def mY (c:T Value):Nat->Nat->Nat->Nat
 | 0,_,x=>x
 | d+1,o,x=>mY c d (o+1) (x+HQ (getF c o))
def rz (c:T Value) (o n:Nat):Prop:=∀j,j<n->∃w,getF c (o+j)=.int .i64 (.ofNat w)/\w<=1000000
def mH (v77:Value) (n107:Nat) (k111:aa [5]->H->R):(aa [5,13]->H->R)->aa [5,13]->H->R:=
 (λk112=>(λe113=>(λh114=>(binR (binC EE Go.BinOp.lss 3 (bi (Go.Operand.tmp 13)) (bi (Go.Operand.tmp 12))) e113.2.1 (Value.int Go.IntKind.i64 (Int.ofNat n107)) (λv115=>(@joinR [] (λe116=>(λh117=>(@joinR (5 :: []) (λe118=>(λh119=>(binR (binC EE Go.BinOp.add 3 (bi (Go.Operand.tmp 13)) (bi (Go.Operand.const (Value.int Go.IntKind.i64 1)))) e113.2.1 (Value.int Go.IntKind.i64 (Int.ofNat 1)) (λv120=>(k112 (e118.1,(v120,())) h119))))) (λk121=>(onNat e113.2.1 none (λn122=>(onSl v77 none (λa123=>(λn124=>(λn125=>(ifB (ble (Nat.succ n122) n124) (addOffF a123 (Nat.mul n122 1) (λv126=>(onPtr v126 (λa127=>(onRow (hget h117 a127.1) (λx128=>(λn129=>(λx130=>(λx131=>(λn132=>(λt133=>(ifB (ble (Nat.succ a127.2) n129) (binR (binC EE Go.BinOp.add 3 (bi (Go.Operand.tmp 17)) (bi (Go.Operand.tmp 18))) e113.1 (@getF Go.Value t133 a127.2) (λv134=>(k121 (v134,()) h117)))))))))))))))))))))))))) (λk135=>(onB v115 (k111 (e113.1,()) h114) (k135 () h114)))))))))
def Ul (E:Env) (rc:RC) (a0 a1:Value) (h:H) (k:Value->H->R):R:=
 (onCells a0 (λl68=>(ifB (allF (λv69=>(cell1F v69)) l68) (ifB (ble h.1 1000000000) (letH (ag h (AO.row 430 (lenF l68) Bool.false Bool.false 0 (@T.ofList Go.Value unk l68))) (λh70=>(onRow (hget h70 h.1) (λx71=>(λn72=>(λx73=>(λx74=>(λn75=>(λt76=>(ifB (ble (Nat.succ 0) n72) (bindO (dm E 320 (@getF Go.Value t76 0) none (some a1) none) (λv77=>(onSl v77 (bindO (aX E h70 320 v77) (λv78=>(@joinR (5 :: []) (λe79=>(λh80=>(k e79.1 h80))) (λk81=>(@loopF (5 :: (13 :: [])) (λk82=>(λe83=>(λh84=>(binR (binC E Go.BinOp.lss 3 (bi (Go.Operand.tmp 13)) (bi (Go.Operand.tmp 12))) e83.2.1 v78 (λv85=>(@joinR [] (λe86=>(λh87=>(@joinR (5 :: []) (λe88=>(λh89=>(binR (binC E Go.BinOp.add 3 (bi (Go.Operand.tmp 13)) (bi (Go.Operand.const (Value.int Go.IntKind.i64 1)))) e83.2.1 (Value.int Go.IntKind.i64 (Int.ofNat 1)) (λv90=>(k82 (e88.1,(v90,())) h89))))) (λk91=>(onNat e83.2.1 none (λn92=>(onSl v77 none (λa93=>(λn94=>(λn95=>(ifB (ble (Nat.succ n92) n94) (addOffF a93 (Nat.mul n92 1) (λv96=>(onPtr v96 (λa97=>(onRow (hget h87 a97.1) (λx98=>(λn99=>(λx100=>(λx101=>(λn102=>(λt103=>(ifB (ble (Nat.succ a97.2) n99) (binR (binC E Go.BinOp.add 3 (bi (Go.Operand.tmp 17)) (bi (Go.Operand.tmp 18))) e83.1 (@getF Go.Value t103 a97.2) (λv104=>(k91 (v104,()) h87)))))))))))))))))))))))))) (λk105=>(onB v85 (k81 (e83.1,()) h84) (k105 () h84))))))))) cM ((Value.int Go.IntKind.i64 (Int.ofNat 0)),((Value.int Go.IntKind.i64 (Int.ofNat 0)),())) h70))))) (λa106=>(λn107=>(λn108=>(@joinR (5 :: []) (λe109=>(λh110=>(k e109.1 h110))) (λk111=>(@loopF (5 :: (13 :: [])) (mH v77 n107 k111) cM ((Value.int Go.IntKind.i64 (Int.ofNat 0)),((Value.int Go.IntKind.i64 (Int.ofNat 0)),())) h70)))))))))))))))))))))))
def GB (rc:RC) (a0 a1:Value) (h:H) (k:Value->H->R):Xp EE rc a0 a1 h k=Ul EE rc a0 a1 h k:=by kernel_rfl
def Mq {b o n cc:Nat} {e mm fz:Nat} {op ro:Bool} {cw:T Value} (k111:aa [5]->H->R) (hs:rz cw o n) (hm:o+n<=mm) (hn:n<=1000000):∀(d i N x:Nat) (h:H),i+d=n->d<N->x<=i*1000000->hget h b=.row e mm op ro fz cw ->
  loopF (ks:=[5,13]) (mH (.slice (some ⟨b,o,none⟩) n cc) n k111) N (.int .i64 (.ofNat x),(.int .i64 (.ofNat i),())) h=k111 (.int .i64 (.ofNat (mY cw d (o+i) x)),()) h:=by
 intro d
 induction d with
 | zero=> intro i N x h hi hN hx hq;obtain⟨N,rfl⟩:∃M,N=M+1:=⟨N-1,by omega⟩;rw[aT];unfold mH;simp (disch:=omega) only[↓fj dN,↓ah,↓ax];rfl
 | succ d ih=>
  intro i N x h hi hN hx hq;obtain⟨N,rfl⟩:∃M,N=M+1:=⟨N-1,by omega⟩;obtain⟨w,hw,hw2⟩:=hs i (by omega);have hqr:∀k,onRow (hget h b) k=k e mm op ro fz cw:=λk=>by rw[hq];rfl
  have hmul:(i+1)*1000000=i*1000000+1000000:=by omega
  have key:=ih (i+1) N (x+w) h (by omega) (by omega) (by omega) hq;rw[aT];generalize loopF (ks:=[5,13]) (mH (.slice (some ⟨b,o,none⟩) n cc) n k111) N=L at key ⊢;unfold mH;simp (disch:=first | omega | (simp only[JD,Ju,Je];omega)) only[↓gt dN,↓ah,↓aA,↓bC,↓bp,↓aj,↓bw,↓au,↓hqr];rw[show i.mul 1=i from Nat.mul_one i,hw];simp (disch:=first | omega | (simp only[JD,Ju,Je];omega)) only[↓dr dN];rw[key];show _=k111 (.int .i64 (.ofNat (mY cw d (o+i+1) (x+HQ (getF cw (o+i))))),()) h;rw[hw];rfl
def DT {E:Env} {t e l c b o m:Nat} {kd:IntKind} (hE:E.und t=some (.slice e)) (hs:E.size e=some 1) (h1:m<=c / 2):
  dm E t (.slice (some ⟨b,o,none⟩) l c) none (some (.int kd (.ofNat m))) none=some (.slice (some ⟨b,o,none⟩) m c):=by
 have e1:2*(c / 2)+c%2=c:=by omega
 have h2:ble m (c / 2)=true:=aM h1;simp only[dm,gar,Option.isSome_none,JP,hE,hs,bound,h2,Jo,Option.isNone_none,Option.isSome_some,Bool.or_true,Bool.and_true,gO];cases hc:beq (c / 2) 0 <;> simp[hc,e1]
def pX (A:Addr) (n c:Nat):ae (T.ofList unk (dE A n c)) 1 0=dE A n c:=by show [getF _ 0]=_;rw[aI];rfl
set_option maxHeartbeats 1000000 in
def ou (m:Nat) {h:H} {b o n c i:Nat} {e mm fz:Nat} {op ro:Bool} {cw:T Value} (hi:i<=c / 2) (hs:rz cw o i) (hm:o+i<=mm) (hi2:i<=900000) (hb:b<h.next) (hq:hget h b=.row e mm op ro fz cw) (hn:h.next<=1000000000) (k:Value->H->R):
  ar EE KK (m+1) 506 [.agg ⟨dE ⟨b,o,none⟩ n c⟩,.int .i64 (.ofNat i)] h k=k (.int .i64 (.ofNat (mY cw i o 0))) (ag h (.row 430 1 false false 0 (T.ofList unk (dE ⟨b,o,none⟩ n c)))):=by
 have hrow:∀k,onRow (hget (ag h (.row 430 1 false false 0 (T.ofList unk (dE ⟨b,o,none⟩ n c)))) h.next) k=k 430 1 false false 0 (T.ofList unk (dE ⟨b,o,none⟩ n c)):=λk=>by rw[az _ _ hn];rfl
 have e0:getF (T.ofList unk (dE ⟨b,o,none⟩ n c)) 0=.slice (some ⟨b,o,none⟩) n c:=by rw[aI];rfl
 rw[axc,GB];unfold Ul;simp (disch:=first | omega | (simp only[JD,Ju,Je];omega)) only[↓bP,↓Hv,↓eI,↓GJ,↓aj,↓aD,↓hrow];rw[e0,DT arL auN hi];simp (disch:=first | omega | (simp only[JD,Ju,Je];omega)) only[↓aK,↓bp,↓ah];have:=Mq (cc:=c) (b:=b) (o:=o) (n:=i) (λe109 h110=>k e109.1 h110) hs hm (by omega) i 0 cM 0 (ag h (.row 430 1 false false 0 (T.ofList unk (dE ⟨b,o,none⟩ n c)))) (by omega) (by unfold cM;omega) (by omega) (by rw[bN _ _ hn hb,hq]);rw[Kp] at this;exact this
set_option maxHeartbeats 1000000 in
def Et (m:Nat) {h:H} {b o n c:Nat} {e mm fz:Nat} {op ro:Bool} {cw:T Value} (hi:n<=c / 2) (hs:rz cw o n) (hm:o+n<=mm) (hi2:n<=900000) (hb:b<h.next) (hq:hget h b=.row e mm op ro fz cw) (hn:h.next+10<=1000000000) (k:Value->H->R):
  ar EE KK (m+2) 471 [.agg ⟨dE ⟨b,o,none⟩ n c⟩] h k=k (.int .i64 (.ofNat (mY cw n o 0))) (ag (ag h (.row 430 1 false false 0 (T.ofList unk (dE ⟨b,o,none⟩ n c)))) (.row 430 1 false false 0 (T.ofList unk (dE ⟨b,o,none⟩ n c)))):=by
 have hrow:∀k,onRow (hget (ag h (.row 430 1 false false 0 (T.ofList unk (dE ⟨b,o,none⟩ n c)))) h.next) k=k 430 1 false false 0 (T.ofList unk (dE ⟨b,o,none⟩ n c)):=λk=>by rw[az _ _ (by omega)];rfl
 have e0:∀s k,onSl (getF (T.ofList unk (dE ⟨b,o,none⟩ n c)) 0) s k=k ⟨b,o,none⟩ n c:=λs k=>by rw[aI];rfl
 rw[avX];unfold Zl;simp (disch:=first | omega | (simp only[JD,Ju,Je];omega)) only[↓bP,↓Hv,↓eI,↓GJ,↓aj,↓aD,↓hrow,↓e0];rw[pX,ou m hi hs hm hi2 (by rw[cS];omega) (by rw[bN _ _ (by omega) hb,hq]) (by rw[cS];omega)]
set_option maxHeartbeats 1000000 in
def Ao (m:Nat) {h:H} {b o n c i:Nat} {e mm fz:Nat} {op ro:Bool} {cw:T Value} (hin:i<n) (hi:i<=c / 2) (hs:rz cw o i) (hm:o+i<=mm) (hi2:i<=900000) (hb:b<h.next) (hq:hget h b=.row e mm op ro fz cw) (hn:h.next+10<=1000000000):
  ∃h',fP h h'/\h'.next<=h.next+3/\∀k:Value->H->R,ar EE KK (m+2) 508 [.agg ⟨dE ⟨b,o,none⟩ n c⟩,.int .i64 (.ofNat i)] h k=k (.int .i64 (.ofNat (mY cw i o 0))) h':=by
 have o1:fP h (ag h (.row 430 1 false false 0 (T.ofList unk (dE ⟨b,o,none⟩ n c)))):=(fP.refl h).push _ (by omega);generalize hh1:ag h (.row 430 1 false false 0 (T.ofList unk (dE ⟨b,o,none⟩ n c)))=g1 at o1;have n1:g1.next=h.next+1:=by rw[<-hh1];rfl
 have o2:fP g1 (ag g1 (.row 430 1 false false 0 (T.ofList unk (dE ⟨b,o,none⟩ n c)))):=(fP.refl g1).push _ (by omega);generalize hh2:ag g1 (.row 430 1 false false 0 (T.ofList unk (dE ⟨b,o,none⟩ n c)))=g2 at o2;have n2:g2.next=h.next+2:=by rw[<-hh2,cS,n1]
 have o3:fP g2 (ag g2 (.row 430 1 false false 0 (T.ofList unk (dE ⟨b,o,none⟩ n c)))):=(fP.refl g2).push _ (by omega);generalize hh3:ag g2 (.row 430 1 false false 0 (T.ofList unk (dE ⟨b,o,none⟩ n c)))=g3 at o3;have n3:g3.next=h.next+3:=by rw[<-hh3,cS,n2]
 have r1:hget g1 h.next=.row 430 1 false false 0 (T.ofList unk (dE ⟨b,o,none⟩ n c)):=by rw[<-hh1,az _ _ (by omega)]
 have k1:∀k,onRow (hget g1 h.next) k=k 430 1 false false 0 (T.ofList unk (dE ⟨b,o,none⟩ n c)):=λk=>by rw[r1];rfl
 have k2:∀k,onRow (hget g2 h.next) k=k 430 1 false false 0 (T.ofList unk (dE ⟨b,o,none⟩ n c)):=λk=>by rw[o2.2 _ (by omega),r1];rfl
 have w1:∀k,ar EE KK (m+1) 507 [.agg ⟨dE ⟨b,o,none⟩ n c⟩,.int .i64 (.ofNat i)] g1 k=k (.bool true) g2:=λk=>by rw[uu m hin (by omega),hh2]
 have w2:∀k,ar EE KK (m+1) 506 [.agg ⟨dE ⟨b,o,none⟩ n c⟩,.int .i64 (.ofNat i)] g2 k=k (.int .i64 (.ofNat (mY cw i o 0))) g3:=λk=>by rw[ou m hi hs hm hi2 (by omega) (by rw[o2.2 _ (by omega),o1.2 _ hb,hq]) (by omega),hh3]
 refine⟨g3,o1.trans (o2.trans o3),by omega,λk=>?_⟩;rw[awt];unfold Vp;simp (disch:=first | omega | (simp only[JD,Ju,Je];omega)) only[↓bP,↓Hv,↓eI,↓GJ,↓aj,↓aD];rw[hh1];simp (disch:=first | omega | (simp only[JD,Ju,Je];omega)) only[↓k1,↓aj];rw[pX];simp (disch:=first | omega | (simp only[JD,Ju,Je];omega)) only[↓w1,↓aA,↓ah,↓k2,↓aj];rw[pX];simp only[↓w2]
set_option maxHeartbeats 1000000 in
def Dp (m:Nat) {h:H} {A:Addr} {at0 size:Nat} (hn:h.next<=1000000000) (k:Value->H->R):
  ar EE KK (m+1) 369 [.agg ⟨bE A at0 size⟩] h k=k (.int .i64 (.ofNat size)) (ag h (.row 171 3 false false 0 (T.ofList unk (bE A at0 size)))):=by
 have hrow:∀k,onRow (hget (ag h (.row 171 3 false false 0 (T.ofList unk (bE A at0 size)))) h.next) k=k 171 3 false false 0 (T.ofList unk (bE A at0 size)):=λk=>by rw[az _ _ hn];rfl
 have e2:getF (T.ofList unk (bE A at0 size)) 2=.int .i64 (.ofNat size):=by rw[aI];rfl
 rw[awB];unfold aiL;simp (disch:=first | omega | (simp only[JD,Ju,Je];omega)) only[↓bP,↓Dk,↓eI,↓C5,↓aj,↓aD,↓hrow];rw[show Nat.add 0 2=2 from rfl,e2]
def U9 (v:Value) (k:List Value->R):R:=CV.rec (motive:=λ_=>R) none none k (asC v)
def yG {v:Value} {k:List Value->R} {r} (h:U9 v k=some r):∃l,v=.agg ⟨l⟩/\k l=some r:=by
 cases v with
 | agg a=>exact⟨a.1,rfl,h⟩
 | _=>exact nomatch h
def sc (v:Value) (k:Nat->Nat->Nat->Nat->R):R:=
 U9 v λl=>ifB (beq (lenF l) 1) (nthF 0 l λs=>onSl s none λad n c=>mE ad λb o=>k b o n c)
def j2 {v:Value} {k:Nat->Nat->Nat->Nat->R} {r} (h:sc v k=some r):∃b o n c,v=.agg ⟨dE ⟨b,o,none⟩ n c⟩/\k b o n c=some r:=by
 unfold sc at h;obtain⟨l,ev,h⟩:=yG h;obtain⟨hl,h⟩:=ai h;obtain⟨s,e0,h⟩:=aQ h;obtain⟨ad,n,c,es,h⟩:=fN h;obtain⟨b,o,ed,h⟩:=dS h;have hl:=I8 hl;rw[dh] at hl;refine⟨b,o,n,c,?_,h⟩
 match l,hl with
 | [a],_=> simp at e0;rw[ev,e0,es,ed];rfl
def HU (c:T Value) (d:Nat):Nat->Nat->(Nat->R)->R:=
 Nat.rec (motive:=λ_=>Nat->Nat->(Nat->R)->R) (λ_ x k=>VN x k) (λ_ ih o x k=>ft (getF c o) λw=>ifB (ble w 1000000) (ih (Nat.succ o) (Nat.add x w) k)) d
def lu {c:T Value}:∀{d o x:Nat} {k:Nat->R} {r},HU c d o x k=some r->rz c o d/\k (mY c d o x)=some r
 | 0,o,x,k,r,h=>by have h:VN x k=some r:=h;rw[qh] at h;exact⟨λj hj=>absurd hj (Jy j),h⟩
 | d+1,o,x,k,r,h=>by
  have h:(ft (getF c o) λw=>ifB (ble w 1000000) (HU c d (Nat.succ o) (Nat.add x w) k))=some r:=h;obtain⟨w,e,h⟩:=bW h;obtain⟨hb,h⟩:=ai h;obtain⟨hs,hk⟩:=lu h;refine⟨λj hj=>?_,?_⟩
  ·cases j with
   | zero=>exact⟨w,e,I7 hb⟩
   | succ j=> obtain⟨w2,e2,h2⟩:=hs j (by omega);exact⟨w2,by rw[<-e2];congr 1;omega,h2⟩
  ·show k (mY c d (o+1) (x+HQ (getF c o)))=some r;rw[e];exact hk
def Vz (args:List Value) (h:H):R:=
 nthF 0 args λv=>nthF 1 args λvi=>ifB (beq (lenF args) 2) (ft vi λi=>sc v λb o n c=>ifB (ble (Nat.succ i) n) (ifB (ble h.1 1000000000) (some (.bool true,h))))
def PD {args:List Value} {h:H} {r:Value × H} (hq:Vz args h=some r):jB 507 args h r:=by unfold Vz at hq;obtain⟨v,e0,hq⟩:=aQ hq;obtain⟨vi,e1,hq⟩:=aQ hq;obtain⟨hl,hq⟩:=ai hq;have hl:=I8 hl;rw[dh] at hl;have ha:=sK e0 e1 hl;obtain⟨i,ei,hq⟩:=bW hq;obtain⟨b,o,n,c,ev,hq⟩:=j2 hq;obtain⟨q1,hq⟩:=ai hq;obtain⟨q2,hq⟩:=ai hq;have hq:=JJ hq;subst hq;have q2:=I7 q2;refine⟨rfl,_,rfl,λ_ _ q=>q,1,_,(fP.refl h).push (.row 430 1 false false 0 (T.ofList unk (dE ⟨b,o,none⟩ n c))) q2,λk=>?_⟩;rw[ha,ev,ei];exact uu 0 (I7 q1) q2 k
def tN (v vi:Value) (h:H) (k:Nat->Nat->Nat->R):R:=
 ft vi λi=>sc v λb o n c=>ifB (ble i (Nat.div c 2)) (ifB (ble i 900000) (ifB (ble (Nat.succ b) h.1) (ifB (ble (Nat.add h.1 10) 1000000000) (onRow (hget h b) λ_ mm _ _ _ cw=>ifB (ble (Nat.add o i) mm) (HU cw i o 0 λx=>k i n x)))))
def oS {v vi:Value} {h:H} {k:Nat->Nat->Nat->R} {r} (hq:tN v vi h k=some r):
  ∃b o n c i e mm op ro fz cw,v=.agg ⟨dE ⟨b,o,none⟩ n c⟩/\vi=.int .i64 (.ofNat i)/\i<=c / 2/\i<=900000/\b<h.next/\h.next+10<=1000000000/\hget h b=.row e mm op ro fz cw/\o+i<=mm/\rz cw o i/\k i n (mY cw i o 0)=some r:=by
 unfold tN at hq;obtain⟨i,ei,hq⟩:=bW hq;obtain⟨b,o,n,c,ev,hq⟩:=j2 hq;obtain⟨q1,hq⟩:=ai hq;obtain⟨q2,hq⟩:=ai hq;obtain⟨q3,hq⟩:=ai hq;obtain⟨q4,hq⟩:=ai hq;obtain⟨e,mm,op,ro,fz,cw,hr,hq⟩:=cJ hq;obtain⟨q5,hq⟩:=ai hq;obtain⟨hs,hq⟩:=lu hq;exact⟨b,o,n,c,i,e,mm,op,ro,fz,cw,ev,ei,I7 q1,I7 q2,I7 q3,I7 q4,hr,I7 q5,hs,hq⟩
def yO (args:List Value) (h:H):R:=
 nthF 0 args λv=>nthF 1 args λvi=>ifB (beq (lenF args) 2) (tN v vi h λ_ _ x=>some (.int .i64 (.ofNat x),h))
def Eh {args:List Value} {h:H} {r:Value × H} (hq:yO args h=some r):jB 506 args h r:=by unfold yO at hq;obtain⟨v,e0,hq⟩:=aQ hq;obtain⟨vi,e1,hq⟩:=aQ hq;obtain⟨hl,hq⟩:=ai hq;have hl:=I8 hl;rw[dh] at hl;have ha:=sK e0 e1 hl;obtain⟨b,o,n,c,i,e,mm,op,ro,fz,cw,ev,ei,q1,q2,q3,q4,hr,q5,hs,hq⟩:=oS hq;have hq:=JJ hq;subst hq;refine⟨rfl,_,rfl,λ_ _ q=>q,1,_,(fP.refl h).push (.row 430 1 false false 0 (T.ofList unk (dE ⟨b,o,none⟩ n c))) (by omega),λk=>?_⟩;rw[ha,ev,ei];exact ou 0 q1 hs q5 q2 q3 hr (by omega) k
def Zj (args:List Value) (h:H):R:=
 nthF 0 args λv=>nthF 1 args λvi=>ifB (beq (lenF args) 2) (tN v vi h λi n x=>ifB (ble (Nat.succ i) n) (some (.int .i64 (.ofNat x),h)))
def Ox {args:List Value} {h:H} {r:Value × H} (hq:Zj args h=some r):jB 508 args h r:=by unfold Zj at hq;obtain⟨v,e0,hq⟩:=aQ hq;obtain⟨vi,e1,hq⟩:=aQ hq;obtain⟨hl,hq⟩:=ai hq;have hl:=I8 hl;rw[dh] at hl;have ha:=sK e0 e1 hl;obtain⟨b,o,n,c,i,e,mm,op,ro,fz,cw,ev,ei,q1,q2,q3,q4,hr,q5,hs,hq⟩:=oS hq;obtain⟨q6,hq⟩:=ai hq;have hq:=JJ hq;subst hq;obtain⟨h',ho,_,hk⟩:=Ao 0 (I7 q6) q1 hs q5 q2 q3 hr q4;refine⟨rfl,_,rfl,λ_ _ q=>q,2,h',ho,λk=>?_⟩;rw[ha,ev,ei];exact hk k
def yK (args:List Value) (h:H):R:=
 nthF 0 args λv=>ifB (beq (lenF args) 1) (sc v λb o n c=>ifB (ble n (Nat.div c 2)) (ifB (ble n 900000) (ifB (ble (Nat.succ b) h.1) (ifB (ble (Nat.add h.1 10) 1000000000) (onRow (hget h b) λ_ mm _ _ _ cw=>ifB (ble (Nat.add o n) mm) (HU cw n o 0 λx=>some (.int .i64 (.ofNat x),h)))))))
def Ud {args:List Value} {v0:Value} (h0:args[0]?=some v0) (hl:args.length=1):args=[v0]:=by
 match args,hl with
 | [a],_=>simp at h0;rw[h0]
def DW {args:List Value} {h:H} {r:Value × H} (hq:yK args h=some r):jB 471 args h r:=by unfold yK at hq;obtain⟨v,e0,hq⟩:=aQ hq;obtain⟨hl,hq⟩:=ai hq;have hl:=I8 hl;rw[dh] at hl;have ha:=Ud e0 hl;obtain⟨b,o,n,c,ev,hq⟩:=j2 hq;obtain⟨q1,hq⟩:=ai hq;obtain⟨q2,hq⟩:=ai hq;obtain⟨q3,hq⟩:=ai hq;obtain⟨q4,hq⟩:=ai hq;obtain⟨e,mm,op,ro,fz,cw,hr,hq⟩:=cJ hq;obtain⟨q5,hq⟩:=ai hq;obtain⟨hs,hq⟩:=lu hq;have hq:=JJ hq;subst hq;have q4:h.next+10<=1000000000:=I7 q4;refine⟨rfl,_,rfl,λ_ _ q=>q,2,_,((fP.refl h).push (.row 430 1 false false 0 (T.ofList unk (dE ⟨b,o,none⟩ n c))) (by omega)).push (.row 430 1 false false 0 (T.ofList unk (dE ⟨b,o,none⟩ n c))) (by rw[cS];omega),λk=>?_⟩;rw[ha,ev];exact Et 0 (I7 q1) hs (I7 q5) (I7 q2) (I7 q3) hr q4 k
def zP (args:List Value) (h:H):R:=
 nthF 0 args λv=>ifB (beq (lenF args) 1) (kS v λp at0 size=>onPtr p λ_=>ifB (ble h.1 1000000000) (some (.int .i64 (.ofNat size),h)))
def Dc {args:List Value} {h:H} {r:Value × H} (hq:zP args h=some r):jB 369 args h r:=by unfold zP at hq;obtain⟨v,e0,hq⟩:=aQ hq;obtain⟨hl,hq⟩:=ai hq;have hl:=I8 hl;rw[dh] at hl;have ha:=Ud e0 hl;obtain⟨pv,at0,size,ev,hs,hat,hq⟩:=fR hq;obtain⟨A,eA,hq⟩:=cO hq;obtain⟨q,hq⟩:=ai hq;have hq:=JJ hq;subst hq;refine⟨rfl,_,rfl,λ_ _ q=>q,1,_,(fP.refl h).push (.row 171 3 false false 0 (T.ofList unk (bE A at0 size))) (I7 q),λk=>?_⟩;rw[ha,ev,eA];exact Dp 0 (I7 q) k
def zu (A:Addr) (a s:Nat):am (.agg ⟨bE A a s⟩) (.agg ⟨bE A a s⟩)=true:=by simp[bE,am,iT,qv,gu]
def Es (A:Addr):am (.pointer (some A)) (.pointer (some A))=true:=by simp[am,iT,gu]
def Fq (A:Addr) (n c:Nat):am (.slice (some A) n c) (.slice (some A) n c)=true:=by simp[am,iT,gu]
def Em (k:IntKind) (n:Int):am (.int k n) (.int k n)=true:=by simp[am,iT,gu]
def ajc (A:Addr) (a s:Nat) (k:R):ifB (am (.agg ⟨bE A a s⟩) (.agg ⟨bE A a s⟩)) k=k:=gY (zu A a s) k
def H7 (A:Addr) (k:R):ifB (am (.pointer (some A)) (.pointer (some A))) k=k:=gY (Es A) k
def aiv (A:Addr) (n c:Nat) (k:R):ifB (am (.slice (some A) n c) (.slice (some A) n c)) k=k:=gY (Fq A n c) k
def Gx (kd:IntKind) (n:Int) (k:R):ifB (am (.int kd n) (.int kd n)) k=k:=gY (Em kd n) k
def cells3 (A:Addr) (a s:Nat):ae (T.ofList unk (bE A a s)) 3 0=bE A a s:=by show [getF _ 0,getF _ 1,getF _ 2]=_;rw[aI,aI,aI];rfl
set_option maxHeartbeats 4000000 in
def Mh (m:Nat) {h:H} {p:I4} {b o n c i at0 size w:Nat} {s:List UInt8} {e mm fz:Nat} {op ro:Bool} {cw:T Value} (hin:i<n) (hi:i<=c / 2) (hs:rz cw o i) (hw:getF cw (o+i)=.int .i64 (.ofNat w)) (hm:o+i<mm) (hi2:i<=900000) (hb:b<h.next) (hq:hget h b=.row e mm op ro fz cw)
  (h1:mY cw i o 0+w<=size) (hsz:size<=4611686018427387904) (hat:at0<=4611686018427387904) (x:qS h p (at0+mY cw i o 0) w) (hby:cT (ae p.cq w ((at0+mY cw i o 0)%4096))=some s) (hwm:w=1 \/ w=2 \/ w=4 \/ w=8) (hn:h.next+60<=1000000000):
  ∃h',fP h h'/\∀k:Value->H->R,ar EE KK (m+9) 473 [.agg ⟨dE ⟨b,o,none⟩ n c⟩,.agg ⟨bE ⟨p.b,0,none⟩ at0 size⟩,.int .i64 (.ofNat i)] h k=k (.tuple ⟨[.int .u64 (.ofNat (ldv s 0 0)),.int .i64 (.ofNat 0)]⟩) h':=by
 have o1:fP h (ag h (.row 430 1 false false 0 (T.ofList unk (dE ⟨b,o,none⟩ n c)))):=(fP.refl h).push _ (by omega);generalize hh1:ag h (.row 430 1 false false 0 (T.ofList unk (dE ⟨b,o,none⟩ n c)))=g1 at o1;have n1:g1.next=h.next+1:=by rw[<-hh1];rfl
 have o2:fP g1 (ag g1 (.row 171 3 false false 0 (T.ofList unk (bE ⟨p.b,0,none⟩ at0 size)))):=(fP.refl g1).push _ (by omega);generalize hh2:ag g1 (.row 171 3 false false 0 (T.ofList unk (bE ⟨p.b,0,none⟩ at0 size)))=g2 at o2;have n2:g2.next=h.next+2:=by rw[<-hh2,cS,n1]
 have o3:fP g2 (ag g2 (.row 430 1 false false 0 (T.ofList unk (dE ⟨b,o,none⟩ n c)))):=(fP.refl g2).push _ (by omega);generalize hh3:ag g2 (.row 430 1 false false 0 (T.ofList unk (dE ⟨b,o,none⟩ n c)))=g3 at o3;have n3:g3.next=h.next+3:=by rw[<-hh3,cS,n2]
 have o13:fP h g3:=o1.trans (o2.trans o3);obtain⟨g4,o4,n4,hfat⟩:=Ao (m+6) (h:=g3) hin hi hs (Nat.le_of_lt hm) hi2 (Jp hb o13.1) (by rw[o13.2 _ hb,hq]) (by omega);obtain⟨g5,o5,hld⟩:=sN m (h:=g4) h1 hsz hat ((x.old o13).old o4) hby hwm (by omega);have r1:hget g1 h.next=.row 430 1 false false 0 (T.ofList unk (dE ⟨b,o,none⟩ n c)):=by rw[<-hh1,az _ _ (by omega)]
 have r2:hget g2 h.next=.row 430 1 false false 0 (T.ofList unk (dE ⟨b,o,none⟩ n c)):=by rw[o2.2 _ (by omega),r1]
 have r3:hget g3 h.next=.row 430 1 false false 0 (T.ofList unk (dE ⟨b,o,none⟩ n c)):=by rw[o3.2 _ (by omega),r2]
 have r4:hget g4 h.next=.row 430 1 false false 0 (T.ofList unk (dE ⟨b,o,none⟩ n c)):=by rw[o4.2 _ (by omega),r3]
 have v2:hget g2 g1.next=.row 171 3 false false 0 (T.ofList unk (bE ⟨p.b,0,none⟩ at0 size)):=by rw[<-hh2,az _ _ (by omega)]
 have v3:hget g3 g1.next=.row 171 3 false false 0 (T.ofList unk (bE ⟨p.b,0,none⟩ at0 size)):=by rw[o3.2 _ (by omega),v2]
 have v4:hget g4 g1.next=.row 171 3 false false 0 (T.ofList unk (bE ⟨p.b,0,none⟩ at0 size)):=by rw[o4.2 _ (by omega),v3]
 have b3:hget g3 b=.row e mm op ro fz cw:=by rw[o13.2 _ hb,hq]
 have b4:hget g4 b=.row e mm op ro fz cw:=by rw[o4.2 _ (by omega),b3]
 have k2:∀k,onRow (hget g2 h.next) k=k 430 1 false false 0 (T.ofList unk (dE ⟨b,o,none⟩ n c)):=λk=>by rw[r2];rfl
 have k3:∀k,onRow (hget g3 h.next) k=k 430 1 false false 0 (T.ofList unk (dE ⟨b,o,none⟩ n c)):=λk=>by rw[r3];rfl
 have k4:∀k,onRow (hget g4 h.next) k=k 430 1 false false 0 (T.ofList unk (dE ⟨b,o,none⟩ n c)):=λk=>by rw[r4];rfl
 have l3:∀k,onRow (hget g3 g1.next) k=k 171 3 false false 0 (T.ofList unk (bE ⟨p.b,0,none⟩ at0 size)):=λk=>by rw[v3];rfl
 have l4:∀k,onRow (hget g4 g1.next) k=k 171 3 false false 0 (T.ofList unk (bE ⟨p.b,0,none⟩ at0 size)):=λk=>by rw[v4];rfl
 have q3:∀k,onRow (hget g3 b) k=k e mm op ro fz cw:=λk=>by rw[b3];rfl
 have q4:∀k,onRow (hget g4 b) k=k e mm op ro fz cw:=λk=>by rw[b4];rfl
 have e0:getF (T.ofList unk (dE ⟨b,o,none⟩ n c)) 0=.slice (some ⟨b,o,none⟩) n c:=by rw[aI];rfl
 have w1:∀k,ar EE KK (m+8) 507 [.agg ⟨dE ⟨b,o,none⟩ n c⟩,.int .i64 (.ofNat i)] g2 k=k (.bool true) g3:=λk=>by rw[uu (m+7) hin (by omega),hh3]
 have Ey:H.mk (Nat.add g3.1 0) g3.2=g3:=by cases g3;rfl
 refine⟨g5,o13.trans (o4.trans o5),λk=>?_⟩;rw[avW];unfold adz;simp (disch:=first | omega | (simp only[JD,Ju,Je];omega)) only[↓bP,↓Hv,↓eI,↓GJ,↓aj,↓aD];rw[hh1];simp (disch:=first | omega | (simp only[JD,Ju,Je];omega)) only[↓bP,↓Dk,↓eI,↓C5,↓aj,↓aD];rw[hh2];simp (disch:=first | omega | (simp only[JD,Ju,Je];omega)) only[↓k2,↓aj];rw[pX];simp (disch:=first | omega | (simp only[JD,Ju,Je];omega)) only[↓w1,↓aA,↓ah,↓aj,↓aD];rw[Ey];simp (disch:=first | omega | (simp only[JD,Ju,Je];omega)) only[↓l3,↓k3,↓aj,↓bC];rw[e0];simp (disch:=first | omega | (simp only[JD,Ju,Je];omega)) only[↓bp,↓aj,↓bw,↓au,↓q3];have w2:∀k,ar EE KK (m+8) 508 [.agg ⟨dE ⟨b,o,none⟩ n c⟩,.int .i64 (.ofNat i)] g3 k=k (.int .i64 (.ofNat (mY cw i o 0))) g4:=hfat;have hmul:i.mul 1=i:=Nat.mul_one i;rw[pX,cells3,hmul,hw,w2];simp (disch:=first | omega | (simp only[JD,Ju,Je];omega)) only[↓l4,↓aj];rw[cells3];simp (disch:=first | omega | (simp only[JD,Ju,Je];omega)) only[↓ajc,↓H7,↓k4,↓aj];rw[e0];simp (disch:=first | omega | (simp only[JD,Ju,Je];omega)) only[↓aiv,↓Gx,↓H7,↓q4,↓aj];rw[hw];simp (disch:=first | omega | (simp only[JD,Ju,Je];omega)) only[↓Gx,↓hld,↓bg,↓bB,↓du];rfl
def XV (args:List Value) (h:H):R:=
 nthF 0 args λvr=>nthF 1 args λvv=>nthF 2 args λvi=>ifB (beq (lenF args) 3) (ft vi λi=>sc vr λb o n c=>
 ifB (ble (Nat.succ i) n) (ifB (ble i (Nat.div c 2)) (ifB (ble i 900000) (ifB (ble (Nat.succ b) h.1) (ifB (ble (Nat.add h.1 60) 1000000000) (
 onRow (hget h b) λ_ mm _ _ _ cw=>ifB (ble (Nat.succ (Nat.add o i)) mm) (ft (getF cw (Nat.add o i)) λw=>ifB (beq w 1||beq w 2||beq w 4||beq w 8) (
 HU cw i o 0 λx=>kS vv λp at0 size=>ifB (ble (Nat.add x w) size) (VN (Nat.add at0 x) λa=>
 Uq p a w h λcq=>ldQ cq w (Nat.mod a 4096) 0 0 λy=>some (.tuple ⟨[.int .u64 (.ofNat y),.int .i64 (.ofNat 0)]⟩,h))))))))))
def Ps {args:List Value} {h:H} {r:Value × H} (hq:XV args h=some r):jB 473 args h r:=by
 unfold XV at hq;obtain⟨vr,e0,hq⟩:=aQ hq;obtain⟨vv,e1,hq⟩:=aQ hq;obtain⟨vi,e2,hq⟩:=aQ hq;obtain⟨hl,hq⟩:=ai hq;have hl:=I8 hl;rw[dh] at hl;have ha:=o8 e0 e1 e2 hl;obtain⟨i,ei,hq⟩:=bW hq;obtain⟨b,o,n,c,er,hq⟩:=j2 hq;obtain⟨q1,hq⟩:=ai hq;obtain⟨q2,hq⟩:=ai hq;obtain⟨q3,hq⟩:=ai hq;obtain⟨q4,hq⟩:=ai hq;obtain⟨q5,hq⟩:=ai hq;obtain⟨e,mm,op,ro,fz,cw,hrow,hq⟩:=cJ hq;obtain⟨q6,hq⟩:=ai hq;obtain⟨w,hw,hq⟩:=bW hq;obtain⟨hm,hq⟩:=ai hq;obtain⟨hs,hq⟩:=lu hq;obtain⟨pv,at0,size,ev,hsz,hat,hq⟩:=fR hq;obtain⟨q7,hq⟩:=ai hq;rw[qh] at hq;obtain⟨p,ep,hok,_,hq⟩:=jc hq;obtain⟨s,hs2,hq⟩:=mR (j:=0) hq rfl;have hq:=JJ hq;subst hq;have hm:w=1 \/ w=2 \/ w=4 \/ w=8:=by
  simp only[J4] at hm;rcases hm with ((q | q) | q) | q
  ·exact .inl (I8 q)
  ·exact .inr (.inl (I8 q))
  ·exact .inr (.inr (.inl (I8 q)))
  ·exact .inr (.inr (.inr (I8 q)))
 obtain⟨h',ho,hk⟩:=Mh 0 (n:=n) (c:=c) (I7 q1) (I7 q2) hs hw (I7 q6) (I7 q3) (I7 q4) hrow (I7 q7) hsz hat hok hs2 hm (I7 q5);refine⟨rfl,_,rfl,λ_ _ q=>q,9,h',ho,λk=>?_⟩;rw[ha,er,ev,ep,ei];exact hk k
end Go.Ev
namespace Go.Ev
open Go F Go.Proofs
set_option maxHeartbeats 2000000 in
def qQ (n:Nat) {h:H} {p:I4} {at0 size a m:Nat} {s:List UInt8} (h1:a+m<=size) (hs:size<=4611686018427387904) (hat:at0<=4611686018427387904) (x:qS h p (at0+a) m) (hby:cT (ae p.cq m ((at0+a)%4096))=some s) (hroom:h.next+30<=1000000000):
  ∃h',fP h h'/\∀k:Value->H->R,ar EE KK (n+7) 470 [.agg ⟨bE ⟨p.b,0,none⟩ at0 size⟩,.int .i64 (.ofNat a),.int .i64 (.ofNat m)] h k=k (.tuple ⟨[.string ⟨⟨s⟩⟩,.int .i64 (.ofNat 0)]⟩) h':=by
 have o1:fP h (ag h (.row 171 3 false false 0 (T.ofList unk (bE ⟨p.b,0,none⟩ at0 size)))):=(fP.refl h).push _ (by omega);generalize hh1:ag h (.row 171 3 false false 0 (T.ofList unk (bE ⟨p.b,0,none⟩ at0 size)))=g1 at o1;have n1:g1.next=h.next+1:=by rw[<-hh1];rfl
 have o2:fP g1 (ag g1 (.row 171 3 false false 0 (T.ofList unk (bE ⟨p.b,0,none⟩ at0 size)))):=(fP.refl g1).push _ (by omega);generalize hh2:ag g1 (.row 171 3 false false 0 (T.ofList unk (bE ⟨p.b,0,none⟩ at0 size)))=g2 at o2;have n2:g2.next=h.next+2:=by rw[<-hh2,cS,n1]
 have r1:hget g1 h.next=.row 171 3 false false 0 (T.ofList unk (bE ⟨p.b,0,none⟩ at0 size)):=by rw[<-hh1,az _ _ (by omega)]
 have r2:hget g2 h.next=.row 171 3 false false 0 (T.ofList unk (bE ⟨p.b,0,none⟩ at0 size)):=by rw[o2.2 _ (by omega),r1]
 have k1:∀k,onRow (hget g1 h.next) k=k 171 3 false false 0 (T.ofList unk (bE ⟨p.b,0,none⟩ at0 size)):=λk=>by rw[r1];rfl
 have k2:∀k,onRow (hget g2 h.next) k=k 171 3 false false 0 (T.ofList unk (bE ⟨p.b,0,none⟩ at0 size)):=λk=>by rw[r2];rfl
 have e0:getF (T.ofList unk (bE ⟨p.b,0,none⟩ at0 size)) 0=.pointer (some ⟨p.b,0,none⟩):=by rw[aI];rfl
 have e1:getF (T.ofList unk (bE ⟨p.b,0,none⟩ at0 size)) 1=.int .i64 (.ofNat at0):=by rw[aI];rfl
 have m1:=x.m1;obtain⟨h',ho,hx,hl⟩:=lB n ((x.old o1).old o2) hby (by omega);refine⟨h',o1.trans (o2.trans ho),λk=>?_⟩;have w2:∀k,ar EE KK (n+6) 278 [.agg ⟨bE ⟨p.b,0,none⟩ at0 size⟩,.int .i64 (.ofNat a),.int .i64 (.ofNat m)] g1 k=k (.int .i64 (.ofNat 0)) g2:=λk=>by rw[lW (n+5) h1 hs (by omega),hh2]
 rw[bX,E6];unfold U2;simp (disch:=first | omega | (simp only[JD,Ju,Je];omega)) only[↓bP,↓Dk,↓eI,↓C5,↓aj,↓aD];rw[hh1];simp (disch:=first | omega | (simp only[JD,Ju,Je];omega)) only[↓k1,↓aj];rw[cells3];simp (disch:=first | omega | (simp only[JD,Ju,Je];omega)) only[↓w2,↓wc wV,↓ah,↓ax,↓k2,↓aj];rw[show Nat.add 0 1=1 from rfl,e0,e1];simp (disch:=first | omega | (simp only[JD,Ju,Je];omega)) only[↓dr dN,↓hl,↓bg,↓bB,↓du];rfl
def uB (args:List Value) (h:H):R:=
 nthF 0 args λv=>nthF 1 args λva=>nthF 2 args λvm=>ifB (beq (lenF args) 3) (ft va λa=>ft vm λm=>
 kS v λp at0 size=>ifB (ble (Nat.add a m) size) (ifB (ble (Nat.add h.1 30) 1000000000) (VN (Nat.add at0 a) λb=>
 Uq p b m h λc=>Bool.rec (motive:=λ_=>R) (ifB (rt c) (some (.tuple ⟨[unk,.int .i64 (.ofNat 0)]⟩,h)))
  (NI c m (Nat.mod b 4096) λs=>some (.tuple ⟨[.string ⟨⟨s⟩⟩,.int .i64 (.ofNat 0)]⟩,h)) (ble m 12))))
def zQ {args:List Value} {h:H} {r:Value × H} (hq:uB args h=some r):jB 470 args h r:=by
 unfold uB at hq;obtain⟨v,e0,hq⟩:=aQ hq;obtain⟨va,e1,hq⟩:=aQ hq;obtain⟨vm,e2,hq⟩:=aQ hq;obtain⟨hl,hq⟩:=ai hq;have hl:=I8 hl;rw[dh] at hl;have ha:=o8 e0 e1 e2 hl;obtain⟨a,ea,hq⟩:=bW hq;obtain⟨m,em,hq⟩:=bW hq;obtain⟨pv,at0,size,ev,hs,hat,hq⟩:=fR hq;obtain⟨hsz,hq⟩:=ai hq;obtain⟨hroom,hq⟩:=ai hq;rw[qh] at hq;obtain⟨p,ep,hok,_,hq⟩:=jc hq;cases hm:ble m 12 with
 | false=>
  rw[hm] at hq;obtain⟨hb,hq⟩:=ai hq;obtain⟨s,hs2⟩:=jV hb m ((at0+a)%4096);have hq:=JJ hq;subst hq;obtain⟨h',ho,hk⟩:=qQ 0 (I7 hsz) hs hat hok hs2 (I7 hroom);refine⟨rfl,.tuple ⟨[.string ⟨⟨s⟩⟩,.int .i64 (.ofNat 0)]⟩,rfl,λρ u q=>?_,7,h',ho,λk=>?_⟩
  ·obtain⟨l,rfl,hl⟩:=q.tuple
   match l,hl with
   | [u1,u2],⟨_,h2,_⟩=>exact .inr ⟨_,_,rfl,rfl,.inl (.inl rfl),h2,trivial⟩
  ·rw[ha,ev,ep,ea,em];exact hk k
 | true=>
 rw[hm] at hq;obtain⟨s,hs2,hq⟩:=oE hq;have hq:=JJ hq;subst hq;obtain⟨h',ho,hk⟩:=qQ 0 (I7 hsz) hs hat hok hs2 (I7 hroom);refine⟨rfl,_,rfl,λ_ _ q=>q,7,h',ho,λk=>?_⟩;rw[ha,ev,ep,ea,em];exact hk k
end Go.Ev
namespace Go.Ev
open Go F Go.Proofs
def JO:aN:=(((lG.ins 40 309 (some zp)).ins 40 17 (some uA)).ins 40 269 (some HR)).ins 40 267 (some (quick EE KK 100 267 yE))
def E1:Env:=EX JO
def Ue:aJ JO:=
 aB (aB (aB (aB Ay (by decide) (C3 gd)) (by decide) (yH gd)) (by decide) (Jg gd)) (by decide) (eG gd gd λ_ _ _ h=>Do h)
def apQ:gp Tryz.prog E1 ce:=fM JO Ue
def QO:aN:=JO.ins 40 206 (some (quick E1 KK 100 206 Ak))
def E2:Env:=EX QO
def Uu:aJ QO:=aB Ue (by decide) (eG gd apQ λ_ _ _ h=>Ef h)
def atO:gp Tryz.prog E2 ce:=fM QO Uu
def QR:aN:=QO.ins 40 383 (some (quick E2 KK 100 383 EM))
def E3:Env:=EX QR
def Um:aJ QR:=aB Uu (by decide) (eG gd atO λ_ _ _ h=>Ii h)
def Io:gp Tryz.prog E3 ce:=fM QR Um
def R6:aN:=((QR.ins 40 288 (some (quick E3 KK 100 288 yx))).ins 40 278 (some (quick E3 KK 100 278 ui))).ins 40 277 (some (quick E3 KK 100 277 ue))
def E4:Env:=EX R6
def Vh:aJ R6:=
 aB (aB (aB Um (by decide) (eG gd Io λ_ _ _ h=>Ew h)) (by decide) (eG gd Io λ_ _ _ h=>zJ h)) (by decide) (eG gd Io λ_ _ _ h=>yS h)
def vL:gp Tryz.prog E4 ce:=fM R6 Vh
def IP:aN:=((((R6.ins 40 507 (some (quick E4 KK 100 507 Vz))).ins 40 506 (some (quick E4 KK 100 506 yO))).ins 40 508 (some (quick E4 KK 100 508 Zj))).ins 40 471 (some (quick E4 KK 100 471 yK))).ins 40 369 (some (quick E4 KK 100 369 zP))
def UM:aJ IP:=
 aB (aB (aB (aB (aB Vh (by decide) (eG gd vL λ_ _ _ h=>PD h)) (by decide) (eG gd vL λ_ _ _ h=>Eh h)) (by decide) (eG gd vL λ_ _ _ h=>Ox h)) (by decide) (eG gd vL λ_ _ _ h=>DW h)) (by decide) (eG gd vL λ_ _ _ h=>Dc h)
def aoJ:gp Tryz.prog (EX IP) ce:=fM IP UM
def IQ:aN:=IP.ins 40 473 (some (quick (EX IP) KK 100 473 XV))
def Vb:aJ IQ:=aB UM (by decide) (eG gd aoJ λ_ _ _ h=>Ps h)
def aub:gp Tryz.prog (EX IQ) ce:=fM IQ Vb
def aqO:aN:=IQ.ins 40 470 (some (quick (EX IQ) KK 100 470 uB))
def ap7:aJ aqO:=aB Vb (by decide) (eG gd aub λ_ _ _ h=>zQ h)
def agw:aN:=(aqO.ins 40 76 (some nU)).ins 40 170 (some iV)
def n312:eW Tryz.prog 76 Extern.BytealgCount.count:=⟨Fo 76,by kernel_rfl,by kernel_rfl,by kernel_rfl,by kernel_rfl,by kernel_rfl⟩
def n330:eW Tryz.prog 170 Extern.BytealgIndexByte.indexByte:=⟨Fo 170,by kernel_rfl,by kernel_rfl,by kernel_rfl,by kernel_rfl,by kernel_rfl⟩
def UX:aJ agw:=aB (aB ap7 (by decide) (GA n312)) (by decide) (tW n330)
def PK (l:List Nat):List Value:=List.rec (motive:=λ_=>List Value) [] (λa _ ih=>.int .u8 (.ofNat a) :: ih) l
def rW (l:List Nat):List Value:=List.rec (motive:=λ_=>List Value) [] (λa _ ih=>.int .u64 (.ofNat a) :: ih) l
def l32:List Nat:=[0,1,28,2,29,14,24,3,30,22,20,15,25,17,4,8,31,27,13,23,21,19,16,7,26,12,18,6,11,5,10,9]
def l64:List Nat:=[0,1,56,2,57,49,28,3,61,58,42,50,38,29,17,4,62,47,59,36,45,43,51,22,53,39,33,30,24,18,12,5,63,55,48,27,60,41,37,16,46,35,44,21,52,32,23,11,54,26,40,15,34,20,31,10,25,14,19,9,13,8,7,6]
def UH:List Nat:=[1,10,100,1000,10000,100000,1000000,10000000,100000000,1000000000,10000000000,100000000000,1000000000000,10000000000000,100000000000000,1000000000000000,10000000000000000,100000000000000000,1000000000000000000,10000000000000000000]
def glob:List AO:=[.dead,.row 227 20 false true 0 (T.ofList undef (rW UH)),.dead,.dead,.dead,.dead,.row 403 32 false true 0 (T.ofList undef (PK l32)),.row 404 64 false true 0 (T.ofList undef (PK l64))]
def gM:GK glob=true:=by kernel_rfl
def aix:aN:=agw.ins 40 562 (some (bA glob))
def Gj:aN:=aix.ins 40 558 (some (bA glob))
def aea:aN:=Gj.ins 40 553 (some (bA glob))
def F5:aN:=aea.ins 40 547 (some (bA glob))
def aad:aN:=F5.ins 40 538 (some (bA glob))
def EH:aN:=aad.ins 40 528 (some (bA glob))
def Zu:aN:=EH.ins 40 501 (some (bA glob))
def Iz:aN:=Zu.ins 40 444 (some (bA glob))
def aeK:aN:=Iz.ins 40 650 (some (bA glob))
def Hg:aN:=aeK.ins 40 648 (some (bA glob))
def Zq:aN:=Hg.ins 40 651 (some (bA glob))
def Gt:aN:=Zq.ins 40 649 (some (bA glob))
def ags:aN:=Gt.ins 40 646 (some (bA glob))
def He:aN:=ags.ins 40 642 (some (bA glob))
def abr:aN:=He.ins 40 640 (some (bA glob))
def GX:aN:=abr.ins 40 638 (some (bA glob))
def abS:aN:=GX.ins 40 637 (some (bA glob))
def Fe:aN:=abS.ins 40 634 (some (bA glob))
def WX:aN:=Fe.ins 40 641 (some (bA glob))
def EG:aN:=WX.ins 40 639 (some (bA glob))
def aeB:aN:=EG.ins 40 636 (some (bA glob))
def Ig:aN:=aeB.ins 40 633 (some (bA glob))
def ajV:aN:=Ig.ins 40 630 (some (bA glob))
def Hd:aN:=ajV.ins 40 628 (some (bA glob))
def am1:aN:=Hd.ins 40 631 (some (bA glob))
def Gq:aN:=am1.ins 40 629 (some (bA glob))
def abW:aN:=Gq.ins 40 624 (some (bA glob))
def Fi:aN:=abW.ins 40 618 (some (bA glob))
def Y7:aN:=Fi.ins 40 609 (some (bA glob))
def FH:aN:=Y7.ins 40 600 (some (bA glob))
def adg:aN:=FH.ins 40 579 (some (bA glob))
def IM:aN:=adg.ins 40 573 (some (bA glob))
def acJ:aN:=IM.ins 40 594 (some (bA glob))
def ER:aN:=acJ.ins 40 590 (some (bA glob))
def afn:aN:=ER.ins 40 592 (some (bA glob))
def Gz:aN:=afn.ins 40 585 (some (bA glob))
def amo:aN:=Gz.ins 40 580 (some (bA glob))
def IJ:aN:=amo.ins 40 574 (some (bA glob))
def XM:aN:=IJ.ins 40 559 (some (bA glob))
def HM:aN:=XM.ins 40 554 (some (bA glob))
def aeN:aN:=HM.ins 40 352 (some (bA glob))
def Il:aN:=aeN.ins 40 252 (some (bA glob))
def ahB:aN:=Il.ins 40 581 (some (bA glob))
def Hl:aN:=ahB.ins 40 575 (some (bA glob))
def aeW:aN:=Hl.ins 40 582 (some (bA glob))
def F4:aN:=aeW.ins 40 576 (some (bA glob))
def anE:aN:=F4.ins 40 570 (some (bA glob))
def II:aN:=anE.ins 40 564 (some (bA glob))
def agR:aN:=II.ins 40 560 (some (bA glob))
def GQ:aN:=agR.ins 40 555 (some (bA glob))
def Yj:aN:=GQ.ins 40 549 (some (bA glob))
def Fl:aN:=Yj.ins 40 541 (some (bA glob))
def aji:aN:=Fl.ins 40 531 (some (bA glob))
def FK:aN:=aji.ins 40 519 (some (bA glob))
def VV:aN:=FK.ins 40 494 (some (bA glob))
def Fw:aN:=VV.ins 40 439 (some (bA glob))
def Xq:aN:=Fw.ins 40 351 (some (bA glob))
def EQ:aN:=Xq.ins 40 251 (some (bA glob))
def Yn:aN:=EQ.ins 40 161 (some (bA glob))
def H1:aN:=Yn.ins 40 93 (some (bA glob))
def V9:aN:=H1.ins 40 73 (some (bA glob))
def H6:aN:=V9.ins 40 52 (some (bA glob))
def ank:aN:=H6.ins 40 25 (some (bA glob))
def Ga:aN:=ank.ins 40 12 (some (bA glob))
def qL:aN:=Ga.ins 40 5 (some (bA glob))
def aH (t:aN) (f:FuncId):Prop:=Ve t 1000 f [] (iL glob) (λv _=>some (v,iL glob))=some (.bool true,iL glob)
end Go.Ev
