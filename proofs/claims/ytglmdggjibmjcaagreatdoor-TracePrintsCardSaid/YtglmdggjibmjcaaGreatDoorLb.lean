/-
  THE LAYERS' EXAMPLES: one after another they are answered for.
-/
import Derived.Test.YtglmdggjibmjcaaGreatDoorLa
import Derived.Test.YtglmdggjibmjcaaGreatDoorMe
import Derived.Test.YtglmdggjibmjcaaGreatDoorKb
noncomputable section
set_option linter.unusedVariables false
set_option linter.unusedSimpArgs false
set_option maxRecDepth 100000
set_option exponentiation.threshold 3000
open Nat (ble beq)
namespace Go.Ev
open Go F Go.Proofs
theorem aw0 (m:Nat) (a0 a1:Value) (h:H) (k:Value->H->R):ax EE KK (m+1) 507 [a0,a1] h k=We EE (ax EE KK m) a0 a1 h k:=by show (cY (EX kw) KK 507).run _ _ _ _=_;rw[eN (by kernel_rfl)];exact Qy kw _ a0 a1 h k
theorem axp (m:Nat) (a0 a1:Value) (h:H) (k:Value->H->R):ax EE KK (m+1) 506 [a0,a1] h k=agQ EE (ax EE KK m) a0 a1 h k:=by show (cY (EX kw) KK 506).run _ _ _ _=_;rw[eN (by kernel_rfl)];exact M2 kw _ a0 a1 h k
theorem awO (m:Nat) (a0 a1:Value) (h:H) (k:Value->H->R):ax EE KK (m+1) 508 [a0,a1] h k=ahv EE (ax EE KK m) a0 a1 h k:=by show (cY (EX kw) KK 508).run _ _ _ _=_;rw[eN (by kernel_rfl)];exact Ij kw _ a0 a1 h k
theorem av5 (m:Nat) (a0 a1 a2:Value) (h:H) (k:Value->H->R):ax EE KK (m+1) 473 [a0,a1,a2] h k=Ys EE (ax EE KK m) a0 a1 a2 h k:=by show (cY (EX kw) KK 473).run _ _ _ _=_;rw[eN (by kernel_rfl)];exact P5 kw _ a0 a1 a2 h k
theorem axl (m:Nat) (a0:Value) (h:H) (k:Value->H->R):ax EE KK (m+1) 369 [a0] h k=Zi EE (ax EE KK m) a0 h k:=by show (cY (EX kw) KK 369).run _ _ _ _=_;rw[eN (by kernel_rfl)];exact I9 kw _ a0 h k
theorem awI (m:Nat) (a0:Value) (h:H) (k:Value->H->R):ax EE KK (m+1) 471 [a0] h k=abw EE (ax EE KK m) a0 h k:=by show (cY (EX kw) KK 471).run _ _ _ _=_;rw[eN (by kernel_rfl)];exact JH kw _ a0 h k
theorem aoY:EE.und 320=some (.slice 3):=by kernel_rfl
theorem arn:EE.size 3=some 1:=by kernel_rfl
def cT (A:Addr) (n c:Nat):List Value:=[.slice (some A) n c]
theorem Cz (A:Addr) (n c:Nat):allF (λv=>cell1F v) (cT A n c)=true:=rfl
theorem DC (A:Addr) (n c:Nat):lenF (cT A n c)=1:=rfl
theorem SN {E:Env} {ty m n:Nat} {cx cy:Bool} {k:Value->R} (hE:E.und ty=some (.int .i64)) (h:n<=m):binR (binC E .geq ty cx cy) (.int .i64 (.ofNat m)) (.int .i64 (.ofNat n)) k=k (.bool true):=by rw[jj hE,aJ h]
set_option maxHeartbeats 1000000 in
theorem rR (m:Nat) {h:H} {A:Addr} {n c i:Nat} (hi:i<n) (hn:h.next<=1000000000) (k:Value->H->R):
  ax EE KK (m+1) 507 [.agg ⟨cT A n c⟩,.int .i64 (.ofNat i)] h k=k (.bool true) (ae h (.row 430 1 false false 0 (T.ofList unk (cT A n c)))):=by
 have hrow:∀k,onRow (hget (ae h (.row 430 1 false false 0 (T.ofList unk (cT A n c)))) h.next) k=k 430 1 false false 0 (T.ofList unk (cT A n c)):=λk=>by rw[aB _ _ hn];rfl
 have e0:∀s k,onSl (getF (T.ofList unk (cT A n c)) 0) s k=k A n c:=λs k=>by rw[aH];rfl
 rw[aw0];unfold We;simp (disch:=first | omega | (simp only[Nat.add_eq,Nat.mul_eq,Nat.succ_eq_add_one];omega)) only[↓bW,↓Cz,↓dP,↓DC,↓am,↓aE,↓SN dl,↓aK,↓bT,↓az,↓au,↓hrow,↓e0,↓gt dl]
def Eo:Value->Nat
 |.int .i64 (.ofNat w)=>w
 | _=>0
def mg (c:T Value):Nat->Nat->Nat->Nat
 | 0,_,x=>x
 | d+1,o,x=>mg c d (o+1) (x+Eo (getF c o))
def pu (c:T Value) (o n:Nat):Prop:=∀j,j<n->∃w,getF c (o+j)=.int .i64 (.ofNat w)/\w<=1000000
def lI (v77:Value) (n107:Nat) (k111:aa [5]->H->R):(aa [5,13]->H->R)->aa [5,13]->H->R:=
 (λk112=>(λe113=>(λh114=>(binR (binC EE Go.BinOp.lss 3 (aU (Go.Operand.tmp 13)) (aU (Go.Operand.tmp 12))) e113.2.1 (Value.int Go.IntKind.i64 (Int.ofNat n107)) (λv115=>(@joinR [] (λe116=>(λh117=>(@joinR (5 :: []) (λe118=>(λh119=>(binR (binC EE Go.BinOp.add 3 (aU (Go.Operand.tmp 13)) (aU (Go.Operand.const (Value.int Go.IntKind.i64 1)))) e113.2.1 (Value.int Go.IntKind.i64 (Int.ofNat 1)) (λv120=>(k112 (e118.1,(v120,())) h119))))) (λk121=>(onNat e113.2.1 none (λn122=>(onSl v77 none (λa123=>(λn124=>(λn125=>(ifB (ble (Nat.succ n122) n124) (addOffF a123 (Nat.mul n122 1) (λv126=>(onPtr v126 (λa127=>(onRow (hget h117 a127.1) (λx128=>(λn129=>(λx130=>(λx131=>(λn132=>(λt133=>(ifB (ble (Nat.succ a127.2) n129) (binR (binC EE Go.BinOp.add 3 (aU (Go.Operand.tmp 17)) (aU (Go.Operand.tmp 18))) e113.1 (@getF Go.Value t133 a127.2) (λv134=>(k121 (v134,()) h117)))))))))))))))))))))))))) (λk135=>(onB v115 (k111 (e113.1,()) h114) (k135 () h114)))))))))
def S7 (E:Env) (rc:RC) (a0 a1:Value) (h:H) (k:Value->H->R):R:=
 (onCells a0 (λl68=>(ifB (allF (λv69=>(cell1F v69)) l68) (ifB (ble h.1 1000000000) (letH (ae h (AO.row 430 (lenF l68) Bool.false Bool.false 0 (@T.ofList Go.Value unk l68))) (λh70=>(onRow (hget h70 h.1) (λx71=>(λn72=>(λx73=>(λx74=>(λn75=>(λt76=>(ifB (ble (Nat.succ 0) n72) (bindO (cI E 320 (@getF Go.Value t76 0) none (some a1) none) (λv77=>(onSl v77 (bindO (aZ E h70 320 v77) (λv78=>(@joinR (5 :: []) (λe79=>(λh80=>(k e79.1 h80))) (λk81=>(@loopF (5 :: (13 :: [])) (λk82=>(λe83=>(λh84=>(binR (binC E Go.BinOp.lss 3 (aU (Go.Operand.tmp 13)) (aU (Go.Operand.tmp 12))) e83.2.1 v78 (λv85=>(@joinR [] (λe86=>(λh87=>(@joinR (5 :: []) (λe88=>(λh89=>(binR (binC E Go.BinOp.add 3 (aU (Go.Operand.tmp 13)) (aU (Go.Operand.const (Value.int Go.IntKind.i64 1)))) e83.2.1 (Value.int Go.IntKind.i64 (Int.ofNat 1)) (λv90=>(k82 (e88.1,(v90,())) h89))))) (λk91=>(onNat e83.2.1 none (λn92=>(onSl v77 none (λa93=>(λn94=>(λn95=>(ifB (ble (Nat.succ n92) n94) (addOffF a93 (Nat.mul n92 1) (λv96=>(onPtr v96 (λa97=>(onRow (hget h87 a97.1) (λx98=>(λn99=>(λx100=>(λx101=>(λn102=>(λt103=>(ifB (ble (Nat.succ a97.2) n99) (binR (binC E Go.BinOp.add 3 (aU (Go.Operand.tmp 17)) (aU (Go.Operand.tmp 18))) e83.1 (@getF Go.Value t103 a97.2) (λv104=>(k91 (v104,()) h87)))))))))))))))))))))))))) (λk105=>(onB v85 (k81 (e83.1,()) h84) (k105 () h84))))))))) cK ((Value.int Go.IntKind.i64 (Int.ofNat 0)),((Value.int Go.IntKind.i64 (Int.ofNat 0)),())) h70))))) (λa106=>(λn107=>(λn108=>(@joinR (5 :: []) (λe109=>(λh110=>(k e109.1 h110))) (λk111=>(@loopF (5 :: (13 :: [])) (lI v77 n107 k111) cK ((Value.int Go.IntKind.i64 (Int.ofNat 0)),((Value.int Go.IntKind.i64 (Int.ofNat 0)),())) h70)))))))))))))))))))))))
theorem DK (rc:RC) (a0 a1:Value) (h:H) (k:Value->H->R):agQ EE rc a0 a1 h k=S7 EE rc a0 a1 h k:=by kernel_rfl
theorem JR {b o n cc:Nat} {e mm fz:Nat} {op ro:Bool} {cw:T Value} (k111:aa [5]->H->R) (hs:pu cw o n) (hm:o+n<=mm) (hn:n<=1000000):∀(d i N x:Nat) (h:H),i+d=n->d<N->x<=i*1000000->hget h b=.row e mm op ro fz cw ->
  loopF (ks:=[5,13]) (lI (.slice (some ⟨b,o,none⟩) n cc) n k111) N (.int .i64 (.ofNat x),(.int .i64 (.ofNat i),())) h=k111 (.int .i64 (.ofNat (mg cw d (o+i) x)),()) h:=by
 intro d
 induction d with
 | zero=> intro i N x h hi hN hx hq;obtain⟨N,rfl⟩:∃M,N=M+1:=⟨N-1,by omega⟩;rw[aR];unfold lI;simp (disch:=omega) only[↓fp dl,↓ag,↓ar];rfl
 | succ d ih=>
  intro i N x h hi hN hx hq;obtain⟨N,rfl⟩:∃M,N=M+1:=⟨N-1,by omega⟩;obtain⟨w,hw,hw2⟩:=hs i (by omega);have hqr:∀k,onRow (hget h b) k=k e mm op ro fz cw:=λk=>by rw[hq];rfl
  have hmul:(i+1)*1000000=i*1000000+1000000:=by omega
  have key:=ih (i+1) N (x+w) h (by omega) (by omega) (by omega) hq;rw[aR];generalize loopF (ks:=[5,13]) (lI (.slice (some ⟨b,o,none⟩) n cc) n k111) N=L at key ⊢;unfold lI;simp (disch:=first | omega | (simp only[Nat.add_eq,Nat.mul_eq,Nat.succ_eq_add_one];omega)) only[↓gt dl,↓ag,↓az,↓bK,↓bP,↓am,↓bM,↓au,↓hqr];rw[show i.mul 1=i from Nat.mul_one i,hw];simp (disch:=first | omega | (simp only[Nat.add_eq,Nat.mul_eq,Nat.succ_eq_add_one];omega)) only[↓cf dl];rw[key];show _=k111 (.int .i64 (.ofNat (mg cw d (o+i+1) (x+Eo (getF cw (o+i))))),()) h;rw[hw];rfl
theorem AJ {E:Env} {t e l c b o m:Nat} {kd:IntKind} (hE:E.und t=some (.slice e)) (hs:E.size e=some 1) (h1:m<=c / 2):
  cI E t (.slice (some ⟨b,o,none⟩) l c) none (some (.int kd (.ofNat m))) none=some (.slice (some ⟨b,o,none⟩) m c):=by
 have e1:2*(c / 2)+c%2=c:=by omega
 have h2:ble m (c / 2)=true:=aJ h1;simp only[cI,gar,Option.isSome_none,cond_false,hE,hs,bound,h2,cond_true,Option.isNone_none,Option.isSome_some,Bool.or_true,Bool.and_true,gB];cases hc:beq (c / 2) 0 <;> simp[hc,e1]
theorem oy (A:Addr) (n c:Nat):ac (T.ofList unk (cT A n c)) 1 0=cT A n c:=by show [getF _ 0]=_;rw[aH];rfl
set_option maxHeartbeats 1000000 in
theorem nu (m:Nat) {h:H} {b o n c i:Nat} {e mm fz:Nat} {op ro:Bool} {cw:T Value} (hi:i<=c / 2) (hs:pu cw o i) (hm:o+i<=mm) (hi2:i<=900000) (hb:b<h.next) (hq:hget h b=.row e mm op ro fz cw) (hn:h.next<=1000000000) (k:Value->H->R):
  ax EE KK (m+1) 506 [.agg ⟨cT ⟨b,o,none⟩ n c⟩,.int .i64 (.ofNat i)] h k=k (.int .i64 (.ofNat (mg cw i o 0))) (ae h (.row 430 1 false false 0 (T.ofList unk (cT ⟨b,o,none⟩ n c)))):=by
 have hrow:∀k,onRow (hget (ae h (.row 430 1 false false 0 (T.ofList unk (cT ⟨b,o,none⟩ n c)))) h.next) k=k 430 1 false false 0 (T.ofList unk (cT ⟨b,o,none⟩ n c)):=λk=>by rw[aB _ _ hn];rfl
 have e0:getF (T.ofList unk (cT ⟨b,o,none⟩ n c)) 0=.slice (some ⟨b,o,none⟩) n c:=by rw[aH];rfl
 rw[axp,DK];unfold S7;simp (disch:=first | omega | (simp only[Nat.add_eq,Nat.mul_eq,Nat.succ_eq_add_one];omega)) only[↓bW,↓Cz,↓dP,↓DC,↓am,↓aE,↓hrow];rw[e0,AJ aoY arn hi];simp (disch:=first | omega | (simp only[Nat.add_eq,Nat.mul_eq,Nat.succ_eq_add_one];omega)) only[↓aA,↓bP,↓ag];have:=JR (cc:=c) (b:=b) (o:=o) (n:=i) (λe109 h110=>k e109.1 h110) hs hm (by omega) i 0 cK 0 (ae h (.row 430 1 false false 0 (T.ofList unk (cT ⟨b,o,none⟩ n c)))) (by omega) (by unfold cK;omega) (by omega) (by rw[bu _ _ hn hb,hq]);rw[Nat.add_zero] at this;exact this
set_option maxHeartbeats 1000000 in
theorem Bh (m:Nat) {h:H} {b o n c:Nat} {e mm fz:Nat} {op ro:Bool} {cw:T Value} (hi:n<=c / 2) (hs:pu cw o n) (hm:o+n<=mm) (hi2:n<=900000) (hb:b<h.next) (hq:hget h b=.row e mm op ro fz cw) (hn:h.next+10<=1000000000) (k:Value->H->R):
  ax EE KK (m+2) 471 [.agg ⟨cT ⟨b,o,none⟩ n c⟩] h k=k (.int .i64 (.ofNat (mg cw n o 0))) (ae (ae h (.row 430 1 false false 0 (T.ofList unk (cT ⟨b,o,none⟩ n c)))) (.row 430 1 false false 0 (T.ofList unk (cT ⟨b,o,none⟩ n c)))):=by
 have hrow:∀k,onRow (hget (ae h (.row 430 1 false false 0 (T.ofList unk (cT ⟨b,o,none⟩ n c)))) h.next) k=k 430 1 false false 0 (T.ofList unk (cT ⟨b,o,none⟩ n c)):=λk=>by rw[aB _ _ (by omega)];rfl
 have e0:∀s k,onSl (getF (T.ofList unk (cT ⟨b,o,none⟩ n c)) 0) s k=k ⟨b,o,none⟩ n c:=λs k=>by rw[aH];rfl
 rw[awI];unfold abw;simp (disch:=first | omega | (simp only[Nat.add_eq,Nat.mul_eq,Nat.succ_eq_add_one];omega)) only[↓bW,↓Cz,↓dP,↓DC,↓am,↓aE,↓hrow,↓e0];rw[oy,nu m hi hs hm hi2 (by rw[ct];omega) (by rw[bu _ _ (by omega) hb,hq]) (by rw[ct];omega)]
set_option maxHeartbeats 1000000 in
theorem za (m:Nat) {h:H} {b o n c i:Nat} {e mm fz:Nat} {op ro:Bool} {cw:T Value} (hin:i<n) (hi:i<=c / 2) (hs:pu cw o i) (hm:o+i<=mm) (hi2:i<=900000) (hb:b<h.next) (hq:hget h b=.row e mm op ro fz cw) (hn:h.next+10<=1000000000):
  ∃h',eU h h'/\h'.next<=h.next+3/\∀k:Value->H->R,ax EE KK (m+2) 508 [.agg ⟨cT ⟨b,o,none⟩ n c⟩,.int .i64 (.ofNat i)] h k=k (.int .i64 (.ofNat (mg cw i o 0))) h':=by
 have o1:eU h (ae h (.row 430 1 false false 0 (T.ofList unk (cT ⟨b,o,none⟩ n c)))):=(eU.refl h).push _ (by omega);generalize hh1:ae h (.row 430 1 false false 0 (T.ofList unk (cT ⟨b,o,none⟩ n c)))=g1 at o1;have n1:g1.next=h.next+1:=by rw[<-hh1];rfl
 have o2:eU g1 (ae g1 (.row 430 1 false false 0 (T.ofList unk (cT ⟨b,o,none⟩ n c)))):=(eU.refl g1).push _ (by omega);generalize hh2:ae g1 (.row 430 1 false false 0 (T.ofList unk (cT ⟨b,o,none⟩ n c)))=g2 at o2;have n2:g2.next=h.next+2:=by rw[<-hh2,ct,n1]
 have o3:eU g2 (ae g2 (.row 430 1 false false 0 (T.ofList unk (cT ⟨b,o,none⟩ n c)))):=(eU.refl g2).push _ (by omega);generalize hh3:ae g2 (.row 430 1 false false 0 (T.ofList unk (cT ⟨b,o,none⟩ n c)))=g3 at o3;have n3:g3.next=h.next+3:=by rw[<-hh3,ct,n2]
 have r1:hget g1 h.next=.row 430 1 false false 0 (T.ofList unk (cT ⟨b,o,none⟩ n c)):=by rw[<-hh1,aB _ _ (by omega)]
 have k1:∀k,onRow (hget g1 h.next) k=k 430 1 false false 0 (T.ofList unk (cT ⟨b,o,none⟩ n c)):=λk=>by rw[r1];rfl
 have k2:∀k,onRow (hget g2 h.next) k=k 430 1 false false 0 (T.ofList unk (cT ⟨b,o,none⟩ n c)):=λk=>by rw[o2.2 _ (by omega),r1];rfl
 have w1:∀k,ax EE KK (m+1) 507 [.agg ⟨cT ⟨b,o,none⟩ n c⟩,.int .i64 (.ofNat i)] g1 k=k (.bool true) g2:=λk=>by rw[rR m hin (by omega),hh2]
 have w2:∀k,ax EE KK (m+1) 506 [.agg ⟨cT ⟨b,o,none⟩ n c⟩,.int .i64 (.ofNat i)] g2 k=k (.int .i64 (.ofNat (mg cw i o 0))) g3:=λk=>by rw[nu m hi hs hm hi2 (by omega) (by rw[o2.2 _ (by omega),o1.2 _ hb,hq]) (by omega),hh3]
 refine⟨g3,o1.trans (o2.trans o3),by omega,λk=>?_⟩;rw[awO];unfold ahv;simp (disch:=first | omega | (simp only[Nat.add_eq,Nat.mul_eq,Nat.succ_eq_add_one];omega)) only[↓bW,↓Cz,↓dP,↓DC,↓am,↓aE];rw[hh1];simp (disch:=first | omega | (simp only[Nat.add_eq,Nat.mul_eq,Nat.succ_eq_add_one];omega)) only[↓k1,↓am];rw[oy];simp (disch:=first | omega | (simp only[Nat.add_eq,Nat.mul_eq,Nat.succ_eq_add_one];omega)) only[↓w1,↓az,↓ag,↓k2,↓am];rw[oy];simp only[↓w2]
set_option maxHeartbeats 1000000 in
theorem Bv (m:Nat) {h:H} {A:Addr} {at0 size:Nat} (hn:h.next<=1000000000) (k:Value->H->R):
  ax EE KK (m+1) 369 [.agg ⟨bj A at0 size⟩] h k=k (.int .i64 (.ofNat size)) (ae h (.row 171 3 false false 0 (T.ofList unk (bj A at0 size)))):=by
 have hrow:∀k,onRow (hget (ae h (.row 171 3 false false 0 (T.ofList unk (bj A at0 size)))) h.next) k=k 171 3 false false 0 (T.ofList unk (bj A at0 size)):=λk=>by rw[aB _ _ hn];rfl
 have e2:getF (T.ofList unk (bj A at0 size)) 2=.int .i64 (.ofNat size):=by rw[aH];rfl
 rw[axl];unfold Zi;simp (disch:=first | omega | (simp only[Nat.add_eq,Nat.mul_eq,Nat.succ_eq_add_one];omega)) only[↓bW,↓Aj,↓dP,↓Bn,↓am,↓aE,↓hrow];rw[show Nat.add 0 2=2 from rfl,e2]
def Sr (v:Value) (k:List Value->R):R:=CV.rec (motive:=λ_=>R) none none k (asC v)
theorem xc {v:Value} {k:List Value->R} {r} (h:Sr v k=some r):∃l,v=.agg ⟨l⟩/\k l=some r:=by
 cases v with
 | agg a=>exact⟨a.1,rfl,h⟩
 | _=>exact nomatch h
def qj (v:Value) (k:Nat->Nat->Nat->Nat->R):R:=
 Sr v λl=>ifB (beq (lenF l) 1) (nthF 0 l λs=>onSl s none λad n c=>lF ad λb o=>k b o n c)
theorem jh {v:Value} {k:Nat->Nat->Nat->Nat->R} {r} (h:qj v k=some r):∃b o n c,v=.agg ⟨cT ⟨b,o,none⟩ n c⟩/\k b o n c=some r:=by
 unfold qj at h;obtain⟨l,ev,h⟩:=xc h;obtain⟨hl,h⟩:=ah h;obtain⟨s,e0,h⟩:=aP h;obtain⟨ad,n,c,es,h⟩:=eY h;obtain⟨b,o,ed,h⟩:=dp h;have hl:=Nat.eq_of_beq_eq_true hl;rw[cC] at hl;refine⟨b,o,n,c,?_,h⟩
 match l,hl with
 | [a],_=> simp at e0;rw[ev,e0,es,ed];rfl
def BJ (c:T Value) (d:Nat):Nat->Nat->(Nat->R)->R:=
 Nat.rec (motive:=λ_=>Nat->Nat->(Nat->R)->R) (λ_ x k=>fcN x k) (λ_ ih o x k=>eH (getF c o) λw=>ifB (ble w 1000000) (ih (Nat.succ o) (Nat.add x w) k)) d
theorem ke {c:T Value}:∀{d o x:Nat} {k:Nat->R} {r},BJ c d o x k=some r->pu c o d/\k (mg c d o x)=some r
 | 0,o,x,k,r,h=>by have h:fcN x k=some r:=h;rw[pO] at h;exact⟨λj hj=>absurd hj (Nat.not_lt_zero j),h⟩
 | d+1,o,x,k,r,h=>by
  have h:(eH (getF c o) λw=>ifB (ble w 1000000) (BJ c d (Nat.succ o) (Nat.add x w) k))=some r:=h;obtain⟨w,e,h⟩:=bD h;obtain⟨hb,h⟩:=ah h;obtain⟨hs,hk⟩:=ke h;refine⟨λj hj=>?_,?_⟩
  ·cases j with
   | zero=>exact⟨w,e,Nat.le_of_ble_eq_true hb⟩
   | succ j=> obtain⟨w2,e2,h2⟩:=hs j (by omega);exact⟨w2,by rw[<-e2];congr 1;omega,h2⟩
  ·show k (mg c d (o+1) (x+Eo (getF c o)))=some r;rw[e];exact hk
def amj (args:List Value) (h:H):R:=
 nthF 0 args λv=>nthF 1 args λvi=>ifB (beq (lenF args) 2) (eH vi λi=>qj v λb o n c=>ifB (ble (Nat.succ i) n) (ifB (ble h.1 1000000000) (some (.bool true,h))))
theorem Rw {args:List Value} {h:H} {r:Value × H} (hq:amj args h=some r):iE 507 args h r:=by unfold amj at hq;obtain⟨v,e0,hq⟩:=aP hq;obtain⟨vi,e1,hq⟩:=aP hq;obtain⟨hl,hq⟩:=ah hq;have hl:=Nat.eq_of_beq_eq_true hl;rw[cC] at hl;have ha:=qy e0 e1 hl;obtain⟨i,ei,hq⟩:=bD hq;obtain⟨b,o,n,c,ev,hq⟩:=jh hq;obtain⟨q1,hq⟩:=ah hq;obtain⟨q2,hq⟩:=ah hq;have hq:=Option.some.inj hq;subst hq;have q2:=Nat.le_of_ble_eq_true q2;refine⟨rfl,_,rfl,λ_ _ q=>q,1,_,(eU.refl h).push (.row 430 1 false false 0 (T.ofList unk (cT ⟨b,o,none⟩ n c))) q2,λk=>?_⟩;rw[ha,ev,ei];exact rR 0 (Nat.le_of_ble_eq_true q1) q2 k
def rJ (v vi:Value) (h:H) (k:Nat->Nat->Nat->R):R:=
 eH vi λi=>qj v λb o n c=>ifB (ble i (Nat.div c 2)) (ifB (ble i 900000) (ifB (ble (Nat.succ b) h.1) (ifB (ble (Nat.add h.1 10) 1000000000) (onRow (hget h b) λ_ mm _ _ _ cw=>ifB (ble (Nat.add o i) mm) (BJ cw i o 0 λx=>k i n x)))))
theorem nv {v vi:Value} {h:H} {k:Nat->Nat->Nat->R} {r} (hq:rJ v vi h k=some r):
  ∃b o n c i e mm op ro fz cw,v=.agg ⟨cT ⟨b,o,none⟩ n c⟩/\vi=.int .i64 (.ofNat i)/\i<=c / 2/\i<=900000/\b<h.next/\h.next+10<=1000000000/\hget h b=.row e mm op ro fz cw/\o+i<=mm/\pu cw o i/\k i n (mg cw i o 0)=some r:=by
 unfold rJ at hq;obtain⟨i,ei,hq⟩:=bD hq;obtain⟨b,o,n,c,ev,hq⟩:=jh hq;obtain⟨q1,hq⟩:=ah hq;obtain⟨q2,hq⟩:=ah hq;obtain⟨q3,hq⟩:=ah hq;obtain⟨q4,hq⟩:=ah hq;obtain⟨e,mm,op,ro,fz,cw,hr,hq⟩:=bZ hq;obtain⟨q5,hq⟩:=ah hq;obtain⟨hs,hq⟩:=ke hq;exact⟨b,o,n,c,i,e,mm,op,ro,fz,cw,ev,ei,Nat.le_of_ble_eq_true q1,Nat.le_of_ble_eq_true q2,Nat.le_of_ble_eq_true q3,Nat.le_of_ble_eq_true q4,hr,Nat.le_of_ble_eq_true q5,hs,hq⟩
def wn (args:List Value) (h:H):R:=
 nthF 0 args λv=>nthF 1 args λvi=>ifB (beq (lenF args) 2) (rJ v vi h λ_ _ x=>some (.int .i64 (.ofNat x),h))
theorem AB {args:List Value} {h:H} {r:Value × H} (hq:wn args h=some r):iE 506 args h r:=by unfold wn at hq;obtain⟨v,e0,hq⟩:=aP hq;obtain⟨vi,e1,hq⟩:=aP hq;obtain⟨hl,hq⟩:=ah hq;have hl:=Nat.eq_of_beq_eq_true hl;rw[cC] at hl;have ha:=qy e0 e1 hl;obtain⟨b,o,n,c,i,e,mm,op,ro,fz,cw,ev,ei,q1,q2,q3,q4,hr,q5,hs,hq⟩:=nv hq;have hq:=Option.some.inj hq;subst hq;refine⟨rfl,_,rfl,λ_ _ q=>q,1,_,(eU.refl h).push (.row 430 1 false false 0 (T.ofList unk (cT ⟨b,o,none⟩ n c))) (by omega),λk=>?_⟩;rw[ha,ev,ei];exact nu 0 q1 hs q5 q2 q3 hr (by omega) k
def al2 (args:List Value) (h:H):R:=
 nthF 0 args λv=>nthF 1 args λvi=>ifB (beq (lenF args) 2) (rJ v vi h λi n x=>ifB (ble (Nat.succ i) n) (some (.int .i64 (.ofNat x),h)))
theorem F1 {args:List Value} {h:H} {r:Value × H} (hq:al2 args h=some r):iE 508 args h r:=by unfold al2 at hq;obtain⟨v,e0,hq⟩:=aP hq;obtain⟨vi,e1,hq⟩:=aP hq;obtain⟨hl,hq⟩:=ah hq;have hl:=Nat.eq_of_beq_eq_true hl;rw[cC] at hl;have ha:=qy e0 e1 hl;obtain⟨b,o,n,c,i,e,mm,op,ro,fz,cw,ev,ei,q1,q2,q3,q4,hr,q5,hs,hq⟩:=nv hq;obtain⟨q6,hq⟩:=ah hq;have hq:=Option.some.inj hq;subst hq;obtain⟨h',ho,_,hk⟩:=za 0 (Nat.le_of_ble_eq_true q6) q1 hs q5 q2 q3 hr q4;refine⟨rfl,_,rfl,λ_ _ q=>q,2,h',ho,λk=>?_⟩;rw[ha,ev,ei];exact hk k
def xl (args:List Value) (h:H):R:=
 nthF 0 args λv=>ifB (beq (lenF args) 1) (qj v λb o n c=>ifB (ble n (Nat.div c 2)) (ifB (ble n 900000) (ifB (ble (Nat.succ b) h.1) (ifB (ble (Nat.add h.1 10) 1000000000) (onRow (hget h b) λ_ mm _ _ _ cw=>ifB (ble (Nat.add o n) mm) (BJ cw n o 0 λx=>some (.int .i64 (.ofNat x),h)))))))
theorem Tk {args:List Value} {v0:Value} (h0:args[0]?=some v0) (hl:args.length=1):args=[v0]:=by
 match args,hl with
 | [a],_=>simp at h0;rw[h0]
theorem A5 {args:List Value} {h:H} {r:Value × H} (hq:xl args h=some r):iE 471 args h r:=by unfold xl at hq;obtain⟨v,e0,hq⟩:=aP hq;obtain⟨hl,hq⟩:=ah hq;have hl:=Nat.eq_of_beq_eq_true hl;rw[cC] at hl;have ha:=Tk e0 hl;obtain⟨b,o,n,c,ev,hq⟩:=jh hq;obtain⟨q1,hq⟩:=ah hq;obtain⟨q2,hq⟩:=ah hq;obtain⟨q3,hq⟩:=ah hq;obtain⟨q4,hq⟩:=ah hq;obtain⟨e,mm,op,ro,fz,cw,hr,hq⟩:=bZ hq;obtain⟨q5,hq⟩:=ah hq;obtain⟨hs,hq⟩:=ke hq;have hq:=Option.some.inj hq;subst hq;have q4:h.next+10<=1000000000:=Nat.le_of_ble_eq_true q4;refine⟨rfl,_,rfl,λ_ _ q=>q,2,_,((eU.refl h).push (.row 430 1 false false 0 (T.ofList unk (cT ⟨b,o,none⟩ n c))) (by omega)).push (.row 430 1 false false 0 (T.ofList unk (cT ⟨b,o,none⟩ n c))) (by rw[ct];omega),λk=>?_⟩;rw[ha,ev];exact Bh 0 (Nat.le_of_ble_eq_true q1) hs (Nat.le_of_ble_eq_true q5) (Nat.le_of_ble_eq_true q2) (Nat.le_of_ble_eq_true q3) hr q4 k
def wq (args:List Value) (h:H):R:=
 nthF 0 args λv=>ifB (beq (lenF args) 1) (jN v λp at0 size=>onPtr p λ_=>ifB (ble h.1 1000000000) (some (.int .i64 (.ofNat size),h)))
theorem AG {args:List Value} {h:H} {r:Value × H} (hq:wq args h=some r):iE 369 args h r:=by unfold wq at hq;obtain⟨v,e0,hq⟩:=aP hq;obtain⟨hl,hq⟩:=ah hq;have hl:=Nat.eq_of_beq_eq_true hl;rw[cC] at hl;have ha:=Tk e0 hl;obtain⟨pv,at0,size,ev,hs,hat,hq⟩:=eZ hq;obtain⟨A,eA,hq⟩:=cj hq;obtain⟨q,hq⟩:=ah hq;have hq:=Option.some.inj hq;subst hq;refine⟨rfl,_,rfl,λ_ _ q=>q,1,_,(eU.refl h).push (.row 171 3 false false 0 (T.ofList unk (bj A at0 size))) (Nat.le_of_ble_eq_true q),λk=>?_⟩;rw[ha,ev,eA];exact Bv 0 (Nat.le_of_ble_eq_true q) k
theorem xB (A:Addr) (a s:Nat):ai (.agg ⟨bj A a s⟩) (.agg ⟨bj A a s⟩)=true:=by simp[bj,ai,iA,ow,fQ]
theorem Br (A:Addr):ai (.pointer (some A)) (.pointer (some A))=true:=by simp[ai,iA,fQ]
theorem Fi (A:Addr) (n c:Nat):ai (.slice (some A) n c) (.slice (some A) n c)=true:=by simp[ai,iA,fQ]
theorem Az (k:IntKind) (n:Int):ai (.int k n) (.int k n)=true:=by simp[ai,iA,fQ]
theorem acH (A:Addr) (a s:Nat) (k:R):ifB (ai (.agg ⟨bj A a s⟩) (.agg ⟨bj A a s⟩)) k=k:=gb (xB A a s) k
theorem Fq (A:Addr) (k:R):ifB (ai (.pointer (some A)) (.pointer (some A))) k=k:=gb (Br A) k
theorem ZT (A:Addr) (n c:Nat) (k:R):ifB (ai (.slice (some A) n c) (.slice (some A) n c)) k=k:=gb (Fi A n c) k
theorem EQ (kd:IntKind) (n:Int) (k:R):ifB (ai (.int kd n) (.int kd n)) k=k:=gb (Az kd n) k
theorem cells3 (A:Addr) (a s:Nat):ac (T.ofList unk (bj A a s)) 3 0=bj A a s:=by show [getF _ 0,getF _ 1,getF _ 2]=_;rw[aH,aH,aH];rfl
set_option maxHeartbeats 4000000 in
theorem QB (m:Nat) {h:H} {p:FQ} {b o n c i at0 size w:Nat} {s:List UInt8} {e mm fz:Nat} {op ro:Bool} {cw:T Value} (hin:i<n) (hi:i<=c / 2) (hs:pu cw o i) (hw:getF cw (o+i)=.int .i64 (.ofNat w)) (hm:o+i<mm) (hi2:i<=900000) (hb:b<h.next) (hq:hget h b=.row e mm op ro fz cw)
  (h1:mg cw i o 0+w<=size) (hsz:size<=4611686018427387904) (hat:at0<=4611686018427387904) (x:pA h p (at0+mg cw i o 0) w) (hby:cu (ac p.cq w ((at0+mg cw i o 0)%4096))=some s) (hwm:w=1 \/ w=2 \/ w=4 \/ w=8) (hn:h.next+60<=1000000000):
  ∃h',eU h h'/\∀k:Value->H->R,ax EE KK (m+9) 473 [.agg ⟨cT ⟨b,o,none⟩ n c⟩,.agg ⟨bj ⟨p.b,0,none⟩ at0 size⟩,.int .i64 (.ofNat i)] h k=k (.tuple ⟨[.int .u64 (.ofNat (U5 s 0 0)),.int .i64 (.ofNat 0)]⟩) h':=by
 have o1:eU h (ae h (.row 430 1 false false 0 (T.ofList unk (cT ⟨b,o,none⟩ n c)))):=(eU.refl h).push _ (by omega);generalize hh1:ae h (.row 430 1 false false 0 (T.ofList unk (cT ⟨b,o,none⟩ n c)))=g1 at o1;have n1:g1.next=h.next+1:=by rw[<-hh1];rfl
 have o2:eU g1 (ae g1 (.row 171 3 false false 0 (T.ofList unk (bj ⟨p.b,0,none⟩ at0 size)))):=(eU.refl g1).push _ (by omega);generalize hh2:ae g1 (.row 171 3 false false 0 (T.ofList unk (bj ⟨p.b,0,none⟩ at0 size)))=g2 at o2;have n2:g2.next=h.next+2:=by rw[<-hh2,ct,n1]
 have o3:eU g2 (ae g2 (.row 430 1 false false 0 (T.ofList unk (cT ⟨b,o,none⟩ n c)))):=(eU.refl g2).push _ (by omega);generalize hh3:ae g2 (.row 430 1 false false 0 (T.ofList unk (cT ⟨b,o,none⟩ n c)))=g3 at o3;have n3:g3.next=h.next+3:=by rw[<-hh3,ct,n2]
 have o13:eU h g3:=o1.trans (o2.trans o3);obtain⟨g4,o4,n4,hfat⟩:=za (m+6) (h:=g3) hin hi hs (Nat.le_of_lt hm) hi2 (Nat.lt_of_lt_of_le hb o13.1) (by rw[o13.2 _ hb,hq]) (by omega);obtain⟨g5,o5,hld⟩:=qX m (h:=g4) h1 hsz hat ((x.old o13).old o4) hby hwm (by omega);have r1:hget g1 h.next=.row 430 1 false false 0 (T.ofList unk (cT ⟨b,o,none⟩ n c)):=by rw[<-hh1,aB _ _ (by omega)]
 have r2:hget g2 h.next=.row 430 1 false false 0 (T.ofList unk (cT ⟨b,o,none⟩ n c)):=by rw[o2.2 _ (by omega),r1]
 have r3:hget g3 h.next=.row 430 1 false false 0 (T.ofList unk (cT ⟨b,o,none⟩ n c)):=by rw[o3.2 _ (by omega),r2]
 have r4:hget g4 h.next=.row 430 1 false false 0 (T.ofList unk (cT ⟨b,o,none⟩ n c)):=by rw[o4.2 _ (by omega),r3]
 have v2:hget g2 g1.next=.row 171 3 false false 0 (T.ofList unk (bj ⟨p.b,0,none⟩ at0 size)):=by rw[<-hh2,aB _ _ (by omega)]
 have v3:hget g3 g1.next=.row 171 3 false false 0 (T.ofList unk (bj ⟨p.b,0,none⟩ at0 size)):=by rw[o3.2 _ (by omega),v2]
 have v4:hget g4 g1.next=.row 171 3 false false 0 (T.ofList unk (bj ⟨p.b,0,none⟩ at0 size)):=by rw[o4.2 _ (by omega),v3]
 have b3:hget g3 b=.row e mm op ro fz cw:=by rw[o13.2 _ hb,hq]
 have b4:hget g4 b=.row e mm op ro fz cw:=by rw[o4.2 _ (by omega),b3]
 have k2:∀k,onRow (hget g2 h.next) k=k 430 1 false false 0 (T.ofList unk (cT ⟨b,o,none⟩ n c)):=λk=>by rw[r2];rfl
 have k3:∀k,onRow (hget g3 h.next) k=k 430 1 false false 0 (T.ofList unk (cT ⟨b,o,none⟩ n c)):=λk=>by rw[r3];rfl
 have k4:∀k,onRow (hget g4 h.next) k=k 430 1 false false 0 (T.ofList unk (cT ⟨b,o,none⟩ n c)):=λk=>by rw[r4];rfl
 have l3:∀k,onRow (hget g3 g1.next) k=k 171 3 false false 0 (T.ofList unk (bj ⟨p.b,0,none⟩ at0 size)):=λk=>by rw[v3];rfl
 have l4:∀k,onRow (hget g4 g1.next) k=k 171 3 false false 0 (T.ofList unk (bj ⟨p.b,0,none⟩ at0 size)):=λk=>by rw[v4];rfl
 have q3:∀k,onRow (hget g3 b) k=k e mm op ro fz cw:=λk=>by rw[b3];rfl
 have q4:∀k,onRow (hget g4 b) k=k e mm op ro fz cw:=λk=>by rw[b4];rfl
 have e0:getF (T.ofList unk (cT ⟨b,o,none⟩ n c)) 0=.slice (some ⟨b,o,none⟩) n c:=by rw[aH];rfl
 have w1:∀k,ax EE KK (m+8) 507 [.agg ⟨cT ⟨b,o,none⟩ n c⟩,.int .i64 (.ofNat i)] g2 k=k (.bool true) g3:=λk=>by rw[rR (m+7) hin (by omega),hh3]
 have FU:H.mk (Nat.add g3.1 0) g3.2=g3:=by cases g3;rfl
 refine⟨g5,o13.trans (o4.trans o5),λk=>?_⟩;rw[av5];unfold Ys;simp (disch:=first | omega | (simp only[Nat.add_eq,Nat.mul_eq,Nat.succ_eq_add_one];omega)) only[↓bW,↓Cz,↓dP,↓DC,↓am,↓aE];rw[hh1];simp (disch:=first | omega | (simp only[Nat.add_eq,Nat.mul_eq,Nat.succ_eq_add_one];omega)) only[↓bW,↓Aj,↓dP,↓Bn,↓am,↓aE];rw[hh2];simp (disch:=first | omega | (simp only[Nat.add_eq,Nat.mul_eq,Nat.succ_eq_add_one];omega)) only[↓k2,↓am];rw[oy];simp (disch:=first | omega | (simp only[Nat.add_eq,Nat.mul_eq,Nat.succ_eq_add_one];omega)) only[↓w1,↓az,↓ag,↓am,↓aE];rw[FU];simp (disch:=first | omega | (simp only[Nat.add_eq,Nat.mul_eq,Nat.succ_eq_add_one];omega)) only[↓l3,↓k3,↓am,↓bK];rw[e0];simp (disch:=first | omega | (simp only[Nat.add_eq,Nat.mul_eq,Nat.succ_eq_add_one];omega)) only[↓bP,↓am,↓bM,↓au,↓q3];have w2:∀k,ax EE KK (m+8) 508 [.agg ⟨cT ⟨b,o,none⟩ n c⟩,.int .i64 (.ofNat i)] g3 k=k (.int .i64 (.ofNat (mg cw i o 0))) g4:=hfat;have hmul:i.mul 1=i:=Nat.mul_one i;rw[oy,cells3,hmul,hw,w2];simp (disch:=first | omega | (simp only[Nat.add_eq,Nat.mul_eq,Nat.succ_eq_add_one];omega)) only[↓l4,↓am];rw[cells3];simp (disch:=first | omega | (simp only[Nat.add_eq,Nat.mul_eq,Nat.succ_eq_add_one];omega)) only[↓acH,↓Fq,↓k4,↓am];rw[e0];simp (disch:=first | omega | (simp only[Nat.add_eq,Nat.mul_eq,Nat.succ_eq_add_one];omega)) only[↓ZT,↓EQ,↓Fq,↓q4,↓am];rw[hw];simp (disch:=first | omega | (simp only[Nat.add_eq,Nat.mul_eq,Nat.succ_eq_add_one];omega)) only[↓EQ,↓hld,↓bA,↓bG,↓gO];rfl
def akI (args:List Value) (h:H):R:=
 nthF 0 args λvr=>nthF 1 args λvv=>nthF 2 args λvi=>ifB (beq (lenF args) 3) (eH vi λi=>qj vr λb o n c=>
 ifB (ble (Nat.succ i) n) (ifB (ble i (Nat.div c 2)) (ifB (ble i 900000) (ifB (ble (Nat.succ b) h.1) (ifB (ble (Nat.add h.1 60) 1000000000) (
 onRow (hget h b) λ_ mm _ _ _ cw=>ifB (ble (Nat.succ (Nat.add o i)) mm) (eH (getF cw (Nat.add o i)) λw=>ifB (beq w 1||beq w 2||beq w 4||beq w 8) (
 BJ cw i o 0 λx=>jN vv λp at0 size=>ifB (ble (Nat.add x w) size) (fcN (Nat.add at0 x) λa=>
 SQ p a w h λcq=>ldQ cq w (Nat.mod a 4096) 0 0 λy=>some (.tuple ⟨[.int .u64 (.ofNat y),.int .i64 (.ofNat 0)]⟩,h))))))))))
theorem Lr {args:List Value} {h:H} {r:Value × H} (hq:akI args h=some r):iE 473 args h r:=by
 unfold akI at hq;obtain⟨vr,e0,hq⟩:=aP hq;obtain⟨vv,e1,hq⟩:=aP hq;obtain⟨vi,e2,hq⟩:=aP hq;obtain⟨hl,hq⟩:=ah hq;have hl:=Nat.eq_of_beq_eq_true hl;rw[cC] at hl;have ha:=nD e0 e1 e2 hl;obtain⟨i,ei,hq⟩:=bD hq;obtain⟨b,o,n,c,er,hq⟩:=jh hq;obtain⟨q1,hq⟩:=ah hq;obtain⟨q2,hq⟩:=ah hq;obtain⟨q3,hq⟩:=ah hq;obtain⟨q4,hq⟩:=ah hq;obtain⟨q5,hq⟩:=ah hq;obtain⟨e,mm,op,ro,fz,cw,hrow,hq⟩:=bZ hq;obtain⟨q6,hq⟩:=ah hq;obtain⟨w,hw,hq⟩:=bD hq;obtain⟨hm,hq⟩:=ah hq;obtain⟨hs,hq⟩:=ke hq;obtain⟨pv,at0,size,ev,hsz,hat,hq⟩:=eZ hq;obtain⟨q7,hq⟩:=ah hq;rw[pO] at hq;obtain⟨p,ep,hok,_,hq⟩:=iG hq;obtain⟨s,hs2,hq⟩:=ma (j:=0) hq rfl;have hq:=Option.some.inj hq;subst hq;have hm:w=1 \/ w=2 \/ w=4 \/ w=8:=by
  simp only[Bool.or_eq_true] at hm;rcases hm with ((q | q) | q) | q
  ·exact .inl (Nat.eq_of_beq_eq_true q)
  ·exact .inr (.inl (Nat.eq_of_beq_eq_true q))
  ·exact .inr (.inr (.inl (Nat.eq_of_beq_eq_true q)))
  ·exact .inr (.inr (.inr (Nat.eq_of_beq_eq_true q)))
 obtain⟨h',ho,hk⟩:=QB 0 (n:=n) (c:=c) (Nat.le_of_ble_eq_true q1) (Nat.le_of_ble_eq_true q2) hs hw (Nat.le_of_ble_eq_true q6) (Nat.le_of_ble_eq_true q3) (Nat.le_of_ble_eq_true q4) hrow (Nat.le_of_ble_eq_true q7) hsz hat hok hs2 hm (Nat.le_of_ble_eq_true q5);refine⟨rfl,_,rfl,λ_ _ q=>q,9,h',ho,λk=>?_⟩;rw[ha,er,ev,ep,ei];exact hk k
end Go.Ev
namespace Go.Ev
open Go F Go.Proofs
set_option maxHeartbeats 2000000 in
theorem pi (n:Nat) {h:H} {p:FQ} {at0 size a m:Nat} {s:List UInt8} (h1:a+m<=size) (hs:size<=4611686018427387904) (hat:at0<=4611686018427387904) (x:pA h p (at0+a) m) (hby:cu (ac p.cq m ((at0+a)%4096))=some s) (hroom:h.next+30<=1000000000):
  ∃h',eU h h'/\∀k:Value->H->R,ax EE KK (n+7) 470 [.agg ⟨bj ⟨p.b,0,none⟩ at0 size⟩,.int .i64 (.ofNat a),.int .i64 (.ofNat m)] h k=k (.tuple ⟨[.string ⟨⟨s⟩⟩,.int .i64 (.ofNat 0)]⟩) h':=by
 have o1:eU h (ae h (.row 171 3 false false 0 (T.ofList unk (bj ⟨p.b,0,none⟩ at0 size)))):=(eU.refl h).push _ (by omega);generalize hh1:ae h (.row 171 3 false false 0 (T.ofList unk (bj ⟨p.b,0,none⟩ at0 size)))=g1 at o1;have n1:g1.next=h.next+1:=by rw[<-hh1];rfl
 have o2:eU g1 (ae g1 (.row 171 3 false false 0 (T.ofList unk (bj ⟨p.b,0,none⟩ at0 size)))):=(eU.refl g1).push _ (by omega);generalize hh2:ae g1 (.row 171 3 false false 0 (T.ofList unk (bj ⟨p.b,0,none⟩ at0 size)))=g2 at o2;have n2:g2.next=h.next+2:=by rw[<-hh2,ct,n1]
 have r1:hget g1 h.next=.row 171 3 false false 0 (T.ofList unk (bj ⟨p.b,0,none⟩ at0 size)):=by rw[<-hh1,aB _ _ (by omega)]
 have r2:hget g2 h.next=.row 171 3 false false 0 (T.ofList unk (bj ⟨p.b,0,none⟩ at0 size)):=by rw[o2.2 _ (by omega),r1]
 have k1:∀k,onRow (hget g1 h.next) k=k 171 3 false false 0 (T.ofList unk (bj ⟨p.b,0,none⟩ at0 size)):=λk=>by rw[r1];rfl
 have k2:∀k,onRow (hget g2 h.next) k=k 171 3 false false 0 (T.ofList unk (bj ⟨p.b,0,none⟩ at0 size)):=λk=>by rw[r2];rfl
 have e0:getF (T.ofList unk (bj ⟨p.b,0,none⟩ at0 size)) 0=.pointer (some ⟨p.b,0,none⟩):=by rw[aH];rfl
 have e1:getF (T.ofList unk (bj ⟨p.b,0,none⟩ at0 size)) 1=.int .i64 (.ofNat at0):=by rw[aH];rfl
 have m1:=x.m1;obtain⟨h',ho,hx,hl⟩:=j8 n ((x.old o1).old o2) hby (by omega);refine⟨h',o1.trans (o2.trans ho),λk=>?_⟩;have w2:∀k,ax EE KK (n+6) 278 [.agg ⟨bj ⟨p.b,0,none⟩ at0 size⟩,.int .i64 (.ofNat a),.int .i64 (.ofNat m)] g1 k=k (.int .i64 (.ofNat 0)) g2:=λk=>by rw[kM (n+5) h1 hs (by omega),hh2]
 rw[bE,Ce];unfold Ts;simp (disch:=first | omega | (simp only[Nat.add_eq,Nat.mul_eq,Nat.succ_eq_add_one];omega)) only[↓bW,↓Aj,↓dP,↓Bn,↓am,↓aE];rw[hh1];simp (disch:=first | omega | (simp only[Nat.add_eq,Nat.mul_eq,Nat.succ_eq_add_one];omega)) only[↓k1,↓am];rw[cells3];simp (disch:=first | omega | (simp only[Nat.add_eq,Nat.mul_eq,Nat.succ_eq_add_one];omega)) only[↓w2,↓ve tI,↓ag,↓ar,↓k2,↓am];rw[show Nat.add 0 1=1 from rfl,e0,e1];simp (disch:=first | omega | (simp only[Nat.add_eq,Nat.mul_eq,Nat.succ_eq_add_one];omega)) only[↓cf dl,↓hl,↓bA,↓bG,↓gO];rfl
def ry (args:List Value) (h:H):R:=
 nthF 0 args λv=>nthF 1 args λva=>nthF 2 args λvm=>ifB (beq (lenF args) 3) (eH va λa=>eH vm λm=>
 jN v λp at0 size=>ifB (ble (Nat.add a m) size) (ifB (ble (Nat.add h.1 30) 1000000000) (fcN (Nat.add at0 a) λb=>
 SQ p b m h λc=>Bool.rec (motive:=λ_=>R) (ifB (pB c) (some (.tuple ⟨[unk,.int .i64 (.ofNat 0)]⟩,h)))
  (OA c m (Nat.mod b 4096) λs=>some (.tuple ⟨[.string ⟨⟨s⟩⟩,.int .i64 (.ofNat 0)]⟩,h)) (ble m 12))))
theorem wi {args:List Value} {h:H} {r:Value × H} (hq:ry args h=some r):iE 470 args h r:=by
 unfold ry at hq;obtain⟨v,e0,hq⟩:=aP hq;obtain⟨va,e1,hq⟩:=aP hq;obtain⟨vm,e2,hq⟩:=aP hq;obtain⟨hl,hq⟩:=ah hq;have hl:=Nat.eq_of_beq_eq_true hl;rw[cC] at hl;have ha:=nD e0 e1 e2 hl;obtain⟨a,ea,hq⟩:=bD hq;obtain⟨m,em,hq⟩:=bD hq;obtain⟨pv,at0,size,ev,hs,hat,hq⟩:=eZ hq;obtain⟨hsz,hq⟩:=ah hq;obtain⟨hroom,hq⟩:=ah hq;rw[pO] at hq;obtain⟨p,ep,hok,_,hq⟩:=iG hq;cases hm:ble m 12 with
 | false=>
  rw[hm] at hq;obtain⟨hb,hq⟩:=ah hq;obtain⟨s,hs2⟩:=jl hb m ((at0+a)%4096);have hq:=Option.some.inj hq;subst hq;obtain⟨h',ho,hk⟩:=pi 0 (Nat.le_of_ble_eq_true hsz) hs hat hok hs2 (Nat.le_of_ble_eq_true hroom);refine⟨rfl,.tuple ⟨[.string ⟨⟨s⟩⟩,.int .i64 (.ofNat 0)]⟩,rfl,λρ u q=>?_,7,h',ho,λk=>?_⟩
  ·obtain⟨l,rfl,hl⟩:=q.tuple
   match l,hl with
   | [u1,u2],⟨_,h2,_⟩=>exact .inr ⟨_,_,rfl,rfl,.inl (.inl rfl),h2,trivial⟩
  ·rw[ha,ev,ep,ea,em];exact hk k
 | true=>
 rw[hm] at hq;obtain⟨s,hs2,hq⟩:=mo hq;have hq:=Option.some.inj hq;subst hq;obtain⟨h',ho,hk⟩:=pi 0 (Nat.le_of_ble_eq_true hsz) hs hat hok hs2 (Nat.le_of_ble_eq_true hroom);refine⟨rfl,_,rfl,λ_ _ q=>q,7,h',ho,λk=>?_⟩;rw[ha,ev,ep,ea,em];exact hk k
end Go.Ev
namespace Go.Ev
open Go F Go.Proofs
def KN:ak:=(((kw.ins 40 309 (some vV)).ins 40 17 (some rx)).ins 40 269 (some Dv)).ins 40 267 (some (quick EE KK 100 267 wT))
def E1:Env:=EX KN
theorem Sx:aI KN:=
 ay (ay (ay (ay Ad (by decide) (Ag fy)) (by decide) (wm fy)) (by decide) (Qb fy)) (by decide) (dL fy fy λ_ _ _ h=>Ai h)
theorem auu:fq Tryz.prog E1 bN:=fF KN Sx
def G8:ak:=KN.ins 40 206 (some (quick E1 KK 100 206 xg))
def E2:Env:=EX G8
theorem SB:aI G8:=ay Sx (by decide) (dL fy auu λ_ _ _ h=>Bu h)
theorem aqd:fq Tryz.prog E2 bN:=fF G8 SB
def Mu:ak:=G8.ins 40 383 (some (quick E2 KK 100 383 Fu))
def E3:Env:=EX Mu
theorem SI:aI Mu:=ay SB (by decide) (dL fy aqd λ_ _ _ h=>BR h)
theorem D4:fq Tryz.prog E3 bN:=fF Mu SI
def HL:ak:=((Mu.ins 40 288 (some (quick E3 KK 100 288 vS))).ins 40 278 (some (quick E3 KK 100 278 sn))).ins 40 277 (some (quick E3 KK 100 277 rI))
def E4:Env:=EX HL
theorem Te:aI HL:=
 ay (ay (ay SI (by decide) (dL fy D4 λ_ _ _ h=>Ax h)) (by decide) (dL fy D4 λ_ _ _ h=>wJ h)) (by decide) (dL fy D4 λ_ _ _ h=>wD h)
theorem tB:fq Tryz.prog E4 bN:=fF HL Te
def Fy:ak:=((((HL.ins 40 507 (some (quick E4 KK 100 507 amj))).ins 40 506 (some (quick E4 KK 100 506 wn))).ins 40 508 (some (quick E4 KK 100 508 al2))).ins 40 471 (some (quick E4 KK 100 471 xl))).ins 40 369 (some (quick E4 KK 100 369 wq))
theorem Sw:aI Fy:=
 ay (ay (ay (ay (ay Te (by decide) (dL fy tB λ_ _ _ h=>Rw h)) (by decide) (dL fy tB λ_ _ _ h=>AB h)) (by decide) (dL fy tB λ_ _ _ h=>F1 h)) (by decide) (dL fy tB λ_ _ _ h=>A5 h)) (by decide) (dL fy tB λ_ _ _ h=>AG h)
theorem avp:fq Tryz.prog (EX Fy) bN:=fF Fy Sw
def Cn:ak:=Fy.ins 40 473 (some (quick (EX Fy) KK 100 473 akI))
theorem S5:aI Cn:=ay Sw (by decide) (dL fy avp λ_ _ _ h=>Lr h)
theorem apw:fq Tryz.prog (EX Cn) bN:=fF Cn S5
def ao9:ak:=Cn.ins 40 470 (some (quick (EX Cn) KK 100 470 ry))
theorem ar5:aI ao9:=ay S5 (by decide) (dL fy apw λ_ _ _ h=>wi h)
def aas:ak:=(ao9.ins 40 76 (some mn)).ins 40 170 (some hT)
theorem n312:eu Tryz.prog 76 Extern.BytealgCount.count:=⟨FA 76,by kernel_rfl,by kernel_rfl,by kernel_rfl,by kernel_rfl,by kernel_rfl⟩
theorem n330:eu Tryz.prog 170 Extern.BytealgIndexByte.indexByte:=⟨FA 170,by kernel_rfl,by kernel_rfl,by kernel_rfl,by kernel_rfl,by kernel_rfl⟩
theorem S6:aI aas:=ay (ay ar5 (by decide) (EP n312)) (by decide) (ru n330)
def u8L (l:List Nat):List Value:=List.rec (motive:=λ_=>List Value) [] (λa _ ih=>.int .u8 (.ofNat a) :: ih) l
def xv (l:List Nat):List Value:=List.rec (motive:=λ_=>List Value) [] (λa _ ih=>.int .u64 (.ofNat a) :: ih) l
def l32:List Nat:=[0,1,28,2,29,14,24,3,30,22,20,15,25,17,4,8,31,27,13,23,21,19,16,7,26,12,18,6,11,5,10,9]
def l64:List Nat:=[0,1,56,2,57,49,28,3,61,58,42,50,38,29,17,4,62,47,59,36,45,43,51,22,53,39,33,30,24,18,12,5,63,55,48,27,60,41,37,16,46,35,44,21,52,32,23,11,54,26,40,15,34,20,31,10,25,14,19,9,13,8,7,6]
def l20:List Nat:=[1,10,100,1000,10000,100000,1000000,10000000,100000000,1000000000,10000000000,100000000000,1000000000000,10000000000000,100000000000000,1000000000000000,10000000000000000,100000000000000000,1000000000000000000,10000000000000000000]
def glob:List AO:=[.dead,.row 227 20 false true 0 (T.ofList undef (xv l20)),.dead,.dead,.dead,.dead,.row 403 32 false true 0 (T.ofList undef (u8L l32)),.row 404 64 false true 0 (T.ofList undef (u8L l64))]
theorem gX:BD glob=true:=by kernel_rfl
def Wh:ak:=aas.ins 40 562 (some (be glob))
def Em:ak:=Wh.ins 40 558 (some (be glob))
def abj:ak:=Em.ins 40 553 (some (be glob))
def Ef:ak:=abj.ins 40 547 (some (be glob))
def ahp:ak:=Ef.ins 40 538 (some (be glob))
def EU:ak:=ahp.ins 40 528 (some (be glob))
def Z7:ak:=EU.ins 40 501 (some (be glob))
def Cb:ak:=Z7.ins 40 444 (some (be glob))
def XY:ak:=Cb.ins 40 650 (some (be glob))
def CO:ak:=XY.ins 40 648 (some (be glob))
def WF:ak:=CO.ins 40 651 (some (be glob))
def C4:ak:=WF.ins 40 649 (some (be glob))
def am8:ak:=C4.ins 40 646 (some (be glob))
def D7:ak:=am8.ins 40 642 (some (be glob))
def abD:ak:=D7.ins 40 640 (some (be glob))
def DL:ak:=abD.ins 40 638 (some (be glob))
def ae3:ak:=DL.ins 40 637 (some (be glob))
def Cr:ak:=ae3.ins 40 634 (some (be glob))
def ali:ak:=Cr.ins 40 641 (some (be glob))
def FJ:ak:=ali.ins 40 639 (some (be glob))
def aey:ak:=FJ.ins 40 636 (some (be glob))
def CB:ak:=aey.ins 40 633 (some (be glob))
def ag3:ak:=CB.ins 40 630 (some (be glob))
def Dn:ak:=ag3.ins 40 628 (some (be glob))
def Wj:ak:=Dn.ins 40 631 (some (be glob))
def Dj:ak:=Wj.ins 40 629 (some (be glob))
def ae4:ak:=Dj.ins 40 624 (some (be glob))
def Eh:ak:=ae4.ins 40 618 (some (be glob))
def Uu:ak:=Eh.ins 40 609 (some (be glob))
def DR:ak:=Uu.ins 40 600 (some (be glob))
def afr:ak:=DR.ins 40 579 (some (be glob))
def C7:ak:=afr.ins 40 573 (some (be glob))
def adA:ak:=C7.ins 40 594 (some (be glob))
def FM:ak:=adA.ins 40 590 (some (be glob))
def acA:ak:=FM.ins 40 592 (some (be glob))
def BE:ak:=acA.ins 40 585 (some (be glob))
def acz:ak:=BE.ins 40 580 (some (be glob))
def DN:ak:=acz.ins 40 574 (some (be glob))
def Ye:ak:=DN.ins 40 559 (some (be glob))
def C2:ak:=Ye.ins 40 554 (some (be glob))
def Wx:ak:=C2.ins 40 352 (some (be glob))
def Fe:ak:=Wx.ins 40 252 (some (be glob))
def ah3:ak:=Fe.ins 40 581 (some (be glob))
def El:ak:=ah3.ins 40 575 (some (be glob))
def aaY:ak:=El.ins 40 582 (some (be glob))
def Fg:ak:=aaY.ins 40 576 (some (be glob))
def aam:ak:=Fg.ins 40 570 (some (be glob))
def CY:ak:=aam.ins 40 564 (some (be glob))
def aeS:ak:=CY.ins 40 560 (some (be glob))
def Di:ak:=aeS.ins 40 555 (some (be glob))
def ac2:ak:=Di.ins 40 549 (some (be glob))
def B4:ak:=ac2.ins 40 541 (some (be glob))
def ak5:ak:=B4.ins 40 531 (some (be glob))
def ER:ak:=ak5.ins 40 519 (some (be glob))
def amL:ak:=ER.ins 40 494 (some (be glob))
def C6:ak:=amL.ins 40 439 (some (be glob))
def afO:ak:=C6.ins 40 351 (some (be glob))
def DI:ak:=afO.ins 40 251 (some (be glob))
def ac3:ak:=DI.ins 40 161 (some (be glob))
def EA:ak:=ac3.ins 40 93 (some (be glob))
def X4:ak:=EA.ins 40 73 (some (be glob))
def Cd:ak:=X4.ins 40 52 (some (be glob))
def TR:ak:=Cd.ins 40 25 (some (be glob))
def BF:ak:=TR.ins 40 12 (some (be glob))
def uz:ak:=BF.ins 40 5 (some (be glob))
def aG (t:ak) (f:FuncId):Prop:=Tc t 1000 f [] (eS glob) (λv _=>some (v,eS glob))=some (.bool true,eS glob)
end Go.Ev
