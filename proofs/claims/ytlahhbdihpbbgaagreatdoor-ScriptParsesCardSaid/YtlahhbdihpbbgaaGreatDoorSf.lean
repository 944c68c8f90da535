/-
  A COMMAND OF A LINE's WORDS, by the reference.
-/
import Derived.Test.YtlahhbdihpbbgaaGreatDoorSd
noncomputable section
set_option linter.unusedVariables false
set_option linter.unusedSimpArgs false
set_option maxRecDepth 100000
set_option exponentiation.threshold 3000
open Nat (ble beq)
namespace Go.Ev
open Go F Go.Proofs
def EnvO:Env:=EX xR
theorem E0e:EnvO=EX xR:=rfl
theorem us0:US EnvO:=⟨by kernel_rfl,by kernel_rfl,by kernel_rfl⟩
theorem auJ:Ad EnvO 30 9 1 ((EnvO.info 9).getD default) [.string ⟨⟨[]⟩⟩]:=⟨by kernel_rfl,by kernel_rfl,by kernel_rfl,of_decide_eq_true (by kernel_rfl),by kernel_rfl,rfl,by decide,by decide⟩
theorem asS {ty:TypeId} {d:TypeDesc} (hu:EnvO.und ty=some d) (ha:gt d=true) (hz:EnvO.size ty=some 9):∀(h:H) (b:Nat) (op ro:Bool) (fz:Nat) (cells:T Value),hget h b=.row ty 9 op ro fz cells->aU EnvO h ty ⟨b,0,none⟩=some (.agg ⟨ac cells 9 0⟩):=by intro h b op ro fz cells e;rw[bI] at e;unfold aU;simp only[hu,hz,e,ha,cond_true,dS];rfl
theorem arE (a:Int) (c:Nat):cg EnvO 34 [(0,.int .i64 a),(1,.int .u8 (.ofNat c))]=some (.agg ⟨[.int .i64 a,.int .u8 (.ofNat c),.string (ByteArray.mk #[]),.slice none 0 0,.int .i64 (.ofNat 0),.int .i64 (.ofNat 0),.int .i64 (.ofNat 0),.int .u8 (.ofNat 0),.slice none 0 0]⟩):=by kernel_rfl
theorem ast:∀(h:H) (b:Nat) (op ro:Bool) (fz:Nat) (cells:T Value),hget h b=.row 34 9 op ro fz cells->aU EnvO h 34 ⟨b,0,none⟩=some (.agg ⟨ac cells 9 0⟩):=asS (d:=(EnvO.und 34).getD .bool) (by kernel_rfl) (by kernel_rfl) (by kernel_rfl)
theorem ce0:CE EnvO 34:={ us0 with
 u24:=by kernel_rfl
 u30:=by kernel_rfl
 z9:=by kernel_rfl
 load:=ast
 build:=arE }
theorem arH {E:Env} {i30:TypeInfo} (T1:Ad E 30 9 1 i30 [.string ⟨⟨[]⟩⟩]) {h:H} {v:Value} {l:List Bs} (o:SO h v l) (hn:h.next+1<=1000000000) (hl:l.length<=9000):
  ∃v' h',bu E h .append [.slice none 0 0,v] [30,30]=some (v',h')/\SO h' v' l/\Fr h h' 1/\∀b,dn v'=some b->h.next<=b:=by
 have hnum:ip E [30]=some false:=by simp only[ip,T1.u]
 obtain⟨s',hs'⟩:∃s',i30.size=s'+1:=⟨0,by rw[T1.sz]⟩;have hs1:s'+1=1:=by rw[<-hs',T1.sz]
 have hbt:=T1.bt;unfold SO at o;generalize hln:l.length=n at o;generalize hL:l.map aF=L at o;cases o with
 | nil=>
  obtain rfl:l=[]:=List.length_eq_zero_iff.1 hln;refine⟨.slice none 0 0,h,?_,.nil,Fr.refl _ _,λb hb=>nomatch hb⟩;have hnews:kI h (s'+1) [.string ⟨⟨[]⟩⟩] false (.slice none 0 0)=some (0,[]):=by simp[kI,gZ,lV]
  have hzb:beq ([Value.string ⟨⟨[]⟩⟩]:List Value).length (s'+1)=true:=lI (by rw[hs1];rfl);simp only[bu,hnum,gn,T1.u,T1.inf,T1.zc,hs',hnews,hzb,Bool.and_true,Nat.zero_mul,Nat.zero_div,Nat.add_zero,show ble 0 1000000000=true from rfl,Bool.and_self,cond_true,show ble 0 0=true from rfl,Nat.beq_refl]
 | row hb hq hLn hc hp=>
  rename_i b fz op cells;have hLl:L.length=n:=by rw[<-hL,List.length_map,hln]
  have hcl:br cells 0 (n*1)=L:=by rw[Nat.mul_one,<-hLl];exact fN L cells 0 λi hi=>by rw[Nat.zero_add,<-cL];exact hc i hi
  have hnews:kI h (s'+1) [.string ⟨⟨[]⟩⟩] false (.slice (some ⟨b,0,none⟩) n (2*n+op.toNat))=some (n,L):=by
   have hq':h.objs.get b=.row 9 (n*1) op false 0 cells:=by rw[<-bI];exact hq
   rw[hs1];simp only[kI,cond_false,gZ,lV,hq',be (show 0+n*1<=n*1 by omega),cond_true,hcl]
  have hzb:beq ([Value.string ⟨⟨[]⟩⟩]:List Value).length (s'+1)=true:=lI (by rw[hs1];rfl);have b1:ble (n*(i30.bytes+1)) 1000000000=true:=be (Nat.le_trans (Nat.mul_le_mul (show n<=9000 by omega) (show i30.bytes+1<=1001 by omega)) (by decide));have b2:ble (n*(s'+1)) 1000000000=true:=be (by rw[hs1];omega);have b3:ble n 0=false:=gG hp;have b4:room h=true:=be (by omega);refine⟨.slice (some ⟨h.next,0,none⟩) n (2*n+1),ag h (.row 9 (n*1) true false 0 (T.ofList unk L)),?_,?_,Fr.push _ (by omega),λc hc=>by cases hc;exact Nat.le_refl _⟩
  ·rw[cV];simp only[bu,hnum,gn,T1.u,T1.inf,T1.zc,hs',hnews,hzb,Bool.and_true,Nat.zero_add,b1,b2,Bool.and_self,cond_true,Nat.zero_div,b3,cond_false,b4,Nat.beq_refl];simp only[hs1]
  ·unfold SO;rw[hL,hln];exact .row (n:=n) (op:=true) (fz:=0) (show h.next<h.next+1 by omega) (aD _ _ (by omega)) hLn (λi hi=>aL _ _) hp
section
theorem atg {h:H} {ty b j j1:Nat} {cells:T Value} {v:Value} (hq:hget h b=.row ty 9 false false 0 cells) (hj:j1=j+1) (hj9:j1<=9) (hv:cell1F v=true) (K:H->R):
  (onRow (hget h b) λs t u v1 w x=>ifB (notB v1) (ifB (beq (lenF [v]) 1) (ifB (ble w j) (ifB (ble j1 t) (ifB (ble t 1000000000) (ifB (allF (λy=>cell1F y) [v]) (letH (hset h b (.row s t u false w (putF x j [v]))) K)))))))=K (hset h b (.row ty 9 false false 0 (putF cells j [v]))):=by
 rw[hq,dQ,dF (c:=notB false) rfl,dF (c:=beq (lenF [v]) 1) rfl,au (Nat.zero_le _),au hj9,au (by omega),dF (show allF (λy=>cell1F y) [v]=true by
  show Bool.rec (motive:=λ_=>Bool) false true (cell1F v)=true
  rw[hv]),aJ]
structure CV (h:H) (b:Nat) (x:iq) (on tx:Value):Prop where
 lt:b<h.next
 ex:∃cells,hget h b=.row 34 9 false false 0 cells/\∀i,i<9->getF cells i=(dJ x on tx).getD i unk
 s1:SO h on x.on
 s2:SO h tx x.texts
theorem CV.put {h:H} {b j:Nat} {x y:iq} {cells:T Value} {on tx on' tx' v:Value} (lt:b<h.next) (hs:h.next<=1000000000) (hj:j<=8) (hq:hget h b=.row 34 9 false false 0 cells) (hc:∀i,i<9->getF cells i=(dJ x on tx).getD i unk) (h1:SO h on' y.on) (h2:SO h tx' y.texts)
  (hy:∀i,i<9->(if i=j then v else (dJ x on tx).getD i unk)=(dJ y on' tx').getD i unk):CV (hset h b (.row 34 9 false false 0 (putF cells j [v]))) b y on' tx':=by
 have hk:∀w l,SO h w l->SO (hset h b (.row 34 9 false false 0 (putF cells j [v]))) w l:=λw l o=>o.keep (Nat.le_refl _) λc hc hl=>by rw[cu _ _ _ _ (by omega),if_neg];intro e;subst e;obtain⟨n,op,cs,e⟩:=o.row9 hc;rw[hq] at e;cases e
 refine⟨lt,⟨_,cm _ _ _ (by omega),λi hi=>?_⟩,hk _ _ h1,hk _ _ h2⟩;rw[xp _ (by omega),hc i hi];exact hy i hi
def to (h:H) (k:Value->H->R) (X:R):Except Nat iq->Prop
 |.ok y=>∃h' on tx,Fr h h' 8/\X=k (.tuple ⟨[.agg ⟨dJ y on tx⟩,.int .i64 (.ofNat 0)]⟩) h'/\SO h' on y.on/\SO h' tx y.texts
 |.error er=>∃h' L,Fr h h' 8/\X=k (.tuple ⟨[.agg ⟨L⟩,.int .i64 (.ofNat er)]⟩) h'/\L.length=9/\L.all cell1F=true
variable {rc : RC}
theorem auk {l:H} {b0 b1:Nat} {y:iq} {on tx:Value} {cz:T Value} (cv:CV l b0 y on tx) (hz:hget l b1=.row 34 9 false false 0 cz) (hb1:b1<=1000000000) (m:Nat) (k:Value->H->R):
  (onRow (hget l b0) λ_ c _ _ _ d=>ifB (ble 9 c) (onRow (hget l b1) λe f g i j l'=>ifB (notB i) (ifB (beq (lenF (ac d 9 0)) 9) (ifB (ble j 0) (ifB (ble 9 f) (ifB (ble f 1000000000) (ifB (allF (λm=>cell1F m) (ac d 9 0)) (letH (hset l b1 (.row e f g false j (putF l' 0 (ac d 9 0))))
   λu=>bindO (aU EnvO u 34 (Addr.mk b1 0 none)) λv=>ifB (nT [v,.int .i64 (.ofNat m)]) (k (.tuple ⟨[v,.int .i64 (.ofNat m)]⟩) u)))))))))
  = k (.tuple ⟨[.agg ⟨dJ y on tx⟩,.int .i64 (.ofNat m)]⟩) (hset l b1 (.row 34 9 false false 0 (putF cz 0 (dJ y on tx)))):=by
 obtain⟨lt,⟨cells,hq,hc⟩,s1,s2⟩:=cv;have hl:ac cells 9 0=dJ y on tx:=Zn rfl hc;rw[show (onRow (hget l b0):_)=onRow (.row 34 9 false false 0 cells) by rw[hq],dQ,dF (c:=ble 9 9) rfl,hl,AV hz rfl (j4 s1 s2),ast _ _ false false 0 _ (cm _ _ _ hb1),bw,jj _ rfl];rfl
section
variable {h : H} {x : iq} {on tx : Value} {k : Value -> H -> R} {X : R} {w : Bs}
theorem atj (hn:h.next<=800000000) (s1:SO h on x.on) (s2:SO h tx x.texts):∃h2,ag (ag h (.row 34 9 false false 0 (T.ofList unk (dJ x on tx)))) (.row 34 9 false false 0 (T.ofList unk aO))=h2/\h2.next=h.next+2/\Fr h h2 2/\CV h2 h.next x on tx/\hget h2 (h.next+1)=.row 34 9 false false 0 (T.ofList unk aO):=by
 have f1:Fr h (ag h (.row 34 9 false false 0 (T.ofList unk (dJ x on tx)))) 1:=Fr.push _ (by omega);have e1:hget (ag h (.row 34 9 false false 0 (T.ofList unk (dJ x on tx)))) h.next=.row 34 9 false false 0 (T.ofList unk (dJ x on tx)):=aD _ _ (by omega);have n1:(ag h (.row 34 9 false false 0 (T.ofList unk (dJ x on tx)))).next=h.next+1:=rfl;generalize ag h (.row 34 9 false false 0 (T.ofList unk (dJ x on tx)))=h1 at f1 e1 n1 ⊢;have f2:Fr h1 (ag h1 (.row 34 9 false false 0 (T.ofList unk aO))) 1:=Fr.push _ (by omega);refine⟨_,rfl,by show h1.next+1=_;omega,f1.trans f2 (Nat.le_refl _),⟨by show h.next<h1.next+1;omega,⟨_,(f2.old _ (by omega)).trans e1,λi _=>aL _ _⟩,?_,?_⟩,?_⟩
 ·exact (s1.keep f1.le λb _ hl=>f1.old b hl).keep f2.le λb _ hl=>f2.old b hl
 ·exact (s2.keep f1.le λb _ hl=>f1.old b hl).keep f2.le λb _ hl=>f2.old b hl
 ·rw[<-n1];exact aD _ _ (by omega)
structure aiD (rc:RC):Prop where
 num:∀(w:Bs) (h:H) (k:Value->H->R),w.length<=100000->rc 43 [aF w] h k=k (.tuple ⟨[.int .i64 (.ofNat (cC w).1),.int .i64 (.ofNat (cC w).2)]⟩) h
 kind:∀(w:Bs) (h:H) (k:Value->H->R) (X:R),h.next<=900000000->rc 67 [aF w] h k=X->∃h',X=k (if jq w ch<5 then .int .i64 (.ofNat (jq w ch)) else .int .i64 (.negSucc 0)) h'/\Fr h h' 1
 text:∀(w:Bs) (h:H) (k:Value->H->R),rc 68 [aF w] h k=k (aF (rS w)) h
theorem atI {h2 l:H} {j:Nat} {y:iq} {on' tx' v:Value} {n:Nat} (hn2:l.next<=900000000) (f:Fr h l n) (hlt:h.next+1<l.next) (cv:CV l h.next x on tx) (hz:hget l (h.next+1)=.row 34 9 false false 0 (T.ofList unk aO)) (hj:j<=8) (hv:cell1F v=true) (h1:SO l on' y.on) (h2':SO l tx' y.texts)
  (hy:∀i,i<9->(if i=j then v else (dJ x on tx).getD i unk)=(dJ y on' tx').getD i unk):
  ∃cells,hget l h.next=.row 34 9 false false 0 cells/\CV (hset l h.next (.row 34 9 false false 0 (putF cells j [v]))) h.next y on' tx'/\hget (hset l h.next (.row 34 9 false false 0 (putF cells j [v]))) (h.next+1)=.row 34 9 false false 0 (T.ofList unk aO):=by
 obtain⟨lt,⟨cells,hq,hc⟩,s1,s2⟩:=cv;refine⟨cells,hq,CV.put lt (by omega) hj hq hc h1 h2' hy,?_⟩;rw[ar3 _ _ (by omega) (by omega)];exact hz
theorem aut {l:H} {n:Nat} {y:iq} {on' tx':Value} (f:Fr h l n) (hn8:n<=8) (hlt:h.next+1<l.next) (hn2:l.next<=900000000) (cells:T Value) (j:Nat) (v:Value) (s1:SO (hset l h.next (.row 34 9 false false 0 (putF cells j [v]))) on' y.on) (s2:SO (hset l h.next (.row 34 9 false false 0 (putF cells j [v]))) tx' y.texts) (o:T Value)
  (hz:hget (hset l h.next (.row 34 9 false false 0 (putF cells j [v]))) (h.next+1)=.row 34 9 false false 0 (T.ofList unk aO)):
  Fr h (hset (hset l h.next (.row 34 9 false false 0 (putF cells j [v]))) (h.next+1) (.row 34 9 false false 0 o)) 8/\SO (hset (hset l h.next (.row 34 9 false false 0 (putF cells j [v]))) (h.next+1) (.row 34 9 false false 0 o)) on' y.on/\SO (hset (hset l h.next (.row 34 9 false false 0 (putF cells j [v]))) (h.next+1) (.row 34 9 false false 0 o)) tx' y.texts:=by
 have hk:∀w l',SO (hset l h.next (.row 34 9 false false 0 (putF cells j [v]))) w l'->SO (hset (hset l h.next (.row 34 9 false false 0 (putF cells j [v]))) (h.next+1) (.row 34 9 false false 0 o)) w l':=λw l' o=>o.keep (Nat.le_refl _) λc hc hl=>by rw[cu _ _ _ _ (by omega),if_neg];intro e;subst e;obtain⟨n,op,cs,e⟩:=o.row9 hc;rw[hz] at e;cases e
 refine⟨⟨f.le,by have:=f.ub;show l.next<=_;omega,λid hid=>?_⟩,hk _ _ s1,hk _ _ s2⟩;rw[dA _ _ (by omega) (by omega),dA _ _ (by omega) (by omega)];exact f.old id hid
end
end
section
def q45 (E:Env) (rc:RC) (k:Value->H->R) (a1 a2 g j:Value) (h b e:H):R:=@joinR [7] (λ_ l=>onRow (hget l h.1) λ_ m _ _ _ n=>ifB (ble 9 m) (onRow (hget l b.1) λo p q r s t=>ifB (notB r) (ifB (beq (lenF (ac n 9 0)) 9) (ifB (ble s 0) (ifB (ble 9 p) (ifB (ble p 1000000000) (ifB (allF (λu=>cell1F u) (ac n 9 0)) (letH (hset l b.1 (.row o p q false s (putF t 0 (ac n 9 0)))) λu=>bindO (aU E u 34 (Addr.mk b.1 0 none)) λv=>ifB (nT [v,j]) (k (.tuple ⟨[v,j]⟩) u))))))))) λl=>binR (binC E .eql 5 false true) a1 (.int .u8 (.ofNat 76)) λm=>@joinR [7] (λn o=>l (n.1,()) o) λn=>onB m (binR (binC E .eql 5 false true) a1 (.int .u8 (.ofNat 104)) λo=>@joinR [7] (λp q=>n (p.1,()) q) λp=>onB o (binR (binC E .eql 5 false true) a1 (.int .u8 (.ofNat 79)) λq=>@joinR [7] (λr s=>p (r.1,()) s) λr=>onB q (binR (binC E .eql 5 false true) a1 (.int .u8 (.ofNat 78)) λs=>@joinR [7] (λt u=>r (t.1,()) u) λt=>onB s (binR (binC E .eql 5 false true) a1 (.int .u8 (.ofNat 77)) λu=>@joinR [7] (λv w=>t (v.1,()) w) λv=>onB u (binR (binC E .eql 5 false true) a1 (.int .u8 (.ofNat 75)) λw=>@joinR [7] (λx y=>v (x.1,()) y) λx=>onB w (binR (binC E .eql 5 false true) a1 (.int .u8 (.ofNat 107)) λy=>@joinR [7] (λz a3=>x (z.1,()) a3) λ_=>onB y (onRow (hget e h.1) λ_ z _ _ _ a3=>ifB (ble 9 z) (cT (bu E e Builtin.append [.slice none 0 0,getF a3 8] [30,30]) λa4 a5=>rc 68 [a2] a5 λa6 a7=>@Option.rec (List Value) (λ_=>R) none (λa8=>ifB (ble a7.1 1000000000) (letH (ag a7 (.row 9 1 false false 0 (T.ofList unk a8))) λa9=>cT (bu E a9 Builtin.append [a4,.slice (some (Addr.mk a7.1 0 none)) 1 2] [30,30]) λb0 b1=>onCells b0 λb2=>onRow (hget b1 h.1) λb3 b4 b5 b6 b7 b8=>ifB (notB b6) (ifB (beq (lenF b2) 1) (ifB (ble b7 8) (ifB (ble 9 b4) (ifB (ble b4 1000000000) (ifB (allF (λb9=>cell1F b9) b2) (letH (hset b1 h.1 (.row b3 b4 b5 false b7 (putF b8 8 b2))) λb9=>aaD b9 h b E k)))))))) (cG (λa8=>some (Nat.mul a8 1,1)) (List.flatten (List.replicate 1 (cellsOfV (.string (ByteArray.mk #[]))))) [(0,a6)]))) (rc 67 [a2] e λz a3=>bindO (bn E a3 Builtin.max [z,.int .i64 (.ofNat 0)] [3,3]) λa4=>joinL (λa5=>onCells a5 λa6=>onRow (hget a3 h.1) λa7 a8 a9 b0 b1 b2=>ifB (notB b0) (ifB (beq (lenF a6) 1) (ifB (ble b1 7) (ifB (ble 8 a8) (ifB (ble a8 1000000000) (ifB (allF (λb3=>cell1F b3) a6) (letH (hset a3 h.1 (.row a7 a8 a9 false b1 (putF b2 7 a6))) λb3=>binR (binC E .lss 3 false true) z (.int .i64 (.ofNat 0)) λb4=>@joinR [7] (λ_ b5=>aaD b5 h b E k) λb5=>onB b4 (b5 (.int .i64 (.ofNat 0),()) b3) (onRow (hget b3 h.1) λ_ b6 _ _ _ b7=>ifB (ble 9 b6) (onRow (hget b3 b.1) λb8 b9 c0 c1 c2 c3=>ifB (notB c1) (ifB (beq (lenF (ac b7 9 0)) 9) (ifB (ble c2 0) (ifB (ble 9 b9) (ifB (ble b9 1000000000) (ifB (allF (λc4=>cell1F c4) (ac b7 9 0)) (letH (hset b3 b.1 (.row b8 b9 c0 false c2 (putF c3 0 (ac b7 9 0)))) λc4=>bindO (aU E c4 34 (Addr.mk b.1 0 none)) λc5=>ifB (nT [c5,.int .i64 (.ofNat 14)]) (k (.tuple ⟨[c5,.int .i64 (.ofNat 14)]⟩) c4)))))))))))))))) λa5=>onNat a4 (bindO (aQ E a3 3 5 a4) a5) λa6=>@Bool.rec (λ_=>R) (bindO (aQ E a3 3 5 a4) a5) (a5 (.int .u8 (.ofNat a6))) (ble a6 255))) (onCells g λy=>onRow (hget e h.1) λz a3 a4 a5 a6 a7=>ifB (notB a5) (ifB (beq (lenF y) 1) (ifB (ble a6 6) (ifB (ble 7 a3) (ifB (ble a3 1000000000) (ifB (allF (λa8=>cell1F a8) y) (letH (hset e h.1 (.row z a3 a4 false a6 (putF a7 6 y))) λa8=>x (.int .i64 (.ofNat 0),()) a8)))))))) (onCells g λw=>onRow (hget e h.1) λx y z a3 a4 a5=>ifB (notB a3) (ifB (beq (lenF w) 1) (ifB (ble a4 5) (ifB (ble 6 y) (ifB (ble y 1000000000) (ifB (allF (λa6=>cell1F a6) w) (letH (hset e h.1 (.row x y z false a4 (putF a5 5 w))) λa6=>v (.int .i64 (.ofNat 0),()) a6)))))))) (onCells g λu=>onRow (hget e h.1) λv w x y z a3=>ifB (notB y) (ifB (beq (lenF u) 1) (ifB (ble z 4) (ifB (ble 5 w) (ifB (ble w 1000000000) (ifB (allF (λa4=>cell1F a4) u) (letH (hset e h.1 (.row v w x false z (putF a3 4 u))) λa4=>t (.int .i64 (.ofNat 0),()) a4)))))))) (binR (binC E .eql 9 false true) a2 (.string ⟨⟨[110,111,110,101]⟩⟩) λs=>@joinR [7] (λt u=>onCells g λv=>onRow (hget u h.1) λw x y z a3 a4=>ifB (notB z) (ifB (beq (lenF v) 1) (ifB (ble a3 4) (ifB (ble 5 x) (ifB (ble x 1000000000) (ifB (allF (λa5=>cell1F a5) v) (letH (hset u h.1 (.row w x y false a3 (putF a4 4 v))) λa5=>r (t.1,()) a5))))))) λt=>onB s (t (.int .i64 (.ofNat 0),()) e) (onRow (hget e h.1) λu v w x y z=>ifB (notB x) (ifB (beq (lenF [.int .i64 (.negSucc 0)]) 1) (ifB (ble y 4) (ifB (ble 5 v) (ifB (ble v 1000000000) (ifB (allF (λa3=>cell1F a3) [.int .i64 (.negSucc 0)]) (letH (hset e h.1 (.row u v w false y (putF z 4 [.int .i64 (.negSucc 0)]))) λa3=>aaD a3 h b E k))))))))) (onRow (hget e h.1) λ_ q _ _ _ r=>ifB (ble 4 q) (cT (bu E e Builtin.append [.slice none 0 0,getF r 3] [30,30]) λs t=>@Option.rec (List Value) (λ_=>R) none (λu=>ifB (ble t.1 1000000000) (letH (ag t (.row 9 1 false false 0 (T.ofList unk u))) λv=>cT (bu E v Builtin.append [s,.slice (some (Addr.mk t.1 0 none)) 1 2] [30,30]) λw x=>onCells w λy=>onRow (hget x h.1) λz a3 a4 a5 a6 a7=>ifB (notB a5) (ifB (beq (lenF y) 1) (ifB (ble a6 3) (ifB (ble 4 a3) (ifB (ble a3 1000000000) (ifB (allF (λa8=>cell1F a8) y) (letH (hset x h.1 (.row z a3 a4 false a6 (putF a7 3 y))) λa8=>aaD a8 h b E k)))))))) (cG (λu=>some (Nat.mul u 1,1)) (List.flatten (List.replicate 1 (cellsOfV (.string (ByteArray.mk #[]))))) [(0,a2)])))) (onCells a2 λo=>onRow (hget e h.1) λp q r s t u=>ifB (notB s) (ifB (beq (lenF o) 1) (ifB (ble t 2) (ifB (ble 3 q) (ifB (ble q 1000000000) (ifB (allF (λv=>cell1F v) o) (letH (hset e h.1 (.row p q r false t (putF u 2 o))) λv=>bindO (bv E v 9 a2) λw=>binR (binC E .gtr 3 false true) w (.int .i64 (.ofNat 16)) λx=>@joinR [7] (λ_ y=>aaD y h b E k) λy=>onB x (y (.int .i64 (.ofNat 0),()) v) (onRow (hget v h.1) λ_ z _ _ _ a3=>ifB (ble 9 z) (onRow (hget v b.1) λa4 a5 a6 a7 a8 a9=>ifB (notB a7) (ifB (beq (lenF (ac a3 9 0)) 9) (ifB (ble a8 0) (ifB (ble 9 a5) (ifB (ble a5 1000000000) (ifB (allF (λb0=>cell1F b0) (ac a3 9 0)) (letH (hset v b.1 (.row a4 a5 a6 false a8 (putF a9 0 (ac a3 9 0)))) λb0=>bindO (aU E b0 34 (Addr.mk b.1 0 none)) λb1=>ifB (nT [b1,.int .i64 (.ofNat 16)]) (k (.tuple ⟨[b1,.int .i64 (.ofNat 16)]⟩) b0))))))))))))))))
def E45 (l h b:H) (k:Value->H->R) (m:Nat):R:=onRow (hget l h.1) λ_ c _ _ _ d=>ifB (ble 9 c) (onRow (hget l b.1) λe f g i j l'=>ifB (notB i) (ifB (beq (lenF (ac d 9 0)) 9) (ifB (ble j 0) (ifB (ble 9 f) (ifB (ble f 1000000000) (ifB (allF (λm=>cell1F m) (ac d 9 0)) (letH (hset l b.1 (.row e f g false j (putF l' 0 (ac d 9 0))))
   λu=>bindO (aU EnvO u 34 (Addr.mk b.1 0 none)) λv=>ifB (nT [v,.int .i64 (.ofNat m)]) (k (.tuple ⟨[v,.int .i64 (.ofNat m)]⟩) u))))))))
variable {rc : RC} {h : H} {x : iq} {on tx : Value} {k : Value -> H -> R} {X : R} {w : Bs}
theorem atK {a1:Value} (hR:aiD rc) (hn:h.next<=800000000) (hw:w.length<=100000) (s1:SO h on x.on) (s2:SO h tx x.texts) (e:p45 EnvO rc (.agg ⟨dJ x on tx⟩) a1 (aF w) h k=X):
  ∃b h2,b.next=h.next+1/\h2.next=h.next+2/\Fr h h2 2/\CV h2 h.next x on tx/\hget h2 (h.next+1)=.row 34 9 false false 0 (T.ofList unk aO)/\q45 EnvO rc k a1 (aF w) (.int .i64 (.ofNat (cC w).1)) (.int .i64 (.ofNat (cC w).2)) h b h2=X:=by
 obtain⟨h2,e2,n2,f2,cv,hz⟩:=atj hn s1 s2;have hb:(ag h (.row 34 9 false false 0 (T.ofList unk (dJ x on tx)))).next=h.next+1:=rfl;unfold p45 at e;rw[bC,dF (show allF (λb=>cell1F b) (dJ x on tx)=true by rw[qO,j4 s1 s2]),au (show h.1<=1000000000 by show h.next<=_;omega),aJ,show lenF (dJ x on tx)=9 from rfl] at e;generalize ag h (.row 34 9 false false 0 (T.ofList unk (dJ x on tx)))=b at e e2 hb;rw[au (show b.1<=1000000000 by show b.next<=_;omega),aJ,hR.num w _ _ hw,bJ] at e;refine⟨b,h2,hb,n2,f2,cv,hz,?_⟩;rw[<-e2];exact e
theorem BX {l b:H} {n j j1 m:Nat} {y:iq} {on' tx' v:Value} (hb:b.next=h.next+1) (hn:h.next<=800000000) (f:Fr h l n) (hn8:n<=8) (hlt:h.next+1<l.next) (cv:CV l h.next x on tx) (hz:hget l (h.next+1)=.row 34 9 false false 0 (T.ofList unk aO)) (hj1:j1=j+1) (hj:j<=8) (hv:cell1F v=true) (h1:SO l on' y.on) (h2':SO l tx' y.texts)
  (hy:∀i,i<9->(if i=j then v else (dJ x on tx).getD i unk)=(dJ y on' tx').getD i unk) {K:H->R} (hK:∀l',hget l' (h.next+1)=.row 34 9 false false 0 (T.ofList unk aO)->CV l' h.next y on' tx'->K l'=E45 l' h b k m)
  (e:(onRow (hget l h.1) λs t u v1 w x=>ifB (notB v1) (ifB (beq (lenF [v]) 1) (ifB (ble w j) (ifB (ble j1 t) (ifB (ble t 1000000000) (ifB (allF (λy=>cell1F y) [v]) (letH (hset l h.1 (.row s t u false w (putF x j [v]))) K)))))))=X):to h k X (if m=0 then .ok y else .error m):=by
 have hub:=f.ub;have hn2:l.next<=900000000:=by omega
 obtain⟨cells,hq,cv',hz'⟩:=atI (h2:=l) (y:=y) hn2 f hlt cv hz hj hv h1 h2' hy;rw[show h.1=h.next from rfl,atg hq hj1 (by omega) hv,hK _ hz' cv'] at e;unfold E45 at e;rw[show b.1=h.next+1 from hb,show h.1=h.next from rfl,auk cv' hz' (by omega)] at e;obtain⟨g1,g2,g3⟩:=aut f hn8 hlt hn2 cells j v cv'.s1 cv'.s2 _ hz';unfold to;by_cases q:m=0
 ·subst q;rw[if_pos rfl];exact⟨_,_,_,g1,e.symm,g2,g3⟩
 ·rw[if_neg q];exact⟨_,_,g1,e.symm,rfl,j4 g2 g3⟩
section
variable {b h2 : H} (hb : b.next = h.next+1) (hn : h.next <= 800000000) (n2 : h2.next = h.next+2) (f2 : Fr h h2 2) (cv : CV h2 h.next x on tx) (hz : hget h2 (h.next+1) = .row 34 9 false false 0 (T.ofList unk aO))
include hb hn n2 f2 cv hz
theorem auC (e:q45 EnvO rc k (.int .u8 (.ofNat 78)) (aF w) (.int .i64 (.ofNat (cC w).1)) (.int .i64 (.ofNat (cC w).2)) h b h2=X):to h k X (dX x .n w):=by
 unfold q45 at e;simp only[↓ai,↓gv us0.u5,show beq 78 76=false from rfl,show beq 78 104=false from rfl,show beq 78 79=false from rfl,show beq 78 78=true from rfl,↓aM,↓aK,↓gO] at e
 exact BX (y:={ x with n:=((cC w).1:Nat) }) hb hn f2 (by omega) (by omega) cv hz rfl (by omega) rfl cv.s1 cv.s2 (λi hi=>by
   match i,hi with
   | 0,_=>rfl
   | 1,_=>rfl
   | 2,_=>rfl
   | 3,_=>rfl
   | 4,_=>rfl
   | 5,_=>rfl
   | 6,_=>rfl
   | 7,_=>rfl
   | 8,_=>rfl) (λ_ _ _=>rfl) e
theorem auf (e:q45 EnvO rc k (.int .u8 (.ofNat 77)) (aF w) (.int .i64 (.ofNat (cC w).1)) (.int .i64 (.ofNat (cC w).2)) h b h2=X):to h k X (dX x .m w):=by
 unfold q45 at e;simp only[↓ai,↓gv us0.u5,show beq 77 76=false from rfl,show beq 77 104=false from rfl,show beq 77 79=false from rfl,show beq 77 78=false from rfl,show beq 77 77=true from rfl,↓aM,↓aK,↓gO] at e
 exact BX (y:={ x with m:=((cC w).1:Nat) }) hb hn f2 (by omega) (by omega) cv hz rfl (by omega) rfl cv.s1 cv.s2 (λi hi=>by
   match i,hi with
   | 0,_=>rfl
   | 1,_=>rfl
   | 2,_=>rfl
   | 3,_=>rfl
   | 4,_=>rfl
   | 5,_=>rfl
   | 6,_=>rfl
   | 7,_=>rfl
   | 8,_=>rfl) (λ_ _ _=>rfl) e
theorem auv (e:q45 EnvO rc k (.int .u8 (.ofNat 75)) (aF w) (.int .i64 (.ofNat (cC w).1)) (.int .i64 (.ofNat (cC w).2)) h b h2=X):to h k X (dX x .k w):=by
 unfold q45 at e;simp only[↓ai,↓gv us0.u5,show beq 75 76=false from rfl,show beq 75 104=false from rfl,show beq 75 79=false from rfl,show beq 75 78=false from rfl,show beq 75 77=false from rfl,show beq 75 75=true from rfl,↓aM,↓aK,↓gO] at e
 exact BX (y:={ x with k:=((cC w).1:Nat) }) hb hn f2 (by omega) (by omega) cv hz rfl (by omega) rfl cv.s1 cv.s2 (λi hi=>by
   match i,hi with
   | 0,_=>rfl
   | 1,_=>rfl
   | 2,_=>rfl
   | 3,_=>rfl
   | 4,_=>rfl
   | 5,_=>rfl
   | 6,_=>rfl
   | 7,_=>rfl
   | 8,_=>rfl) (λ_ _ _=>rfl) e
end
end
section
theorem av4 (h:H) (n:Nat) (hn:n<5):bn EnvO h .max [.int .i64 (.ofNat n),.int .i64 (.ofNat 0)] [3,3]=some (.int .i64 (.ofNat n)):=by
 match n,hn with
 | 0,_=>exact (by kernel_rfl:bn EnvO h .max [.int .i64 (.ofNat 0),.int .i64 (.ofNat 0)] [3,3]=some (.int .i64 (.ofNat 0)))
 | 1,_=>exact (by kernel_rfl:bn EnvO h .max [.int .i64 (.ofNat 1),.int .i64 (.ofNat 0)] [3,3]=some (.int .i64 (.ofNat 1)))
 | 2,_=>exact (by kernel_rfl:bn EnvO h .max [.int .i64 (.ofNat 2),.int .i64 (.ofNat 0)] [3,3]=some (.int .i64 (.ofNat 2)))
 | 3,_=>exact (by kernel_rfl:bn EnvO h .max [.int .i64 (.ofNat 3),.int .i64 (.ofNat 0)] [3,3]=some (.int .i64 (.ofNat 3)))
 | 4,_=>exact (by kernel_rfl:bn EnvO h .max [.int .i64 (.ofNat 4),.int .i64 (.ofNat 0)] [3,3]=some (.int .i64 (.ofNat 4)))
theorem auH (h:H):bn EnvO h .max [.int .i64 (.negSucc 0),.int .i64 (.ofNat 0)] [3,3]=some (.int .i64 (.ofNat 0)):=by kernel_rfl
variable {rc : RC} {h : H} {x : iq} {on tx : Value} {k : Value -> H -> R} {X : R} {w : Bs}
theorem CV.keep {l l':H} {b:Nat} (c:CV l b x on tx) (hl:l.next<=l'.next) (ho:∀id,id<l.next->hget l' id=hget l id):CV l' b x on tx:=by obtain⟨lt,⟨cells,hq,hc⟩,s1,s2⟩:=c;exact⟨by omega,⟨cells,(ho _ lt).trans hq,hc⟩,s1.keep hl λc _ h=>ho c h,s2.keep hl λc _ h=>ho c h⟩
theorem atp {h2:H} {v:Value} {l:List Bs} (o:SO h2 v l) (hn:h2.next<=900000000) (hl:l.length<=8500) (s:Bs):∃v1 h3,bu EnvO h2 .append [.slice none 0 0,v] [30,30]=some (v1,h3)/\h3.next<=h2.next+1 /\
  ∃v' h4,bu EnvO (ag h3 (.row 9 1 false false 0 (T.ofList unk [aF s]))) .append [v1,.slice (some ⟨h3.next,0,none⟩) 1 2] [30,30]=some (v',h4)/\SO h4 v' (l ++ [s])/\h2.next<=h4.next/\h4.next<=h2.next+3/\∀id,id<h2.next->hget h4 id=hget h2 id:=by
 obtain⟨v1,h3,e1,o1,f1,b1⟩:=arH auJ o (by omega) (by omega);have:=f1.ub;have:=f1.le;obtain⟨v',h4,e2,o2,n2,b2,g2⟩:=rp auJ o1 (by omega) (by omega) s;exact⟨v1,h3,e1,by omega,v',h4,e2,o2,by omega,by omega,λid hid=>(g2 id (by omega) λee=>by have:=b1 _ ee;omega).trans (f1.old id hid)⟩
section
variable {b h2 : H} (hb : b.next = h.next+1) (hn : h.next <= 800000000) (n2 : h2.next = h.next+2) (f2 : Fr h h2 2) (cv : CV h2 h.next x on tx) (hz : hget h2 (h.next+1) = .row 34 9 false false 0 (T.ofList unk aO))
include hb hn n2 f2 cv hz
theorem auj (e:q45 EnvO rc k (.int .u8 (.ofNat 79)) (aF w) (.int .i64 (.ofNat (cC w).1)) (.int .i64 (.ofNat (cC w).2)) h b h2=X):to h k X (dX x .o w):=by
 unfold q45 at e;simp only[↓ai,↓gv us0.u5,show beq 79 76=false from rfl,show beq 79 104=false from rfl,show beq 79 79=true from rfl,↓aM,↓aK] at e;unfold aF at e;rw[Aj us0] at e;unfold dX;by_cases qn : w = str "none"
 ·rw[show (w==[110,111,110,101])=true by rw[qn];rfl] at e;rw[if_pos qn];simp only[↓aK] at e
  exact BX (m:=0) (y:={ x with n:=-1 }) hb hn f2 (by omega) (by omega) cv hz rfl (by omega) rfl cv.s1 cv.s2 (λi hi=>by
   match i,hi with
   | 0,_=>rfl
   | 1,_=>rfl
   | 2,_=>rfl
   | 3,_=>rfl
   | 4,_=>rfl
   | 5,_=>rfl
   | 6,_=>rfl
   | 7,_=>rfl
   | 8,_=>rfl) (λ_ _ _=>rfl) e
 ·rw[show (w==[110,111,110,101])=false from beq_eq_false_iff_ne.2 (show ¬ w=[110,111,110,101] from qn)] at e;rw[if_neg qn];simp only[↓aM,↓gO] at e
  exact BX (y:={ x with n:=((cC w).1:Nat) }) hb hn f2 (by omega) (by omega) cv hz rfl (by omega) rfl cv.s1 cv.s2 (λi hi=>by
   match i,hi with
   | 0,_=>rfl
   | 1,_=>rfl
   | 2,_=>rfl
   | 3,_=>rfl
   | 4,_=>rfl
   | 5,_=>rfl
   | 6,_=>rfl
   | 7,_=>rfl
   | 8,_=>rfl) (λ_ _ _=>rfl) e
theorem auo (e:q45 EnvO rc k (.int .u8 (.ofNat 76)) (aF w) (.int .i64 (.ofNat (cC w).1)) (.int .i64 (.ofNat (cC w).2)) h b h2=X):to h k X (dX x .L w):=by
 have hlen:∀(l:H) K,bindO (bv EnvO l 9 (aF w)) K=K (.int .i64 (.ofNat w.length)):=λl K=>by unfold aF;rw[nS us0];rfl
 unfold q45 at e;simp only[↓ai,↓gv us0.u5,show beq 76 76=true from rfl,↓aK,↓yr] at e;unfold dX
 have hf:=λm K hK=>BX (m:=m) (K:=K) (X:=X) (y:={ x with label:=w }) (k:=k) hb hn f2 (by omega) (by omega) cv hz (j:=2) (j1:=3) (v:=aF w) rfl (by omega) rfl cv.s1 cv.s2 (λi hi=>by
   match i,hi with
   | 0,_=>rfl
   | 1,_=>rfl
   | 2,_=>rfl
   | 3,_=>rfl
   | 4,_=>rfl
   | 5,_=>rfl
   | 6,_=>rfl
   | 7,_=>rfl
   | 8,_=>rfl) hK
 by_cases q:16<w.length
 ·rw[if_pos q];exact hf 16 _ (λl' _ _=>by rw[hlen,mB us0.u3 q];rfl) e
 ·rw[if_neg q];exact hf 0 _ (λl' _ _=>by rw[hlen,lG us0.u3 (show w.length<=16 by omega)];rfl) e
theorem auO (hR:aiD rc) (e:q45 EnvO rc k (.int .u8 (.ofNat 107)) (aF w) (.int .i64 (.ofNat (cC w).1)) (.int .i64 (.ofNat (cC w).2)) h b h2=X):to h k X (dX x .c w):=by
 unfold q45 at e;simp only[↓ai,↓gv us0.u5,show beq 107 76=false from rfl,show beq 107 104=false from rfl,show beq 107 79=false from rfl,show beq 107 78=false from rfl,show beq 107 77=false from rfl,show beq 107 75=false from rfl,show beq 107 107=true from rfl,↓aM,↓aK] at e;obtain⟨h3,e3,f3⟩:=hR.kind w _ _ _ (by omega) e;have e3:=e3.symm;have:=f3.ub;have:=f3.le;have cv3:=cv.keep f3.le f3.old;have hz3:=(f3.old _ (by omega)).trans hz;have f4:=f2.trans f3 (Nat.le_refl _);unfold dX;by_cases q:jq w ch<5
 ·rw[if_pos q];rw[if_pos q] at e3;rw[av4 _ _ q] at e3;simp only[↓bw,↓cJ,↓cn,be (show jq w ch<=255 by omega),↓gO] at e3
  exact BX (m:=0) (y:={ x with kind:=jq w ch }) hb hn f4 (by omega) (by omega) cv3 hz3 rfl (by omega) rfl cv3.s1 cv3.s2 (λi hi=>by
   match i,hi with
   | 0,_=>rfl
   | 1,_=>rfl
   | 2,_=>rfl
   | 3,_=>rfl
   | 4,_=>rfl
   | 5,_=>rfl
   | 6,_=>rfl
   | 7,_=>rfl
   | 8,_=>rfl) (λl' _ _=>by rw[iu us0.u3 (Nat.zero_le _)];rfl) e3
 ·rw[if_neg q];rw[if_neg q] at e3;rw[auH] at e3;simp only[↓bw,↓cJ,↓cn,show ble 0 255=true from rfl,↓gO] at e3
  exact BX (m:=14) (y:={ x with kind:=0 }) hb hn f4 (by omega) (by omega) cv3 hz3 rfl (by omega) rfl cv3.s1 cv3.s2 (λi hi=>by
   match i,hi with
   | 0,_=>rfl
   | 1,_=>rfl
   | 2,_=>rfl
   | 3,_=>rfl
   | 4,_=>rfl
   | 5,_=>rfl
   | 6,_=>rfl
   | 7,_=>rfl
   | 8,_=>rfl) (λl' _ _=>by rw[wz us0.u3];rfl) e3
theorem auV (hl:x.on.length<=8500) (e:q45 EnvO rc k (.int .u8 (.ofNat 104)) (aF w) (.int .i64 (.ofNat (cC w).1)) (.int .i64 (.ofNat (cC w).2)) h b h2=X):to h k X (dX x .h w):=by
 obtain⟨cells,hq,hc⟩:=cv.ex;unfold q45 at e;simp only[↓ai,↓gv us0.u5,show beq 104 76=false from rfl,show beq 104 104=true from rfl,↓aM,↓aK,↓Ps,↓ke] at e;obtain⟨v1,h3,e1,n3,v',h4,e2,o2,l4,u4,g4⟩:=atp cv.s1 (by omega) hl w;rw[show h.1=h.next from rfl,show (onRow (hget h2 h.next):_)=onRow (.row 34 9 false false 0 cells) by rw[hq],dQ,dF (c:=ble 4 9) rfl,show getF cells 3=on from hc 3 (by omega),kv e1,au (show h3.1<=1000000000 by show h3.next<=_;omega),aJ,kv e2,o2.cells] at e;have cv4:=cv.keep l4 g4
 exact BX (m:=0) (y:={ x with on:=x.on ++ [w] }) hb hn (f2.trans (n:=3) ⟨l4,u4,g4⟩ (Nat.le_refl _)) (by omega) (by omega) cv4 ((g4 _ (by omega)).trans hz) rfl (by omega) o2.cell1 o2 cv4.s2 (λi hi=>by
   match i,hi with
   | 0,_=>rfl
   | 1,_=>rfl
   | 2,_=>rfl
   | 3,_=>rfl
   | 4,_=>rfl
   | 5,_=>rfl
   | 6,_=>rfl
   | 7,_=>rfl
   | 8,_=>rfl) (λ_ _ _=>rfl) e
theorem auw (hR:aiD rc) (hl:x.texts.length<=8500) {c:Nat} (hcs:beq c 76=false/\beq c 104=false/\beq c 79=false/\beq c 78=false/\beq c 77=false/\beq c 75=false/\beq c 107=false) (e:q45 EnvO rc k (.int .u8 (.ofNat c)) (aF w) (.int .i64 (.ofNat (cC w).1)) (.int .i64 (.ofNat (cC w).2)) h b h2=X):to h k X (dX x .t w):=by
 obtain⟨c1,c2,c3,c4,c5,c6,c7⟩:=hcs;obtain⟨cells,hq,hc⟩:=cv.ex;unfold q45 at e;simp only[↓ai,↓gv us0.u5,c1,c2,c3,c4,c5,c6,c7,↓aM,↓aK] at e;obtain⟨v1,h3,e1,n3,v',h4,e2,o2,l4,u4,g4⟩:=atp cv.s2 (by omega) hl (rS w);rw[show h.1=h.next from rfl,show (onRow (hget h2 h.next):_)=onRow (.row 34 9 false false 0 cells) by rw[hq],dQ,dF (c:=ble 9 9) rfl,show getF cells 8=tx from hc 8 (by omega),kv e1,hR.text] at e;simp only[↓Ps,↓ke] at e;rw[au (show h3.1<=1000000000 by show h3.next<=_;omega),aJ,kv e2,o2.cells] at e;have cv4:=cv.keep l4 g4
 exact BX (m:=0) (y:={ x with texts:=x.texts ++ [rS w] }) hb hn (f2.trans (n:=3) ⟨l4,u4,g4⟩ (Nat.le_refl _)) (by omega) (by omega) cv4 ((g4 _ (by omega)).trans hz) rfl (by omega) o2.cell1 cv4.s1 o2 (λi hi=>by
   match i,hi with
   | 0,_=>rfl
   | 1,_=>rfl
   | 2,_=>rfl
   | 3,_=>rfl
   | 4,_=>rfl
   | 5,_=>rfl
   | 6,_=>rfl
   | 7,_=>rfl
   | 8,_=>rfl) (λ_ _ _=>rfl) e
end
def sgR (b:UInt8):Sg:=if b=76 then .L else if b=104 then .h else if b=79 then .o else if b=78 then .n else if b=77 then .m else if b=75 then .k else if b=107 then .c else .t
theorem auN (hR:aiD rc) (hn:h.next<=800000000) (hw:w.length<=100000) (s1:SO h on x.on) (s2:SO h tx x.texts) (hl1:x.on.length<=8500) (hl2:x.texts.length<=8500) (c:UInt8)
  (e:p45 EnvO rc (.agg ⟨dJ x on tx⟩) (gd c) (aF w) h k=X):to h k X (dX x (sgR c) w):=by
 obtain⟨b,h2,hb,n2,f2,cv,hz,e⟩:=atK hR hn hw s1 s2 e;unfold gd at e;unfold sgR;by_cases c1:c=76
 ·subst c1;exact auo hb hn n2 f2 cv hz e
 by_cases c2:c=104
 ·subst c2;exact auV hb hn n2 f2 cv hz hl1 e
 by_cases c3:c=79
 ·subst c3;exact auj hb hn n2 f2 cv hz e
 by_cases c4:c=78
 ·subst c4;exact auC hb hn n2 f2 cv hz e
 by_cases c5:c=77
 ·subst c5;exact auf hb hn n2 f2 cv hz e
 by_cases c6:c=75
 ·subst c6;exact auv hb hn n2 f2 cv hz e
 by_cases c7:c=107
 ·subst c7;exact auO hb hn n2 f2 cv hz hR e
 have hne:∀{d:UInt8},c≠d->beq c.toNat d.toNat=false:=λ{d} h=>fT λe=>h (UInt8.toNat_inj.1 e);rw[if_neg c1,if_neg c2,if_neg c3,if_neg c4,if_neg c5,if_neg c6,if_neg c7];exact auw hb hn n2 f2 cv hz hR hl2 ⟨hne c1,hne c2,hne c3,hne c4,hne c5,hne c6,hne c7⟩ e
end
def amT (a h:H) (E:Env) (k:Value->H->R):R:=onRow (hget a h.1) λb c d e f g=>ifB (notB e) (ifB (beq (lenF (cellsOfV (.agg (@List.toArray Value [.int .i64 (.ofNat 0),.int .u8 (.ofNat 0),.string (ByteArray.mk #[]),.slice none 0 0,.int .i64 (.ofNat 0),.int .i64 (.ofNat 0),.int .i64 (.ofNat 0),.int .u8 (.ofNat 0),.slice none 0 0])))) 9) (ifB (ble f 0) (ifB (ble 9 c) (ifB (ble c 1000000000) (ifB (allF (λi=>cell1F i) (cellsOfV (.agg (@List.toArray Value [.int .i64 (.ofNat 0),.int .u8 (.ofNat 0),.string (ByteArray.mk #[]),.slice none 0 0,.int .i64 (.ofNat 0),.int .i64 (.ofNat 0),.int .i64 (.ofNat 0),.int .u8 (.ofNat 0),.slice none 0 0])))) (letH (hset a h.1 (.row b c d false f (putF g 0 (cellsOfV (.agg (@List.toArray Value [.int .i64 (.ofNat 0),.int .u8 (.ofNat 0),.string (ByteArray.mk #[]),.slice none 0 0,.int .i64 (.ofNat 0),.int .i64 (.ofNat 0),.int .i64 (.ofNat 0),.int .u8 (.ofNat 0),.slice none 0 0])))))) λi=>bindO (aU E i 34 (Addr.mk h.1 0 none)) λj=>ifB (nT [j,.int .i64 (.ofNat 14)]) (k (.tuple ⟨[j,.int .i64 (.ofNat 14)]⟩) i)))))))
def ary (E:Env) (a b:Value) (c:aa [9]) (d:H) (rc:RC) (h:H) (k:Value->H->R) (e:aa [5,74]->H->R):(aa [5,74]->H->R)->aa [5,74]->H->R:=λf g i=>binR (binC E .lss 3 false false) g.2.1 a λj=>@joinR [] (λ_ l=>@joinR [5] (λm n=>binR (binC E .add 3 false true) g.2.1 (.int .i64 (.ofNat 1)) λo=>f (m.1,(o,())) n) λm=>onNat g.2.1 none λn=>onSl b none λo p _=>ifB (ble (Nat.succ n) p) (addOffF o (Nat.mul n 1) λq=>onPtr q λr=>onRow (hget l r.1) λ_ s _ _ _ t=>ifB (ble (Nat.succ r.2) s) (bindO (bv E l 9 c.1) λu=>binR (binC E .lss 3 false false) g.2.1 u λv=>@joinR [13] (λw x=>onRow (hget x d.1) λ_ y _ _ _ z=>ifB (ble 9 y) (rc 45 [.agg ⟨ac z 9 0⟩,w.1,getF t r.2] x λa0 a1=>onTup a0 λa2=>nthF 0 a2 λa3=>onTup a0 λa4=>nthF 1 a4 λa5=>ifB (ble a1.1 1000000000) (letH (ag a1 (.row 34 9 false false 0 (T.ofList unk [.int .i64 (.ofNat 0),.int .u8 (.ofNat 0),.string (ByteArray.mk #[]),.slice none 0 0,.int .i64 (.ofNat 0),.int .i64 (.ofNat 0),.int .i64 (.ofNat 0),.int .u8 (.ofNat 0),.slice none 0 0]))) λa6=>onCells a3 λa7=>onRow (hget a6 a1.1) λa8 a9 b0 b1 b2 b3=>ifB (notB b1) (ifB (beq (lenF a7) 9) (ifB (ble b2 0) (ifB (ble 9 a9) (ifB (ble a9 1000000000) (ifB (allF (λb4=>cell1F b4) a7) (letH (hset a6 a1.1 (.row a8 a9 b0 false b2 (putF b3 0 a7))) λb4=>binR (binC E .neq 3 false true) a5 (.int .i64 (.ofNat 0)) λb5=>@joinR [5] (λb6 b7=>onRow (hget b7 a1.1) λ_ b8 _ _ _ b9=>ifB (ble 9 b8) (onRow (hget b7 d.1) λc0 c1 c2 c3 c4 c5=>ifB (notB c3) (ifB (beq (lenF (ac b9 9 0)) 9) (ifB (ble c4 0) (ifB (ble 9 c1) (ifB (ble c1 1000000000) (ifB (allF (λc6=>cell1F c6) (ac b9 9 0)) (letH (hset b7 d.1 (.row c0 c1 c2 false c4 (putF c5 0 (ac b9 9 0)))) λc6=>m (b6.1,()) c6)))))))) λb6=>onB b5 (b6 (g.1,()) b4) (onRow (hget b4 h.1) λb7 b8 b9 c0 c1 c2=>ifB (notB c0) (ifB (beq (lenF (cellsOfV (.agg (@List.toArray Value [.int .i64 (.ofNat 0),.int .u8 (.ofNat 0),.string (ByteArray.mk #[]),.slice none 0 0,.int .i64 (.ofNat 0),.int .i64 (.ofNat 0),.int .i64 (.ofNat 0),.int .u8 (.ofNat 0),.slice none 0 0])))) 9) (ifB (ble c1 0) (ifB (ble 9 b8) (ifB (ble b8 1000000000) (ifB (allF (λc3=>cell1F c3) (cellsOfV (.agg (@List.toArray Value [.int .i64 (.ofNat 0),.int .u8 (.ofNat 0),.string (ByteArray.mk #[]),.slice none 0 0,.int .i64 (.ofNat 0),.int .i64 (.ofNat 0),.int .i64 (.ofNat 0),.int .u8 (.ofNat 0),.slice none 0 0])))) (letH (hset b4 h.1 (.row b7 b8 b9 false c1 (putF c2 0 (cellsOfV (.agg (@List.toArray Value [.int .i64 (.ofNat 0),.int .u8 (.ofNat 0),.string (ByteArray.mk #[]),.slice none 0 0,.int .i64 (.ofNat 0),.int .i64 (.ofNat 0),.int .i64 (.ofNat 0),.int .u8 (.ofNat 0),.slice none 0 0])))))) λc3=>bindO (aU E c3 34 (Addr.mk h.1 0 none)) λc4=>ifB (nT [c4,a5]) (k (.tuple ⟨[c4,a5]⟩) c3))))))))))))))))) λw=>onB v (w (.int .u8 (.ofNat 116),()) l) (bindO (dD E 9 c.1 g.2.1) λx=>w (x,()) l)))) λl=>onB j (e (g.1,(g.2.1,())) i) (l () i)
def arf (E:Env) (a1:Value) (a h:H) (k:Value->H->R) (b:aa [9]) (rc:RC) (c:aa [5]) (d:H):R:=bindO (dd E 30 a1 (some (.int .i64 (.ofNat 1))) none none) λe=>joinL (λf=>@joinR [5,74] (λ_ g=>onRow (hget g a.1) λ_ i _ _ _ j=>ifB (ble 9 i) (onRow (hget g h.1) λl m n o p q=>ifB (notB o) (ifB (beq (lenF (ac j 9 0)) 9) (ifB (ble p 0) (ifB (ble 9 m) (ifB (ble m 1000000000) (ifB (allF (λr=>cell1F r) (ac j 9 0)) (letH (hset g h.1 (.row l m n false p (putF q 0 (ac j 9 0)))) λr=>bindO (aU E r 34 (Addr.mk h.1 0 none)) λs=>ifB (nT [s,.int .i64 (.ofNat 0)]) (k (.tuple ⟨[s,.int .i64 (.ofNat 0)]⟩) r))))))))) λg=>@loopF [5,74] (ary E f e b a rc h k g) ft (c.1,(.int .i64 (.ofNat 0),())) d) λf=>onSl e (bindO (bv E d 30 e) f) λ_ g _=>f (.int .i64 (.ofNat g))
def arC (a:Value) (E:Env) (a1:Value) (b h:H) (k:Value->H->R) (c:aa [9]) (rc:RC) (d:aa [5,18]) (e:Value) (f:H) (g:Value):R:=ae (λi j=>ae (λl m=>onB a (@joinR [5] (λn o=>arf E a1 b h k c rc n o) λn=>onB l (n (d.1,()) m) (amT m h E k)) (@joinR [5] (λn o=>arf E a1 b h k c rc n o) λ_=>amT m h E k)) λl=>aB a (onB e (l (.bool false) j) (l i j)) (l undef j) (l undef j)) λi=>aB e (i undef f) (onB g (i (.bool true) f) (i (.bool false) f)) (i undef f)
def arJ (a:Value) (E:Env) (b c:Value) (d:Value->H->R) (e:H):R:=aB a (binR (binC E .gtr 3 false false) b c λf=>d f e) (d undef e) (d undef e)
def arB (a:Value) (E:Env) (b:Value) (c:Value->H->R) (d:H):R:=aB a (binR (binC E .sub 3 false true) b (.int .i64 (.ofNat 1)) λe=>c e d) (c undef d) (c undef d)
def arI (a:Value) (b:Value->H->R) (c:H) (d:Value) (E:Env):R:=aB a (joinL (λe=>b e c) λe=>onSl d (bindO (bv E c 30 d) e) λ_ f _=>e (.int .i64 (.ofNat f))) (b undef c) (b undef c)
def arU (E:Env) (a b a1 a0:Value) (h:H) (k:Value->H->R) (rc:RC) (c:aa [5]->H->R):(aa [5,18]->H->R)->aa [5,18]->H->R:=λd e f=>binR (binC E .lss 3 false false) e.2.1 a λg=>@joinR [] (λ_ i=>@joinR [5] (λj l=>binR (binC E .add 3 false true) e.2.1 (.int .i64 (.ofNat 1)) λm=>d (j.1,(m,())) l) λj=>onNat e.2.1 none λl=>onSl b none λm n _=>ifB (ble (Nat.succ l) n) (addOffF m (Nat.mul l 2) λo=>onPtr o λp=>onRow (hget i p.1) λ_ q _ _ _ r=>ifB (ble (Nat.add p.2 2) q) (ifB (ble i.1 1000000000) (letH (ag i (.row 87 2 false false 0 (T.ofList unk [.string (ByteArray.mk #[]),.string (ByteArray.mk #[])]))) λs=>onRow (hget s i.1) λt u v w x y=>ifB (notB w) (ifB (beq (lenF (ac r 2 p.2)) 2) (ifB (ble x 0) (ifB (ble 2 u) (ifB (ble u 1000000000) (ifB (allF (λz=>cell1F z) (ac r 2 p.2)) (letH (hset s i.1 (.row t u v false x (putF y 0 (ac r 2 p.2)))) λz=>ifB (ble z.1 1000000000) (letH (H.mk z.1 z.2) λa2=>onRow (hget a2 i.1) λ_ a3 _ _ _ a4=>ifB (ble 1 a3) (onSl a1 none λa5 a6 _=>ifB (ble 1 a6) (onRow (hget a2 a5.1) λ_ a7 _ _ _ a8=>ifB (ble (Nat.succ a5.2) a7) (binR (binC E .neq 9 false false) (getF a4 0) (getF a8 a5.2) λa9=>@joinR [] (λ_ b0=>ifB (ble b0.1 1000000000) (letH (H.mk (Nat.add b0.1 1) b0.2) λb1=>joinL (λb2=>bindO (cg E 34 [(0,a0),(1,b2)]) λb3=>onRow (hget b1 i.1) λ_ b4 _ _ _ b5=>ifB (ble 2 b4) (letH (hset b1 b0.1 (.row 34 9 false false 0 (T.ofList unk [.int .i64 (.ofNat 0),.int .u8 (.ofNat 0),.string (ByteArray.mk #[]),.slice none 0 0,.int .i64 (.ofNat 0),.int .i64 (.ofNat 0),.int .i64 (.ofNat 0),.int .u8 (.ofNat 0),.slice none 0 0]))) λb6=>onCells b3 λb7=>onRow (hget b6 b0.1) λb8 b9 c0 c1 c2 c3=>ifB (notB c1) (ifB (beq (lenF b7) 9) (ifB (ble c2 0) (ifB (ble 9 b9) (ifB (ble b9 1000000000) (ifB (allF (λc4=>cell1F c4) b7) (letH (hset b6 b0.1 (.row b8 b9 c0 false c2 (putF c3 0 b7))) λc4=>ifB (aj (.pointer (some (Addr.mk i.1 1 none))) (.pointer (some (Addr.mk i.1 1 none)))) (onRow (hget c4 i.1) λ_ c5 _ _ _ c6=>ifB (ble 2 c5) (ifB (aj (getF c6 1) (getF b5 1)) (bindO (bv E c4 9 (getF b5 1)) λc7=>binR (binC E .gtr 3 false true) c7 (.int .i64 (.ofNat 0)) λc8=>ae (λc9 d0=>ae (λd1 d2=>ae (λd3 d4=>ae (λd5 d6=>ae (λd7 d8=>ae (λd9 e0=>onB c8 (@joinR [9] (λe1 e2=>joinL (λe3=>binR (binC E .sub 3 false true) e3 (.int .i64 (.ofNat 1)) λe4=>bindO (bv E e2 9 e1.1) λe5=>binR (binC E .lss 3 false false) e4 e5 λe6=>ae (λe7 e8=>ae (λe9 f0=>ae (λf1 f2=>ae (λf3 f4=>ae (λf5 f6=>ae (λf7 f8=>ae (λf9 g0=>ae (λg1 g2=>arC e6 E a1 b0 h k e1 rc e f9 g2 g1) λg1=>aB f9 (g1 undef g0) (g1 (.bool false) g0) (g1 undef g0)) λf9=>aB e6 (f9 f7 f8) (f9 undef f8) (f9 undef f8)) λf7=>arJ e6 E f1 f5 f7 f6) λf5=>aB e6 (bindO (bv E f4 9 f3) λf6=>f5 f6 f4) (f5 undef f4) (f5 undef f4)) λf3=>aB e6 (f3 e1.1 f2) (f3 undef f2) (f3 undef f2)) λf1=>arB e6 E e9 f1 f0) λe9=>arI e6 e9 e8 e7 E) λe7=>aB e6 (e7 a1 e2) (e7 undef e2) (e7 undef e2)) λe3=>onSl a1 (bindO (bv E e2 30 a1) e3) λ_ e4 _=>e3 (.int .i64 (.ofNat e4))) λe1=>e1 (getF b5 1,()) e0) (@joinR [9] (λe1 e2=>joinL (λe3=>binR (binC E .sub 3 false true) e3 (.int .i64 (.ofNat 1)) λe4=>bindO (bv E e2 9 e1.1) λe5=>binR (binC E .lss 3 false false) e4 e5 λe6=>ae (λe7 e8=>ae (λe9 f0=>ae (λf1 f2=>ae (λf3 f4=>ae (λf5 f6=>ae (λf7 f8=>ae (λf9 g0=>ae (λg1 g2=>arC e6 E a1 b0 h k e1 rc e f9 g2 g1) λg1=>aB f9 (g1 undef g0) (g1 d9 g0) (g1 undef g0)) λf9=>aB e6 (f9 f7 f8) (f9 undef f8) (f9 undef f8)) λf7=>arJ e6 E f1 f5 f7 f6) λf5=>aB e6 (bindO (bv E f4 9 f3) λf6=>f5 f6 f4) (f5 undef f4) (f5 undef f4)) λf3=>aB e6 (f3 e1.1 f2) (f3 undef f2) (f3 undef f2)) λf1=>arB e6 E e9 f1 f0) λe9=>arI e6 e9 e8 e7 E) λe7=>aB e6 (e7 a1 e2) (e7 undef e2) (e7 undef e2)) λe3=>onSl a1 (bindO (bv E e2 30 a1) e3) λ_ e4 _=>e3 (.int .i64 (.ofNat e4))) λe1=>onB d9 (e1 (getF b5 1,()) e0) (bindO (bv E e0 9 (getF b5 1)) λe2=>binR (binC E .sub 3 false true) e2 (.int .i64 (.ofNat 1)) λe3=>bindO (dd E 9 (getF b5 1) none (some e3) none) λe4=>e1 (e4,()) e0))) λd9=>aB c8 (d9 undef d8) (binR (binC E .eql 5 false true) d7 (.int .u8 (.ofNat 43)) λe0=>d9 e0 d8) (d9 undef d8)) λd7=>aB c8 (d7 undef d6) (bindO (dD E 9 c9 d5) λd8=>d7 d8 d6) (d7 undef d6)) λd5=>aB c8 (d5 undef d4) (binR (binC E .sub 3 false true) d3 (.int .i64 (.ofNat 1)) λd6=>d5 d6 d4) (d5 undef d4)) λd3=>aB c8 (d3 undef d2) (bindO (bv E d2 9 d1) λd4=>d3 d4 d2) (d3 undef d2)) λd1=>aB c8 (d1 undef d0) (d1 (getF b5 1) d0) (d1 undef d0)) λc9=>aB c8 (c9 undef c4) (c9 (getF b5 1) c4) (c9 undef c4)))))))))))) λb2=>onNat e.2.1 (bindO (aQ E b1 3 5 e.2.1) b2) λb3=>@Bool.rec (λ_=>R) (bindO (aQ E b1 3 5 e.2.1) b2) (b2 (.int .u8 (.ofNat b3))) (ble b3 255))) λb0=>onB a9 (b0 () a2) (j (e.1,()) a2))))))))))))))) λi=>onB g (c (e.1,()) f) (i () f)
def p23 (E:Env) (rc:RC) (a0:Value) (a1:Value) (h:H) (k:Value->H->R):R:=ifB (ble h.1 1000000000) (letH (ag h (.row 34 9 false false 0 (T.ofList unk [.int .i64 (.ofNat 0),.int .u8 (.ofNat 0),.string (ByteArray.mk #[]),.slice none 0 0,.int .i64 (.ofNat 0),.int .i64 (.ofNat 0),.int .i64 (.ofNat 0),.int .u8 (.ofNat 0),.slice none 0 0]))) λa=>rc 44 [] a λb c=>joinL (λd=>@joinR [5] (λ_ e=>amT e h E k) λe=>@loopF [5,18] (arU E d b a1 a0 h k rc e) ft (.int .i64 (.ofNat 0),(.int .i64 (.ofNat 0),())) c) λd=>onSl b (bindO (bv E c 84 b) d) λ_ e _=>d (.int .i64 (.ofNat e)))
theorem ats (t:ak) (rc:RC) (a0:Value) (a1:Value) (h:H) (k:Value->H->R):(ax (EX t) KK 23).run rc [a0,a1] h k=p23 (EX t) rc a0 a1 h k:=by kernel_rfl
section
def is:List (Bs × Bs):=[([112,111,111,108],[76,104]),([98,108,111,99,107],[76,104,78]),([115,116,114,100,117,112],[76,104,116]),([114,101,97,100],[104,78,77]),([119,114,105,116,101],[104,78,116]),([114,101,115,105,122,101],[104,78]),([97,112,112,101,110,100],[104,116,43]),([115,105,122,101],[104]),([97,108,108,111,99],[104,78,77]),([111,98,106,101,99,116,115],[104]),([108,111,97,100],[104,75,78,77]),([115,116,111,114,101],[104,75,78,116]),([102,114,101,101],[104,75]),([98,101,103,105,110],[104,77]),([103,114,111,119],[104,116,43]),([98,108,97,110,107],[104,78]),([115,104,114,105,110,107],[104,78]),([102,105,110,105,115,104],[104]),([97,98,111,114,116],[104]),([108,105,109,105,116],[104,79]),([115,101,116],[104,116,78]),([103,101,116],[104,116]),([100,114,111,112],[104,116]),([99,108,101,97,110],[104,107,78]),([112,114,101],[104,107,78]),([107,105,108,108],[104,78]),([114,117,110],[104,78]),([100,101,115,116,114,111,121],[104]),([99,108,101,97,114],[104]),([115,116,101,97,108],[104,104]),([114,101,112,97,114,101,110,116],[104,104,104]),([114,101,102,101,114],[104,104]),([117,110,108,105,110,107],[104,104]),([116,114,105,109],[]),([107,101,101,112],[78]),([114,101,102,117,115,101],[78]),([114,101,112,111,114,116],[104]),([108,111,103],[]),([102,105,110,100],[43]),([100,111,111,109],[104,104]),([100,111,111,109,101,100],[104,104])]
def An:AO:=.row 87 82 false false 0 (T.ofList unk (gi is))
def p44 (E:Env) (rc:RC) (h:H) (k:Value->H->R):R:=ifB (ble h.1 1000000000) (letH (ag h An) λa=>k (.slice (some (Addr.mk h.1 0 none)) 41 82) a)
theorem atV (t:ak) (rc:RC) (h:H) (k:Value->H->R):(ax (EX t) KK 44).run rc [] h k=p44 (EX t) rc h k:=by kernel_rfl
theorem ar8:is.map Prod.fst=dL.map Form.word:=by decide
def ahi (r:Bs):Bool:=r.getLast?==some 43
def AS (r:Bs):Bs:=if ahi r then r.take (r.length-1) else r
def okR (r:Bs) (f:Form):Bool:=(f.more==ahi r)&&decide (f.rest=(AS r).map sgR)&&ble r.length 4
theorem atk:(List.range 41).all (λi=>okR (is.getD i ([],[])).2 (dL.getD i f0))=true:=by decide
theorem as5 {i:Nat} (hi:i<41):getF (T.ofList unk (gi is)) (2*i)=aF (is.getD i ([],[])).1/\getF (T.ofList unk (gi is)) (2*i+1)=aF (is.getD i ([],[])).2:=by have h:=oG is i hi;rw[aL,aL,List.getD_eq_getElem?_getD (l:=is),List.getElem?_eq_getElem (show i<is.length from hi)];exact h
theorem auK {i:Nat} (hi:i<41):ac (T.ofList unk (gi is)) 2 (i*2)=[aF (is.getD i ([],[])).1,aF (is.getD i ([],[])).2]:=by obtain⟨t1,t2⟩:=as5 hi;show [getF (T.ofList unk (gi is)) (i*2),getF (T.ofList unk (gi is)) (i*2+1)]=_;rw[show i*2=2*i by omega,t1,t2]
def asX (r:Bs) (n:Nat):Bool:=ble (AS r).length n&&(ahi r||ble n (AS r).length)
theorem atb {r:Bs} {f:Form} (h:okR r f=true) (n:Nat):asX r n=lK f n:=by
 unfold okR at h;rw[Bool.and_eq_true,Bool.and_eq_true] at h;obtain⟨⟨h1,h2⟩,h3⟩:=h;have h1:f.more=ahi r:=eq_of_beq h1;have h2:f.rest=(AS r).map sgR:=of_decide_eq_true h2;unfold asX lK;rw[h1,h2,List.length_map];cases ahi r with
 | true=>rw[if_pos rfl,Bool.true_or,Bool.and_true]
 | false=>
  rw[if_neg (by decide),Bool.false_or];by_cases q:n=(AS r).length
  ·rw[q,Nat.beq_refl,be (Nat.le_refl _)];rfl
  ·rw[fT q];by_cases q2:(AS r).length<=n
   ·rw[gG (show (AS r).length<n by omega),Bool.and_false]
   ·rw[gG (by omega)];rfl
theorem atG {r:Bs} {f:Form} (h:okR r f=true) (i:Nat):sgR (if i<(AS r).length then (AS r).getD i 0 else 116)=f.rest.getD i .t:=by
 unfold okR at h;rw[Bool.and_eq_true,Bool.and_eq_true] at h;have h2:f.rest=(AS r).map sgR:=of_decide_eq_true h.1.2;rw[h2];by_cases q:i<(AS r).length
 ·rw[if_pos q,List.getD_eq_getElem?_getD,List.getD_eq_getElem?_getD,List.getElem?_map,List.getElem?_eq_getElem q];rfl
 ·rw[if_neg q,List.getD_eq_getElem?_getD,List.getElem?_eq_none (by rw[List.length_map];omega)];rfl
def as0 (E:Env) (rc:RC) (k:Value->H->R) (a1 pv:Value) (m b0 h:H) (e:aa [5,18]) (r1:aa [9]):R:=joinL (λe3=>binR (binC E .sub 3 false true) e3 (.int .i64 (.ofNat 1)) λe4=>bindO (bv E m 9 r1.1) λe5=>binR (binC E .lss 3 false false) e4 e5 λe6=>ae (λe7 e8=>ae (λe9 f0=>ae (λf1 f2=>ae (λf3 f4=>ae (λf5 f6=>ae (λf7 f8=>ae (λf9 g0=>ae (λg1 g2=>arC e6 E a1 b0 h k r1 rc e f9 g2 g1) λg1=>aB f9 (g1 undef g0) (g1 pv g0) (g1 undef g0)) λf9=>aB e6 (f9 f7 f8) (f9 undef f8) (f9 undef f8)) λf7=>arJ e6 E f1 f5 f7 f6) λf5=>aB e6 (bindO (bv E f4 9 f3) λf6=>f5 f6 f4) (f5 undef f4) (f5 undef f4)) λf3=>aB e6 (f3 r1.1 f2) (f3 undef f2) (f3 undef f2)) λf1=>arB e6 E e9 f1 f0) λe9=>arI e6 e9 e8 e7 E) λe7=>aB e6 (e7 a1 m) (e7 undef m) (e7 undef m)) λe3=>onSl a1 (bindO (bv E m 30 a1) e3) λ_ e4 _=>e3 (.int .i64 (.ofNat e4))
def c23 (E:Env) (rc:RC) (k:Value->H->R) (a1 rv:Value) (c4 b0 h:H) (e:aa [5,18]):R:=bindO (bv E c4 9 rv) λc7=>binR (binC E .gtr 3 false true) c7 (.int .i64 (.ofNat 0)) λc8=>ae (λc9 d0=>ae (λd1 d2=>ae (λd3 d4=>ae (λd5 d6=>ae (λd7 d8=>ae (λd9 e0=>onB c8 (as0 E rc k a1 (.bool false) e0 b0 h e (rv,())) (onB d9 (as0 E rc k a1 d9 e0 b0 h e (rv,())) (bindO (bv E e0 9 rv) λe2=>binR (binC E .sub 3 false true) e2 (.int .i64 (.ofNat 1)) λe3=>bindO (dd E 9 rv none (some e3) none) λe4=>as0 E rc k a1 d9 e0 b0 h e (e4,())))) λd9=>aB c8 (d9 undef d8) (binR (binC E .eql 5 false true) d7 (.int .u8 (.ofNat 43)) λe0=>d9 e0 d8) (d9 undef d8)) λd7=>aB c8 (d7 undef d6) (bindO (dD E 9 c9 d5) λd8=>d7 d8 d6) (d7 undef d6)) λd5=>aB c8 (d5 undef d4) (binR (binC E .sub 3 false true) d3 (.int .i64 (.ofNat 1)) λd6=>d5 d6 d4) (d5 undef d4)) λd3=>aB c8 (d3 undef d2) (bindO (bv E d2 9 d1) λd4=>d3 d4 d2) (d3 undef d2)) λd1=>aB c8 (d1 undef d0) (d1 rv d0) (d1 undef d0)) λc9=>aB c8 (c9 undef c4) (c9 rv c4) (c9 undef c4)
variable {E : Env} (u : US E) {rc : RC} {k : Value -> H -> R}
include u
theorem arl {r:Bs} {x:Addr} {n c:Nat} {p:Bool} (hn1:1<=n) (hn2:n<=100000) (hr:r.length<=100000) (m b0 h:H) (e:aa [5,18]):as0 E rc k (.slice (some x) n c) (.bool p) m b0 h e (aF r,()) =
  if (ble r.length (n-1)&&(p||ble (n-1) r.length))=true then arf E (.slice (some x) n c) b0 h k (aF r,()) rc (e.1,()) m else amT m h E k:=by
 have u3:=u.u3;have hlen:∀(l:H) K,bindO (bv E l 9 (aF r)) K=K (.int .i64 (.ofNat r.length)):=λl K=>by unfold aF;rw[nS u];rfl
 unfold as0;simp only[↓cJ,↓bZ,↓fI u3 hn1 (show n<=9223372036854775807 by omega),↓hlen];by_cases q:n-1<r.length
 ·rw[gG q,Bool.false_and,if_neg (by decide)];simp only[↓km u3 q,↓bz,↓eC,↓aK,↓ai,arC,arJ,arB,arI,↓BZ]
 ·have q':r.length<=n-1:=by omega
  rw[be q',Bool.true_and];simp only[↓iu u3 q',↓bz,↓dO,↓aM,↓ai,arC,arJ,arB,arI,↓cJ,↓bZ,↓fI u3 hn1 (show n<=9223372036854775807 by omega),↓hlen];by_cases q2:r.length<n-1
  ·rw[gG q2,Bool.or_false,mB u3 q2];cases p with
   | true=>rw[if_pos rfl];simp only[↓eC,↓aK,↓aM]
   | false=>rw[if_neg (by decide)];simp only[↓eC,↓aK,↓aM]
  ·rw[be (show n-1<=r.length by omega),Bool.or_true,if_pos rfl,lG u3 (show n-1<=r.length by omega)];simp only[↓dO,↓aM]
theorem auU {s:Bs} {j:Nat} (hj:j<=s.length):dd E 9 (aF s) none (some (.int .i64 (.ofNat j))) none=some (aF (s.take j)):=by unfold aF dd;rw[u.u9];simp only[bound,be hj,cond_true,be (Nat.zero_le j),List.drop_zero,Nat.sub_zero]
theorem as8 {r:Bs} {x:Addr} {n c:Nat} (hn1:1<=n) (hn2:n<=100000) (hr:r.length<=100000) (m b0 h:H) (e:aa [5,18]):c23 E rc k (.slice (some x) n c) (aF r) m b0 h e =
  if asX r (n-1)=true then arf E (.slice (some x) n c) b0 h k (aF (AS r),()) rc (e.1,()) m else amT m h E k:=by
 have u3:=u.u3;have hlen:∀(s:Bs) (l:H) K,bindO (bv E l 9 (aF s)) K=K (.int .i64 (.ofNat s.length)):=λs l K=>by unfold aF;rw[nS u];rfl
 unfold c23;by_cases q:r=[]
 ·subst q;simp only[↓hlen,List.length_nil,↓lG u3 (Nat.le_refl 0),↓bz,↓dO,↓aM,↓ai];exact arl u (r:=[]) (p:=false) hn1 hn2 (by simp) m b0 h e
 ·have hl:0<r.length:=List.length_pos_iff.2 q;have hg:r[r.length-1]?=some (r.getLast q):=by rw[<-List.getLast?_eq_getElem?,List.getLast?_eq_some_getLast q]
  have hix:∀KK,bindO (dD E 9 (aF r) (.int .i64 (.ofNat (r.length-1)))) KK=KK (gd (r.getLast q)):=λKK=>by unfold aF;rw[we u (kd:=.i64) hg];rfl
  simp only[↓hlen,↓mB u3 hl,↓bz,↓eC,↓aK,↓ai,↓fI u3 hl (show r.length<=9223372036854775807 by omega),↓hix];unfold gd;simp only[↓gv u.u5];by_cases q2:r.getLast q=43
  ·have hp:ahi r=true:=by unfold ahi;rw[List.getLast?_eq_some_getLast q,q2];rfl
   rw[q2,show beq (43:UInt8).toNat 43=true from rfl];simp only[↓aK,auU u (show r.length-1<=r.length by omega),↓bw];have:=arl u (rc:=rc) (k:=k) (r:=r.take (r.length-1)) (x:=x) (c:=c) (p:=true) hn1 hn2 (by rw[List.length_take];omega) m b0 h e;unfold asX AS;rw[hp,if_pos rfl];exact this
  ·have hp:ahi r=false:=by unfold ahi;rw[List.getLast?_eq_some_getLast q];exact beq_eq_false_iff_ne.2 λee=>q2 (Option.some.inj ee)
   rw[fT (show (r.getLast q).toNat≠43 from λee=>q2 (UInt8.toNat_inj.1 ee))];simp only[↓aM];have:=arl u (rc:=rc) (k:=k) (r:=r) (x:=x) (c:=c) (p:=false) hn1 hn2 hr m b0 h e;have hrr:AS r=r:=by unfold AS;rw[hp,if_neg (by decide)]
   unfold asX;rw[hp,hrr];exact this
end
section
def arb (rc:RC):Prop:=∀(h:H) (x:iq) (on tx:Value) (w:Bs) (c:UInt8) (k:Value->H->R) (X:R),SO h on x.on->SO h tx x.texts->h.next<=800000000->w.length<=100000->x.on.length<=8500->x.texts.length<=8500 ->
 rc 45 [.agg ⟨dJ x on tx⟩,gd c,aF w] h k=X->to h k X (dX x (sgR c) w)
variable {rc : RC}
theorem atn {h:H} {eb:Nat} {cellsE:T Value} (he:hget h eb=.row 34 9 false false 0 cellsE) (hb:eb<=1000000000) (m:Nat) (k:Value->H->R):
  (onRow (hget h eb) λa6 a7 a8 a9 b0 b1=>ifB (notB a9) (ifB (beq (lenF aO) 9) (ifB (ble b0 0) (ifB (ble 9 a7) (ifB (ble a7 1000000000) (ifB (allF (λb2=>cell1F b2) aO) (letH (hset h eb (.row a6 a7 a8 false b0 (putF b1 0 aO)))
   λb2=>bindO (aU EnvO b2 34 (Addr.mk eb 0 none)) λb3=>ifB (nT [b3,.int .i64 (.ofNat m)]) (k (.tuple ⟨[b3,.int .i64 (.ofNat m)]⟩) b2))))))))=k (.tuple ⟨[.agg ⟨aO⟩,.int .i64 (.ofNat m)]⟩) (hset h eb (.row 34 9 false false 0 (putF cellsE 0 aO))):=by
 rw[AV he rfl rfl,ast _ _ false false 0 _ (cm _ _ _ hb),bw,jj _ rfl];rfl
theorem CV.whole {h:H} {D:Nat} {y:iq} {on tx:Value} {cells:T Value} (lt:D<h.next) (hn:h.next<=1000000000) (hq:hget h D=.row 34 9 false false 0 cells) (s1:SO h on y.on) (s2:SO h tx y.texts):CV (hset h D (.row 34 9 false false 0 (putF cells 0 (dJ y on tx)))) D y on tx:=by
 have hk:∀w l,SO h w l->SO (hset h D (.row 34 9 false false 0 (putF cells 0 (dJ y on tx)))) w l:=λw l o=>o.keep (Nat.le_refl _) λc hc hl=>by rw[cu _ _ _ _ (by omega),if_neg];intro e;subst e;obtain⟨n,op,cs,e⟩:=o.row9 hc;rw[hq] at e;cases e
 refine⟨lt,⟨_,cm _ _ _ (by omega),λi hi=>?_⟩,hk _ _ s1,hk _ _ s2⟩;rw[cL,j7,cO _ _ _ (show (dJ y on tx).length<=_ by unfold dJ;simp),if_pos ⟨Nat.zero_le _,by unfold dJ;simpa using hi⟩,Nat.sub_zero]
theorem atq (hT:arb rc) {hd:H} {D B0 eb:Nat} (hD:D=hd.next) (hB2:B0<=D) {v:Value} {l:List Bs} (o:WL hd v l) (hs:small l) (hln:l.length<=8000) {cellsE:T Value} (he0:B0<=eb) (he1:eb<D) (he:hget hd eb=.row 34 9 false false 0 cellsE)
  {r:Bs} {f:Form} (hr:r.length<=100000) (hsg:∀i,sgR (if i<r.length then r.getD i 0 else 116)=f.rest.getD i .t)
  (dH:H) (hdH:dH.1=D) (eH:H) (heH:eH.1=eb) (k:Value->H->R) (K:aa [5,74]->H->R) (X:R):∀(d i N:Nat) (x:iq) (on tx:Value) (z:Value) (h:H),i+d=l.length->d<N->CV h D x on tx->(∀id,id<D->hget h id=hget hd id)->h.next+9*d<=790000000 ->
  x.on.length<=i->x.texts.length<=i ->
  loopF (ks:=[5,74]) (ary EnvO (.int .i64 (.ofNat l.length)) v (aF r,()) dH rc eH k K) N (z,(.int .i64 (.ofNat i),())) h=X ->
  match fv f x i (l.drop i) with
  |.ok y=>∃h' on' tx' z',eU D h h' (9*d)/\X=K z' h'/\CV h' D y on' tx'
  |.error er=>er≠0/\∃h',eU B0 h h' (9*d)/\X=k (.tuple ⟨[.agg ⟨aO⟩,.int .i64 (.ofNat er)]⟩) h':=by
 have u3:=us0.u3;intro d
 induction d with
 | zero=>
  intro i N x on tx z h hi hN cr hfr hn h1 h2 e;obtain⟨N,rfl⟩:∃M,N=M+1:=⟨N-1,by omega⟩;obtain rfl:i=l.length:=by omega
  rw[ce] at e;unfold ary at e;dsimp only at e;rw[iu u3 (Nat.le_refl _),ai] at e;rw[List.drop_length];exact⟨h,on,tx,_,eU.refl _ _ _,e.symm,cr⟩
 | succ d ih=>
  intro i N x on tx z h hi hN cr hfr hn h1 h2 e;obtain⟨N,rfl⟩:∃M,N=M+1:=⟨N-1,by omega⟩;have hlt:i<l.length:=by omega
  rw[ce] at e;generalize hLp:loopF (ks:=[5,74]) (ary EnvO (.int .i64 (.ofNat l.length)) v (aF r,()) dH rc eH k K) N=LP at e;cases o with
  | nil=>exact absurd hlt (Nat.not_lt_zero _)
  | row hb hq9 hm hcap hc=>
   rename_i bk of m cap fz op ro cells;have hq9':hget h bk=.row 9 m op ro fz cells:=(hfr _ (by omega)).trans hq9;have hqr:∀KK,onRow (hget h bk) KK=KK 9 m op ro fz cells:=λKK=>by rw[hq9'];rfl
   have hci:=hc i hlt;have hlen:∀KK,bindO (bv EnvO h 9 (aF r)) KK=KK (.int .i64 (.ofNat r.length)):=λKK=>by unfold aF;rw[nS us0];rfl
   obtain⟨lt,⟨cellsD,hqD,hcD⟩,s1,s2⟩:=cr;have hcl:ac cellsD 9 0=dJ x on tx:=Zn rfl hcD;unfold ary at e;dsimp only at e;rw[km u3 hlt,ai,aK] at e;dsimp only at e;rw[ai,cn,bZ,au (show i+1<=l.length by omega),co,aG] at e;dsimp only at e;rw[hqr,au (show of+i.mul 1+1<=m by show of+i*1+1<=m;omega),hlen] at e;have hkind:∀(J:aa [13]->H->R),(binR (binC EnvO .lss 3 false false) (.int .i64 (.ofNat i)) (.int .i64 (.ofNat r.length)) λv=>@joinR [13] J λw=>onB v (w (.int .u8 (.ofNat 116),()) h) (bindO (dD EnvO 9 (aF r) (.int .i64 (.ofNat i))) λx=>w (x,()) h))=J (gd (if i<r.length then r.getD i 0 else 116),()) h:=λJ=>by
    by_cases q:i<r.length
    ·have hgi:r[i]?=some (r.getD i 0):=by rw[List.getD_eq_getElem?_getD,List.getElem?_eq_getElem q];rfl
     rw[km u3 q,ai,aK,if_pos q];unfold aF;rw[we us0 (kd:=.i64) hgi];rfl
    ·rw[iu u3 (show r.length<=i by omega),ai,aM,if_neg q];rfl
   have e:=(hkind _).symm.trans e;dsimp only at e;rw[hdH,show (onRow (hget h D):_)=onRow (.row 34 9 false false 0 cellsD) by rw[hqD],dQ,dF (c:=ble 9 9) rfl,hcl,show of+i.mul 1=of+i by show of+i*1=_;omega,hci] at e;have hwl:(l[i]'hlt).length<=100000:=hs _ (List.getElem_mem hlt);have hend:=hT h x on tx (l[i]'hlt) _ _ _ s1 s2 (by omega) hwl (by omega) (by omega) e;rw[hsg i] at hend;rw[List.drop_eq_getElem_cons hlt];unfold fv;cases htk:dX x (f.rest.getD i .t) (l[i]'hlt) with
   | ok y=>
    rw[htk] at hend;obtain⟨hy1,hy2⟩:=yk htk;obtain⟨h1',on',tx',f1,e1,t1,t2⟩:=hend;replace e1:=e1.symm;have hub:=f1.ub;have hle:=f1.le;dsimp only at e1;rw[bJ,bK,bJ,cd,bK,au (show h1'.1<=1000000000 by show h1'.next<=_;omega),aJ,bC] at e1;have g2:Fr h1' (ag h1' (.row 34 9 false false 0 (T.ofList unk aO))) 1:=Fr.push _ (by omega);have e2:hget (ag h1' (.row 34 9 false false 0 (T.ofList unk aO))) h1'.next=.row 34 9 false false 0 (T.ofList unk aO):=aD _ _ (by omega);have n2:(ag h1' (.row 34 9 false false 0 (T.ofList unk aO))).next=h1'.next+1:=rfl;have hz:([.int .i64 (.ofNat 0),.int .u8 (.ofNat 0),.string (ByteArray.mk #[]),.slice none 0 0,.int .i64 (.ofNat 0),.int .i64 (.ofNat 0),.int .i64 (.ofNat 0),.int .u8 (.ofNat 0),.slice none 0 0]:List Value)=aO:=rfl;rw[hz] at e1;have t1':=t1.keep g2.le λc _ hl=>g2.old c hl;have t2':=t2.keep g2.le λc _ hl=>g2.old c hl;generalize ag h1' (.row 34 9 false false 0 (T.ofList unk aO))=h2 at e1 g2 e2 n2 t1' t2';rw[show h1'.1=h1'.next from rfl,AV e2 rfl (j4 t1 t2)] at e1;have cv3:=CV.whole (by omega) (by omega) e2 t1' t2';have e3:hget (hset h2 h1'.next (.row 34 9 false false 0 (putF (T.ofList unk aO) 0 (dJ y on' tx')))) h1'.next=_:=cm _ _ _ (by omega);have o3:∀id,id<h1'.next->hget (hset h2 h1'.next (.row 34 9 false false 0 (putF (T.ofList unk aO) 0 (dJ y on' tx')))) id=hget h1' id:=λid hid=>(dA _ _ (by omega) hid).trans (g2.old id hid);have n3:(hset h2 h1'.next (.row 34 9 false false 0 (putF (T.ofList unk aO) 0 (dJ y on' tx')))).next=h2.next:=rfl;generalize hset h2 h1'.next (.row 34 9 false false 0 (putF (T.ofList unk aO) 0 (dJ y on' tx')))=h3 at e1 cv3 e3 o3 n3;rw[dK u3,show (!beq 0 0)=false from rfl,ai,aM] at e1;dsimp only at e1;have hqD3:hget h3 D=.row 34 9 false false 0 cellsD:=(o3 D (by omega)).trans ((f1.old D lt).trans hqD);rw[show (onRow (hget h3 h1'.next):_)=onRow (.row 34 9 false false 0 (putF (T.ofList unk aO) 0 (dJ y on' tx'))) by rw[e3],dQ,dF (c:=ble 9 9) rfl,jj _ rfl,AV hqD3 rfl (j4 t1 t2),dl u3 (by omega),<-hLp] at e1;have cv4:=CV.whole (by omega) (by omega) hqD3 cv3.s1 cv3.s2;have key:=ih (i+1) N y on' tx' _ _ (by omega) (by omega) cv4 (λid hid=>(dA _ _ (by omega) hid).trans ((o3 id (by omega)).trans ((f1.old id (by omega)).trans (hfr id hid)))) (by show h3.next+_<=_;omega) (by omega) (by omega) e1;have f4:eU D h (hset h3 D (.row 34 9 false false 0 (putF cellsD 0 (dJ y on' tx')))) 9:=⟨by show h.next<=h3.next;omega,by show h3.next<=_;omega,λid hid=>(dA _ _ (by omega) hid).trans ((o3 id (by omega)).trans (f1.old id (by omega)))⟩;show match fv f y (i+1) (l.drop (i+1)) with | .ok y=>_ | .error er=>_
    cases hts:fv f y (i+1) (l.drop (i+1)) with
    | ok y'=> rw[hts] at key;obtain⟨h5,on5,tx5,z5,f5,e5,cr5⟩:=key;exact⟨h5,on5,tx5,z5,f4.trans f5 (by omega),e5,cr5⟩
    | error er=> rw[hts] at key;obtain⟨hne,h5,f5,e5⟩:=key;exact⟨hne,h5,eU.trans (m:=9) ⟨f4.le,f4.ub,λid hid=>f4.old id (by omega)⟩ f5 (by omega),e5⟩
   | error er=> rw[htk] at hend;obtain⟨h1',L,f1,e1,hL1,hL2⟩:=hend;replace e1:=e1.symm;have hne:=yf htk;have hub:=f1.ub;have hle:=f1.le;dsimp only at e1;rw[bJ,bK,bJ,cd,bK,au (show h1'.1<=1000000000 by show h1'.next<=_;omega),aJ,bC] at e1;have g2:Fr h1' (ag h1' (.row 34 9 false false 0 (T.ofList unk aO))) 1:=Fr.push _ (by omega);have e2:hget (ag h1' (.row 34 9 false false 0 (T.ofList unk aO))) h1'.next=.row 34 9 false false 0 (T.ofList unk aO):=aD _ _ (by omega);have n2:(ag h1' (.row 34 9 false false 0 (T.ofList unk aO))).next=h1'.next+1:=rfl;have hz:([.int .i64 (.ofNat 0),.int .u8 (.ofNat 0),.string (ByteArray.mk #[]),.slice none 0 0,.int .i64 (.ofNat 0),.int .i64 (.ofNat 0),.int .i64 (.ofNat 0),.int .u8 (.ofNat 0),.slice none 0 0]:List Value)=aO:=rfl;rw[hz] at e1;generalize ag h1' (.row 34 9 false false 0 (T.ofList unk aO))=h2 at e1 g2 e2 n2;rw[show h1'.1=h1'.next from rfl,AV e2 hL1 hL2] at e1;have o3:∀id,id<h1'.next->hget (hset h2 h1'.next (.row 34 9 false false 0 (putF (T.ofList unk aO) 0 L))) id=hget h1' id:=λid hid=>(dA _ _ (by omega) hid).trans (g2.old id hid);have n3:(hset h2 h1'.next (.row 34 9 false false 0 (putF (T.ofList unk aO) 0 L))).next=h2.next:=rfl;generalize hset h2 h1'.next (.row 34 9 false false 0 (putF (T.ofList unk aO) 0 L))=h3 at e1 o3 n3;rw[dK u3,show (!beq er 0)=true by rw[fT hne];rfl,ai,aK] at e1;rw[show cellsOfV (.agg (@List.toArray Value aO))=aO from rfl] at e1;have he':hget h3 eb=.row 34 9 false false 0 cellsE:=(o3 _ (by omega)).trans ((f1.old _ (by omega)).trans ((hfr _ he1).trans he));rw[heH,atn he' (by omega)] at e1;exact⟨hne,_,⟨by show h.next<=h3.next;omega,by show h3.next<=_;omega,λid hid=>(dA _ _ (by omega) (by omega)).trans ((o3 id (by omega)).trans (f1.old id (by omega)))⟩,e1.symm⟩
end
section
theorem aud {h:H} {ty b:Nat} {cells:T Value} {a c:Bs} (hq:hget h b=.row ty 2 false false 0 cells) (K:H->R):
  (onRow (hget h b) λq r s t u v=>ifB (notB t) (ifB (beq (lenF [aF a,aF c]) 2) (ifB (ble u 0) (ifB (ble 2 r) (ifB (ble r 1000000000) (ifB (allF (λw=>cell1F w) [aF a,aF c]) (letH (hset h b (.row q r s false u (putF v 0 [aF a,aF c]))) K)))))))=K (hset h b (.row ty 2 false false 0 (putF cells 0 [aF a,aF c]))):=by
 rw[hq,dQ,dF (c:=notB false) rfl,dF (c:=beq (lenF [aF a,aF c]) 2) rfl,au (Nat.zero_le _),au (Nat.le_refl _),au (by omega),dF (c:=allF (λw=>cell1F w) [aF a,aF c]) rfl,aJ]
theorem ash {w:Bs}:∀{t:List (Bs × Bs)} {i:Nat},i<=dE w t->i<t.length->((t.getD i ([],[])).1=w->dE w t=i)/\((t.getD i ([],[])).1≠w->i+1<=dE w t)
 | [],i,_,h=>absurd h (Nat.not_lt_zero _)
 | x :: t,0,_,_=>by
  unfold dE;constructor
  ·intro e;have e:x.1=w:=e;rw[if_pos e]
  ·intro e;have e:x.1≠w:=e;rw[if_neg e];omega
 | x :: t,i+1,h1,h2=>by
  unfold dE at h1 ⊢;by_cases q:x.1=w
  ·rw[if_pos q] at h1;omega
  ·rw[if_neg q] at h1 ⊢;have:=ash (w:=w) (t:=t) (i:=i) (by omega) (by simpa using h2);constructor
   ·intro e;rw[this.1 e]
   ·intro e;have:=this.2 e;omega
def BH (h:H) (n:Nat) (k:Value->H->R) (X:R):Except Nat iq->Prop
 |.ok y=>∃h' on tx,Fr h h' n/\X=k (.tuple ⟨[.agg ⟨dJ y on tx⟩,.int .i64 (.ofNat 0)]⟩) h'/\SO h' on y.on/\SO h' tx y.texts
 |.error er=>er≠0/\∃h',Fr h h' n/\X=k (.tuple ⟨[.agg ⟨aO⟩,.int .i64 (.ofNat er)]⟩) h'
theorem BH.mono {h:H} {n m:Nat} {k:Value->H->R} {X:R} {x:Except Nat iq} (c:BH h n k X x) (hm:n<=m):BH h m k X x:=by
 cases x with
 | ok y=> obtain⟨h',on,tx,f,e⟩:=c;exact⟨h',on,tx,⟨f.le,by have:=f.ub;omega,f.old⟩,e⟩
 | error er=> obtain⟨hne,h',f,e⟩:=c;exact⟨hne,h',⟨f.le,by have:=f.ub;omega,f.old⟩,e⟩
theorem asx (r:Bs):(AS r).length<=r.length:=by
 unfold AS;split
 ·rw[List.length_take];omega
 ·exact Nat.le_refl _
theorem atS (a:Bs):aj (aF a) (aF a)=true:=by simp[aF,aj,iC,fV,dy]
def are (line op:Nat):iq:=⟨line,op,[],[],0,0,0,0,[]⟩
def asf (f:Form) (line op:Nat) (l:List Bs):Except Nat iq:=if lK f l.length then fv f (are line op) 0 l else .error 14
variable {rc : RC}
theorem asu {m:H} {eb:Nat} {cellsE:T Value} (eH:H) (heH:eH.1=eb) (he:hget m eb=.row 34 9 false false 0 cellsE) (hb:eb<=1000000000) (k:Value->H->R):
  amT m eH EnvO k=k (.tuple ⟨[.agg ⟨aO⟩,.int .i64 (.ofNat 14)]⟩) (hset m eb (.row 34 9 false false 0 (putF cellsE 0 aO))):=by
 unfold amT;rw[mZ,heH];exact atn he hb 14 k
theorem as7 (hT:arb rc) {h0 hd m:H} {D eb:Nat} (hD:D=hd.next) (hB2:h0.next<=D) (hle0:h0.next<=m.next) (hold:∀id,id<h0.next->hget m id=hget h0 id) {w0:Bs} {v:Value} {l:List Bs} (o:WL hd v (w0 :: l)) (cl:gT v \/ 1<=l.length) (hs:small l) (hln:l.length<=8000) {cellsE:T Value} (he0:h0.next<=eb) (he1:eb<D) (he:hget hd eb=.row 34 9 false false 0 cellsE)
  {r:Bs} {f:Form} (hr:r.length<=100000) (hsg:∀i,sgR (if i<r.length then r.getD i 0 else 116)=f.rest.getD i .t)
  (dH:H) (hdH:dH.1=D) (eH:H) (heH:eH.1=eb) (k:Value->H->R) (X:R) {line op:Nat} (cr:CV m D (are line op) (.slice none 0 0) (.slice none 0 0)) (hfr:∀id,id<D->hget m id=hget hd id) (hn:m.next+9*l.length<=790000000) (z:Value)
  (e:arf EnvO v dH eH k (aF r,()) rc (z,()) m=X):BH h0 (m.next-h0.next+9*l.length) k X (fv f (are line op) 0 l):=by
 unfold arf at e;obtain⟨v',hv',o'⟩:=aeE ce0.u30 ce0.z9 o cl;dsimp only at e;rw[hv',bw,cJ] at e;rw[kS (E:=EnvO) (h':=m) o' ce0.u30,ai] at e;have key:=atq hT hD hB2 o' hs hln he0 he1 he hr hsg dH hdH eH heH k _ X l.length 0 ft (are line op) _ _ z m (by omega) (by unfold ft;omega) cr hfr (by omega) (Nat.zero_le _) (Nat.zero_le _) e;rw[List.drop_zero] at key;have hlt:=cr.lt;cases hts:fv f (are line op) 0 l with
 | error er=> rw[hts] at key;obtain⟨hne,h',f',e'⟩:=key;exact⟨hne,h',⟨by have:=f'.le;omega,by have:=f'.ub;omega,λid hid=>(f'.old id hid).trans (hold id hid)⟩,e'⟩
 | ok y=>
  rw[hts] at key;obtain⟨h',on,tx,z',f',e',cr'⟩:=key;obtain⟨lt',⟨cells',q',cc'⟩,s1,s2⟩:=cr';have hlast:ac cells' 9 0=dJ y on tx:=Zn rfl cc';have he':hget h' eb=.row 34 9 false false 0 cellsE:=(f'.old eb he1).trans ((hfr eb he1).trans he);have hle':=f'.le;have hub':=f'.ub;replace e':=e'.symm;rw[hdH,show (onRow (hget h' D):_)=onRow (.row 34 9 false false 0 cells') by rw[q'],dQ,dF (c:=ble 9 9) rfl,hlast,heH,AV he' rfl (j4 s1 s2),ast _ _ false false 0 _ (cm _ _ _ (by omega)),bw,jj _ rfl] at e';have hk:∀w l,SO h' w l->SO (hset h' eb (.row 34 9 false false 0 (putF cellsE 0 (dJ y on tx)))) w l:=λw l o=>o.keep (Nat.le_refl _) λc hc hl=>by rw[cu _ _ _ _ (by omega),if_neg];intro ee;subst ee;obtain⟨n,op,cs,e2⟩:=o.row9 hc;rw[he'] at e2;cases e2
  refine⟨_,on,tx,⟨?_,?_,λid hid=>?_⟩,e'.symm,hk _ _ s1,hk _ _ s2⟩
  ·show h0.next<=h'.next;omega
  ·show h'.next<=_;omega
  ·rw[dA _ _ (by omega) (by omega)];exact (f'.old id (by omega)).trans (hold id hid)
theorem atc (hT:arb rc) {h0 hA:H} {tb eb:Nat} (h0A:cD h0 hA) (htb:tb<hA.next) (htq:hget hA tb=An) {w0:Bs} {v:Value} {l:List Bs} (o:WL hA v (w0 :: l)) (cl:gT v \/ 1<=l.length) (hs:small l) (hln:l.length<=8000) {cellsE:T Value} (he0:h0.next<=eb) (he1:eb<hA.next) (he:hget hA eb=.row 34 9 false false 0 cellsE)
  (hn:hA.next+9*l.length<=780000000) (line:Nat) (eH:H) (heH:eH.1=eb) (k:Value->H->R) (K:aa [5]->H->R) (X:R):∀(d i N:Nat) (z:Value) (h:H),i+d=41->d<N->i<=dE w0 is->cD hA h->h.next<=hA.next+i ->
  loopF (ks:=[5,18]) (arU EnvO (.int .i64 (.ofNat 41)) (.slice (some ⟨tb,0,none⟩) 41 82) v (.int .i64 (.ofNat line)) eH k rc K) N (z,(.int .i64 (.ofNat i),())) h=X ->
  (dE w0 is<41/\BH h0 (hA.next-h0.next+50+9*l.length) k X (asf (dL.getD (dE w0 is) f0) line (dE w0 is) l)) \/ (dE w0 is=41/\∃z' h',cD hA h'/\h'.next<=hA.next+41/\X=K z' h'):=by
 have u3:=us0.u3;intro d
 induction d with
 | zero=>
  intro i N z h hi hN hix hfr hnx e;obtain⟨N,rfl⟩:∃M,N=M+1:=⟨N-1,by omega⟩;obtain rfl:i=41:=by omega
  have:=asl w0 is;have htl:is.length=41:=rfl;rw[ce] at e;unfold arU at e;dsimp only at e;rw[iu u3 (Nat.le_refl _),ai] at e;exact .inr ⟨by omega,_,h,hfr,hnx,e.symm⟩
 | succ d ih=>
  intro i N z h hi hN hix hfr hnx e;obtain⟨N,rfl⟩:∃M,N=M+1:=⟨N-1,by omega⟩;have hlt:i<41:=by omega
  have hle:=hfr.le;rw[ce] at e;generalize hLp:loopF (ks:=[5,18]) (arU EnvO (.int .i64 (.ofNat 41)) (.slice (some ⟨tb,0,none⟩) 41 82) v (.int .i64 (.ofNat line)) eH k rc K) N=LP at e;have o':=o;cases o with
  | row hb hq9 hm hcap hc=>
   rename_i bk of m cap fz op ro cells;have hm':of+(l.length+1)<=m:=by simpa using hm
   have hc0:=hc 0 (by simp);have hc0:getF cells of=aF w0:=hc0;unfold arU at e;dsimp only at e;rw[km u3 hlt,ai,aK] at e;dsimp only at e;rw[ai,cn,bZ,au (show i+1<=41 by omega),co,aG] at e;dsimp only at e;have htq':hget h tb=An:=(hfr.old _ htb).trans htq;rw[show (onRow (hget h tb):_)=onRow An by rw[htq']] at e;unfold An at e;rw[dQ,au (show 0+i.mul 2+2<=82 by show 0+i*2+2<=82;omega),au (show h.1<=1000000000 by show h.next<=_;omega),aJ,show 0+i.mul 2=i*2 from Nat.zero_add _,auK hlt] at e;generalize hwr:(is.getD i ([],[])).1=fw at e;generalize hrr:(is.getD i ([],[])).2=r at e;have f8:Fr h (ag h (.row 87 2 false false 0 (T.ofList unk [.string (ByteArray.mk #[]),.string (ByteArray.mk #[])]))) 1:=Fr.push _ (by omega);have e8:hget (ag h (.row 87 2 false false 0 (T.ofList unk [.string (ByteArray.mk #[]),.string (ByteArray.mk #[])]))) h.next=.row 87 2 false false 0 (T.ofList unk [.string (ByteArray.mk #[]),.string (ByteArray.mk #[])]):=aD _ _ (by omega);have n8:(ag h (.row 87 2 false false 0 (T.ofList unk [.string (ByteArray.mk #[]),.string (ByteArray.mk #[])]))).next=h.next+1:=rfl;generalize ag h (.row 87 2 false false 0 (T.ofList unk [.string (ByteArray.mk #[]),.string (ByteArray.mk #[])]))=h8 at e f8 e8 n8;rw[show h.1=h.next from rfl,aud e8] at e;have e9:hget (hset h8 h.next (.row 87 2 false false 0 (putF (T.ofList unk [.string (ByteArray.mk #[]),.string (ByteArray.mk #[])]) 0 [aF fw,aF r]))) h.next=.row 87 2 false false 0 (putF (T.ofList unk [.string (ByteArray.mk #[]),.string (ByteArray.mk #[])]) 0 [aF fw,aF r]):=cm _ _ _ (by omega);have o9:∀id,id<h.next->hget (hset h8 h.next (.row 87 2 false false 0 (putF (T.ofList unk [.string (ByteArray.mk #[]),.string (ByteArray.mk #[])]) 0 [aF fw,aF r]))) id=hget h id:=λid hid=>(dA _ _ (by omega) hid).trans (f8.old id hid);have n9:(hset h8 h.next (.row 87 2 false false 0 (putF (T.ofList unk [.string (ByteArray.mk #[]),.string (ByteArray.mk #[])]) 0 [aF fw,aF r]))).next=h8.next:=rfl;have c9:getF (putF (T.ofList unk [.string (ByteArray.mk #[]),.string (ByteArray.mk #[])]) 0 [aF fw,aF r]) 1=aF r:=by rw[cL,j7,cO _ _ _ (by simp),if_pos (by simp)];rfl
   have c90:getF (putF (T.ofList unk [.string (ByteArray.mk #[]),.string (ByteArray.mk #[])]) 0 [aF fw,aF r]) 0=aF fw:=by rw[cL,j7,cO _ _ _ (by simp),if_pos (by simp)];rfl
   generalize hset h8 h.next (.row 87 2 false false 0 (putF (T.ofList unk [.string (ByteArray.mk #[]),.string (ByteArray.mk #[])]) 0 [aF fw,aF r]))=h9 at e e9 o9 n9;generalize putF (T.ofList unk [.string (ByteArray.mk #[]),.string (ByteArray.mk #[])]) 0 [aF fw,aF r]=cellsC at e e9 c9 c90;rw[au (show h9.1<=1000000000 by show h9.next<=_;omega),aJ,show H.mk h9.1 h9.2=h9 from rfl,show (onRow (hget h9 h.next):_)=onRow (.row 87 2 false false 0 cellsC) by rw[e9],dQ,dF (c:=ble 1 2) rfl,bZ,au (show 1<=(w0 :: l).length by simp)] at e;have hq9':hget h9 bk=.row 9 m op ro fz cells:=(o9 _ (by omega)).trans ((hfr.old _ hb).trans hq9);dsimp only at e;rw[show (onRow (hget h9 bk):_)=onRow (.row 9 m op ro fz cells) by rw[hq9'],dQ,au (show of+1<=m by omega),c90,hc0] at e;have hne:∀(KK:Value->R),binR (binC EnvO .neq 9 false false) (aF fw) (aF w0) KK=KK (.bool (!(fw==w0))):=λKK=>by unfold aF;exact ar0 us0
   rw[hne,ai] at e;have htl:i<is.length:=hlt;obtain⟨ix1,ix2⟩:=ash (w:=w0) hix htl;by_cases q:fw=w0
   ·rw[show (!(fw==w0))=false by rw[q];simp,aM] at e;have hie:=ix1 (hwr.trans q);have hok:okR r (dL.getD i f0)=true:=by have:=List.all_eq_true.1 atk i (by simpa using hlt);rw[hrr] at this;exact this
    have hr4:r.length<=4:=by have:=hok;unfold okR at this;rw[Bool.and_eq_true] at this;exact Nat.le_of_ble_eq_true this.2
    dsimp only at e;rw[au (show h9.1<=1000000000 by show h9.next<=_;omega),aJ,cJ,cn,be (show i<=255 by omega)] at e;dsimp only at e;have e9':hget (H.mk (Nat.add h9.1 1) h9.2) h.next=.row 87 2 false false 0 cellsC:=e9;rw[arE,bw,show (onRow (hget (H.mk (Nat.add h9.1 1) h9.2) h.next):_)=onRow (.row 87 2 false false 0 cellsC) by rw[e9'],dQ,dF (c:=ble 2 2) rfl,aJ,xO,bC] at e;have hz:([.int .i64 (.ofNat 0),.int .u8 (.ofNat 0),.string (ByteArray.mk #[]),.slice none 0 0,.int .i64 (.ofNat 0),.int .i64 (.ofNat 0),.int .i64 (.ofNat 0),.int .u8 (.ofNat 0),.slice none 0 0]:List Value)=aO:=rfl;rw[hz] at e;have f10:Fr h9 (ag h9 (.row 34 9 false false 0 (T.ofList unk aO))) 1:=Fr.push _ (by omega);have e10:hget (ag h9 (.row 34 9 false false 0 (T.ofList unk aO))) h9.next=.row 34 9 false false 0 (T.ofList unk aO):=aD _ _ (by omega);have n10:(ag h9 (.row 34 9 false false 0 (T.ofList unk aO))).next=h9.next+1:=rfl;generalize ag h9 (.row 34 9 false false 0 (T.ofList unk aO))=h10 at e f10 e10 n10;have hcm:([.int .i64 (.ofNat line),.int .u8 (.ofNat i),.string (ByteArray.mk #[]),.slice none 0 0,.int .i64 (.ofNat 0),.int .i64 (.ofNat 0),.int .i64 (.ofNat 0),.int .u8 (.ofNat 0),.slice none 0 0]:List Value)=dJ (are line i) (.slice none 0 0) (.slice none 0 0):=rfl;rw[show h9.1=h9.next from rfl,hcm,AV e10 rfl rfl] at e;have cr:=CV.whole (y:=are line i) (on:=.slice none 0 0) (tx:=.slice none 0 0) (by omega) (by omega) e10 .nil .nil;have o11:∀id,id<h9.next->hget (hset h10 h9.next (.row 34 9 false false 0 (putF (T.ofList unk aO) 0 (dJ (are line i) (.slice none 0 0) (.slice none 0 0))))) id=hget h9 id:=λid hid=>(dA _ _ (by omega) hid).trans (f10.old id hid);have n11:(hset h10 h9.next (.row 34 9 false false 0 (putF (T.ofList unk aO) 0 (dJ (are line i) (.slice none 0 0) (.slice none 0 0))))).next=h10.next:=rfl;generalize hset h10 h9.next (.row 34 9 false false 0 (putF (T.ofList unk aO) 0 (dJ (are line i) (.slice none 0 0) (.slice none 0 0))))=h11 at e cr o11 n11;have e11:hget h11 h.next=.row 87 2 false false 0 cellsC:=(o11 _ (by omega)).trans e9;rw[A7,eP,show (onRow (hget h11 h.next):_)=onRow (.row 87 2 false false 0 cellsC) by rw[e11],dQ,dF (c:=ble 2 2) rfl,c9,atS,eP] at e;have e:c23 EnvO rc k (.slice (some ⟨bk,of,none⟩) (w0 :: l).length cap) (aF r) h11 h9 eH (z,(.int .i64 (.ofNat i),()))=X:=e;rw[as8 us0 (by simp) (by simp;omega) (by omega)] at e;have hfa9:cD hA h9:=⟨by omega,λid hid=>(o9 id (by omega)).trans (hfr.old id hid)⟩;have he9:hget h9 eb=.row 34 9 false false 0 cellsE:=(hfa9.old _ he1).trans he;have h0n:=h0A.le;refine .inl ⟨by omega,?_⟩;rw[hie];unfold asf;rw[show (w0 :: l).length-1=l.length by simp,atb hok] at e;have hold0:∀id,id<h0.next->hget h11 id=hget h0 id:=λid hid=>(o11 id (by omega)).trans ((hfa9.old id (by omega)).trans (h0A.old id hid));by_cases q2:lK (dL.getD i f0) l.length=true
    ·rw[if_pos q2] at e ⊢;have key:=as7 hT (h0:=h0) (hd:=h9) rfl (by omega) (by omega) hold0 (o'.from hfa9) cl hs hln he0 (by omega) he9 (r:=AS r) (f:=dL.getD i f0) (by have:=asx r;omega) (atG hok) h9 rfl eH heH k X cr (λid hid=>o11 id hid) (by omega) _ e;exact key.mono (by omega)
    ·rw[if_neg q2] at e ⊢;rw[asu eH heH ((o11 eb (by omega)).trans he9) (by omega)] at e;exact⟨by decide,_,⟨by show h0.next<=h11.next;omega,by show h11.next<=_;omega,λid hid=>(dA _ _ (by omega) (by omega)).trans (hold0 id hid)⟩,e.symm⟩
   ·rw[show (!(fw==w0))=true by rw[beq_eq_false_iff_ne.2 q];rfl,aK] at e;rw[dl u3 (by omega),<-hLp] at e;exact ih (i+1) N z h9 (by omega) (by omega) (ix2 λee=>q (hwr.symm.trans ee)) ⟨by omega,λid hid=>(o9 id (by omega)).trans (hfr.old id hid)⟩ (by omega) e
def asR (rc:RC):Prop:=∀(h:H) (k:Value->H->R),h.next<=900000000->rc 44 [] h k=k (.slice (some ⟨h.next,0,none⟩) 41 82) (ag h An)
theorem akq (line:Nat) (w:Bs) (l:List Bs):fX line (w :: l)=if dE w is<41 then asf (dL.getD (dE w is) f0) line (dE w is) l else .error 14:=by
 unfold fX;dsimp only;rw[sD w is dL 0 ar8,show is.length=41 from rfl];by_cases q:dE w is<41
 ·rw[if_pos q,if_pos q,Nat.zero_add];rfl
 ·rw[if_neg q,if_neg q]
theorem aum (hTab:asR rc) (hT:arb rc) {h:H} {w0:Bs} {v:Value} {l:List Bs} (o:WL h v (w0 :: l)) (cl:gT v \/ 1<=l.length) (hs:small l) (hln:l.length<=8000) (hn:h.next+9*l.length+100<=780000000) (line:Nat) (k:Value->H->R) (X:R)
  (e:p23 EnvO rc (.int .i64 (.ofNat line)) v h k=X):BH h (60+9*l.length) k X (fX line (w0 :: l)):=by
 unfold p23 at e;have hz:([.int .i64 (.ofNat 0),.int .u8 (.ofNat 0),.string (ByteArray.mk #[]),.slice none 0 0,.int .i64 (.ofNat 0),.int .i64 (.ofNat 0),.int .i64 (.ofNat 0),.int .u8 (.ofNat 0),.slice none 0 0]:List Value)=aO:=rfl;rw[au (show h.1<=1000000000 by show h.next<=_;omega),aJ,hz] at e;have f1:Fr h (ag h (.row 34 9 false false 0 (T.ofList unk aO))) 1:=Fr.push _ (by omega);have e1:hget (ag h (.row 34 9 false false 0 (T.ofList unk aO))) h.next=.row 34 9 false false 0 (T.ofList unk aO):=aD _ _ (by omega);have n1:(ag h (.row 34 9 false false 0 (T.ofList unk aO))).next=h.next+1:=rfl;generalize ag h (.row 34 9 false false 0 (T.ofList unk aO))=h1 at e f1 e1 n1;rw[hTab h1 _ (by omega),cJ,bZ] at e;dsimp only at e;rw[ai] at e;have f2:Fr h1 (ag h1 An) 1:=Fr.push _ (by omega);have e2:hget (ag h1 An) h1.next=An:=aD _ _ (by omega);have n2:(ag h1 An).next=h1.next+1:=rfl;generalize ag h1 An=h2 at e f2 e2 n2;have fa:cD h h2:=⟨by omega,λid hid=>(f2.old id (by omega)).trans (f1.old id hid)⟩;have he:hget h2 h.next=.row 34 9 false false 0 (T.ofList unk aO):=(f2.old _ (by omega)).trans e1;rcases atc hT fa (show h1.next<h2.next by omega) e2 (o.from fa) cl hs hln (Nat.le_refl _) (by omega) he (by omega) line h rfl k _ X 41 0 ft (.int .i64 (.ofNat 0)) h2 rfl (by unfold ft;omega) (Nat.zero_le _) ⟨Nat.le_refl _,λ_ _=>rfl⟩ (by omega) e with ⟨q,hc⟩ | ⟨q,z',h',hf,hb,hX⟩
 ·rw[akq,if_pos q];exact hc.mono (by omega)
 ·rw[akq,if_neg (by omega)];have hle:=hf.le;rw[asu h rfl ((hf.old _ (by omega)).trans he) (by omega)] at hX;exact⟨by decide,_,⟨by show h.next<=h'.next;omega,by show h'.next<=_;omega,λid hid=>(dA _ _ (by omega) (by omega)).trans ((hf.old id (by omega)).trans (fa.old id hid))⟩,hX⟩
end
end Go.Ev
