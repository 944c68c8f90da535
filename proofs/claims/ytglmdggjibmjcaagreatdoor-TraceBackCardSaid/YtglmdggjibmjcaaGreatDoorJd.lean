/-
  EVALUATOR FOR THE KERNEL, PART 4: whole numbers.
-/
import Derived.Test.YtglmdggjibmjcaaGreatDoorJa
import Derived.IntWalk
noncomputable section
set_option linter.all false
open Nat (ble beq)
namespace Go.Ev
open Go
namespace F
abbrev R:=Option (Value × H)
abbrev RC:=FuncId->List Value->H->(Value->H->R)->R
@[reducible] def aa:List Tmp->Type
 | []=>Unit
 | _ :: ks=>Value × aa ks
inductive NN where
 | no
 | s (n:Nat)
inductive PV where
 | no
 | p (ad:Addr)
inductive SV where
 | no
 | s (ad:Addr) (n c:Nat)
inductive BV where
 | no
 | ff
 | tt
 | un
inductive CV where
 | no
 | one
 | many (l:List Value)
inductive FV where
 | no
 | f (f:FuncId) (first caps:Array Value)
def mP (n:Int):NN:=Int.rec (motive:=λ_=>NN) NN.s (λ_=>.no) n
def pz (_:Int):NN:=.no
def nb (v:Value):NN:=
 Value.rec (motive_1:=λ_=>NN) (motive_2:=λ_=>NN) (motive_3:=λ_=>NN) (λ_=>.no) (λkd n=>IntKind.rec (motive:=λ_=>Int->NN) pz pz pz mP pz pz pz pz kd n) (λ_ _=>.no) (λ_ _ _=>.no) (λ_=>.no) (λ_=>.no) (λ_ _ _=>.no) (λ_=>.no) (λ_=>.no) (λ_ _ _ _ _=>.no) .no (λ_ _ _=>.no) .no (λ_ _=>.no) (λ_ _=>.no) (λ_ _=>.no) .no (λ_ _ _ _=>.no) v
def nd (v:Value):NN:=
 Value.rec (motive_1:=λ_=>NN) (motive_2:=λ_=>NN) (motive_3:=λ_=>NN) (λ_=>.no) (λkd n=>IntKind.rec (motive:=λ_=>Int->NN) pz pz pz pz pz pz pz mP kd n) (λ_ _=>.no) (λ_ _ _=>.no) (λ_=>.no) (λ_=>.no) (λ_ _ _=>.no) (λ_=>.no) (λ_=>.no) (λ_ _ _ _ _=>.no) .no (λ_ _ _=>.no) .no (λ_ _=>.no) (λ_ _=>.no) (λ_ _=>.no) .no (λ_ _ _ _=>.no) v
def zh (v:Value):NN:=
 Value.rec (motive_1:=λ_=>NN) (motive_2:=λ_=>NN) (motive_3:=λ_=>NN) (λ_=>.no) (λkd n=>IntKind.rec (motive:=λ_=>Int->NN) pz pz pz pz mP pz pz pz kd n) (λ_ _=>.no) (λ_ _ _=>.no) (λ_=>.no) (λ_=>.no) (λ_ _ _=>.no) (λ_=>.no) (λ_=>.no) (λ_ _ _ _ _=>.no) .no (λ_ _ _=>.no) .no (λ_ _=>.no) (λ_ _=>.no) (λ_ _=>.no) .no (λ_ _ _ _=>.no) v
def sB (v:Value):NN:=
 Value.rec (motive_1:=λ_=>NN) (motive_2:=λ_=>NN) (motive_3:=λ_=>NN) (λ_=>.no) (λ_ n=>mP n) (λ_ _=>.no) (λ_ _ _=>.no) (λ_=>.no) (λ_=>.no) (λ_ _ _=>.no) (λ_=>.no) (λ_=>.no) (λ_ _ _ _ _=>.no) .no (λ_ _ _=>.no) .no (λ_ _=>.no) (λ_ _=>.no) (λ_ _=>.no) .no (λ_ _ _ _=>.no) v
def UK (a:Option Addr):PV:=Option.rec (motive:=λ_=>PV) .no PV.p a
def Cu (v:Value):PV:=
 Value.rec (motive_1:=λ_=>PV) (motive_2:=λ_=>PV) (motive_3:=λ_=>PV) (λ_=>.no) (λ_ _=>.no) (λ_ _=>.no) (λ_ _ _=>.no) (λ_=>.no) UK (λ_ _ _=>.no) (λ_=>.no) (λ_=>.no) (λ_ _ _ _ _=>.no) .no (λ_ _ _=>.no) .no (λ_ _=>.no) (λ_ _=>.no) (λ_ _=>.no) .no (λ_ _ _ _=>.no) v
def U7 (a:Option Addr) (n c:Nat):SV:=Option.rec (motive:=λ_=>Nat->Nat->SV) (λ_ _=>.no) SV.s a n c
def Pu (v:Value):SV:=
 Value.rec (motive_1:=λ_=>SV) (motive_2:=λ_=>SV) (motive_3:=λ_=>SV) (λ_=>.no) (λ_ _=>.no) (λ_ _=>.no) (λ_ _ _=>.no) (λ_=>.no) (λ_=>.no) U7 (λ_=>.no) (λ_=>.no) (λ_ _ _ _ _=>.no) .no (λ_ _ _=>.no) .no (λ_ _=>.no) (λ_ _=>.no) (λ_ _=>.no) .no (λ_ _ _ _=>.no) v
def aa4 (b:Bool):BV:=Bool.rec (motive:=λ_=>BV) .ff .tt b
def as9 (l:List Value):BV:=List.rec (motive:=λ_=>BV) .un (λ_ _ _=>.no) l
def asB (v:Value):BV:=
 Value.rec (motive_1:=λ_=>BV) (motive_2:=λ_=>BV) (motive_3:=λ_=>BV) aa4 (λ_ _=>.no) (λ_ _=>.no) (λ_ _ _=>.no) (λ_=>.no) (λ_=>.no) (λ_ _ _=>.no) (λ_=>.no) (λ_=>.no) (λ_ _ _ _ _=>.no) .no (λ_ _ _=>.no) .no (λ_ _=>.no) (λa _=>as9 a.1) (λ_ _=>.no) .no (λ_ _ _ _=>.no) v
def onB (v:Value) (f t:R):R:=BV.rec (motive:=λ_=>R) none f t none (asB v)
def aF (v:Value) (f t u:R):R:=BV.rec (motive:=λ_=>R) none f t u (asB v)
def onPtr (v:Value) (k:Addr->R):R:=PV.rec (motive:=λ_=>R) none k (Cu v)
def onSl (v:Value) (s:R) (k:Addr->Nat->Nat->R):R:=SV.rec (motive:=λ_=>R) s k (Pu v)
def onNat (v:Value) (s:R) (k:Nat->R):R:=NN.rec (motive:=λ_=>R) s k (sB v)
def onTup (v:Value) (k:List Value->R):R:=
 Value.rec (motive_1:=λ_=>(List Value->R)->R) (motive_2:=λ_=>(List Value->R)->R) (motive_3:=λ_=>(List Value->R)->R) (λ_=>(λ_=>none)) (λ_ _=>(λ_=>none)) (λ_ _=>(λ_=>none)) (λ_ _ _=>(λ_=>none)) (λ_=>(λ_=>none)) (λ_=>(λ_=>none)) (λ_ _ _=>(λ_=>none)) (λ_=>(λ_=>none)) (λ_=>(λ_=>none)) (λ_ _ _ _ _=>(λ_=>none)) (λ_=>none) (λ_ _ _=>(λ_=>none)) (λ_=>none) (λ_ _=>(λ_=>none)) (λa _ k=>k a.1) (λ_ _=>(λ_=>none)) (λ_=>none) (λ_ _ _ _=>(λ_=>none)) v k
def aoT (fn:Fn) (a b:Array Value) (_ _:FV):FV:=Fn.rec (motive:=λ_=>Array Value->Array Value->FV) (λf a b=>.f f a b) (λ_ _ _=>.no) (λ_ _ _ _=>.no) (λ_ _ _ _ _ _=>.no) (λ_ _ _=>.no) fn a b
def asF (v:Value):FV:=
 Value.rec (motive_1:=λ_=>FV) (motive_2:=λ_=>FV) (motive_3:=λ_=>FV) (λ_=>.no) (λ_ _=>.no) (λ_ _=>.no) (λ_ _ _=>.no) (λ_=>.no) (λ_=>.no) (λ_ _ _=>.no) (λ_=>.no) (λ_=>.no) aoT .no (λ_ _ _=>.no) .no (λ_ _=>.no) (λ_ _=>.no) (λ_ _=>.no) .no (λ_ _ _ _=>.no) v
def D1 (v:Value) (k:FuncId->Array Value->Array Value->R):R:=FV.rec (motive:=λ_=>R) none k (asF v)
def asC (v:Value):CV:=
 Value.rec (motive_1:=λ_=>CV) (motive_2:=λ_=>CV) (motive_3:=λ_=>CV) (λ_=>.one) (λ_ _=>.one) (λ_ _=>.one) (λ_ _ _=>.one) (λ_=>.one) (λ_=>.one) (λ_ _ _=>.one) (λ_=>.one) (λ_=>.one) (λ_ _ _ _ _=>.one) .one (λ_ _ _=>.one) .one (λa _=>.many a.1) (λ_ _=>.no) (λ_ _=>.one) .one (λ_ _ _ _=>.one) v
def onCells (v:Value) (k:List Value->R):R:=CV.rec (motive:=λ_=>R) none (k [v]) k (asC v)
def cell1F (v:Value):Bool:=
 Value.rec (motive_1:=λ_=>Bool) (motive_2:=λ_=>Bool) (motive_3:=λ_=>Bool) (λ_=>true) (λ_ _=>true) (λ_ _=>true) (λ_ _ _=>true) (λ_=>true) (λ_=>true) (λ_ _ _=>true) (λ_=>true) (λ_=>false) (λ_ _ _ _ _=>true) true (λ_ _ _=>true) true (λ_ _=>false) (λ_ _=>false) (λ_ _=>true) true (λ_ _ _ _=>true) v
def fW (v:Value):Bool:=
 Value.rec (motive_1:=λ_=>Bool) (motive_2:=λ_=>Bool) (motive_3:=λ_=>Bool) (λ_=>true) (λ_ _=>true) (λ_ _=>false) (λ_ _ _=>false) (λ_=>true) (λ_=>true) (λ_ _ _=>true) (λ_=>true) (λ_=>false) (λ_ _ _ _ _=>false) true (λ_ _ _=>false) true (λ_ _=>false) (λ_ _=>false) (λ_ _=>true) true (λ_ _ _ _=>true) v
def uX (a b:NN) (s:R) (k:Nat->Nat->R):R:=
 NN.rec (motive:=λ_=>NN->R->(Nat->Nat->R)->R) (λ_ s _=>s) (λm b s k=>NN.rec (motive:=λ_=>R->(Nat->Nat->R)->Nat->R) (λs _ _=>s) (λn _ k m=>k m n) b s k m) a b s k
def allF (p:Value->Bool) (l:List Value):Bool:=List.rec (motive:=λ_=>Bool) true (λv _ ih=>Bool.rec (motive:=λ_=>Bool) false ih (p v)) l
def nthF (i:Nat) (l:List Value) (k:Value->R):R:=
 Nat.rec (motive:=λ_=>List Value->R) (λl=>List.rec (motive:=λ_=>R) none (λv _ _=>k v) l) (λ_ ih l=>List.rec (motive:=λ_=>R) none (λ_ r _=>ih r) l) i l
def lenF (l:List Value):Nat:=List.rec (motive:=λ_=>Nat) 0 (λ_ _ n=>Nat.succ n) l
def val {α:Type} (t:T α):α:=T.rec (motive:=λ_=>α) (λv=>v) (λ_ v _ _ _=>v) t
def left {α:Type} (t:T α):T α:=T.rec (motive:=λ_=>T α) (λv=>.c v) (λl _ _ _ _=>l) t
def right {α:Type} (t:T α):T α:=T.rec (motive:=λ_=>T α) (λv=>.c v) (λ_ _ r _ _=>r) t
def aca {α:Type} (j:Nat) (gl gr:Nat->α):α:=
 Nat.rec (motive:=λ_=>(Nat->α)->(Nat->α)->Nat->α) (λgl _=>gl) (λ_ _ _ gr=>gr) (Nat.mod j 2) gl gr (Nat.div j 2)
def getF {α:Type} (t:T α):Nat->α:=
 T.rec (motive:=λ_=>Nat->α) (λv _=>v)
  (λ_ v _ gl gr i=>Nat.rec (motive:=λ_=>α->(Nat->α)->(Nat->α)->α) (λv _ _=>v) (λj _ _ gl gr=>aca j gl gr) i v gl gr) t
def EL {α β:Type} (t:T α) (k:T α->α->T α->β):β:=T.rec (motive:=λ_=>β) (λv=>k (.c v) v (.c v)) (λl v r _ _=>k l v r) t
def jb {α β:Type} (fc:α->(α->β)->β) (f:Nat):T α->Nat->α->(T α->β)->β:=
 Nat.rec (motive:=λ_=>T α->Nat->α->(T α->β)->β) (λt _ _ k=>k t)
  (λ_ ih t i x k=>EL t (λl v r=>Nat.rec (motive:=λ_=>β) (fc x (λx=>k (.n l x r)))
   (λj _=>Nat.rec (motive:=λ_=>β) (ih l (Nat.div j 2) x (λl=>k (.n l v r))) (λ_ _=>ih r (Nat.div j 2) x (λr=>k (.n l v r))) (Nat.mod j 2)) i)) f
def Ej {α β:Type} (fc:α->(α->β)->β) (t:T α):Nat->α->(T α->β)->β:=
 T.rec (motive:=λ_=>Nat->α->(T α->β)->β) (λv i x k=>jb fc 40 (.c v) i x k)
  (λl v r il ir i x k=>Nat.rec (motive:=λ_=>β) (fc x (λx=>k (.n l x r)))
   (λj _=>Nat.rec (motive:=λ_=>β) (il (Nat.div j 2) x (λl=>k (.n l v r))) (λ_ _=>ir (Nat.div j 2) x (λr=>k (.n l v r))) (Nat.mod j 2)) i) t
def Hb {α β:Type} (fc:α->(α->β)->β) (t:T α) (i:Nat) (x:α) (k:T α->β):β:=Bool.rec (motive:=λ_=>β) (jb fc 40 t i x k) (Ej fc t i x k) (ble i 1000000000)
def dW {α:Type} (f:Nat) (t:T α) (i:Nat) (x:α):T α:=Bool.rec (motive:=λ_=>T α) (jb (λx k=>k x) f t i x (λt=>t)) (Hb (λx k=>k x) t i x (λt=>t)) (beq f 40)
def fcT {α β:Type} (t:T α) (k:T α->β):β:=T.rec (motive:=λ_=>β) (λv=>k (.c v)) (λl v r _ _=>k (.n l v r)) t
def fcA {β:Type} (o:AO) (k:AO->β):β:=AO.rec (motive:=λ_=>β) (k .dead) (λe n op ro fz c=>fcT c (λc=>k (.row e n op ro fz c))) (λes cl=>k (.map es cl)) (λs p=>k (.iter s p)) o
def hget (h:H) (i:Nat):AO:=getF h.2 i
def hset (h:H) (i:Nat) (o:AO):H:=⟨h.1,Hb fcA h.2 i o (λt=>t)⟩
def ag (h:H) (o:AO):H:=⟨Nat.succ h.1,Hb fcA h.2 h.1 o (λt=>t)⟩
def onRow (o:AO) (k:TypeId->Nat->Bool->Bool->Nat->T Value->R):R:=AO.rec (motive:=λ_=>R) none k (λ_ _=>none) (λ_ _=>none) o
def ifB (b:Bool) (k:R):R:=Bool.rec (motive:=λ_=>R) none k b
def bindO (o:Option Value) (k:Value->R):R:=Option.rec (motive:=λ_=>R) none k o
def cE (o:Option (Value × H)) (k:Value->H->R):R:=Option.rec (motive:=λ_=>R) none (λp=>k p.1 p.2) o
def Uv (o:Option H) (k:H->R):R:=Option.rec (motive:=λ_=>R) none k o
def VN {β:Type} (n:Nat) (k:Nat->β):β:=Nat.rec (motive:=λ_=>β) (k 0) (λp _=>k (Nat.succ p)) n
def letH (h:H) (k:H->R):R:=fcT h.2 (λt=>VN h.1 (λn=>k ⟨n,t⟩))
structure OC (ks:List Tmp) where
 run:aa ks->Value
def hY (a b:Bool):Bool:=Bool.rec (motive:=λ_=>Bool->Bool) (λ_=>false) (λb=>b) a b
def notB (b:Bool):Bool:=Bool.rec (motive:=λ_=>Bool) true false b
def tb (m:Nat) (d:Tmp):Bool:=beq (Nat.land (Nat.shiftRight m d) 1) 1
def bit (d:Tmp):Nat:=Nat.shiftLeft 1 d
def uV (a b:Nat):Nat:=Nat.xor a (Nat.land a b)
def avH:Nat:=Nat.sub (Nat.pow 2 2000) 1
def cC (l:List Tmp):Nat:=List.rec (motive:=λ_=>Nat) 0 (λd _ m=>Nat.lor (Nat.shiftLeft 1 d) m) l
def fk (l:List Tmp) (m:Nat):List Tmp:=List.rec (motive:=λ_=>Nat->List Tmp) (λ_=>[])
 (λd _ ih m=>Bool.rec (motive:=λ_=>List Tmp) (ih m) (d :: ih (Nat.xor m (Nat.shiftLeft 1 d))) (tb m d)) l m
def jv (d:Tmp):(ks:List Tmp)->OC ks
 | []=>⟨λ_=>undef⟩
 | [a]=>cond (beq a d) ⟨λe=>e.1⟩ ⟨λ_=>undef⟩
 | [a,b]=>cond (beq a d) ⟨λe=>e.1⟩ (cond (beq b d) ⟨λe=>e.2.1⟩ ⟨λ_=>undef⟩)
 | [a,b,c]=>cond (beq a d) ⟨λe=>e.1⟩ (cond (beq b d) ⟨λe=>e.2.1⟩ (cond (beq c d) ⟨λe=>e.2.2.1⟩ ⟨λ_=>undef⟩))
 | a :: b :: c :: x :: ks=>cond (beq a d) ⟨λe=>e.1⟩ (cond (beq b d) ⟨λe=>e.2.1⟩ (cond (beq c d) ⟨λe=>e.2.2.1⟩
   (cond (beq x d) ⟨λe=>e.2.2.2.1⟩ ⟨λe=>(jv d ks).run e.2.2.2.2⟩)))
def dG (ks:List Tmp):Operand->OC ks
 |.tmp i=>jv i ks
 |.const v=>cond (plain v) ⟨λ_=>v⟩ ⟨λ_=>unk⟩
 |.global g=>cond (ble 16 g) ⟨λ_=>unk⟩ ⟨λ_=>.pointer (some ⟨g,0,none⟩)⟩
 |.func f=>⟨λ_=>.func (.func f) #[] #[]⟩
def okO (ok:Nat) (x:Operand):Bool:=Operand.rec (motive:=λ_=>Bool) (λi=>tb ok i) (λ_=>true) (λ_=>true) (λ_=>true) x
def awH (a b:Bool):Bool:=Bool.rec (motive:=λ_=>Bool->Bool) (λ_=>false) (λb=>b) a b
def yB (ok:Nat) (l:List Operand):Bool:=List.rec (motive:=λ_=>Bool) true (λx _ ih=>awH (okO ok x) ih) l
structure XC (ks:List Tmp) where
 run:aa ks->List Value
def j4 (ks:List Tmp):List Operand->XC ks
 | []=>⟨λ_=>[]⟩
 | x :: l=>⟨λe=>(dG ks x).run e :: (j4 ks l).run e⟩
structure YC (ks:List Tmp) where
 run:aa ks->List (Nat × Value)
def pP (ks:List Tmp):List (Nat × Operand)->YC ks
 | []=>⟨λ_=>[]⟩
 | p :: l=>⟨λe=>(p.1,(dG ks p.2).run e) :: (pP ks l).run e⟩
structure WC (ks:List Tmp) where
 run:aa ks->Option Value
def Hm (ks:List Tmp):Option Operand->WC ks
 | none=>⟨λ_=>none⟩
 | some x=>⟨λe=>some ((dG ks x).run e)⟩
structure LC (ks:List Tmp) where
 run:aa ks->H->(Value->R)->R
def LC.no (ks:List Tmp):LC ks:=⟨λ_ _ _=>none⟩
structure BC where
 run:Value->Value->(Value->R)->R
def binR (c:BC) (x y:Value) (k:Value->R):R:=c.run x y k
def lI (E:Env) (op:BinOp) (ty:TypeId) (cx cy:Bool):BC:=⟨λx y k=>bindO (ij E op ty cx cy x y) k⟩
def opN (as:Value->NN) (kd:IntKind) (fo:Nat) (s:BC):BinOp->BC
 |.add=>⟨λx y k=>uX (as x) (as y) (s.run x y k) (λm n=>Bool.rec (motive:=λ_=>R) (s.run x y k) (k (.int kd (.ofNat (Nat.add m n)))) (ble (Nat.add m n) fo))⟩
 |.sub=>⟨λx y k=>uX (as x) (as y) (s.run x y k) (λm n=>Bool.rec (motive:=λ_=>R) (s.run x y k) (k (.int kd (.ofNat (Nat.sub m n)))) (hY (ble n m) (ble m fo)))⟩
 |.mul=>⟨λx y k=>uX (as x) (as y) (s.run x y k) (λm n=>Bool.rec (motive:=λ_=>R) (s.run x y k) (k (.int kd (.ofNat (Nat.mul m n)))) (ble (Nat.mul m n) fo))⟩
 |.quo=>⟨λx y k=>uX (as x) (as y) (s.run x y k) (λm n=>Bool.rec (motive:=λ_=>R) (s.run x y k) (k (.int kd (.ofNat (Nat.div m n)))) (hY (ble 1 n) (ble m fo)))⟩
 |.rem=>⟨λx y k=>uX (as x) (as y) (s.run x y k) (λm n=>Bool.rec (motive:=λ_=>R) (s.run x y k) (k (.int kd (.ofNat (Nat.mod m n)))) (hY (ble 1 n) (ble m fo)))⟩
 |.and=>⟨λx y k=>uX (as x) (as y) (s.run x y k) (λm n=>Bool.rec (motive:=λ_=>R) (s.run x y k) (k (.int kd (.ofNat (Nat.land m n)))) (hY (ble m fo) (ble n fo)))⟩
 |.or=>⟨λx y k=>uX (as x) (as y) (s.run x y k) (λm n=>Bool.rec (motive:=λ_=>R) (s.run x y k) (k (.int kd (.ofNat (Nat.lor m n)))) (hY (ble m fo) (ble n fo)))⟩
 |.eql=>⟨λx y k=>uX (as x) (as y) (s.run x y k) (λm n=>k (.bool (beq m n)))⟩
 |.neq=>⟨λx y k=>uX (as x) (as y) (s.run x y k) (λm n=>k (.bool (notB (beq m n))))⟩
 |.lss=>⟨λx y k=>uX (as x) (as y) (s.run x y k) (λm n=>k (.bool (ble (Nat.succ m) n)))⟩
 |.leq=>⟨λx y k=>uX (as x) (as y) (s.run x y k) (λm n=>k (.bool (ble m n)))⟩
 |.gtr=>⟨λx y k=>uX (as x) (as y) (s.run x y k) (λm n=>k (.bool (ble (Nat.succ n) m)))⟩
 |.geq=>⟨λx y k=>uX (as x) (as y) (s.run x y k) (λm n=>k (.bool (ble n m)))⟩
 | _=>s
def YU (as:Value->NN) (kd:IntKind) (fo:Nat) (s:BC):BC:=
 ⟨λx y k=>uX (as x) (sB y) (s.run x y k) (λm n=>Bool.rec (motive:=λ_=>R) (s.run x y k) (k (.int kd (.ofNat (Nat.shiftLeft m n)))) (hY (ble n 63) (ble (Nat.shiftLeft m n) fo)))⟩
def afg (as:Value->NN) (kd:IntKind) (s:BC):BC:=
 ⟨λx y k=>uX (as x) (sB y) (s.run x y k) (λm n=>Bool.rec (motive:=λ_=>R) (s.run x y k) (k (.int kd (.ofNat (Nat.shiftRight m n)))) (ble n 63))⟩
def binC (E:Env) (op:BinOp) (ty:TypeId) (cx cy:Bool):BC:=
 match E.und ty with
 | some (.int .i64)=>(match op with
  |.shl=>YU nb .i64 9223372036854775807 (lI E op ty cx cy)
  |.shr=>afg nb .i64 (lI E op ty cx cy)
  | _=>opN nb .i64 9223372036854775807 (lI E op ty cx cy) op)
 | some (.int .u64)=>(match op with
  |.shl=>YU nd .u64 18446744073709551615 (lI E op ty cx cy)
  |.shr=>afg nd .u64 (lI E op ty cx cy)
  | _=>opN nd .u64 18446744073709551615 (lI E op ty cx cy) op)
 | some (.int .u8)=>(match op with
  |.shl | .shr=>lI E op ty cx cy
  | _=>opN zh .u8 255 (lI E op ty cx cy) op)
 | _=>lI E op ty cx cy
def ae (c:T Value) (n:Nat):Nat->List Value:=
 Nat.rec (motive:=λ_=>Nat->List Value) (λ_=>[]) (λ_ ih off=>getF c off :: ih (Nat.succ off)) n
def FG (E:Env) (ks:List Tmp) (ty:TypeId) (x:OC ks):LC ks:=
 match E.und ty,E.size ty with
 | some d,some s=>cond (iY d)
  ⟨λe h k=>onPtr (x.run e) (λad=>onRow (hget h ad.1) (λ_ n _ _ _ c=>ifB (ble (Nat.add ad.2 s) n) (k (.agg ⟨ae c s ad.2⟩))))⟩
  ⟨λe h k=>onPtr (x.run e) (λad=>onRow (hget h ad.1) (λ_ n _ _ _ c=>ifB (ble (Nat.succ ad.2) n) (k (getF c ad.2))))⟩
 | _,_=>.no ks
def mj (E:Env) (ks:List Tmp) (s:TypeId) (x:OC ks) (f:Nat):LC ks:=
 match E.und s with
 | some (.struct fs)=>(match fs[f]? with
  | some fd=>(match E.size fd.type with
   | some (_+1)=>cond (beq fd.offset 0) ⟨λe _ k=>onPtr (x.run e) (λ_=>k (x.run e))⟩
    ⟨λe _ k=>onPtr (x.run e) (λad=>k (.pointer (some ⟨ad.1,Nat.add ad.2 fd.offset,none⟩)))⟩
   | _=>.no ks)
  | none=>.no ks)
 | _=>.no ks
def addOffF (ad:Addr) (n:Nat) (k:Value->R):R:=
 Nat.rec (motive:=λ_=>R) (k (.pointer (some ad))) (λp _=>k (.pointer (some ⟨ad.1,Nat.add ad.2 (Nat.succ p),none⟩))) n
def l5 (E:Env) (ks:List Tmp) (ty:TypeId) (x i:OC ks):LC ks:=
 match E.und ty with
 | some (.array n e)=>(match E.size e with
  | some s=>⟨λe _ k=>onNat (i.run e) none (λj=>onPtr (x.run e) (λad=>ifB (ble (Nat.succ j) n) (addOffF ad (Nat.mul j s) k)))⟩
  | none=>.no ks)
 | some (.slice e)=>(match E.size e with
  | some s=>⟨λe _ k=>onNat (i.run e) none (λj=>onSl (x.run e) none (λad n _=>ifB (ble (Nat.succ j) n) (addOffF ad (Nat.mul j s) k)))⟩
  | none=>.no ks)
 | _=>.no ks
def abb (E:Env) (ks:List Tmp) (s:TypeId) (x:OC ks) (f:Nat):LC ks:=⟨λe _ k=>bindO (tu E s (x.run e) f) k⟩
def fo:IntKind->Nat
 |.i8=>127 | .i16=>32767 | .i32=>2147483647 | .i64=>9223372036854775807
 |.u8=>255 | .u16=>65535 | .u32=>4294967295 | .u64=>18446744073709551615
def joinL (k:Value->R) (b:(Value->R)->R):R:=b k
def FW (E:Env) (ks:List Tmp) (s d:TypeId) (x:OC ks):LC ks:=
 match E.und s,E.und d with
 | some (.int _),some (.int kd)=>⟨λe h k=>joinL k (λk=>onNat (x.run e) (bindO (aY E h s d (x.run e)) k) (λn=>Bool.rec (motive:=λ_=>R) (bindO (aY E h s d (x.run e)) k) (k (.int kd (.ofNat n))) (ble n (fo kd))))⟩
 | _,_=>⟨λe h k=>bindO (aY E h s d (x.run e)) k⟩
def agr (E:Env) (ks:List Tmp) (ty:TypeId) (x:OC ks):LC ks:=
 match E.und ty with
 | some (.slice _)=>⟨λe h k=>joinL k (λk=>onSl (x.run e) (bindO (aX E h ty (x.run e)) k) (λ_ n _=>k (.int .i64 (.ofNat n))))⟩
 | _=>⟨λe h k=>bindO (aX E h ty (x.run e)) k⟩
def zK (E:Env) (ks:List Tmp) (ty:TypeId) (x:OC ks):LC ks:=
 match E.und ty with
 | some (.interface _)=>.no ks
 | some _=>⟨λe _ k=>ifB (fW (x.run e)) (k (.iface ty (x.run e)))⟩
 | none=>.no ks
def rI (E:Env) (ks:List Tmp) (b:Builtin) (args:List Operand) (tys:List TypeId):LC ks:=
 match b,args,tys with
 |.len,[x],ty :: _=>agr E ks ty (dG ks x)
 | b,args,tys=>⟨λe h k=>bindO (bF E h b ((j4 ks args).run e) tys) k⟩
def be (v:Value):Option Value:=match v with | .pointer (some ad)=>some (.pointer (some ad)) | .func (.func f) a b=>some (.func (.func f) a b) | _=>none
def unV (op:UnOp) (v:Value):Option Value:=match v with | .int k n=>dZ (Op.unary op (.int k n)) | .bool b=>dZ (Op.unary op (.bool b)) | _=>none
def uL (E:Env) (ks:List Tmp) (o:Oper):LC ks:=
 match o.op with
 |.move x | .assign x=>⟨λe _ k=>k ((dG ks x).run e)⟩
 |.pick c a b=>⟨λe _ k=>onB ((dG ks c).run e) (k ((dG ks b).run e)) (k ((dG ks a).run e))⟩
 |.load ty a=>FG E ks ty (dG ks a)
 |.nilCheck x=>⟨λe _ k=>bindO (be ((dG ks x).run e)) k⟩
 |.binOp op ty x y _=>⟨λe _ k=>binR (binC E op ty (bi x) (bi y)) ((dG ks x).run e) ((dG ks y).run e) k⟩
 |.unOp op _ x=>(match op with
  |.not=>⟨λe _ k=>onB ((dG ks x).run e) (k (.bool true)) (k (.bool false))⟩
  | op=>⟨λe _ k=>bindO (unV op ((dG ks x).run e)) k⟩)
 |.convert s d x=>FW E ks s d (dG ks x)
 |.build ty parts=>⟨λe _ k=>bindO (cI E ty ((pP ks parts.toList).run e)) k⟩
 |.fieldAddr s x f=>mj E ks s (dG ks x) f
 |.field s x f=>abb E ks s (dG ks x) f
 |.indexAddr ty x i=>l5 E ks ty (dG ks x) (dG ks i)
 |.index ty x i=>⟨λe _ k=>bindO (dA E ty ((dG ks x).run e) ((dG ks i).run e)) k⟩
 |.slice ty x lo hi mx=>⟨λe _ k=>bindO (dm E ty ((dG ks x).run e) ((Hm ks lo).run e) ((Hm ks hi).run e) ((Hm ks mx).run e)) k⟩
 |.extract x i=>⟨λe _ k=>onTup ((dG ks x).run e) (λl=>nthF i l k)⟩
 |.makeInterface ty x=>zK E ks ty (dG ks x)
 |.makeFunc (.func f) first caps=>⟨λe _ k=>ifB (hY (allF fW ((j4 ks first.toList).run e)) (allF fW ((j4 ks caps.toList).run e))) (k (.func (.func f) ⟨(j4 ks first.toList).run e⟩ ⟨(j4 ks caps.toList).run e⟩))⟩
 |.lookup ty x i ok=>⟨λe h k=>bindO (jJ E h ty ((dG ks x).run e) ((dG ks i).run e) ok) k⟩
 |.call c=>(match c.callee with
  |.builtin b=>rI E ks b c.args.toList c.argTypes.toList
  | _=>.no ks)
 | _=>.no ks
structure VC (ks:List Tmp) where
 run:RC->aa ks->H->(Value->H->R)->R
def VC.no (ks:List Tmp):VC ks:=⟨λ_ _ _ _=>none⟩
def putF (c:T Value) (off:Nat) (l:List Value):T Value:=
 List.rec (motive:=λ_=>T Value->Nat->T Value) (λc _=>c) (λv _ ih c off=>ih (dW 40 c off v) (Nat.succ off)) l c off
def yU (E:Env) (ks:List Tmp) (ty:TypeId) (a x:OC ks):VC ks:=
 match E.size ty with
 | some s=>⟨λ_ e h k=>onPtr (a.run e) (λad=>onCells (x.run e) (λl=>onRow (hget h ad.1) (λel n op ro fz c=>
   ifB (notB ro) (ifB (beq (lenF l) s) (ifB (ble fz ad.2) (ifB (ble (Nat.add ad.2 s) n) (ifB (ble n 1000000000) (ifB (allF cell1F l) (letH (hset h ad.1 (.row el n op false fz (putF c ad.2 l))) (λh=>k undef h))))))))))⟩
 | none=>.no ks
structure AC (ks:List Tmp) where
 run:aa ks->(AO->(Nat->Value)->R)->R
def lK (o:Option (AO × (Nat->Value))) (k:AO->(Nat->Value)->R):R:=Option.rec (motive:=λ_=>R) none (λp=>k p.1 p.2) o
def mC (E:Env) (ks:List Tmp) (o:Oper):AC ks:=
 match o.op with
 |.alloc e=> (match dk E (.c undef) { dst:= none, op:= .alloc e, type:= 0, pos:= "", after:= #[], guard:= none } with
  | some (ob,f)=>⟨λ_ k=>k ob f⟩
  | none=>⟨λ_ _=>none⟩)
 |.box el x=>⟨λe k=>onCells ((dG ks x).run e) (λl=>ifB (allF cell1F l) (k (.row el (lenF l) false false 0 (T.ofList unk l)) (λid=>ptr id 0)))⟩
 |.buildSlice ty len parts=>(match E.und ty with
  | some (.slice el)=>(match E.size el,cK E el with
   | some s,some z=>cond (ble (len*s) 100000&&beq z.length s)
     ⟨λe k=>Option.rec (motive:=λ_=>R) none (λcs=>k (.row el (len*s) false false 0 (T.ofList unk cs)) (λid=>.slice (some ⟨id,0,none⟩) len (2*len)))
      (dx (λi=>some (i*s,s)) (List.replicate len z).flatten ((pP ks parts.toList).run e))⟩ ⟨λ_ _=>none⟩
   | _,_=>⟨λ_ _=>none⟩)
  | _=>⟨λ_ _=>none⟩)
 |.makeSlice ty l c=> ⟨fun e k=> lK (dk E (.n (.c undef) ((dG ks l).run e) (.n (.c undef) ((dG ks c).run e) (.c undef))) { dst:= none, op:= .makeSlice ty (.tmp 0) (.tmp 2), type:= 0, pos:= "", after:= #[], guard:= none }) k⟩
 |.makeMap ty r=>(match r with
  | none=>⟨λ_ k=>k (.map [] 0) (λid=>.map (some id))⟩
  | some r=> ⟨fun e k=> lK (dk E (.n (.c undef) ((dG ks r).run e) (.c undef)) { dst:= none, op:= .makeMap ty (some (.tmp 0)), type:= 0, pos:= "", after:= #[], guard:= none }) k⟩)
 |.range ty x=> ⟨fun e k=> lK (dk E (.n (.c undef) ((dG ks x).run e) (.c undef)) { dst:= none, op:= .range ty (.tmp 0), type:= 0, pos:= "", after:= #[], guard:= none }) k⟩
 | _=>⟨λ_ _=>none⟩
def pa (a b:Array Value) (l:List Value):List Value:=a.toList++l++b.toList
def UE (ks:List Tmp) (c:Call):VC ks:=
 match c.callee with
 |.value (.func f)=>⟨λrc e h k=>rc f ((j4 ks c.args.toList).run e) h k⟩
 |.value x=>⟨λrc e h k=>D1 ((dG ks x).run e) (λf a b=>rc f (pa a b ((j4 ks c.args.toList).run e)) h k)⟩
 | _=>.no ks
def kindOf (o:Oper):Nat:=match o.op with
 |.alloc _ | .box .. | .buildSlice .. | .makeSlice .. | .makeMap .. | .range ..=>1
 |.store .. | .mapUpdate .. | .next ..=>2
 |.call c=>(match c.callee with
  |.builtin b=>(match b with | .append | .copy | .clear | .unsafeString=>2 | _=>0)
  | _=>3)
 | _=>0
def GW (E:Env) (ks:List Tmp) (o:Oper):VC ks:=
 match o.op with
 |.store ty a x=>yU E ks ty (dG ks a) (dG ks x)
 |.mapUpdate ty m key x=>⟨λ_ e h k=>Uv (iK E h ty ((dG ks m).run e) ((dG ks key).run e) ((dG ks x).run e)) (λh=>k undef h)⟩
 |.call c=>(match c.callee with
  |.builtin b=>⟨λ_ e h k=>cE (ba E h b ((j4 ks c.args.toList).run e) c.argTypes.toList) k⟩
  | _=>.no ks)
 |.next it true=>⟨λ_ e h k=>cE (iR h ((dG ks it).run e)) k⟩
 | _=>.no ks
def sY (E:Env) (o:Oper):Bool:=match o.op with
 |.convert s d _=>(match E.und s,E.und d with | some .string,some (.slice _)=>true | _,_=>false)
 | _=>false
def HV (E:Env) (ks:List Tmp) (o:Oper):VC ks:=match o.op with
 |.convert s d x=>⟨λ_ e h k=>cE (tG E h s d ((dG ks x).run e)) k⟩
 | _=>.no ks
def xl (dst:Option Tmp) (ok:Nat):Nat:=match dst with
 | some d=>Nat.lor (Nat.shiftLeft 1 d) ok
 | none=>ok
def fZ (dst:Option Tmp) (ks:List Tmp):List Tmp:=match dst with
 | some d=>d :: ks
 | none=>ks
structure PC (ks ks':List Tmp) where
 run:RC->(aa ks'->H->R)->aa ks->H->R
def PC.no (ks ks':List Tmp):PC ks ks':=⟨λ_ _ _ _=>none⟩
def uM (dst:Option Tmp) (ks:List Tmp) (c:LC ks):PC ks (fZ dst ks):=
 match dst with
 | some _=>⟨λ_ k e h=>c.run e h (λv=>k (v,e) h)⟩
 | none=>⟨λ_ k e h=>c.run e h (λ_=>k e h)⟩
def yZ (dst:Option Tmp) (ks:List Tmp) (c:VC ks):PC ks (fZ dst ks):=
 match dst with
 | some _=>⟨λrc k e h=>c.run rc e h (λv h=>k (v,e) h)⟩
 | none=>⟨λrc k e h=>c.run rc e h (λ_ h=>k e h)⟩
def qt (E:Env) (ks:List Tmp) (o:Oper):VC ks:=
 match kindOf o with
 | 0=>⟨λ_ e h k=>(uL E ks o).run e h (λv=>k v h)⟩
 | 1=>⟨λ_ e h k=>(mC E ks o).run e (λob f=>ifB (ble h.1 1000000000) (letH (ag h ob) (λh'=>k (f h.1) h')))⟩
 | 2=>GW E ks o
 | _=>(match o.op with | .call c=>UE ks c | _=>.no ks)
def Hh (E:Env) (ks:List Tmp) (o:Oper):VC ks:=cond (sY E o) (HV E ks o) (qt E ks o)
def IV (E:Env) (ks:List Tmp) (o:Oper):PC ks (fZ o.dst ks):=
 match kindOf o with
 | 0=>uM o.dst ks (uL E ks o)
 | _=>yZ o.dst ks (qt E ks o)
def EU (E:Env) (ks:List Tmp) (o:Oper):PC ks (fZ o.dst ks):=cond (sY E o) (yZ o.dst ks (HV E ks o)) (IV E ks o)
def ac (k:Value->H->R) (b:(Value->H->R)->R):R:=b k
structure YV (ks ks':List Tmp) where
 run:(aa ks'->H->R)->aa ks->Value->H->R
def Tj (dst:Option Tmp) (ks:List Tmp):YV ks (fZ dst ks):=
 match dst with
 | some _=>⟨λk e v h=>k (v,e) h⟩
 | none=>⟨λk e _ h=>k e h⟩
def vU (dst:Option Tmp) (ks:List Tmp):PC ks (fZ dst ks):=
 match dst with
 | some _=>⟨λ_ k e h=>k (undef,e) h⟩
 | none=>⟨λ_ k e h=>k e h⟩
def zj (ks:List Tmp) (ok:Nat) (ops:Array Oper) (o:Oper) (p:PC ks (fZ o.dst ks)) (c:VC ks):PC ks (fZ o.dst ks):=
 match o.guard with
 | none=>p
 | some (j,want)=>match ops[j]? with
  | some og=>(match og.dst with
   | some d=>cond (tb ok d) (cond want
    ⟨λrc k e h=>ac (λv h=>(Tj o.dst ks).run k e v h) (λj=>aF ((jv d ks).run e) (j undef h) (c.run rc e h j) (j undef h))⟩
    ⟨λrc k e h=>ac (λv h=>(Tj o.dst ks).run k e v h) (λj=>aF ((jv d ks).run e) (c.run rc e h j) (j undef h) (j undef h))⟩) (.no _ _)
   | none=>.no _ _)
  | none=>.no _ _
def opC (E:Env) (ks:List Tmp) (ok:Nat) (ops:Array Oper) (o:Oper):PC ks (fZ o.dst ks):=
 cond (yB ok o.op.operands.toList) (zj ks ok ops o (EU E ks o) (Hh E ks o)) (.no _ _)
def qX:List Oper->List Tmp->List Tmp
 | [],ks=>ks
 | o :: r,ks=>qX r (fZ o.dst ks)
def LZ (E:Env) (ops:Array Oper):(l:List Oper)->(ks:List Tmp)->(ok:Nat)->PC ks (qX l ks)
 | [],_,_=>⟨λ_ k e h=>k e h⟩
 | o :: r,ks,ok=>⟨λrc k e h=>(opC E ks ok ops o).run rc (λe h=>(LZ E ops r (fZ o.dst ks) (xl o.dst ok)).run rc k e h) e h⟩
inductive RS where
 | ex (o:Oper)
 | hv (o:Oper)
 | al (o:Oper) (k:Nat)
 | re (o:Oper)
def resolve (ops:Array Oper):List PS->Option (List RS)
 | []=>some []
 | s :: l=>match resolve ops l with
  | none=>none
  | some r=>match s with
   |.ex i=>(match ops[i]? with | some o=>some (.ex o :: r) | none=>none)
   |.hv i=>(match ops[i]? with | some o=>some (.hv o :: r) | none=>none)
   |.al i k=>(match ops[i]? with | some o=>some (.al o k :: r) | none=>none)
   |.re i=>(match ops[i]? with | some o=>some (.re o :: r) | none=>none)
def rsK (s:RS) (ks:List Tmp):List Tmp:=match s with
 |.ex o | .hv o | .al o _=>fZ o.dst ks
 |.re _=>ks
def rsM (s:RS) (ok:Nat):Nat:=match s with
 |.ex o | .hv o | .al o _=>xl o.dst ok
 |.re _=>ok
def wg:List RS->List Tmp->List Tmp
 | [],ks=>ks
 | s :: l,ks=>wg l (rsK s ks)
def rZ (l:List RS) (m:Nat):Nat:=List.rec (motive:=λ_=>Nat->Nat) (λm=>m) (λs _ ih m=>ih (rsM s m)) l m
structure QC (ks ks':List Tmp) where
 run:RC->Nat->(aa ks'->H->R)->aa ks->H->R
def zW (ks:List Tmp) (ok:Nat) (ops:Array Oper) (o:Oper) (c:LC ks):LC ks:=
 match o.guard with
 | none=>c
 | some (j,want)=>match ops[j]? with
  | some og=>(match og.dst with
   | some d=>cond (tb ok d) (cond want
    ⟨λe h k=>joinL k (λj=>aF ((jv d ks).run e) (j undef) (c.run e h j) (j undef))⟩
    ⟨λe h k=>joinL k (λj=>aF ((jv d ks).run e) (c.run e h j) (j undef) (j undef))⟩) (.no _)
   | none=>.no _)
  | none=>.no _
def en (E:Env) (ks:List Tmp) (ok:Nat) (ops:Array Oper) (o:Oper):LC ks:=
 cond (yB ok o.op.operands.toList) (zW ks ok ops o (uL E ks o)) (.no _)
structure SC (ks ks':List Tmp) where
 run:Nat->(aa ks'->H->R)->aa ks->H->R
def alP (dst:Option Tmp) (ks:List Tmp) (j:Nat) (c:AC ks):SC ks (fZ dst ks):=
 match dst with
 | some _=>⟨λi k e h=>c.run e (λob f=>letH (hset h (Nat.add i j) ob) (λh=>k (f (Nat.add i j),e) h))⟩
 | none=>⟨λi k e h=>c.run e (λob _=>letH (hset h (Nat.add i j) ob) (λh=>k e h))⟩
def yT (ks:List Tmp) (ok:Nat) (ops:Array Oper) (o:Oper) (p:SC ks (fZ o.dst ks)):SC ks (fZ o.dst ks):=
 match o.guard with
 | none=>p
 | some (j,want)=>match ops[j]? with
  | some og=>(match og.dst with
   | some d=>cond (tb ok d) (cond want
    ⟨λi k e h=>aF ((jv d ks).run e) ((vU o.dst ks).run (λ_ _ _ _=>none) k e h) (p.run i k e h) ((vU o.dst ks).run (λ_ _ _ _=>none) k e h)⟩
    ⟨λi k e h=>aF ((jv d ks).run e) (p.run i k e h) ((vU o.dst ks).run (λ_ _ _ _=>none) k e h) ((vU o.dst ks).run (λ_ _ _ _=>none) k e h)⟩) ⟨λ_ _ _ _=>none⟩
   | none=>⟨λ_ _ _ _=>none⟩)
  | none=>⟨λ_ _ _ _=>none⟩
def alC (E:Env) (ks:List Tmp) (ok:Nat) (ops:Array Oper) (j:Nat) (o:Oper):SC ks (fZ o.dst ks):=
 cond (yB ok o.op.operands.toList) (yT ks ok ops o (alP o.dst ks j (mC E ks o))) ⟨λ_ _ _ _=>none⟩
def reC (E:Env) (ks:List Tmp) (ok:Nat) (ops:Array Oper) (o:Oper):LC ks:=
 match o.dst with
 | some d=>cond (tb ok d) ⟨λe h k=>(en E ks ok ops o).run e h (λv=>ifB (am v ((jv d ks).run e)) (k v))⟩ (.no _)
 | none=>en E ks ok ops o
def rsC (E:Env) (ops:Array Oper) (s:RS) (ks:List Tmp) (ok:Nat):QC ks (rsK s ks):=
 match s with
 |.ex o=>⟨λrc _ k e h=>(uM o.dst ks (en E ks ok ops o)).run rc k e h⟩
 |.hv o=>⟨λrc _ k e h=>(opC E ks ok ops o).run rc k e h⟩
 |.al o j=>⟨λ_ i k e h=>(alC E ks ok ops j o).run i k e h⟩
 |.re o=>⟨λ_ _ k e h=>(reC E ks ok ops o).run e h (λ_=>k e h)⟩
def AQ (E:Env) (ops:Array Oper):(l:List RS)->(ks:List Tmp)->(ok:Nat)->QC ks (wg l ks)
 | [],_,_=>⟨λ_ _ k e h=>k e h⟩
 | s :: r,ks,ok=>⟨λrc i k e h=>(rsC E ops s ks ok).run rc i (λe h=>(AQ E ops r (rsK s ks) (rsM s ok)).run rc i k e h) e h⟩
def iW (ops:Array Oper):List Tmp:=List.rec (motive:=λ_=>List Tmp) [] (λo _ ih=>Option.rec (motive:=λ_=>List Tmp) ih (λd=>d :: ih) o.dst) ops.1
def bL:Code->List Tmp
 |.region _ ops _=>iW ops
 |.seq a b=>bL a++bL b
 |.cond _ a b=>bL a++bL b
 |.block _ b=>bL b
 |.loop b=>bL b
 |.scope b=>bL b
 | _=>[]
def Us (l:List Operand):Nat:=List.rec (motive:=λ_=>Nat) 0 (λx _ m=>Operand.rec (motive:=λ_=>Nat) (λi=>Nat.lor (Nat.shiftLeft 1 i) m) (λ_=>m) (λ_=>m) (λ_=>m) x) l
def amy (l:List Oper):Nat:=List.rec (motive:=λ_=>Nat) 0 (λo _ m=>Nat.lor (Us o.op.operands.1) m) l
def nK:Code->Nat
 |.region _ ops _=>amy ops.1
 |.seq a b=>Nat.lor (nK a) (nK b)
 |.cond x a b=>Nat.lor (Us [x]) (Nat.lor (nK a) (nK b))
 |.block _ b=>nK b
 |.loop b=>nK b
 |.scope b=>nK b
 | _=>0
structure PA (k1 m ks:List Tmp) where
 run:aa k1->aa ks->aa (m++ks)
def sr (k1 ks:List Tmp):(m:List Tmp)->PA k1 m ks
 | []=>⟨λ_ e=>e⟩
 | d :: m=>⟨λe1 e=>((jv d k1).run e1,(sr k1 ks m).run e1 e)⟩
structure MC (k1 m:List Tmp) where
 run:aa k1->aa m
def iF (k1:List Tmp):(m:List Tmp)->MC k1 m
 | []=>⟨λ_=>()⟩
 | d :: m=>⟨λe1=>((jv d k1).run e1,(iF k1 m).run e1)⟩
structure JC (m ks:List Tmp) where
 run:aa m->aa ks->aa (m++ks)
def lN (ks:List Tmp):(m:List Tmp)->JC m ks
 | []=>⟨λ_ e=>e⟩
 | _ :: m=>⟨λl e=>(l.1,(lN ks m).run l.2 e)⟩
def rq (a b:Nat):Bool:=beq (Nat.land a b) a
def oK (X:Nat->Nat):Code->(lv ok:Nat)->Nat
 |.skip,_,ok=>ok
 |.label _,_,ok=>ok
 |.region _ ops _,lv,ok=>Nat.lor (uV ok (cC (iW ops))) (Nat.land (cC (iW ops)) lv)
 |.seq a b,lv,ok=>oK X b lv (oK X a (Nat.lor (nK b) lv) ok)
 |.cond _ a b,lv,ok=>Nat.lor (uV ok (cC (bL a++bL b))) (Nat.land (Nat.land (cC (bL a++bL b)) lv) (Nat.land (oK X a lv ok) (oK X b lv ok)))
 |.block id b,lv,ok=>Nat.lor (uV ok (cC (bL b))) (Nat.land (Nat.land (cC (bL b)) lv) (Nat.land (oK X b lv ok) (Nat.lor ok (X id))))
 |.scope b,lv,ok=>oK X b lv ok
 | _,_,_=>avH
def oH (X:Nat->Nat):Code->(lv ok:Nat)->List Tmp->List Tmp
 |.region _ ops _,lv,_,ks=>fk (iW ops) lv++ks
 |.seq a b,lv,ok,ks=>oH X b lv (oK X a (Nat.lor (nK b) lv) ok) (oH X a (Nat.lor (nK b) lv) ok ks)
 |.cond _ a b,lv,ok,ks=>fk (bL a++bL b) (Nat.land (Nat.land (cC (bL a++bL b)) lv) (Nat.land (oK X a lv ok) (oK X b lv ok)))++ks
 |.block id b,lv,ok,ks=>fk (bL b) (Nat.land (Nat.land (cC (bL b)) lv) (Nat.land (oK X b lv ok) (Nat.lor ok (X id))))++ks
 |.scope b,lv,ok,ks=>oH X b lv ok ks
 | _,_,_,ks=>ks
abbrev CX:=List (Nat × List Tmp)
def mx:CX->Nat->List Tmp
 | [],_=>[]
 | (j,m) :: cx,i=>cond (beq i j) m (mx cx i)
abbrev KX (cx:CX):=(i:Nat)->aa (mx cx i)->H->R
structure CC (rs:List Tmp) (cx:CX) (ks ks':List Tmp) where
 run:RC->(aa ks'->H->R)->KX cx->(aa rs->H->R)->aa ks->H->R
def CC.no (rs:List Tmp) (cx:CX) (ks ks':List Tmp):CC rs cx ks ks':=⟨λ_ _ _ _ _ _=>none⟩
def joinR {ks:List Tmp} (k:aa ks->H->R) (b:(aa ks->H->R)->R):R:=b k
def loopF {ks:List Tmp} (step:(aa ks->H->R)->aa ks->H->R) (n:Nat):aa ks->H->R:=
 Nat.rec (motive:=λ_=>aa ks->H->R) (λ_ _=>none) (λ_ ih=>step ih) n
def inK {cx:CX} {id:Nat} {m:List Tmp} (k:aa m->H->R) (kx:KX cx):KX ((id,m) :: cx):=
 λi=>Bool.rec (motive:=λb=>aa (cond b m (mx cx i))->H->R) (kx i) k (beq i id)
def jM (m lv a b:Nat):Nat:=Nat.land (Nat.land m lv) (Nat.land a b)
def gW (E:Env) (X:Nat->Nat) (fn:FuncId) (rs:List Tmp):(c:Code)->(cx:CX)->(lv ok:Nat)->(ks:List Tmp)->CC rs cx ks (oH X c lv ok ks)
 |.skip,_,_,_,_=>⟨λ_ kn _ _ e h=>kn e h⟩
 |.label _,_,_,_,_=>⟨λ_ kn _ _ e h=>kn e h⟩
 |.seq a b,cx,lv,ok,ks=>⟨λrc kn kx kr e h=>(gW E X fn rs a cx (Nat.lor (nK b) lv) ok ks).run rc
   (λe h=>(gW E X fn rs b cx lv (oK X a (Nat.lor (nK b) lv) ok) (oH X a (Nat.lor (nK b) lv) ok ks)).run rc kn kx kr e h) kx kr e h⟩
 |.cond x a b,cx,lv,ok,ks=>cond (okO ok x)
   ⟨λrc kn kx kr e h=>joinR (λl h=>kn ((lN ks (fk (bL a++bL b) (jM (cC (bL a++bL b)) lv (oK X a lv ok) (oK X b lv ok)))).run l e) h) (λj=>onB ((dG ks x).run e)
    ((gW E X fn rs b cx lv ok ks).run rc (λe1 h=>j ((iF (oH X b lv ok ks) (fk (bL a++bL b) (jM (cC (bL a++bL b)) lv (oK X a lv ok) (oK X b lv ok)))).run e1) h) kx kr e h)
    ((gW E X fn rs a cx lv ok ks).run rc (λe1 h=>j ((iF (oH X a lv ok ks) (fk (bL a++bL b) (jM (cC (bL a++bL b)) lv (oK X a lv ok) (oK X b lv ok)))).run e1) h) kx kr e h))⟩ (.no _ _ _ _)
 |.block id b,cx,lv,ok,ks=>
   ⟨λrc kn kx kr e h=>joinR (λl h=>kn ((lN ks (fk (bL b) (jM (cC (bL b)) lv (oK X b lv ok) (Nat.lor ok (X id))))).run l e) h) (λj=>
    (gW E X fn rs b ((id,fk (bL b) (jM (cC (bL b)) lv (oK X b lv ok) (Nat.lor ok (X id)))) :: cx) lv ok ks).run rc
    (λe1 h=>j ((iF (oH X b lv ok ks) (fk (bL b) (jM (cC (bL b)) lv (oK X b lv ok) (Nat.lor ok (X id))))).run e1) h)
    (inK j kx) kr e h)⟩
 |.loop b,cx,lv,ok,ks=>cond (rq (Nat.land (Nat.land (cC (bL b)) (Nat.lor (nK b) lv)) ok) (oK X b (Nat.lor (nK b) lv) (Nat.lor (uV ok (cC (bL b))) (Nat.land (Nat.land (cC (bL b)) (Nat.lor (nK b) lv)) ok))))
   ⟨λrc _ kx kr e h=>loopF (ks:=fk (bL b) (Nat.land (Nat.land (cC (bL b)) (Nat.lor (nK b) lv)) ok)) (λih l h=>(gW E X fn rs b cx (Nat.lor (nK b) lv) (Nat.lor (uV ok (cC (bL b))) (Nat.land (Nat.land (cC (bL b)) (Nat.lor (nK b) lv)) ok)) (fk (bL b) (Nat.land (Nat.land (cC (bL b)) (Nat.lor (nK b) lv)) ok)++ks)).run rc
    (λe1 h=>ih ((iF _ (fk (bL b) (Nat.land (Nat.land (cC (bL b)) (Nat.lor (nK b) lv)) ok))).run e1) h) kx kr ((lN ks (fk (bL b) (Nat.land (Nat.land (cC (bL b)) (Nat.lor (nK b) lv)) ok))).run l e) h) 1000000 ((iF ks (fk (bL b) (Nat.land (Nat.land (cC (bL b)) (Nat.lor (nK b) lv)) ok))).run e) h⟩ (.no _ _ _ _)
 |.exit id,cx,_,ok,ks=>cond (rq (cC (mx cx id)) ok) ⟨λ_ _ kx _ e h=>kx id ((iF ks (mx cx id)).run e) h⟩ (.no _ _ _ _)
 |.ret,_,_,ok,ks=>cond (rq (cC rs) ok) ⟨λ_ _ _ kr e h=>kr ((iF ks rs).run e) h⟩ (.no _ _ _ _)
 |.region id ops d,_,lv,ok,ks=>(match d with
  | false=>⟨λrc kn _ _ e h=>(LZ E ops ops.1 ks ok).run rc (λe1 h=>kn ((sr (qX ops.1 ks) ks (fk (iW ops) lv)).run e1 e) h) e h⟩
  | true=>(match E.plans fn id with
   | some p=>(match resolve ops p.steps with
    | some l=>cond (ble p.keep 1000&&rq (cC (fk (iW ops) lv)) (rZ l 0))
      ⟨λrc kn _ _ e h=>ifB (ble h.1 1000000000) (letH ⟨Nat.add h.1 p.keep,h.2⟩ (λh'=>(AQ E ops l ks ok).run rc h.1 (λe1 h=>kn ((sr (wg l ks) ks (fk (iW ops) lv)).run e1 e) h) e h'))⟩ (.no _ _ _ _)
    | none=>.no _ _ _ _)
   | none=>.no _ _ _ _))
 |.rangeFunc ..,_,_,_,_=>.no _ _ _ _
 |.scope b,cx,lv,ok,ks=>⟨λrc kn kx kr e h=>(gW E X fn rs b cx lv ok ks).run rc kn kx kr e h⟩
 |.goto _,_,_,_,_=>.no _ _ _ _
 |.refuse _,_,_,_,_=>.no _ _ _ _
end F
namespace F
def kg:List ResultVar->List Tmp
 | []=>[]
 |.tmp i :: l=>i :: kg l
 |.cell i _ :: l=>i :: kg l
structure awZ (rs:List Tmp) where
 run:aa rs->H->(List Value->R)->R
def R9 (E:Env):(l:List ResultVar)->awZ (kg l)
 | []=>⟨λ_ _ k=>k []⟩
 |.tmp _ :: l=>⟨λe h k=>(R9 E l).run e.2 h (λr=>k (e.1 :: r))⟩
 |.cell _ ty :: l=>⟨λe h k=>onPtr e.1 (λad=>bindO (bD E h ty ad) (λv=>(R9 E l).run e.2 h (λr=>k (v :: r))))⟩
def aqh (l:List Value) (k:Value->R):R:=
 List.rec (motive:=λ_=>R) (k (.tuple ⟨[]⟩)) (λv r _=>List.rec (motive:=λ_=>R) (k v) (λ_ _ _=>ifB (l.all λv=>!isTuple v) (k (.tuple ⟨l⟩))) r) l
def Al (ex:List Tmp):Nat->Nat->List Tmp
 | 0,_=>ex
 | n+1,i=>i :: Al ex n (i+1)
def qN:(ex:List Tmp)->aa ex
 | []=>()
 | _ :: l=>(undef,qN l)
structure IC (ks:List Tmp) where
 run:List Value->(aa ks->R)->R
def ale (ex:List Tmp):(n i:Nat)->IC (Al ex n i)
 | 0,_=>⟨λl k=>List.rec (motive:=λ_=>R) (k (qN ex)) (λ_ _ _=>none) l⟩
 | n+1,i=>⟨λl k=>List.rec (motive:=λ_=>R) none (λv r _=>(ale ex n (i+1)).run r (λe=>k (v,e))) l⟩
structure FC where
 run:RC->List Value->H->(Value->H->R)->R
def FC.no:FC:=⟨λ_ _ _ _=>none⟩
def ady (E:Env) (l:List ResultVar) (e:aa (kg l)) (h:H) (k:Value->H->R):R:=(R9 E l).run e h (λr=>aqh r (λv=>k v h))
def Iu (E:Env) (X:Nat->Nat) (f:FuncId) (np:Nat) (ex:List Tmp) (res:List ResultVar) (c:Code):FC:=
 cond (rq (cC (kg res)) (oK X c (cC (kg res)) (cC (Al ex np 0)))&&(bL c).all (λd=>ble d 1000000000)&&ex.all (λd=>ble np d)&&ble np 1000)
  ⟨λrc args h k=>(ale ex np 0).run args (λe=>(gW E X f (kg res) c [] (cC (kg res)) (cC (Al ex np 0)) (Al ex np 0)).run rc
   (λe h=>ady E res ((iF (oH X c (cC (kg res)) (cC (Al ex np 0)) (Al ex np 0)) (kg res)).run e) h k) (λ_ _ _=>none) (λe h=>ady E res e h k) e h)⟩ .no
structure Hint where
 X:FuncId->Nat->Nat
 ex:FuncId->List Tmp
def bR (E:Env) (K:Hint) (f:FuncId):FC:=
 match E.funs.get f with
 | none=>.no
 | some fn=>match E.ext f with
  | some k=>⟨λ_ args h c=>cE (k args h) c⟩
  | none=>match fn.body with
   | none=>.no
   | some c=>Iu E (K.X f) f (fn.params.size+fn.nfree) (K.ex f) fn.results.toList c
def ar (E:Env) (K:Hint) (n:Nat):RC:=
 Nat.rec (motive:=λ_=>RC) (λ_ _ _ _=>none) (λ_ ih f args h k=>(bR E K f).run ih args h k) n
end F
namespace F
def ut {v:Value} {n:Nat} (h:nb v=.s n):v=.int .i64 (.ofNat n):=by
 cases v with
 | int k m=>cases k <;> cases m <;> simp[nb,mP,pz] at h <;> simp[h]
 | _=>exact nomatch h
def uJ {v:Value} {n:Nat} (h:nd v=.s n):v=.int .u64 (.ofNat n):=by
 cases v with
 | int k m=>cases k <;> cases m <;> simp[nd,mP,pz] at h <;> simp[h]
 | _=>exact nomatch h
def ahD {v:Value} {n:Nat} (h:zh v=.s n):v=.int .u8 (.ofNat n):=by
 cases v with
 | int k m=>cases k <;> cases m <;> simp[zh,mP,pz] at h <;> simp[h]
 | _=>exact nomatch h
def tw {v:Value} {n:Nat} (h:sB v=.s n):∃k,v=.int k (.ofNat n):=by
 cases v with
 | int k m=>cases m <;> simp[sB,mP] at h <;> exact⟨k,by simp[h]⟩
 | _=>exact nomatch h
def Rl {v:Value} {ad:Addr} (h:Cu v=.p ad):v=.pointer (some ad):=by
 cases v with
 | pointer a=>cases a with
  | none=>exact nomatch h
  | some b=>simp[Cu,UK] at h;rw[h]
 | _=>exact nomatch h
def aet {v:Value} {ad:Addr} {n c:Nat} (h:Pu v=.s ad n c):v=.slice (some ad) n c:=by
 cases v with
 | slice a m d=>cases a with
  | none=>exact nomatch h
  | some b=>simp[Pu,U7] at h;obtain⟨rfl,rfl,rfl⟩:=h;rfl
 | _=>exact nomatch h
def FQ {v:Value} (h:asB v=.ff):v=.bool false:=by
 cases v with
 | bool b=>cases b with
  | false=>rfl
  | true=>exact nomatch h
 | tuple a=>obtain⟨l⟩:=a;cases l <;> exact nomatch h
 | _=>exact nomatch h
def F7 {v:Value} (h:asB v=.tt):v=.bool true:=by
 cases v with
 | bool b=>cases b with
  | false=>exact nomatch h
  | true=>rfl
 | tuple a=>obtain⟨l⟩:=a;cases l <;> exact nomatch h
 | _=>exact nomatch h
def akP {v:Value} (h:asB v=.un):v=.tuple ⟨[]⟩:=by
 cases v with
 | bool b=>cases b <;> exact nomatch h
 | tuple a=>obtain⟨l⟩:=a;cases l with
  | nil=>rfl
  | cons a l=>exact nomatch h
 | _=>exact nomatch h
def ar2 {v:Value} {f:FuncId} {a b:Array Value} (h:asF v=.f f a b):v=.func (.func f) a b:=by
 cases v with
 | func fn x y=>cases fn <;> simp[asF,aoT] at h;obtain⟨rfl,rfl,rfl⟩:=h;rfl
 | _=>exact nomatch h
def OE {v:Value} (h:asC v=.one):cellsOfV v=[v]:=by
 cases v with
 | agg a=>exact nomatch h
 | tuple a=>exact nomatch h
 | _=>rfl
def Gv {v:Value} {l:List Value} (h:asC v=.many l):v=.agg ⟨l⟩:=by
 cases v with
 | agg a=>obtain⟨a⟩:=a;simp[asC] at h;rw[h]
 | _=>exact nomatch h
def pU {v:Value} {f t:R} {r} (h:onB v f t=some r):(v=.bool false/\f=some r) \/ (v=.bool true/\t=some r):=by
 unfold onB at h;cases e:asB v with
 | no=>rw[e] at h;exact nomatch h
 | ff=>rw[e] at h;exact .inl ⟨FQ e,h⟩
 | tt=>rw[e] at h;exact .inr ⟨F7 e,h⟩
 | un=>rw[e] at h;exact nomatch h
def Hc {v:Value} {f t u:R} {r} (h:aF v f t u=some r):(v=.bool false/\f=some r) \/ (v=.bool true/\t=some r) \/ (v=.tuple ⟨[]⟩/\u=some r):=by
 unfold aF at h;cases e:asB v with
 | no=>rw[e] at h;exact nomatch h
 | ff=>rw[e] at h;exact .inl ⟨FQ e,h⟩
 | tt=>rw[e] at h;exact .inr (.inl ⟨F7 e,h⟩)
 | un=>rw[e] at h;exact .inr (.inr ⟨akP e,h⟩)
def cO {v:Value} {k:Addr->R} {r} (h:onPtr v k=some r):∃ad,v=.pointer (some ad)/\k ad=some r:=by
 unfold onPtr at h;cases e:Cu v with
 | no=>rw[e] at h;exact nomatch h
 | p ad=>rw[e] at h;exact⟨ad,Rl e,h⟩
def oA {v:Value} {s:R} {k:Addr->Nat->Nat->R} {r} (h:onSl v s k=some r):s=some r \/ ∃ad n c,v=.slice (some ad) n c/\k ad n c=some r:=by
 unfold onSl at h;cases e:Pu v with
 | no=>rw[e] at h;exact .inl h
 | s ad n c=>rw[e] at h;exact .inr ⟨ad,n,c,aet e,h⟩
def lU {v:Value} {s:R} {k:Nat->R} {r} (h:onNat v s k=some r):s=some r \/ ∃kd n,v=.int kd (.ofNat n)/\k n=some r:=by
 unfold onNat at h;cases e:sB v with
 | no=>rw[e] at h;exact .inl h
 | s n=>rw[e] at h;obtain⟨kd,e⟩:=tw e;exact .inr ⟨kd,n,e,h⟩
def Ac {v:Value} {k:List Value->R} {r} (h:onTup v k=some r):∃l,v=.tuple ⟨l⟩/\k l=some r:=by
 cases v with
 | tuple a=>obtain⟨l⟩:=a;exact⟨l,rfl,h⟩
 | _=>exact nomatch h
def IF {v:Value} {k:FuncId->Array Value->Array Value->R} {r} (h:D1 v k=some r):∃f a b,v=.func (.func f) a b/\k f a b=some r:=by
 unfold D1 at h;cases e:asF v with
 | no=>rw[e] at h;exact nomatch h
 | f f a b=>rw[e] at h;exact⟨f,a,b,ar2 e,h⟩
def jS {v:Value} {k:List Value->R} {r} (h:onCells v k=some r):k (cellsOfV v)=some r:=by
 unfold onCells at h;cases e:asC v with
 | no=>rw[e] at h;exact nomatch h
 | one=>rw[e] at h;rw[OE e];exact h
 | many l=>rw[e] at h;rw[Gv e];exact h
def nu {a b:NN} {s:R} {k:Nat->Nat->R} {r} (h:uX a b s k=some r):s=some r \/ ∃m n,a=.s m/\b=.s n/\k m n=some r:=by
 cases a with
 | no=>exact .inl h
 | s m=>cases b with
  | no=>exact .inl h
  | s n=>exact .inr ⟨m,n,rfl,rfl,h⟩
def oj (v:Value):cell1F v=cell1 v:=by cases v <;> rfl
def yj (v:Value):fW v=mT v:=by cases v <;> rfl
def uv {p q:Value->Bool} (h:∀v,p v=q v) (l:List Value):allF p l=l.all q:=by
 induction l with
 | nil=>rfl
 | cons v l ih=> show Bool.rec (motive:=λ_=>Bool) false (allF p l) (p v)=_;rw[h,ih,JZ];cases q v <;> rfl
def aQ {i:Nat} {l:List Value} {k:Value->R} {r} (h:nthF i l k=some r):∃v,l[i]?=some v/\k v=some r:=by
 induction i generalizing l with
 | zero=>cases l with
  | nil=>exact nomatch h
  | cons v l=>exact⟨v,rfl,h⟩
 | succ i ih=>cases l with
  | nil=>exact nomatch h
  | cons v l=>obtain⟨w,hw,hk⟩:=ih (l:=l) h;exact⟨w,by simpa using hw,hk⟩
def dh (l:List Value):lenF l=l.length:=by
 induction l with
 | nil=>rfl
 | cons v l ih=>show Nat.succ (lenF l)=_;rw[ih];rfl
def ai {b:Bool} {k:R} {r} (h:ifB b k=some r):b=true/\k=some r:=by
 cases b with
 | false=>exact nomatch h
 | true=>exact⟨rfl,h⟩
def cX {o:Option Value} {k:Value->R} {r} (h:bindO o k=some r):∃v,o=some v/\k v=some r:=by
 cases o with
 | none=>exact nomatch h
 | some v=>exact⟨v,rfl,h⟩
def jX {o:Option (Value × H)} {k:Value->H->R} {r} (h:cE o k=some r):∃v h',o=some (v,h')/\k v h'=some r:=by
 cases o with
 | none=>exact nomatch h
 | some p=>exact⟨p.1,p.2,rfl,h⟩
def zE {o:Option H} {k:H->R} {r} (h:Uv o k=some r):∃h',o=some h'/\k h'=some r:=by
 cases o with
 | none=>exact nomatch h
 | some p=>exact⟨p,rfl,h⟩
def mg {o:Option (AO × (Nat->Value))} {k:AO->(Nat->Value)->R} {r} (h:lK o k=some r):∃a f,o=some (a,f)/\k a f=some r:=by
 cases o with
 | none=>exact nomatch h
 | some p=>exact⟨p.1,p.2,rfl,h⟩
def cJ {o:AO} {k:TypeId->Nat->Bool->Bool->Nat->T Value->R} {r} (h:onRow o k=some r):∃e n op ro fz c,o=.row e n op ro fz c/\k e n op ro fz c=some r:=by
 cases o with
 | row e n op ro fz c=>exact⟨e,n,op,ro,fz,c,rfl,h⟩
 | _=>exact nomatch h
def ip {b:Bool} {x y:R} {r} (h:Bool.rec (motive:=λ_=>R) x y b=some r):(b=false/\x=some r) \/ (b=true/\y=some r):=by
 cases b with
 | false=>exact .inl ⟨rfl,h⟩
 | true=>exact .inr ⟨rfl,h⟩
def fU {a b:Bool} (h:hY a b=true):a=true/\b=true:=by cases a <;> cases b <;> simp_all [hY]
def pq (b:Bool):notB b=!b:=by cases b <;> rfl
def bI {α:Type} (t:T α) (i:Nat):getF t i=t.get i:=by
 induction t generalizing i with
 | c v=>rfl
 | n l v r ihl ihr=>
  rw[T.get_n];cases i with
  | zero=>rfl
  | succ j=>
   show aca j (getF l) (getF r)=_;unfold aca;have h2:j%2=0 \/ j%2=1:=by omega
   show Nat.rec (motive:=λ_=>(Nat->α)->(Nat->α)->Nat->α) _ _ (j%2) _ _ (j / 2)=_;cases h2 with
   | inl h=>rw[h];simp only[h,if_true];exact ihl _
   | inr h=>rw[h];simp only[h,Nat.one_ne_zero,if_false];exact ihr _
def G8 {α β:Type} (t:T α) (k:T α->β):fcT t k=k t:=by cases t <;> rfl
def qh {β:Type} (n:Nat) (k:Nat->β):VN n k=k n:=by cases n <;> rfl
def Hq {β:Type} (o:AO) (k:AO->β):fcA o k=k o:=by
 cases o with
 | row e n op ro fz c=>exact G8 c (λc=>k (.row e n op ro fz c))
 | _=>rfl
def aD (h:H) (k:H->R):letH h k=k h:=by unfold letH;rw[G8,qh]
def tX {α β:Type} {fc:α->(α->β)->β} (hfc:∀x k,fc x k=k x) (f:Nat) (t:T α) (i:Nat) (x:α) (k:T α->β):jb fc f t i x k=k (T.ins f t i x):=by
 induction f generalizing t i k with
 | zero=>rfl
 | succ f ih=>
  have e:jb fc (f+1) t i x k=EL t (λl v r=>Nat.rec (motive:=λ_=>β) (fc x (λx=>k (.n l x r)))
   (λj _=>Nat.rec (motive:=λ_=>β) (jb fc f l (j / 2) x (λl=>k (.n l v r))) (λ_ _=>jb fc f r (j / 2) x (λr=>k (.n l v r))) (j%2)) i):=rfl
  rw[e];cases i with
  | zero=>
   cases t with
   | c v=>exact hfc _ _
   | n l v r=>exact hfc _ _
  | succ j=>
   have h2:j%2=0 \/ j%2=1:=by omega
   cases h2 with
   | inl h=>
    cases t with
    | c v=> show Nat.rec (motive:=λ_=>β) (jb fc f (.c v) (j / 2) x (λl=>k (.n l v (.c v)))) (λ_ _=>jb fc f (.c v) (j / 2) x (λr=>k (.n (.c v) v r))) (j%2)=_;rw[h];show jb fc f (.c v) (j / 2) x (λl=>k (.n l v (.c v)))=_;rw[ih];simp[T.ins,h]
    | n l v r=> show Nat.rec (motive:=λ_=>β) (jb fc f l (j / 2) x (λl=>k (.n l v r))) (λ_ _=>jb fc f r (j / 2) x (λr=>k (.n l v r))) (j%2)=_;rw[h];show jb fc f l (j / 2) x (λl=>k (.n l v r))=_;rw[ih];simp[T.ins,h]
   | inr h=>
    cases t with
    | c v=> show Nat.rec (motive:=λ_=>β) (jb fc f (.c v) (j / 2) x (λl=>k (.n l v (.c v)))) (λ_ _=>jb fc f (.c v) (j / 2) x (λr=>k (.n (.c v) v r))) (j%2)=_;rw[h];show jb fc f (.c v) (j / 2) x (λr=>k (.n (.c v) v r))=_;rw[ih];simp[T.ins,h];rfl
    | n l v r=> show Nat.rec (motive:=λ_=>β) (jb fc f l (j / 2) x (λl=>k (.n l v r))) (λ_ _=>jb fc f r (j / 2) x (λr=>k (.n l v r))) (j%2)=_;rw[h];show jb fc f r (j / 2) x (λr=>k (.n l v r))=_;rw[ih];simp[T.ins,h];rfl
def GC {α:Type}:∀(f g:Nat) (t:T α) (i:Nat) (x:α),i+1<2 ^ f->i+1<2 ^ g->T.ins f t i x=T.ins g t i x:=by
 intro f
 induction f with
 | zero=>intro g t i x h _;simp at h
 | succ f ih=>
  intro g t i x h1 h2;cases g with
  | zero=>simp at h2
  | succ g=>
   rw[Nat.pow_succ] at h1 h2;cases i with
   | zero=>cases t <;> simp[T.ins]
   | succ j=>
    have a1:j / 2+1<2 ^ f:=by omega
    have a2:j / 2+1<2 ^ g:=by omega
    cases t with
    | c v=>simp only[T.ins];rw[ih g _ _ x a1 a2]
    | n l v r=>simp only[T.ins];rw[ih g l _ x a1 a2,ih g r _ x a1 a2]
def NW {α β:Type} {fc:α->(α->β)->β} (hfc:∀x k,fc x k=k x) (t:T α):∀(f i:Nat) (x:α) (k:T α->β),i+1<2 ^ f->i+1<2 ^ 40->Ej fc t i x k=k (T.ins f t i x):=by
 induction t with
 | c v=> intro f i x k h1 h2;show jb fc 40 (.c v) i x k=_;rw[tX hfc,GC 40 f _ _ _ h2 h1]
 | n l v r ihl ihr=>
  intro f i x k h1 h2;cases f with
  | zero=>simp at h1
  | succ f=>
   rw[Nat.pow_succ] at h1;cases i with
   | zero=>exact hfc _ _
   | succ j=>
    have a1:j / 2+1<2 ^ f:=by omega
    have a2:j / 2+1<2 ^ 40:=by omega
    have h3:j%2=0 \/ j%2=1:=by omega
    show Nat.rec (motive:=λ_=>β) (Ej fc l (j / 2) x (λl=>k (.n l v r))) (λ_ _=>Ej fc r (j / 2) x (λr=>k (.n l v r))) (j%2)=_;cases h3 with
    | inl h=> rw[h];show Ej fc l (j / 2) x (λl=>k (.n l v r))=_;rw[ihl f _ _ _ a1 a2];simp[T.ins,h]
    | inr h=> rw[h];show Ej fc r (j / 2) x (λr=>k (.n l v r))=_;rw[ihr f _ _ _ a1 a2];simp[T.ins,h];rfl
def uW {α β:Type} {fc:α->(α->β)->β} (hfc:∀x k,fc x k=k x) (t:T α) (i:Nat) (x:α) (k:T α->β):Hb fc t i x k=k (T.ins 40 t i x):=by
 unfold Hb;cases hb:ble i 1000000000 with
 | false=>exact tX hfc 40 t i x k
 | true=> have:=I7 hb;exact NW hfc t 40 i x k (by omega) (by omega)
def Am {α:Type} (f:Nat) (t:T α) (i:Nat) (x:α):dW f t i x=T.ins f t i x:=by
 unfold dW;cases hb:beq f 40 with
 | false=>exact tX (λ_ _=>rfl) f t i x _
 | true=> rw[I8 hb];exact uW (λ_ _=>rfl) t i x _
def bv (h:H) (i:Nat):hget h i=h.objs.get i:=bI _ _
def fi (h:H) (i:Nat) (o:AO):hset h i o=h.set i o:=by unfold hset H.set;rw[uW Hq];rfl
def cY (h:H) (o:AO):ag h o=h.push o:=by unfold ag H.push;rw[uW Hq];rfl
def dK (c:T Value) (n off:Nat):ae c n off=bq c off n:=by
 induction n generalizing off with
 | zero=>rfl
 | succ n ih=>show getF c off :: ae c n (Nat.succ off)=_;rw[bI,ih];rfl
def fF (c:T Value) (off:Nat) (l:List Value):putF c off l=putCells c off l:=by
 induction l generalizing c off with
 | nil=>rfl
 | cons v l ih=>show putF (dW 40 c off v) (Nat.succ off) l=_;rw[Am,ih];rfl
end F
section
namespace F
def kf (k:IntKind) (n:Nat) (h:n<=fo k):k.wrap (n:Int)=n:=by
 cases k <;> simp only[fo] at h
 ·exact IntWalk.i8_in _ (by omega)
 ·exact IntWalk.i16_in _ (by omega)
 ·exact IntWalk.i32_in _ (by omega)
 ·exact IntWalk.i64_in _ (by omega)
 ·exact IntWalk.u8_in _ (by omega)
 ·exact IntWalk.u16_in _ (by omega)
 ·exact IntWalk.u32_in _ (by omega)
 ·exact IntWalk.u64_in _ (by omega)
def Bo (k:IntKind):fo k<2 ^ k.bits:=by cases k <;> decide
def pA (E:Env) (op:BinOp) (t:TypeId) (cx cy:Bool) (k k':IntKind) (m n:Int):
  ij E op t cx cy (.int k m) (.int k' n)=dZ (Go.binOp op t (.int k m) (.int k' n)):=rfl
def kY (w m:Nat) (h:m<2 ^ w):(BitVec.ofInt w (m:Int)).toNat=m:=by
 rw[BitVec.toNat_ofInt];have:((m:Int)%(2 ^ w:Nat))=((m%2 ^ w:Nat):Int):=by simp
 rw[this,Int.toNat_natCast,Nat.mod_eq_of_lt h]
def Good (E:Env) (op:BinOp) (ty:TypeId) (cx cy:Bool) (b:BC):Prop:=
 ∀x y k r,b.run x y k=some r->∃v,ij E op ty cx cy x y=some v/\k v=some r
def C9 (E:Env) (op:BinOp) (ty:TypeId) (cx cy:Bool):Good E op ty cx cy (lI E op ty cx cy):=by intro x y k r h;exact cX h
variable {E : Env} {ty : TypeId} {cx cy : Bool}
def j0 (op:BinOp) (as:Value->NN) (kd:IntKind) (s:BC) (f:Nat->Nat->Nat) (ok:Nat->Nat->Bool)
  (has:∀v n,as v=.s n->v=.int kd (.ofNat n)) (hs:Good E op ty cx cy s)
  (hf:∀m n,ok m n=true->dZ (Go.binOp op ty (.int kd (.ofNat m)) (.int kd (.ofNat n)))=some (.int kd (.ofNat (f m n)))):
  Good E op ty cx cy ⟨λx y k=>uX (as x) (as y) (s.run x y k) (λm n=>Bool.rec (motive:=λ_=>R) (s.run x y k) (k (.int kd (.ofNat (f m n)))) (ok m n))⟩:=by
 intro x y k r h;rcases nu h with h | ⟨m,n,hm,hn,h⟩
 ·exact hs _ _ _ _ h
 ·rcases ip h with ⟨_,h⟩ | ⟨h1,h⟩
  ·exact hs _ _ _ _ h
  ·rw[has _ _ hm,has _ _ hn];exact⟨_,(pA ..).trans (hf m n h1),h⟩
def jk (op:BinOp) (as:Value->NN) (kd:IntKind) (s:BC) (f:Nat->Nat->Bool)
  (has:∀v n,as v=.s n->v=.int kd (.ofNat n)) (hs:Good E op ty cx cy s)
  (hf:∀m n,dZ (Go.binOp op ty (.int kd (.ofNat m)) (.int kd (.ofNat n)))=some (.bool (f m n))):
  Good E op ty cx cy ⟨λx y k=>uX (as x) (as y) (s.run x y k) (λm n=>k (.bool (f m n)))⟩:=by
 intro x y k r h;rcases nu h with h | ⟨m,n,hm,hn,h⟩
 ·exact hs _ _ _ _ h
 ·rw[has _ _ hm,has _ _ hn];exact⟨_,(pA ..).trans (hf m n),h⟩
def qe (op:BinOp) (as:Value->NN) (kd:IntKind) (s:BC)
  (has:∀v n,as v=.s n->v=.int kd (.ofNat n)) (hs:Good E op ty cx cy s):Good E op ty cx cy (opN as kd (fo kd) s op):=by
 have blE {a b:Nat} (h:ble a b=true):a<=b:=I7 h;cases op with
 | add=> refine j0 .add as kd s _ _ has hs ?_;intro m n h;simp only[Go.binOp,Op.intArith,ne_eq,not_true_eq_false,if_false,Int.ofNat_eq_natCast];rw[show ((m:Int)+n)=((Nat.add m n:Nat):Int) from by simp[JD],kf _ _ (blE h)];rfl
 | sub=> refine j0 .sub as kd s _ _ has hs ?_;intro m n h;obtain⟨h1,h2⟩:=fU h;have h1:=blE h1;have h2:=blE h2;simp only[Go.binOp,Op.intArith,ne_eq,not_true_eq_false,if_false,Int.ofNat_eq_natCast];rw[show ((m:Int)-n)=((Nat.sub m n:Nat):Int) from by rw[Nat.sub_eq];omega,kf _ _ (by rw[Nat.sub_eq];omega)];rfl
 | mul=> refine j0 .mul as kd s _ _ has hs ?_;intro m n h;simp only[Go.binOp,Op.intArith,ne_eq,not_true_eq_false,if_false,Int.ofNat_eq_natCast];rw[show ((m:Int)*n)=((Nat.mul m n:Nat):Int) from by simp[Ju],kf _ _ (blE h)];rfl
 | quo=>
  refine j0 .quo as kd s _ _ has hs ?_;intro m n h;obtain⟨h1,h2⟩:=fU h;have h1:=blE h1;have h2:=blE h2;have hn:¬ (n:Int)=0:=by omega
  simp only[Go.binOp,Op.intDiv,ne_eq,not_true_eq_false,if_false,Int.ofNat_eq_natCast,hn];rw[show ((m:Int).tdiv n)=((Nat.div m n:Nat):Int) from (show ((m:Int).tdiv n)=((m / n:Nat):Int) by simp),kf _ _ (show Nat.div m n<=_ from JV (Nat.div_le_self _ _) h2)];rfl
 | rem=>
  refine j0 .rem as kd s _ _ has hs ?_;intro m n h;obtain⟨h1,h2⟩:=fU h;have h1:=blE h1;have h2:=blE h2;have hn:¬ (n:Int)=0:=by omega
  simp only[Go.binOp,Op.intDiv,ne_eq,not_true_eq_false,if_false,Int.ofNat_eq_natCast,hn];rw[show ((m:Int).tmod n)=((Nat.mod m n:Nat):Int) from (show ((m:Int).tmod n)=((m%n:Nat):Int) by rw[Int.tmod_eq_emod_of_nonneg (by omega)];simp)];rfl
 | and=> refine j0 .and as kd s _ _ has hs ?_;intro m n h;obtain⟨h1,h2⟩:=fU h;have h1:=blE h1;have h2:=blE h2;have hk:=Bo kd;simp only[Go.binOp,Op.intBits,ne_eq,not_true_eq_false,if_false,Int.ofNat_eq_natCast,BitVec.toNat_and];rw[kY _ m (by omega),kY _ n (by omega),kf _ _ (JV Nat.and_le_left h1)];rfl
 | or=>
  refine j0 .or as kd s _ _ has hs ?_;intro m n h;obtain⟨h1,h2⟩:=fU h;have h1:=blE h1;have h2:=blE h2;have hk:=Bo kd;have hor:m ||| n<=fo kd:=by
   have key:∀w,fo kd=2 ^ w-1->m ||| n<=fo kd:=by intro w hw;have hp:0<2 ^ w:=Nat.two_pow_pos w;have:=Nat.or_lt_two_pow (x:=m) (y:=n) (n:=w) (by omega) (by omega);omega
   cases kd
   ·exact key 7 rfl
   ·exact key 15 rfl
   ·exact key 31 rfl
   ·exact key 63 rfl
   ·exact key 8 rfl
   ·exact key 16 rfl
   ·exact key 32 rfl
   ·exact key 64 rfl
  simp only[Go.binOp,Op.intBits,ne_eq,not_true_eq_false,if_false,Int.ofNat_eq_natCast,BitVec.toNat_or];rw[kY _ m (by omega),kY _ n (by omega),kf _ _ hor];rfl
 | eql=>
  refine jk .eql as kd s _ has hs ?_;intro m n;have:((m:Int)==(n:Int))=beq m n:=by rw[Bool.eq_iff_iff];simp[Nat.beq_eq];omega
  simp only[Go.binOp,Op.intCmp,ne_eq,not_true_eq_false,if_false,Int.ofNat_eq_natCast,this];rfl
 | neq=>
  refine jk .neq as kd s _ has hs ?_;intro m n;have:((m:Int) != (n:Int))=notB (beq m n):=by rw[pq,Bool.eq_iff_iff];simp[<-Bool.not_eq_true,Nat.beq_eq];omega
  simp only[Go.binOp,Op.intCmp,ne_eq,not_true_eq_false,if_false,Int.ofNat_eq_natCast,this];rfl
 | lss=>
  refine jk .lss as kd s _ has hs ?_;intro m n;have:decide ((m:Int)<(n:Int))=ble (Nat.succ m) n:=by rw[Bool.eq_iff_iff];simp;omega
  simp only[Go.binOp,Op.intCmp,ne_eq,not_true_eq_false,if_false,Int.ofNat_eq_natCast,this];rfl
 | leq=>
  refine jk .leq as kd s _ has hs ?_;intro m n;have:decide ((m:Int)<=(n:Int))=ble m n:=by rw[Bool.eq_iff_iff];simp
  simp only[Go.binOp,Op.intCmp,ne_eq,not_true_eq_false,if_false,Int.ofNat_eq_natCast,this];rfl
 | gtr=>
  refine jk .gtr as kd s _ has hs ?_;intro m n;have:decide ((m:Int) > (n:Int))=ble (Nat.succ n) m:=by rw[Bool.eq_iff_iff];simp;omega
  simp only[Go.binOp,Op.intCmp,ne_eq,not_true_eq_false,if_false,Int.ofNat_eq_natCast,this];rfl
 | geq=>
  refine jk .geq as kd s _ has hs ?_;intro m n;have:decide ((m:Int) ≥ (n:Int))=ble n m:=by rw[Bool.eq_iff_iff];simp
  simp only[Go.binOp,Op.intCmp,ne_eq,not_true_eq_false,if_false,Int.ofNat_eq_natCast,this];rfl
 | xor=>exact hs
 | shl=>exact hs
 | shr=>exact hs
 | andNot=>exact hs
def wG (as:Value->NN) (kd:IntKind) (s:BC) (hb:63<=kd.bits)
  (has:∀v n,as v=.s n->v=.int kd (.ofNat n)) (hs:Good E .shl ty cx cy s):Good E .shl ty cx cy (YU as kd (fo kd) s):=by
 intro x y k r h;rcases nu h with h | ⟨m,n,hm,hn,h⟩
 ·exact hs _ _ _ _ h
 ·rcases ip h with ⟨_,h⟩ | ⟨h1,h⟩
  ·exact hs _ _ _ _ h
  ·obtain⟨ky,hy⟩:=tw hn;rw[has _ _ hm,hy];obtain⟨h1,h2⟩:=fU h1;have h1:=I7 h1;have h2:=I7 h2;refine⟨_,(pA ..).trans ?_,h⟩;have hy0:¬ (n:Int)<0:=by omega
   have hmin:min n kd.bits=n:=by omega
   simp only[Go.binOp,Op.shift,Int.ofNat_eq_natCast,hy0,if_false,Int.toNat_natCast,hmin]
   rw[show ((m:Int)*2 ^ n)=((Nat.shiftLeft m n:Nat):Int) by
    have:Nat.shiftLeft m n=m*2 ^ n:=Nat.shiftLeft_eq m n
    rw[this];simp,kf _ _ h2];rfl
def xH (as:Value->NN) (kd:IntKind) (s:BC) (hb:63<=kd.bits)
  (has:∀v n,as v=.s n->v=.int kd (.ofNat n)) (hs:Good E .shr ty cx cy s):Good E .shr ty cx cy (afg as kd s):=by
 intro x y k r h;rcases nu h with h | ⟨m,n,hm,hn,h⟩
 ·exact hs _ _ _ _ h
 ·rcases ip h with ⟨_,h⟩ | ⟨h1,h⟩
  ·exact hs _ _ _ _ h
  ·obtain⟨ky,hy⟩:=tw hn;rw[has _ _ hm,hy];have h1:=I7 h1;refine⟨_,(pA ..).trans ?_,h⟩;have hy0:¬ (n:Int)<0:=by omega
   have hmin:min n kd.bits=n:=by omega
   simp only[Go.binOp,Op.shift,Int.ofNat_eq_natCast,hy0,if_false,Int.toNat_natCast,hmin]
   rw[show ((m:Int).fdiv (2 ^ n))=((Nat.shiftRight m n:Nat):Int) by
    have e:Nat.shiftRight m n=m / 2 ^ n:=Nat.shiftRight_eq_div_pow m n
    rw[e,Int.fdiv_eq_ediv_of_nonneg _ (Int.pow_nonneg (by omega))];simp];rfl
def Df (op:BinOp):Good E op ty cx cy (binC E op ty cx cy):=by
 have hs:=C9 E op ty cx cy;unfold binC;split
 ·cases op with
  | shl=>exact wG nb .i64 _ (by decide) (λ_ _=>ut) hs
  | shr=>exact xH nb .i64 _ (by decide) (λ_ _=>ut) hs
  | _=>exact qe _ nb .i64 _ (λ_ _=>ut) hs
 ·cases op with
  | shl=>exact wG nd .u64 _ (by decide) (λ_ _=>uJ) hs
  | shr=>exact xH nd .u64 _ (by decide) (λ_ _=>uJ) hs
  | _=>exact qe _ nd .u64 _ (λ_ _=>uJ) hs
 ·cases op with
  | shl=>exact hs
  | shr=>exact hs
  | _=>exact qe _ zh .u8 _ (λ_ _=>ahD) hs
 ·exact hs
end F
end
end Go.Ev
