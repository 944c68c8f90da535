/-
  EVALUATOR FOR THE KERNEL, PART 1: the definitions. The code is turned into closures once; what is to be done next is handed on; variables stand in nested pairs whose shape is known when the code is turned.
-/
import Derived.Test.YtdibeojmiobklaaGreatDoorEa
import Derived.IntWalk
set_option linter.unusedVariables false
set_option linter.unusedSimpArgs false
namespace Go.Ev
open Go
namespace F
abbrev R:=Option (Value × H)
abbrev RC:=FuncId→List Value→H→(Value→H→R)→R
@[reducible] def FEnv:List Tmp→Type
  | []=>Unit
  | _ :: ks=>Value × FEnv ks
inductive NN where
  | no
  | s (n:Nat)
inductive PV where
  | no
  | p (ad:Addr)
inductive SV where
  | no
  | s (ad:Addr) (n c:Nat)
inductive BV where
  | no
  | ff
  | tt
  | un
inductive CV where
  | no
  | one
  | many (l:List Value)
inductive FV where
  | no
  | f (f:FuncId) (first caps:Array Value)
noncomputable def natOf (n:Int):NN:=Int.rec (motive:=λ _=>NN) NN.s (λ _=>.no) n
def noI (_:Int):NN:=.no
noncomputable def asI64 (v:Value):NN :=
  Value.rec (motive_1:=λ _=>NN) (motive_2:=λ _=>NN) (motive_3:=λ _=>NN) (λ _=>.no) (λ kd n=>IntKind.rec (motive:=λ _=>Int→NN) noI noI noI natOf noI noI noI noI kd n) (λ _ _=>.no) (λ _ _ _=>.no) (λ _=>.no) (λ _=>.no) (λ _ _ _=>.no) (λ _=>.no) (λ _=>.no) (λ _ _ _ _ _=>.no) .no (λ _ _ _=>.no) .no (λ _ _=>.no) (λ _ _=>.no) (λ _ _=>.no) .no (λ _ _ _ _=>.no) v
noncomputable def asU64 (v:Value):NN :=
  Value.rec (motive_1:=λ _=>NN) (motive_2:=λ _=>NN) (motive_3:=λ _=>NN) (λ _=>.no) (λ kd n=>IntKind.rec (motive:=λ _=>Int→NN) noI noI noI noI noI noI noI natOf kd n) (λ _ _=>.no) (λ _ _ _=>.no) (λ _=>.no) (λ _=>.no) (λ _ _ _=>.no) (λ _=>.no) (λ _=>.no) (λ _ _ _ _ _=>.no) .no (λ _ _ _=>.no) .no (λ _ _=>.no) (λ _ _=>.no) (λ _ _=>.no) .no (λ _ _ _ _=>.no) v
noncomputable def asU8 (v:Value):NN :=
  Value.rec (motive_1:=λ _=>NN) (motive_2:=λ _=>NN) (motive_3:=λ _=>NN) (λ _=>.no) (λ kd n=>IntKind.rec (motive:=λ _=>Int→NN) noI noI noI noI natOf noI noI noI kd n) (λ _ _=>.no) (λ _ _ _=>.no) (λ _=>.no) (λ _=>.no) (λ _ _ _=>.no) (λ _=>.no) (λ _=>.no) (λ _ _ _ _ _=>.no) .no (λ _ _ _=>.no) .no (λ _ _=>.no) (λ _ _=>.no) (λ _ _=>.no) .no (λ _ _ _ _=>.no) v
noncomputable def asNat (v:Value):NN :=
  Value.rec (motive_1:=λ _=>NN) (motive_2:=λ _=>NN) (motive_3:=λ _=>NN) (λ _=>.no) (λ _ n=>natOf n) (λ _ _=>.no) (λ _ _ _=>.no) (λ _=>.no) (λ _=>.no) (λ _ _ _=>.no) (λ _=>.no) (λ _=>.no) (λ _ _ _ _ _=>.no) .no (λ _ _ _=>.no) .no (λ _ _=>.no) (λ _ _=>.no) (λ _ _=>.no) .no (λ _ _ _ _=>.no) v
noncomputable def optPV (a:Option Addr):PV:=Option.rec (motive:=λ _=>PV) .no PV.p a
noncomputable def asPtr (v:Value):PV :=
  Value.rec (motive_1:=λ _=>PV) (motive_2:=λ _=>PV) (motive_3:=λ _=>PV) (λ _=>.no) (λ _ _=>.no) (λ _ _=>.no) (λ _ _ _=>.no) (λ _=>.no) optPV (λ _ _ _=>.no) (λ _=>.no) (λ _=>.no) (λ _ _ _ _ _=>.no) .no (λ _ _ _=>.no) .no (λ _ _=>.no) (λ _ _=>.no) (λ _ _=>.no) .no (λ _ _ _ _=>.no) v
noncomputable def optSV (a:Option Addr) (n c:Nat):SV:=Option.rec (motive:=λ _=>Nat→Nat→SV) (λ _ _=>.no) SV.s a n c
noncomputable def asSl (v:Value):SV :=
  Value.rec (motive_1:=λ _=>SV) (motive_2:=λ _=>SV) (motive_3:=λ _=>SV) (λ _=>.no) (λ _ _=>.no) (λ _ _=>.no) (λ _ _ _=>.no) (λ _=>.no) (λ _=>.no) optSV (λ _=>.no) (λ _=>.no) (λ _ _ _ _ _=>.no) .no (λ _ _ _=>.no) .no (λ _ _=>.no) (λ _ _=>.no) (λ _ _=>.no) .no (λ _ _ _ _=>.no) v
noncomputable def boolBV (b:Bool):BV:=Bool.rec (motive:=λ _=>BV) .ff .tt b
noncomputable def nilBV (l:List Value):BV:=List.rec (motive:=λ _=>BV) .un (λ _ _ _=>.no) l
noncomputable def asB (v:Value):BV :=
  Value.rec (motive_1:=λ _=>BV) (motive_2:=λ _=>BV) (motive_3:=λ _=>BV) boolBV (λ _ _=>.no) (λ _ _=>.no) (λ _ _ _=>.no) (λ _=>.no) (λ _=>.no) (λ _ _ _=>.no) (λ _=>.no) (λ _=>.no) (λ _ _ _ _ _=>.no) .no (λ _ _ _=>.no) .no (λ _ _=>.no) (λ a _=>nilBV a.1) (λ _ _=>.no) .no (λ _ _ _ _=>.no) v
noncomputable def onB (v:Value) (f t:R):R:=BV.rec (motive:=λ _=>R) none f t none (asB v)
noncomputable def onG (v:Value) (f t u:R):R:=BV.rec (motive:=λ _=>R) none f t u (asB v)
noncomputable def onPtr (v:Value) (k:Addr→R):R:=PV.rec (motive:=λ _=>R) none k (asPtr v)
noncomputable def onSl (v:Value) (s:R) (k:Addr→Nat→Nat→R):R:=SV.rec (motive:=λ _=>R) s k (asSl v)
noncomputable def onNat (v:Value) (s:R) (k:Nat→R):R:=NN.rec (motive:=λ _=>R) s k (asNat v)
noncomputable def onTup (v:Value) (k:List Value→R):R :=
  Value.rec (motive_1:=λ _=>(List Value→R)→R) (motive_2:=λ _=>(List Value→R)→R) (motive_3:=λ _=>(List Value→R)→R) (λ _=>(λ _=>none)) (λ _ _=>(λ _=>none)) (λ _ _=>(λ _=>none)) (λ _ _ _=>(λ _=>none)) (λ _=>(λ _=>none)) (λ _=>(λ _=>none)) (λ _ _ _=>(λ _=>none)) (λ _=>(λ _=>none)) (λ _=>(λ _=>none)) (λ _ _ _ _ _=>(λ _=>none)) (λ _=>none) (λ _ _ _=>(λ _=>none)) (λ _=>none) (λ _ _=>(λ _=>none)) (λ a _ k=>k a.1) (λ _ _=>(λ _=>none)) (λ _=>none) (λ _ _ _ _=>(λ _=>none)) v k
noncomputable def fnFV (fn:Fn) (a b:Array Value) (_ _:FV):FV:=Fn.rec (motive:=λ _=>Array Value→Array Value→FV) (λ f a b=>.f f a b) (λ _ _ _=>.no) (λ _ _ _ _=>.no) (λ _ _ _ _ _ _=>.no) (λ _ _ _=>.no) fn a b
noncomputable def asF (v:Value):FV :=
  Value.rec (motive_1:=λ _=>FV) (motive_2:=λ _=>FV) (motive_3:=λ _=>FV) (λ _=>.no) (λ _ _=>.no) (λ _ _=>.no) (λ _ _ _=>.no) (λ _=>.no) (λ _=>.no) (λ _ _ _=>.no) (λ _=>.no) (λ _=>.no) fnFV .no (λ _ _ _=>.no) .no (λ _ _=>.no) (λ _ _=>.no) (λ _ _=>.no) .no (λ _ _ _ _=>.no) v
noncomputable def onF (v:Value) (k:FuncId→Array Value→Array Value→R):R:=FV.rec (motive:=λ _=>R) none k (asF v)
noncomputable def asC (v:Value):CV :=
  Value.rec (motive_1:=λ _=>CV) (motive_2:=λ _=>CV) (motive_3:=λ _=>CV) (λ _=>.one) (λ _ _=>.one) (λ _ _=>.one) (λ _ _ _=>.one) (λ _=>.one) (λ _=>.one) (λ _ _ _=>.one) (λ _=>.one) (λ _=>.one) (λ _ _ _ _ _=>.one) .one (λ _ _ _=>.one) .one (λ a _=>.many a.1) (λ _ _=>.no) (λ _ _=>.one) .one (λ _ _ _ _=>.one) v
noncomputable def onCells (v:Value) (k:List Value→R):R:=CV.rec (motive:=λ _=>R) none (k [v]) k (asC v)
noncomputable def cell1F (v:Value):Bool :=
  Value.rec (motive_1:=λ _=>Bool) (motive_2:=λ _=>Bool) (motive_3:=λ _=>Bool) (λ _=>true) (λ _ _=>true) (λ _ _=>true) (λ _ _ _=>true) (λ _=>true) (λ _=>true) (λ _ _ _=>true) (λ _=>true) (λ _=>false) (λ _ _ _ _ _=>true) true (λ _ _ _=>true) true (λ _ _=>false) (λ _ _=>false) (λ _ _=>true) true (λ _ _ _ _=>true) v
noncomputable def isS0F (v:Value):Bool :=
  Value.rec (motive_1:=λ _=>Bool) (motive_2:=λ _=>Bool) (motive_3:=λ _=>Bool) (λ _=>true) (λ _ _=>true) (λ _ _=>false) (λ _ _ _=>false) (λ _=>true) (λ _=>true) (λ _ _ _=>true) (λ _=>true) (λ _=>false) (λ _ _ _ _ _=>false) true (λ _ _ _=>false) true (λ _ _=>false) (λ _ _=>false) (λ _ _=>true) true (λ _ _ _ _=>true) v
noncomputable def nn2 (a b:NN) (s:R) (k:Nat→Nat→R):R :=
  NN.rec (motive:=λ _=>NN→R→(Nat→Nat→R)→R) (λ _ s _=>s) (λ m b s k=>NN.rec (motive:=λ _=>R→(Nat→Nat→R)→Nat→R) (λ s _ _=>s) (λ n _ k m=>k m n) b s k m) a b s k
noncomputable def allF (p:Value→Bool) (l:List Value):Bool:=List.rec (motive:=λ _=>Bool) true (λ v _ ih=>Bool.rec (motive:=λ _=>Bool) false ih (p v)) l
noncomputable def nthF (i:Nat) (l:List Value) (k:Value→R):R :=
  Nat.rec (motive:=λ _=>List Value→R) (λ l=>List.rec (motive:=λ _=>R) none (λ v _ _=>k v) l) (λ _ ih l=>List.rec (motive:=λ _=>R) none (λ _ r _=>ih r) l) i l
noncomputable def lenF (l:List Value):Nat:=List.rec (motive:=λ _=>Nat) 0 (λ _ _ n=>Nat.succ n) l
noncomputable def val {α:Type} (t:T α):α:=T.rec (motive:=λ _=>α) (λ v=>v) (λ _ v _ _ _=>v) t
noncomputable def left {α:Type} (t:T α):T α:=T.rec (motive:=λ _=>T α) (λ v=>.c v) (λ l _ _ _ _=>l) t
noncomputable def right {α:Type} (t:T α):T α:=T.rec (motive:=λ _=>T α) (λ v=>.c v) (λ _ _ r _ _=>r) t
noncomputable def getS {α:Type} (j:Nat) (gl gr:Nat→α):α :=
  Nat.rec (motive:=λ _=>(Nat→α)→(Nat→α)→Nat→α) (λ gl _=>gl) (λ _ _ _ gr=>gr) (Nat.mod j 2) gl gr (Nat.div j 2)
noncomputable def getF {α:Type} (t:T α):Nat→α :=
  T.rec (motive:=λ _=>Nat→α) (λ v _=>v)
    (λ _ v _ gl gr i=>Nat.rec (motive:=λ _=>α→(Nat→α)→(Nat→α)→α) (λ v _ _=>v) (λ j _ _ gl gr=>getS j gl gr) i v gl gr) t
noncomputable def splitT {α β:Type} (t:T α) (k:T α→α→T α→β):β:=T.rec (motive:=λ _=>β) (λ v=>k (.c v) v (.c v)) (λ l v r _ _=>k l v r) t
noncomputable def insK {α β:Type} (fc:α→(α→β)→β) (f:Nat):T α→Nat→α→(T α→β)→β :=
  Nat.rec (motive:=λ _=>T α→Nat→α→(T α→β)→β) (λ t _ _ k=>k t)
    (λ _ ih t i x k=>splitT t (λ l v r=>Nat.rec (motive:=λ _=>β) (fc x (λ x=>k (.n l x r)))
      (λ j _=>Nat.rec (motive:=λ _=>β) (ih l (Nat.div j 2) x (λ l=>k (.n l v r))) (λ _ _=>ih r (Nat.div j 2) x (λ r=>k (.n l v r))) (Nat.mod j 2)) i)) f
noncomputable def insT {α β:Type} (fc:α→(α→β)→β) (t:T α):Nat→α→(T α→β)→β :=
  T.rec (motive:=λ _=>Nat→α→(T α→β)→β) (λ v i x k=>insK fc 40 (.c v) i x k)
    (λ l v r il ir i x k=>Nat.rec (motive:=λ _=>β) (fc x (λ x=>k (.n l x r)))
      (λ j _=>Nat.rec (motive:=λ _=>β) (il (Nat.div j 2) x (λ l=>k (.n l v r))) (λ _ _=>ir (Nat.div j 2) x (λ r=>k (.n l v r))) (Nat.mod j 2)) i) t
noncomputable def insW {α β:Type} (fc:α→(α→β)→β) (t:T α) (i:Nat) (x:α) (k:T α→β):β:=Bool.rec (motive:=λ _=>β) (insK fc 40 t i x k) (insT fc t i x k) (Nat.ble i 1000000000)
noncomputable def insF {α:Type} (f:Nat) (t:T α) (i:Nat) (x:α):T α:=Bool.rec (motive:=λ _=>T α) (insK (λ x k=>k x) f t i x (λ t=>t)) (insW (λ x k=>k x) t i x (λ t=>t)) (Nat.beq f 40)
noncomputable def fcT {α β:Type} (t:T α) (k:T α→β):β:=T.rec (motive:=λ _=>β) (λ v=>k (.c v)) (λ l v r _ _=>k (.n l v r)) t
noncomputable def fcA {β:Type} (o:AO) (k:AO→β):β:=AO.rec (motive:=λ _=>β) (k .dead) (λ e n op ro fz c=>fcT c (λ c=>k (.row e n op ro fz c))) (λ es cl=>k (.map es cl)) (λ s p=>k (.iter s p)) o
noncomputable def hget (h:H) (i:Nat):AO:=getF h.2 i
noncomputable def hset (h:H) (i:Nat) (o:AO):H:=⟨h.1,insW fcA h.2 i o (λ t=>t)⟩
noncomputable def hpush (h:H) (o:AO):H:=⟨Nat.succ h.1,insW fcA h.2 h.1 o (λ t=>t)⟩
noncomputable def onRow (o:AO) (k:TypeId→Nat→Bool→Bool→Nat→T Value→R):R:=AO.rec (motive:=λ _=>R) none k (λ _ _=>none) (λ _ _=>none) o
noncomputable def ifB (b:Bool) (k:R):R:=Bool.rec (motive:=λ _=>R) none k b
noncomputable def bindO (o:Option Value) (k:Value→R):R:=Option.rec (motive:=λ _=>R) none k o
noncomputable def bindP (o:Option (Value × H)) (k:Value→H→R):R:=Option.rec (motive:=λ _=>R) none (λ p=>k p.1 p.2) o
noncomputable def bindH (o:Option H) (k:H→R):R:=Option.rec (motive:=λ _=>R) none k o
noncomputable def fcN {β:Type} (n:Nat) (k:Nat→β):β:=Nat.rec (motive:=λ _=>β) (k 0) (λ p _=>k (Nat.succ p)) n
noncomputable def letH (h:H) (k:H→R):R:=fcT h.2 (λ t=>fcN h.1 (λ n=>k ⟨n,t⟩))
structure OC (ks:List Tmp) where
  run:FEnv ks→Value
noncomputable def andB (a b:Bool):Bool:=Bool.rec (motive:=λ _=>Bool→Bool) (λ _=>false) (λ b=>b) a b
noncomputable def notB (b:Bool):Bool:=Bool.rec (motive:=λ _=>Bool) true false b
def tb (m:Nat) (d:Tmp):Bool:=Nat.beq (Nat.land (Nat.shiftRight m d) 1) 1
def bit (d:Tmp):Nat:=Nat.shiftLeft 1 d
def andn (a b:Nat):Nat:=Nat.xor a (Nat.land a b)
def full:Nat:=Nat.sub (Nat.pow 2 2000) 1
noncomputable def maskL (l:List Tmp):Nat:=List.rec (motive:=λ _=>Nat) 0 (λ d _ m=>Nat.lor (Nat.shiftLeft 1 d) m) l
noncomputable def filt (l:List Tmp) (m:Nat):List Tmp:=List.rec (motive:=λ _=>Nat→List Tmp) (λ _=>[])
  (λ d _ ih m=>Bool.rec (motive:=λ _=>List Tmp) (ih m) (d :: ih (Nat.xor m (Nat.shiftLeft 1 d))) (tb m d)) l m
noncomputable def tmpC (d:Tmp):(ks:List Tmp)→OC ks
  | []=>⟨λ _=>undef⟩
  | [a]=>cond (Nat.beq a d) ⟨λ e=>e.1⟩ ⟨λ _=>undef⟩
  | [a,b]=>cond (Nat.beq a d) ⟨λ e=>e.1⟩ (cond (Nat.beq b d) ⟨λ e=>e.2.1⟩ ⟨λ _=>undef⟩)
  | [a,b,c]=>cond (Nat.beq a d) ⟨λ e=>e.1⟩ (cond (Nat.beq b d) ⟨λ e=>e.2.1⟩ (cond (Nat.beq c d) ⟨λ e=>e.2.2.1⟩ ⟨λ _=>undef⟩))
  | a :: b :: c :: x :: ks=>cond (Nat.beq a d) ⟨λ e=>e.1⟩ (cond (Nat.beq b d) ⟨λ e=>e.2.1⟩ (cond (Nat.beq c d) ⟨λ e=>e.2.2.1⟩
      (cond (Nat.beq x d) ⟨λ e=>e.2.2.2.1⟩ ⟨λ e=>(tmpC d ks).run e.2.2.2.2⟩)))
noncomputable def opdC (ks:List Tmp):Operand→OC ks
  | .tmp i=>tmpC i ks
  | .const v=>cond (plain v) ⟨λ _=>v⟩ ⟨λ _=>unk⟩
  | .global g=>cond (Nat.ble 16 g) ⟨λ _=>unk⟩ ⟨λ _=>.pointer (some ⟨g,0,none⟩)⟩
  | .func f=>⟨λ _=>.func (.func f) #[] #[]⟩
noncomputable def okO (ok:Nat) (x:Operand):Bool:=Operand.rec (motive:=λ _=>Bool) (λ i=>tb ok i) (λ _=>true) (λ _=>true) (λ _=>true) x
noncomputable def andS (a b:Bool):Bool:=Bool.rec (motive:=λ _=>Bool→Bool) (λ _=>false) (λ b=>b) a b
noncomputable def okL (ok:Nat) (l:List Operand):Bool:=List.rec (motive:=λ _=>Bool) true (λ x _ ih=>andS (okO ok x) ih) l
structure XC (ks:List Tmp) where
  run:FEnv ks→List Value
noncomputable def opdsC (ks:List Tmp):List Operand→XC ks
  | []=>⟨λ _=>[]⟩
  | x :: l=>⟨λ e=>(opdC ks x).run e :: (opdsC ks l).run e⟩
structure YC (ks:List Tmp) where
  run:FEnv ks→List (Nat × Value)
noncomputable def partsC (ks:List Tmp):List (Nat × Operand)→YC ks
  | []=>⟨λ _=>[]⟩
  | p :: l=>⟨λ e=>(p.1,(opdC ks p.2).run e) :: (partsC ks l).run e⟩
structure WC (ks:List Tmp) where
  run:FEnv ks→Option Value
noncomputable def optC (ks:List Tmp):Option Operand→WC ks
  | none=>⟨λ _=>none⟩
  | some x=>⟨λ e=>some ((opdC ks x).run e)⟩
structure LC (ks:List Tmp) where
  run:FEnv ks→H→(Value→R)→R
def LC.no (ks:List Tmp):LC ks:=⟨λ _ _ _=>none⟩
structure BC where
  run:Value→Value→(Value→R)→R
noncomputable def binR (c:BC) (x y:Value) (k:Value→R):R:=c.run x y k
noncomputable def slowB (E:Env) (op:BinOp) (ty:TypeId) (cx cy:Bool):BC:=⟨λ x y k=>bindO (bin E op ty cx cy x y) k⟩
noncomputable def opN (as:Value→NN) (kd:IntKind) (most:Nat) (s:BC):BinOp→BC
  | .add=>⟨λ x y k=>nn2 (as x) (as y) (s.run x y k) (λ m n=>Bool.rec (motive:=λ _=>R) (s.run x y k) (k (.int kd (.ofNat (Nat.add m n)))) (Nat.ble (Nat.add m n) most))⟩
  | .sub=>⟨λ x y k=>nn2 (as x) (as y) (s.run x y k) (λ m n=>Bool.rec (motive:=λ _=>R) (s.run x y k) (k (.int kd (.ofNat (Nat.sub m n)))) (andB (Nat.ble n m) (Nat.ble m most)))⟩
  | .mul=>⟨λ x y k=>nn2 (as x) (as y) (s.run x y k) (λ m n=>Bool.rec (motive:=λ _=>R) (s.run x y k) (k (.int kd (.ofNat (Nat.mul m n)))) (Nat.ble (Nat.mul m n) most))⟩
  | .quo=>⟨λ x y k=>nn2 (as x) (as y) (s.run x y k) (λ m n=>Bool.rec (motive:=λ _=>R) (s.run x y k) (k (.int kd (.ofNat (Nat.div m n)))) (andB (Nat.ble 1 n) (Nat.ble m most)))⟩
  | .rem=>⟨λ x y k=>nn2 (as x) (as y) (s.run x y k) (λ m n=>Bool.rec (motive:=λ _=>R) (s.run x y k) (k (.int kd (.ofNat (Nat.mod m n)))) (andB (Nat.ble 1 n) (Nat.ble m most)))⟩
  | .and=>⟨λ x y k=>nn2 (as x) (as y) (s.run x y k) (λ m n=>Bool.rec (motive:=λ _=>R) (s.run x y k) (k (.int kd (.ofNat (Nat.land m n)))) (andB (Nat.ble m most) (Nat.ble n most)))⟩
  | .or=>⟨λ x y k=>nn2 (as x) (as y) (s.run x y k) (λ m n=>Bool.rec (motive:=λ _=>R) (s.run x y k) (k (.int kd (.ofNat (Nat.lor m n)))) (andB (Nat.ble m most) (Nat.ble n most)))⟩
  | .eql=>⟨λ x y k=>nn2 (as x) (as y) (s.run x y k) (λ m n=>k (.bool (Nat.beq m n)))⟩
  | .neq=>⟨λ x y k=>nn2 (as x) (as y) (s.run x y k) (λ m n=>k (.bool (notB (Nat.beq m n))))⟩
  | .lss=>⟨λ x y k=>nn2 (as x) (as y) (s.run x y k) (λ m n=>k (.bool (Nat.ble (Nat.succ m) n)))⟩
  | .leq=>⟨λ x y k=>nn2 (as x) (as y) (s.run x y k) (λ m n=>k (.bool (Nat.ble m n)))⟩
  | .gtr=>⟨λ x y k=>nn2 (as x) (as y) (s.run x y k) (λ m n=>k (.bool (Nat.ble (Nat.succ n) m)))⟩
  | .geq=>⟨λ x y k=>nn2 (as x) (as y) (s.run x y k) (λ m n=>k (.bool (Nat.ble n m)))⟩
  | _=>s
noncomputable def shlN (as:Value→NN) (kd:IntKind) (most:Nat) (s:BC):BC :=
  ⟨λ x y k=>nn2 (as x) (asNat y) (s.run x y k) (λ m n=>Bool.rec (motive:=λ _=>R) (s.run x y k) (k (.int kd (.ofNat (Nat.shiftLeft m n)))) (andB (Nat.ble n 63) (Nat.ble (Nat.shiftLeft m n) most)))⟩
noncomputable def shrN (as:Value→NN) (kd:IntKind) (s:BC):BC :=
  ⟨λ x y k=>nn2 (as x) (asNat y) (s.run x y k) (λ m n=>Bool.rec (motive:=λ _=>R) (s.run x y k) (k (.int kd (.ofNat (Nat.shiftRight m n)))) (Nat.ble n 63))⟩
noncomputable def binC (E:Env) (op:BinOp) (ty:TypeId) (cx cy:Bool):BC :=
  match E.und ty with
  | some (.int .i64)=>(match op with
    | .shl=>shlN asI64 .i64 9223372036854775807 (slowB E op ty cx cy)
    | .shr=>shrN asI64 .i64 (slowB E op ty cx cy)
    | _=>opN asI64 .i64 9223372036854775807 (slowB E op ty cx cy) op)
  | some (.int .u64)=>(match op with
    | .shl=>shlN asU64 .u64 18446744073709551615 (slowB E op ty cx cy)
    | .shr=>shrN asU64 .u64 (slowB E op ty cx cy)
    | _=>opN asU64 .u64 18446744073709551615 (slowB E op ty cx cy) op)
  | some (.int .u8)=>(match op with
    | .shl | .shr=>slowB E op ty cx cy
    | _=>opN asU8 .u8 255 (slowB E op ty cx cy) op)
  | _=>slowB E op ty cx cy
noncomputable def cellsF (c:T Value) (n:Nat):Nat→List Value :=
  Nat.rec (motive:=λ _=>Nat→List Value) (λ _=>[]) (λ _ ih off=>getF c off :: ih (Nat.succ off)) n
noncomputable def loadC (E:Env) (ks:List Tmp) (ty:TypeId) (x:OC ks):LC ks :=
  match E.und ty,E.size ty with
  | some d,some s=>cond (isAggD d)
    ⟨λ e h k=>onPtr (x.run e) (λ ad=>onRow (hget h ad.1) (λ _ n _ _ _ c=>ifB (Nat.ble (Nat.add ad.2 s) n) (k (.agg ⟨cellsF c s ad.2⟩))))⟩
    ⟨λ e h k=>onPtr (x.run e) (λ ad=>onRow (hget h ad.1) (λ _ n _ _ _ c=>ifB (Nat.ble (Nat.succ ad.2) n) (k (getF c ad.2))))⟩
  | _,_=>.no ks
noncomputable def fieldAddrC (E:Env) (ks:List Tmp) (s:TypeId) (x:OC ks) (f:Nat):LC ks :=
  match E.und s with
  | some (.struct fs)=>(match fs[f]? with
    | some fd=>(match E.size fd.type with
      | some (_ + 1)=>cond (Nat.beq fd.offset 0) ⟨λ e _ k=>onPtr (x.run e) (λ _=>k (x.run e))⟩
        ⟨λ e _ k=>onPtr (x.run e) (λ ad=>k (.pointer (some ⟨ad.1,Nat.add ad.2 fd.offset,none⟩)))⟩
      | _=>.no ks)
    | none=>.no ks)
  | _=>.no ks
noncomputable def addOffF (ad:Addr) (n:Nat) (k:Value→R):R :=
  Nat.rec (motive:=λ _=>R) (k (.pointer (some ad))) (λ p _=>k (.pointer (some ⟨ad.1,Nat.add ad.2 (Nat.succ p),none⟩))) n
noncomputable def indexAddrC (E:Env) (ks:List Tmp) (ty:TypeId) (x i:OC ks):LC ks :=
  match E.und ty with
  | some (.array n e)=>(match E.size e with
    | some s=>⟨λ e _ k=>onNat (i.run e) none (λ j=>onPtr (x.run e) (λ ad=>ifB (Nat.ble (Nat.succ j) n) (addOffF ad (Nat.mul j s) k)))⟩
    | none=>.no ks)
  | some (.slice e)=>(match E.size e with
    | some s=>⟨λ e _ k=>onNat (i.run e) none (λ j=>onSl (x.run e) none (λ ad n _=>ifB (Nat.ble (Nat.succ j) n) (addOffF ad (Nat.mul j s) k)))⟩
    | none=>.no ks)
  | _=>.no ks
noncomputable def fieldC (E:Env) (ks:List Tmp) (s:TypeId) (x:OC ks) (f:Nat):LC ks:=⟨λ e _ k=>bindO (fieldV E s (x.run e) f) k⟩
def most:IntKind→Nat
  | .i8=>127 | .i16=>32767 | .i32=>2147483647 | .i64=>9223372036854775807
  | .u8=>255 | .u16=>65535 | .u32=>4294967295 | .u64=>18446744073709551615
noncomputable def joinL (k:Value→R) (b:(Value→R)→R):R:=b k
noncomputable def convC (E:Env) (ks:List Tmp) (s d:TypeId) (x:OC ks):LC ks :=
  match E.und s,E.und d with
  | some (.int _),some (.int kd)=>⟨λ e h k=>joinL k (λ k=>onNat (x.run e) (bindO (convV E h s d (x.run e)) k) (λ n=>Bool.rec (motive:=λ _=>R) (bindO (convV E h s d (x.run e)) k) (k (.int kd (.ofNat n))) (Nat.ble n (most kd))))⟩
  | _,_=>⟨λ e h k=>bindO (convV E h s d (x.run e)) k⟩
noncomputable def lenC (E:Env) (ks:List Tmp) (ty:TypeId) (x:OC ks):LC ks :=
  match E.und ty with
  | some (.slice _)=>⟨λ e h k=>joinL k (λ k=>onSl (x.run e) (bindO (lenV E h ty (x.run e)) k) (λ _ n _=>k (.int .i64 (.ofNat n))))⟩
  | _=>⟨λ e h k=>bindO (lenV E h ty (x.run e)) k⟩
noncomputable def ifaceC (E:Env) (ks:List Tmp) (ty:TypeId) (x:OC ks):LC ks :=
  match E.und ty with
  | some (.interface _)=>.no ks
  | some _=>⟨λ e _ k=>ifB (isS0F (x.run e)) (k (.iface ty (x.run e)))⟩
  | none=>.no ks
noncomputable def builtinC (E:Env) (ks:List Tmp) (b:Builtin) (args:List Operand) (tys:List TypeId):LC ks :=
  match b,args,tys with
  | .len,[x],ty :: _=>lenC E ks ty (opdC ks x)
  | b,args,tys=>⟨λ e h k=>bindO (builtinV E h b ((opdsC ks args).run e) tys) k⟩
def nilV (v:Value):Option Value:=match v with | .pointer (some ad)=>some (.pointer (some ad)) | .func (.func f) a b=>some (.func (.func f) a b) | _=>none
def unV (op:UnOp) (v:Value):Option Value:=match v with | .int k n=>pureOf (Op.unary op (.int k n)) | .bool b=>pureOf (Op.unary op (.bool b)) | _=>none
noncomputable def lightC (E:Env) (ks:List Tmp) (o:Oper):LC ks :=
  match o.op with
  | .move x | .assign x=>⟨λ e _ k=>k ((opdC ks x).run e)⟩
  | .pick c a b=>⟨λ e _ k=>onB ((opdC ks c).run e) (k ((opdC ks b).run e)) (k ((opdC ks a).run e))⟩
  | .load ty a=>loadC E ks ty (opdC ks a)
  | .nilCheck x=>⟨λ e _ k=>bindO (nilV ((opdC ks x).run e)) k⟩
  | .binOp op ty x y _=>⟨λ e _ k=>binR (binC E op ty (isC x) (isC y)) ((opdC ks x).run e) ((opdC ks y).run e) k⟩
  | .unOp op _ x=>(match op with
    | .not=>⟨λ e _ k=>onB ((opdC ks x).run e) (k (.bool true)) (k (.bool false))⟩
    | op=>⟨λ e _ k=>bindO (unV op ((opdC ks x).run e)) k⟩)
  | .convert s d x=>convC E ks s d (opdC ks x)
  | .build ty parts=>⟨λ e _ k=>bindO (buildV E ty ((partsC ks parts.toList).run e)) k⟩
  | .fieldAddr s x f=>fieldAddrC E ks s (opdC ks x) f
  | .field s x f=>fieldC E ks s (opdC ks x) f
  | .indexAddr ty x i=>indexAddrC E ks ty (opdC ks x) (opdC ks i)
  | .index ty x i=>⟨λ e _ k=>bindO (indexV E ty ((opdC ks x).run e) ((opdC ks i).run e)) k⟩
  | .slice ty x lo hi mx=>⟨λ e _ k=>bindO (sliceV E ty ((opdC ks x).run e) ((optC ks lo).run e) ((optC ks hi).run e) ((optC ks mx).run e)) k⟩
  | .extract x i=>⟨λ e _ k=>onTup ((opdC ks x).run e) (λ l=>nthF i l k)⟩
  | .makeInterface ty x=>ifaceC E ks ty (opdC ks x)
  | .makeFunc (.func f) first caps=>⟨λ e _ k=>ifB (andB (allF isS0F ((opdsC ks first.toList).run e)) (allF isS0F ((opdsC ks caps.toList).run e))) (k (.func (.func f) ⟨(opdsC ks first.toList).run e⟩ ⟨(opdsC ks caps.toList).run e⟩))⟩
  | .lookup ty x i ok=>⟨λ e h k=>bindO (lookupV E h ty ((opdC ks x).run e) ((opdC ks i).run e) ok) k⟩
  | .call c=>(match c.callee with
    | .builtin b=>builtinC E ks b c.args.toList c.argTypes.toList
    | _=>.no ks)
  | _=>.no ks
structure VC (ks:List Tmp) where
  run:RC→FEnv ks→H→(Value→H→R)→R
def VC.no (ks:List Tmp):VC ks:=⟨λ _ _ _ _=>none⟩
noncomputable def putF (c:T Value) (off:Nat) (l:List Value):T Value :=
  List.rec (motive:=λ _=>T Value→Nat→T Value) (λ c _=>c) (λ v _ ih c off=>ih (insF 40 c off v) (Nat.succ off)) l c off
noncomputable def storeC (E:Env) (ks:List Tmp) (ty:TypeId) (a x:OC ks):VC ks :=
  match E.size ty with
  | some s=>⟨λ _ e h k=>onPtr (a.run e) (λ ad=>onCells (x.run e) (λ l=>onRow (hget h ad.1) (λ el n op ro fz c =>
      ifB (notB ro) (ifB (Nat.beq (lenF l) s) (ifB (Nat.ble fz ad.2) (ifB (Nat.ble (Nat.add ad.2 s) n) (ifB (Nat.ble n 1000000000) (ifB (allF cell1F l) (letH (hset h ad.1 (.row el n op false fz (putF c ad.2 l))) (λ h=>k undef h))))))))))⟩
  | none=>.no ks
structure AC (ks:List Tmp) where
  run:FEnv ks→(AO→(Nat→Value)→R)→R
noncomputable def bindA (o:Option (AO × (Nat→Value))) (k:AO→(Nat→Value)→R):R:=Option.rec (motive:=λ _=>R) none (λ p=>k p.1 p.2) o
noncomputable def allocC (E:Env) (ks:List Tmp) (o:Oper):AC ks :=
  match o.op with
  | .alloc e => (match allocs E (.c undef) { dst := none, op := .alloc e, type := 0, pos := "", after := #[], guard := none } with
    | some (ob,f)=>⟨λ _ k=>k ob f⟩
    | none=>⟨λ _ _=>none⟩)
  | .box el x=>⟨λ e k=>onCells ((opdC ks x).run e) (λ l=>ifB (allF cell1F l) (k (.row el (lenF l) false false 0 (T.ofList unk l)) (λ id=>ptr id 0)))⟩
  | .buildSlice ty len parts=>(match E.und ty with
    | some (.slice el)=>(match E.size el,zeroCellsV E el with
      | some s,some z=>cond (Nat.ble (len * s) 100000 && Nat.beq z.length s)
          ⟨λ e k=>Option.rec (motive:=λ _=>R) none (λ cs=>k (.row el (len * s) false false 0 (T.ofList unk cs)) (λ id=>.slice (some ⟨id,0,none⟩) len (2 * len)))
            (fillV (λ i=>some (i * s,s)) (List.replicate len z).flatten ((partsC ks parts.toList).run e))⟩ ⟨λ _ _=>none⟩
      | _,_=>⟨λ _ _=>none⟩)
    | _=>⟨λ _ _=>none⟩)
  | .makeSlice ty l c => ⟨fun e k => bindA (allocs E (.n (.c undef) ((opdC ks l).run e) (.n (.c undef) ((opdC ks c).run e) (.c undef))) { dst := none, op := .makeSlice ty (.tmp 0) (.tmp 2), type := 0, pos := "", after := #[], guard := none }) k⟩
  | .makeMap ty r=>(match r with
    | none=>⟨λ _ k=>k (.map [] 0) (λ id=>.map (some id))⟩
    | some r => ⟨fun e k => bindA (allocs E (.n (.c undef) ((opdC ks r).run e) (.c undef)) { dst := none, op := .makeMap ty (some (.tmp 0)), type := 0, pos := "", after := #[], guard := none }) k⟩)
  | .range ty x => ⟨fun e k => bindA (allocs E (.n (.c undef) ((opdC ks x).run e) (.c undef)) { dst := none, op := .range ty (.tmp 0), type := 0, pos := "", after := #[], guard := none }) k⟩
  | _=>⟨λ _ _=>none⟩
def catV (a b:Array Value) (l:List Value):List Value:=a.toList ++ l ++ b.toList
noncomputable def callC (ks:List Tmp) (c:Call):VC ks :=
  match c.callee with
  | .value (.func f)=>⟨λ rc e h k=>rc f ((opdsC ks c.args.toList).run e) h k⟩
  | .value x=>⟨λ rc e h k=>onF ((opdC ks x).run e) (λ f a b=>rc f (catV a b ((opdsC ks c.args.toList).run e)) h k)⟩
  | _=>.no ks
def kindOf (o:Oper):Nat:=match o.op with
  | .alloc _ | .box .. | .buildSlice .. | .makeSlice .. | .makeMap .. | .range ..=>1
  | .store .. | .mapUpdate .. | .next ..=>2
  | .call c=>(match c.callee with
    | .builtin b=>(match b with | .append | .copy | .clear | .unsafeString=>2 | _=>0)
    | _=>3)
  | _=>0
noncomputable def heavyC (E:Env) (ks:List Tmp) (o:Oper):VC ks :=
  match o.op with
  | .store ty a x=>storeC E ks ty (opdC ks a) (opdC ks x)
  | .mapUpdate ty m key x=>⟨λ _ e h k=>bindH (mapUpdateV E h ty ((opdC ks m).run e) ((opdC ks key).run e) ((opdC ks x).run e)) (λ h=>k undef h)⟩
  | .call c=>(match c.callee with
    | .builtin b=>⟨λ _ e h k=>bindP (heavyB E h b ((opdsC ks c.args.toList).run e) c.argTypes.toList) k⟩
    | _=>.no ks)
  | .next it true=>⟨λ _ e h k=>bindP (nextV h ((opdC ks it).run e)) k⟩
  | _=>.no ks
def convB (E:Env) (o:Oper):Bool:=match o.op with
  | .convert s d _=>(match E.und s,E.und d with | some .string,some (.slice _)=>true | _,_=>false)
  | _=>false
noncomputable def strBC (E:Env) (ks:List Tmp) (o:Oper):VC ks:=match o.op with
  | .convert s d x=>⟨λ _ e h k=>bindP (bytesV E h s d ((opdC ks x).run e)) k⟩
  | _=>.no ks
def dstM (dst:Option Tmp) (ok:Nat):Nat:=match dst with
  | some d=>Nat.lor (Nat.shiftLeft 1 d) ok
  | none=>ok
def dstK (dst:Option Tmp) (ks:List Tmp):List Tmp:=match dst with
  | some d=>d :: ks
  | none=>ks
structure PC (ks ks':List Tmp) where
  run:RC→(FEnv ks'→H→R)→FEnv ks→H→R
def PC.no (ks ks':List Tmp):PC ks ks':=⟨λ _ _ _ _=>none⟩
noncomputable def lightP (dst:Option Tmp) (ks:List Tmp) (c:LC ks):PC ks (dstK dst ks) :=
  match dst with
  | some _=>⟨λ _ k e h=>c.run e h (λ v=>k (v,e) h)⟩
  | none=>⟨λ _ k e h=>c.run e h (λ _=>k e h)⟩
noncomputable def heavyP (dst:Option Tmp) (ks:List Tmp) (c:VC ks):PC ks (dstK dst ks) :=
  match dst with
  | some _=>⟨λ rc k e h=>c.run rc e h (λ v h=>k (v,e) h)⟩
  | none=>⟨λ rc k e h=>c.run rc e h (λ _ h=>k e h)⟩
noncomputable def coreV0 (E:Env) (ks:List Tmp) (o:Oper):VC ks :=
  match kindOf o with
  | 0=>⟨λ _ e h k=>(lightC E ks o).run e h (λ v=>k v h)⟩
  | 1=>⟨λ _ e h k=>(allocC E ks o).run e (λ ob f=>ifB (Nat.ble h.1 1000000000) (letH (hpush h ob) (λ h'=>k (f h.1) h')))⟩
  | 2=>heavyC E ks o
  | _=>(match o.op with | .call c=>callC ks c | _=>.no ks)
noncomputable def coreV (E:Env) (ks:List Tmp) (o:Oper):VC ks:=cond (convB E o) (strBC E ks o) (coreV0 E ks o)
noncomputable def coreC0 (E:Env) (ks:List Tmp) (o:Oper):PC ks (dstK o.dst ks) :=
  match kindOf o with
  | 0=>lightP o.dst ks (lightC E ks o)
  | _=>heavyP o.dst ks (coreV0 E ks o)
noncomputable def coreC (E:Env) (ks:List Tmp) (o:Oper):PC ks (dstK o.dst ks):=cond (convB E o) (heavyP o.dst ks (strBC E ks o)) (coreC0 E ks o)
noncomputable def joinV (k:Value→H→R) (b:(Value→H→R)→R):R:=b k
structure YV (ks ks':List Tmp) where
  run:(FEnv ks'→H→R)→FEnv ks→Value→H→R
noncomputable def layV (dst:Option Tmp) (ks:List Tmp):YV ks (dstK dst ks) :=
  match dst with
  | some _=>⟨λ k e v h=>k (v,e) h⟩
  | none=>⟨λ k e _ h=>k e h⟩
noncomputable def skipP (dst:Option Tmp) (ks:List Tmp):PC ks (dstK dst ks) :=
  match dst with
  | some _=>⟨λ _ k e h=>k (undef,e) h⟩
  | none=>⟨λ _ k e h=>k e h⟩
noncomputable def guardC (ks:List Tmp) (ok:Nat) (ops:Array Oper) (o:Oper) (p:PC ks (dstK o.dst ks)) (c:VC ks):PC ks (dstK o.dst ks) :=
  match o.guard with
  | none=>p
  | some (j,want)=>match ops[j]? with
    | some og=>(match og.dst with
      | some d=>cond (tb ok d) (cond want
        ⟨λ rc k e h=>joinV (λ v h=>(layV o.dst ks).run k e v h) (λ j=>onG ((tmpC d ks).run e) (j undef h) (c.run rc e h j) (j undef h))⟩
        ⟨λ rc k e h=>joinV (λ v h=>(layV o.dst ks).run k e v h) (λ j=>onG ((tmpC d ks).run e) (c.run rc e h j) (j undef h) (j undef h))⟩) (.no _ _)
      | none=>.no _ _)
    | none=>.no _ _
noncomputable def opC (E:Env) (ks:List Tmp) (ok:Nat) (ops:Array Oper) (o:Oper):PC ks (dstK o.dst ks) :=
  cond (okL ok o.op.operands.toList) (guardC ks ok ops o (coreC E ks o) (coreV E ks o)) (.no _ _)
def outOps:List Oper→List Tmp→List Tmp
  | [],ks=>ks
  | o :: r,ks=>outOps r (dstK o.dst ks)
noncomputable def opsC (E:Env) (ops:Array Oper):(l:List Oper)→(ks:List Tmp)→(ok:Nat)→PC ks (outOps l ks)
  | [],_,_=>⟨λ _ k e h=>k e h⟩
  | o :: r,ks,ok=>⟨λ rc k e h=>(opC E ks ok ops o).run rc (λ e h=>(opsC E ops r (dstK o.dst ks) (dstM o.dst ok)).run rc k e h) e h⟩
inductive RS where
  | ex (o:Oper)
  | hv (o:Oper)
  | al (o:Oper) (k:Nat)
  | re (o:Oper)
def resolve (ops:Array Oper):List PS→Option (List RS)
  | []=>some []
  | s :: l=>match resolve ops l with
    | none=>none
    | some r=>match s with
      | .ex i=>(match ops[i]? with | some o=>some (.ex o :: r) | none=>none)
      | .hv i=>(match ops[i]? with | some o=>some (.hv o :: r) | none=>none)
      | .al i k=>(match ops[i]? with | some o=>some (.al o k :: r) | none=>none)
      | .re i=>(match ops[i]? with | some o=>some (.re o :: r) | none=>none)
def rsK (s:RS) (ks:List Tmp):List Tmp:=match s with
  | .ex o | .hv o | .al o _=>dstK o.dst ks
  | .re _=>ks
def rsM (s:RS) (ok:Nat):Nat:=match s with
  | .ex o | .hv o | .al o _=>dstM o.dst ok
  | .re _=>ok
def outRs:List RS→List Tmp→List Tmp
  | [],ks=>ks
  | s :: l,ks=>outRs l (rsK s ks)
noncomputable def outMs (l:List RS) (m:Nat):Nat:=List.rec (motive:=λ _=>Nat→Nat) (λ m=>m) (λ s _ ih m=>ih (rsM s m)) l m
structure QC (ks ks':List Tmp) where
  run:RC→Nat→(FEnv ks'→H→R)→FEnv ks→H→R
noncomputable def guardL (ks:List Tmp) (ok:Nat) (ops:Array Oper) (o:Oper) (c:LC ks):LC ks :=
  match o.guard with
  | none=>c
  | some (j,want)=>match ops[j]? with
    | some og=>(match og.dst with
      | some d=>cond (tb ok d) (cond want
        ⟨λ e h k=>joinL k (λ j=>onG ((tmpC d ks).run e) (j undef) (c.run e h j) (j undef))⟩
        ⟨λ e h k=>joinL k (λ j=>onG ((tmpC d ks).run e) (c.run e h j) (j undef) (j undef))⟩) (.no _)
      | none=>.no _)
    | none=>.no _
noncomputable def lightW (E:Env) (ks:List Tmp) (ok:Nat) (ops:Array Oper) (o:Oper):LC ks :=
  cond (okL ok o.op.operands.toList) (guardL ks ok ops o (lightC E ks o)) (.no _)
structure SC (ks ks':List Tmp) where
  run:Nat→(FEnv ks'→H→R)→FEnv ks→H→R
noncomputable def alP (dst:Option Tmp) (ks:List Tmp) (j:Nat) (c:AC ks):SC ks (dstK dst ks) :=
  match dst with
  | some _=>⟨λ i k e h=>c.run e (λ ob f=>letH (hset h (Nat.add i j) ob) (λ h=>k (f (Nat.add i j),e) h))⟩
  | none=>⟨λ i k e h=>c.run e (λ ob _=>letH (hset h (Nat.add i j) ob) (λ h=>k e h))⟩
noncomputable def guardS (ks:List Tmp) (ok:Nat) (ops:Array Oper) (o:Oper) (p:SC ks (dstK o.dst ks)):SC ks (dstK o.dst ks) :=
  match o.guard with
  | none=>p
  | some (j,want)=>match ops[j]? with
    | some og=>(match og.dst with
      | some d=>cond (tb ok d) (cond want
        ⟨λ i k e h=>onG ((tmpC d ks).run e) ((skipP o.dst ks).run (λ _ _ _ _=>none) k e h) (p.run i k e h) ((skipP o.dst ks).run (λ _ _ _ _=>none) k e h)⟩
        ⟨λ i k e h=>onG ((tmpC d ks).run e) (p.run i k e h) ((skipP o.dst ks).run (λ _ _ _ _=>none) k e h) ((skipP o.dst ks).run (λ _ _ _ _=>none) k e h)⟩) ⟨λ _ _ _ _=>none⟩
      | none=>⟨λ _ _ _ _=>none⟩)
    | none=>⟨λ _ _ _ _=>none⟩
noncomputable def alC (E:Env) (ks:List Tmp) (ok:Nat) (ops:Array Oper) (j:Nat) (o:Oper):SC ks (dstK o.dst ks) :=
  cond (okL ok o.op.operands.toList) (guardS ks ok ops o (alP o.dst ks j (allocC E ks o))) ⟨λ _ _ _ _=>none⟩
noncomputable def reC (E:Env) (ks:List Tmp) (ok:Nat) (ops:Array Oper) (o:Oper):LC ks :=
  match o.dst with
  | some d=>cond (tb ok d) ⟨λ e h k=>(lightW E ks ok ops o).run e h (λ v=>ifB (sameW v ((tmpC d ks).run e)) (k v))⟩ (.no _)
  | none=>lightW E ks ok ops o
noncomputable def rsC (E:Env) (ops:Array Oper) (s:RS) (ks:List Tmp) (ok:Nat):QC ks (rsK s ks) :=
  match s with
  | .ex o=>⟨λ rc _ k e h=>(lightP o.dst ks (lightW E ks ok ops o)).run rc k e h⟩
  | .hv o=>⟨λ rc _ k e h=>(opC E ks ok ops o).run rc k e h⟩
  | .al o j=>⟨λ _ i k e h=>(alC E ks ok ops j o).run i k e h⟩
  | .re o=>⟨λ _ _ k e h=>(reC E ks ok ops o).run e h (λ _=>k e h)⟩
noncomputable def planC (E:Env) (ops:Array Oper):(l:List RS)→(ks:List Tmp)→(ok:Nat)→QC ks (outRs l ks)
  | [],_,_=>⟨λ _ _ k e h=>k e h⟩
  | s :: r,ks,ok=>⟨λ rc i k e h=>(rsC E ops s ks ok).run rc i (λ e h=>(planC E ops r (rsK s ks) (rsM s ok)).run rc i k e h) e h⟩
noncomputable def dsts (ops:Array Oper):List Tmp:=List.rec (motive:=λ _=>List Tmp) [] (λ o _ ih=>Option.rec (motive:=λ _=>List Tmp) ih (λ d=>d :: ih) o.dst) ops.1
noncomputable def mods:Code→List Tmp
  | .region _ ops _=>dsts ops
  | .seq a b=>mods a ++ mods b
  | .cond _ a b=>mods a ++ mods b
  | .block _ b=>mods b
  | .loop b=>mods b
  | _=>[]
noncomputable def tmpsM (l:List Operand):Nat:=List.rec (motive:=λ _=>Nat) 0 (λ x _ m=>Operand.rec (motive:=λ _=>Nat) (λ i=>Nat.lor (Nat.shiftLeft 1 i) m) (λ _=>m) (λ _=>m) (λ _=>m) x) l
noncomputable def readsM (l:List Oper):Nat:=List.rec (motive:=λ _=>Nat) 0 (λ o _ m=>Nat.lor (tmpsM o.op.operands.1) m) l
noncomputable def rdM:Code→Nat
  | .region _ ops _=>readsM ops.1
  | .seq a b=>Nat.lor (rdM a) (rdM b)
  | .cond x a b=>Nat.lor (tmpsM [x]) (Nat.lor (rdM a) (rdM b))
  | .block _ b=>rdM b
  | .loop b=>rdM b
  | _=>0
structure PA (k1 m ks:List Tmp) where
  run:FEnv k1→FEnv ks→FEnv (m ++ ks)
noncomputable def overC (k1 ks:List Tmp):(m:List Tmp)→PA k1 m ks
  | []=>⟨λ _ e=>e⟩
  | d :: m=>⟨λ e1 e=>((tmpC d k1).run e1,(overC k1 ks m).run e1 e)⟩
structure MC (k1 m:List Tmp) where
  run:FEnv k1→FEnv m
noncomputable def pickC (k1:List Tmp):(m:List Tmp)→MC k1 m
  | []=>⟨λ _=>()⟩
  | d :: m=>⟨λ e1=>((tmpC d k1).run e1,(pickC k1 m).run e1)⟩
structure JC (m ks:List Tmp) where
  run:FEnv m→FEnv ks→FEnv (m ++ ks)
noncomputable def joinC (ks:List Tmp):(m:List Tmp)→JC m ks
  | []=>⟨λ _ e=>e⟩
  | _ :: m=>⟨λ l e=>(l.1,(joinC ks m).run l.2 e)⟩
def subM (a b:Nat):Bool:=Nat.beq (Nat.land a b) a
noncomputable def oK (X:Nat→Nat):Code→(lv ok:Nat)→Nat
  | .skip,_,ok=>ok
  | .label _,_,ok=>ok
  | .region _ ops _,lv,ok=>Nat.lor (andn ok (maskL (dsts ops))) (Nat.land (maskL (dsts ops)) lv)
  | .seq a b,lv,ok=>oK X b lv (oK X a (Nat.lor (rdM b) lv) ok)
  | .cond _ a b,lv,ok=>Nat.lor (andn ok (maskL (mods a ++ mods b))) (Nat.land (Nat.land (maskL (mods a ++ mods b)) lv) (Nat.land (oK X a lv ok) (oK X b lv ok)))
  | .block id b,lv,ok=>Nat.lor (andn ok (maskL (mods b))) (Nat.land (Nat.land (maskL (mods b)) lv) (Nat.land (oK X b lv ok) (Nat.lor ok (X id))))
  | _,_,_=>full
noncomputable def outK (X:Nat→Nat):Code→(lv ok:Nat)→List Tmp→List Tmp
  | .region _ ops _,lv,_,ks=>filt (dsts ops) lv ++ ks
  | .seq a b,lv,ok,ks=>outK X b lv (oK X a (Nat.lor (rdM b) lv) ok) (outK X a (Nat.lor (rdM b) lv) ok ks)
  | .cond _ a b,lv,ok,ks=>filt (mods a ++ mods b) (Nat.land (Nat.land (maskL (mods a ++ mods b)) lv) (Nat.land (oK X a lv ok) (oK X b lv ok))) ++ ks
  | .block id b,lv,ok,ks=>filt (mods b) (Nat.land (Nat.land (maskL (mods b)) lv) (Nat.land (oK X b lv ok) (Nat.lor ok (X id)))) ++ ks
  | _,_,_,ks=>ks
abbrev CX:=List (Nat × List Tmp)
def mx:CX→Nat→List Tmp
  | [],_=>[]
  | (j,m) :: cx,i=>cond (Nat.beq i j) m (mx cx i)
abbrev KX (cx:CX):=(i:Nat)→FEnv (mx cx i)→H→R
structure CC (rs:List Tmp) (cx:CX) (ks ks':List Tmp) where
  run:RC→(FEnv ks'→H→R)→KX cx→(FEnv rs→H→R)→FEnv ks→H→R
def CC.no (rs:List Tmp) (cx:CX) (ks ks':List Tmp):CC rs cx ks ks':=⟨λ _ _ _ _ _ _=>none⟩
noncomputable def joinR {ks:List Tmp} (k:FEnv ks→H→R) (b:(FEnv ks→H→R)→R):R:=b k
noncomputable def loopF {ks:List Tmp} (step:(FEnv ks→H→R)→FEnv ks→H→R) (n:Nat):FEnv ks→H→R :=
  Nat.rec (motive:=λ _=>FEnv ks→H→R) (λ _ _=>none) (λ _ ih=>step ih) n
noncomputable def inK {cx:CX} {id:Nat} {m:List Tmp} (k:FEnv m→H→R) (kx:KX cx):KX ((id,m) :: cx) :=
  λ i=>Bool.rec (motive:=λ b=>FEnv (cond b m (mx cx i))→H→R) (kx i) k (Nat.beq i id)
noncomputable def jM (m lv a b:Nat):Nat:=Nat.land (Nat.land m lv) (Nat.land a b)
noncomputable def codeC (E:Env) (X:Nat→Nat) (fn:FuncId) (rs:List Tmp):(c:Code)→(cx:CX)→(lv ok:Nat)→(ks:List Tmp)→CC rs cx ks (outK X c lv ok ks)
  | .skip,_,_,_,_=>⟨λ _ kn _ _ e h=>kn e h⟩
  | .label _,_,_,_,_=>⟨λ _ kn _ _ e h=>kn e h⟩
  | .seq a b,cx,lv,ok,ks=>⟨λ rc kn kx kr e h=>(codeC E X fn rs a cx (Nat.lor (rdM b) lv) ok ks).run rc
      (λ e h=>(codeC E X fn rs b cx lv (oK X a (Nat.lor (rdM b) lv) ok) (outK X a (Nat.lor (rdM b) lv) ok ks)).run rc kn kx kr e h) kx kr e h⟩
  | .cond x a b,cx,lv,ok,ks=>cond (okO ok x)
      ⟨λ rc kn kx kr e h=>joinR (λ l h=>kn ((joinC ks (filt (mods a ++ mods b) (jM (maskL (mods a ++ mods b)) lv (oK X a lv ok) (oK X b lv ok)))).run l e) h) (λ j=>onB ((opdC ks x).run e)
        ((codeC E X fn rs b cx lv ok ks).run rc (λ e1 h=>j ((pickC (outK X b lv ok ks) (filt (mods a ++ mods b) (jM (maskL (mods a ++ mods b)) lv (oK X a lv ok) (oK X b lv ok)))).run e1) h) kx kr e h)
        ((codeC E X fn rs a cx lv ok ks).run rc (λ e1 h=>j ((pickC (outK X a lv ok ks) (filt (mods a ++ mods b) (jM (maskL (mods a ++ mods b)) lv (oK X a lv ok) (oK X b lv ok)))).run e1) h) kx kr e h))⟩ (.no _ _ _ _)
  | .block id b,cx,lv,ok,ks =>
      ⟨λ rc kn kx kr e h=>joinR (λ l h=>kn ((joinC ks (filt (mods b) (jM (maskL (mods b)) lv (oK X b lv ok) (Nat.lor ok (X id))))).run l e) h) (λ j =>
        (codeC E X fn rs b ((id,filt (mods b) (jM (maskL (mods b)) lv (oK X b lv ok) (Nat.lor ok (X id)))) :: cx) lv ok ks).run rc
        (λ e1 h=>j ((pickC (outK X b lv ok ks) (filt (mods b) (jM (maskL (mods b)) lv (oK X b lv ok) (Nat.lor ok (X id))))).run e1) h)
        (inK j kx) kr e h)⟩
  | .loop b,cx,lv,ok,ks=>cond (subM (Nat.land (Nat.land (maskL (mods b)) (Nat.lor (rdM b) lv)) ok) (oK X b (Nat.lor (rdM b) lv) (Nat.lor (andn ok (maskL (mods b))) (Nat.land (Nat.land (maskL (mods b)) (Nat.lor (rdM b) lv)) ok))))
      ⟨λ rc _ kx kr e h=>loopF (ks:=filt (mods b) (Nat.land (Nat.land (maskL (mods b)) (Nat.lor (rdM b) lv)) ok)) (λ ih l h=>(codeC E X fn rs b cx (Nat.lor (rdM b) lv) (Nat.lor (andn ok (maskL (mods b))) (Nat.land (Nat.land (maskL (mods b)) (Nat.lor (rdM b) lv)) ok)) (filt (mods b) (Nat.land (Nat.land (maskL (mods b)) (Nat.lor (rdM b) lv)) ok) ++ ks)).run rc
        (λ e1 h=>ih ((pickC _ (filt (mods b) (Nat.land (Nat.land (maskL (mods b)) (Nat.lor (rdM b) lv)) ok))).run e1) h) kx kr ((joinC ks (filt (mods b) (Nat.land (Nat.land (maskL (mods b)) (Nat.lor (rdM b) lv)) ok))).run l e) h) 1000000 ((pickC ks (filt (mods b) (Nat.land (Nat.land (maskL (mods b)) (Nat.lor (rdM b) lv)) ok))).run e) h⟩ (.no _ _ _ _)
  | .exit id,cx,_,ok,ks=>cond (subM (maskL (mx cx id)) ok) ⟨λ _ _ kx _ e h=>kx id ((pickC ks (mx cx id)).run e) h⟩ (.no _ _ _ _)
  | .ret,_,_,ok,ks=>cond (subM (maskL rs) ok) ⟨λ _ _ _ kr e h=>kr ((pickC ks rs).run e) h⟩ (.no _ _ _ _)
  | .region id ops d,_,lv,ok,ks=>(match d with
    | false=>⟨λ rc kn _ _ e h=>(opsC E ops ops.1 ks ok).run rc (λ e1 h=>kn ((overC (outOps ops.1 ks) ks (filt (dsts ops) lv)).run e1 e) h) e h⟩
    | true=>(match E.plans fn id with
      | some p=>(match resolve ops p.steps with
        | some l=>cond (Nat.ble p.keep 1000 && subM (maskL (filt (dsts ops) lv)) (outMs l 0))
            ⟨λ rc kn _ _ e h=>ifB (Nat.ble h.1 1000000000) (letH ⟨Nat.add h.1 p.keep,h.2⟩ (λ h'=>(planC E ops l ks ok).run rc h.1 (λ e1 h=>kn ((overC (outRs l ks) ks (filt (dsts ops) lv)).run e1 e) h) e h'))⟩ (.no _ _ _ _)
        | none=>.no _ _ _ _)
      | none=>.no _ _ _ _))
  | .rangeFunc ..,_,_,_,_=>.no _ _ _ _
  | .scope _,_,_,_,_=>.no _ _ _ _
  | .goto _,_,_,_,_=>.no _ _ _ _
  | .refuse _,_,_,_,_=>.no _ _ _ _
end F
end Go.Ev
namespace Go.Ev
open Go
namespace F
def resT:List ResultVar→List Tmp
  | []=>[]
  | .tmp i :: l=>i :: resT l
  | .cell i _ :: l=>i :: resT l
structure ResC (rs:List Tmp) where
  run:FEnv rs→H→(List Value→R)→R
noncomputable def resC (E:Env):(l:List ResultVar)→ResC (resT l)
  | []=>⟨λ _ _ k=>k []⟩
  | .tmp _ :: l=>⟨λ e h k=>(resC E l).run e.2 h (λ r=>k (e.1 :: r))⟩
  | .cell _ ty :: l=>⟨λ e h k=>onPtr e.1 (λ ad=>bindO (loadV E h ty ad) (λ v=>(resC E l).run e.2 h (λ r=>k (v :: r))))⟩
noncomputable def tupF (l:List Value) (k:Value→R):R :=
  List.rec (motive:=λ _=>R) (k (.tuple ⟨[]⟩)) (λ v r _=>List.rec (motive:=λ _=>R) (k v) (λ _ _ _=>ifB (l.all λ v=>!isTuple v) (k (.tuple ⟨l⟩))) r) l
def par (ex:List Tmp):Nat→Nat→List Tmp
  | 0,_=>ex
  | n + 1,i=>i :: par ex n (i + 1)
def undefs:(ex:List Tmp)→FEnv ex
  | []=>()
  | _ :: l=>(undef,undefs l)
structure IC (ks:List Tmp) where
  run:List Value→(FEnv ks→R)→R
noncomputable def iniC (ex:List Tmp):(n i:Nat)→IC (par ex n i)
  | 0,_=>⟨λ l k=>List.rec (motive:=λ _=>R) (k (undefs ex)) (λ _ _ _=>none) l⟩
  | n + 1,i=>⟨λ l k=>List.rec (motive:=λ _=>R) none (λ v r _=>(iniC ex n (i + 1)).run r (λ e=>k (v,e))) l⟩
structure FC where
  run:RC→List Value→H→(Value→H→R)→R
def FC.no:FC:=⟨λ _ _ _ _=>none⟩
noncomputable def endC (E:Env) (l:List ResultVar) (e:FEnv (resT l)) (h:H) (k:Value→H→R):R:=(resC E l).run e h (λ r=>tupF r (λ v=>k v h))
noncomputable def bodyC (E:Env) (X:Nat→Nat) (f:FuncId) (np:Nat) (ex:List Tmp) (res:List ResultVar) (c:Code):FC :=
  cond (subM (maskL (resT res)) (oK X c (maskL (resT res)) (maskL (par ex np 0))) && (mods c).all (λ d=>Nat.ble d 1000000000) && ex.all (λ d=>Nat.ble np d) && Nat.ble np 1000)
    ⟨λ rc args h k=>(iniC ex np 0).run args (λ e=>(codeC E X f (resT res) c [] (maskL (resT res)) (maskL (par ex np 0)) (par ex np 0)).run rc
      (λ e h=>endC E res ((pickC (outK X c (maskL (resT res)) (maskL (par ex np 0)) (par ex np 0)) (resT res)).run e) h k) (λ _ _ _=>none) (λ e h=>endC E res e h k) e h)⟩ .no
structure Hint where
  X:FuncId→Nat→Nat
  ex:FuncId→List Tmp
noncomputable def funC (E:Env) (K:Hint) (f:FuncId):FC :=
  match E.funs.get f with
  | none=>.no
  | some fn=>match E.ext f with
    | some k=>⟨λ _ args h c=>bindP (k args h) c⟩
    | none=>match fn.body with
      | none=>.no
      | some c=>bodyC E (K.X f) f (fn.params.size + fn.nfree) (K.ex f) fn.results.toList c
noncomputable def callF (E:Env) (K:Hint) (n:Nat):RC :=
  Nat.rec (motive:=λ _=>RC) (λ _ _ _ _=>none) (λ _ ih f args h k=>(funC E K f).run ih args h k) n
end F
end Go.Ev
namespace Go.Ev
open Go
namespace F
theorem asI64_s {v:Value} {n:Nat} (h:asI64 v=.s n):v=.int .i64 (.ofNat n):=by
  cases v with
  | int k m=>cases k <;> cases m <;> simp [asI64,natOf,noI] at h <;> simp [h]
  | _=>exact nomatch h
theorem asU64_s {v:Value} {n:Nat} (h:asU64 v=.s n):v=.int .u64 (.ofNat n):=by
  cases v with
  | int k m=>cases k <;> cases m <;> simp [asU64,natOf,noI] at h <;> simp [h]
  | _=>exact nomatch h
theorem asU8_s {v:Value} {n:Nat} (h:asU8 v=.s n):v=.int .u8 (.ofNat n):=by
  cases v with
  | int k m=>cases k <;> cases m <;> simp [asU8,natOf,noI] at h <;> simp [h]
  | _=>exact nomatch h
theorem asNat_s {v:Value} {n:Nat} (h:asNat v=.s n):∃ k,v=.int k (.ofNat n):=by
  cases v with
  | int k m=>cases m <;> simp [asNat,natOf] at h <;> exact ⟨k,by simp [h]⟩
  | _=>exact nomatch h
theorem asPtr_p {v:Value} {ad:Addr} (h:asPtr v=.p ad):v=.pointer (some ad):=by
  cases v with
  | pointer a=>cases a with
    | none=>exact nomatch h
    | some b=>simp [asPtr,optPV] at h; rw [h]
  | _=>exact nomatch h
theorem asSl_s {v:Value} {ad:Addr} {n c:Nat} (h:asSl v=.s ad n c):v=.slice (some ad) n c:=by
  cases v with
  | slice a m d=>cases a with
    | none=>exact nomatch h
    | some b=>simp [asSl,optSV] at h; obtain ⟨rfl,rfl,rfl⟩:=h; rfl
  | _=>exact nomatch h
theorem asB_ff {v:Value} (h:asB v=.ff):v=.bool false:=by
  cases v with
  | bool b=>cases b with
    | false=>rfl
    | true=>exact nomatch h
  | tuple a=>obtain ⟨l⟩:=a; cases l <;> exact nomatch h
  | _=>exact nomatch h
theorem asB_tt {v:Value} (h:asB v=.tt):v=.bool true:=by
  cases v with
  | bool b=>cases b with
    | false=>exact nomatch h
    | true=>rfl
  | tuple a=>obtain ⟨l⟩:=a; cases l <;> exact nomatch h
  | _=>exact nomatch h
theorem asB_un {v:Value} (h:asB v=.un):v=.tuple ⟨[]⟩:=by
  cases v with
  | bool b=>cases b <;> exact nomatch h
  | tuple a=>obtain ⟨l⟩:=a; cases l with
    | nil=>rfl
    | cons a l=>exact nomatch h
  | _=>exact nomatch h
theorem asF_f {v:Value} {f:FuncId} {a b:Array Value} (h:asF v=.f f a b):v=.func (.func f) a b:=by
  cases v with
  | func fn x y=>cases fn <;> simp [asF,fnFV] at h; obtain ⟨rfl,rfl,rfl⟩:=h; rfl
  | _=>exact nomatch h
theorem asC_one {v:Value} (h:asC v=.one):cellsOfV v=[v]:=by
  cases v with
  | agg a=>exact nomatch h
  | tuple a=>exact nomatch h
  | _=>rfl
theorem asC_many {v:Value} {l:List Value} (h:asC v=.many l):v=.agg ⟨l⟩:=by
  cases v with
  | agg a=>obtain ⟨a⟩:=a; simp [asC] at h; rw [h]
  | _=>exact nomatch h
theorem onB_some {v:Value} {f t:R} {r} (h:onB v f t=some r):(v=.bool false∧f=some r) ∨ (v=.bool true∧t=some r):=by
  unfold onB at h
  cases e:asB v with
  | no=>rw [e] at h; exact nomatch h
  | ff=>rw [e] at h; exact .inl ⟨asB_ff e,h⟩
  | tt=>rw [e] at h; exact .inr ⟨asB_tt e,h⟩
  | un=>rw [e] at h; exact nomatch h
theorem onG_some {v:Value} {f t u:R} {r} (h:onG v f t u=some r):(v=.bool false∧f=some r) ∨ (v=.bool true∧t=some r) ∨ (v=.tuple ⟨[]⟩∧u=some r):=by
  unfold onG at h
  cases e:asB v with
  | no=>rw [e] at h; exact nomatch h
  | ff=>rw [e] at h; exact .inl ⟨asB_ff e,h⟩
  | tt=>rw [e] at h; exact .inr (.inl ⟨asB_tt e,h⟩)
  | un=>rw [e] at h; exact .inr (.inr ⟨asB_un e,h⟩)
theorem onPtr_some {v:Value} {k:Addr→R} {r} (h:onPtr v k=some r):∃ ad,v=.pointer (some ad)∧k ad=some r:=by
  unfold onPtr at h
  cases e:asPtr v with
  | no=>rw [e] at h; exact nomatch h
  | p ad=>rw [e] at h; exact ⟨ad,asPtr_p e,h⟩
theorem onSl_some {v:Value} {s:R} {k:Addr→Nat→Nat→R} {r} (h:onSl v s k=some r):s=some r ∨ ∃ ad n c,v=.slice (some ad) n c∧k ad n c=some r:=by
  unfold onSl at h
  cases e:asSl v with
  | no=>rw [e] at h; exact .inl h
  | s ad n c=>rw [e] at h; exact .inr ⟨ad,n,c,asSl_s e,h⟩
theorem onNat_some {v:Value} {s:R} {k:Nat→R} {r} (h:onNat v s k=some r):s=some r ∨ ∃ kd n,v=.int kd (.ofNat n)∧k n=some r:=by
  unfold onNat at h
  cases e:asNat v with
  | no=>rw [e] at h; exact .inl h
  | s n=>rw [e] at h; obtain ⟨kd,e⟩:=asNat_s e; exact .inr ⟨kd,n,e,h⟩
theorem onTup_some {v:Value} {k:List Value→R} {r} (h:onTup v k=some r):∃ l,v=.tuple ⟨l⟩∧k l=some r:=by
  cases v with
  | tuple a=>obtain ⟨l⟩:=a; exact ⟨l,rfl,h⟩
  | _=>exact nomatch h
theorem onF_some {v:Value} {k:FuncId→Array Value→Array Value→R} {r} (h:onF v k=some r):∃ f a b,v=.func (.func f) a b∧k f a b=some r:=by
  unfold onF at h
  cases e:asF v with
  | no=>rw [e] at h; exact nomatch h
  | f f a b=>rw [e] at h; exact ⟨f,a,b,asF_f e,h⟩
theorem onCells_some {v:Value} {k:List Value→R} {r} (h:onCells v k=some r):k (cellsOfV v)=some r:=by
  unfold onCells at h
  cases e:asC v with
  | no=>rw [e] at h; exact nomatch h
  | one=>rw [e] at h; rw [asC_one e]; exact h
  | many l=>rw [e] at h; rw [asC_many e]; exact h
theorem nn2_some {a b:NN} {s:R} {k:Nat→Nat→R} {r} (h:nn2 a b s k=some r):s=some r ∨ ∃ m n,a=.s m∧b=.s n∧k m n=some r:=by
  cases a with
  | no=>exact .inl h
  | s m=>cases b with
    | no=>exact .inl h
    | s n=>exact .inr ⟨m,n,rfl,rfl,h⟩
theorem cell1F_eq (v:Value):cell1F v=cell1 v:=by cases v <;> rfl
theorem isS0F_eq (v:Value):isS0F v=isS0 v:=by cases v <;> rfl
theorem allF_eq {p q:Value→Bool} (h:∀ v,p v=q v) (l:List Value):allF p l=l.all q:=by
  induction l with
  | nil=>rfl
  | cons v l ih =>
    show Bool.rec (motive:=λ _=>Bool) false (allF p l) (p v)=_
    rw [h,ih,List.all_cons]
    cases q v <;> rfl
theorem nthF_some {i:Nat} {l:List Value} {k:Value→R} {r} (h:nthF i l k=some r):∃ v,l[i]?=some v∧k v=some r:=by
  induction i generalizing l with
  | zero=>cases l with
    | nil=>exact nomatch h
    | cons v l=>exact ⟨v,rfl,h⟩
  | succ i ih=>cases l with
    | nil=>exact nomatch h
    | cons v l=>obtain ⟨w,hw,hk⟩:=ih (l:=l) h; exact ⟨w,by simpa using hw,hk⟩
theorem lenF_eq (l:List Value):lenF l=l.length:=by
  induction l with
  | nil=>rfl
  | cons v l ih=>show Nat.succ (lenF l)=_; rw [ih]; rfl
theorem ifB_some {b:Bool} {k:R} {r} (h:ifB b k=some r):b=true∧k=some r:=by
  cases b with
  | false=>exact nomatch h
  | true=>exact ⟨rfl,h⟩
theorem bindO_some {o:Option Value} {k:Value→R} {r} (h:bindO o k=some r):∃ v,o=some v∧k v=some r:=by
  cases o with
  | none=>exact nomatch h
  | some v=>exact ⟨v,rfl,h⟩
theorem bindP_some {o:Option (Value × H)} {k:Value→H→R} {r} (h:bindP o k=some r):∃ v h',o=some (v,h')∧k v h'=some r:=by
  cases o with
  | none=>exact nomatch h
  | some p=>exact ⟨p.1,p.2,rfl,h⟩
theorem bindH_some {o:Option H} {k:H→R} {r} (h:bindH o k=some r):∃ h',o=some h'∧k h'=some r:=by
  cases o with
  | none=>exact nomatch h
  | some p=>exact ⟨p,rfl,h⟩
theorem bindA_some {o:Option (AO × (Nat→Value))} {k:AO→(Nat→Value)→R} {r} (h:bindA o k=some r):∃ a f,o=some (a,f)∧k a f=some r:=by
  cases o with
  | none=>exact nomatch h
  | some p=>exact ⟨p.1,p.2,rfl,h⟩
theorem onRow_some {o:AO} {k:TypeId→Nat→Bool→Bool→Nat→T Value→R} {r} (h:onRow o k=some r):∃ e n op ro fz c,o=.row e n op ro fz c∧k e n op ro fz c=some r:=by
  cases o with
  | row e n op ro fz c=>exact ⟨e,n,op,ro,fz,c,rfl,h⟩
  | _=>exact nomatch h
theorem boolrec_some {b:Bool} {x y:R} {r} (h:Bool.rec (motive:=λ _=>R) x y b=some r):(b=false∧x=some r) ∨ (b=true∧y=some r):=by
  cases b with
  | false=>exact .inl ⟨rfl,h⟩
  | true=>exact .inr ⟨rfl,h⟩
theorem andB_true {a b:Bool} (h:andB a b=true):a=true∧b=true:=by
  cases a <;> cases b <;> simp_all [andB]
theorem notB_eq (b:Bool):notB b=!b:=by cases b <;> rfl
theorem getF_eq {α:Type} (t:T α) (i:Nat):getF t i=t.get i:=by
  induction t generalizing i with
  | c v=>rfl
  | n l v r ihl ihr =>
    rw [T.get_n]
    cases i with
    | zero=>rfl
    | succ j =>
      show getS j (getF l) (getF r)=_
      unfold getS
      have h2:j % 2=0 ∨ j % 2=1:=by omega
      show Nat.rec (motive:=λ _=>(Nat→α)→(Nat→α)→Nat→α) _ _ (j % 2) _ _ (j / 2)=_
      cases h2 with
      | inl h=>rw [h]; simp only [h,if_true]; exact ihl _
      | inr h=>rw [h]; simp only [h,Nat.one_ne_zero,if_false]; exact ihr _
theorem fcT_eq {α β:Type} (t:T α) (k:T α→β):fcT t k=k t:=by cases t <;> rfl
theorem fcN_eq {β:Type} (n:Nat) (k:Nat→β):fcN n k=k n:=by cases n <;> rfl
theorem fcA_eq {β:Type} (o:AO) (k:AO→β):fcA o k=k o:=by
  cases o with
  | row e n op ro fz c=>exact fcT_eq c (λ c=>k (.row e n op ro fz c))
  | _=>rfl
theorem letH_eq (h:H) (k:H→R):letH h k=k h:=by
  unfold letH
  rw [fcT_eq,fcN_eq]
theorem insK_eq {α β:Type} {fc:α→(α→β)→β} (hfc:∀ x k,fc x k=k x) (f:Nat) (t:T α) (i:Nat) (x:α) (k:T α→β):insK fc f t i x k=k (T.ins f t i x):=by
  induction f generalizing t i k with
  | zero=>rfl
  | succ f ih =>
    have e:insK fc (f + 1) t i x k=splitT t (λ l v r=>Nat.rec (motive:=λ _=>β) (fc x (λ x=>k (.n l x r)))
      (λ j _=>Nat.rec (motive:=λ _=>β) (insK fc f l (j / 2) x (λ l=>k (.n l v r))) (λ _ _=>insK fc f r (j / 2) x (λ r=>k (.n l v r))) (j % 2)) i):=rfl
    rw [e]
    cases i with
    | zero =>
      cases t with
      | c v=>exact hfc _ _
      | n l v r=>exact hfc _ _
    | succ j =>
      have h2:j % 2=0 ∨ j % 2=1:=by omega
      cases h2 with
      | inl h =>
        cases t with
        | c v =>
          show Nat.rec (motive:=λ _=>β) (insK fc f (.c v) (j / 2) x (λ l=>k (.n l v (.c v)))) (λ _ _=>insK fc f (.c v) (j / 2) x (λ r=>k (.n (.c v) v r))) (j % 2)=_
          rw [h]
          show insK fc f (.c v) (j / 2) x (λ l=>k (.n l v (.c v)))=_
          rw [ih]; simp [T.ins,h]
        | n l v r =>
          show Nat.rec (motive:=λ _=>β) (insK fc f l (j / 2) x (λ l=>k (.n l v r))) (λ _ _=>insK fc f r (j / 2) x (λ r=>k (.n l v r))) (j % 2)=_
          rw [h]
          show insK fc f l (j / 2) x (λ l=>k (.n l v r))=_
          rw [ih]; simp [T.ins,h]
      | inr h =>
        cases t with
        | c v =>
          show Nat.rec (motive:=λ _=>β) (insK fc f (.c v) (j / 2) x (λ l=>k (.n l v (.c v)))) (λ _ _=>insK fc f (.c v) (j / 2) x (λ r=>k (.n (.c v) v r))) (j % 2)=_
          rw [h]
          show insK fc f (.c v) (j / 2) x (λ r=>k (.n (.c v) v r))=_
          rw [ih]; simp [T.ins,h]; rfl
        | n l v r =>
          show Nat.rec (motive:=λ _=>β) (insK fc f l (j / 2) x (λ l=>k (.n l v r))) (λ _ _=>insK fc f r (j / 2) x (λ r=>k (.n l v r))) (j % 2)=_
          rw [h]
          show insK fc f r (j / 2) x (λ r=>k (.n l v r))=_
          rw [ih]; simp [T.ins,h]; rfl
theorem ins_fuel {α:Type}:∀ (f g:Nat) (t:T α) (i:Nat) (x:α),i + 1 < 2 ^ f→i + 1 < 2 ^ g→T.ins f t i x=T.ins g t i x:=by
  intro f
  induction f with
  | zero=>intro g t i x h _; simp at h
  | succ f ih =>
    intro g t i x h1 h2
    cases g with
    | zero=>simp at h2
    | succ g =>
      rw [Nat.pow_succ] at h1 h2
      cases i with
      | zero=>cases t <;> simp [T.ins]
      | succ j =>
        have a1:j / 2 + 1 < 2 ^ f:=by omega
        have a2:j / 2 + 1 < 2 ^ g:=by omega
        cases t with
        | c v=>simp only [T.ins]; rw [ih g _ _ x a1 a2]
        | n l v r=>simp only [T.ins]; rw [ih g l _ x a1 a2,ih g r _ x a1 a2]
theorem insT_eq {α β:Type} {fc:α→(α→β)→β} (hfc:∀ x k,fc x k=k x) (t:T α):∀ (f i:Nat) (x:α) (k:T α→β),i + 1 < 2 ^ f→i + 1 < 2 ^ 40→insT fc t i x k=k (T.ins f t i x):=by
  induction t with
  | c v =>
    intro f i x k h1 h2
    show insK fc 40 (.c v) i x k=_
    rw [insK_eq hfc,ins_fuel 40 f _ _ _ h2 h1]
  | n l v r ihl ihr =>
    intro f i x k h1 h2
    cases f with
    | zero=>simp at h1
    | succ f =>
      rw [Nat.pow_succ] at h1
      cases i with
      | zero=>exact hfc _ _
      | succ j =>
        have a1:j / 2 + 1 < 2 ^ f:=by omega
        have a2:j / 2 + 1 < 2 ^ 40:=by omega
        have h3:j % 2=0 ∨ j % 2=1:=by omega
        show Nat.rec (motive:=λ _=>β) (insT fc l (j / 2) x (λ l=>k (.n l v r))) (λ _ _=>insT fc r (j / 2) x (λ r=>k (.n l v r))) (j % 2)=_
        cases h3 with
        | inl h =>
          rw [h]
          show insT fc l (j / 2) x (λ l=>k (.n l v r))=_
          rw [ihl f _ _ _ a1 a2]; simp [T.ins,h]
        | inr h =>
          rw [h]
          show insT fc r (j / 2) x (λ r=>k (.n l v r))=_
          rw [ihr f _ _ _ a1 a2]; simp [T.ins,h]; rfl
theorem insW_eq {α β:Type} {fc:α→(α→β)→β} (hfc:∀ x k,fc x k=k x) (t:T α) (i:Nat) (x:α) (k:T α→β):insW fc t i x k=k (T.ins 40 t i x):=by
  unfold insW
  cases hb:Nat.ble i 1000000000 with
  | false=>exact insK_eq hfc 40 t i x k
  | true =>
    have:=Nat.le_of_ble_eq_true hb
    exact insT_eq hfc t 40 i x k (by omega) (by omega)
theorem insF_eq {α:Type} (f:Nat) (t:T α) (i:Nat) (x:α):insF f t i x=T.ins f t i x:=by
  unfold insF
  cases hb:Nat.beq f 40 with
  | false=>exact insK_eq (λ _ _=>rfl) f t i x _
  | true =>
    rw [Nat.eq_of_beq_eq_true hb]
    exact insW_eq (λ _ _=>rfl) t i x _
theorem hget_eq (h:H) (i:Nat):hget h i=h.objs.get i:=getF_eq _ _
theorem hset_eq (h:H) (i:Nat) (o:AO):hset h i o=h.set i o:=by unfold hset H.set; rw [insW_eq fcA_eq]; rfl
theorem hpush_eq (h:H) (o:AO):hpush h o=h.push o:=by unfold hpush H.push; rw [insW_eq fcA_eq]; rfl
theorem cellsF_eq (c:T Value) (n off:Nat):cellsF c n off=cellsFrom c off n:=by
  induction n generalizing off with
  | zero=>rfl
  | succ n ih=>show getF c off :: cellsF c n (Nat.succ off)=_; rw [getF_eq,ih]; rfl
theorem putF_eq (c:T Value) (off:Nat) (l:List Value):putF c off l=putCells c off l:=by
  induction l generalizing c off with
  | nil=>rfl
  | cons v l ih=>show putF (insF 40 c off v) (Nat.succ off) l=_; rw [insF_eq,ih]; rfl
end F
end Go.Ev
namespace Go.Ev
open Go
namespace F
theorem wrapIn (k:IntKind) (n:Nat) (h:n≤most k):k.wrap (n:Int)=n:=by
  cases k <;> simp only [most] at h
  · exact IntWalk.i8_in _ (by omega)
  · exact IntWalk.i16_in _ (by omega)
  · exact IntWalk.i32_in _ (by omega)
  · exact IntWalk.i64_in _ (by omega)
  · exact IntWalk.u8_in _ (by omega)
  · exact IntWalk.u16_in _ (by omega)
  · exact IntWalk.u32_in _ (by omega)
  · exact IntWalk.u64_in _ (by omega)
theorem most_lt (k:IntKind):most k < 2 ^ k.bits:=by cases k <;> decide
theorem bin_int (E:Env) (op:BinOp) (t:TypeId) (cx cy:Bool) (k k':IntKind) (m n:Int) :
    bin E op t cx cy (.int k m) (.int k' n)=pureOf (Go.binOp op t (.int k m) (.int k' n)):=rfl
theorem ofInt_nat (w m:Nat) (h:m < 2 ^ w):(BitVec.ofInt w (m:Int)).toNat=m:=by
  rw [BitVec.toNat_ofInt]
  have:((m:Int) % (2 ^ w:Nat))=((m % 2 ^ w:Nat):Int):=by simp
  rw [this,Int.toNat_natCast,Nat.mod_eq_of_lt h]
def Good (E:Env) (op:BinOp) (ty:TypeId) (cx cy:Bool) (b:BC):Prop :=
  ∀ x y k r,b.run x y k=some r→∃ v,bin E op ty cx cy x y=some v∧k v=some r
theorem slow_good (E:Env) (op:BinOp) (ty:TypeId) (cx cy:Bool):Good E op ty cx cy (slowB E op ty cx cy):=by
  intro x y k r h
  exact bindO_some h
variable {E : Env} {ty : TypeId} {cx cy : Bool}
theorem ar_good (op:BinOp) (as:Value→NN) (kd:IntKind) (s:BC) (f:Nat→Nat→Nat) (ok:Nat→Nat→Bool)
    (has:∀ v n,as v=.s n→v=.int kd (.ofNat n)) (hs:Good E op ty cx cy s)
    (hf:∀ m n,ok m n=true→pureOf (Go.binOp op ty (.int kd (.ofNat m)) (.int kd (.ofNat n)))=some (.int kd (.ofNat (f m n)))) :
    Good E op ty cx cy ⟨λ x y k=>nn2 (as x) (as y) (s.run x y k) (λ m n=>Bool.rec (motive:=λ _=>R) (s.run x y k) (k (.int kd (.ofNat (f m n)))) (ok m n))⟩:=by
  intro x y k r h
  rcases nn2_some h with h | ⟨m,n,hm,hn,h⟩
  · exact hs _ _ _ _ h
  · rcases boolrec_some h with ⟨_,h⟩ | ⟨h1,h⟩
    · exact hs _ _ _ _ h
    · rw [has _ _ hm,has _ _ hn]
      exact ⟨_,(bin_int ..).trans (hf m n h1),h⟩
theorem cmp_good (op:BinOp) (as:Value→NN) (kd:IntKind) (s:BC) (f:Nat→Nat→Bool)
    (has:∀ v n,as v=.s n→v=.int kd (.ofNat n)) (hs:Good E op ty cx cy s)
    (hf:∀ m n,pureOf (Go.binOp op ty (.int kd (.ofNat m)) (.int kd (.ofNat n)))=some (.bool (f m n))) :
    Good E op ty cx cy ⟨λ x y k=>nn2 (as x) (as y) (s.run x y k) (λ m n=>k (.bool (f m n)))⟩:=by
  intro x y k r h
  rcases nn2_some h with h | ⟨m,n,hm,hn,h⟩
  · exact hs _ _ _ _ h
  · rw [has _ _ hm,has _ _ hn]
    exact ⟨_,(bin_int ..).trans (hf m n),h⟩
theorem opN_good (op:BinOp) (as:Value→NN) (kd:IntKind) (s:BC)
    (has:∀ v n,as v=.s n→v=.int kd (.ofNat n)) (hs:Good E op ty cx cy s):Good E op ty cx cy (opN as kd (most kd) s op):=by
  have ble {a b:Nat} (h:Nat.ble a b=true):a≤b:=Nat.le_of_ble_eq_true h
  cases op with
  | add =>
    refine ar_good .add as kd s _ _ has hs ?_
    intro m n h
    simp only [Go.binOp,Op.intArith,ne_eq,not_true_eq_false,if_false,Int.ofNat_eq_natCast]
    rw [show ((m:Int) + n)=((Nat.add m n:Nat):Int) from by simp [Nat.add_eq],wrapIn _ _ (ble h)]; rfl
  | sub =>
    refine ar_good .sub as kd s _ _ has hs ?_
    intro m n h
    obtain ⟨h1,h2⟩:=andB_true h
    have h1:=ble h1; have h2:=ble h2
    simp only [Go.binOp,Op.intArith,ne_eq,not_true_eq_false,if_false,Int.ofNat_eq_natCast]
    rw [show ((m:Int) - n)=((Nat.sub m n:Nat):Int) from by rw [Nat.sub_eq]; omega,wrapIn _ _ (by rw [Nat.sub_eq]; omega)]; rfl
  | mul =>
    refine ar_good .mul as kd s _ _ has hs ?_
    intro m n h
    simp only [Go.binOp,Op.intArith,ne_eq,not_true_eq_false,if_false,Int.ofNat_eq_natCast]
    rw [show ((m:Int) * n)=((Nat.mul m n:Nat):Int) from by simp [Nat.mul_eq],wrapIn _ _ (ble h)]; rfl
  | quo =>
    refine ar_good .quo as kd s _ _ has hs ?_
    intro m n h
    obtain ⟨h1,h2⟩:=andB_true h
    have h1:=ble h1; have h2:=ble h2
    have hn:¬ (n:Int)=0:=by omega
    simp only [Go.binOp,Op.intDiv,ne_eq,not_true_eq_false,if_false,Int.ofNat_eq_natCast,hn]
    rw [show ((m:Int).tdiv n)=((Nat.div m n:Nat):Int) from (show ((m:Int).tdiv n)=((m / n:Nat):Int) by simp),wrapIn _ _ (show Nat.div m n≤_ from Nat.le_trans (Nat.div_le_self _ _) h2)]; rfl
  | rem =>
    refine ar_good .rem as kd s _ _ has hs ?_
    intro m n h
    obtain ⟨h1,h2⟩:=andB_true h
    have h1:=ble h1; have h2:=ble h2
    have hn:¬ (n:Int)=0:=by omega
    simp only [Go.binOp,Op.intDiv,ne_eq,not_true_eq_false,if_false,Int.ofNat_eq_natCast,hn]
    rw [show ((m:Int).tmod n)=((Nat.mod m n:Nat):Int) from (show ((m:Int).tmod n)=((m % n:Nat):Int) by rw [Int.tmod_eq_emod_of_nonneg (by omega)]; simp)]; rfl
  | and =>
    refine ar_good .and as kd s _ _ has hs ?_
    intro m n h
    obtain ⟨h1,h2⟩:=andB_true h
    have h1:=ble h1; have h2:=ble h2
    have hk:=most_lt kd
    simp only [Go.binOp,Op.intBits,ne_eq,not_true_eq_false,if_false,Int.ofNat_eq_natCast,BitVec.toNat_and]
    rw [ofInt_nat _ m (by omega),ofInt_nat _ n (by omega),wrapIn _ _ (Nat.le_trans Nat.and_le_left h1)]; rfl
  | or =>
    refine ar_good .or as kd s _ _ has hs ?_
    intro m n h
    obtain ⟨h1,h2⟩:=andB_true h
    have h1:=ble h1; have h2:=ble h2
    have hk:=most_lt kd
    have hor:m ||| n≤most kd:=by
      have key:∀ w,most kd=2 ^ w - 1→m ||| n≤most kd:=by
        intro w hw
        have hp:0 < 2 ^ w:=Nat.two_pow_pos w
        have:=Nat.or_lt_two_pow (x:=m) (y:=n) (n:=w) (by omega) (by omega)
        omega
      cases kd
      · exact key 7 rfl
      · exact key 15 rfl
      · exact key 31 rfl
      · exact key 63 rfl
      · exact key 8 rfl
      · exact key 16 rfl
      · exact key 32 rfl
      · exact key 64 rfl
    simp only [Go.binOp,Op.intBits,ne_eq,not_true_eq_false,if_false,Int.ofNat_eq_natCast,BitVec.toNat_or]
    rw [ofInt_nat _ m (by omega),ofInt_nat _ n (by omega),wrapIn _ _ hor]; rfl
  | eql =>
    refine cmp_good .eql as kd s _ has hs ?_
    intro m n
    have:((m:Int) == (n:Int))=Nat.beq m n:=by rw [Bool.eq_iff_iff]; simp [Nat.beq_eq]; omega
    simp only [Go.binOp,Op.intCmp,ne_eq,not_true_eq_false,if_false,Int.ofNat_eq_natCast,this]; rfl
  | neq =>
    refine cmp_good .neq as kd s _ has hs ?_
    intro m n
    have:((m:Int) != (n:Int))=notB (Nat.beq m n):=by rw [notB_eq,Bool.eq_iff_iff]; simp [← Bool.not_eq_true,Nat.beq_eq]; omega
    simp only [Go.binOp,Op.intCmp,ne_eq,not_true_eq_false,if_false,Int.ofNat_eq_natCast,this]; rfl
  | lss =>
    refine cmp_good .lss as kd s _ has hs ?_
    intro m n
    have:decide ((m:Int) < (n:Int))=Nat.ble (Nat.succ m) n:=by rw [Bool.eq_iff_iff]; simp; omega
    simp only [Go.binOp,Op.intCmp,ne_eq,not_true_eq_false,if_false,Int.ofNat_eq_natCast,this]; rfl
  | leq =>
    refine cmp_good .leq as kd s _ has hs ?_
    intro m n
    have:decide ((m:Int)≤(n:Int))=Nat.ble m n:=by rw [Bool.eq_iff_iff]; simp
    simp only [Go.binOp,Op.intCmp,ne_eq,not_true_eq_false,if_false,Int.ofNat_eq_natCast,this]; rfl
  | gtr =>
    refine cmp_good .gtr as kd s _ has hs ?_
    intro m n
    have:decide ((m:Int) > (n:Int))=Nat.ble (Nat.succ n) m:=by rw [Bool.eq_iff_iff]; simp; omega
    simp only [Go.binOp,Op.intCmp,ne_eq,not_true_eq_false,if_false,Int.ofNat_eq_natCast,this]; rfl
  | geq =>
    refine cmp_good .geq as kd s _ has hs ?_
    intro m n
    have:decide ((m:Int) ≥ (n:Int))=Nat.ble n m:=by rw [Bool.eq_iff_iff]; simp
    simp only [Go.binOp,Op.intCmp,ne_eq,not_true_eq_false,if_false,Int.ofNat_eq_natCast,this]; rfl
  | xor=>exact hs
  | shl=>exact hs
  | shr=>exact hs
  | andNot=>exact hs
theorem shl_good (as:Value→NN) (kd:IntKind) (s:BC) (hb:63≤kd.bits)
    (has:∀ v n,as v=.s n→v=.int kd (.ofNat n)) (hs:Good E .shl ty cx cy s):Good E .shl ty cx cy (shlN as kd (most kd) s):=by
  intro x y k r h
  rcases nn2_some h with h | ⟨m,n,hm,hn,h⟩
  · exact hs _ _ _ _ h
  · rcases boolrec_some h with ⟨_,h⟩ | ⟨h1,h⟩
    · exact hs _ _ _ _ h
    · obtain ⟨ky,hy⟩:=asNat_s hn
      rw [has _ _ hm,hy]
      obtain ⟨h1,h2⟩:=andB_true h1
      have h1:=Nat.le_of_ble_eq_true h1; have h2:=Nat.le_of_ble_eq_true h2
      refine ⟨_,(bin_int ..).trans ?_,h⟩
      have hy0:¬ (n:Int) < 0:=by omega
      have hmin:min n kd.bits=n:=by omega
      simp only [Go.binOp,Op.shift,Int.ofNat_eq_natCast,hy0,if_false,Int.toNat_natCast,hmin]
      rw [show ((m:Int) * 2 ^ n)=((Nat.shiftLeft m n:Nat):Int) by
        have:Nat.shiftLeft m n=m * 2 ^ n:=Nat.shiftLeft_eq m n
        rw [this]; simp,wrapIn _ _ h2]; rfl
theorem shr_good (as:Value→NN) (kd:IntKind) (s:BC) (hb:63≤kd.bits)
    (has:∀ v n,as v=.s n→v=.int kd (.ofNat n)) (hs:Good E .shr ty cx cy s):Good E .shr ty cx cy (shrN as kd s):=by
  intro x y k r h
  rcases nn2_some h with h | ⟨m,n,hm,hn,h⟩
  · exact hs _ _ _ _ h
  · rcases boolrec_some h with ⟨_,h⟩ | ⟨h1,h⟩
    · exact hs _ _ _ _ h
    · obtain ⟨ky,hy⟩:=asNat_s hn
      rw [has _ _ hm,hy]
      have h1:=Nat.le_of_ble_eq_true h1
      refine ⟨_,(bin_int ..).trans ?_,h⟩
      have hy0:¬ (n:Int) < 0:=by omega
      have hmin:min n kd.bits=n:=by omega
      simp only [Go.binOp,Op.shift,Int.ofNat_eq_natCast,hy0,if_false,Int.toNat_natCast,hmin]
      rw [show ((m:Int).fdiv (2 ^ n))=((Nat.shiftRight m n:Nat):Int) by
        have e:Nat.shiftRight m n=m / 2 ^ n:=Nat.shiftRight_eq_div_pow m n
        rw [e,Int.fdiv_eq_ediv_of_nonneg _ (Int.pow_nonneg (by omega))]; simp]; rfl
theorem binC_good (op:BinOp):Good E op ty cx cy (binC E op ty cx cy):=by
  have hs:=slow_good E op ty cx cy
  unfold binC
  split
  · cases op with
    | shl=>exact shl_good asI64 .i64 _ (by decide) (λ _ _=>asI64_s) hs
    | shr=>exact shr_good asI64 .i64 _ (by decide) (λ _ _=>asI64_s) hs
    | _=>exact opN_good _ asI64 .i64 _ (λ _ _=>asI64_s) hs
  · cases op with
    | shl=>exact shl_good asU64 .u64 _ (by decide) (λ _ _=>asU64_s) hs
    | shr=>exact shr_good asU64 .u64 _ (by decide) (λ _ _=>asU64_s) hs
    | _=>exact opN_good _ asU64 .u64 _ (λ _ _=>asU64_s) hs
  · cases op with
    | shl=>exact hs
    | shr=>exact hs
    | _=>exact opN_good _ asU8 .u8 _ (λ _ _=>asU8_s) hs
  · exact hs
end F
end Go.Ev
