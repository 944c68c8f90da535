/-
  EVALUATOR, PART 14: all operations that leave memory alone.
-/
import Derived.Test.YtglmdggjibmjcaaGreatDoorJ0
import Derived.Calls
import Derived.Orders
import Derived.Laws.Sem
import Derived.Laws.World
import Derived.Laws.Rows
import Derived.Laws.Cells
import Derived.Laws.Strings
import Derived.Laws.Entries
import Derived.Laws.StructEq
import Derived.Laws.Concat
import Derived.Laws.Slices
import Derived.Laws.BytesString
noncomputable section
set_option linter.all false
open Nat (ble beq)
namespace Go.Ev
open Go
section
inductive T (α:Type) where
 | c (v:α)
 | n (l:T α) (v:α) (r:T α)
namespace T
variable {α : Type}
def get:T α->Nat->α
 |.c v,_=>v
 |.n l v r,i=>match i with
  | 0=>v
  | j+1=>bif beq (j%2) 0 then l.get (j / 2) else r.get (j / 2)
def ins:Nat->T α->Nat->α->T α
 | 0,t,_,_=>t
 | f+1,.c v,i,x=>match i with
  | 0=>.n (.c v) x (.c v)
  | j+1=>bif beq (j%2) 0 then .n (ins f (.c v) (j / 2) x) v (.c v) else .n (.c v) v (ins f (.c v) (j / 2) x)
 | f+1,.n l v r,i,x=>match i with
  | 0=>.n l x r
  | j+1=>bif beq (j%2) 0 then .n (ins f l (j / 2) x) v r else .n l v (ins f r (j / 2) x)
def cons (x:α):T α->T α
 |.c v=>.n (.c v) x (.c v)
 |.n l v r=>.n (cons v r) x l
def ofList (d:α):List α->T α
 | []=>.c d
 | x :: l=>cons x (ofList d l)
end T
def deep:Nat:=40
inductive AO where
 | dead
 | row (elem:TypeId) (n:Nat) (isOpen ro:Bool) (fz:Nat) (cells:T Value)
 | map (es:List (Value × Value)) (clock:Nat)
 | iter (s:List UInt8) (pos:Nat)
structure H where
 next:Nat
 objs:T AO
abbrev TM:=T Value
def H.set (h:H) (id:Nat) (o:AO):H:={ h with objs:=T.ins deep h.objs id o }
def H.push (h:H) (o:AO):H:={ next:=h.next+1,objs:=T.ins deep h.objs h.next o }
inductive PS where
 | ex (i:Nat)
 | al (i k:Nat)
 | re (i:Nat)
 | hv (i:Nat)
structure lH where
 keep:Nat
 steps:List PS
 before:List Nat
structure Env where
 types:T (Option TypeInfo)
 funs:T (Option Func)
 plans:FuncId->Nat->Option lH
 eqs:TypeId->Bool
 ext:FuncId->Option (List Value->H->Option (Value × H))
inductive Out where
 | norm (t:TM) (h:H)
 | exit (id:Nat) (t:TM) (h:H)
 | ret (t:TM) (h:H)
 | fail
def unk:Value:=.chan none
def tH:Value->Bool
 |.bool _ | .int _ _ | .string _ | .pointer none | .map none | .nilFunc | .nilIface | .slice none 0 0=>true
 | _=>false
def plain:Value->Bool
 |.agg cs=>cs.toList.all tH
 | v=>tH v
def ev (t:TM):Operand->Value
 |.tmp i=>t.get i
 |.const v=>bif plain v then v else unk
 |.global g=>bif ble 16 g then unk else .pointer (some ⟨g,0,none⟩)
 |.func f=>.func (.func f) #[] #[]
def ptr (id off:Nat):Value:=.pointer (some ⟨id,off,none⟩)
namespace Env
variable (E : Env)
def info (t:TypeId):Option TypeInfo:=E.types.get t
def und (t:TypeId):Option TypeDesc:=
 match E.info t with
 | some i=>(match i.desc with
  |.named _ u=>(match E.info u with | some j=>some j.desc | none=>none)
  | d=>some d)
 | none=>none
def size (t:TypeId):Option Nat:=match E.info t with | some i=>some i.size | none=>none
end Env
def dZ {α:Type}:Sem α->Option α
 |.pure a=>some a
 | _=>none
def iY:TypeDesc->Bool
 |.struct _ | .array _ _=>true
 | _=>false
def bq (c:T Value) (off:Nat):Nat->List Value
 | 0=>[]
 | n+1=>c.get off :: bq c (off+1) n
def bD (E:Env) (h:H) (t:TypeId) (a:Addr):Option Value:=
 match E.und t,E.size t,h.objs.get a.block with
 | some d,some s,.row _ n _ _ _ c=>
  bif iY d then (bif ble (a.off+s) n then some (.agg ⟨bq c a.off s⟩) else none)
  else (bif Nat.blt a.off n then some (c.get a.off) else none)
 | _,_,_=>none
def cell1:Value->Bool
 |.agg _ | .tuple _ | .chan _=>false
 | _=>true
def putCells (c:T Value) (off:Nat):List Value->T Value
 | []=>c
 | v :: l=>putCells (c.ins deep off v) (off+1) l
def cellsOfV:Value->List Value
 |.agg ⟨l⟩=>l
 | v=>[v]
def ci (h:H) (a:Addr) (l:List Value):Option H:=
 match h.objs.get a.block with
 |.row e n op false fz c=>
  bif ble fz a.off&&ble (a.off+l.length) n&&ble n 1000000000&&l.all cell1 then some (h.set a.block (.row e n op false fz (putCells c a.off l))) else none
 | _=>none
def nS (E:Env) (h:H) (t:TypeId) (a:Addr) (v:Value):Option H:=
 match E.size t with
 | some s=>let l:=cellsOfV v;bif beq l.length s then ci h a l else none
 | none=>none
def jH:List UInt8->List UInt8->Bool
 | [],[]=>true
 | a :: x,b :: y=>bif a==b then jH x y else false
 | _,_=>false
def nZ (d:TypeDesc) (a b:Value):Option Bool:=
 match d,a,b with
 |.int _,.int k a,.int k' b=>if k=k' then some (a==b) else none
 |.bool,.bool a,.bool b=>some (a==b)
 |.string,.string ⟨⟨a⟩⟩,.string ⟨⟨b⟩⟩=>some (jH a b)
 | _,_,_=>none
def uc (E:Env):List Field->Nat->List Value->List Value->Option Bool
 | [],_,[],[]=>some true
 | f :: fs,i,a :: x,b :: y=>
  bif f.name != "_"&&beq f.offset i then
   (match E.und f.type with
   | some d=>(match nZ d a b with
    | some true=>uc E fs (i+1) x y
    | some false=>some false
    | none=>none)
   | none=>none)
  else none
 | _,_,_,_=>none
def F2 (E:Env) (t:TypeId) (cx cy:Bool) (x y:Value):Option Bool:=
 match E.und t,x,y with
 | some .bool,.bool a,.bool b=>some (a==b)
 | some (.pointer _),.pointer none,.pointer b=>some b.isNone
 | some (.pointer _),.pointer (some _),.pointer none=>some false
 | some (.pointer e),.pointer (some a),.pointer (some b)=>(match E.size e with | some (_+1)=>bif beq a.block b.block then some (beq a.off b.off) else none | _=>none)
 | some (.slice _),.slice none _ _,.slice b _ _=>some b.isNone
 | some (.slice _),.slice (some _) _ _,.slice none _ _=>some false
 | some (.interface _),.nilIface,.nilIface=>bif cx||cy then some true else none
 | some (.interface _),.nilIface,.iface _ _=>some false
 | some (.interface _),.iface _ _,.nilIface=>some false
 | some (.struct fs),.agg ⟨xs⟩,.agg ⟨ys⟩=>bif E.eqs t then uc E fs.toList 0 xs ys else none
 | _,_,_=>none
def bi:Operand->Bool
 |.const _=>true
 | _=>false
def ij (E:Env) (op:BinOp) (t:TypeId) (cx cy:Bool) (x y:Value):Option Value:=
 match x,y with
 |.int _ _,.int _ _=>dZ (binOp op t x y)
 |.string ⟨⟨a⟩⟩,.string ⟨⟨b⟩⟩=>match op with
  |.add=>bif ble (a.length+b.length) 1000000000 then some (.string ⟨⟨a++b⟩⟩) else none
  |.eql=>some (.bool (jH a b))
  |.neq=>some (.bool (!jH a b))
  | _=>none
 | _,_=>match op with
  |.eql=>(match F2 E t cx cy x y with | some b=>some (.bool b) | none=>none)
  |.neq=>(match F2 E t cx cy x y with | some b=>some (.bool (!b)) | none=>none)
  | _=>none
def bound (x:Option Value) (d:Nat) (fo:Nat):Option Nat:=
 match x with
 | none=>some d
 | some (.int _ (.ofNat i))=>bif ble i fo then some i else none
 | _=>none
def gO (mx:Option Value) (c:Nat):Nat:=match mx with | some _=>0 | none=>c%2
def gar:Option Addr->Bool
 | some ad=>ad.spot.isSome
 | none=>false
def dm (E:Env) (t:TypeId) (x:Value) (lo hi mx:Option Value):Option Value:=
 match E.und t,x with
 | some .string,.string ⟨⟨s⟩⟩=>
  match mx with
  | some _=>none
  | none=>match bound hi s.length s.length with
   | some h=>(match bound lo 0 h with
    | some l=>some (.string ⟨⟨(s.drop l).take (h-l)⟩⟩)
    | none=>none)
   | none=>none
 | some (.slice e),.slice a len c=>
  bif gar a then none else
  match E.size e,bound mx (c / 2) (c / 2) with
  | some sz,some m=>(match bound hi len m with
   | some h=>bif ble h m&&(mx.isNone||hi.isSome) then (match bound lo 0 h with
    | some l=>
     let op:=gO mx c
     bif beq m l&&(!beq op 0) && !beq l 0 then some unk else
     match a with
     | none=>some (.slice none (h-l) (2*(m-l)+op))
     | some ad=>some (.slice (some (bif beq m l then ad else bif beq (l*sz) 0 then ad else ⟨ad.block,ad.off+l*sz,none⟩)) (h-l) (2*(m-l)+op))
    | none=>none) else none
   | none=>none)
  | _,_=>none
 | some (.array n e),.pointer (some ad)=>
  match mx,E.size e with
  | none,some sz=>(match bound hi n n with
   | some h=>(match bound lo 0 h with
    | some l=>some (.slice (some (bif beq n l then ad else bif beq (l*sz) 0 then ad else ⟨ad.block,ad.off+l*sz,none⟩)) (h-l) (2*(n-l)))
    | none=>none)
   | none=>none)
  | _,_=>none
 | _,_=>none
def ka (ad:Addr) (n:Nat):Addr:=bif beq n 0 then ad else ⟨ad.block,ad.off+n,none⟩
def gI (E:Env) (t:TypeId) (x i:Value):Option Value:=
 match i with
 |.int _ (.ofNat k)=>match E.und t,x with
  | some (.array n e),.pointer (some ad)=>bif Nat.blt k n then (match E.size e with | some s=>some (.pointer (some (ka ad (k*s)))) | none=>none) else none
  | some (.slice e),.slice (some ad) len _=>bif Nat.blt k len then (match E.size e with | some s=>some (.pointer (some (ka ad (k*s)))) | none=>none) else none
  | _,_=>none
 | _=>none
def CJ (E:Env) (t:TypeId) (cs:List Value) (off:Nat):Option Value:=
 match E.und t,E.size t with
 | some d,some s=>bif iY d then (bif ble (off+s) cs.length then some (.agg ⟨(cs.drop off).take s⟩) else none) else cs[off]?
 | _,_=>none
def dA (E:Env) (t:TypeId) (x i:Value):Option Value:=
 match i with
 |.int _ (.ofNat k)=>match E.und t,x with
  | some (.array n e),.agg ⟨cs⟩=>bif Nat.blt k n then (match E.size e with | some s=>CJ E e cs (k*s) | none=>none) else none
  | some .string,.string ⟨⟨s⟩⟩=>(match s[k]? with | some b=>some (.int .u8 b.toNat) | none=>none)
  | _,_=>none
 | _=>none
def gy (E:Env) (s:TypeId) (x:Value) (f:Nat):Option Value:=
 match E.und s,x with
 | some (.struct fs),.pointer (some ad)=>(match fs[f]? with
  | some fd=>(match E.size fd.type with | some (_+1)=>some (.pointer (some (ka ad fd.offset))) | _=>none)
  | none=>none)
 | _,_=>none
def tu (E:Env) (s:TypeId) (x:Value) (f:Nat):Option Value:=
 match E.und s,x with
 | some (.struct fs),.agg ⟨cs⟩=>(match fs[f]? with | some fd=>CJ E fd.type cs fd.offset | none=>none)
 | _,_=>none
def cK (E:Env) (t:TypeId):Option (List Value):=
 match E.info t with
 | some i=>(match i.zero with | some z=>some (cellsOfV z) | none=>none)
 | none=>none
def lay (cs:List Value) (off:Nat) (v:List Value):List Value:=cs.take off++v++cs.drop (off+v.length)
def dx (place:Nat->Option (Nat × Nat)) (cs:List Value):List (Nat × Value)->Option (List Value)
 | []=>some cs
 | (i,v) :: rest=>match place i with
  | none=>none
  | some (off,size)=>
   let l:=cellsOfV v
   bif beq l.length size&&ble (off+l.length) cs.length&&l.all cell1 then dx place (lay cs off l) rest else none
def j3 (E:Env):List Field->Option (List (Nat × Nat))
 | []=>some []
 | f :: fs=>(match E.size f.type with
  | some s=>(match j3 E fs with | some l=>some ((f.offset,s) :: l) | none=>none)
  | none=>none)
def cI (E:Env) (t:TypeId) (parts:List (Nat × Value)):Option Value:=
 match E.und t,cK E t with
 | some (.struct fs),some z=>(match j3 E fs.toList with
  | some pl=>(match dx (λi=>pl[i]?) z parts with | some cs=>some (.agg ⟨cs⟩) | none=>none)
  | none=>none)
 | some (.array _ e),some z=>(match E.size e with
  | some s=>(match dx (λi=>some (i*s,s)) z parts with | some cs=>some (.agg ⟨cs⟩) | none=>none)
  | none=>none)
 | _,_=>none
def bytesOf:List Value->Option (List UInt8)
 | []=>some []
 |.int .u8 n :: l=>(match bytesOf l with | some r=>some (UInt8.ofNat n.toNat :: r) | none=>none)
 | _=>none
def aY (E:Env) (h:H) (s d:TypeId) (x:Value):Option Value:=
 match E.und s,E.und d,x with
 | some (.int _),some (.int k),.int _ n=>some (.int k (k.wrap n))
 | some .string,some .string,.string b=>some (.string b)
 | some (.int _),some .string,.int k n=>some (.string (Utf8.encode n))
 | some (.slice e),some .string,.slice a len _=>
  (match E.und e with
  | some (.int .u8)=>(match a with
   | none=>some (.string ⟨⟨[]⟩⟩)
   | some ad=>bif ad.spot.isSome then none else (match h.objs.get ad.block with
    |.row _ n _ _ _ c=>bif ble (ad.off+len) n then (match bytesOf (bq c ad.off len) with | some l=>some (.string ⟨⟨l⟩⟩) | none=>none) else none
    | _=>none))
  | _=>none)
 | some (.pointer t),some .unsafePointer,.pointer (some ad)=>
  (match h.objs.get ad.block,E.size t with
  |.row _ n _ _ _ _,some (_+1)=>bif Nat.blt ad.off n then some x else none
  | _,_=>none)
 | some .unsafePointer,some (.pointer u),.pointer (some ad)=>
  (match h.objs.get ad.block,E.size u with
  |.row e n _ _ _ _,some (k+1)=>bif beq e u&&beq ad.off 0&&ble (k+1) n then some x else none
  | _,_=>none)
 | _,_,_=>none
def jE (d:TypeDesc) (k:Value):List (Value × Value)->Option (Option Value)
 | []=>some none
 | (a,v) :: l=>match nZ d k a with
  | some true=>some (some v)
  | some false=>jE d k l
  | none=>none
def ml (d:TypeDesc) (k:Value):Bool:=
 match d,k with
 |.int _,.int _ _ | .string,.string _=>true
 | _,_=>false
def zeroV (E:Env) (t:TypeId):Option Value:=match E.info t with | some i=>i.zero | none=>none
def jJ (E:Env) (h:H) (t:TypeId) (x i:Value) (ok:Bool):Option Value:=
 match E.und t with
 | some (.map k e)=>(match E.und k with
  | some d=>bif ml d i then
   (match x with
   |.map (some r)=>(match h.objs.get r with
    |.map es _=>(match jE d i es with
     | some (some v)=>some (bif ok then .tuple #[v,.bool true] else v)
     | some none=>(match zeroV E e with | some z=>some (bif ok then .tuple #[z,.bool false] else z) | none=>none)
     | none=>none)
    | _=>none)
   | _=>none) else none
  | none=>none)
 | _=>none
def aX (E:Env) (h:H) (t:TypeId) (x:Value):Option Value:=
 match E.und t,x with
 | some .string,.string ⟨⟨s⟩⟩=>some (.int .i64 s.length)
 | some (.slice _),.slice _ n _=>some (.int .i64 n)
 | some (.map _ _),.map none=>some (.int .i64 0)
 | some (.map _ _),.map (some r)=>(match h.objs.get r with | .map es _=>some (.int .i64 es.length) | _=>none)
 | _,_=>none
def akZ (E:Env) (t:TypeId) (x:Value):Option Value:=
 match E.und t,x with
 | some (.slice _),.slice _ _ n=>bif beq (n%2) 0 then some (.int .i64 (n / 2:Nat)) else none
 | _,_=>none
def mT:Value->Bool
 |.bool _ | .int _ _ | .string _ | .pointer _ | .slice _ _ _ | .map _ | .nilFunc | .nilIface=>true
 | _=>false
def qP (x:Value):List Value->Option Value
 | []=>some x
 | y :: l=>match x,y with
  |.int k a,.int _ b=>qP (.int k (if b<a then b else a)) l
  | _,_=>none
def nL (x:Value):List Value->Option Value
 | []=>some x
 | y :: l=>match x,y with
  |.int k a,.int _ b=>nL (.int k (if b > a then b else a)) l
  | _,_=>none
def bF (E:Env) (h:H) (b:Builtin) (args:List Value) (tys:List TypeId):Option Value:=
 match b,args,tys with
 |.len,[x],ty :: _=>aX E h ty x
 |.cap,[x],ty :: _=>akZ E ty x
 |.min,x :: l,_=>qP x l
 |.max,x :: l,_=>nL x l
 |.unsafeSliceData,[.slice none _ _],_=>some (.pointer none)
 |.unsafeSliceData,[.slice (some ad) _ n],_=>bif Nat.blt 1 n then some (.pointer (some ad)) else none
 | _,_,_=>none
def light (E:Env) (t:TM) (h:H) (o:Oper):Option Value:=
 match o.op with
 |.move x | .assign x=>some (ev t x)
 |.pick c a b=>(match ev t c with | .bool true=>some (ev t a) | .bool false=>some (ev t b) | _=>none)
 |.load ty a=>(match ev t a with | .pointer (some ad)=>bD E h ty ad | _=>none)
 |.nilCheck x=>(match ev t x with | .pointer (some ad)=>some (.pointer (some ad)) | .func (.func f) a b=>some (.func (.func f) a b) | _=>none)
 |.binOp op ty x y _=>ij E op ty (bi x) (bi y) (ev t x) (ev t y)
 |.unOp op _ x=>(match ev t x with | .int k n=>dZ (Op.unary op (.int k n)) | .bool b=>dZ (Op.unary op (.bool b)) | _=>none)
 |.convert s d x=>aY E h s d (ev t x)
 |.build ty parts=>cI E ty (parts.toList.map λp=>(p.1,ev t p.2))
 |.fieldAddr s x f=>gy E s (ev t x) f
 |.field s x f=>tu E s (ev t x) f
 |.indexAddr ty x i=>gI E ty (ev t x) (ev t i)
 |.index ty x i=>dA E ty (ev t x) (ev t i)
 |.slice ty x lo hi mx=>dm E ty (ev t x) (lo.map (ev t)) (hi.map (ev t)) (mx.map (ev t))
 |.extract x i=>(match ev t x with | .tuple ⟨l⟩=>l[i]? | _=>none)
 |.makeInterface ty x=>(match E.und ty with | some (.interface _)=>none | some _=>bif mT (ev t x) then some (.iface ty (ev t x)) else none | none=>none)
 |.makeFunc (.func f) first caps=>bif (first.toList.map (ev t)).all mT&&(caps.toList.map (ev t)).all mT then some (.func (.func f) ⟨first.toList.map (ev t)⟩ ⟨caps.toList.map (ev t)⟩) else none
 |.lookup ty x i ok=>jJ E h ty (ev t x) (ev t i) ok
 |.call c=>(match c.callee with
  |.builtin b=>bF E h b (c.args.toList.map (ev t)) c.argTypes.toList
  | _=>none)
 | _=>none
def gu:Value->Value->Bool
 |.int k a,.int k' b=>k==k'&&a==b
 |.bool a,.bool b=>a==b
 |.string ⟨⟨a⟩⟩,.string ⟨⟨b⟩⟩=>jH a b
 |.pointer none,.pointer none=>true
 |.pointer (some a),.pointer (some b)=>a==b
 |.slice none a b,.slice none a' b'=>beq a a'&&beq b b'
 |.slice (some x) a b,.slice (some y) a' b'=>x==y&&beq a a'&&beq b b'
 |.map a,.map b=>a==b
 |.nilFunc,.nilFunc=>true
 |.nilIface,.nilIface=>true
 | _,_=>false
def qv:List Value->List Value->Bool
 | [],[]=>true
 | a :: x,b :: y=>gu a b&&qv x y
 | _,_=>false
def iT:Value->Value->Bool
 |.agg ⟨a⟩,.agg ⟨b⟩=>qv a b
 | a,b=>gu a b
def am:Value->Value->Bool
 |.tuple ⟨[]⟩,.tuple ⟨[]⟩=>true
 |.func (.func f) ⟨a⟩ ⟨b⟩,.func (.func g) ⟨c⟩ ⟨d⟩=>beq f g&&qv a c&&qv b d
 |.iface t v,.iface u w=>beq t u&&gu v w
 | a,b=>iT a b
def dk (E:Env) (t:TM) (o:Oper):Option (AO × (Nat->Value)):=
 match o.op with
 |.alloc e=>(match cK E e,E.und e with
  | some [],_=>some (.row e 0 false false 0 (.c unk),λid=>ptr id 0)
  | some (x :: l),some (.array _ _)=>bif l.all (gu x) then some (.row e (l.length+1) false false 0 (.c x),λid=>ptr id 0) else some (.row e (l.length+1) false false 0 (.c unk),λid=>ptr id 0)
  | some (x :: l),some _=>some (.row e (l.length+1) false false 0 (T.ofList unk (x :: l)),λid=>ptr id 0)
  | _,_=>none)
 |.box e x=>(match cellsOfV (ev t x) with
  | l=>bif l.all cell1 then some (.row e l.length false false 0 (T.ofList unk l),λid=>ptr id 0) else none)
 |.buildSlice ty len parts=>(match E.und ty with
  | some (.slice e)=>(match E.size e,cK E e with
   | some s,some z=>bif ble (len*s) 100000&&beq z.length s then
     (match dx (λi=>some (i*s,s)) (List.replicate len z).flatten (parts.toList.map λp=>(p.1,ev t p.2)) with
     | some cs=>some (.row e (len*s) false false 0 (T.ofList unk cs),λid=>.slice (some ⟨id,0,none⟩) len (2*len))
     | none=>none) else none
   | _,_=>none)
  | _=>none)
 |.makeSlice ty l c=>(match E.und ty,ev t l,ev t c with
  | some (.slice e),.int _ (.ofNat n),.int _ (.ofNat m)=>(match E.info e,cK E e with
   | some i,some z=>bif ble n m&&ble m 100000000&&ble (i.bytes*m) 1000000000&&beq z.length i.size then
     (match z with
     | [x]=>some (.row e m false false 0 (.c x),λid=>.slice (some ⟨id,0,none⟩) n (2*m))
     | z=>bif ble m 10000 then some (.row e (m*i.size) false false 0 (T.ofList unk (List.replicate m z).flatten),λid=>.slice (some ⟨id,0,none⟩) n (2*m)) else none) else none
   | _,_=>none)
  | _,_,_=>none)
 |.makeMap _ none=>some (.map [] 0,λid=>.map (some id))
 |.makeMap ty (some r)=>(match E.und ty,ev t r with
  | some (.map _ _),.int _ _=>some (.map [] 0,λid=>.map (some id))
  | _,_=>none)
 |.range ty x=>(match E.und ty,ev t x with
  | some .string,.string ⟨⟨l⟩⟩=>some (.iter l 0,λid=>ptr id 0)
  | _,_=>none)
 | _=>none
def ja:Value->Nat
 |.slice _ n _=>n
 |.string ⟨⟨l⟩⟩=>l.length
 | _=>0
def lE (h:H) (s n:Nat):Value->Option (List Value)
 |.slice (some ad) _ _=>(match ad.spot,h.objs.get ad.block with
  | none,.row _ m _ _ _ c=>bif ble (ad.off+n*s) m then some (bq c ad.off (n*s)) else bif beq n 0 then some [] else none
  | _,_=>bif beq n 0 then some [] else none)
 |.slice none _ _=>bif beq n 0 then some [] else none
 |.string ⟨⟨l⟩⟩=>bif beq s 1&&ble n l.length then some ((l.take n).map λb=>.int .u8 b.toNat) else none
 | _=>none
def room (h:H):Bool:=ble h.next 1000000000
def jl (h:H) (s:Nat) (z:List Value) (zeros:Bool) (y:Value):Option (Nat × List Value):=
 bif zeros then (match y with | .int _ (.ofNat k)=>bif ble k 100000 then some (k,(List.replicate k z).flatten) else none | _=>none)
 else (match lE h s (ja y) y with | some l=>some (ja y,l) | none=>none)
def eT (E:Env) (h:H) (t:TypeId) (zeros:Bool) (x y:Value):Option (Value × H):=
 match E.und t,x with
 | some (.slice e),.slice a len c=>
  (match E.info e,cK E e with
  | some i,some z=>(match i.size,jl h i.size z zeros y with
   | s+1,some (m,news)=>
    let s:=s+1
    let need:=len+m
    bif ble (need*(i.bytes+1)) 1000000000&&ble (need*s) 1000000000&&beq z.length s then
    (bif ble need (c / 2) then
     (match a with
     | none=>bif beq m 0 then some (.slice none need c,h) else none
     | some ad=>bif ad.spot.isSome then none else (match ci h ⟨ad.block,ad.off+len*s,none⟩ news with
      | some h=>some (.slice (some ad) need c,h)
      | none=>none))
    else bif room h then (match a with
     | none=>bif beq len 0 then some (.slice (some ⟨h.next,0,none⟩) need (2*need+1),h.push (.row e (need*s) true false 0 (T.ofList unk news))) else none
     | some ad=>bif ad.spot.isSome then none else (match h.objs.get ad.block with
      |.row e' n op ro fz cs=>
       bif beq (c%2) 0 then
        (bif ble (ad.off+len*s) n then some (.slice (some ⟨h.next,0,none⟩) need (2*need+1),h.push (.row e (need*s) true false 0 (T.ofList unk (bq cs ad.off (len*s)++news)))) else none)
       else
        (bif op&&beq e e' && !ro&&beq ad.off 0&&beq (c / 2) len&&beq (len*s) n&&ble fz n&&news.all cell1 then
         some (.slice (some ⟨h.next,0,none⟩) need (2*need+1),(h.set ad.block .dead).push (.row e (need*s) true false fz (putCells cs n news)))
        else none)
      | _=>none)) else none) else none
   | _,_=>none)
  | _,_=>none)
 | _,_=>none
def copyV (E:Env) (h:H) (t:TypeId) (x y:Value):Option (Value × H):=
 match E.und t,x with
 | some (.slice e),.slice a n _=>(match E.size e with
  | some s=>
   let k:=bif ble (ja y) n then ja y else n
   (match lE h s k y with
   | none=>none
   | some cs=>(match a with
    | none=>some (.int .i64 k,h)
    | some ad=>bif ad.spot.isSome then none else (match ci h ad cs with | some h=>some (.int .i64 k,h) | none=>none)))
  | none=>none)
 | _,_=>none
def isTuple:Value->Bool
 |.tuple _=>true
 | _=>false
def lX (d:TypeDesc) (k v:Value):List (Value × Value)->Option (Option (List (Value × Value)))
 | []=>some none
 | (a,w) :: l=>match nZ d k a with
  | some true=>some (some ((k,v) :: l))
  | some false=>(match lX d k v l with
   | some (some r)=>some (some ((a,w) :: r))
   | some none=>some none
   | none=>none)
  | none=>none
def iK (E:Env) (h:H) (t:TypeId) (m k v:Value):Option H:=
 match E.und t,m with
 | some (.map kt _),.map (some r)=>(match E.und kt with
  | some d=>bif ml d k && !isTuple v then
   (match h.objs.get r with
   |.map es clock=>(match lX d k v es with
    | some (some es)=>some (h.set r (.map es clock))
    | some none=>some (h.set r (.map (es ++ [(k,v)]) (clock+1)))
    | none=>none)
   | _=>none) else none
  | none=>none)
 | _,_=>none
def cT:List Value->Option (List UInt8)
 | []=>some []
 |.int .u8 (.ofNat n) :: l=>bif Nat.blt n 256 then (match cT l with | some r=>some (UInt8.ofNat n :: r) | none=>none) else none
 | _=>none
def io (E:Env):List TypeId->Option Bool
 | u :: _=>(match E.und u with | some (.int _)=>some true | some (.slice _)=>some false | some .string=>some false | _=>none)
 | []=>some false
def ba (E:Env) (h:H) (b:Builtin) (args:List Value) (tys:List TypeId):Option (Value × H):=
 match b,args,tys with
 |.append,[x,y],ty :: tys=>(match io E tys with | some zeros=>eT E h ty zeros x y | none=>none)
 |.copy,[x,y],ty :: _=>copyV E h ty x y
 |.clear,[x],ty :: _=>(match E.und ty,x with
  | some (.slice e),.slice a n _=>(match a,n with
   | none,_=>some (.tuple #[],h)
   | some _,0=>some (.tuple #[],h)
   | some ad,n+1=>(match cK E e with
    | some z=>(match ci h ad (List.replicate (n+1) z).flatten with | some h=>some (.tuple #[],h) | none=>none)
    | none=>none))
  | _,_=>none)
 |.unsafeString,[x,y],[ty,_]=>(match E.und ty,x,y with
  | some (.pointer e),.pointer p,.int .i64 (.ofNat n)=>(match p,n with
   | _,0=>some (.string ⟨⟨[]⟩⟩,h)
   | some ad,n+1=>(match h.objs.get ad.block,E.size e with
    |.row e' m op false fz c,some 1=>
     bif beq e e'&&beq ad.off 0&&ble (n+1) m&&ble n 1000000000 then
      (match cT (bq c 0 (n+1)) with
      | some l=>some (.string ⟨⟨l⟩⟩,h.set ad.block (.row e' m op false (bif ble fz (n+1) then n+1 else fz) c))
      | none=>none)
     else none
    | _,_=>none)
   | none,_=>none)
  | _,_,_=>none)
 | _,_,_=>none
def iR (h:H) (x:Value):Option (Value × H):=
 match x with
 |.pointer (some ad)=>(match h.objs.get ad.block with
  |.iter s pos=>bif beq ad.off 0 then (match s.drop pos with
   | []=>some (.tuple ⟨[.bool false]⟩,h)
   | b :: _=>bif Nat.blt b.toNat 128 then some (.tuple ⟨[.bool true,.int .i64 (.ofNat pos),.int .i32 (.ofNat b.toNat)]⟩,h.set ad.block (.iter s (pos+1))) else some (.tuple ⟨[.bool true,.int .i64 (.ofNat pos),.int .i32 (.ofNat (Utf8.decode ⟨⟨s⟩⟩ pos).1)]⟩,h.set ad.block (.iter s (pos+(Utf8.decode ⟨⟨s⟩⟩ pos).2)))) else none
  | _=>none)
 | _=>none
def tG (E:Env) (h:H) (s d:TypeId) (x:Value):Option (Value × H):=
 match E.und s,E.und d,x with
 | some .string,some (.slice e),.string ⟨⟨l⟩⟩=>(match E.und e,E.info e with
  | some (.int .u8),some i=>bif beq i.size 1&&room h&&ble l.length 100000 then
    some (.slice (some ⟨h.next,0,none⟩) l.length (2*l.length+1),h.push (.row e l.length true true 0 (T.ofList unk (l.map λb=>.int .u8 (.ofNat b.toNat))))) else none
  | _,_=>none)
 | _,_,_=>none
def heavy (E:Env) (t:TM) (h:H) (o:Oper):Option (Value × H):=
 match o.op with
 |.store ty a x=>(match ev t a with
  |.pointer (some ad)=>(match nS E h ty ad (ev t x) with | some h=>some (undef,h) | none=>none)
  | _=>none)
 |.mapUpdate ty m k x=>(match iK E h ty (ev t m) (ev t k) (ev t x) with | some h=>some (undef,h) | none=>none)
 |.call c=>(match c.callee with
  |.builtin b=>ba E h b (c.args.toList.map (ev t)) c.argTypes.toList
  | _=>none)
 |.next it true=>iR h (ev t it)
 |.convert s d x=>tG E h s d (ev t x)
 | _=>none
def iv (args:List Value) (h:H):Option (Value × H):=match args with
 | [x]=>some (x,h)
 | _=>none
def gn (e:TypeId) (args:List Value) (h:H):Option (Value × H):=match args with
 | [.int .i64 (.ofNat n)]=>bif ble n 100000000&&room h then some (.slice (some ⟨h.next,0,none⟩) n (2*n+1),h.push (.row e n true false 0 (.c unk))) else none
 | _=>none
def ix (args:List Value) (h:H):Option (Value × H):=match args with
 | [.slice a la _,.slice b lb _]=>(match a,b with
  | some _,some _=>bif beq la 0||beq lb 0 then some (.bool false,h) else none
  | _,_=>some (.bool false,h))
 | _=>none
def sn (E:Env) (h:H) (t:TM):ResultVar->Option Value
 |.tmp i=>some (t.get i)
 |.cell a ty=>(match t.get a with | .pointer (some ad)=>bD E h ty ad | _=>none)
def fO (E:Env) (h:H) (t:TM):List ResultVar->Option (List Value)
 | []=>some []
 | r :: l=>match sn E h t r with
  | some v=>(match fO E h t l with | some vs=>some (v :: vs) | none=>none)
  | none=>none
def gQ:List Value->Option Value
 | [v]=>some v
 | l=>bif l.all λv=>!isTuple v then some (.tuple ⟨l⟩) else none
abbrev gq:=FuncId->Code->TM->H->Out
def kb (E:Env) (ex:gq) (f:FuncId) (args:List Value) (h:H):Option (Value × H):=
 match E.funs.get f with
 | none=>none
 | some fn=>match E.ext f with
  | some k=>k args h
  | none=>match fn.body with
  | none=>none
  | some c=>match ex f c (T.ofList undef args) h with
   |.norm t h | .ret t h=>(match fO E h t fn.results.toList with | some l=>(match gQ l with | some v=>some (v,h) | none=>none) | none=>none)
   | _=>none
def target (t:TM) (c:Call):Option (FuncId × List Value):=
 match c.callee with
 |.value f=>(match ev t f with
  |.func (.func f) first caps=>some (f,first.toList++c.args.toList.map (ev t)++caps.toList)
  | _=>none)
 | _=>none
def gk (o:Oper):Option Call:=
 match o.op with
 |.call c=>(match c.callee with | .value _=>some c | _=>none)
 | _=>none
def putV (t:TM) (dst:Option Tmp) (v:Value):TM:=
 match dst with
 | some d=>t.ins deep d v
 | none=>t
def bU (ops:Array Oper) (t:TM) (o:Oper):Option Bool:=
 match o.guard with
 | none=>some true
 | some (g,want)=>(match ops[g]? with
  | some og=>(match og.dst with
   | some d=>(match t.get d with | .bool b=>some (b==want) | .tuple ⟨[]⟩=>some false | _=>none)
   | none=>none)
  | none=>none)
def ie (E:Env) (ex:gq) (o:Oper) (t:TM) (h:H):Option (Value × H):=
 match gk o with
 | some c=>(match target t c with
  | some (f,args)=>kb E ex f args h
  | none=>none)
 | none=>match light E t h o with
  | some v=>some (v,h)
  | none=>match heavy E t h o with
   | some (v,h)=>some (v,h)
   | none=>match dk E t o with
    | some (ob,k)=>bif room h then some (k h.next,h.push ob) else none
    | none=>none
def Eo (E:Env) (ex:gq) (ops:Array Oper) (o:Oper) (t:TM) (h:H):Option (TM × H):=
 match bU ops t o with
 | none=>none
 | some false=>some (putV t o.dst undef,h)
 | some true=>match ie E ex o t h with
  | some (v,h)=>some (putV t o.dst v,h)
  | none=>none
def eN (E:Env) (ex:gq) (ops:Array Oper):List Oper->TM->H->Option (TM × H)
 | [],t,h=>some (t,h)
 | o :: l,t,h=>match Eo E ex ops o t h with
  | some (t,h)=>eN E ex ops l t h
  | none=>none
def en (E:Env) (ops:Array Oper) (o:Oper) (t:TM) (h:H):Option Value:=
 match bU ops t o with
 | some true=>light E t h o
 | some false=>some undef
 | none=>none
def eQ (E:Env) (ex:gq) (ops:Array Oper) (base:Nat):List PS->TM->H->Option (TM × H)
 | [],t,h=>some (t,h)
 |.ex i :: l,t,h=>(match ops[i]? with
  | some o=>(match en E ops o t h with
   | some v=>eQ E ex ops base l (putV t o.dst v) h
   | none=>none)
  | none=>none)
 |.hv i :: l,t,h=>(match ops[i]? with
  | some o=>(match Eo E ex ops o t h with
   | some (t,h)=>eQ E ex ops base l t h
   | none=>none)
  | none=>none)
 |.al i k :: l,t,h=>(match ops[i]? with
  | some o=>(match bU ops t o with
   | some true=>(match dk E t o with
    | some (ob,f)=>eQ E ex ops base l (putV t o.dst (f (base+k))) (h.set (base+k) ob)
    | none=>none)
   | some false=>eQ E ex ops base l (putV t o.dst undef) h
   | none=>none)
  | none=>none)
 |.re i :: l,t,h=>(match ops[i]? with
  | some o=>(match en E ops o t h,o.dst with
   | some v,some d=>bif am v (t.get d) then eQ E ex ops base l t h else none
   | some _,none=>eQ E ex ops base l t h
   | none,_=>none)
  | none=>none)
def dI (E:Env) (ex:gq) (fn:FuncId) (c:Code) (t:TM) (h:H):Out:=
 match c with
 |.skip | .label _=>.norm t h
 |.seq a b=>(match ex fn a t h with
  |.norm t h=>ex fn b t h
  | o=>o)
 |.cond x a b=>(match ev t x with
  |.bool true=>ex fn a t h
  |.bool false=>ex fn b t h
  | _=>.fail)
 |.block id b=>(match ex fn b t h with
  |.exit id' t h=>bif beq id' id then .norm t h else .exit id' t h
  | o=>o)
 |.loop b=>(match ex fn b t h with
  |.norm t h=>ex fn (.loop b) t h
  | o=>o)
 |.exit id=>.exit id t h
 |.scope b=>ex fn b t h
 |.ret=>.ret t h
 |.region id ops false=>(match eN E ex ops ops.toList t h with
  | some (t,h)=>.norm t h
  | none=>.fail)
 |.region id ops true=>(match E.plans fn id with
  | some p=>bif room h&&ble p.keep 1000 then (match eQ E ex ops h.next p.steps t { h with next:=h.next+p.keep } with
   | some (t,h)=>.norm t h
   | none=>.fail) else .fail
  | none=>.fail)
 | _=>.fail
def cZ (E:Env):Nat->gq
 | 0=>λfn _ _ _=>.fail
 | n+1=>dI E (cZ E n)
def eF (nt:Nat) (o:Oper):Bool:=
 match o.dst with
 | some d=>Nat.blt d nt
 | none=>true
end
section
namespace T
variable {α : Type}
def auU {n:Nat} (h:¬ n%2=0):beq (n%2) 0=false:=by
 have:n%2=1:=by omega
 rw[this];rfl
def get_n (l r:T α) (v:α) (i:Nat):(T.n l v r).get i=match i with | 0=>v | j+1=>if j%2=0 then l.get (j / 2) else r.get (j / 2):=by
 cases i with
 | zero=>rfl
 | succ j=>
  simp only[get];by_cases h:j%2=0
  ·simp[h]
  ·have:beq (j%2) 0=false:=auU h;simp[h,this]
def get_ins:∀(f:Nat) (t:T α) (i:Nat) (x:α) (k:Nat),i+1<2 ^ f->(ins f t i x).get k=if k=i then x else t.get k:=by
 intro f
 induction f with
 | zero=>intro t i x k h;simp at h
 | succ f ih=>
  intro t i x k h;have hp:(2:Nat) ^ (f+1)=2*2 ^ f:=by rw[Nat.pow_succ,Nat.mul_comm]
  have key:∀(l r:T α) (v:α),(ins (f+1) (.n l v r) i x).get k=if k=i then x else (T.n l v r).get k:=by
   intro l r v;cases i with
   | zero=>
    simp only[ins,get_n];cases k with
    | zero=>simp
    | succ k=>simp
   | succ j=>
    have hj:j / 2+1<2 ^ f:=by omega
    simp only[ins];by_cases hm:j%2=0
    ·have hb:beq (j%2) 0=true:=by rw[hm];rfl
     simp only[hb,Jo,get_n];cases k with
     | zero=>simp
     | succ k=>
      simp only[Nat.succ.injEq];by_cases hk:k%2=0
      ·simp only[hk,if_true];rw[ih _ _ _ _ hj];by_cases e:k=j
       ·subst e;simp
       ·have:¬ k / 2=j / 2:=by omega
        simp[e,this]
      ·have e:¬ k=j:=by intro e;subst e;exact hk hm
       simp[hk,e]
    ·have hb:beq (j%2) 0=false:=auU hm;simp only[hb,JP,get_n];cases k with
     | zero=>simp
     | succ k=>
      simp only[Nat.succ.injEq];by_cases hk:k%2=0
      ·have e:¬ k=j:=by intro e;subst e;exact hm hk
       simp[hk,e]
      ·simp only[hk,if_false];rw[ih _ _ _ _ hj];by_cases e:k=j
       ·subst e;simp
       ·have:¬ k / 2=j / 2:=by omega
        simp[e,this]
  cases t with
  | n l v r=>exact key l r v
  | c v=>
   have h2:ins (f+1) (.c v) i x=ins (f+1) (.n (.c v) v (.c v)) i x:=by
    cases i with
    | zero=>rfl
    | succ j=>rfl
   rw[h2,key (.c v) (.c v) v];by_cases e:k=i
   ·simp[e]
   ·simp only[e,if_false,get_n];cases k with
    | zero=>rfl
    | succ k=>simp[get]
def lL (x:α) (t:T α):(cons x t).get 0=x:=by cases t <;> rfl
def rL (x:α):∀(t:T α) (i:Nat),(cons x t).get (i+1)=t.get i:=by
 intro t
 induction t generalizing x with
 | c v=>intro i;simp only[cons,get_n];simp[get]
 | n l v r _ ihr=>
  intro i;simp only[cons,get_n];by_cases hi:i%2=0
  ·simp only[hi,if_true];cases i with
   | zero=>exact lL v r
   | succ j=>
    have hj:¬ j%2=0:=by omega
    have e:(j+1) / 2=j / 2+1:=by omega
    simp only[e,ihr,hj,if_false]
  ·simp only[hi,if_false];cases i with
   | zero=>simp at hi
   | succ j=>
    have hj:j%2=0:=by omega
    have e:(j+1) / 2=j / 2:=by omega
    simp only[e,hj,if_true]
def get_ofList (d:α):∀(l:List α) (i:Nat),(ofList d l).get i=l.getD i d:=by
 intro l
 induction l with
 | nil=>intro i;simp[ofList,get]
 | cons x l ih=>
  intro i;cases i with
  | zero=>simp[ofList,lL]
  | succ i=>simp[ofList,rL,ih]
end T
end
section
abbrev Ren:=Nat->Option (Nat × Nat)
def Ren.le (ρ ρ':Ren):Prop:=∀id p,ρ id=some p->ρ' id=some p
def Ren.le_refl (ρ:Ren):ρ.le ρ:=λ_ _ h=>h
def Ren.le_trans {ρ ρ' ρ'':Ren} (h:ρ.le ρ') (h':ρ'.le ρ''):ρ.le ρ'':=λid p e=>h' id p (h id p e)
def cU (ρ:Ren):Value->Option Value
 |.bool b=>some (.bool b)
 |.int k n=>some (.int k n)
 |.string s=>some (.string s)
 |.pointer none=>some (.pointer none)
 |.pointer (some a)=>(match a.spot,ρ a.block with
  | none,some p=>some (.pointer (some ⟨p.1,a.off,none⟩))
  | _,_=>none)
 |.slice none n c=>some (.slice none n (c / 2))
 |.slice (some a) n c=>(match a.spot,ρ a.block with
  | none,some p=>some (.slice (some ⟨p.1,a.off,none⟩) n (if c%2=0 then c / 2 else c / 2+p.2))
  | some _,_=>if n=0/\c=0 then some (.slice (some a) 0 0) else none
  | _,_=>none)
 |.map none=>some (.map none)
 |.map (some r)=>(match ρ r with | some p=>some (.map (some p.1)) | none=>none)
 |.nilFunc=>some .nilFunc
 |.nilIface=>some .nilIface
 | _=>none
def fH (ρ:Ren):List Value->Option (List Value)
 | []=>some []
 | v :: l=>(match cU ρ v,fH ρ l with
  | some a,some r=>some (a :: r)
  | _,_=>none)
def cW (ρ:Ren):Value->Option Value
 |.func (.func f) a b=>(match fH ρ a.toList,fH ρ b.toList with
  | some x,some y=>some (.func (.func f) ⟨x⟩ ⟨y⟩)
  | _,_=>none)
 |.iface t v=>(match cU ρ v with | some u=>some (.iface t u) | none=>none)
 | v=>cU ρ v
def bT (r:Value->Value->Prop):List Value->List Value->Prop
 | [],[]=>True
 | a :: l,b :: m=>r a b/\bT r l m
 | _,_=>False
def ga (ρ:Ren) (v v':Value):Prop:=v=unk \/ cW ρ v=some v'
def pY (ρ:Ren) (v v':Value):Prop:=ga ρ v v' \/ ∃l l',v=.agg ⟨l⟩/\v'=.agg ⟨l'⟩/\bT (ga ρ) l l'
def VR (ρ:Ren) (v v':Value):Prop:=pY ρ v v' \/ ∃l l',v=.tuple ⟨l⟩/\v'=.tuple ⟨l'⟩/\bT (pY ρ) l l'
def bT.mono {r s:Value->Value->Prop} (h:∀a b,r a b->s a b):∀{l m:List Value},bT r l m->bT s l m
 | [],[],_=>trivial
 | _ :: _,_ :: _,⟨h1,h2⟩=>⟨h _ _ h1,bT.mono h h2⟩
 | [],_ :: _,h=>h.elim
 | _ :: _,[],h=>h.elim
def bT.length {r:Value->Value->Prop}:∀{l m:List Value},bT r l m->l.length=m.length
 | [],[],_=>rfl
 | _ :: _,_ :: _,⟨_,h2⟩=>by simp[bT.length h2]
 | [],_ :: _,h=>h.elim
 | _ :: _,[],h=>h.elim
def bT.get {r:Value->Value->Prop}:∀{l m:List Value},bT r l m->∀(i:Nat) (v:Value),l[i]?=some v->∃v',m[i]?=some v'/\r v v'
 | [],[],_,i,v,h=>by simp at h
 | a :: _,b :: _,⟨h1,h2⟩,i,v,h=>by
  cases i with
  | zero=>simp at h;subst h;exact⟨b,by simp,h1⟩
  | succ i=>simp at h;obtain⟨v',e,hr⟩:=bT.get h2 i v h;exact⟨v',by simpa using e,hr⟩
 | [],_ :: _,h,_,_,_=>h.elim
 | _ :: _,[],h,_,_,_=>h.elim
def bT.append {r:Value->Value->Prop}:∀{l m l' m':List Value},bT r l m->bT r l' m'->bT r (l++l') (m++m')
 | [],[],_,_,_,h=>h
 | _ :: _,_ :: _,_,_,⟨h1,h2⟩,h=>⟨h1,bT.append h2 h⟩
 | [],_ :: _,_,_,h,_=>h.elim
 | _ :: _,[],_,_,h,_=>h.elim
def bT.of_get {r:Value->Value->Prop}:∀{l m:List Value},l.length=m.length->(∀(i:Nat) (v v':Value),l[i]?=some v->m[i]?=some v'->r v v')->bT r l m
 | [],[],_,_=>trivial
 | a :: l,b :: m,hl,h=>⟨h 0 a b (by simp) (by simp),bT.of_get (by simpa using hl) λi v v' e e'=>h (i+1) v v' (by simpa using e) (by simpa using e')⟩
 | [],_ :: _,hl,_=>by simp at hl
 | _ :: _,[],hl,_=>by simp at hl
def oa {ρ ρ':Ren} (h:ρ.le ρ') {v v':Value} (e:cU ρ v=some v'):cU ρ' v=some v':=by
 cases v with
 | pointer a=>
  cases a with
  | none=>exact e
  | some a=>
   simp only[cU] at e ⊢;cases hs:a.spot with
   | some _=>simp[hs] at e
   | none=>
    cases hp:ρ a.block with
    | none=>simp[hs,hp] at e
    | some p=>simp only[hs,hp] at e;simp only[h _ _ hp];exact e
 | slice a n c=>
  cases a with
  | none=>exact e
  | some a=>
   simp only[cU] at e ⊢;cases hs:a.spot with
   | some _=>rw[hs] at e;exact e
   | none=>
    cases hp:ρ a.block with
    | none=>simp[hs,hp] at e
    | some p=>simp only[hs,hp] at e;simp only[h _ _ hp];exact e
 | map r=>
  cases r with
  | none=>exact e
  | some r=>
   simp only[cU] at e ⊢;cases hp:ρ r with
   | none=>simp[hp] at e
   | some p=>simp only[hp] at e;simp only[h _ _ hp];exact e
 | _=>exact e
def mc {ρ ρ':Ren} (h:ρ.le ρ'):∀{l l':List Value},fH ρ l=some l'->fH ρ' l=some l'
 | [],_,e=>e
 | v :: l,l',e=>by
  simp only[fH] at e ⊢;cases h1:cU ρ v with
  | none=>simp[h1] at e
  | some a=>
   cases h2:fH ρ l with
   | none=>simp[h1,h2] at e
   | some r=>rw[oa h h1,mc h h2];rw[h1,h2] at e;exact e
def sU {ρ ρ':Ren} (h:ρ.le ρ') {v v':Value} (e:cW ρ v=some v'):cW ρ' v=some v':=by
 unfold cW at e ⊢;split at e
 ·rename_i f a b;cases h1:fH ρ a.toList with
  | none=>simp[h1] at e
  | some x=>
   cases h2:fH ρ b.toList with
   | none=>simp[h1,h2] at e
   | some y=>simp only[h1,h2] at e;simp only[mc h h1,mc h h2];exact e
 ·rename_i t v;cases h1:cU ρ v with
  | none=>simp[h1] at e
  | some x=>simp only[h1] at e;simp only[oa h h1];exact e
 ·exact oa h e
def ga.mono {ρ ρ':Ren} (h:ρ.le ρ') {v v':Value} (e:ga ρ v v'):ga ρ' v v':=e.imp id (sU h)
def pY.mono {ρ ρ':Ren} (h:ρ.le ρ') {v v':Value} (e:pY ρ v v'):pY ρ' v v':=
 e.imp (ga.mono h) λ⟨l,l',a,b,c⟩=>⟨l,l',a,b,c.mono λ_ _=>ga.mono h⟩
def VR.mono {ρ ρ':Ren} (h:ρ.le ρ') {v v':Value} (e:VR ρ v v'):VR ρ' v v':=
 e.imp (pY.mono h) λ⟨l,l',a,b,c⟩=>⟨l,l',a,b,c.mono λ_ _=>pY.mono h⟩
def VR.unk (ρ:Ren) (v:Value):VR ρ unk v:=.inl (.inl (.inl rfl))
def VR.undef (ρ:Ren):VR ρ undef undef:=.inr ⟨[],[],rfl,rfl,trivial⟩
def VR.of1 {ρ:Ren} {v v':Value} (h:cW ρ v=some v'):VR ρ v v':=.inl (.inl (.inr h))
def VR.of0 {ρ:Ren} {v v':Value} (h:ga ρ v v'):VR ρ v v':=.inl (.inl h)
section inv
variable {ρ : Ren} {v' : Value}
def VR.not_agg {v:Value} (hu:v≠Ev.unk) (h:VR ρ v v') (ha:∀l,v ≠ .agg l) (ht:∀l,v ≠ .tuple l):cW ρ v=some v':=by
 rcases h with (h | ⟨l,l',e,_⟩) | ⟨l,l',e,_⟩
 ·exact h.resolve_left hu
 ·exact absurd e (ha _)
 ·exact absurd e (ht _)
def VR.int {k:IntKind} {n:Int} (h:VR ρ (.int k n) v'):v'=.int k n:=by have:=VR.not_agg (by simp[Ev.unk]) h (by simp) (by simp);simp[cW,cU] at this;exact this.symm
def VR.bool {b:Bool} (h:VR ρ (.bool b) v'):v'=.bool b:=by have:=VR.not_agg (by simp[Ev.unk]) h (by simp) (by simp);simp[cW,cU] at this;exact this.symm
def VR.string {b:ByteArray} (h:VR ρ (.string b) v'):v'=.string b:=by have:=VR.not_agg (by simp[Ev.unk]) h (by simp) (by simp);simp[cW,cU] at this;exact this.symm
def VR.nilptr (h:VR ρ (.pointer none) v'):v'=.pointer none:=by have:=VR.not_agg (by simp[Ev.unk]) h (by simp) (by simp);simp[cW,cU] at this;exact this.symm
def VR.ptr {a:Addr} (h:VR ρ (.pointer (some a)) v'):∃p,ρ a.block=some p/\a.spot=none/\v'=.pointer (some ⟨p.1,a.off,none⟩):=by
 have:=VR.not_agg (by simp[Ev.unk]) h (by simp) (by simp);simp only[cW,cU] at this;cases hs:a.spot with
 | some _=>simp[hs] at this
 | none=>
  cases hp:ρ a.block with
  | none=>simp[hs,hp] at this
  | some p=>simp[hs,hp] at this;exact⟨p,rfl,rfl,this.symm⟩
def VR.nilslice {n c:Nat} (h:VR ρ (.slice none n c) v'):v'=.slice none n (c / 2):=by have:=VR.not_agg (by simp[Ev.unk]) h (by simp) (by simp);simp[cW,cU] at this;exact this.symm
def VR.slice2 {a:Addr} {n c:Nat} (h:VR ρ (.slice (some a) n c) v'):
  (∃p,ρ a.block=some p/\a.spot=none/\v'=.slice (some ⟨p.1,a.off,none⟩) n (if c%2=0 then c / 2 else c / 2+p.2)) \/ (a.spot≠none/\n=0/\c=0/\v'=.slice (some a) 0 0):=by
 have:=VR.not_agg (by simp[Ev.unk]) h (by simp) (by simp);simp only[cW,cU] at this;cases hs:a.spot with
 | some x=>
  rw[hs] at this;simp only at this;by_cases q:n=0/\c=0
  ·rw[if_pos q,I9] at this;exact .inr ⟨by simp,q.1,q.2,this.symm⟩
  ·rw[if_neg q] at this;exact nomatch this
 | none=>
  cases hp:ρ a.block with
  | none=>simp[hs,hp] at this
  | some p=>simp only[hs,hp,I9] at this;exact .inl ⟨p,rfl,rfl,this.symm⟩
def VR.slice {a:Addr} {n c:Nat} (h:VR ρ (.slice (some a) n c) v') (hn:n≠0 \/ c≠0 \/ a.spot=none):
  ∃p,ρ a.block=some p/\a.spot=none/\v'=.slice (some ⟨p.1,a.off,none⟩) n (if c%2=0 then c / 2 else c / 2+p.2):=by
 rcases h.slice2 with h | ⟨h1,h2,h3,_⟩
 ·exact h
 ·rcases hn with hn | hn | hn
  ·exact absurd h2 hn
  ·exact absurd h3 hn
  ·exact absurd hn h1
def VR.slice_some {a:Addr} {n c:Nat} (h:VR ρ (.slice (some a) n c) v'):∃a' c',v'=.slice (some a') n c'/\(c%2=0->c'=c / 2):=by
 rcases h.slice2 with ⟨p,_,_,e⟩ | ⟨_,rfl,rfl,e⟩
 ·exact⟨_,_,e,λh=>by rw[if_pos h]⟩
 ·exact⟨_,_,e,λ_=>rfl⟩
def VR.nilmap (h:VR ρ (.map none) v'):v'=.map none:=by have:=VR.not_agg (by simp[Ev.unk]) h (by simp) (by simp);simp[cW,cU] at this;exact this.symm
def VR.map {r:Nat} (h:VR ρ (.map (some r)) v'):∃p,ρ r=some p/\v'=.map (some p.1):=by
 have:=VR.not_agg (by simp[Ev.unk]) h (by simp) (by simp);simp only[cW,cU] at this;cases hp:ρ r with
 | none=>simp[hp] at this
 | some p=>simp[hp] at this;exact⟨p,rfl,this.symm⟩
def VR.nilFunc (h:VR ρ .nilFunc v'):v'=.nilFunc:=by have:=VR.not_agg (by simp[Ev.unk]) h (by simp) (by simp);simp[cW,cU] at this;exact this.symm
def VR.nilIface (h:VR ρ .nilIface v'):v'=.nilIface:=by have:=VR.not_agg (by simp[Ev.unk]) h (by simp) (by simp);simp[cW,cU] at this;exact this.symm
def VR.iface {t:TypeId} {v:Value} (h:VR ρ (.iface t v) v'):∃u,cU ρ v=some u/\v'=.iface t u:=by
 have:=VR.not_agg (by simp[Ev.unk]) h (by simp) (by simp);simp only[cW] at this;cases hp:cU ρ v with
 | none=>simp[hp] at this
 | some p=>simp[hp] at this;exact⟨p,rfl,this.symm⟩
def VR.func {f:FuncId} {a b:Array Value} (h:VR ρ (.func (.func f) a b) v'):
  ∃x y,fH ρ a.toList=some x/\fH ρ b.toList=some y/\v'=.func (.func f) ⟨x⟩ ⟨y⟩:=by
 have:=VR.not_agg (by simp[Ev.unk]) h (by simp) (by simp);simp only[cW] at this;cases h1:fH ρ a.toList with
 | none=>simp[h1] at this
 | some x=>
  cases h2:fH ρ b.toList with
  | none=>simp[h1,h2] at this
  | some y=>simp only[h1,h2,I9] at this;exact⟨x,y,rfl,rfl,this.symm⟩
def VR.agg {l:List Value} (h:VR ρ (.agg ⟨l⟩) v'):∃l',v'=.agg ⟨l'⟩/\bT (ga ρ) l l':=by
 rcases h with ((h | h) | ⟨l,l',e,e',h⟩) | ⟨l,l',e,_⟩
 ·simp[Ev.unk] at h
 ·simp[cW,cU] at h
 ·cases e;exact⟨l',e',h⟩
 ·cases e
def VR.tuple {l:List Value} (h:VR ρ (.tuple ⟨l⟩) v'):∃l',v'=.tuple ⟨l'⟩/\bT (pY ρ) l l':=by
 rcases h with ((h | h) | ⟨l,l',e,_⟩) | ⟨l,l',e,e',h⟩
 ·simp[Ev.unk] at h
 ·simp[cW,cU] at h
 ·cases e
 ·cases e;exact⟨l',e',h⟩
end inv
def lz {ρ:Ren}:∀{l l':List Value},fH ρ l=some l'->bT (VR ρ) l l'
 | [],l',e=>by simp[fH] at e;subst e;trivial
 | v :: l,l',e=>by
  simp only[fH] at e;cases h1:cU ρ v with
  | none=>simp[h1] at e
  | some a=>
   cases h2:fH ρ l with
   | none=>simp[h1,h2] at e
   | some r=>
    simp[h1,h2] at e;subst e;refine⟨VR.of1 ?_,lz h2⟩;cases v with
    | func fn a b=>simp[cU] at h1
    | iface t v=>simp[cU] at h1
    | _=>exact h1
def live:AO->Bool
 |.dead=>false
 | _=>true
def wr:AO->Bool
 |.dead=>false
 |.row _ _ _ ro _ _=>!ro
 | _=>true
def je (ρ:Ren):List (Value × Value)->List MapEntry->Prop
 | [],[]=>True
 | (k,v) :: l,e :: m=>e.key=k/\pY ρ v e.val/\je ρ l m
 | _,_=>False
def eV (P:Program) (ρ:Ren) (w:World) (p:Nat × Nat):AO->Prop
 |.dead=>True
 |.row e n op ro fz c=>∃cs fr,w.heap[p.1]?=some (.cells cs e fr)/\n<=cs.size/\(op=false->cs.size=n/\p.2=0) /\
   (op=true->∃i,P.info? e=some i/\cs.size=n+p.2*i.size) /\
   (∀i,i<n->∃v',cs[i]?=some v'/\ga ρ (c.get i) v')/\(ro=true \/ fr.2<=fz)
 |.map es clock=>∃es',w.heap[p.1]?=some (.map es' clock)/\je ρ es es'.toList
 |.iter s pos=>w.heap[p.1]?=some (.stringIter ⟨⟨s⟩⟩ pos)
structure eZ (P:Program) (ρ:Ren) (h:H) (w:World):Prop where
 dom:∀id p,ρ id=some p->id<h.next
 inj:∀i j p q,ρ i=some p->ρ j=some q->live (h.objs.get i)=true->live (h.objs.get j)=true->p.1=q.1->i=j
 obj:∀id p,ρ id=some p->eV P ρ w p (h.objs.get id)
 small:∀id,live (h.objs.get id)=true->id+1<2 ^ deep
 fresh:∀id,h.next<=id->h.objs.get id=.dead
 glob:∀g,g<16->ρ g=some (g,0)
 inside:∀id p,ρ id=some p->live (h.objs.get id)=true->p.1<w.heap.size
def Wr (ρ:Ren) (h:H) (b:Nat):Prop:=∃id p,ρ id=some p/\p.1=b/\wr (h.objs.get id)=true
structure Step (P:Program) (ρ:Ren) (h:H) (w:World) (ρ':Ren) (h':H) (w':World):Prop where
 ext:ρ.le ρ'
 old:∀id p,ρ' id=some p->id<h.next->ρ id=some p
 next:h.next<=h'.next
 keep:∀id,id<h.next->ρ id=none->h'.objs.get id=h.objs.get id
 rel:eZ P ρ' h' w'
 same:∀b,b<w.heap.size->¬ Wr ρ h b->w'.heap[b]?=w.heap[b]?
 own:∀b,Wr ρ' h' b->b<w.heap.size->Wr ρ h b
 size:w.heap.size<=w'.heap.size
 tape:w'.tape=w.tape
 os:w'.os=w.os
 output:w'.output=w.output
def Step.refl {P:Program} {ρ:Ren} {h:H} {w:World} (hr:eZ P ρ h w):Step P ρ h w ρ h w:=
 ⟨ρ.le_refl,λ_ _ e _=>e,Jd _,λ_ _ _=>rfl,hr,λ_ _ _=>rfl,λ_ e _=>e,Jd _,rfl,rfl,rfl⟩
def Step.trans {P:Program} {ρ ρ₁ ρ₂:Ren} {h h₁ h₂:H} {w w₁ w₂:World} (s:Step P ρ h w ρ₁ h₁ w₁) (t:Step P ρ₁ h₁ w₁ ρ₂ h₂ w₂):Step P ρ h w ρ₂ h₂ w₂ where
 ext:=Ren.le_trans s.ext t.ext
 old:=λid p e hl=>s.old id p (t.old id p e (Jp hl s.next)) hl
 next:=JV s.next t.next
 keep:=λid hl hn=>by
  have h1:ρ₁ id=none:=by
   cases e:ρ₁ id with
   | none=>rfl
   | some p=>rw[s.old id p e hl] at hn;cases hn
  rw[t.keep id (Jp hl s.next) h1,s.keep id hl hn]
 rel:=t.rel
 same:=λb hb hn=>(t.same b (Jp hb s.size) λhw=>hn (s.own b hw hb)).trans (s.same b hb hn)
 own:=λb hw hb=>s.own b (t.own b hw (Jp hb s.size)) hb
 size:=JV s.size t.size
 tape:=t.tape.trans s.tape
 os:=t.os.trans s.os
 output:=t.output.trans s.output
def ek (ρ:Ren) (t:TM) (a:Act):Prop:=∀i,VR ρ (t.get i) (a.tmps.getD i undef)
def ek.mono {ρ ρ':Ren} (h:ρ.le ρ') {t:TM} {a:Act} (ht:ek ρ t a):ek ρ' t a:=λi=>(ht i).mono h
def jR {ρ:Ren} {v:Value} (h:tH v=true):cW ρ v=some v:=by unfold tH at h;split at h <;> simp_all [cW,cU]
def fE {ρ:Ren} {v:Value} (h:plain v=true):pY ρ v v:=by
 unfold plain at h;split at h
 ·rename_i cs;refine .inr ⟨cs.toList,cs.toList,rfl,rfl,?_⟩;refine bT.of_get rfl λi v v' e e'=>?_;rw[e] at e';cases e';exact .inr (jR (Jv.1 h v (List.mem_of_getElem? e)))
 ·exact .inl (.inr (jR h))
def rG {ρ:Ren} {v:Value} (h:plain v=true):VR ρ v v:=.inl (fE h)
def j5 {P:Program} {ρ:Ren} {h:H} {w:World} {t:TM} {a:Act} (hr:eZ P ρ h w) (ht:ek ρ t a) (x:Operand):VR ρ (ev t x) (a.eval x):=by
 cases x with
 | tmp i=>exact ht i
 | const v=>
  simp only[ev,Act.eval];cases hp:plain v with
  | true=>simpa using rG hp
  | false=>simpa using VR.unk ρ v
 | global g=>
  simp only[ev,Act.eval];cases hp:ble 16 g with
  | true=>simpa using VR.unk ρ _
  | false=>
   have hg:g<16:=by
    rcases Nat.lt_or_ge g 16 with h | h
    ·exact h
    ·rw[Js h] at hp;cases hp
   simp only[JP];exact VR.of1 (by simp[cW,cU,hr.glob g hg])
 | func f=>exact VR.of1 (by simp[ev,Act.eval,cW,fH])
def ek.put {ρ:Ren} {t:TM} {a:Act} (ht:ek ρ t a) (d:Tmp) (hd:d<a.tmps.size) (hs:d+1<2 ^ deep) {v v':Value} (hv:VR ρ v v'):
  ek ρ (t.ins deep d v) (a.put (some d) v'):=by
 intro i;rw[T.get_ins _ _ _ _ _ hs];simp only[Act.put];by_cases e:i=d
 ·subst e;simp[hd];exact hv
 ·have e':d≠i:=λx=>e x.symm;simp only[e,if_false];have:=ht i;simpa [Array.getElem?_setIfInBounds_ne e'] using this
end
section
structure TypesOK (P:Program) (E:Env):Prop where
 types:∀t i,E.types.get t=some i->P.info? t=some i
 zeros:∀t i z,E.types.get t=some i->i.zero=some z->plain z=true
 eqs:∀t,E.eqs t=true->P.stoodInHeld t=false/\P.eqGuardType P.depth t=false
section
variable {P : Program} {E : Env} (hE : TypesOK P E) {ρ : Ren} {h : H} {w : World}
include hE
def cV {t:TypeId} {d:TypeDesc} (hd:E.und t=some d):P.underlying t=some d:=by
 unfold Env.und Env.info at hd;unfold Program.underlying;cases ht:E.types.get t with
 | none=>simp[ht] at hd
 | some i=>
  have hi:=hE.types t i ht;simp only[ht] at hd;obtain⟨desc,str,size,bytes,hp,al,fal,zero,comp,meth⟩:=i;simp only at hd;cases desc with
  | named n u=>
   simp only at hd;cases hu:E.types.get u with
   | none=>simp[hu] at hd
   | some j=>simp only[hu,I9] at hd;simp[hi,hE.types u j hu,hd]
  | _=>simp only[I9] at hd;subst hd;simp[hi]
def uj {t:TypeId} {s:Nat} (hs:E.size t=some s):∃i,P.info? t=some i/\i.size=s:=by
 unfold Env.size Env.info at hs;cases ht:E.types.get t with
 | none=>simp[ht] at hs
 | some i=>simp only[ht,I9] at hs;exact⟨i,hE.types t i ht,hs⟩
def dy {t:TypeId} {s:Nat} (hs:E.size t=some s) (w:World):(sizeOf t).run P w=.ok s w:=by obtain⟨i,hi,e⟩:=uj hE hs;simp[sizeOf,typeInfo,hi,e]
def bn {t:TypeId} {d:TypeDesc} (hd:E.und t=some d) (w:World):(underlying t).run P w=.ok d w:=run_underlying (cV hE hd) w
def kU {t:TypeId} {d:TypeDesc} (hd:E.und t=some d) (w:World):(isAgg t).run P w=.ok (iY d) w:=by unfold isAgg;rw[Sem.run_bind,bn hE hd w];cases d <;> simp[iY]
end
def addr_add (g o n:Nat):(⟨g,o,none⟩:Addr).add n=⟨g,o+n,none⟩:=by unfold Addr.add;split <;> simp_all
def eR {P:Program} {ρ:Ren} {w:World} {p:Nat × Nat} {e:TypeId} {n:Nat} {op ro:Bool} {fz:Nat} {c:T Value}
  (hO:eV P ρ w p (.row e n op ro fz c)):∀(s off:Nat),off+s<=n ->
   ∃l,l.length=s/\(∀j v,l[j]?=some v->w.cell? ((⟨p.1,off,none⟩:Addr).add j)=some v)/\bT (ga ρ) (bq c off s) l
 | 0,off,_=>⟨[],rfl,by simp,trivial⟩
 | s+1,off,hle=>by
  have hO':=hO;obtain⟨cs,fr,hg,_,_,_,hc,_⟩:=hO';obtain⟨v,hv,hr⟩:=hc off (by omega);obtain⟨l,hl,hcell,hall⟩:=eR hO s (off+1) (by omega);refine⟨v :: l,by simp[hl],?_,hr,hall⟩;intro j u hj;cases j with
  | zero=> simp at hj;subst hj;rw[addr_add,Kp,cell_of_row w _ _ cs e fr hg];exact hv
  | succ j=> have:=hcell j u (by simpa using hj);rw[addr_add] at this ⊢;rw[show off+(j+1)=off+1+j by omega];exact this
def VR.ptr_block {ρ:Ren} {a:Addr} {v':Value} (hv:VR ρ (.pointer (some a)) v'):∃p,ρ a.block=some p/\v'=.pointer (some ⟨p.1,a.off,none⟩):=by obtain⟨p,h1,_,h3⟩:=hv.ptr;exact⟨p,h1,h3⟩
section
variable {P : Program} {E : Env} (hE : TypesOK P E) {ρ : Ren} {h : H} {w : World} (hr : eZ P ρ h w)
include hE hr
def xY {t:TypeId} {a:Addr} {p:Nat × Nat} {v:Value} (hp:ρ a.block=some p) (hl:bD E h t a=some v):
  ∃v',(loadVar t ⟨p.1,a.off,none⟩).run P w=.ok v' w/\VR ρ v v':=by
 unfold bD at hl;split at hl
 ·rename_i d s e n op ro fz c hd hs ho;have hO:=hr.obj _ _ hp;rw[ho] at hO;unfold loadVar;rw[Sem.run_bind,kU hE hd w];simp only[Result.andThen_ok];cases hag:iY d with
  | true=>
   simp only[hag,Jo] at hl;cases hb:ble (a.off+s) n with
   | false=>simp[hb] at hl
   | true=>
    simp only[hb,Jo,I9] at hl;obtain⟨l,hlen,hcell,hall⟩:=eR hO s a.off (I7 hb);have hrun:=run_loadCells_list (P:=P) w ⟨p.1,a.off,none⟩ l hcell;rw[hlen] at hrun;refine⟨.agg ⟨l⟩,?_,?_⟩
    ·simp[Sem.run_bind,dy hE hs w,hrun]
    ·subst hl;exact .inl (.inr ⟨_,l,rfl,rfl,hall⟩)
  | false=>
   simp only[hag,JP] at hl;cases hb:Nat.blt a.off n with
   | false=>simp[hb] at hl
   | true=>
    simp only[hb,Jo,I9] at hl;obtain⟨cs,fr,hg,_,_,_,hc,_⟩:=hO;obtain⟨v',hv,hvr⟩:=hc a.off (I7 hb);refine⟨v',?_,?_⟩
    ·simp[cell_of_row w _ _ cs e fr hg,hv]
    ·subst hl;exact .of0 hvr
 ·cases hl
end
def mn {α:Type} {P:Program} {w:World} {s:Sem α} {v:α} (h:dZ s=some v):s.run P w=.ok v w:=by
 unfold dZ at h;split at h
 ·cases h;rfl
 ·cases h
def eO {α:Type} {v u:α} (h:dZ (pure v:Sem α)=some u):u=v:=by simp[dZ,pure] at h;exact h.symm
def lC {op:BinOp} {k kj:IntKind} {a b:Int} {v:Value} (h:dZ (Op.shift op k a kj b)=some v):∃n,v=.int k n:=by
 unfold Op.shift at h;split at h
 ·simp[runtimePanic,dZ,program,bind,Sem.bind] at h
 ·simp only at h;split at h
  ·exact⟨_,eO h⟩
  ·exact⟨_,eO h⟩
  ·simp[stuck,dZ] at h
def zw {op:BinOp} {t:TypeId} {k kj:IntKind} {a b:Int} {v:Value} (h:dZ (binOp op t (.int k a) (.int kj b))=some v):
  (∃k n,v=.int k n) \/ ∃c,v=.bool c:=by
 by_cases hk:k=kj
 ·subst hk;cases op
  case shl=>exact .inl ⟨_,lC (by simpa [binOp] using h)⟩
  case shr=>exact .inl ⟨_,lC (by simpa [binOp] using h)⟩
  case quo=>
   simp only[binOp,Op.intDiv,ne_eq,not_true_eq_false,if_false] at h;split at h
   ·simp[runtimePanic,dZ,program,bind,Sem.bind] at h
   ·exact .inl ⟨_,_,eO h⟩
  case rem=>
   simp only[binOp,Op.intDiv,ne_eq,not_true_eq_false,if_false] at h;split at h
   ·simp[runtimePanic,dZ,program,bind,Sem.bind] at h
   ·exact .inl ⟨_,_,eO h⟩
  all_goals (simp only[binOp,Op.intArith,Op.intBits,Op.intCmp,ne_eq,not_true_eq_false,if_false] at h)
  all_goals first | exact .inl ⟨_,_,eO h⟩ | exact .inr ⟨_,eO h⟩
 ·cases op
  case shl=>exact .inl ⟨_,lC (by simpa [binOp] using h)⟩
  case shr=>exact .inl ⟨_,lC (by simpa [binOp] using h)⟩
  all_goals (simp[binOp,hk,stuck,dZ] at h)
def eB:∀(a b:List UInt8),jH a b=(a==b)
 | [],[]=>rfl
 | a :: x,b :: y=>by simp only[jH,eB x y,List.cons_beq_cons];cases a==b <;> rfl
 | [],_ :: _=>rfl
 | _ :: _,[]=>rfl
def sE {op:UnOp} {x:Value} {v:Value} (hx:(∃k n,x=.int k n) \/ ∃c,x=.bool c) (h:dZ (Op.unary op x)=some v):
  (∃k n,v=.int k n) \/ ∃c,v=.bool c:=by
 rcases hx with ⟨k,n,rfl⟩ | ⟨c,rfl⟩
 ·cases op <;> simp only[Op.unary,Op.intArith,Op.intBits] at h <;> first | exact .inl ⟨_,_,eO h⟩ | simp[stuck,dZ] at h
 ·cases op <;> simp only[Op.unary] at h <;> first | exact .inr ⟨_,eO h⟩ | simp[stuck,dZ] at h
def zH {ρ:Ren} {v:Value} (h:(∃k n,v=.int k n) \/ ∃c,v=.bool c):VR ρ v v:=by rcases h with ⟨k,n,rfl⟩ | ⟨c,rfl⟩ <;> exact VR.of1 rfl
def cL {P:Program} {w:World} (op:BinOp) (t:TypeId) (x y:Operand) (a b:Value) (h1:¬ (a=.nilIface/\b=.nilIface)) (h2:∀l m,¬ (a=.agg l/\b=.agg m)):
  (eqGuard op t x y a b).run P w=.ok () w:=by
 unfold eqGuard;cases op <;> simp <;> (split <;> simp_all)
section
variable {P : Program} {E : Env} (hE : TypesOK P E) {ρ : Ren} {w : World}
include hE
def OD {t:TypeId} {d:TypeDesc} (hd:E.und t=some d) {a b a' b':Value} (ha:VR ρ a a') (hb:VR ρ b b') {r:Bool} (hq:nZ d a b=some r) (n:Nat):
  (Op.equalIn (n+1) t a' b').run P w=.ok r w:=by
 have hu:=cV hE hd;unfold nZ at hq;split at hq
 ·rename_i k' k a k2 b;split at hq
  ·rename_i e;subst e;cases hq;rw[ha.int,hb.int];simp[Op.equalIn,run_underlying hu]
  ·cases hq
 ·cases hq;rw[ha.bool,hb.bool];simp[Op.equalIn,run_underlying hu]
 ·cases hq;rw[ha.string,hb.string];simp[Op.equalIn,run_underlying hu,beq_toListBytes,ByteArray.toList_eq,eB]
 ·cases hq
def Au (n:Nat):∀(fs:List Field) (i:Nat) (xs ys:List Value) (px py xs' ys':List Value) (r:Bool),uc E fs i xs ys=some r ->
  bT (ga ρ) xs xs'->bT (ga ρ) ys ys'->px.length=i->py.length=i ->
  (Op.eqFields (n+1) ⟨px++xs'⟩ ⟨py++ys'⟩ fs).run P w=.ok r w
 | [],_,[],[],px,py,xs',ys',r,hq,_,_,_,_=>by simp[uc] at hq;subst hq;simp[Op.eqFields]
 | f :: fs,i,a :: x,b :: y,px,py,a' :: x',b' :: y',r,hq,⟨ha,hx⟩,⟨hb,hy⟩,h1,h2=>by
  simp only[uc] at hq;cases hc : (f.name != "_"&&beq f.offset i) with
  | false=>simp[hc] at hq
  | true=>
   simp only[hc,Jo] at hq;simp only[Ja,bne_iff_ne,ne_eq] at hc;obtain⟨hn,ho⟩:=hc;have ho:f.offset=i:=I8 ho;cases hd:E.und f.type with
   | none=>simp[hd] at hq
   | some d=>
    simp only[hd] at hq;cases he:nZ d a b with
    | none=>simp[he] at hq
    | some c=>
     simp only[he] at hq;have hagg:iY d=false:=by cases d <;> simp[nZ] at he <;> rfl
     have p1:(part f.type (⟨px++a' :: x'⟩:Array Value) f.offset).run P w=.ok a' w:=by
      unfold part;rw[Sem.run_bind,kU hE hd w];have e:(⟨px++a' :: x'⟩:Array Value)[f.offset]?=some a':=by simp[ho,<-h1]
      simp[hagg,e]
     have p2:(part f.type (⟨py++b' :: y'⟩:Array Value) f.offset).run P w=.ok b' w:=by
      unfold part;rw[Sem.run_bind,kU hE hd w];have e:(⟨py++b' :: y'⟩:Array Value)[f.offset]?=some b':=by simp[ho,<-h2]
      simp[hagg,e]
     simp only[Op.eqFields,ne_eq,hn,not_false_eq_true,if_true,Sem.run_bind,p1,p2,Result.andThen_ok,OD hE (w:=w) hd (.of0 ha) (.of0 hb) he n];cases c with
     | false=>cases hq;simp
     | true=> simp only at hq;have:=Au n fs (i+1) x y (px ++ [a']) (py ++ [b']) x' y' r hq hx hy (by simp[h1]) (by simp[h2]);simpa using this
 | [],_,_ :: _,_,_,_,_,_,_,hq,_,_,_,_=>by simp[uc] at hq
 | [],_,[],_ :: _,_,_,_,_,_,hq,_,_,_,_=>by simp[uc] at hq
 | _ :: _,_,[],_,_,_,_,_,_,hq,_,_,_,_=>by simp[uc] at hq
 | _ :: _,_,_ :: _,[],_,_,_,_,_,hq,_,_,_,_=>by simp[uc] at hq
 | _ :: _,_,_ :: _,_ :: _,_,_,[],_,_,_,h,_,_,_=>h.elim
 | _ :: _,_,_ :: _,_ :: _,_,_,_ :: _,[],_,_,_,h,_,_=>h.elim
end
end
section
section
variable {P : Program} {E : Env} (hE : TypesOK P E) {ρ : Ren} {w : World}
include hE
def Gp {t e:TypeId} {s:Nat} (hu:E.und t=some (.pointer e)) (hs:E.size e=some (s+1)) (n b o1 o2:Nat):
  (Op.equalIn (n+1) t (.pointer (some ⟨b,o1,none⟩)) (.pointer (some ⟨b,o2,none⟩))).run P w=.ok (beq o1 o2) w:=by
 have h1:=run_underlying (cV hE hu) w;have h2:=dy hE hs w;unfold Op.equalIn;rw[Sem.run_bind,h1];simp only[Result.andThen_ok];rw[Sem.run_bind,h2];simp only[Result.andThen_ok];rw[if_pos (by omega)];unfold sameAddr;rw[if_pos (by simp)];show Result.ok _ w=_
 congr 1
 by_cases ho:o1=o2
 ·subst ho;simp
 ·have:beq o1 o2=false:=by
   cases hbb:beq o1 o2
   ·rfl
   ·exact absurd (I8 hbb) ho
  rw[this];simp[ho]
def E8 (n:Nat) {op:BinOp} {t:TypeId} {x y:Operand} {a b a' b':Value} {r:Bool} (hx:VR ρ a a') (hy:VR ρ b b') (hq:F2 E t (bi x) (bi y) a b=some r):
  (eqGuard op t x y a' b').run P w=.ok () w/\(Op.equalIn (n+2) t a' b').run P w=.ok r w /\
   binOp .eql t a' b'=(do pure (.bool (<-Op.equal t a' b')))/\binOp .neq t a' b'=(do pure (.bool (!(<-Op.equal t a' b')))):=by
 unfold F2 at hq;split at hq
 ·rename_i a b hu;cases hq;rw[hx.bool,hy.bool];exact⟨cL _ _ _ _ _ _ (by simp) (by simp),(by unfold Op.equalIn;rw[Sem.run_bind,run_underlying (cV hE hu)];rfl),rfl,rfl⟩
 ·rename_i e b hu;cases hq;rw[hx.nilptr];cases b with
  | none=>rw[hy.nilptr];exact⟨cL _ _ _ _ _ _ (by simp) (by simp),(by unfold Op.equalIn;rw[Sem.run_bind,run_underlying (cV hE hu)];rfl),rfl,rfl⟩
  | some b=>obtain⟨p,_,e⟩:=hy.ptr_block;rw[e];exact⟨cL _ _ _ _ _ _ (by simp) (by simp),(by unfold Op.equalIn;rw[Sem.run_bind,run_underlying (cV hE hu)];rfl),rfl,rfl⟩
 ·rename_i e a hu;cases hq;rw[hy.nilptr];obtain⟨p,_,e⟩:=hx.ptr_block;rw[e];exact⟨cL _ _ _ _ _ _ (by simp) (by simp),(by unfold Op.equalIn;rw[Sem.run_bind,run_underlying (cV hE hu)];rfl),rfl,rfl⟩
 ·rename_i e a b hu;split at hq
  ·rename_i sz hs;cases hb:beq a.block b.block with
   | false=>simp[hb] at hq
   | true=> simp[hb] at hq;subst hq;obtain⟨p,hp,e1⟩:=hx.ptr_block;obtain⟨q,hq,e2⟩:=hy.ptr_block;rw[I8 hb,hq] at hp;cases hp;rw[e1,e2];exact⟨cL _ _ _ _ _ _ (by simp) (by simp),Gp hE hu hs _ _ _ _,rfl,rfl⟩
  ·cases hq
 ·rename_i e n1 c1 b n2 c2 hu;cases hq;rw[hx.nilslice];cases b with
  | none=>rw[hy.nilslice];exact⟨cL _ _ _ _ _ _ (by simp) (by simp),(by unfold Op.equalIn;rw[Sem.run_bind,run_underlying (cV hE hu)];rfl),rfl,rfl⟩
  | some b=>obtain⟨_,_,e,_⟩:=hy.slice_some;rw[e];exact⟨cL _ _ _ _ _ _ (by simp) (by simp),(by unfold Op.equalIn;rw[Sem.run_bind,run_underlying (cV hE hu)];rfl),rfl,rfl⟩
 ·rename_i e a n1 c1 n2 c2 hu;cases hq;rw[hy.nilslice];obtain⟨_,_,e,_⟩:=hx.slice_some;rw[e];exact⟨cL _ _ _ _ _ _ (by simp) (by simp),(by unfold Op.equalIn;rw[Sem.run_bind,run_underlying (cV hE hu)];rfl),rfl,rfl⟩
 ·rename_i ms hu;rw[hx.nilIface,hy.nilIface];cases hc:(bi x||bi y) with
  | false=>simp[hc] at hq
  | true=>
   simp[hc] at hq;subst hq;refine⟨?_,(by unfold Op.equalIn;rw[Sem.run_bind,run_underlying (cV hE hu)];rfl),rfl,rfl⟩;unfold eqGuard;cases op <;> simp
   all_goals
    cases x <;> cases y <;> simp_all [bi]
 ·rename_i ms u v hu;cases hq;obtain⟨z,_,e⟩:=hy.iface;rw[hx.nilIface,e];exact⟨cL _ _ _ _ _ _ (by simp) (by simp),(by unfold Op.equalIn;rw[Sem.run_bind,run_underlying (cV hE hu)];rfl),rfl,rfl⟩
 ·rename_i ms u v hu;cases hq;obtain⟨z,_,e⟩:=hx.iface;rw[hy.nilIface,e];exact⟨cL _ _ _ _ _ _ (by simp) (by simp),(by unfold Op.equalIn;rw[Sem.run_bind,run_underlying (cV hE hu)];rfl),rfl,rfl⟩
 ·rename_i fs xs ys hu;cases hc:E.eqs t with
  | false=>simp[hc] at hq
  | true=>
   simp only[hc,Jo] at hq;obtain⟨xs',rfl,hxs⟩:=hx.agg;obtain⟨ys',rfl,hys⟩:=hy.agg;have hs:=cV hE hu;have hf:P.fieldsOf t=fs:=by simp[Program.fieldsOf,hs]
   refine⟨run_eqGuard_agg w op t x y _ _ (hE.eqs t hc).2,?_,rfl,rfl⟩;rw[run_equalIn_struct w (n+1) t _ _ (by rw[hf];exact hs) (hE.eqs t hc).1,hf];exact Au hE n fs.toList 0 xs ys [] [] xs' ys' r hq hxs hys rfl rfl
 ·cases hq
def Xn {op:BinOp} {t:TypeId} {x y:Operand} {a b a' b' v:Value} (ha:VR ρ a a') (hb:VR ρ b b') (hq:ij E op t (bi x) (bi y) a b=some v):
  (do eqGuard op t x y a' b';binOp op t a' b':Sem Value).run P w=.ok v w/\VR ρ v v:=by
 unfold ij at hq;split at hq
 ·rename_i k n k' m;rw[ha.int,hb.int];refine⟨?_,zH (zw hq)⟩;simp only[Sem.run_bind,cL op t x y (.int k n) (.int k' m) (by simp) (by simp),Result.andThen_ok];exact mn hq
 ·rename_i a b;rw[ha.string,hb.string];have hg:=cL (P:=P) (w:=w) op t x y (.string ⟨⟨a⟩⟩) (.string ⟨⟨b⟩⟩) (by simp) (by simp);simp only[Sem.run_bind,hg,Result.andThen_ok];split at hq
  ·cases hc:ble (a.length+b.length) 1000000000 with
   | false=>simp[hc] at hq
   | true=>
    simp[hc] at hq;subst hq;refine⟨?_,VR.of1 rfl⟩;have hle:=I7 hc;have e:(⟨⟨a⟩⟩++⟨⟨b⟩⟩:ByteArray)=⟨⟨a++b⟩⟩:=ByteArray.mk_append_mk a b;have hsz:¬ (((⟨⟨a⟩⟩:ByteArray).size+(⟨⟨b⟩⟩:ByteArray).size:Nat):Int) > IntKind.i64.max:=by simp[ByteArray.size,IntKind.max,IntKind.bits,IntKind.signed];omega
    rw[binOp_string_add];simp only[Op.stringOp,if_neg hsz,e];rfl
  ·cases hq;refine⟨?_,VR.of1 rfl⟩;rw[binOp_string_eql];simp[ByteArray.toList_eq,eB]
  ·cases hq;refine⟨?_,VR.of1 rfl⟩;rw[binOp_string_neq];simp[ByteArray.toList_eq,eB]
  ·cases hq
 ·split at hq
  ·cases hr:F2 E t (bi x) (bi y) a b with
   | none=>simp[hr] at hq
   | some r=> simp[hr] at hq;subst hq;obtain⟨h1,h2,h3,_⟩:=E8 hE (w:=w) 9998 (op:=.eql) ha hb hr;have h2:(Op.equal t a' b').run P w=.ok r w:=h2;refine⟨?_,VR.of1 rfl⟩;rw[Sem.run_bind,h1];simp only[Result.andThen_ok];rw[h3,Sem.run_bind,h2];rfl
  ·cases hr:F2 E t (bi x) (bi y) a b with
   | none=>simp[hr] at hq
   | some r=> simp[hr] at hq;subst hq;obtain⟨h1,h2,_,h3⟩:=E8 hE (w:=w) 9998 (op:=.neq) ha hb hr;have h2:(Op.equal t a' b').run P w=.ok r w:=h2;refine⟨?_,VR.of1 rfl⟩;rw[Sem.run_bind,h1];simp only[Result.andThen_ok];rw[h3,Sem.run_bind,h2];rfl
  ·cases hq
end
end
section
def oC (ad:Addr) (n:Nat) (hs:ad.spot=none):ka ad n=⟨ad.block,ad.off+n,none⟩:=by
 unfold ka;obtain⟨b,o,s⟩:=ad;simp only at hs;subst hs;cases h:beq n 0 with
 | true=>have:=I8 h;subst this;rfl
 | false=>rfl
def nO {P:Program} {w:World} {x:Option Value} {x':Value} {d fo i:Nat} {code:BoundsCode} {ρ:Ren} (v:Value) (hx:x=some v) (hv:VR ρ v x') (hb:bound x d fo=some i) (m':Nat) (hm:fo<=m'):
  (Instr.sliceBound x' m' code).run P w=.ok i w:=by
 subst hx;unfold bound at hb;split at hb
 ·rename_i h;cases h
 ·rename_i k j h;cases h;rw[hv.int];cases hc:ble j fo with
  | false=>simp[hc] at hb
  | true=> simp[hc] at hb;subst hb;have:=I7 hc;have h2:(0:Int)<=Int.ofNat j/\Int.ofNat j<=(m':Int):=⟨Int.natCast_nonneg j,by simp;omega⟩;simp only[Instr.sliceBound,asIntOf,Sem.run_bind,Sem.run_pure,Result.andThen_ok,Sem.run_ite];rw[if_pos h2];rfl
 ·cases hb
def Hj {x:Option Value} {d fo i:Nat} (hb:bound x d fo=some i) (hd:d<=fo):i<=fo:=by
 unfold bound at hb;split at hb
 ·cases hb;exact hd
 ·rename_i j;cases hc:ble j fo with
  | false=>simp[hc] at hb
  | true=>simp[hc] at hb;subst hb;exact I7 hc
 ·cases hb
def OR (ρ:Ren):Option Value->Option Value->Prop
 | none,none=>True
 | some v,some v'=>VR ρ v v'
 | _,_=>False
def OR.none_iff {ρ:Ren} {x x':Option Value} (h:OR ρ x x'):x=none ↔ x'=none:=by cases x <;> cases x' <;> simp_all [OR]
section
variable {P : Program} {ρ : Ren} {w : World}
def ii {isS:Bool} {len cap' m h l:Nat} {lo hi mx lo' hi' mx':Option Value} (hl:OR ρ lo lo') (hh:OR ρ hi hi') (hm:OR ρ mx mx')
  (fo:Nat) (hmost:fo<=cap') (bm:mx=none/\m=cap' \/ mx≠none/\bound mx fo fo=some m) (ho:mx=none \/ hi≠none) (mh:Nat) (hmh:mh<=m) (bh:bound hi len mh=some h) (bl:bound lo 0 h=some l):
  (Instr.sliceBounds isS len cap' lo' hi' mx').run P w=.ok (l,h,m) w:=by
 have fm:(mx'=none/\m=cap') \/ ∃v',mx'=some v'/\∀c,(Instr.sliceBound v' cap' c).run P w=.ok m w:=by
  rcases bm with ⟨e,rfl⟩ | ⟨hne,b⟩
  ·exact .inl ⟨hm.none_iff.1 e,rfl⟩
  ·cases mx with
   | none=>exact absurd rfl hne
   | some v=>
    cases mx' with
    | none=>exact hm.elim
    | some v'=>exact .inr ⟨v',rfl,λc=>nO v rfl hm b cap' hmost⟩
 have fh:(hi'=none/\mx'=none/\h=len) \/ ∃v',hi'=some v'/\∀c,(Instr.sliceBound v' m c).run P w=.ok h w:=by
  cases hi with
  | none=> have:hi'=none:=hh.none_iff.1 rfl;exact .inl ⟨this,hm.none_iff.1 (ho.resolve_right (by simp)),by simp[bound] at bh;exact bh.symm⟩
  | some v=>
   cases hi' with
   | none=>exact hh.elim
   | some v'=>exact .inr ⟨v',rfl,λc=>nO v rfl hh bh m hmh⟩
 have fl:(lo'=none/\l=0) \/ ∃v',lo'=some v'/\∀c,(Instr.sliceBound v' h c).run P w=.ok l w:=by
  cases lo with
  | none=>exact .inl ⟨hl.none_iff.1 rfl,by simp[bound] at bl;exact bl.symm⟩
  | some v=>
   cases lo' with
   | none=>exact hl.elim
   | some v'=>exact .inr ⟨v',rfl,λc=>nO v rfl hl bl h (Jd _)⟩
 unfold Instr.sliceBounds;rcases fm with ⟨rfl,rfl⟩ | ⟨vm,rfl,em⟩ <;> rcases fh with ⟨rfl,e0,rfl⟩ | ⟨vh,rfl,eh⟩ <;> rcases fl with ⟨rfl,rfl⟩ | ⟨vl,rfl,el⟩ <;>
  first
   | (cases e0;done)
   | simp[*]
end
end
section
def lJ (l:List UInt8) (i j:Nat):(⟨⟨l⟩⟩:ByteArray).extract i j=⟨⟨(l.drop i).take (j-i)⟩⟩:=by
 have h:((⟨⟨l⟩⟩:ByteArray).extract i j).data.toList=(l.drop i).take (j-i):=by rw[ByteArray.data_extract];simp
 generalize (⟨⟨l⟩⟩:ByteArray).extract i j=b at h;obtain⟨⟨m⟩⟩:=b;simp only at h;rw[h]
def VR.mk_slice {ρ:Ren} {b off n c:Nat} {p:Nat × Nat} (hp:ρ b=some p):VR ρ (.slice (some ⟨b,off,none⟩) n c) (.slice (some ⟨p.1,off,none⟩) n (if c%2=0 then c / 2 else c / 2+p.2)):=
 VR.of1 (by simp[cW,cU,hp])
def VR.mk_ptr {ρ:Ren} {b off:Nat} {p:Nat × Nat} (hp:ρ b=some p):VR ρ (.pointer (some ⟨b,off,none⟩)) (.pointer (some ⟨p.1,off,none⟩)):=
 VR.of1 (by simp[cW,cU,hp])
section
variable {P : Program} {E : Env} (hE : TypesOK P E) {ρ : Ren} {w : World}
include hE
def D5 {t:TypeId} {x x' v:Value} {lo hi mx lo' hi' mx':Option Value} (hx:VR ρ x x') (hl:OR ρ lo lo') (hh:OR ρ hi hi') (hm:OR ρ mx mx')
  (hv:dm E t x lo hi mx=some v):∃v',(Instr.sliceAt t x' lo' hi' mx').run P w=.ok v' w/\VR ρ v v':=by
 unfold dm at hv;split at hv
 ·rename_i s hu;rw[hx.string];split at hv
  ·cases hv
  ·have emx:mx'=none:=hm.none_iff.1 rfl;subst emx;cases bh:bound hi s.length s.length with
   | none=>simp[bh] at hv
   | some h=>
    simp only[bh] at hv;cases bl:bound lo 0 h with
    | none=>simp[bl] at hv
    | some l=> simp only[bl,I9] at hv;subst hv;have hb:=ii (P:=P) (w:=w) (isS:=false) (len:=s.length) (cap':=s.length) (m:=s.length) hl hh hm s.length (Jd _) (.inl ⟨rfl,rfl⟩) (.inl rfl) s.length (Jd _) bh bl;refine⟨.string ⟨⟨(s.drop l).take (h-l)⟩⟩,?_,VR.of1 rfl⟩;unfold Instr.sliceAt;rw[Sem.run_bind,bn hE hu];simp only[Result.andThen_ok];unfold Instr.slice;rw[Sem.run_bind,bn hE hu];simp only[Result.andThen_ok,Option.isSome_none,J1,if_false];have hsz:(⟨⟨s⟩⟩:ByteArray).size=s.length:=rfl;rw[hsz,Sem.run_bind,hb];simp only[Result.andThen_ok,lJ];rfl
 ·rename_i e a len c hu;cases hsp0:gar a with
  | true=>rw[hsp0] at hv;exact nomatch hv
  | false=>
  rw[hsp0,JP] at hv;split at hv
  ·rename_i sz m hs bm;cases bh:bound hi len m with
   | none=>simp[bh] at hv
   | some h=>
    simp only[bh] at hv;cases hck:(ble h m&&(mx.isNone||hi.isSome)) with
    | false=>simp[hck] at hv
    | true=>
    simp only[hck,Jo] at hv;simp only[Ja,J4,Option.isNone_iff_eq_none] at hck;obtain⟨hhm,hmh⟩:=hck;have hhm:h<=m:=I7 hhm;have hmh:mx=none \/ hi≠none:=hmh.imp id (by intro h1 h2;simp[h2] at h1);cases bl:bound lo 0 h with
    | none=>simp[bl] at hv
    | some l=>
     simp only[bl] at hv;have hlh:l<=h:=Hj bl (JY _);obtain⟨c',m',a',rfl,hmost,bm',hmm,key⟩:∃c' m' a',x'=.slice a' len c'/\c / 2<=c'/\(mx=none/\m'=c' \/ mx≠none/\bound mx (c / 2) (c / 2)=some m')/\m<=m' /\
       VR ρ v (.slice (if m'=l then a' else a'.map (·.add (l*sz))) (h-l) (m'-l)):=by
      cases a with
      | none=>
       rw[hx.nilslice];refine⟨c / 2,m,none,rfl,Jd _,?_,Jd _,?_⟩
       ·cases mx with
        | none=>simp[bound] at bm;exact .inl ⟨rfl,bm.symm⟩
        | some _=>exact .inr ⟨by simp,bm⟩
       ·generalize hop:gO mx c=op at hv;have hop1:op<=1:=by subst hop;unfold gO;split <;> omega
        cases hcc:(beq m l&&(!beq op 0) && !beq l 0) with
        | true=>simp[hcc] at hv;subst hv;exact VR.unk ρ _
        | false=>
         simp[hcc] at hv;subst hv;have e:(2*(m-l)+op) / 2=m-l:=by omega
         refine VR.of1 ?_;simp only[cW,cU,e];simp
      | some ad=>
       obtain⟨p,hp,hsp,e⟩:=hx.slice (.inr (.inr (by simpa [gar] using hsp0)));obtain⟨b,off,sp⟩:=ad;simp only at hp hsp;subst hsp;rw[e];refine⟨_,if mx.isNone then (if c%2=0 then c / 2 else c / 2+p.2) else m,_,rfl,by split <;> omega,?_,?_,?_⟩
       ·cases mx with
        | none=>exact .inl ⟨rfl,rfl⟩
        | some _=>exact .inr ⟨by simp,by simpa using bm⟩
       ·cases mx with
        | none=>simp[bound] at bm;subst bm;simp;split <;> omega
        | some _=>simp
       ·generalize hop:gO mx c=op at hv;cases hcc:(beq m l&&(!beq op 0) && !beq l 0) with
        | true=>simp[hcc] at hv;subst hv;exact VR.unk ρ _
        | false=>
         simp only[hcc,JP,I9] at hv;subst hv;have hbq:∀x y:Nat,beq x y=decide (x=y):=λx y=>by
          by_cases e:x=y
          ·subst e;simp
          ·have:beq x y=false:=by
            cases hbb:beq x y
            ·rfl
            ·exact absurd (I8 hbb) e
           simp[this,e]
         simp only[hbq] at hcc ⊢;have hlm:l<=m:=JV hlh hhm;have hA:(bif decide (m=l) then (⟨b,off,none⟩:Addr) else bif decide (l*sz=0) then ⟨b,off,none⟩ else ⟨b,off+l*sz,none⟩)=⟨b,off+(if m=l then 0 else l*sz),none⟩:=by
          by_cases h1:m=l
          ·simp[h1]
          ·by_cases h2:l*sz=0
           ·simp[h1,h2]
           ·simp[h1,h2]
         rw[hA];cases mx with
         | some mv=>
          simp only[gO] at hop;subst hop;simp only[Option.isNone_some,J1,if_false];have hB:(if m=l then some (⟨p.1,off,none⟩:Addr) else (some (⟨p.1,off,none⟩:Addr)).map (·.add (l*sz)))=some ⟨p.1,off+(if m=l then 0 else l*sz),none⟩:=by
           by_cases h1:m=l
           ·simp[h1]
           ·simp[h1,addr_add]
          rw[hB];have:=VR.mk_slice (ρ:=ρ) (b:=b) (off:=off+(if m=l then 0 else l*sz)) (n:=h-l) (c:=2*(m-l)+0) hp;simpa using this
         | none=>
          simp only[gO] at hop;simp[bound] at bm;simp only[Option.isNone_none,if_true];by_cases hc2:c%2=0
          ·have:op=0:=by omega
           subst this;simp only[hc2,if_true,bm];have hB:(if m=l then some (⟨p.1,off,none⟩:Addr) else (some (⟨p.1,off,none⟩:Addr)).map (·.add (l*sz)))=some ⟨p.1,off+(if m=l then 0 else l*sz),none⟩:=by
            by_cases h1:m=l
            ·simp[h1]
            ·simp[h1,addr_add]
           rw[hB];have:=VR.mk_slice (ρ:=ρ) (b:=b) (off:=off+(if m=l then 0 else l*sz)) (n:=h-l) (c:=2*(m-l)+0) hp;simpa using this
          ·have:op=1:=by omega
           subst this;simp only[hc2,if_false,bm];have hml:m=l->l=0:=by intro h1;simpa [h1] using hcc
           have hB:(if m+p.2=l then some (⟨p.1,off,none⟩:Addr) else (some (⟨p.1,off,none⟩:Addr)).map (·.add (l*sz)))=some ⟨p.1,off+(if m=l then 0 else l*sz),none⟩:=by
            by_cases h1:m=l
            ·have h0:=hml h1;subst h0;have h4:(⟨p.1,off,none⟩:Addr).add (0*sz)=⟨p.1,off,none⟩:=by simp[addr_add]
             simp only[KD,h4,h1,if_true,Kp,ite_self]
            ·have:¬ m+p.2=l:=by omega
             simp[h1,this,addr_add]
           rw[hB];have:=VR.mk_slice (ρ:=ρ) (b:=b) (off:=off+(if m=l then 0 else l*sz)) (n:=h-l) (c:=2*(m-l)+1) hp;have e2:(2*(m-l)+1)%2=1:=by omega
           have e3:(2*(m-l)+1) / 2=m-l:=by omega
           simp only[e2,e3] at this;have e4:m+p.2-l=m-l+p.2:=by omega
           rw[e4];simpa using this
     have hb:=ii (P:=P) (w:=w) (isS:=true) (len:=len) (cap':=c') (m:=m') hl hh hm (c / 2) hmost bm' hmh m hmm bh bl;refine⟨_,?_,key⟩;unfold Instr.sliceAt;rw[Sem.run_bind,bn hE hu];simp only[Result.andThen_ok];unfold Instr.slice;rw[Sem.run_bind,bn hE hu];simp only[Result.andThen_ok];rw[Sem.run_bind,hb];simp only[Result.andThen_ok,Sem.run_bind,dy hE hs,Sem.run_pure]
  ·cases hv
 ·rename_i n e ad hu;split at hv
  ·rename_i hmx sz hs;have emx:mx'=none:=hm.none_iff.1 rfl;subst emx;obtain⟨p,hp,hsp,rfl⟩:=hx.ptr;obtain⟨b,off,sp⟩:=ad;simp only at hp hsp;subst hsp;cases bh:bound hi n n with
   | none=>simp[bh] at hv
   | some h=>
    simp only[bh] at hv;cases bl:bound lo 0 h with
    | none=>simp[bl] at hv
    | some l=>
     simp only[bl,I9] at hv;subst hv;have hb:=ii (P:=P) (w:=w) (isS:=false) (len:=n) (cap':=n) (m:=n) hl hh hm n (Jd _) (.inl ⟨rfl,rfl⟩) (.inl rfl) n (Jd _) bh bl;refine⟨.slice (some (if n=l then ⟨p.1,off,none⟩ else (⟨p.1,off,none⟩:Addr).add (l*sz))) (h-l) (n-l),?_,?_⟩
     ·unfold Instr.sliceAt;rw[Sem.run_bind,bn hE hu];simp only[Result.andThen_ok,Instr.sureAddr,Sem.run_bind,Sem.run_pure];rw[hb];simp only[Result.andThen_ok,dy hE hs]
     ·have e1:(bif beq n l then (⟨b,off,none⟩:Addr) else bif beq (l*sz) 0 then ⟨b,off,none⟩ else ⟨b,off+l*sz,none⟩)=⟨b,off+(if n=l then 0 else l*sz),none⟩:=by
       by_cases hnl:n=l
       ·subst hnl;simp
       ·have:beq n l=false:=by
         cases hbb:beq n l
         ·rfl
         ·exact absurd (I8 hbb) hnl
        simp only[this,JP,hnl,if_false];cases hz:beq (l*sz) 0 with
        | true=>have:=I8 hz;simp[this]
        | false=>rfl
      have e2:(if n=l then (⟨p.1,off,none⟩:Addr) else (⟨p.1,off,none⟩:Addr).add (l*sz))=⟨p.1,off+(if n=l then 0 else l*sz),none⟩:=by
       split
       ·rfl
       ·rw[addr_add]
      rw[e1,e2];have:=VR.mk_slice (ρ:=ρ) (b:=b) (off:=off+(if n=l then 0 else l*sz)) (n:=h-l) (c:=2*(n-l)) hp;simpa using this
  ·cases hv
 ·cases hv
end
end
section
def bT.drop_take {r:Value->Value->Prop}:∀{l m:List Value},bT r l m->∀(i n:Nat),bT r ((l.drop i).take n) ((m.drop i).take n):=by
 intro l m h i n;refine bT.of_get (by simp[h.length]) λj v v' e e'=>?_;rw[List.getElem?_take] at e e';split at e
 ·rename_i hj;rw[if_pos hj] at e';rw[List.getElem?_drop] at e e';obtain⟨u,hu,hr⟩:=h.get _ _ e;rw[e'] at hu;cases hu;exact hr
 ·cases e
section
variable {P : Program} {E : Env} (hE : TypesOK P E) {ρ : Ren} {w : World}
include hE
def rR {t:TypeId} {x i x' i' v:Value} (hx:VR ρ x x') (hi:VR ρ i i') (hv:gI E t x i=some v):
  ∃v',(Instr.indexAt t x' i').run P w=.ok v' w/\VR ρ v v':=by
 unfold gI at hv;split at hv
 ·rename_i k j;rw[hi.int];split at hv
  ·rename_i n e ad hu;cases hb:Nat.blt j n with
   | false=>simp[hb] at hv
   | true=>
    simp only[hb,Jo] at hv;have hjn:j<n:=I7 hb;split at hv
    ·rename_i s hs;simp only[I9] at hv;subst hv;obtain⟨p,hp,hsp,rfl⟩:=hx.ptr;obtain⟨b,off,sp⟩:=ad;simp only at hp hsp;subst hsp;have hin:(0:Int)<=Int.ofNat j/\Int.ofNat j<(n:Int):=⟨Int.natCast_nonneg j,by simp;omega⟩;refine⟨.pointer (some ⟨p.1,off+j*s,none⟩),?_,?_⟩
     ·simp only[Instr.indexAt,asIntOf,Sem.run_bind,Sem.run_pure,Result.andThen_ok,bn hE hu,Instr.sureAddr,if_pos hin,dy hE hs,addr_add];simp
     ·rw[oC _ _ rfl];exact VR.mk_ptr hp
    ·cases hv
  ·rename_i e ad len c hu;cases hb:Nat.blt j len with
   | false=>simp[hb] at hv
   | true=>
    simp only[hb,Jo] at hv;have hjn:j<len:=I7 hb;split at hv
    ·rename_i s hs;simp only[I9] at hv;subst hv;obtain⟨p,hp,hsp,rfl⟩:=hx.slice (.inl (by omega));obtain⟨b,off,sp⟩:=ad;simp only at hp hsp;subst hsp;have hin:(0:Int)<=Int.ofNat j/\Int.ofNat j<(len:Int):=⟨Int.natCast_nonneg j,by simp;omega⟩;refine⟨.pointer (some ⟨p.1,off+j*s,none⟩),?_,?_⟩
     ·simp only[Instr.indexAt,asIntOf,Sem.run_bind,Sem.run_pure,Result.andThen_ok,bn hE hu,if_pos hin,dy hE hs,addr_add];simp
     ·rw[oC _ _ rfl];exact VR.mk_ptr hp
    ·cases hv
  ·cases hv
 ·cases hv
def rP {s:TypeId} {x x' v:Value} {f:Nat} (hx:VR ρ x x') (hv:gy E s x f=some v):
  ∃v',(Instr.fieldAt s x' f).run P w=.ok v' w/\VR ρ v v':=by
 unfold gy at hv;split at hv
 ·rename_i fs ad hu;split at hv
  ·rename_i fd hf;split at hv
   ·rename_i sz hs;simp only[I9] at hv;subst hv;obtain⟨p,hp,hsp,rfl⟩:=hx.ptr;obtain⟨b,off,sp⟩:=ad;simp only at hp hsp;subst hsp;refine⟨.pointer (some ⟨p.1,off+fd.offset,none⟩),?_,?_⟩
    ·simp only[Instr.fieldAt,Sem.run_bind,bn hE hu,Result.andThen_ok,hf,Instr.sureAddr,Sem.run_pure,fieldPlace,dy hE hs];simp[addr_add]
    ·rw[oC _ _ rfl];exact VR.mk_ptr hp
   ·cases hv
  ·cases hv
 ·cases hv
def xh {t:TypeId} {cs cs':List Value} {off:Nat} {v:Value} (hc:bT (ga ρ) cs cs') (hv:CJ E t cs off=some v):
  ∃v',(part t ⟨cs'⟩ off).run P w=.ok v' w/\pY ρ v v':=by
 unfold CJ at hv;split at hv
 ·rename_i d s hd hs;unfold part;rw[Sem.run_bind,kU hE hd];simp only[Result.andThen_ok];cases ha:iY d with
  | true=>
   simp only[ha,Jo] at hv;cases hb:ble (off+s) cs.length with
   | false=>simp[hb] at hv
   | true=>
    simp only[hb,Jo,I9] at hv;subst hv;refine⟨.agg ((⟨cs'⟩:Array Value).extract off (off+s)),?_,?_⟩
    ·simp only[if_true,Sem.run_bind,dy hE hs,Result.andThen_ok,Sem.run_pure]
    ·refine .inr ⟨_,(cs'.drop off).take s,rfl,?_,hc.drop_take off s⟩;have:(⟨cs'⟩:Array Value).extract off (off+s)=⟨(cs'.drop off).take s⟩:=by apply Array.ext';simp[List.extract_eq_take_drop]
     rw[this]
  | false=>
   simp only[ha,JP] at hv;obtain⟨v',e,hr⟩:=hc.get off v hv;refine⟨v',?_,.inl hr⟩;have e2:(⟨cs'⟩:Array Value)[off]?=some v':=by simpa using e
   simp[e2]
 ·cases hv
def DC {s:TypeId} {x x' v:Value} {f:Nat} (hx:VR ρ x x') (hv:tu E s x f=some v):
  ∃v',(Instr.field s x' f).run P w=.ok v' w/\VR ρ v v':=by
 unfold tu at hv;split at hv
 ·rename_i fs cs hu;split at hv
  ·rename_i fd hf;obtain⟨cs',rfl,hc⟩:=hx.agg;obtain⟨v',h1,h2⟩:=xh hE (w:=w) hc hv;refine⟨v',?_,.inl h2⟩;simp only[Instr.field,Sem.run_bind,bn hE hu,Result.andThen_ok,hf,asAgg,Sem.run_pure,h1]
  ·cases hv
 ·cases hv
def Dh {t:TypeId} {x i x' i' v:Value} (hx:VR ρ x x') (hi:VR ρ i i') (hv:dA E t x i=some v):
  ∃v',(Instr.index t x' i').run P w=.ok v' w/\VR ρ v v':=by
 unfold dA at hv;split at hv
 ·rename_i k j;rw[hi.int];split at hv
  ·rename_i n e cs hu;cases hb:Nat.blt j n with
   | false=>simp[hb] at hv
   | true=>
    simp only[hb,Jo] at hv;have hjn:j<n:=I7 hb;split at hv
    ·rename_i s hs;obtain⟨cs',rfl,hc⟩:=hx.agg;obtain⟨v',h1,h2⟩:=xh hE (w:=w) hc hv;refine⟨v',?_,.inl h2⟩;have hin:(0:Int)<=Int.ofNat j/\Int.ofNat j<(n:Int):=⟨Int.natCast_nonneg j,by simp;omega⟩;simp only[Instr.index,asIntOf,Sem.run_bind,Sem.run_pure,Result.andThen_ok,bn hE hu,if_pos hin,dy hE hs];exact h1
    ·cases hv
  ·rename_i s hu;split at hv
   ·rename_i b hb;simp only[I9] at hv;subst hv;rw[hx.string];refine⟨_,?_,VR.of1 rfl⟩;have e:(⟨⟨s⟩⟩:ByteArray)[j]?=some b:=by have hlt:j<s.length:=(List.getElem?_eq_some_iff.1 hb).1;rw[ByteArray.getElem?_lt' _ _ (by simpa [ByteArray.size] using hlt)];have:s[j]=b:=(List.getElem?_eq_some_iff.1 hb).2;simp only[<-this];rfl
    have hin:(0:Int)<=Int.ofNat j:=Int.natCast_nonneg j;simp only[Instr.index,asIntOf,Sem.run_bind,Sem.run_pure,Result.andThen_ok,bn hE hu,if_pos hin];have e2:(Int.ofNat j).toNat=j:=rfl;rw[e2,e];rfl
   ·cases hv
  ·cases hv
 ·cases hv
end
end
def oh {ρ:Ren} {v v':Value} (hc:cell1 v=true) (h:ga ρ v v'):cW ρ v=some v'/\v'.oneCell'=true:=by
 have hn:v≠unk:=by intro e;subst e;simp[cell1,unk] at hc
 have hd:=h.resolve_left hn;refine⟨hd,?_⟩;cases v with
 | agg _=>simp[cell1] at hc
 | tuple _=>simp[cell1] at hc
 | chan _=>simp[cell1] at hc
 | func fn a b=>
  cases fn <;> simp only[cW,cU] at hd
  ·split at hd
   ·simp at hd;subst hd;rfl
   ·cases hd
  all_goals cases hd
 | iface t v=>
  simp only[cW] at hd;split at hd
  ·simp at hd;subst hd;rfl
  ·cases hd
 | pointer a=>
  cases a with
  | none=>simp[cW,cU] at hd;subst hd;rfl
  | some a=>
   simp only[cW,cU] at hd;split at hd
   ·simp at hd;subst hd;rfl
   ·cases hd
 | slice a n c=>
  cases a with
  | none=>simp[cW,cU] at hd;subst hd;rfl
  | some a=>
   simp only[cW,cU] at hd;split at hd
   ·simp only[I9] at hd;subst hd;rfl
   ·by_cases q:n=0/\c=0
    ·rw[if_pos q,I9] at hd;subst hd;rfl
    ·rw[if_neg q] at hd;exact nomatch hd
   ·cases hd
 | map r=>
  cases r with
  | none=>simp[cW,cU] at hd;subst hd;rfl
  | some r=>
   simp only[cW,cU] at hd;split at hd
   ·simp at hd;subst hd;rfl
   ·cases hd
 | float _ _=>simp[cW,cU] at hd
 | complex _ _ _=>simp[cW,cU] at hd
 | _=>simp[cW,cU] at hd;subst hd;rfl
def VR.scalar {ρ:Ren} {v v':Value} (h:VR ρ v v') (ha:∀l,v ≠ .agg l) (ht:∀l,v ≠ .tuple l):ga ρ v v':=by
 rcases h with (h | ⟨_,_,e,_⟩) | ⟨_,_,e,_⟩
 ·exact h
 ·exact absurd e (ha _)
 ·exact absurd e (ht _)
def bZ {ρ:Ren} {v v':Value} (h:ga ρ v v') (hv:cellsOfV v=[v]) (hc:(cellsOfV v).all cell1=true):
  ∃l',v'.cells=⟨l'⟩/\bT (ga ρ) (cellsOfV v) l'/\∀u∈l',u.oneCell'=true:=by
 rw[hv] at hc ⊢;obtain⟨hd,h2⟩:=oh (by simpa using hc) h;refine⟨[v'],?_,⟨h,trivial⟩,by simpa using h2⟩;cases v' <;> first | rfl | simp[Value.oneCell'] at h2
def mB {ρ:Ren} {v v':Value} (h:VR ρ v v') (hc:(cellsOfV v).all cell1=true):
  ∃l',v'.cells=⟨l'⟩/\bT (ga ρ) (cellsOfV v) l'/\∀u∈l',u.oneCell'=true:=by
 cases v with
 | agg a=>
  obtain⟨l⟩:=a;obtain⟨l',rfl,hl⟩:=h.agg;refine⟨l',rfl,hl,?_⟩;intro u hu;obtain⟨i,hi⟩:=List.getElem?_of_mem hu;have hlt:i<l.length:=by have:=hl.length;have:=(List.getElem?_eq_some_iff.1 hi).1;omega
  obtain⟨v',hv',hr⟩:=hl.get i l[i] (by simp[hlt]);rw[hi] at hv';cases hv';exact (oh (Jv.1 hc _ (J6 hlt)) hr).2
 | tuple l=>simp[cellsOfV,cell1] at hc
 | bool _=>exact bZ (h.scalar (by simp) (by simp)) rfl hc
 | int _ _=>exact bZ (h.scalar (by simp) (by simp)) rfl hc
 | float _ _=>exact bZ (h.scalar (by simp) (by simp)) rfl hc
 | complex _ _ _=>exact bZ (h.scalar (by simp) (by simp)) rfl hc
 | string _=>exact bZ (h.scalar (by simp) (by simp)) rfl hc
 | pointer _=>exact bZ (h.scalar (by simp) (by simp)) rfl hc
 | slice _ _ _=>exact bZ (h.scalar (by simp) (by simp)) rfl hc
 | map _=>exact bZ (h.scalar (by simp) (by simp)) rfl hc
 | chan _=>exact bZ (h.scalar (by simp) (by simp)) rfl hc
 | func _ _ _=>exact bZ (h.scalar (by simp) (by simp)) rfl hc
 | nilFunc=>exact bZ (h.scalar (by simp) (by simp)) rfl hc
 | iface _ _=>exact bZ (h.scalar (by simp) (by simp)) rfl hc
 | nilIface=>exact bZ (h.scalar (by simp) (by simp)) rfl hc
def xG (off:Nat):∀(l:List Value) (k:Nat) (cs:Array Value),off+k+l.length<=cs.size ->
  ((l.zipIdx k).foldl (λ(cs:Array Value) (x:Value × Nat)=>cs.setIfInBounds (off+x.2) x.1) cs).toList=lay cs.toList (off+k) l
 | [],k,cs,_=>by simp[lay]
 | a :: l,k,cs,h=>by
  simp only[Jz] at h;simp only[List.zipIdx_cons,List.foldl_cons];rw[xG off l (k+1) (cs.setIfInBounds (off+k) a) (by simp;omega)];have hlt:off+k<cs.toList.length:=by simp;omega
  simp only[lay,Array.toList_setIfInBounds,Jz];have e1:(cs.toList.set (off+k) a).take (off+(k+1))=cs.toList.take (off+k) ++ [a]:=by rw[show off+(k+1)=(off+k)+1 by omega,List.take_succ_eq_append_getElem (by simpa using hlt)];simp[List.take_set_of_le]
  have e2:(cs.toList.set (off+k) a).drop (off+(k+1)+l.length)=cs.toList.drop (off+k+(l.length+1)):=by
   rw[List.drop_set_of_lt (by omega)]
   congr 1
   omega
  rw[e1,e2];simp
def Hn {ρ:Ren} {cs cs' l l':List Value} (h:bT (ga ρ) cs cs') (hl:bT (ga ρ) l l') (off:Nat):bT (ga ρ) (lay cs off l) (lay cs' off l'):=by unfold lay;have h1:=h.drop_take 0 off;have h2:=h.drop_take (off+l.length) cs.length;have e1:(cs.drop (off+l.length)).take cs.length=cs.drop (off+l.length):=List.take_of_length_le (by simp);have e2:(cs'.drop (off+l.length)).take cs.length=cs'.drop (off+l.length):=List.take_of_length_le (by simp[h.length]);rw[e1,e2] at h2;rw[<-hl.length];simp only[List.drop_zero] at h1;exact (h1.append hl).append h2
def Aa {cs l:List Value} {off:Nat} (h:off+l.length<=cs.length):(lay cs off l).length=cs.length:=by simp[lay];omega
def na {ρ:Ren} {pl pl':Nat->Option (Nat × Nat)} (hpl:∀i p,pl i=some p->pl' i=some p):∀(parts:List (Nat × Value)) (parts':List (Nat × Value)) (cs cs' r:List Value),
  parts.length=parts'.length->(∀(i:Nat) p p',parts[i]?=some p->parts'[i]?=some p'->p.1=p'.1/\VR ρ p.2 p'.2)->bT (ga ρ) cs cs'->dx pl cs parts=some r ->
  ∃r',Instr.fill pl' ⟨cs'⟩ parts'=some ⟨r'⟩/\bT (ga ρ) r r'
 | [],[],cs,cs',r,_,_,hc,hf=>by simp[dx] at hf;subst hf;exact⟨cs',rfl,hc⟩
 | (i,v) :: ps,(i',v') :: ps',cs,cs',r,hl,hp,hc,hf=>by
  obtain⟨e,hv⟩:=hp 0 (i,v) (i',v') (by simp) (by simp);simp only at e hv;subst e;simp only[dx] at hf;cases hi:pl i with
  | none=>simp[hi] at hf
  | some p=>
   obtain⟨off,size⟩:=p;simp only[hi] at hf;cases hck:(beq (cellsOfV v).length size&&ble (off+(cellsOfV v).length) cs.length&&(cellsOfV v).all cell1) with
   | false=>simp[hck] at hf
   | true=>
    simp only[hck,Jo] at hf;simp only[Ja] at hck;obtain⟨⟨h1,h2⟩,h3⟩:=hck;have h1:=I8 h1;have h2:=I7 h2;obtain⟨l',hl',ha,_⟩:=mB hv h3;have hlen:=ha.length;obtain⟨r',hr',hall⟩:=na hpl ps ps' (lay cs off (cellsOfV v)) (lay cs' off l') r (by simpa using hl)
     (λj p p' e e'=>hp (j+1) p p' (by simpa using e) (by simpa using e')) (Hn hc ha off) hf
    refine⟨r',?_,hall⟩;unfold Instr.fill;rw[hpl i _ hi];simp only[hl'];have hcl:=hc.length;have hsz:(⟨l'⟩:Array Value).size=size:=by simp;omega
    have hle:¬ (off+(⟨l'⟩:Array Value).size > (⟨cs'⟩:Array Value).size):=by simp;omega
    have hcond:(decide ((⟨l'⟩:Array Value).size≠size)||decide (off+(⟨l'⟩:Array Value).size > (⟨cs'⟩:Array Value).size))=false:=by simp only[Bool.or_eq_false_iff,decide_eq_false_iff_not,ne_eq,hsz,not_true_eq_false,not_false_eq_true,true_and];rw[<-hsz];exact hle
    rw[hcond];simp only[J1,if_false];have hfold:(⟨l'⟩:Array Value).zipIdx.foldl (λ(cs:Array Value) (x:Value × Nat)=>cs.setIfInBounds (off+x.2) x.1) ⟨cs'⟩=⟨lay cs' off l'⟩:=by apply Array.ext';rw[<-Array.foldl_toList];have:=xG off l' 0 ⟨cs'⟩ (by simp;omega);simpa using this
    have hfold2:(⟨l'⟩:Array Value).zipIdx.foldl (λ(cs:Array Value) (x:Value × Nat)=>match x with | (c,j)=>cs.setIfInBounds (off+j) c) ⟨cs'⟩=⟨lay cs' off l'⟩:=hfold;rw[hfold2];exact hr'
 | [],_ :: _,_,_,_,hl,_,_,_=>by simp at hl
 | _ :: _,[],_,_,_,hl,_,_,_=>by simp at hl
section
section
variable {P : Program} {E : Env} (hE : TypesOK P E) {ρ : Ren} {w : World}
include hE
def vu {t:TypeId} {z:Value} (hz:zeroV E t=some z) (w:World):(zeroValue t).run P w=.ok z w/\plain z=true:=by
 unfold zeroV Env.info at hz;cases ht:E.types.get t with
 | none=>simp[ht] at hz
 | some i=> simp only[ht] at hz;exact⟨by simp[zeroValue,typeInfo,hE.types t i ht,hz],hE.zeros t i z ht hz⟩
def eU {t:TypeId} {l:List Value} (hz:cK E t=some l) (w:World):∃z,(zeroValue t).run P w=.ok z w/\z.cells=⟨l⟩/\bT (ga ρ) l l:=by
 unfold cK at hz;cases ht:E.info t with
 | none=>simp[ht] at hz
 | some i=>
  simp only[ht] at hz;cases hi:i.zero with
  | none=>simp[hi] at hz
  | some z=>
   simp only[hi,I9] at hz;have h0:zeroV E t=some z:=by simp[zeroV,ht,hi]
   obtain⟨h1,h2⟩:=vu hE h0 w;refine⟨z,h1,?_,?_⟩
   ·subst hz;cases z <;> first | rfl | skip
   ·subst hz;unfold plain at h2;split at h2
    ·rename_i cs;obtain⟨l⟩:=cs;refine bT.of_get rfl λi v v' e e'=>?_;rw[e] at e';cases e';exact .inr (jR (Jv.1 h2 v (List.mem_of_getElem? e)))
    ·rename_i hna;have hd:=jR (ρ:=ρ) h2;have:cellsOfV z=[z]:=by cases z <;> first | rfl | exact absurd rfl (hna _)
     rw[this];exact⟨.inr hd,trivial⟩
def tc (w:World):∀(fs:List Field) (pl:List (Nat × Nat)),j3 E fs=some pl ->
  (fs.mapM λf=>do pure (f.offset,<-sizeOf f.type):Sem (List (Nat × Nat))).run P w=.ok pl w
 | [],pl,h=>by simp[j3] at h;subst h;simp
 | f :: fs,pl,h=>by
  simp only[j3] at h;cases hs:E.size f.type with
  | none=>simp[hs] at h
  | some s=>
   simp only[hs] at h;cases hp:j3 E fs with
   | none=>simp[hp] at h
   | some l=> simp only[hp,I9] at h;subst h;have ih:=tc w fs l hp;simp only[List.mapM_cons,Sem.run_bind,dy hE hs,Result.andThen_ok,Sem.run_pure,ih]
def DI {t:TypeId} {parts parts':List (Nat × Value)} {v:Value} (hl:parts.length=parts'.length)
  (hp:∀(i:Nat) p p',parts[i]?=some p->parts'[i]?=some p'->p.1=p'.1/\VR ρ p.2 p'.2) (hv:cI E t parts=some v):
  ∃v',(Instr.build t ⟨parts'⟩).run P w=.ok v' w/\VR ρ v v':=by
 unfold cI at hv;split at hv
 ·rename_i fs z hu hz;cases hpl:j3 E fs.toList with
  | none=>simp[hpl] at hv
  | some pl=>
   simp only[hpl] at hv;cases hf:dx (λi=>pl[i]?) z parts with
   | none=>simp[hf] at hv
   | some cs=>
    simp only[hf,I9] at hv;subst hv;obtain⟨z0,hz1,hz2,hz3⟩:=eU (ρ:=ρ) hE hz w;obtain⟨r',hr',hall⟩:=na (pl':=λi=>(⟨pl⟩:Array (Nat × Nat))[i]?) (by intro i p h;simpa using h) parts parts' z z cs hl hp hz3 hf;refine⟨.agg ⟨r'⟩,?_,.inl (.inr ⟨_,_,rfl,rfl,hall⟩)⟩;have hm:=tc hE w fs.toList pl hpl;have hm2:(fs.mapM λf=>do pure (f.offset,<-sizeOf f.type):Sem (Array (Nat × Nat))).run P w=.ok ⟨pl⟩ w:=by rw[Array.mapM_eq_mapM_toList];rw[Sem.run_map,hm];rfl
    simp only[Instr.build];rw[Sem.run_bind,hz1];simp only[Result.andThen_ok];rw[Sem.run_bind,bn hE hu];simp only[Result.andThen_ok];rw[Sem.run_bind,hm2];simp only[Result.andThen_ok,hz2,hr',Sem.run_pure]
 ·rename_i n e z hu hz;split at hv
  ·rename_i s hs;cases hf:dx (λi=>some (i*s,s)) z parts with
   | none=>simp[hf] at hv
   | some cs=> simp only[hf,I9] at hv;subst hv;obtain⟨z0,hz1,hz2,hz3⟩:=eU (ρ:=ρ) hE hz w;obtain⟨r',hr',hall⟩:=na (pl':=λi=>some (i*s,s)) (by intro i p h;exact h) parts parts' z z cs hl hp hz3 hf;refine⟨.agg ⟨r'⟩,?_,.inl (.inr ⟨_,_,rfl,rfl,hall⟩)⟩;simp only[Instr.build,Sem.run_bind,hz1,Result.andThen_ok,bn hE hu,hz2,dy hE hs,hr'];rfl
  ·cases hv
 ·cases hv
end
end
section
def mL:∀(l:List Value) (bs:List UInt8),bytesOf l=some bs->∃ns:List Int,l=ns.map (Value.int .u8)/\bs=ns.map λn=>UInt8.ofNat n.toNat
 | [],bs,h=>by simp[bytesOf] at h;subst h;exact⟨[],rfl,rfl⟩
 | v :: l,bs,h=>by
  unfold bytesOf at h;split at h
  ·rename_i e;cases e
  ·rename_i n l' e;simp only[List.cons.injEq] at e;obtain⟨rfl,rfl⟩:=e;cases hr:bytesOf l with
   | none=>simp[hr] at h
   | some r=> simp only[hr,I9] at h;obtain⟨ns,e1,e2⟩:=mL l r hr;exact⟨n :: ns,by simp[e1],by rw[<-h,e2];rfl⟩
  ·cases h
def si {ρ:Ren}:∀(ns:List Int) (l':List Value),bT (ga ρ) (ns.map (Value.int .u8)) l'->l'=ns.map (Value.int .u8)
 | [],[],_=>rfl
 | n :: ns,v :: l,⟨h1,h2⟩=>by have:=(VR.of0 h1).int;rw[this,si ns l h2];rfl
 | [],_ :: _,h=>h.elim
 | _ :: _,[],h=>h.elim
def rD:∀(ns:List Int) (s:List UInt8),ns.foldl (λ(r:ByteArray) n=>r.push (UInt8.ofNat n.toNat)) ⟨⟨s⟩⟩=⟨⟨s++ns.map λn=>UInt8.ofNat n.toNat⟩⟩
 | [],s=>by simp
 | n :: ns,s=>by
  simp only[List.foldl_cons,J5];have:(⟨⟨s⟩⟩:ByteArray).push (UInt8.ofNat n.toNat)=⟨⟨s ++ [UInt8.ofNat n.toNat]⟩⟩:=by simp[ByteArray.push]
  rw[this,rD ns];simp
def pc {P:Program} (d:Nat) (t:TypeId):sameLayout P (d+1) t t=true:=by simp[sameLayout]
def yo {P:Program} {e:TypeId} {k count:Nat} (hco:P.cellsOf e=k) (hk:0<k) (hc:0<count):liesAt P P.depth e count 0 e 1=true:=by
 have hrow:rowAt P (sameLayout P P.depth · e) P.depth e count 0 1=true:=by
  have hd:P.depth=(2*(P.types.size+Made.depth)+1)+1:=by unfold Program.depth;omega
  have hs2:sameLayout P P.depth e e=true:=by rw[hd];exact pc _ _
  generalize hg:(sameLayout P P.depth · e)=fits;have hf:fits e=true:=by rw[<-hg];exact hs2
  rw[hd];unfold rowAt;simp only[hco];rw[if_neg (by omega)];simp[hf];exact .inl (by omega)
 have hd:P.depth=(2*(P.types.size+Made.depth)+1)+1:=by unfold Program.depth;omega
 generalize hg:(sameLayout P P.depth · e)=fits at hrow;rw[hd];unfold liesAt;rw[hg,hrow];rfl
section
variable {P : Program} {E : Env} (hE : TypesOK P E) {ρ : Ren} {h : H} {w : World} (hr : eZ P ρ h w)
include hE hr
omit hE in
def DN {id:Nat} {p:Nat × Nat} (hp:ρ id=some p) {e:TypeId} {n:Nat} {op ro:Bool} {fz:Nat} {c:T Value} (ho:h.objs.get id=.row e n op ro fz c) {off len:Nat} (hle:off+len<=n)
  {bs:List UInt8} (hb:bytesOf (bq c off len)=some bs):
  ∃ns:List Int,(loadCells ⟨p.1,off,none⟩ len).run P w=.ok (ns.map (Value.int .u8)).toArray w/\ns.length=len/\bs=(ns.map λn=>UInt8.ofNat n.toNat):=by
 have hO:=hr.obj _ _ hp;rw[ho] at hO;obtain⟨l,hlen,hcell,hall⟩:=eR hO len off hle;obtain⟨ns,e1,e2⟩:=mL _ _ hb;rw[e1] at hall;have e3:=si ns l hall;have hrun:=run_loadCells_list (P:=P) w ⟨p.1,off,none⟩ l hcell;rw[hlen,e3] at hrun;refine⟨ns,hrun,?_,e2⟩;rw[e3] at hlen;simpa using hlen
def FN {s d:TypeId} {x x' v:Value} (hx:VR ρ x x') (hv:aY E h s d x=some v):
  ∃v',(convert s d x').run P w=.ok v' w/\VR ρ v v':=by
 unfold aY at hv;split at hv
 ·rename_i k0 k k1 n hs hd;simp only[I9] at hv;subst hv;rw[hx.int];refine⟨_,?_,VR.of1 rfl⟩;simp only[convert,Sem.run_bind,bn hE hs,bn hE hd,Result.andThen_ok];rfl
 ·rename_i b hs hd;simp only[I9] at hv;subst hv;rw[hx.string];refine⟨_,?_,VR.of1 rfl⟩;simp only[convert,Sem.run_bind,bn hE hs,bn hE hd,Result.andThen_ok];rfl
 ·rename_i k0 k n hs hd;simp only[I9] at hv;subst hv;rw[hx.int];refine⟨_,?_,VR.of1 rfl⟩;simp only[convert,Sem.run_bind,bn hE hs,bn hE hd,Result.andThen_ok,Conv.intToString];rfl
 ·rename_i e a len c hs hd;split at hv
  ·rename_i he;split at hv
   ·simp only[I9] at hv;subst hv;rw[hx.nilslice];refine⟨_,?_,VR.of1 rfl⟩;rw[run_convert_bytes_string w s d e none len (c / 2) (cV hE hs) (cV hE he) (cV hE hd)];rfl
   ·rename_i ad;cases hsp0:ad.spot.isSome with
    | true=>rw[hsp0] at hv;exact nomatch hv
    | false=>
    rw[hsp0,JP] at hv;split at hv
    ·rename_i e' n op ro fz cs ho;cases hb:ble (ad.off+len) n with
     | false=>simp[hb] at hv
     | true=>
      simp only[hb,Jo] at hv;have hle:=I7 hb;cases hbs:bytesOf (bq cs ad.off len) with
      | none=>simp[hbs] at hv
      | some bs=> simp only[hbs,I9] at hv;subst hv;obtain⟨p,hp,hsp,rfl⟩:=hx.slice (.inr (.inr (by simpa using hsp0)));obtain⟨ns,hrun,_,e2⟩:=DN hr hp ho hle hbs;refine⟨.string ⟨⟨bs⟩⟩,?_,VR.of1 rfl⟩;rw[run_convert_bytes_string w s d e _ len _ (cV hE hs) (cV hE he) (cV hE hd)];rw[run_bytesToString w _ len _ ns hrun];have:=rD ns [];rw[show (ByteArray.empty:ByteArray)=⟨⟨[]⟩⟩ from rfl,this,e2];rfl
    ·cases hv
  ·cases hv
 ·rename_i t ad hs hd;split at hv
  ·rename_i e n op ro fz cs k ho hsz;cases hb:Nat.blt ad.off n with
   | false=>simp[hb] at hv
   | true=>
    simp only[hb,Jo,I9] at hv;subst hv;obtain⟨p,hp,hsp,rfl⟩:=hx.ptr;have hO:=hr.obj _ _ hp;rw[ho] at hO;obtain⟨cells,fr,hg,hn,_⟩:=hO;refine⟨_,?_,hx⟩;have hshape:w.shape? p.1=some (e,cells.size):=by simp[World.shape?,hg]
    have hlt:ad.off<cells.size:=Jp (I7 hb) hn;simp only[convert,Sem.run_bind,bn hE hs,bn hE hd,Result.andThen_ok,Conv.unsafePointer];simp only[Sem.run_bind,bn hE hd,Result.andThen_ok,Conv.seenAt,viewAt,run_shape,hshape,Option.isSome_some,if_true,Sem.run_pure,cellsIn,dy hE hsz];have:¬ cells.size<=ad.off:=by omega
    simp[this]
  ·cases hv
 ·rename_i u ad hs hd;split at hv
  ·rename_i e n op ro fz cs k ho hsz;cases hb:(beq e u&&beq ad.off 0&&ble (k+1) n) with
   | false=>simp[hb] at hv
   | true=>
    simp only[hb,Jo,I9] at hv;subst hv;simp only[Ja] at hb;obtain⟨⟨h1,h2⟩,h3⟩:=hb;have h1:=I8 h1;have h2:=I8 h2;have h3:=I7 h3;subst h1;obtain⟨p,hp,hsp,rfl⟩:=hx.ptr;have hO:=hr.obj _ _ hp;rw[ho] at hO;obtain⟨cells,fr,hg,hn,_⟩:=hO;refine⟨_,?_,hx⟩;have hshape:w.shape? p.1=some (e,cells.size):=by simp[World.shape?,hg]
    obtain⟨i,hi,hisz⟩:=uj hE hsz;have hco:P.cellsOf e=k+1:=by simp[Program.cellsOf,hi,hisz]
    have hcnt:0<cells.size / (k+1):=Nat.div_pos (by omega) (by omega);have hla:=yo (P:=P) hco (by omega) hcnt;have hva:(variablesAt ⟨p.1,ad.off,none⟩ e 1).run P w=.ok true w:=by simp only[variablesAt,Sem.run_bind,run_program,Result.andThen_ok,run_shape,hshape,hco,Sem.run_pure,h2,hla]
    simp only[convert,Sem.run_bind,bn hE hs,bn hE hd,Result.andThen_ok,Conv.unsafePointer];simp only[Conv.seenAt,viewAt,Sem.run_bind,run_shape,hshape,Option.isSome_some,if_true,Sem.run_pure,Result.andThen_ok,dy hE hsz,hva];simp
  ·cases hv
 ·cases hv
end
end
section
def wi {ρ:Ren} {v v':Value} (hs:mT v=true) (h:VR ρ v v'):cU ρ v=some v':=by
 have hn:v≠unk:=by intro e;subst e;simp[mT,unk] at hs
 have h1:=(h.scalar (by intro l e;subst e;simp[mT] at hs) (by intro l e;subst e;simp[mT] at hs)).resolve_left hn;cases v <;> first | exact h1 | simp[mT] at hs
def ow {ρ:Ren}:∀{l l':List Value},l.all mT=true->bT (VR ρ) l l'->fH ρ l=some l'
 | [],[],_,_=>rfl
 | v :: l,v' :: l',hs,⟨h1,h2⟩=>by simp only[JZ,Ja] at hs;simp only[fH,wi hs.1 h1,ow hs.2 h2]
 | [],_ :: _,_,h=>h.elim
 | _ :: _,[],_,h=>h.elim
def wD {ρ:Ren} {t:TM} {a:Act} {f g:Operand->Value} (hfg:∀x,VR ρ (f x) (g x)):∀(l:List Operand),bT (VR ρ) (l.map f) (l.map g)
 | []=>trivial
 | x :: l=>⟨hfg x,wD (t:=t) (a:=a) hfg l⟩
def mt {P:Program} {w:World} {r:Nat} {o:Obj} (h:w.heap[r]?=some o) (hc:∀c e f,o ≠ .cells c e f):(getObj r).run P w=.ok o w:=by
 cases o <;> simp only[getObj,Sem.run,h]
 exact absurd rfl (hc _ _ _)
def vK {ρ:Ren} {d:TypeDesc} {k k':Value} (hk:ml d k=true) (h:VR ρ k k'):k'=k:=by
 unfold ml at hk;split at hk
 ·exact h.int
 ·exact h.string
 ·cases hk
def qH {P:Program} {w:World} {kt:TypeId} {d:TypeDesc} (hu:P.underlying kt=some d) {v:Value} (hd:ml d v=true) (n:Nat) (b:Bool):(Instr.checkKey b (n+1) kt v).run P w=.ok () w:=by
 unfold Instr.checkKey;rw[Sem.run_bind,run_underlying hu];unfold ml at hd;split at hd
 ·rfl
 ·rfl
 ·cases hd
def wY {d:TypeDesc} {k a:Value} (hd:ml d k=true) {r:Bool} (h:nZ d k a=some r):Instr.sameNow d k a=some r:=by
 unfold nZ at h;split at h
 ·exact h
 ·cases h;simp[ml] at hd
 ·simp only[I9] at h;subst h;simp[Instr.sameNow,beq_toListBytes,ByteArray.toList_eq,eB]
 ·cases h
def qD {ρ:Ren} {d:TypeDesc} {k:Value} (hd:ml d k=true):∀(es:List (Value × Value)) (es':List MapEntry) (i:Nat) (r:Option Value),je ρ es es'->jE d k es=some r ->
  (r=none/\Instr.findNow d k es' i=some none) \/ ∃v j v',r=some v/\Instr.findNow d k es' i=some (some (j,v'))/\pY ρ v v'
 | [],[],i,r,_,hl=>by simp[jE] at hl;subst hl;exact .inl ⟨rfl,rfl⟩
 | (a,v) :: es,e :: es',i,r,⟨h1,h2,h3⟩,hl=>by
  simp only[jE] at hl;cases hq:nZ d k a with
  | none=>simp[hq] at hl
  | some b=>
   have hn:=wY hd hq;simp only[hq] at hl;unfold Instr.findNow;rw[h1,hn];cases b with
   | true=>simp only[I9] at hl;subst hl;exact .inr ⟨v,i,e.val,rfl,rfl,h2⟩
   | false=>exact qD hd es es' (i+1) r h3 hl
 | [],_ :: _,_,_,h,_=>h.elim
 | _ :: _,[],_,_,h,_=>h.elim
section
variable {P : Program} {E : Env} (hE : TypesOK P E) {ρ : Ren} {h : H} {w : World} (hr : eZ P ρ h w)
include hE hr
def z8 {t:TypeId} {x x' i i' v:Value} {ok:Bool} (hx:VR ρ x x') (hi:VR ρ i i') (hv:jJ E h t x i ok=some v):
  ∃v',(Instr.lookup t x' i' ok).run P w=.ok v' w/\VR ρ v v':=by
 unfold jJ at hv;split at hv
 ·rename_i k e hu;split at hv
  ·rename_i d hd;cases hkd:ml d i with
   | false=>simp[hkd] at hv
   | true=>
    simp only[hkd,Jo] at hv;split at hv
    ·rename_i r;split at hv
     ·rename_i es clock ho;obtain⟨p,hp,rfl⟩:=hx.map;have hO:=hr.obj _ _ hp;rw[ho] at hO;obtain⟨es',hg,her⟩:=hO;have hk:=vK hkd hi;subst hk;have hgo:=mt (P:=P) hg (by simp);have hck:∀b,(Instr.checkKey b 10000 k i').run P w=.ok () w:=λb=>qH (cV hE hd) hkd 9999 b;cases hl:jE d i' es with
      | none=>simp[hl] at hv
      | some r=>
       simp only[hl] at hv;have hfind:=qD hkd es es'.toList 0 r her hl;have hrun:∀{o:Option (Nat × Value)},Instr.findNow d i' es'.toList 0=some o->(Instr.findKey k i' es'.toList).run P w=.ok o w:=by intro o ho;simp only[Instr.findKey,Sem.run_bind,bn hE hd,Result.andThen_ok,ho,Sem.run_pure]
       rcases hfind with ⟨rfl,hf⟩ | ⟨u,j,u',rfl,hf,hu'⟩
       ·cases hz:zeroV E e with
        | none=>simp[hz] at hv
        | some z=>
         simp only[hz,I9] at hv;subst hv;obtain⟨h1,h2⟩:=vu hE hz w;refine⟨if ok then .tuple #[z,.bool false] else z,?_,?_⟩
         ·simp only[Instr.lookup,Sem.run_bind,bn hE hu,Result.andThen_ok,hgo,Sem.run_pure,hck,hrun hf,h1]
         ·cases ok
          ·exact rG h2
          ·exact .inr ⟨_,[z,.bool false],rfl,rfl,fE h2,.inl (.inr rfl),trivial⟩
       ·simp only[I9] at hv;subst hv;refine⟨if ok then .tuple #[u',.bool true] else u',?_,?_⟩
        ·simp only[Instr.lookup,Sem.run_bind,bn hE hu,Result.andThen_ok,hgo,Sem.run_pure,hck,hrun hf]
        ·cases ok
         ·exact .inl hu'
         ·exact .inr ⟨_,[u',.bool true],rfl,rfl,hu',.inl (.inr rfl),trivial⟩
     ·cases hv
    ·cases hv
  ·cases hv
 ·cases hv
def M8 {t:TypeId} {x x' v:Value} (tys:Array TypeId) (ht:tys[0]?=some t) (ty:TypeId) (hx:VR ρ x x') (hv:aX E h t x=some v):
  (Builtin.len_ tys ty #[x']).run P w=.ok v w/\VR ρ v v:=by
 unfold aX at hv;split at hv
 ·rename_i s hu;simp only[I9] at hv;subst hv;rw[hx.string];exact⟨by simp[Builtin.len_,ht,bn hE hu];rfl,VR.of1 rfl⟩
 ·rename_i e a n c hu;simp only[I9] at hv;subst hv;cases a with
  | none=>rw[hx.nilslice];exact⟨by simp[Builtin.len_,ht,bn hE hu];rfl,VR.of1 rfl⟩
  | some a=> obtain⟨_,_,rfl,_⟩:=hx.slice_some;exact⟨by simp[Builtin.len_,ht,bn hE hu];rfl,VR.of1 rfl⟩
 ·rename_i k e hu;simp only[I9] at hv;subst hv;rw[hx.nilmap];exact⟨by simp[Builtin.len_,ht,bn hE hu];rfl,VR.of1 rfl⟩
 ·rename_i k e r hu;split at hv
  ·rename_i es clock ho;simp only[I9] at hv;subst hv;obtain⟨p,hp,rfl⟩:=hx.map;have hO:=hr.obj _ _ hp;rw[ho] at hO;obtain⟨es',hg,her⟩:=hO;have hlen:es.length=es'.size:=by
    have:∀(a:List (Value × Value)) (b:List MapEntry),je ρ a b->a.length=b.length:=by
     intro a
     induction a with
     | nil=>intro b hb;cases b with | nil=>rfl | cons _ _=>exact hb.elim
     | cons x a ih=>intro b hb;cases b with | nil=>exact hb.elim | cons y b=>simp[ih b hb.2.2]
    simpa using this es es'.toList her
   have hgo:=mt (P:=P) hg (by simp);exact⟨by simp[Builtin.len_,ht,bn hE hu,hgo,hlen];rfl,VR.of1 rfl⟩
  ·cases hv
 ·cases hv
omit hr in
def Ni {t:TypeId} {x x' v:Value} (tys:Array TypeId) (ht:tys[0]?=some t) (ty:TypeId) (hx:VR ρ x x') (hv:akZ E t x=some v):
  (Builtin.cap_ tys ty #[x']).run P w=.ok v w/\VR ρ v v:=by
 unfold akZ at hv;split at hv
 ·rename_i e a n c hu;cases hb:beq (c%2) 0 with
  | false=>simp[hb] at hv
  | true=>
   simp only[hb,Jo,I9] at hv;subst hv;have hz:=I8 hb;cases a with
   | none=>rw[hx.nilslice];exact⟨by simp[Builtin.cap_,ht,bn hE hu];rfl,VR.of1 rfl⟩
   | some a=> obtain⟨_,_,rfl,hcc⟩:=hx.slice_some;rw[hcc hz];exact⟨by simp[Builtin.cap_,ht,bn hE hu];rfl,VR.of1 rfl⟩
 ·cases hv
end
def s9 {P:Program} {ρ:Ren} {w:World}:∀(l l':List Value) (x x' v:Value),VR ρ x x'->bT (VR ρ) l l'->nL x l=some v ->
  ∃v',(l'.foldlM Builtin.max2 x').run P w=.ok v' w/\VR ρ v v'
 | [],[],x,x',v,hx,_,hv=>by simp[nL] at hv;subst hv;exact⟨x',by simp,hx⟩
 | y :: l,y' :: l',x,x',v,hx,⟨hy,hl⟩,hv=>by
  unfold nL at hv;split at hv
  ·rename_i k a k2 b;rw[hx.int,hy.int];have hx2:VR ρ (.int k (if b > a then b else a)) (.int k (if b > a then b else a)):=VR.of1 rfl;obtain⟨v',h1,h2⟩:=s9 (P:=P) (w:=w) l l' _ _ v hx2 hl hv;refine⟨v',?_,h2⟩;simp only[List.foldlM_cons,Sem.run_bind,Builtin.max2,Sem.run_pure,Result.andThen_ok];exact h1
  ·cases hv
 | [],_ :: _,_,_,_,_,h,_=>h.elim
 | _ :: _,[],_,_,_,_,h,_=>h.elim
def sD {P:Program} {ρ:Ren} {w:World}:∀(l l':List Value) (x x' v:Value),VR ρ x x'->bT (VR ρ) l l'->qP x l=some v ->
  ∃v',(l'.foldlM Builtin.min2 x').run P w=.ok v' w/\VR ρ v v'
 | [],[],x,x',v,hx,_,hv=>by simp[qP] at hv;subst hv;exact⟨x',by simp,hx⟩
 | y :: l,y' :: l',x,x',v,hx,⟨hy,hl⟩,hv=>by
  unfold qP at hv;split at hv
  ·rename_i k a k2 b;rw[hx.int,hy.int];have hx2:VR ρ (.int k (if b<a then b else a)) (.int k (if b<a then b else a)):=VR.of1 rfl;obtain⟨v',h1,h2⟩:=sD (P:=P) (w:=w) l l' _ _ v hx2 hl hv;refine⟨v',?_,h2⟩;simp only[List.foldlM_cons,Sem.run_bind,Builtin.min2,Sem.run_pure,Result.andThen_ok];exact h1
  ·cases hv
 | [],_ :: _,_,_,_,_,h,_=>h.elim
 | _ :: _,[],_,_,_,_,h,_=>h.elim
end
section
def Gw {P:Program} {ρ:Ren} {h:H} {w:World} {t:TM} {a:Act} (hr:eZ P ρ h w) (ht:ek ρ t a) (x:Option Operand):OR ρ (x.map (ev t)) (x.map a.eval):=by
 cases x with
 | none=>trivial
 | some x=>exact j5 hr ht x
def kN {P:Program} {ρ:Ren} {h:H} {w:World} {t:TM} {a:Act} (hr:eZ P ρ h w) (ht:ek ρ t a) (l:List Operand):bT (VR ρ) (l.map (ev t)) (l.map a.eval):=
 wD (t:=t) (a:=a) (j5 hr ht) l
section
variable {P : Program} {E : Env} (hE : TypesOK P E) {ρ : Ren} {h : H} {w : World} (hr : eZ P ρ h w)
include hE hr
def yd {b:Builtin} {args args':List Value} {tys:Array TypeId} {v:Value} (ty:TypeId) (cs:Array Bool) (ha:bT (VR ρ) args args') (hv:bF E h b args tys.toList=some v):
  ∃v',(builtin b tys ty cs ⟨args'⟩).run P w=.ok (.value v') w/\VR ρ v v':=by
 unfold bF at hv;split at hv
 ·rename_i x t r htys
  match args',ha with
  | [x'],⟨hx,_⟩=>
   have h0:tys[0]?=some t:=by rw[<-Kb,htys];rfl
   obtain⟨h1,h2⟩:=M8 hE hr tys h0 ty hx hv;exact⟨v,by simp[builtin,h1],h2⟩
 ·rename_i x t r htys
  match args',ha with
  | [x'],⟨hx,_⟩=>
   have h0:tys[0]?=some t:=by rw[<-Kb,htys];rfl
   obtain⟨h1,h2⟩:=Ni (w:=w) hE tys h0 ty hx hv;exact⟨v,by simp[builtin,h1],h2⟩
 ·rename_i x l
  match args',ha with
  | x' :: l',⟨hx,hl⟩=> obtain⟨v',h1,h2⟩:=sD (P:=P) (w:=w) l l' x x' v hx hl hv;exact⟨v',by simp[builtin,Builtin.min_,h1],h2⟩
 ·rename_i x l
  match args',ha with
  | x' :: l',⟨hx,hl⟩=> obtain⟨v',h1,h2⟩:=s9 (P:=P) (w:=w) l l' x x' v hx hl hv;exact⟨v',by simp[builtin,Builtin.max_,h1],h2⟩
 ·rename_i n c
  match args',ha with
  | [x'],⟨hx,_⟩=> simp only[I9] at hv;subst hv;rw[hx.nilslice];exact⟨.pointer none,rfl,VR.of1 rfl⟩
 ·rename_i ad n c
  match args',ha with
  | [x'],⟨hx,_⟩=>
   cases hb:Nat.blt 1 c with
   | false=>simp[hb] at hv
   | true=>
    simp only[hb,Jo,I9] at hv;subst hv;have hc:=I7 hb;obtain⟨p,hp,hsp,rfl⟩:=hx.slice (.inr (.inl (by omega)));obtain⟨bk,off,sp⟩:=ad;simp only at hp hsp;subst hsp;refine⟨.pointer (some ⟨p.1,off,none⟩),?_,VR.mk_ptr hp⟩;have hne:¬ (if c%2=0 then c / 2 else c / 2+p.2)=0:=by split <;> omega
    generalize (if c%2=0 then c / 2 else c / 2+p.2)=m at hne;cases m with
    | zero=>exact absurd rfl hne
    | succ m=>rfl
 ·cases hv
def qE {t:TM} {a:Act} (ht:ek ρ t a) {o:Oper} {v:Value} (hl:light E t h o=some v):
  ∃v',(execOp a.eval o).run P w=.ok (.value v') w/\VR ρ v v':=by
 have hev:=j5 hr ht;unfold light at hl;unfold execOp;split at hl
 ·rename_i x e;simp only[I9] at hl;subst hl;exact⟨a.eval x,by simp[e],hev x⟩
 ·rename_i x e;simp only[I9] at hl;subst hl;exact⟨a.eval x,by simp[e],hev x⟩
 ·rename_i c x y e;have hc:=hev c;split at hl
  ·rename_i ec;rw[ec] at hc;simp only[I9] at hl;subst hl;exact⟨a.eval x,by simp[e,hc.bool,asBool],hev x⟩
  ·rename_i ec;rw[ec] at hc;simp only[I9] at hl;subst hl;exact⟨a.eval y,by simp[e,hc.bool,asBool],hev y⟩
  ·cases hl
 ·rename_i ty x e;have hx:=hev x;split at hl
  ·rename_i ad ex;rw[ex] at hx;obtain⟨p,hp,_,hx'⟩:=hx.ptr;obtain⟨v',h1,h2⟩:=xY hE hr hp hl;exact⟨v',by simp[e,hx',Instr.loadAt,Instr.sureAddr,h1],h2⟩
  ·cases hl
 ·rename_i x e;have hx:=hev x;split at hl
  ·rename_i ad ex;rw[ex] at hx;simp only[I9] at hl;subst hl;obtain⟨p,hp,_,hx'⟩:=hx.ptr;exact⟨.pointer (some ⟨p.1,ad.off,none⟩),by simp[e,hx'],by rw[hx'] at hx;exact hx⟩
  ·rename_i f fa fb ex;rw[ex] at hx;simp only[I9] at hl;subst hl;obtain⟨u,v,_,_,hx'⟩:=hx.func;exact⟨.func (.func f) ⟨u⟩ ⟨v⟩,by simp[e,hx'],by rw[hx'] at hx;exact hx⟩
  ·cases hl
 ·rename_i op ty x y yt e;obtain⟨h1,h2⟩:=Xn hE (w:=w) (hev x) (hev y) hl;refine⟨v,?_,h2⟩;simp only[e];rw[Sem.run_bind,h1];rfl
 ·rename_i op ty x e;have hx:=hev x;split at hl
  ·rename_i k n ex;rw[ex] at hx;refine⟨v,?_,zH (sE (.inl ⟨_,_,rfl⟩) hl)⟩;simp[e,hx.int,mn hl]
  ·rename_i b ex;rw[ex] at hx;refine⟨v,?_,zH (sE (.inr ⟨_,rfl⟩) hl)⟩;simp[e,hx.bool,mn hl]
  ·cases hl
 ·rename_i s d x e;obtain⟨v',h1,h2⟩:=FN hE hr (hev x) hl;exact⟨v',by simp[e,h1],h2⟩
 ·rename_i ty parts e
  have hb:=DI hE (w:=w) (ρ:=ρ) (parts':=parts.toList.map λp=>(p.1,a.eval p.2)) (by simp) (by
   intro i p p' e1 e2;rw[JX] at e1 e2;cases hq:parts.toList[i]? with
   | none=>simp[hq] at e1
   | some q=>
    simp only[hq,KD,I9] at e1 e2;subst e1;subst e2
    exact⟨rfl,hev _⟩) hl
  obtain⟨v',h1,h2⟩:=hb;refine⟨v',?_,h2⟩;have ep:(parts.map λ(x:Nat × Operand)=>match x with | (i,x)=>(i,a.eval x))=⟨parts.toList.map λp=>(p.1,a.eval p.2)⟩:=by apply Array.ext';simp
  simp only[e];rw[ep,Sem.run_bind,h1];rfl
 ·rename_i s x f e;obtain⟨v',h1,h2⟩:=rP hE (w:=w) (hev x) hl;exact⟨v',by simp[e,h1],h2⟩
 ·rename_i s x f e;obtain⟨v',h1,h2⟩:=DC hE (w:=w) (hev x) hl;exact⟨v',by simp[e,h1],h2⟩
 ·rename_i ty x i e;obtain⟨v',h1,h2⟩:=rR hE (w:=w) (hev x) (hev i) hl;exact⟨v',by simp[e,h1],h2⟩
 ·rename_i ty x i e;obtain⟨v',h1,h2⟩:=Dh hE (w:=w) (hev x) (hev i) hl;exact⟨v',by simp[e,h1],h2⟩
 ·rename_i ty x lo hi mx e;obtain⟨v',h1,h2⟩:=D5 hE (w:=w) (hev x) (Gw hr ht lo) (Gw hr ht hi) (Gw hr ht mx) hl;exact⟨v',by simp[e,h1],h2⟩
 ·rename_i x i e;have hx:=hev x;split at hl
  ·rename_i l ex;rw[ex] at hx;obtain⟨l',hx',hall⟩:=hx.tuple;obtain⟨v',e1,e2⟩:=hall.get i v hl;refine⟨v',?_,.inl e2⟩;have:(⟨l'⟩:Array Value)[i]?=some v':=by simpa using e1
   simp[e,hx',Instr.extract,this]
  ·cases hl
 ·rename_i ty x e;have hx:=hev x;split at hl
  ·cases hl
  ·rename_i d hne hu;cases hs:mT (ev t x) with
   | false=>simp[hs] at hl
   | true=>
    simp only[hs,Jo,I9] at hl;subst hl;have hd:=wi hs hx;refine⟨.iface ty (a.eval x),?_,VR.of1 (by simp[cW,hd])⟩;have hm:(Instr.makeInterface ty (a.eval x)).run P w=.ok (.iface ty (a.eval x)) w:=by unfold Instr.makeInterface;rw[Sem.run_bind,bn hE hu];cases d <;> first | rfl | exact absurd rfl (hne _)
    simp[e,hm]
  ·cases hl
 ·rename_i f first caps e
  cases hc:((first.toList.map (ev t)).all mT&&(caps.toList.map (ev t)).all mT) with
  | false=>simp only[hc,JP] at hl;cases hl
  | true=>
   simp only[hc,Jo,I9] at hl;subst hl;simp only[Ja] at hc;have d1:=ow hc.1 (kN hr ht first.toList);have d2:=ow hc.2 (kN hr ht caps.toList);refine⟨.func (.func f) ⟨first.toList.map a.eval⟩ ⟨caps.toList.map a.eval⟩,?_,VR.of1 (by simp only[cW,d1,d2])⟩;have e1:first.map a.eval=⟨first.toList.map a.eval⟩:=by apply Array.ext';simp
   have e2:caps.map a.eval=⟨caps.toList.map a.eval⟩:=by apply Array.ext';simp
   simp[e,Instr.makeFunc,e1,e2]
 ·rename_i ty x i ok e;obtain⟨v',h1,h2⟩:=z8 hE hr (hev x) (hev i) hl;exact⟨v',by simp[e,h1],h2⟩
 ·rename_i c e;split at hl
  ·rename_i b ec;obtain⟨v',h1,h2⟩:=yd hE hr o.type (c.args.map λ| .const _=>true | _=>false) (kN hr ht c.args.toList) hl;refine⟨v',?_,h2⟩;have e1:c.args.map a.eval=⟨c.args.toList.map a.eval⟩:=by apply Array.ext';simp
   simp only[e,Sem.run_bind,resolve,ec,Sem.run_pure,Result.andThen_ok,invoke,e1];exact h1
  ·cases hl
 ·cases hl
end
end
end Go.Ev
