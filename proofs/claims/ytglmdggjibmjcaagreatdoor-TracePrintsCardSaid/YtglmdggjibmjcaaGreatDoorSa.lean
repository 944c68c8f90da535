/-
  PRINTING A SCRIPT, purely: what a command's line is, or that it can't be written.
-/
import Derived.Lib.FieldsP
import Derived.Lib.MapLaws
import Derived.Lib.Split
import Derived.Lib.SplitLaws
import Derived.Lib.ItoaNum
noncomputable section
set_option linter.unusedVariables false
set_option linter.unusedSimpArgs false
set_option maxRecDepth 100000
open Nat (ble beq)
namespace Go.Ev
open Go
abbrev Bs:=List UInt8
end Go.Ev
namespace Go.Ev
def FE (b:UInt8):Bool:=ble 48 b.toNat&&ble b.toNat 57
structure dj where
 line:Nat
 op:Nat
 label:Bs
 on:List Bs
 n:Int
 m:Int
 k:Int
 kind:Nat
 texts:List Bs
inductive Sg | L | h | o | n | m | k | c | t
deriving DecidableEq
structure Form where
 word:Bs
 rest:List Sg
 more:Bool
def bs (s:List Nat):Bs:=s.map UInt8.ofNat
def str (s:String):Bs:=s.toList.map λc=>UInt8.ofNat c.toNat
open Sg in
def BN : List Form:= [⟨str "pool", [L, h], false⟩, ⟨str "block", [L, h, n], false⟩, ⟨str "strdup", [L, h, t], false⟩, ⟨str "read", [h, n, m], false⟩, ⟨str "write", [h, n, t], false⟩,
 ⟨str "resize", [h, n], false⟩, ⟨str "append", [h, t], true⟩, ⟨str "size", [h], false⟩, ⟨str "alloc", [h, n, m], false⟩, ⟨str "objects", [h], false⟩, ⟨str "load", [h, k, n, m], false⟩,
 ⟨str "store", [h, k, n, t], false⟩, ⟨str "free", [h, k], false⟩, ⟨str "begin", [h, m], false⟩, ⟨str "grow", [h, t], true⟩, ⟨str "blank", [h, n], false⟩, ⟨str "shrink", [h, n], false⟩,
 ⟨str "finish", [h], false⟩, ⟨str "abort", [h], false⟩, ⟨str "limit", [h, o], false⟩, ⟨str "set", [h, t, n], false⟩, ⟨str "get", [h, t], false⟩, ⟨str "drop", [h, t], false⟩,
 ⟨str "clean", [h, c, n], false⟩, ⟨str "pre", [h, c, n], false⟩, ⟨str "kill", [h, n], false⟩, ⟨str "run", [h, n], false⟩, ⟨str "destroy", [h], false⟩, ⟨str "clear", [h], false⟩,
 ⟨str "steal", [h, h], false⟩, ⟨str "reparent", [h, h, h], false⟩, ⟨str "refer", [h, h], false⟩, ⟨str "unlink", [h, h], false⟩, ⟨str "trim", [], false⟩, ⟨str "keep", [n], false⟩,
 ⟨str "refuse", [n], false⟩, ⟨str "report", [h], false⟩, ⟨str "log", [], false⟩, ⟨str "find", [], true⟩, ⟨str "doom", [h, h], false⟩, ⟨str "doomed", [h, h], false⟩]
def dk : List Bs:= [str "note", str "alloc", str "again", str "kill", str "destroy"]
end Go.Ev
namespace Go.Ev
open Go
def aM (w:Bs):Bool:=!w.isEmpty&&w.all λb=>!(b==32) && !(b==10)
def ij (n:Int):Option Bs:=if 0<=n/\n<=4294967296 then some (Lib.decDigits n.toNat) else none
def gH (s : Bs):Option Bs:= if s = [] then some (str ".") else if s = str "." then none else if aM s then some s else none
def o8 (c:dj):Sg->List Bs->List Bs->Option (Bs × List Bs × List Bs)
 |.L,on,tx=>if aM c.label/\c.label.length<=16 then some (c.label,on,tx) else none
 |.h,w :: on,tx=>if aM w then some (w,on,tx) else none
 |.h,[],_=>none
 |.t,on,s :: tx=>(gH s).map λw=>(w,on,tx)
 |.t,_,[]=>none
 |.c,on,tx=>if c.kind<=4 then some (dk.getD c.kind [],on,tx) else none
 |.o, on, tx=> if c.n = -1 then some (str "none", on, tx) else (ij c.n).map fun w=> (w, on, tx)
 |.n,on,tx=>(ij c.n).map λw=>(w,on,tx)
 |.m,on,tx=>(ij c.m).map λw=>(w,on,tx)
 |.k,on,tx=>(ij c.k).map λw=>(w,on,tx)
def eB (c:dj):List Sg->List Bs->List Bs->Option (List Bs × List Bs × List Bs)
 | [],on,tx=>some ([],on,tx)
 | s :: r,on,tx=>match o8 c s on tx with
  | none=>none
  | some (w,on',tx')=>match eB c r on' tx' with
   | none=>none
   | some (ws,on'',tx'')=>some (w :: ws,on'',tx'')
def gM:List Bs->Option (List Bs)
 | []=>some []
 | s :: r=>match gH s,gM r with
  | some w,some ws=>some (w :: ws)
  | _,_=>none
def gL (c:dj) (f:Form):Bool:=
 !(beq c.on.length (f.rest.count .h))||!(ble (f.rest.count .t) c.texts.length)||(!f.more && !(ble c.texts.length (f.rest.count .t))) ||
 (decide (c.n≠0) && !(f.rest.contains .n||f.rest.contains .o))||(decide (c.m≠0) && !f.rest.contains .m)||(decide (c.k≠0) && !f.rest.contains .k)||(decide (c.kind≠0) && !f.rest.contains .c)||(!c.label.isEmpty && !f.rest.contains .L)
def wW (c:dj):Option (List Bs):=
 if c.op<=40 then
  let f:=BN.getD c.op ⟨[],[],false⟩
  if gL c f then none
  else match eB c f.rest c.on c.texts with
   | none=>none
   | some (ws,_,tx)=>match gM tx with
    | none=>none
    | some ts=>some (f.word :: (ws++ts))
 else none
def dh:List Bs->Bs
 | []=>[]
 | [w]=>w
 | w :: l=>w++32 :: dh l
def qW (c:dj):Option Bs:=(wW c).map λws=>dh ws ++ [10]
def kD:List dj->Option Bs
 | []=>some []
 | c :: l=>match qW c,kD l with
  | some s,some r=>some (s++r)
  | _,_=>none
def wk (cap keeps:Int) (l:List dj):Except Nat Bs:=
 if 1000<l.length then .error 15
 else match ij cap,ij keeps with
  | some a,some b=>match kD l with
   | none=>.error 14
   | some r=> if 65536<(dh [str "arena", a, b] ++ [10]++r).length then .error 16 else .ok (dh [str "arena", a, b] ++ [10]++r)
  | _,_=>.error 14
theorem ui {u:Nat} (h:u<10):FE (UInt8.ofNat (48+u))=true:=by
 match u,h with
 | 0,_=>rfl
 | 1,_=>rfl
 | 2,_=>rfl
 | 3,_=>rfl
 | 4,_=>rfl
 | 5,_=>rfl
 | 6,_=>rfl
 | 7,_=>rfl
 | 8,_=>rfl
 | 9,_=>rfl
theorem IN (u:Nat):(Lib.decDigits u).all FE=true:=by
 induction u using Nat.strongRecOn with
 | ind u ih=>
  rw[Lib.decDigits];by_cases h:u<10
  ·rw[dif_pos h,List.all_cons,ui h];rfl
  ·rw[dif_neg h,List.all_append,ih (u / 10) (by omega),List.all_cons,ui (Nat.mod_lt _ (by decide))];rfl
theorem Dr (u:Nat):Lib.decDigits u ≠ []:=by
 rw[Lib.decDigits];split
 ·simp
 ·simp
end Go.Ev
