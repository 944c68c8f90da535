/-
  BLOCKS OF THE WORLD AS READ-ONLY ROWS of abstract memory; lists of strings and of commands in them.
-/
import Derived.Test.YtglmdggjibmjcaaGreatDoorYe
noncomputable section
set_option linter.all false
set_option maxRecDepth 100000
set_option exponentiation.threshold 3000
open Nat (ble beq)
namespace Go.Ev
open Go F Go.Proofs Go.RowKit
def t0:aN:=(qL.ins 40 168 (some (eP glob ixQ))).ins 40 169 (some (eP glob IS))
def UC (h:aJ qL):aJ t0:=aB (aB h (by decide) amO) (by decide) acV
def E0:Env:=EX t0
def E0e:E0=EX t0:=rfl
def cvE {f:FuncId} {args:List Value} {h:H} {k:Value->H->R} {X:R} {m:Nat} (hn:t0.get f=none) (e:(cf (EX t0) KK f).run (ar E0 KK m) args h k=X):ar E0 KK (m+1) f args h k=X:=by show (bR E0 KK f).run _ _ _ _=_;rw[show bR E0 KK f=cf E0 KK f from bY hn,E0e];exact e
def ut0:UT E0:={ u3:=by kernel_rfl,u5:=by kernel_rfl,u9:=by kernel_rfl,u37:=by kernel_rfl,z9:=by kernel_rfl,u21:=by kernel_rfl }
def awr:bR E0 KK 168=⟨λ_ args h c=>cE (eP glob ixQ args h) c⟩:=by kernel_rfl
def f169:bR E0 KK 169=⟨λ_ args h c=>cE (eP glob IS args h) c⟩:=by kernel_rfl
def a63 (m:Nat) (a0 a1:Value) (h:H) (k:Value->H->R):ar E0 KK (m+1) 63 [a0,a1] h k=p63 E0 (ar E0 KK m) a0 a1 h k:=cvE (by kernel_rfl) (ZF t0 _ a0 a1 h k)
def a79 (m:Nat) (a0 a1:Value) (h:H) (k:Value->H->R):ar E0 KK (m+1) 79 [a0,a1] h k=p79 E0 (ar E0 KK m) a0 a1 h k:=cvE (by kernel_rfl) (YZ t0 _ a0 a1 h k)
def aq1 (m:Nat) (a0 a1:Value) (h:H) (k:Value->H->R):ar E0 KK (m+1) 100 [a0,a1] h k=GZ E0 (ar E0 KK m) a0 a1 h k:=cvE (by kernel_rfl) (Ro t0 _ a0 a1 h k)
def awp (m:Nat) (a0:Value) (h:H) (k:Value->H->R):ar E0 KK (m+1) 101 [a0] h k=ajL E0 (ar E0 KK m) a0 h k:=cvE (by kernel_rfl) (Re t0 _ a0 h k)
def iH {q:List Value->Option Value} {args:List Value} {h:H} {v:Value} (e:q args=some v) (hs:dO glob 0 h=true):eP glob q args h=some (v,h):=by unfold eP;rw[e];show (bif dO glob 0 h then some (v,h) else none)=_;rw[hs];rfl
def sa:dO glob 0 (iL glob)=true:=by kernel_rfl
def gx {h:H} (f:bu (iL glob) h):dO glob 0 h=true:=by
 have:∀(l:List AO) (i:Nat),i+l.length<=16->dO l i h=dO l i (iL glob):=by
  intro l
  induction l with
  | nil=>intro i _;rfl
  | cons o l ih=> intro i hi;unfold dO;rw[ih (i+1) (by simp at hi;omega),<-bv,<-bv,f.old i (show i<16 by simp at hi;omega)]
 rw[this glob 0 (show 0+8<=16 by decide)];exact sa
def auf (m:Nat):aqQ (ar E0 KK (m+1)) (iL glob) where
 idx:=λs b h k hq=>by
  show (bR E0 KK 168).run _ _ _ _=_;rw[awr];have e:ixQ [ak s,cF b]=some (.int .i64 (Lib.indexByte s b)):=by show (bif Nat.blt b.toNat 256 then some (Value.int .i64 (Lib.indexByte s (UInt8.ofNat b.toNat))) else none)=_;rw[show Nat.blt b.toNat 256=true from aM b.toNat_lt,UInt8.ofNat_toNat];rfl
  exact cg (iH e (gx hq)) k
 val:=λr h k hq hv=>by
  show (bR E0 KK 169).run _ _ _ _=_;rw[f169];have e:IS [.int .i32 (.ofNat r)]=some (.bool true):=by show some (Value.bool (Utf8.valid (r:Int)))=_;rw[hv]
  exact cg (iH e (gx hq)) k
def awc (m:Nat):aej (ar E0 KK (m+2)) (iL glob):=λr h hq hn=>by
 refine⟨λb hb hb2 k=>?_,λhr hv k=>?_⟩
 ·subst hb;rw[aq1];unfold GZ;rw[ah,Az ut0.u21,decide_eq_true (JY _)];simp only[↓aE,↓cu];rw[AJ ut0.u21,decide_eq_true hb2];simp only[↓aA,↓ah,↓aW];rw[bC,aM (show b.toNat<=255 by omega)];exact (auf m).idx j9 b h _ hq
 ·rw[aq1];exact X8 ut0 (auf m) hr hv hq (by omega) k
def r63 (m:Nat) {w:Bs} (hw:w.length<=8) {h:H} (hq:bu (iL glob) h) (hn:h.next<=500000000) (k:Value->H->R):∃h',ar E0 KK (m+4) 63 [ak w,ak j9] h k=k (.bool (w.any gZ)) h':=by rw[a63];unfold p63;obtain⟨h',z,e,hz⟩:=as8 ut0 (awc m) (λn h k=>(awp (m+1) _ h k).trans (by unfold ajL;exact fD ut0.u3)) hw hq (by omega) _ _ (a79 (m+2) (ak w) (ak j9) h _).symm;rw[e,sP ut0.u3];exact⟨h',by rw[hz];rfl⟩
def Wx (s:Bs):s.any gZ=decide (0<=Lib.indexAny s j9):=by
 have hc:∀b:UInt8,j9.contains b=gZ b:=λb=>by unfold j9 gZ;simp only[List.contains_cons,List.contains_nil,Bool.or_false]
 induction s with
 | nil=>rfl
 | cons b s ih=>
  rw[List.any_cons];unfold Lib.indexAny;rw[hc];cases hs:gZ b with
  | true=>rw[if_pos rfl];rfl
  | false=>
   rw[if_neg (by simp),Bool.false_or,ih];have:=Lib.indexAny_ge j9 s;by_cases q:Lib.indexAny s j9=-1
   ·rw[q];rfl
   ·rw[show (Lib.indexAny s j9==-1)=false from JM.2 q,if_neg (by simp),decide_eq_true (show (0:Int)<=Lib.indexAny s j9 by omega),decide_eq_true (by omega)]
def IT (s:Bs) (h8:8<s.length) (hs:s.length<=1000000) (w:World):Calls Tryz.prog 63 #[.string ⟨⟨s⟩⟩,.string ⟨⟨j9⟩⟩] w λe w'=>e=.returned (.bool (s.any gZ))/\Below w.heap.size w w':=by
 have hz:∀w,(zeroValue 148).run Tryz.prog w=.ok (.agg (Array.replicate 256 (.bool false))) w:=λw=>by kernel_rfl
 have e79:∀args w,(callFunc 79 args).run Tryz.prog w=.ok (.enter 79 args) w:=enters_of Tryz.func79 (by kernel_rfl) rfl;have hac:∀(j:Nat) b,(⟨⟨j9⟩⟩:ByteArray).data.toList[j]?=some b->b.toNat<128:=λj b hb=>by
  match j,hb with
  | 0,hb=>cases hb;decide
  | 1,hb=>cases hb;decide
 go_enter Tryz.func63,Tryz.ntmps63
 go_wp2_with (go_at_fn 79;refine (Tryz.strings_IndexAny_long hz ⟨⟨s⟩⟩ ⟨⟨j9⟩⟩ _ (by decide) h8 (show s.length<_ by omega) (by decide) hac).mono ?_;rintro e w' ⟨rfl,rfl⟩)
 go_ret
 exact⟨by rw[Wx];rfl,((Below.refl _ _).alloc (Jd _) _).alloc (by simp) _⟩
def F6:List Value->Option Value
 | [.string ⟨⟨s⟩⟩,.string ⟨⟨[32,10]⟩⟩]=>bif ble s.length 1000000 then some (.bool (s.any gZ)) else none
 | _=>none
def VR.bool_any {ρ ρ':Ren} {b:Bool} {v:Value} (h:VR ρ (.bool b) v):VR ρ' (.bool b) v:=by rw[h.bool];exact .of1 rfl
def Step.loneG {ρ ρ':Ren} {h h':H} {w w':World} (hr:eZ Tryz.prog ρ h w) (s:Step Tryz.prog renG (iL glob) w ρ' h' w'):Step Tryz.prog ρ h w ρ h w' where
 ext:=ρ.le_refl
 old:=λ_ _ e _=>e
 next:=Jd _
 keep:=λ_ _ _=>rfl
 rel:=⟨hr.dom,hr.inj,λid p e=>eV.same (hr.obj id p e) λhl=>s.same _ (hr.inside id p e hl) (Jl gM _),hr.small,hr.fresh,hr.glob,λid p e hl=>Jp (hr.inside id p e hl) s.size⟩
 same:=λb hb _=>s.same b hb (Jl gM b)
 own:=λ_ e _=>e
 size:=s.size
 tape:=s.tape
 os:=s.os
 output:=s.output
def asZ (ht:aJ qL):dC Tryz.prog 63 (eP glob F6):=by
 intro ρ h w args args' v h' hr ha he;unfold eP at he;split at he
 ·rename_i v0 hq;cases hs:dO glob 0 h with
  | false=>rw[hs] at he;exact nomatch he
  | true=>
   rw[hs] at he;cases he;unfold F6 at hq;split at hq
   ·rename_i s;cases hb:ble s.length 1000000 with
    | false=>rw[hb] at hq;exact nomatch hq
    | true=>
     rw[hb] at hq;cases hq;have hb:=I7 hb;obtain⟨u1,u2,rfl,hu,hu2⟩:=fI ha;have e1:=hu.string;have e2:=hu2.string;subst e1 e2;by_cases h8:8<s.length
     ·exact dL.of_calls hr Tryz.func63 (by kernel_rfl) (by kernel_rfl) (.of1 rfl) (IT s h8 hb w)
     ·obtain⟨h2,hrun⟩:=r63 40 (w:=s) (by omega) (bu.refl (iL glob)) (show 16<=500000000 by decide) (λv h=>some (v,h));obtain⟨N,v0,h3,hcall,he'⟩:=dp hrun;cases he';have hr0:=As gM hr hs;rcases pw (fM t0 (UC ht)) (ly (fM t0 (UC ht)).toTypesOK) N 63 _ _ _ _ hcall renG w [.string ⟨⟨s⟩⟩,.string ⟨⟨j9⟩⟩] hr0 ⟨.of1 rfl,.of1 rfl,trivial⟩ with ⟨v',ρ',w',q1,q2,q3⟩ | ⟨fn,q1,q2,q3,q4⟩
      ·exact .inl ⟨v',ρ,w',q1,q2.bool_any,Step.loneG hr q3⟩
      ·refine .inr ⟨fn,q1,q2,q3,q4.mono λe w' hq=>?_⟩;obtain⟨ρ',v',e1,e2,e3⟩:=hq;exact⟨ρ,v',e1,e2.bool_any,Step.loneG hr e3⟩
   ·exact nomatch hq
 ·exact nomatch he
def Na {t:aN} (ht:aJ t) {f:FuncId} (hf:f<1000):aJ (t.ins 40 f none):=by
 intro g k' h;rw[T.get_ins _ _ _ _ _ (Jp (Nat.succ_lt_succ hf) (I7 rfl))] at h;by_cases e:g=f
 ·rw[if_pos e] at h;exact nomatch h
 ·rw[if_neg e] at h;exact ht g k' h
def pm:aN:=((((((qL.ins 40 17 none).ins 40 26 (some (eP glob vp))).ins 40 32 (some sk)).ins 40 56 (some (eP glob KG))).ins 40 57 (some (eP glob Fs))).ins 40 58 (some (eP glob J0))).ins 40 63 (some (eP glob F6))
def HZ (h:aJ qL):aJ pm:=aB (aB (aB (aB (aB (aB (Na h (by decide)) (by decide) at1) (by decide) auk) (by decide) arD) (by decide) asQ) (by decide) apN) (by decide) (asZ h)
def dP:Env:=EX pm
def avK:dP=EX pm:=rfl
def wQ {f:FuncId} {args:List Value} {h:H} {k:Value->H->R} {X:R} {m:Nat} (hn:pm.get f=none) (e:(cf (EX pm) KK f).run (ar dP KK m) args h k=X):ar dP KK (m+1) f args h k=X:=by show (bR dP KK f).run _ _ _ _=_;rw[show bR dP KK f=cf dP KK f from bY hn,avK];exact e
def ut1:UT dP:={ u3:=by kernel_rfl,u5:=by kernel_rfl,u9:=by kernel_rfl,u37:=by kernel_rfl,z9:=by kernel_rfl,u21:=by kernel_rfl }
def awI:∀(a1 a2 a3:Option Addr) (n1 c1 n2 c2 n3 c3:Nat),cI dP 70 [(0,.slice a1 n1 c1),(1,.slice a2 n2 c2),(2,.slice a3 n3 c3)]=some (.agg ⟨[.slice a1 n1 c1,.slice a2 n2 c2,.slice a3 n3 c3]⟩):=λa1 a2 a3 n1 c1 n2 c2 n3 c3=>by kernel_rfl
def GR:UP dP:={ ut1 with b70:=awI }
def awg:∃i,ug dP 42 5 1 i [.int .u8 (.ofNat 0)]/\i.bytes=1:=⟨(dP.info 5).getD default,⟨by kernel_rfl,by kernel_rfl,by kernel_rfl,of_decide_eq_true (by kernel_rfl),by kernel_rfl,rfl,by decide,by decide⟩,by kernel_rfl⟩
def ub1:UB dP:={ l42:=awg,u3:=by kernel_rfl,u5:=by kernel_rfl,u9:=by kernel_rfl,u41:=by kernel_rfl,z44:=by kernel_rfl,u100:=by kernel_rfl,u75:=by kernel_rfl,z5:=by kernel_rfl }
def l37:ug dP 37 9 1 ((dP.info 9).getD default) [.string ⟨⟨[]⟩⟩]:=⟨by kernel_rfl,by kernel_rfl,by kernel_rfl,of_decide_eq_true (by kernel_rfl),by kernel_rfl,rfl,by decide,by decide⟩
def u63:dP.und 63=some (.slice 67):=by kernel_rfl
def DR:dP.und 22=some (.slice 39):=by kernel_rfl
def u42:dP.und 42=some (.slice 5):=by kernel_rfl
def awV (m:Nat) (v:Value) (h:H) (k:Value->H->R):ar dP KK (m+1) 55 [v] h k=k v h:=by kernel_rfl
def awl:bR dP KK 26=⟨λ_ args h c=>cE (eP glob vp args h) c⟩:=by kernel_rfl
def aw0:bR dP KK 32=⟨λ_ args h c=>cE (sk args h) c⟩:=by kernel_rfl
def avQ:bR dP KK 56=⟨λ_ args h c=>cE (eP glob KG args h) c⟩:=by kernel_rfl
def aws:bR dP KK 57=⟨λ_ args h c=>cE (eP glob Fs args h) c⟩:=by kernel_rfl
def awo:bR dP KK 58=⟨λ_ args h c=>cE (eP glob J0 args h) c⟩:=by kernel_rfl
def av3:bR dP KK 63=⟨λ_ args h c=>cE (eP glob F6 args h) c⟩:=by kernel_rfl
def aol (m:Nat) (a0:Value) (h:H) (k:Value->H->R):ar dP KK (m+1) 13 [a0] h k=p13 dP (ar dP KK m) a0 h k:=wQ (by kernel_rfl) (Zg pm _ a0 h k)
def axb (m:Nat) (a0:Value) (a1:Value) (h:H) (k:Value->H->R):ar dP KK (m+1) 14 [a0,a1] h k=p14 dP (ar dP KK m) a0 a1 h k:=wQ (by kernel_rfl) (afA pm _ a0 a1 h k)
def av5 (m:Nat) (a0:Value) (h:H) (k:Value->H->R):ar dP KK (m+1) 15 [a0] h k=p15 dP (ar dP KK m) a0 h k:=wQ (by kernel_rfl) (amk pm _ a0 h k)
def awM (m:Nat) (a0:Value) (h:H) (k:Value->H->R):ar dP KK (m+1) 16 [a0] h k=p16 dP (ar dP KK m) a0 h k:=wQ (by kernel_rfl) (ac8 pm _ a0 h k)
def aw9 (m:Nat) (a0:Value) (h:H) (k:Value->H->R):ar dP KK (m+1) 17 [a0] h k=p17 dP (ar dP KK m) a0 h k:=wQ (by kernel_rfl) (amF pm _ a0 h k)
def awN (m:Nat) (a0:Value) (h:H) (k:Value->H->R):ar dP KK (m+1) 27 [a0] h k=p27 dP (ar dP KK m) a0 h k:=wQ (by kernel_rfl) (X3 pm _ a0 h k)
def awQ (m:Nat) (h:H) (k:Value->H->R):ar dP KK (m+1) 28 [] h k=p28 dP (ar dP KK m)  h k:=wQ (by kernel_rfl) (adF pm _  h k)
def ass (m:Nat) (h:H) (k:Value->H->R):ar dP KK (m+1) 29 [] h k=p29 dP (ar dP KK m)  h k:=wQ (by kernel_rfl) (ahN pm _  h k)
def awW (m:Nat) (a0:Value) (a1:Value) (h:H) (k:Value->H->R):ar dP KK (m+1) 30 [a0,a1] h k=p30 dP (ar dP KK m) a0 a1 h k:=wQ (by kernel_rfl) (WA pm _ a0 a1 h k)
def avN (m:Nat) (a0:Value) (a1:Value) (a2:Value) (h:H) (k:Value->H->R):ar dP KK (m+1) 31 [a0,a1,a2] h k=p31 dP (ar dP KK m) a0 a1 a2 h k:=wQ (by kernel_rfl) (YS pm _ a0 a1 a2 h k)
def awn (m:Nat) (a0:Value) (a1:Value) (h:H) (k:Value->H->R):ar dP KK (m+1) 33 [a0,a1] h k=p33 dP (ar dP KK m) a0 a1 h k:=wQ (by kernel_rfl) (acS pm _ a0 a1 h k)
def av8 (m:Nat) (a0:Value) (h:H) (k:Value->H->R):ar dP KK (m+1) 34 [a0] h k=p34 dP (ar dP KK m) a0 h k:=wQ (by kernel_rfl) (adq pm _ a0 h k)
def av4 (m:Nat) (a0:Value) (h:H) (k:Value->H->R):ar dP KK (m+1) 35 [a0] h k=p35 dP (ar dP KK m) a0 h k:=wQ (by kernel_rfl) (aco pm _ a0 h k)
def awb (m:Nat) (a0:Value) (a1:Value) (h:H) (k:Value->H->R):ar dP KK (m+1) 59 [a0,a1] h k=p59 dP (ar dP KK m) a0 a1 h k:=wQ (by kernel_rfl) (adW pm _ a0 a1 h k)
def aw6 (m:Nat) (a0:Value) (h:H) (k:Value->H->R):ar dP KK (m+1) 60 [a0] h k=p60 dP (ar dP KK m) a0 h k:=wQ (by kernel_rfl) (akB pm _ a0 h k)
def av7 (m:Nat) (a0:Value) (a1:Value) (h:H) (k:Value->H->R):ar dP KK (m+1) 62 [a0,a1] h k=p62 dP (ar dP KK m) a0 a1 h k:=wQ (by kernel_rfl) (ae1 pm _ a0 a1 h k)
def cv7 (m:Nat) (a0:Value) (a1:Value) (a2:Value) (h:H) (k:Value->H->R):ar dP KK (m+1) 7 [a0,a1,a2] h k=p7 dP (ar dP KK m) a0 a1 a2 h k:=wQ (by kernel_rfl) (aqF pm _ a0 a1 a2 h k)
def k26 (m:Nat):G2 (ar dP KK (m+1)) (bu (iL glob)):=λn h k hn hq=>by
 show (bR dP KK 26).run _ _ _ _=_;rw[awl];have e:vp [.int .i64 n]=some (ak (Lib.itoa n)):=by show (bif decide (-9223372036854775808<=n)&&decide (n<=9223372036854775807) then some (Value.string ⟨(Lib.itoa n).toArray⟩) else none)=_;rw[decide_eq_true hn.1,decide_eq_true hn.2];rfl
 exact cg (iH e (gx hq)) k
def k56 (m:Nat) (s:Bs) (b:UInt8) (h:H) (k:Value->H->R) (hq:bu (iL glob) h):ar dP KK (m+1) 56 [ak s,.string ⟨⟨[b]⟩⟩] h k=k (.int .i64 (.ofNat (s.count b))) h:=by show (bR dP KK 56).run _ _ _ _=_;rw[avQ];exact cg (iH rfl (gx hq)) k
def k57 (m:Nat) (s p:Bs) (h:H) (k:Value->H->R) (hs:s.length<=1000) (hq:bu (iL glob) h):ar dP KK (m+1) 57 [ak s,.string ⟨⟨p⟩⟩] h k=k (.bool (Lib.hasSuffix s p)) h:=by
 show (bR dP KK 57).run _ _ _ _=_;rw[aws];have e:Fs [ak s,.string ⟨⟨p⟩⟩]=some (.bool (Lib.hasSuffix s p)):=by show (bif ble s.length 1000000 then some (Value.bool (Lib.hasSuffix s p)) else none)=_;rw[aM (show s.length<=1000000 by omega)];rfl
 exact cg (iH e (gx hq)) k
def k58 (m:Nat) (s:Bs) (b:UInt8) (h:H) (k:Value->H->R) (hq:bu (iL glob) h):ar dP KK (m+1) 58 [ak s,.string ⟨⟨[b]⟩⟩] h k=k (.bool (s.contains b)) h:=by show (bR dP KK 58).run _ _ _ _=_;rw[awo];exact cg (iH rfl (gx hq)) k
def k63 (m:Nat) (w:Bs) (h:H) (k:Value->H->R) (hw:w.length<=100000) (hq:bu (iL glob) h):ar dP KK (m+1) 63 [ak w,.string ⟨⟨[32,10]⟩⟩] h k=k (.bool (w.any gZ)) h:=by
 show (bR dP KK 63).run _ _ _ _=_;rw[av3];have e:F6 [ak w,.string ⟨⟨[32,10]⟩⟩]=some (.bool (w.any gZ)):=by show (bif ble w.length 1000000 then some (Value.bool (w.any gZ)) else none)=_;rw[aM (show w.length<=1000000 by omega)];rfl
 exact cg (iH e (gx hq)) k
def H9:∀ws:List Bs,Lib.join ws [32]=bQ ws
 | []=>rfl
 | [w]=>by unfold Lib.join bQ;simp[List.intercalate,List.intersperse]
 | w :: x :: l=>by have ih:=H9 (x :: l);unfold Lib.join at ih ⊢;unfold bQ;rw[<-ih];simp[List.intercalate,List.intersperse]
def BR:∀ws:List Bs,gh ws->tJ (ws.map λs=>(⟨⟨s⟩⟩:ByteArray))<=100001*ws.length
 | [],_=>Jd _
 | w :: l,h=>by have h1:=h w (Jq ..);have h2:=BR l λs hs=>h s (JG _ hs);have h3:tJ ((w :: l).map λs=>(⟨⟨s⟩⟩:ByteArray))=w.length+1+tJ (l.map λs=>(⟨⟨s⟩⟩:ByteArray)):=rfl;rw[h3,Jz];omega
def k32 (m:Nat) (v:Value) (ws:List Bs) (h:H) (k:Value->H->R) (o:SO h v ws) (hne:ws ≠ []) (hs:gh ws) (hl:ws.length<=8000):ar dP KK (m+1) 32 [v,.string ⟨⟨[32]⟩⟩] h k=k (ak (bQ ws)) h:=by
 show (bR dP KK 32).run _ _ _ _=_;rw[aw0];have hpos:0<ws.length:=J8.2 hne;have e:sk [v,.string ⟨⟨[32]⟩⟩] h=some (ak (bQ ws),h):=by
  unfold SO at o;generalize hn:ws.length=n at o hpos;generalize hL:ws.map ak=L at o;cases o with
  | nil=>omega
  | row hb hq hLn hc hp=>
   rename_i b fz op cells;have hcells:bq cells 0 n=ws.map λs=>Value.string ⟨⟨s⟩⟩:=by
    have hx:L.length=n:=by rw[<-hL,Kx,hn]
    have:=dD L cells 0 λj hj=>by rw[JN,<-bI,hc j hj]
    rw[hx] at this;rw[this,<-hL];rfl
   rw[bv] at hq;have b1:ble (0+n) (n*1)=true:=aM (by omega);have b2:ble n ((2*n+op.toNat) / 2)=true:=aM (by omega);have b3:ble n 10000=true:=aM (by omega);have b4:Nat.blt 0 n=true:=aM hp
   have b5:ble (tJ (ws.map λs=>(⟨⟨s⟩⟩:ByteArray))) 1000000000=true:=aM (by
    have:=BR ws hs;have:100001*ws.length<=100001*8000:=KN _ hl
    omega)
   have b6:ble (ByteArray.size ⟨⟨[32]⟩⟩) 1000=true:=rfl;have hsC:rF (bq cells 0 n)=some (ws.map λs=>(⟨⟨s⟩⟩:ByteArray)):=by rw[hcells];have:=xr (ws.map λs=>(⟨⟨s⟩⟩:ByteArray));rw[List.map_map] at this;exact this
   unfold sk;simp only[hq,b1,b2,b3,b4,b6,Bool.and_self,Jo,hsC,b5];rw[List.map_map,show ((λx:ByteArray=>x.data.toList) ∘ λs:Bs=>(⟨⟨s⟩⟩:ByteArray))=id from rfl,List.map_id,H9];rfl
 exact cg e k
def awy (m:Nat) {h:H} {bb:Nat} {s:List UInt8} (b:BI h bb s) (hn:h.next<=900000000):∃h',(∀k,ar dP KK (m+2) 27 [.pointer (some ⟨bb,0,none⟩)] h k=k (.tuple ⟨[]⟩) h')/\h'.next=h.next/\(∀id,id≠bb->hget h' id=hget h id) /\
   ∃c v,hget h' bb=.row 44 2 false false 0 c/\getF c 0=.pointer (some ⟨bb,0,none⟩)/\getF c 1=v/\OL 5 1 h' v s.length (s.map cF)/\∀p,dv v=some p->bb<p:=by
 obtain⟨h',e,r⟩:=asT ub1 (rc:=ar dP KK (m+1)) (awV m) b hn;exact⟨h',λk=>(awN (m+1) _ h k).trans (e k),r⟩
def awf (m:Nat) (w:Bs) (h:H) (k:Value->H->R) (hw:w.length<=100000) (hq:bu (iL glob) h):ar dP KK (m+3) 34 [ak w] h k=k (.bool (!aG w)) h:=by
 rw[av8];unfold p34;rw[av4];unfold p35;have u:=GR.toUT;rw[mG,show ak w=.string ⟨⟨w⟩⟩ from rfl,Tl u.toUS];by_cases q:w=[]
 ·subst q;rfl
 ·rw[show (w==([]:Bs))=false from JM.2 q];simp only[Bool.not_false,↓aE,↓cu];rw[show (.string ⟨⟨w⟩⟩:Value)=ak w from rfl,k63 m w _ _ hw hq];rw[DL w q,show (w.any λb=>b==32||b==10)=w.any gZ from rfl];cases w.any gZ <;> rfl
def k33 (m:Nat) (v:Value) (ws:List Bs) (h:H) (k:Value->H->R) (o:WL h v ws) (hs:gh ws) (hl:ws.length<=8000) (hq:bu (iL glob) h):ar dP KK (m+5) 33 [v,.func (.func 34) #[] #[]] h k=k (.bool (!ws.all aG)) h:=by rw[awn];refine aqR GR.toUT (λk=>?_) k;obtain⟨j,e⟩:=aru GR.toUT o (λw hw k=>awf m w h k (hs w hw) hq) (by omega) k;exact⟨j,(av7 (m+3) _ _ h k).trans e⟩
def kWr (m:Nat):Zk (ar dP KK (m+2)) (iL glob) where
 num:=λn h k hn hq=>(aol (m+1) _ h k).trans (UD GR.toUS (k26 m) hn hq k)
 text:=λs h k=>(aw6 (m+1) _ h k).trans (ath GR.toUS s h k)
 put:=λB pb h ws von vtx w k X p hn hl e=>ats GR.toUT l37 p hn hl w ((awb (m+1) _ _ h k).symm.trans e)
 kinds:=λh k hn=>(ass (m+1) h k).trans (UR h k hn)
def k31 (m:Nat):Fa (ar dP KK (m+3)) (iL glob):=λhb h pb k X c ln ws on tx von vtx von0 vtx0 a1 a2 a3 a4 a5 a6 a7 a8 a9 b1 b2 b3 b4 r b5 b6 b7 e=>
 apB GR.toUT (kWr m) a1 a2 a3 a4 a5 a6 a7 a8 a9 b1 b2 b3 b4 b5 b6 b7 ((avN (m+2) _ _ _ h k).symm.trans e)
end Go.Ev
namespace Go.Ev
open Go F Go.Proofs
def kSp (m:Nat):arA (ar dP KK (m+1)) (iL glob) where
 cnt:=λs b h k _ hq=>k56 m s b h k hq
 suf:=λs p h k hs hq=>k57 m s p h k hs hq
 con:=λs b h k _ hq=>k58 m s b h k hq
def kLn (m:Nat):Mf (ar dP KK (m+6)) (iL glob) where
 r31:=k31 (m+3)
 join:=λv ws h k o hne hs hl=>k32 (m+5) v ws h k o hne hs hl
 all:=λv ws h k o hs hl hq=>k33 (m+1) v ws h k o hs hl hq
 rows:=λh k hn=>(awQ (m+5) h k).trans (arU h k hn)
 kinds:=λh k hn=>(ass (m+5) h k).trans (UR h k hn)
 spare:=λc ln von vtx h w r k X o1 o2 hr hn hq e=>aqA GR.toUT (kSp (m+4)) o1 o2 hr hn hq k X ((awW (m+5) _ _ h k).symm.trans e)
def WLc (h:H) (v:Value) (l:List Bs):Prop:=WL h v l/\cj v
def Qp:mK WLc:=⟨λh h' v l o f=>⟨o.1.from f,o.2⟩,λh v l o=>o.1⟩
def aoZ (m:Nat):IX (ar dP KK (m+7)) (iL glob) WLc:=λc ln von vtx h k X hq C o1 o2 hn e=>
 avk GR u63 (kLn m) hq C o1.1 o2.1 o1.2 o2.2 hn k X ((av5 (m+6) _ h k).symm.trans e)
def kPr (m:Nat):acM (ar dP KK (m+7)) (iL glob) WLc where
 line:=aoZ m
 wr:=λh bb s x b hn hx hs=>by obtain⟨h',e,r⟩:=au4 ub1 (rc:=ar dP KK (m+6)) (λb hn=>awy (m+4) b hn) b hn hx hs;exact⟨h',λk=>(axb (m+6) _ _ h k).trans (e k),r⟩
 len:=λh bb s k b=>(awM (m+6) _ h k).trans (asv (u42:=u42) b k)
 str:=λh bb s b hne hn hs=>by obtain⟨h',e,r⟩:=GT ub1 (rc:=ar dP KK (m+6)) b hne hn hs;exact⟨h',λk=>(aw9 (m+6) _ h k).trans (e k),r⟩
 num:=λn h k hn hq=>(aol (m+6) _ h k).trans (UD GR.toUS (k26 (m+5)) hn hq k)
def C4 (m:Nat) {h:H} (hq:bu (iL glob) h) {v:Value} {l:List bV} (o:CW WLc h v l) (hC:l.length<=1000->∀c∈l,Hx c) (hL:l.length<=1000->∀c∈l,oX c) {cap keeps:Int} (hcap:eX cap) (hkeeps:eX keeps) (hn:h.next<=300000000) (k:Value->H->R) (X:R)
  (e:ar dP KK (m+8) 7 [.int .i64 cap,.int .i64 keeps,v] h k=X):∃h',X=k (.tuple ⟨[ak (eK cap keeps l).1,.int .i64 (.ofNat (eK cap keeps l).2)]⟩) h'/\Fr h h' 40000000:=
 aev GR.toUT DR Qp (kPr m) hq o hC hL hcap hkeeps hn k X ((cv7 (m+7) _ _ _ h k).symm.trans e)
def ju (b:Nat):List Nat->Nat
 | []=>0
 | x :: l=>if x=b then 0 else ju b l+1
def nj {b:Nat}:∀{l:List Nat},b∈l->ju b l<l.length
 | x :: l,h=>by
  unfold ju;by_cases q:x=b
  ·rw[if_pos q];simp
  ·rw[if_neg q];rcases Jr.1 h with e | h
   ·exact absurd e.symm q
   ·have:=nj h;simp;omega
def pS {b:Nat}:∀{l:List Nat},ju b l<l.length->l[ju b l]?=some b
 | [],h=>absurd h (Jy _)
 | x :: l,h=>by
  unfold ju at h ⊢;by_cases q:x=b
  ·rw[if_pos q];simp[q]
  ·rw[if_neg q] at h ⊢;simp only[List.getElem?_cons_succ];exact pS (by simpa using h)
def jU (bs:List Nat):Ren:=λid=>if id<16 then some (id,0) else (bs[id-16]?).map λb=>(b,0)
def jr {bs:List Nat} {id:Nat} {q:Nat × Nat} (e:jU bs id=some q):(id<16/\q=(id,0)) \/ (16<=id/\∃b,bs[id-16]?=some b/\q=(b,0)):=by
 unfold jU at e;split at e
 ·cases e;exact .inl ⟨by assumption,rfl⟩
 ·rename_i h;cases hb:bs[id-16]? with
  | none=>rw[hb] at e;exact nomatch e
  | some b=>rw[hb] at e;cases e;exact .inr ⟨by omega,b,rfl,rfl⟩
def Qt {bs:List Nat} {b:Nat} (h:b∈bs):jU bs (16+ju b bs)=some (b,0):=by unfold jU;rw[if_neg (by omega),show 16+ju b bs-16=ju b bs by omega,pS (nj h)];rfl
def iu (bs:List Nat):Value->Value
 |.string s=>.string s
 |.int k n=>.int k n
 |.slice none n c=>.slice none n (2*c)
 |.slice (some ⟨b,o,none⟩) n c=>if b∈bs then .slice (some ⟨16+ju b bs,o,none⟩) n (2*c) else unk
 |.slice (some ⟨b,o,some s⟩) n c=>if n=0/\c=0 then .slice (some ⟨b,o,some s⟩) 0 0 else unk
 | _=>unk
def uy (bs:List Nat) (v:Value):ga (jU bs) (iu bs v) v:=by
 unfold iu;split
 ·exact .inr rfl
 ·exact .inr rfl
 ·refine .inr ?_;rename_i n c;simp only[cW,cU];rw[show 2*c / 2=c by omega]
 ·split
  ·rename_i n c h;refine .inr ?_;simp only[cW,cU,Qt h];rw[if_pos (by omega),show 2*c / 2=c by omega]
  ·exact .inl rfl
 ·split
  ·rename_i n c h;obtain⟨rfl,rfl⟩:=h;exact .inr rfl
  ·exact .inl rfl
 ·exact .inl rfl
def iX (gl:List AO) (w:World) (bs:List Nat) (b:Nat):AO:=if live (gl.getD b .dead)=true then .dead else match w.heap[b]? with
 | some (.cells cs t _)=>.row t cs.size false true 0 (T.ofList unk (cs.toList.map (iu bs)))
 | _=>.dead
def hBg (l:List AO) (n:Nat):H:={ next:=n,objs:=T.ofList .dead l }
def j8 (gl:List AO) (w:World) (bs:List Nat):H:=hBg ((List.range 16).map (λi=>gl.getD i .dead)++bs.map (iX gl w bs)) (16+bs.length)
def fA (gl:List AO) (w:World) (bs:List Nat) (id:Nat):(j8 gl w bs).objs.get id=if id<16 then gl.getD id .dead else ((bs[id-16]?).map (iX gl w bs)).getD .dead:=by
 have h:∀l n,(hBg l n).objs.get id=(l[id]?).getD .dead:=λl n=>T.get_ofList _ _ _;unfold j8;rw[h];by_cases q:id<16
 ·rw[if_pos q,Kj (by simpa using q),JX,List.getElem?_range q];rfl
 ·rw[if_neg q,KA (by simp;omega),Kx,List.length_range,JX]
def oQ {gl:List AO} {w:World} {bs:List Nat} {b:Nat} (h:b∈bs):(j8 gl w bs).objs.get (16+ju b bs)=iX gl w bs b:=by rw[fA,if_neg (by omega),show 16+ju b bs-16=ju b bs by omega,pS (nj h)];rfl
def jq {gl:List AO} {w:World} {bs:List Nat} {b:Nat} (h:live (iX gl w bs b)=true):live (gl.getD b .dead)=false/\∃cs t fr,w.heap[b]?=some (.cells cs t fr)/\iX gl w bs b=.row t cs.size false true 0 (T.ofList unk (cs.toList.map (iu bs))):=by
 unfold iX at h ⊢;cases hl:live (gl.getD b .dead) with
 | true=>rw[hl,if_pos rfl] at h;exact nomatch h
 | false=>
  rw[hl,if_neg (by simp)] at h;rw[if_neg (by simp)];refine⟨rfl,?_⟩;split at h
  ·rename_i cs t fr hh;exact⟨cs,t,fr,hh,rfl⟩
  ·exact nomatch h
def sO {gl:List AO} {w:World} {bs:List Nat} {b:Nat} (hl:live (iX gl w bs b)=false):iX gl w bs b=.dead:=by
 unfold iX at hl ⊢;split
 ·rfl
 ·rename_i q;rw[if_neg q] at hl;split
  ·rename_i hh;rw[hh] at hl;exact nomatch hl
  ·rfl
def Gy {P:Program} {gl:List AO} {w:World} {bs:List Nat} (b:Nat):eV P (jU bs) w (b,0) (iX gl w bs b):=by
 cases hl:live (iX gl w bs b) with
 | false=> have:iX gl w bs b=.dead:=sO hl;rw[this];trivial
 | true=> obtain⟨_,cs,t,fr,hh,e⟩:=jq hl;rw[e];refine⟨cs,fr,hh,Jd _,λ_=>⟨rfl,rfl⟩,λe=>(nomatch e),λi hi=>?_,.inl rfl⟩;refine⟨cs[i],Kk hi,?_⟩;rw[T.get_ofList,Jc,JX,Kb,Kk hi];exact uy bs cs[i]
def Dd {l:List Nat} (h:l.Nodup) {i j b:Nat} (hi:l[i]?=some b) (hj:l[j]?=some b):i=j:=
 (List.getElem?_inj (List.getElem?_eq_some_iff.1 hi).1 h).1 (hi.trans hj.symm)
def Hk {P:Program} {gl:List AO} {w:World} {bs:List Nat} (hobj:∀id,id<16->eV P (jU bs) w (id,0) (gl.getD id .dead)) (hins:∀id,id<16->live (gl.getD id .dead)=true->id<w.heap.size) (hnd:bs.Nodup) (hlen:bs.length<=1000000):eZ P (jU bs) (j8 gl w bs) w:=by
 constructor
 ·intro id q e;show id<16+bs.length;rcases jr e with ⟨h,_⟩ | ⟨h,b,hb,_⟩
  ·omega
  ·have:=(List.getElem?_eq_some_iff.1 hb).1;omega
 ·intro i j p q e1 e2 l1 l2 e;rw[fA] at l1 l2;rcases jr e1 with ⟨h1,rfl⟩ | ⟨h1,b1,hb1,rfl⟩ <;> rcases jr e2 with ⟨h2,rfl⟩ | ⟨h2,b2,hb2,rfl⟩
  ·exact e
  ·rw[if_pos h1] at l1;rw[if_neg (by omega),hb2] at l2;have e:i=b2:=e;have:=(jq (b:=b2) l2).1;rw[<-e,l1] at this;exact nomatch this
  ·rw[if_pos h2] at l2;rw[if_neg (by omega),hb1] at l1;have e:b1=j:=e;have:=(jq (b:=b1) l1).1;rw[e,l2] at this;exact nomatch this
  ·have e:b1=b2:=e;subst e;have:=Dd hnd hb1 hb2;omega
 ·intro id q e;rw[fA];rcases jr e with ⟨h,rfl⟩ | ⟨h,b,hb,rfl⟩
  ·rw[if_pos h];exact hobj id h
  ·rw[if_neg (by omega),hb];exact Gy b
 ·intro id e;have h40:(2000000:Nat)<2 ^ deep:=by decide
  rw[fA] at e;by_cases h:id<16
  ·omega
  ·rw[if_neg h] at e;cases hb:bs[id-16]? with
   | none=>rw[hb] at e;exact nomatch e
   | some b=>have:=(List.getElem?_eq_some_iff.1 hb).1;omega
 ·intro id e;have e:16+bs.length<=id:=e;rw[fA,if_neg (by omega),Kw (by omega)];rfl
 ·intro g hg;unfold jU;rw[if_pos hg]
 ·intro id q e hl;rw[fA] at hl;rcases jr e with ⟨h,rfl⟩ | ⟨h,b,hb,rfl⟩
  ·rw[if_pos h] at hl;exact hins id h hl
  ·rw[if_neg (by omega),hb] at hl;obtain⟨_,cs,t,fr,hh,_⟩:=jq (b:=b) hl;exact (Jw.1 hh).1
def aov {P:Program} {gl:List AO} {w:World} {bs:List Nat} (hgl:gl.length<=16) (hr:eZ P renG (iL gl) w) (hnd:bs.Nodup) (hlen:bs.length<=1000000):eZ P (jU bs) (j8 gl w bs) w:=by
 have hgg:∀id,id<16->(iL gl).objs.get id=gl.getD id .dead:=λid _=>by rw[iS,Jc]
 have hle:renG.le (jU bs):=λid p e=>by
  unfold renG at e;split at e
  ·rename_i h;cases e;unfold jU;rw[if_pos h]
  ·exact nomatch e
 have hrg:∀id,id<16->renG id=some (id,0):=λid h=>by unfold renG;rw[if_pos h]
 exact Hk (λid h=>by rw[<-hgg id h];exact (hr.obj id _ (hrg id h)).mono hle) (λid h hl=>hr.inside id _ (hrg id h) (by rw[hgg id h];exact hl)) hnd hlen
def UV {gl:List AO} (hro:∀id,id<16->wr (gl.getD id .dead)=false) (w:World) (bs:List Nat) (b:Nat):¬ Wr (jU bs) (j8 gl w bs) b:=by
 rintro⟨id,q,e,_,h⟩;rw[fA] at h;rcases jr e with ⟨h1,rfl⟩ | ⟨h1,b',hb,rfl⟩
 ·rw[if_pos h1,hro id h1] at h;exact nomatch h
 ·rw[if_neg (by omega),hb] at h;cases hl:live (iX gl w bs b') with
  | true=> obtain⟨_,cs,t,fr,_,e2⟩:=jq hl;rw[show (Option.map (iX gl w bs) (some b')).getD AO.dead=iX gl w bs b' from rfl,e2] at h;exact nomatch h
  | false=> rw[show (Option.map (iX gl w bs) (some b')).getD AO.dead=iX gl w bs b' from rfl,sO hl] at h;exact nomatch h
def apm {gl:List AO} (hgl:GK gl=true) (w:World) (bs:List Nat) (b:Nat):¬ Wr (jU bs) (j8 gl w bs) b:=by
 refine UV (λid _=>?_) w bs b;rcases jP hgl id with ⟨_,e2⟩ | ⟨_,el,n,fz,c,e1,e2⟩
 ·rw[iS,<-Jc] at e2;rw[e2];rfl
 ·rw[iS,<-Jc] at e2;rw[e2];rfl
def Ai {P:Program} {gl:List AO} (hgl:GK gl=true) (hs:dO gl 0 (iL gl)=true) {w:World} (hr:eZ P renG (iL gl) w) {b:Nat} (hl:live (gl.getD b .dead)=true) {cs:Array Value} {t:TypeId} {fr:Nat × Nat} (hh:w.heap[b]?=some (.cells cs t fr)) (o:Nat) (s:ByteArray):cs[o]?≠some (.string s):=by
 intro hc;rcases jP hgl b with ⟨_,e⟩ | ⟨hj,e,n,fz,c,g1,g2⟩
 ·rw[iS,<-Jc] at e;rw[e] at hl;exact nomatch hl
 ·have hsr:=ox hs b _ g1;rw[JN] at hsr;obtain⟨_,_,_,_,_,h3⟩:=oM hsr;have ho:=hr.obj b (b,0) (by unfold renG;rw[if_pos hj]);rw[g2] at ho;obtain⟨cs',fr',k1,k2,k3,k4,k5,k6⟩:=ho;rw[hh] at k1;cases k1;have hlt:=(Jw.1 hc).1;have hn:o<n:=by rw[<-(k3 rfl).1];exact hlt
  obtain⟨v',a,b'⟩:=k5 o hn;obtain⟨_,kk,m,h4⟩:=h3 o hn;rw[hc] at a;cases a;rw[h4] at b';rcases b' with b' | b'
  ·exact nomatch b'
  ·exact nomatch b'
def E9 (gl:List AO) (w:World):Prop:=∀b,live (gl.getD b .dead)=true->∀(cs:Array Value) (t:TypeId) (fr:Nat × Nat),w.heap[b]?=some (.cells cs t fr)->∀(o:Nat) (s:ByteArray),cs[o]?≠some (.string s)
inductive ng (w:World):Value->List Bs->Prop
 | nil:ng w (.slice none 0 0) []
 | gar {b o s:Nat}:ng w (.slice (some ⟨b,o,some s⟩) 0 0) []
 | row {b o cap:Nat} {cs:Array Value} {t:TypeId} {fr:Nat × Nat} {l:List Bs} (hh:l ≠ []->w.heap[b]?=some (.cells cs t fr)) (hc:∀i (hi:i<l.length),cs[o+i]?=some (.string ⟨⟨l[i]⟩⟩)) (hcap:l.length<=cap):
   ng w (.slice (some ⟨b,o,none⟩) l.length cap) l
def rK:Value->List Nat
 |.slice (some ⟨b,_,none⟩) _ _=>[b]
 | _=>[]
def anY {gl:List AO} {w:World} (hns:E9 gl w) {bs:List Nat} {v:Value} {l:List Bs} (a:ng w v l) (hin:∀b∈rK v,b∈bs):WL (j8 gl w bs) (iu bs v) l/\cj (iu bs v):=by
 cases a with
 | nil=>exact⟨.nil,rfl⟩
 | gar=>exact⟨.gar rfl,rfl⟩
 | row hh hc hcap=>
  rename_i b o cap cs t fr;have hb:=hin b (Jq ..);have e:iu bs (.slice (some ⟨b,o,none⟩) l.length cap)=.slice (some ⟨16+ju b bs,o,none⟩) l.length (2*cap):=by show (if b∈bs then _ else _)=_;rw[if_pos hb]
  rw[e];refine⟨?_,show (2*cap)%2=0 by omega⟩;have hlt:=nj hb;by_cases q:l=[]
  ·subst q;exact .row (e:=0) (m:=o) (fz:=0) (op:=false) (ro:=false) (cells:=.c unk) (show 16+ju b bs<16+bs.length by omega) (λh=>absurd rfl h) (by simp) (by simp) λi hi=>absurd hi (Jy _)
  ·have hpos:0<l.length:=J8.2 q;have hh:=hh q;have hrow:iX gl w bs b=.row t cs.size false true 0 (T.ofList unk (cs.toList.map (iu bs))):=by unfold iX;rw[if_neg (λhl=>hns _ hl _ _ _ hh _ _ (hc 0 hpos)),hh]
   refine .row (e:=t) (m:=cs.size) (fz:=0) (op:=false) (ro:=true) (cells:=T.ofList unk (cs.toList.map (iu bs))) (show 16+ju b bs<16+bs.length by omega) (λ_=>?_) ?_ (by omega) λi hi=>?_
   ·rw[bv,oQ hb,hrow]
   ·have:=(Jw.1 (hc (l.length-1) (by omega))).1;omega
   ·rw[aI,Jc,JX,Kb,hc i hi];rfl
inductive uU (w:World) (ons txs:Nat->Value):Value->List bV->Prop
 | nil:uU w ons txs (.slice none 0 0) []
 | row {b o cap:Nat} {cs:Array Value} {t:TypeId} {fr:Nat × Nat} {l:List bV} (hh:l ≠ []->w.heap[b]?=some (.cells cs t fr))
   (hc:∀i (hi:i<l.length),(∃ln,∀j,j<9->cs[o+i*9+j]?=(aO ln l[i] (ons i) (txs i))[j]?)/\ng w (ons i) l[i].on/\ng w (txs i) l[i].texts) (hcap:l.length<=cap):uU w ons txs (.slice (some ⟨b,o,none⟩) l.length cap) l
def dd:List Nat->List Nat
 | []=>[]
 | x :: l=>if x∈dd l then dd l else x :: dd l
def nJ:∀l,(dd l).Nodup
 | []=>List.nodup_nil
 | x :: l=>by
  unfold dd;split
  ·exact nJ l
  ·rename_i h;exact List.nodup_cons.2 ⟨h,nJ l⟩
def tY {b:Nat}:∀{l:List Nat},b∈l->b∈dd l
 | x :: l,h=>by
  unfold dd;rcases Jr.1 h with rfl | h
  ·split
   ·assumption
   ·exact Jq ..
  ·split
   ·exact tY h
   ·exact JG _ (tY h)
def IB:∀l,(dd l).length<=l.length
 | []=>Jd _
 | x :: l=>by unfold dd;have:=IB l;split <;> simp <;> omega
def pj (v:Value) (ons txs:Nat->Value) (n:Nat):List Nat:=dd (rK v++(List.range (min n 1002)).flatMap λi=>rK (ons i)++rK (txs i))
def ri (v:Value):(rK v).length<=1:=by unfold rK;split <;> simp
def xn (v:Value) (ons txs:Nat->Value) (n:Nat):(pj v ons txs n).length<=3000:=by
 have h:∀m:Nat,((List.range m).flatMap λi=>rK (ons i)++rK (txs i)).length<=2*m:=by
  intro m
  induction m with
  | zero=>simp
  | succ m ih=> rw[List.range_succ,List.flatMap_append,Jt];simp only[List.flatMap_cons,List.flatMap_nil,KB,Jt];have:=ri (ons m);have:=ri (txs m);omega
 unfold pj;refine JV (IB _) ?_;rw[Jt];have:=ri v;have:=h (min n 1002);omega
def Vf {gl:List AO} {w:World} (hns:E9 gl w) {ons txs:Nat->Value} {v:Value} {l:List bV} (a:uU w ons txs v l) {bs:List Nat} (hbs:∀b∈pj v ons txs l.length,b∈bs):CW (λh v l=>WL h v l/\cj v) (j8 gl w bs) (iu bs v) l:=by
 cases a with
 | nil=>exact .nil
 | row hh hc hcap=>
  rename_i b o cap cs t fr;have hb:b∈bs:=hbs _ (tY (Ku _ (Jq ..)));have hio:∀i,i<l.length->i<1002->∀b,b∈rK (ons i)++rK (txs i)->b∈bs:=λi h1 h2 b hb'=>hbs _ (tY (Kf _ (List.mem_flatMap.2 ⟨i,List.mem_range.2 (by omega),hb'⟩)));have e:iu bs (.slice (some ⟨b,o,none⟩) l.length cap)=.slice (some ⟨16+ju b bs,o,none⟩) l.length (2*cap):=by show (if b∈bs then _ else _)=_;rw[if_pos hb]
  rw[e];have hlt:=nj hb;by_cases q:l=[]
  ·subst q;exact .row (e:=0) (m:=o) (fz:=0) (op:=false) (ro:=false) (cells:=.c unk) (show 16+ju b bs<16+bs.length by omega) (λh=>absurd rfl h) (by simp) λi hi=>absurd hi (Jy _)
  ·have hpos:0<l.length:=J8.2 q;have hh:=hh q;have hrow:iX gl w bs b=.row t cs.size false true 0 (T.ofList unk (cs.toList.map (iu bs))):=by unfold iX;obtain⟨⟨ln,h0⟩,_⟩:=hc 0 hpos;have h2:=h0 2 (by omega);rw[if_neg (λhl=>hns _ hl _ _ _ hh _ _ h2),hh]
   have hcell:∀i,i<l.length->∀j,j<9->o+i*9+j<cs.size:=λi hi j hj=>by obtain⟨⟨ln,h0⟩,_⟩:=hc i hi;have:=h0 j hj;rw[Jn (show j<(aO ln l[i] (ons i) (txs i)).length from hj)] at this;exact (Jw.1 this).1
   refine .row (e:=t) (m:=cs.size) (fz:=0) (op:=false) (ro:=true) (cells:=T.ofList unk (cs.toList.map (iu bs))) (show 16+ju b bs<16+bs.length by omega) (λ_=>?_) ?_ λi hi hi2=>?_
   ·rw[bv,oQ hb,hrow]
   ·have:=hcell (l.length-1) (by omega) 8 (by omega);omega
   ·obtain⟨⟨ln,h0⟩,a1,a2⟩:=hc i hi;refine⟨ln,iu bs (ons i),iu bs (txs i),?_,anY hns a1 λb hb=>hio i hi hi2 b (Ku _ hb),anY hns a2 λb hb=>hio i hi hi2 b (Kf _ hb)⟩;have g:∀j,j<9->getF (T.ofList unk (cs.toList.map (iu bs))) (o+i*9+j)=(aO ln l[i] (iu bs (ons i)) (iu bs (txs i))).getD j unk:=λj hj=>by
     rw[aI,Jc,JX,Kb,h0 j hj,Jc]
     match j,hj with
     | 0,_=>rfl
     | 1,_=>rfl
     | 2,_=>rfl
     | 3,_=>rfl
     | 4,_=>rfl
     | 5,_=>rfl
     | 6,_=>rfl
     | 7,_=>rfl
     | 8,_=>rfl
    show [getF _ (o+i*9+0),getF _ (o+i*9+1),getF _ (o+i*9+2),getF _ (o+i*9+3),getF _ (o+i*9+4),getF _ (o+i*9+5),getF _ (o+i*9+6),getF _ (o+i*9+7),getF _ (o+i*9+8)]=_;rw[g 0 (by omega),g 1 (by omega),g 2 (by omega),g 3 (by omega),g 4 (by omega),g 5 (by omega),g 6 (by omega),g 7 (by omega),g 8 (by omega)];rfl
def awF {P:Program} {gl:List AO} (hgl:GK gl=true) (hs:dO gl 0 (iL gl)=true) {w:World} (hr:eZ P renG (iL gl) w) {ons txs:Nat->Value} {v:Value} {l:List bV} (a:uU w ons txs v l):
  CW (λh v l=>WL h v l/\cj v) (j8 gl w (pj v ons txs l.length)) (iu (pj v ons txs l.length) v) l:=
 Vf (λb hl cs t fr hh o s=>Ai hgl hs hr hl hh o s) a λ_ h=>h
end Go.Ev
