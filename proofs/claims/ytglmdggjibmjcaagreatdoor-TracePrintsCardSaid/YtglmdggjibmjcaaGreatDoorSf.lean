/-
  BLOCKS OF THE WORLD AS READ-ONLY ROWS of abstract memory; lists of strings and of commands in them.
-/
import Derived.Test.YtglmdggjibmjcaaGreatDoorSe
noncomputable section
set_option linter.unusedVariables false
set_option linter.unusedSimpArgs false
set_option maxRecDepth 100000
set_option exponentiation.threshold 3000
open Nat (ble beq)
namespace Go.Ev
open Go F Go.Proofs Go.RowKit
def t0:ak:=(uz.ins 40 168 (some (dY glob ixQ))).ins 40 169 (some (dY glob Fz))
theorem SJ (h:aI uz):aI t0:=ay (ay h (by decide) ahg) (by decide) Zp
def E0:Env:=EX t0
theorem E0e:E0=EX t0:=rfl
theorem cvE {f:FuncId} {args:List Value} {h:H} {k:Value->H->R} {X:R} {m:Nat} (hn:t0.get f=none) (e:(aD (EX t0) KK f).run (ax E0 KK m) args h k=X):ax E0 KK (m+1) f args h k=X:=by show (cY E0 KK f).run _ _ _ _=_;rw[show cY E0 KK f=aD E0 KK f from eN hn,E0e];exact e
theorem ut0:UT E0:={ u3:=by kernel_rfl,u5:=by kernel_rfl,u9:=by kernel_rfl,u37:=by kernel_rfl,z9:=by kernel_rfl,u21:=by kernel_rfl }
theorem axP:cY E0 KK 168=⟨λ_ args h c=>cO (dY glob ixQ args h) c⟩:=by kernel_rfl
theorem f169:cY E0 KK 169=⟨λ_ args h c=>cO (dY glob Fz args h) c⟩:=by kernel_rfl
theorem a63 (m:Nat) (a0 a1:Value) (h:H) (k:Value->H->R):ax E0 KK (m+1) 63 [a0,a1] h k=p63 E0 (ax E0 KK m) a0 a1 h k:=cvE (by kernel_rfl) (akA t0 _ a0 a1 h k)
theorem a79 (m:Nat) (a0 a1:Value) (h:H) (k:Value->H->R):ax E0 KK (m+1) 79 [a0,a1] h k=p79 E0 (ax E0 KK m) a0 a1 h k:=cvE (by kernel_rfl) (abG t0 _ a0 a1 h k)
theorem aqU (m:Nat) (a0 a1:Value) (h:H) (k:Value->H->R):ax E0 KK (m+1) 100 [a0,a1] h k=Fv E0 (ax E0 KK m) a0 a1 h k:=cvE (by kernel_rfl) (My t0 _ a0 a1 h k)
theorem awQ (m:Nat) (a0:Value) (h:H) (k:Value->H->R):ax E0 KK (m+1) 101 [a0] h k=U6 E0 (ax E0 KK m) a0 h k:=cvE (by kernel_rfl) (M0 t0 _ a0 h k)
theorem gP {q:List Value->Option Value} {args:List Value} {h:H} {v:Value} (e:q args=some v) (hs:eO glob 0 h=true):dY glob q args h=some (v,h):=by unfold dY;rw[e];show (bif eO glob 0 h then some (v,h) else none)=_;rw[hs];rfl
theorem rl:eO glob 0 (eS glob)=true:=by kernel_rfl
theorem fe {h:H} (f:bJ (eS glob) h):eO glob 0 h=true:=by
 have:∀(l:List AO) (i:Nat),i+l.length<=16->eO l i h=eO l i (eS glob):=by
  intro l
  induction l with
  | nil=>intro i _;rfl
  | cons o l ih=> intro i hi;unfold eO;rw[ih (i+1) (by simp at hi;omega),<-bi,<-bi,f.old i (show i<16 by simp at hi;omega)]
 rw[this glob 0 (show 0+8<=16 by decide)];exact rl
theorem atz (m:Nat):arK (ax E0 KK (m+1)) (eS glob) where
 idx:=λs b h k hq=>by
  show (cY E0 KK 168).run _ _ _ _=_;rw[axP];have e:ixQ [aj s,cg b]=some (.int .i64 (Lib.indexByte s b)):=by show (bif Nat.blt b.toNat 256 then some (Value.int .i64 (Lib.indexByte s (UInt8.ofNat b.toNat))) else none)=_;rw[show Nat.blt b.toNat 256=true from aJ b.toNat_lt,UInt8.ofNat_toNat];rfl
  exact cB (gP e (fe hq)) k
 val:=λr h k hq hv=>by
  show (cY E0 KK 169).run _ _ _ _=_;rw[f169];have e:Fz [.int .i32 (.ofNat r)]=some (.bool true):=by show some (Value.bool (Utf8.valid (r:Int)))=_;rw[hv]
  exact cB (gP e (fe hq)) k
theorem aw5 (m:Nat):Ve (ax E0 KK (m+2)) (eS glob):=λr h hq hn=>by
 refine⟨λb hb hb2 k=>?_,λhr hv k=>?_⟩
 ·subst hb;rw[aqU];unfold Fv;rw[ag,yG ut0.u21,decide_eq_true (Nat.zero_le _)];simp only[↓aK,↓bT];rw[zo ut0.u21,decide_eq_true hb2];simp only[↓az,↓ag,↓bd];rw[bK,aJ (show b.toNat<=255 by omega)];exact (atz m).idx jv b h _ hq
 ·rw[aqU];exact TG ut0 (atz m) hr hv hq (by omega) k
theorem r63 (m:Nat) {w:Bs} (hw:w.length<=8) {h:H} (hq:bJ (eS glob) h) (hn:h.next<=500000000) (k:Value->H->R):∃h',ax E0 KK (m+4) 63 [aj w,aj jv] h k=k (.bool (w.any gg)) h':=by rw[a63];unfold p63;obtain⟨h',z,e,hz⟩:=aoz ut0 (aw5 m) (λn h k=>(awQ (m+1) _ h k).trans (by unfold U6;exact dC ut0.u3)) hw hq (by omega) _ _ (a79 (m+2) (aj w) (aj jv) h _).symm;rw[e,pc ut0.u3];exact⟨h',by rw[hz];rfl⟩
theorem akl (s:Bs):s.any gg=decide (0<=Lib.indexAny s jv):=by
 have hc:∀b:UInt8,jv.contains b=gg b:=λb=>by unfold jv gg;simp only[List.contains_cons,List.contains_nil,Bool.or_false]
 induction s with
 | nil=>rfl
 | cons b s ih=>
  rw[List.any_cons];unfold Lib.indexAny;rw[hc];cases hs:gg b with
  | true=>rw[if_pos rfl];rfl
  | false=>
   rw[if_neg (by simp),Bool.false_or,ih];have:=Lib.indexAny_ge jv s;by_cases q:Lib.indexAny s jv=-1
   ·rw[q];rfl
   ·rw[show (Lib.indexAny s jv==-1)=false from beq_eq_false_iff_ne.2 q,if_neg (by simp),decide_eq_true (show (0:Int)<=Lib.indexAny s jv by omega),decide_eq_true (by omega)]
theorem E7 (s:Bs) (h8:8<s.length) (hs:s.length<=1000000) (w:World):Calls Tryz.prog 63 #[.string ⟨⟨s⟩⟩,.string ⟨⟨jv⟩⟩] w λe w'=>e=.returned (.bool (s.any gg))/\Below w.heap.size w w':=by
 have hz:∀w,(zeroValue 148).run Tryz.prog w=.ok (.agg (Array.replicate 256 (.bool false))) w:=λw=>by kernel_rfl
 have e79:∀args w,(callFunc 79 args).run Tryz.prog w=.ok (.enter 79 args) w:=enters_of Tryz.func79 (by kernel_rfl) rfl;have hac:∀(j:Nat) b,(⟨⟨jv⟩⟩:ByteArray).data.toList[j]?=some b->b.toNat<128:=λj b hb=>by
  match j,hb with
  | 0,hb=>cases hb;decide
  | 1,hb=>cases hb;decide
 go_enter Tryz.func63,Tryz.ntmps63
 go_wp2_with (go_at_fn 79;refine (Tryz.strings_IndexAny_long hz ⟨⟨s⟩⟩ ⟨⟨jv⟩⟩ _ (by decide) h8 (show s.length<_ by omega) (by decide) hac).mono ?_;rintro e w' ⟨rfl,rfl⟩)
 go_ret
 exact⟨by rw[akl];rfl,((Below.refl _ _).alloc (Nat.le_refl _) _).alloc (by simp) _⟩
def Fw:List Value->Option Value
 | [.string ⟨⟨s⟩⟩,.string ⟨⟨[32,10]⟩⟩]=>bif ble s.length 1000000 then some (.bool (s.any gg)) else none
 | _=>none
theorem VR.bool_any {ρ ρ':Ren} {b:Bool} {v:Value} (h:VR ρ (.bool b) v):VR ρ' (.bool b) v:=by rw[h.bool];exact .of1 rfl
theorem Step.loneG {ρ ρ':Ren} {h h':H} {w w':World} (hr:eG Tryz.prog ρ h w) (s:Step Tryz.prog renG (eS glob) w ρ' h' w'):Step Tryz.prog ρ h w ρ h w' where
 ext:=ρ.le_refl
 old:=λ_ _ e _=>e
 next:=Nat.le_refl _
 keep:=λ_ _ _=>rfl
 rel:=⟨hr.dom,hr.inj,λid p e=>eV.same (hr.obj id p e) λhl=>s.same _ (hr.inside id p e hl) (IT gX _),hr.small,hr.fresh,hr.glob,λid p e hl=>Nat.lt_of_lt_of_le (hr.inside id p e hl) s.size⟩
 same:=λb hb _=>s.same b hb (IT gX b)
 own:=λ_ e _=>e
 size:=s.size
 tape:=s.tape
 os:=s.os
 output:=s.output
theorem ari (ht:aI uz):dt Tryz.prog 63 (dY glob Fw):=by
 intro ρ h w args args' v h' hr ha he;unfold dY at he;split at he
 ·rename_i v0 hq;cases hs:eO glob 0 h with
  | false=>rw[hs] at he;exact nomatch he
  | true=>
   rw[hs] at he;cases he;unfold Fw at hq;split at hq
   ·rename_i s;cases hb:ble s.length 1000000 with
    | false=>rw[hb] at hq;exact nomatch hq
    | true=>
     rw[hb] at hq;cases hq;have hb:=Nat.le_of_ble_eq_true hb;obtain⟨u1,u2,rfl,hu,hu2⟩:=jL ha;have e1:=hu.string;have e2:=hu2.string;subst e1 e2;by_cases h8:8<s.length
     ·exact eC.of_calls hr Tryz.func63 (by kernel_rfl) (by kernel_rfl) (.of1 rfl) (E7 s h8 hb w)
     ·obtain⟨h2,hrun⟩:=r63 40 (w:=s) (by omega) (bJ.refl (eS glob)) (show 16<=500000000 by decide) (λv h=>some (v,h));obtain⟨N,v0,h3,hcall,he'⟩:=cX hrun;cases he';have hr0:=Do gX hr hs;rcases rv (fF t0 (SJ ht)) (mC (fF t0 (SJ ht)).toTypesOK) N 63 _ _ _ _ hcall renG w [.string ⟨⟨s⟩⟩,.string ⟨⟨jv⟩⟩] hr0 ⟨.of1 rfl,.of1 rfl,trivial⟩ with ⟨v',ρ',w',q1,q2,q3⟩ | ⟨fn,q1,q2,q3,q4⟩
      ·exact .inl ⟨v',ρ,w',q1,q2.bool_any,Step.loneG hr q3⟩
      ·refine .inr ⟨fn,q1,q2,q3,q4.mono λe w' hq=>?_⟩;obtain⟨ρ',v',e1,e2,e3⟩:=hq;exact⟨ρ,v',e1,e2.bool_any,Step.loneG hr e3⟩
   ·exact nomatch hq
 ·exact nomatch he
theorem Pt {t:ak} (ht:aI t) {f:FuncId} (hf:f<1000):aI (t.ins 40 f none):=by
 intro g k' h;rw[T.get_ins _ _ _ _ _ (Nat.lt_of_lt_of_le (Nat.succ_lt_succ hf) (Nat.le_of_ble_eq_true rfl))] at h;by_cases e:g=f
 ·rw[if_pos e] at h;exact nomatch h
 ·rw[if_neg e] at h;exact ht g k' h
def jw:ak:=((((((uz.ins 40 17 none).ins 40 26 (some (dY glob tQ0))).ins 40 32 (some qH)).ins 40 56 (some (dY glob Mw))).ins 40 57 (some (dY glob Dd))).ins 40 58 (some (dY glob KW))).ins 40 63 (some (dY glob Fw))
theorem CR (h:aI uz):aI jw:=ay (ay (ay (ay (ay (ay (Pt h (by decide)) (by decide) aqQ) (by decide) auK) (by decide) atN) (by decide) apd) (by decide) ap4) (by decide) (ari h)
def bQ:Env:=EX jw
theorem axs:bQ=EX jw:=rfl
theorem lZ {f:FuncId} {args:List Value} {h:H} {k:Value->H->R} {X:R} {m:Nat} (hn:jw.get f=none) (e:(aD (EX jw) KK f).run (ax bQ KK m) args h k=X):ax bQ KK (m+1) f args h k=X:=by show (cY bQ KK f).run _ _ _ _=_;rw[show cY bQ KK f=aD bQ KK f from eN hn,axs];exact e
theorem Bq:UT bQ:={ u3:=by kernel_rfl,u5:=by kernel_rfl,u9:=by kernel_rfl,u37:=by kernel_rfl,z9:=by kernel_rfl,u21:=by kernel_rfl }
theorem awC:∀(a1 a2 a3:Option Addr) (n1 c1 n2 c2 n3 c3:Nat),co bQ 70 [(0,.slice a1 n1 c1),(1,.slice a2 n2 c2),(2,.slice a3 n3 c3)]=some (.agg ⟨[.slice a1 n1 c1,.slice a2 n2 c2,.slice a3 n3 c3]⟩):=λa1 a2 a3 n1 c1 n2 c2 n3 c3=>by kernel_rfl
theorem Ck:UP bQ:={ Bq with b70:=awC }
theorem av3:∃i,EI bQ 42 5 1 i [.int .u8 (.ofNat 0)]/\i.bytes=1:=⟨(bQ.info 5).getD default,⟨by kernel_rfl,by kernel_rfl,by kernel_rfl,of_decide_eq_true (by kernel_rfl),by kernel_rfl,rfl,by decide,by decide⟩,by kernel_rfl⟩
theorem ub1:UB bQ:={ l42:=av3,u3:=by kernel_rfl,u5:=by kernel_rfl,u9:=by kernel_rfl,u41:=by kernel_rfl,z44:=by kernel_rfl,u100:=by kernel_rfl,u75:=by kernel_rfl,z5:=by kernel_rfl }
theorem l37:EI bQ 37 9 1 ((bQ.info 9).getD default) [.string ⟨⟨[]⟩⟩]:=⟨by kernel_rfl,by kernel_rfl,by kernel_rfl,of_decide_eq_true (by kernel_rfl),by kernel_rfl,rfl,by decide,by decide⟩
theorem u63:bQ.und 63=some (.slice 67):=by kernel_rfl
theorem uN:bQ.und 22=some (.slice 39):=by kernel_rfl
theorem u42:bQ.und 42=some (.slice 5):=by kernel_rfl
theorem awR (m:Nat) (v:Value) (h:H) (k:Value->H->R):ax bQ KK (m+1) 55 [v] h k=k v h:=by kernel_rfl
theorem av0:cY bQ KK 26=⟨λ_ args h c=>cO (dY glob tQ0 args h) c⟩:=by kernel_rfl
theorem axf:cY bQ KK 32=⟨λ_ args h c=>cO (qH args h) c⟩:=by kernel_rfl
theorem awV:cY bQ KK 56=⟨λ_ args h c=>cO (dY glob Mw args h) c⟩:=by kernel_rfl
theorem awr:cY bQ KK 57=⟨λ_ args h c=>cO (dY glob Dd args h) c⟩:=by kernel_rfl
theorem aw9:cY bQ KK 58=⟨λ_ args h c=>cO (dY glob KW args h) c⟩:=by kernel_rfl
theorem av9:cY bQ KK 63=⟨λ_ args h c=>cO (dY glob Fw args h) c⟩:=by kernel_rfl
theorem ar4 (m:Nat) (a0:Value) (h:H) (k:Value->H->R):ax bQ KK (m+1) 13 [a0] h k=p13 bQ (ax bQ KK m) a0 h k:=lZ (by kernel_rfl) (aeC jw _ a0 h k)
theorem axa (m:Nat) (a0:Value) (a1:Value) (h:H) (k:Value->H->R):ax bQ KK (m+1) 14 [a0,a1] h k=p14 bQ (ax bQ KK m) a0 a1 h k:=lZ (by kernel_rfl) (abq jw _ a0 a1 h k)
theorem awM (m:Nat) (a0:Value) (h:H) (k:Value->H->R):ax bQ KK (m+1) 15 [a0] h k=p15 bQ (ax bQ KK m) a0 h k:=lZ (by kernel_rfl) (U0 jw _ a0 h k)
theorem avX (m:Nat) (a0:Value) (h:H) (k:Value->H->R):ax bQ KK (m+1) 16 [a0] h k=p16 bQ (ax bQ KK m) a0 h k:=lZ (by kernel_rfl) (adx jw _ a0 h k)
theorem axo (m:Nat) (a0:Value) (h:H) (k:Value->H->R):ax bQ KK (m+1) 17 [a0] h k=p17 bQ (ax bQ KK m) a0 h k:=lZ (by kernel_rfl) (ajC jw _ a0 h k)
theorem axy (m:Nat) (a0:Value) (h:H) (k:Value->H->R):ax bQ KK (m+1) 27 [a0] h k=p27 bQ (ax bQ KK m) a0 h k:=lZ (by kernel_rfl) (UM jw _ a0 h k)
theorem av8 (m:Nat) (h:H) (k:Value->H->R):ax bQ KK (m+1) 28 [] h k=p28 bQ (ax bQ KK m)  h k:=lZ (by kernel_rfl) (XT jw _  h k)
theorem aue (m:Nat) (h:H) (k:Value->H->R):ax bQ KK (m+1) 29 [] h k=p29 bQ (ax bQ KK m)  h k:=lZ (by kernel_rfl) (akM jw _  h k)
theorem axC (m:Nat) (a0:Value) (a1:Value) (h:H) (k:Value->H->R):ax bQ KK (m+1) 30 [a0,a1] h k=p30 bQ (ax bQ KK m) a0 a1 h k:=lZ (by kernel_rfl) (anT jw _ a0 a1 h k)
theorem aw4 (m:Nat) (a0:Value) (a1:Value) (a2:Value) (h:H) (k:Value->H->R):ax bQ KK (m+1) 31 [a0,a1,a2] h k=p31 bQ (ax bQ KK m) a0 a1 a2 h k:=lZ (by kernel_rfl) (ZF jw _ a0 a1 a2 h k)
theorem awh (m:Nat) (a0:Value) (a1:Value) (h:H) (k:Value->H->R):ax bQ KK (m+1) 33 [a0,a1] h k=p33 bQ (ax bQ KK m) a0 a1 h k:=lZ (by kernel_rfl) (anD jw _ a0 a1 h k)
theorem awf (m:Nat) (a0:Value) (h:H) (k:Value->H->R):ax bQ KK (m+1) 34 [a0] h k=p34 bQ (ax bQ KK m) a0 h k:=lZ (by kernel_rfl) (aaP jw _ a0 h k)
theorem axh (m:Nat) (a0:Value) (h:H) (k:Value->H->R):ax bQ KK (m+1) 35 [a0] h k=p35 bQ (ax bQ KK m) a0 h k:=lZ (by kernel_rfl) (alN jw _ a0 h k)
theorem axT (m:Nat) (a0:Value) (a1:Value) (h:H) (k:Value->H->R):ax bQ KK (m+1) 59 [a0,a1] h k=p59 bQ (ax bQ KK m) a0 a1 h k:=lZ (by kernel_rfl) (ae2 jw _ a0 a1 h k)
theorem axk (m:Nat) (a0:Value) (h:H) (k:Value->H->R):ax bQ KK (m+1) 60 [a0] h k=p60 bQ (ax bQ KK m) a0 h k:=lZ (by kernel_rfl) (ak3 jw _ a0 h k)
theorem axG (m:Nat) (a0:Value) (a1:Value) (h:H) (k:Value->H->R):ax bQ KK (m+1) 62 [a0,a1] h k=p62 bQ (ax bQ KK m) a0 a1 h k:=lZ (by kernel_rfl) (ajm jw _ a0 a1 h k)
theorem cv7 (m:Nat) (a0:Value) (a1:Value) (a2:Value) (h:H) (k:Value->H->R):ax bQ KK (m+1) 7 [a0,a1,a2] h k=p7 bQ (ax bQ KK m) a0 a1 a2 h k:=lZ (by kernel_rfl) (auD jw _ a0 a1 a2 h k)
theorem k26 (m:Nat):wL (ax bQ KK (m+1)) (bJ (eS glob)):=λn h k hn hq=>by
 show (cY bQ KK 26).run _ _ _ _=_;rw[av0];have e:tQ0 [.int .i64 n]=some (aj (Lib.itoa n)):=by show (bif decide (-9223372036854775808<=n)&&decide (n<=9223372036854775807) then some (Value.string ⟨(Lib.itoa n).toArray⟩) else none)=_;rw[decide_eq_true hn.1,decide_eq_true hn.2];rfl
 exact cB (gP e (fe hq)) k
theorem k56 (m:Nat) (s:Bs) (b:UInt8) (h:H) (k:Value->H->R) (hq:bJ (eS glob) h):ax bQ KK (m+1) 56 [aj s,.string ⟨⟨[b]⟩⟩] h k=k (.int .i64 (.ofNat (s.count b))) h:=by show (cY bQ KK 56).run _ _ _ _=_;rw[awV];exact cB (gP rfl (fe hq)) k
theorem k57 (m:Nat) (s p:Bs) (h:H) (k:Value->H->R) (hs:s.length<=1000) (hq:bJ (eS glob) h):ax bQ KK (m+1) 57 [aj s,.string ⟨⟨p⟩⟩] h k=k (.bool (Lib.hasSuffix s p)) h:=by
 show (cY bQ KK 57).run _ _ _ _=_;rw[awr];have e:Dd [aj s,.string ⟨⟨p⟩⟩]=some (.bool (Lib.hasSuffix s p)):=by show (bif ble s.length 1000000 then some (Value.bool (Lib.hasSuffix s p)) else none)=_;rw[aJ (show s.length<=1000000 by omega)];rfl
 exact cB (gP e (fe hq)) k
theorem k58 (m:Nat) (s:Bs) (b:UInt8) (h:H) (k:Value->H->R) (hq:bJ (eS glob) h):ax bQ KK (m+1) 58 [aj s,.string ⟨⟨[b]⟩⟩] h k=k (.bool (s.contains b)) h:=by show (cY bQ KK 58).run _ _ _ _=_;rw[aw9];exact cB (gP rfl (fe hq)) k
theorem k63 (m:Nat) (w:Bs) (h:H) (k:Value->H->R) (hw:w.length<=100000) (hq:bJ (eS glob) h):ax bQ KK (m+1) 63 [aj w,.string ⟨⟨[32,10]⟩⟩] h k=k (.bool (w.any gg)) h:=by
 show (cY bQ KK 63).run _ _ _ _=_;rw[av9];have e:Fw [aj w,.string ⟨⟨[32,10]⟩⟩]=some (.bool (w.any gg)):=by show (bif ble w.length 1000000 then some (Value.bool (w.any gg)) else none)=_;rw[aJ (show w.length<=1000000 by omega)];rfl
 exact cB (gP e (fe hq)) k
theorem ET:∀ws:List Bs,Lib.join ws [32]=dh ws
 | []=>rfl
 | [w]=>by unfold Lib.join dh;simp[List.intercalate,List.intersperse]
 | w :: x :: l=>by have ih:=ET (x :: l);unfold Lib.join at ih ⊢;unfold dh;rw[<-ih];simp[List.intercalate,List.intersperse]
theorem yb:∀ws:List Bs,ft ws->rE (ws.map λs=>(⟨⟨s⟩⟩:ByteArray))<=100001*ws.length
 | [],_=>Nat.le_refl _
 | w :: l,h=>by have h1:=h w (List.mem_cons_self ..);have h2:=yb l λs hs=>h s (List.mem_cons_of_mem _ hs);have h3:rE ((w :: l).map λs=>(⟨⟨s⟩⟩:ByteArray))=w.length+1+rE (l.map λs=>(⟨⟨s⟩⟩:ByteArray)):=rfl;rw[h3,List.length_cons];omega
theorem k32 (m:Nat) (v:Value) (ws:List Bs) (h:H) (k:Value->H->R) (o:SO h v ws) (hne:ws ≠ []) (hs:ft ws) (hl:ws.length<=8000):ax bQ KK (m+1) 32 [v,.string ⟨⟨[32]⟩⟩] h k=k (aj (dh ws)) h:=by
 show (cY bQ KK 32).run _ _ _ _=_;rw[axf];have hpos:0<ws.length:=List.length_pos_iff.2 hne;have e:qH [v,.string ⟨⟨[32]⟩⟩] h=some (aj (dh ws),h):=by
  unfold SO at o;generalize hn:ws.length=n at o hpos;generalize hL:ws.map aj=L at o;cases o with
  | nil=>omega
  | row hb hq hLn hc hp=>
   rename_i b fz op cells;have hcells:aY cells 0 n=ws.map λs=>Value.string ⟨⟨s⟩⟩:=by
    have hx:L.length=n:=by rw[<-hL,List.length_map,hn]
    have:=dD L cells 0 λj hj=>by rw[Nat.zero_add,<-bF,hc j hj]
    rw[hx] at this;rw[this,<-hL];rfl
   rw[bi] at hq;have b1:ble (0+n) (n*1)=true:=aJ (by omega);have b2:ble n ((2*n+op.toNat) / 2)=true:=aJ (by omega);have b3:ble n 10000=true:=aJ (by omega);have b4:Nat.blt 0 n=true:=aJ hp
   have b5:ble (rE (ws.map λs=>(⟨⟨s⟩⟩:ByteArray))) 1000000000=true:=aJ (by
    have:=yb ws hs;have:100001*ws.length<=100001*8000:=Nat.mul_le_mul_left _ hl
    omega)
   have b6:ble (ByteArray.size ⟨⟨[32]⟩⟩) 1000=true:=rfl;have hsC:pk (aY cells 0 n)=some (ws.map λs=>(⟨⟨s⟩⟩:ByteArray)):=by rw[hcells];have:=tY (ws.map λs=>(⟨⟨s⟩⟩:ByteArray));rw[List.map_map] at this;exact this
   unfold qH;simp only[hq,b1,b2,b3,b4,b6,Bool.and_self,cond_true,hsC,b5];rw[List.map_map,show ((λx:ByteArray=>x.data.toList) ∘ λs:Bs=>(⟨⟨s⟩⟩:ByteArray))=id from rfl,List.map_id,ET];rfl
 exact cB e k
theorem axc (m:Nat) {h:H} {bb:Nat} {s:List UInt8} (b:BI h bb s) (hn:h.next<=900000000):∃h',(∀k,ax bQ KK (m+2) 27 [.pointer (some ⟨bb,0,none⟩)] h k=k (.tuple ⟨[]⟩) h')/\h'.next=h.next/\(∀id,id≠bb->hget h' id=hget h id) /\
   ∃c v,hget h' bb=.row 44 2 false false 0 c/\getF c 0=.pointer (some ⟨bb,0,none⟩)/\getF c 1=v/\OL 5 1 h' v s.length (s.map cg)/\∀p,fX v=some p->bb<p:=by
 obtain⟨h',e,r⟩:=aom ub1 (rc:=ax bQ KK (m+1)) (awR m) b hn;exact⟨h',λk=>(axy (m+1) _ h k).trans (e k),r⟩
theorem aww (m:Nat) (w:Bs) (h:H) (k:Value->H->R) (hw:w.length<=100000) (hq:bJ (eS glob) h):ax bQ KK (m+3) 34 [aj w] h k=k (.bool (!aM w)) h:=by
 rw[awf];unfold p34;rw[axh];unfold p35;have u:=Ck.toUT;rw[Ap,show aj w=.string ⟨⟨w⟩⟩ from rfl,DO u.toUS];by_cases q:w=[]
 ·subst q;rfl
 ·rw[show (w==([]:Bs))=false from beq_eq_false_iff_ne.2 q];simp only[Bool.not_false,↓aK,↓bT];rw[show (.string ⟨⟨w⟩⟩:Value)=aj w from rfl,k63 m w _ _ hw hq];rw[AV w q,show (w.any λb=>b==32||b==10)=w.any gg from rfl];cases w.any gg <;> rfl
theorem k33 (m:Nat) (v:Value) (ws:List Bs) (h:H) (k:Value->H->R) (o:WL h v ws) (hs:ft ws) (hl:ws.length<=8000) (hq:bJ (eS glob) h):ax bQ KK (m+5) 33 [v,.func (.func 34) #[] #[]] h k=k (.bool (!ws.all aM)) h:=by rw[awh];refine arv Ck.toUT (λk=>?_) k;obtain⟨j,e⟩:=asD Ck.toUT o (λw hw k=>aww m w h k (hs w hw) hq) (by omega) k;exact⟨j,(axG (m+3) _ _ h k).trans e⟩
theorem kWr (m:Nat):ahh (ax bQ KK (m+2)) (eS glob) where
 num:=λn h k hn hq=>(ar4 (m+1) _ h k).trans (Tr Ck.toUS (k26 m) hn hq k)
 text:=λs h k=>(axk (m+1) _ h k).trans (atZ Ck.toUS s h k)
 put:=λB pb h ws von vtx w k X p hn hl e=>auk Ck.toUT l37 p hn hl w ((axT (m+1) _ _ h k).symm.trans e)
 kinds:=λh k hn=>(aue (m+1) h k).trans (SU h k hn)
theorem k31 (m:Nat):Cc (ax bQ KK (m+3)) (eS glob):=λhb h pb k X c ln ws on tx von vtx von0 vtx0 a1 a2 a3 a4 a5 a6 a7 a8 a9 b1 b2 b3 b4 r b5 b6 b7 e=>
 aqS Ck.toUT (kWr m) a1 a2 a3 a4 a5 a6 a7 a8 a9 b1 b2 b3 b4 b5 b6 b7 ((aw4 (m+2) _ _ _ h k).symm.trans e)
end Go.Ev
namespace Go.Ev
open Go F Go.Proofs
theorem kSp (m:Nat):arX (ax bQ KK (m+1)) (eS glob) where
 cnt:=λs b h k _ hq=>k56 m s b h k hq
 suf:=λs p h k hs hq=>k57 m s p h k hs hq
 con:=λs b h k _ hq=>k58 m s b h k hq
theorem kLn (m:Nat):Jq (ax bQ KK (m+6)) (eS glob) where
 r31:=k31 (m+3)
 join:=λv ws h k o hne hs hl=>k32 (m+5) v ws h k o hne hs hl
 all:=λv ws h k o hs hl hq=>k33 (m+1) v ws h k o hs hl hq
 rows:=λh k hn=>(av8 (m+5) h k).trans (ao5 h k hn)
 kinds:=λh k hn=>(aue (m+5) h k).trans (SU h k hn)
 spare:=λc ln von vtx h w r k X o1 o2 hr hn hq e=>aoT Ck.toUT (kSp (m+4)) o1 o2 hr hn hq k X ((axC (m+5) _ _ h k).symm.trans e)
def Ti (h:H) (v:Value) (l:List Bs):Prop:=WL h v l/\cL v
theorem ja:jG Ti:=⟨λh h' v l o f=>⟨o.1.from f,o.2⟩,λh v l o=>o.1⟩
theorem apQ (m:Nat):Ew (ax bQ KK (m+7)) (eS glob) Ti:=λc ln von vtx h k X hq C o1 o2 hn e=>
 ata Ck u63 (kLn m) hq C o1.1 o2.1 o1.2 o2.2 hn k X ((awM (m+6) _ h k).symm.trans e)
theorem kPr (m:Nat):ahk (ax bQ KK (m+7)) (eS glob) Ti where
 line:=apQ m
 wr:=λh bb s x b hn hx hs=>by obtain⟨h',e,r⟩:=aqH ub1 (rc:=ax bQ KK (m+6)) (λb hn=>axc (m+4) b hn) b hn hx hs;exact⟨h',λk=>(axa (m+6) _ _ h k).trans (e k),r⟩
 len:=λh bb s k b=>(avX (m+6) _ h k).trans (apl (u42:=u42) b k)
 str:=λh bb s b hne hn hs=>by obtain⟨h',e,r⟩:=apg ub1 (rc:=ax bQ KK (m+6)) b hne hn hs;exact⟨h',λk=>(axo (m+6) _ h k).trans (e k),r⟩
 num:=λn h k hn hq=>(ar4 (m+6) _ h k).trans (Tr Ck.toUS (k26 (m+5)) hn hq k)
theorem Av (m:Nat) {h:H} (hq:bJ (eS glob) h) {v:Value} {l:List dj} (o:CW Ti h v l) (hC:l.length<=1000->∀c∈l,vR c) (hL:l.length<=1000->∀c∈l,rj c) {cap keeps:Int} (hcap:dF cap) (hkeeps:dF keeps) (hn:h.next<=300000000) (k:Value->H->R) (X:R)
  (e:ax bQ KK (m+8) 7 [.int .i64 cap,.int .i64 keeps,v] h k=X):∃h',X=k (.tuple ⟨[aj (iV cap keeps l).1,.int .i64 (.ofNat (iV cap keeps l).2)]⟩) h'/\Fr h h' 10000000:=
 axH Ck.toUT uN ja (kPr m) hq o hC hL hcap hkeeps hn k X ((cv7 (m+7) _ _ _ h k).symm.trans e)
def jk (b:Nat):List Nat->Nat
 | []=>0
 | x :: l=>if x=b then 0 else jk b l+1
theorem lH {b:Nat}:∀{l:List Nat},b∈l->jk b l<l.length
 | x :: l,h=>by
  unfold jk;by_cases q:x=b
  ·rw[if_pos q];simp
  ·rw[if_neg q];rcases List.mem_cons.1 h with e | h
   ·exact absurd e.symm q
   ·have:=lH h;simp;omega
theorem pD {b:Nat}:∀{l:List Nat},jk b l<l.length->l[jk b l]?=some b
 | [],h=>absurd h (Nat.not_lt_zero _)
 | x :: l,h=>by
  unfold jk at h ⊢;by_cases q:x=b
  ·rw[if_pos q];simp[q]
  ·rw[if_neg q] at h ⊢;simp only[List.getElem?_cons_succ];exact pD (by simpa using h)
def nN (bs:List Nat):Ren:=λid=>if id<16 then some (id,0) else (bs[id-16]?).map λb=>(b,0)
theorem iL {bs:List Nat} {id:Nat} {q:Nat × Nat} (e:nN bs id=some q):(id<16/\q=(id,0)) \/ (16<=id/\∃b,bs[id-16]?=some b/\q=(b,0)):=by
 unfold nN at e;split at e
 ·cases e;exact .inl ⟨by assumption,rfl⟩
 ·rename_i h;cases hb:bs[id-16]? with
  | none=>rw[hb] at e;exact nomatch e
  | some b=>rw[hb] at e;cases e;exact .inr ⟨by omega,b,rfl,rfl⟩
theorem Ge {bs:List Nat} {b:Nat} (h:b∈bs):nN bs (16+jk b bs)=some (b,0):=by unfold nN;rw[if_neg (by omega),show 16+jk b bs-16=jk b bs by omega,pD (lH h)];rfl
def iT (bs:List Nat):Value->Value
 |.string s=>.string s
 |.int k n=>.int k n
 |.slice none n c=>.slice none n (2*c)
 |.slice (some ⟨b,o,none⟩) n c=>if b∈bs then .slice (some ⟨16+jk b bs,o,none⟩) n (2*c) else unk
 |.slice (some ⟨b,o,some s⟩) n c=>if n=0/\c=0 then .slice (some ⟨b,o,some s⟩) 0 0 else unk
 | _=>unk
theorem zU (bs:List Nat) (v:Value):fW (nN bs) (iT bs v) v:=by
 unfold iT;split
 ·exact .inr rfl
 ·exact .inr rfl
 ·refine .inr ?_;rename_i n c;simp only[cN,cJ];rw[show 2*c / 2=c by omega]
 ·split
  ·rename_i n c h;refine .inr ?_;simp only[cN,cJ,Ge h];rw[if_pos (by omega),show 2*c / 2=c by omega]
  ·exact .inl rfl
 ·split
  ·rename_i n c h;obtain⟨rfl,rfl⟩:=h;exact .inr rfl
  ·exact .inl rfl
 ·exact .inl rfl
def im (gl:List AO) (w:World) (bs:List Nat) (b:Nat):AO:=if live (gl.getD b .dead)=true then .dead else match w.heap[b]? with
 | some (.cells cs t _)=>.row t cs.size false true 0 (T.ofList unk (cs.toList.map (iT bs)))
 | _=>.dead
def hBg (l:List AO) (n:Nat):H:={ next:=n,objs:=T.ofList .dead l }
def rr (gl:List AO) (w:World) (bs:List Nat):H:=hBg ((List.range 16).map (λi=>gl.getD i .dead)++bs.map (im gl w bs)) (16+bs.length)
theorem fR (gl:List AO) (w:World) (bs:List Nat) (id:Nat):(rr gl w bs).objs.get id=if id<16 then gl.getD id .dead else ((bs[id-16]?).map (im gl w bs)).getD .dead:=by
 have h:∀l n,(hBg l n).objs.get id=(l[id]?).getD .dead:=λl n=>T.get_ofList _ _ _;unfold rr;rw[h];by_cases q:id<16
 ·rw[if_pos q,List.getElem?_append_left (by simpa using q),List.getElem?_map,List.getElem?_range q];rfl
 ·rw[if_neg q,List.getElem?_append_right (by simp;omega),List.length_map,List.length_range,List.getElem?_map]
theorem ny {gl:List AO} {w:World} {bs:List Nat} {b:Nat} (h:b∈bs):(rr gl w bs).objs.get (16+jk b bs)=im gl w bs b:=by rw[fR,if_neg (by omega),show 16+jk b bs-16=jk b bs by omega,pD (lH h)];rfl
theorem iH {gl:List AO} {w:World} {bs:List Nat} {b:Nat} (h:live (im gl w bs b)=true):live (gl.getD b .dead)=false/\∃cs t fr,w.heap[b]?=some (.cells cs t fr)/\im gl w bs b=.row t cs.size false true 0 (T.ofList unk (cs.toList.map (iT bs))):=by
 unfold im at h ⊢;cases hl:live (gl.getD b .dead) with
 | true=>rw[hl,if_pos rfl] at h;exact nomatch h
 | false=>
  rw[hl,if_neg (by simp)] at h;rw[if_neg (by simp)];refine⟨rfl,?_⟩;split at h
  ·rename_i cs t fr hh;exact⟨cs,t,fr,hh,rfl⟩
  ·exact nomatch h
theorem qZ {gl:List AO} {w:World} {bs:List Nat} {b:Nat} (hl:live (im gl w bs b)=false):im gl w bs b=.dead:=by
 unfold im at hl ⊢;split
 ·rfl
 ·rename_i q;rw[if_neg q] at hl;split
  ·rename_i hh;rw[hh] at hl;exact nomatch hl
  ·rfl
theorem Ez {P:Program} {gl:List AO} {w:World} {bs:List Nat} (b:Nat):eV P (nN bs) w (b,0) (im gl w bs b):=by
 cases hl:live (im gl w bs b) with
 | false=> have:im gl w bs b=.dead:=qZ hl;rw[this];trivial
 | true=> obtain⟨_,cs,t,fr,hh,e⟩:=iH hl;rw[e];refine⟨cs,fr,hh,Nat.le_refl _,λ_=>⟨rfl,rfl⟩,λe=>(nomatch e),λi hi=>?_,.inl rfl⟩;refine⟨cs[i],Array.getElem?_eq_getElem hi,?_⟩;rw[T.get_ofList,List.getD_eq_getElem?_getD,List.getElem?_map,Array.getElem?_toList,Array.getElem?_eq_getElem hi];exact zU bs cs[i]
theorem Be {l:List Nat} (h:l.Nodup) {i j b:Nat} (hi:l[i]?=some b) (hj:l[j]?=some b):i=j:=
 (List.getElem?_inj (List.getElem?_eq_some_iff.1 hi).1 h).1 (hi.trans hj.symm)
theorem aqA {P:Program} {gl:List AO} {w:World} {bs:List Nat} (hgl:gl.length<=16) (hr:eG P renG (eS gl) w) (hnd:bs.Nodup) (hlen:bs.length<=1000000):eG P (nN bs) (rr gl w bs) w:=by
 have hgg:∀id,id<16->(eS gl).objs.get id=gl.getD id .dead:=λid _=>by rw[dJ,List.getD_eq_getElem?_getD]
 have hle:renG.le (nN bs):=λid p e=>by
  unfold renG at e;split at e
  ·rename_i h;cases e;unfold nN;rw[if_pos h]
  ·exact nomatch e
 have hrg:∀id,id<16->renG id=some (id,0):=λid h=>by unfold renG;rw[if_pos h]
 constructor
 ·intro id q e;show id<16+bs.length;rcases iL e with ⟨h,_⟩ | ⟨h,b,hb,_⟩
  ·omega
  ·have:=(List.getElem?_eq_some_iff.1 hb).1;omega
 ·intro i j p q e1 e2 l1 l2 e;rw[fR] at l1 l2;rcases iL e1 with ⟨h1,rfl⟩ | ⟨h1,b1,hb1,rfl⟩ <;> rcases iL e2 with ⟨h2,rfl⟩ | ⟨h2,b2,hb2,rfl⟩
  ·exact e
  ·rw[if_pos h1] at l1;rw[if_neg (by omega),hb2] at l2;have e:i=b2:=e;have:=(iH (b:=b2) l2).1;rw[<-e,l1] at this;exact nomatch this
  ·rw[if_pos h2] at l2;rw[if_neg (by omega),hb1] at l1;have e:b1=j:=e;have:=(iH (b:=b1) l1).1;rw[e,l2] at this;exact nomatch this
  ·have e:b1=b2:=e;subst e;have:=Be hnd hb1 hb2;omega
 ·intro id q e;rw[fR];rcases iL e with ⟨h,rfl⟩ | ⟨h,b,hb,rfl⟩
  ·rw[if_pos h,<-hgg id h];exact (hr.obj id _ (hrg id h)).mono hle
  ·rw[if_neg (by omega),hb];exact Ez b
 ·intro id e;have h40:(2000000:Nat)<2 ^ deep:=by decide
  rw[fR] at e;by_cases h:id<16
  ·omega
  ·rw[if_neg h] at e;cases hb:bs[id-16]? with
   | none=>rw[hb] at e;exact nomatch e
   | some b=>have:=(List.getElem?_eq_some_iff.1 hb).1;omega
 ·intro id e;have e:16+bs.length<=id:=e;rw[fR,if_neg (by omega),List.getElem?_eq_none (by omega)];rfl
 ·intro g hg;unfold nN;rw[if_pos hg]
 ·intro id q e hl;rw[fR] at hl;rcases iL e with ⟨h,rfl⟩ | ⟨h,b,hb,rfl⟩
  ·rw[if_pos h,<-hgg id h] at hl;exact hr.inside id _ (hrg id h) hl
  ·rw[if_neg (by omega),hb] at hl;obtain⟨_,cs,t,fr,hh,_⟩:=iH (b:=b) hl;exact (Array.getElem?_eq_some_iff.1 hh).1
theorem awZ {gl:List AO} (hgl:BD gl=true) (w:World) (bs:List Nat) (b:Nat):¬ Wr (nN bs) (rr gl w bs) b:=by
 rintro⟨id,q,e,_,h⟩;rw[fR] at h;rcases iL e with ⟨h1,rfl⟩ | ⟨h1,b',hb,rfl⟩
 ·rw[if_pos h1] at h;rcases jp hgl id with ⟨_,e2⟩ | ⟨_,el,n,fz,c,e1,e2⟩
  ·rw[dJ,<-List.getD_eq_getElem?_getD] at e2;rw[e2] at h;exact nomatch h
  ·rw[dJ,<-List.getD_eq_getElem?_getD] at e2;rw[e2] at h;exact nomatch h
 ·rw[if_neg (by omega),hb] at h;cases hl:live (im gl w bs b') with
  | true=> obtain⟨_,cs,t,fr,_,e2⟩:=iH hl;rw[show (Option.map (im gl w bs) (some b')).getD AO.dead=im gl w bs b' from rfl,e2] at h;exact nomatch h
  | false=> rw[show (Option.map (im gl w bs) (some b')).getD AO.dead=im gl w bs b' from rfl,qZ hl] at h;exact nomatch h
theorem pP {P:Program} {gl:List AO} (hgl:BD gl=true) (hs:eO gl 0 (eS gl)=true) {w:World} (hr:eG P renG (eS gl) w) {b:Nat} (hl:live (gl.getD b .dead)=true) {cs:Array Value} {t:TypeId} {fr:Nat × Nat} (hh:w.heap[b]?=some (.cells cs t fr)) (o:Nat) (s:ByteArray):cs[o]?≠some (.string s):=by
 intro hc;rcases jp hgl b with ⟨_,e⟩ | ⟨hj,e,n,fz,c,g1,g2⟩
 ·rw[dJ,<-List.getD_eq_getElem?_getD] at e;rw[e] at hl;exact nomatch hl
 ·have hsr:=mY hs b _ g1;rw[Nat.zero_add] at hsr;obtain⟨_,_,_,_,_,h3⟩:=nE hsr;have ho:=hr.obj b (b,0) (by unfold renG;rw[if_pos hj]);rw[g2] at ho;obtain⟨cs',fr',k1,k2,k3,k4,k5,k6⟩:=ho;rw[hh] at k1;cases k1;have hlt:=(Array.getElem?_eq_some_iff.1 hc).1;have hn:o<n:=by rw[<-(k3 rfl).1];exact hlt
  obtain⟨v',a,b'⟩:=k5 o hn;obtain⟨_,kk,m,h4⟩:=h3 o hn;rw[hc] at a;cases a;rw[h4] at b';rcases b' with b' | b'
  ·exact nomatch b'
  ·exact nomatch b'
inductive mH (w:World):Value->List Bs->Prop
 | nil:mH w (.slice none 0 0) []
 | gar {b o s:Nat}:mH w (.slice (some ⟨b,o,some s⟩) 0 0) []
 | row {b o cap:Nat} {cs:Array Value} {t:TypeId} {fr:Nat × Nat} {l:List Bs} (hh:l ≠ []->w.heap[b]?=some (.cells cs t fr)) (hc:∀i (hi:i<l.length),cs[o+i]?=some (.string ⟨⟨l[i]⟩⟩)) (hcap:l.length<=cap):
   mH w (.slice (some ⟨b,o,none⟩) l.length cap) l
def pR:Value->List Nat
 |.slice (some ⟨b,_,none⟩) _ _=>[b]
 | _=>[]
theorem apm {P:Program} {gl:List AO} (hgl:BD gl=true) (hs:eO gl 0 (eS gl)=true) {w:World} (hr:eG P renG (eS gl) w) {bs:List Nat} {v:Value} {l:List Bs} (a:mH w v l) (hin:∀b∈pR v,b∈bs):WL (rr gl w bs) (iT bs v) l/\cL (iT bs v):=by
 cases a with
 | nil=>exact⟨.nil,rfl⟩
 | gar=>exact⟨.gar rfl,rfl⟩
 | row hh hc hcap=>
  rename_i b o cap cs t fr;have hb:=hin b (List.mem_cons_self ..);have e:iT bs (.slice (some ⟨b,o,none⟩) l.length cap)=.slice (some ⟨16+jk b bs,o,none⟩) l.length (2*cap):=by show (if b∈bs then _ else _)=_;rw[if_pos hb]
  rw[e];refine⟨?_,show (2*cap)%2=0 by omega⟩;have hlt:=lH hb;by_cases q:l=[]
  ·subst q;exact .row (e:=0) (m:=o) (fz:=0) (op:=false) (ro:=false) (cells:=.c unk) (show 16+jk b bs<16+bs.length by omega) (λh=>absurd rfl h) (by simp) (by simp) λi hi=>absurd hi (Nat.not_lt_zero _)
  ·have hpos:0<l.length:=List.length_pos_iff.2 q;have hh:=hh q;have hrow:im gl w bs b=.row t cs.size false true 0 (T.ofList unk (cs.toList.map (iT bs))):=by unfold im;rw[if_neg (λhl=>pP hgl hs hr hl hh _ _ (hc 0 hpos)),hh]
   refine .row (e:=t) (m:=cs.size) (fz:=0) (op:=false) (ro:=true) (cells:=T.ofList unk (cs.toList.map (iT bs))) (show 16+jk b bs<16+bs.length by omega) (λ_=>?_) ?_ (by omega) λi hi=>?_
   ·rw[bi,ny hb,hrow]
   ·have:=(Array.getElem?_eq_some_iff.1 (hc (l.length-1) (by omega))).1;omega
   ·rw[aH,List.getD_eq_getElem?_getD,List.getElem?_map,Array.getElem?_toList,hc i hi];rfl
inductive xG (w:World) (ons txs:Nat->Value):Value->List dj->Prop
 | nil:xG w ons txs (.slice none 0 0) []
 | row {b o cap:Nat} {cs:Array Value} {t:TypeId} {fr:Nat × Nat} {l:List dj} (hh:l ≠ []->w.heap[b]?=some (.cells cs t fr))
   (hc:∀i (hi:i<l.length),(∃ln,∀j,j<9->cs[o+i*9+j]?=(aL ln l[i] (ons i) (txs i))[j]?)/\mH w (ons i) l[i].on/\mH w (txs i) l[i].texts) (hcap:l.length<=cap):xG w ons txs (.slice (some ⟨b,o,none⟩) l.length cap) l
def dd:List Nat->List Nat
 | []=>[]
 | x :: l=>if x∈dd l then dd l else x :: dd l
theorem pG:∀l,(dd l).Nodup
 | []=>List.nodup_nil
 | x :: l=>by
  unfold dd;split
  ·exact pG l
  ·rename_i h;exact List.nodup_cons.2 ⟨h,pG l⟩
theorem rz {b:Nat}:∀{l:List Nat},b∈l->b∈dd l
 | x :: l,h=>by
  unfold dd;rcases List.mem_cons.1 h with rfl | h
  ·split
   ·assumption
   ·exact List.mem_cons_self ..
  ·split
   ·exact rz h
   ·exact List.mem_cons_of_mem _ (rz h)
theorem EN:∀l,(dd l).length<=l.length
 | []=>Nat.le_refl _
 | x :: l=>by unfold dd;have:=EN l;split <;> simp <;> omega
def sH (v:Value) (ons txs:Nat->Value) (n:Nat):List Nat:=dd (pR v++(List.range (min n 1002)).flatMap λi=>pR (ons i)++pR (txs i))
theorem oV (v:Value):(pR v).length<=1:=by unfold pR;split <;> simp
theorem Cg (v:Value) (ons txs:Nat->Value) (n:Nat):(sH v ons txs n).length<=3000:=by
 have h:∀m:Nat,((List.range m).flatMap λi=>pR (ons i)++pR (txs i)).length<=2*m:=by
  intro m
  induction m with
  | zero=>simp
  | succ m ih=> rw[List.range_succ,List.flatMap_append,List.length_append];simp only[List.flatMap_cons,List.flatMap_nil,List.append_nil,List.length_append];have:=oV (ons m);have:=oV (txs m);omega
 unfold sH;refine Nat.le_trans (EN _) ?_;rw[List.length_append];have:=oV v;have:=h (min n 1002);omega
theorem awA {P:Program} {gl:List AO} (hgl:BD gl=true) (hs:eO gl 0 (eS gl)=true) {w:World} (hr:eG P renG (eS gl) w) {ons txs:Nat->Value} {v:Value} {l:List dj} (a:xG w ons txs v l):
  CW (λh v l=>WL h v l/\cL v) (rr gl w (sH v ons txs l.length)) (iT (sH v ons txs l.length) v) l:=by
 cases a with
 | nil=>exact .nil
 | row hh hc hcap=>
  rename_i b o cap cs t fr;generalize hbs:sH (.slice (some ⟨b,o,none⟩) l.length cap) ons txs l.length=bs;have hb:b∈bs:=by subst hbs;exact rz (List.mem_append_left _ (List.mem_cons_self ..))
  have hio:∀i,i<l.length->i<1002->∀b,b∈pR (ons i)++pR (txs i)->b∈bs:=λi h1 h2 b hb'=>by subst hbs;exact rz (List.mem_append_right _ (List.mem_flatMap.2 ⟨i,List.mem_range.2 (by omega),hb'⟩))
  have e:iT bs (.slice (some ⟨b,o,none⟩) l.length cap)=.slice (some ⟨16+jk b bs,o,none⟩) l.length (2*cap):=by show (if b∈bs then _ else _)=_;rw[if_pos hb]
  rw[e];have hlt:=lH hb;by_cases q:l=[]
  ·subst q;exact .row (e:=0) (m:=o) (fz:=0) (op:=false) (ro:=false) (cells:=.c unk) (show 16+jk b bs<16+bs.length by omega) (λh=>absurd rfl h) (by simp) λi hi=>absurd hi (Nat.not_lt_zero _)
  ·have hpos:0<l.length:=List.length_pos_iff.2 q;have hh:=hh q;have hrow:im gl w bs b=.row t cs.size false true 0 (T.ofList unk (cs.toList.map (iT bs))):=by unfold im;obtain⟨⟨ln,h0⟩,_⟩:=hc 0 hpos;have h2:=h0 2 (by omega);rw[if_neg (λhl=>pP hgl hs hr hl hh _ _ h2),hh]
   have hcell:∀i,i<l.length->∀j,j<9->o+i*9+j<cs.size:=λi hi j hj=>by obtain⟨⟨ln,h0⟩,_⟩:=hc i hi;have:=h0 j hj;rw[List.getElem?_eq_getElem (show j<(aL ln l[i] (ons i) (txs i)).length from hj)] at this;exact (Array.getElem?_eq_some_iff.1 this).1
   refine .row (e:=t) (m:=cs.size) (fz:=0) (op:=false) (ro:=true) (cells:=T.ofList unk (cs.toList.map (iT bs))) (show 16+jk b bs<16+bs.length by omega) (λ_=>?_) ?_ λi hi hi2=>?_
   ·rw[bi,ny hb,hrow]
   ·have:=hcell (l.length-1) (by omega) 8 (by omega);omega
   ·obtain⟨⟨ln,h0⟩,a1,a2⟩:=hc i hi;refine⟨ln,iT bs (ons i),iT bs (txs i),?_,apm hgl hs hr a1 λb hb=>hio i hi hi2 b (List.mem_append_left _ hb),apm hgl hs hr a2 λb hb=>hio i hi hi2 b (List.mem_append_right _ hb)⟩;have g:∀j,j<9->getF (T.ofList unk (cs.toList.map (iT bs))) (o+i*9+j)=(aL ln l[i] (iT bs (ons i)) (iT bs (txs i))).getD j unk:=λj hj=>by
     rw[aH,List.getD_eq_getElem?_getD,List.getElem?_map,Array.getElem?_toList,h0 j hj,List.getD_eq_getElem?_getD]
     match j,hj with
     | 0,_=>rfl
     | 1,_=>rfl
     | 2,_=>rfl
     | 3,_=>rfl
     | 4,_=>rfl
     | 5,_=>rfl
     | 6,_=>rfl
     | 7,_=>rfl
     | 8,_=>rfl
    show [getF _ (o+i*9+0),getF _ (o+i*9+1),getF _ (o+i*9+2),getF _ (o+i*9+3),getF _ (o+i*9+4),getF _ (o+i*9+5),getF _ (o+i*9+6),getF _ (o+i*9+7),getF _ (o+i*9+8)]=_;rw[g 0 (by omega),g 1 (by omega),g 2 (by omega),g 3 (by omega),g 4 (by omega),g 5 (by omega),g 6 (by omega),g 7 (by omega),g 8 (by omega)];rfl
end Go.Ev
