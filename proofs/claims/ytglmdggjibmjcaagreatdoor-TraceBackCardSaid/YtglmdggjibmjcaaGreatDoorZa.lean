/-
  THE ROW's FIRST WORLD: the listed variables as the text leaves them; it is shaped.
-/
import Derived.Test.YtglmdggjibmjcaaGreatDoorZr
import Derived.OpenShut
import Derived.Test.YtglmdggjibmjcaaGreatDoorRows
import Derived.Test.YtglmdggjibmjcaaGreatDoorYn
import Derived.ChangeArms
import Derived.Lay
import Derived.LaidMore
import Derived.MakeChecks
noncomputable section
set_option linter.all false
set_option maxRecDepth 100000
set_option exponentiation.threshold 3000
open Nat (ble beq)
namespace Go.Ev
open Go F Go.Proofs Go.Proofs.YtglmdggjibmjcaaGreatDoor
def rO {H:Type} {enc:TypeId × Value->H} {P:Program} {w:World} {base:Nat} {sp:Nat->Bool} {held:Bool} {fuel:Nat} {t e:TypeId} {n:Nat} {k:IntKind} {cs:List Value} {zs:List Int} {p:List MemPlace}
  (ht:P.underlying t=some (.array n e)) (he:P.underlying e=some (.int k)) (hc:P.cellsOf e=1) (h:DataW.trod enc P w base sp held fuel t cs=some (.agg (zs.map λz=>.lit (.int k z)),p)) (i:Nat) (z:Int) (hz:zs[i]?=some z):cs[i]?=some (.int k z):=by
 obtain⟨xs,m,rfl,hx,hl,hn,hel⟩:=DataW.trod_array ht h;simp only[JA,DataW.agg.injEq] at hx;have hlen:zs.length=xs.length:=by have:=congrArg List.length hx.1;simpa using this
 have hi:i<zs.length:=(List.getElem?_eq_some_iff.1 hz).1;have h1:=hel i (by omega);obtain⟨b,hb⟩:∃b,xs[i]?=some b:=⟨xs[i]'(by omega),Jn (by omega)⟩;rw[hb,hc] at h1;obtain⟨z',hcz,hbz,_⟩:=DataW.trod_int he h1;have h2:cs[i]?=some (.int k z'):=by have:=congrArg (·[0]?) hcz;simpa [List.getElem?_take,List.getElem?_drop] using this
 have h3:=congrArg (·[i]?) hx.1;simp only[JX,hb,hz,KD,hbz,I9,DataW.lit.injEq,Lit.int.injEq,true_and] at h3;rw[h2,h3]
def uq:∀(l:List Nat) (i:Nat),(PK l)[i]?=l[i]?.map λa=>Value.int .u8 (.ofNat a)
 | [],_=>rfl
 | a :: l,0=>rfl
 | a :: l,i+1=>uq l i
def xE:∀(l:List Nat) (i:Nat),(rW l)[i]?=l[i]?.map λa=>Value.int .u64 (.ofNat a)
 | [],_=>rfl
 | a :: l,0=>rfl
 | a :: l,i+1=>xE l i
def row_of {W:World} {name:String} {g:Nat} {t e:TypeId} {k:IntKind} {l:List Nat} {L:List Value} {d:DataW Unit} (hsh:W.ShapedOpen Tryz.prog) (hg:Tryz.prog.globalNamed name=some g) (hlt:g<Tryz.prog.globals.size) (zero:Array Value)
  (h0:(((begin Tryz.prog (λ_ _=>0) default).world.heap[g]?).bind Obj.row?)=some (zero,t)) (hsz:zero.size=l.length) (hty:(Tryz.prog.globals[g]?).map (·.type)=some t) (ht:Tryz.prog.underlying t=some (.array l.length e)) (he:Tryz.prog.underlying e=some (.int k)) (hc:Tryz.prog.cellsOf e=1)
  (hd:d=.agg ((l.map Int.ofNat).map λz=>.lit (.int k z))) (hL:∀i:Nat,L[i]?=l[i]?.map λa=>Value.int k (.ofNat a))
  (hr:∃g t cs fuel p,Tryz.prog.globalNamed name=some g/\(Tryz.prog.globals[g]?).map (·.type)=some t/\W.var? Tryz.prog name=some cs/\DataW.trod (λ_=>()) Tryz.prog W 0 (λ_=>true) false fuel t cs.toList=some (d,p)) (ρ:Ren):
  eV Tryz.prog ρ W (g,0) (.row t l.length false true 0 (T.ofList undef L))/\g<W.heap.size:=by
 obtain⟨g',t',cs',fuel,p,e1,e2,e3,e4⟩:=hr;obtain rfl:=JJ (hg.symm.trans e1);obtain rfl:=JJ (hty.symm.trans e2);obtain⟨cs,hh,hs,_⟩:=hsh.1 g zero t hlt h0;have hcs:cs'=cs:=by unfold World.var? at e3;rw[hg] at e3;simp only[KS,hh,I9] at e3;exact e3.symm
 subst hcs;refine⟨⟨cs',(0,0),hh,by omega,λ_=>⟨by omega,rfl⟩,λq=>(nomatch q),λi hi=>?_,.inl rfl⟩,(Jw.1 hh).1⟩;have hz:(l.map Int.ofNat)[i]?=some (Int.ofNat l[i]):=by simp[hi]
 have h1:=rO ht he hc (hd ▸ e4) i _ hz;refine⟨.int k (.ofNat l[i]),by rw[<-Kb];exact h1,?_⟩;rw[T.get_ofList,Jc,hL i];simp only[Jn hi,KD,KH];exact .inr rfl
def z32:(((begin Tryz.prog (λ_ _=>0) default).world.heap[6]?).bind Obj.row?)=some (⟨List.replicate 32 (.int .u8 0)⟩,403):=by kernel_rfl
def z64:(((begin Tryz.prog (λ_ _=>0) default).world.heap[7]?).bind Obj.row?)=some (⟨List.replicate 64 (.int .u8 0)⟩,404):=by kernel_rfl
def z20:(((begin Tryz.prog (λ_ _=>0) default).world.heap[1]?).bind Obj.row?)=some (⟨List.replicate 20 (.int .u64 0)⟩,227):=by kernel_rfl
def kv : List (String × DataW Unit):= [("internal/strconv.uint64pow10", Rows.laid_internal_strconv_uint64pow10), ("math/bits.deBruijn32tab", Rows.laid_math_bits_deBruijn32tab), ("math/bits.deBruijn64tab", Rows.laid_math_bits_deBruijn64tab), ("unicode/utf8.first", Rows.laid_unicode_utf8_first), ("unicode/utf8.acceptRanges", Rows.laid_unicode_utf8_acceptRanges), ("strconv.ErrSyntax", Rows.laid_strconv_ErrSyntax), ("strconv.ErrRange", Rows.laid_strconv_ErrRange)]
def row_one {W:World} {g:Nat} {t:TypeId} (hsh:W.ShapedOpen Tryz.prog) (hlt:g<Tryz.prog.globals.size) (zero:Array Value) (h0:(((begin Tryz.prog (λ_ _=>0) default).world.heap[g]?).bind Obj.row?)=some (zero,t)) (hsz:zero.size=1) {v v':Value} {ρ:Ren}
  (hc:W.cell? ⟨g,0,none⟩=some v') (hv:ga ρ v v'):eV Tryz.prog ρ W (g,0) (.row t 1 false true 0 (.c v))/\g<W.heap.size:=by
 obtain⟨cs,hh,hs,_⟩:=hsh.1 g zero t hlt h0;refine⟨⟨cs,(0,0),hh,by omega,λ_=>⟨by omega,rfl⟩,λq=>(nomatch q),λi hi=>?_,.inl rfl⟩,(Jw.1 hh).1⟩;obtain rfl:i=0:=by omega
 refine⟨v',?_,hv⟩;unfold World.cell? at hc;simp only[hh,Option.isSome_none,J1,if_false] at hc;exact hc
def zz {H:Type} {enc:TypeId × Value->H} {P:Program} {w:World} {base:Nat} {sp:Nat->Bool} {fuel:Nat} {t:TypeId} {ms:_} {cs:List Value} {name:String} {d:DataW H} {p:List MemPlace}
  (ht:P.underlying t=some (.interface ms)) (h:DataW.trod enc P w base sp false fuel t cs=some (.iface name d,p)):∃u v n p',cs=[.iface u v]/\DataW.trod enc P w base sp false n u v.cells.toList=some (d,p'):=by
 cases fuel with
 | zero=>simp[DataW.trod] at h
 | succ n=>
  unfold DataW.trod at h;rw[ht] at h;split at h <;> simp_all
  split at h <;> simp_all
  exact⟨_,_,⟨rfl,rfl⟩,n,p,h.1⟩
def Fu {H:Type} {enc:TypeId × Value->H} {P:Program} {w:World} {base:Nat} {sp:Nat->Bool} {held:Bool} {fuel:Nat} {t:TypeId} {cs:List Value} {d:DataW H} {p:List MemPlace}
  (h:DataW.trod enc P w base sp held fuel t cs=some (.ptr d,p)):∃e a,P.underlying t=some (.pointer e)/\cs=[.pointer (some a)]:=by
 cases fuel with
 | zero=>simp[DataW.trod] at h
 | succ n=>
  unfold DataW.trod at h;split at h <;> simp_all
  all_goals first
   | (simp[Option.bind_eq_some_iff] at h;done)
   | (split at h <;> simp_all;done)
   | (split at h <;> (try simp_all) <;> simp[Option.bind_eq_some_iff] at h;done)
def z0:(((begin Tryz.prog (λ_ _=>0) default).world.heap[0]?).bind Obj.row?)=some (⟨[.int .i64 0]⟩,3):=by kernel_rfl
def zE5:(((begin Tryz.prog (λ_ _=>0) default).world.heap[5]?).bind Obj.row?)=some (⟨[.nilIface]⟩,46):=by kernel_rfl
def UW (m:Int) (u:TypeId) (off:Nat):List AO:=[.row 3 1 false true 0 (.c (.int .i64 m)),.row 227 20 false true 0 (T.ofList undef (rW UH)),.dead,.dead,.dead,.row 46 1 false true 0 (.c (.iface u (.pointer (some ⟨16,off,none⟩)))),
 .row 403 32 false true 0 (T.ofList undef (PK l32)),.row 404 64 false true 0 (T.ofList undef (PK l64))]
def tP {W:World} (hsh:W.ShapedOpen Tryz.prog):∃m,W.cell? ⟨0,0,none⟩=some (.int .i64 m):=by
 obtain⟨cs,hh,hs,hr⟩:=hsh.1 0 _ 3 (of_decide_eq_true (by kernel_rfl)) z0;have hs:cs.size=1:=hs;obtain⟨ts,hts,_,hall⟩:=hr (by kernel_rfl);have h3:Tryz.prog.cellTypes Tryz.prog.depth 3=some [3]:=by kernel_rfl
 rw[h3] at hts;cases hts;have h1:0<cs.size:=by omega
 obtain⟨u,hu',hok⟩:=hall 0 cs[0] (by simp[h1]);have:u=3:=by simpa using hu'.symm
 subst this;have hcell:W.cell? ⟨0,0,none⟩=some cs[0]:=by simp[World.cell?,hh,h1]
 rw[hcell];unfold Cell.ok at hok;have hu3:Tryz.prog.underlying 3=some (.int .i64):=by kernel_rfl
 rw[hu3] at hok;cases hv:cs[0] <;> rw[hv] at hok <;> first | (obtain⟨rfl,_⟩:=hok;exact⟨_,rfl⟩) | simp at hok
def mz (v:Value):Prop:=∀(ρ:Ren) (w:Value),ga ρ v w->∀s,w ≠ .string s
def me (k:IntKind) (n:Int):mz (.int k n):=λρ w h s e=>by have:=(VR.of0 h).int;rw[e] at this;exact nomatch this
def tU (t:TypeId) (v:Value):mz (.iface t v):=λρ w h s e=>by obtain⟨u,_,h2⟩:=(VR.of0 h).iface;rw[e] at h2;exact nomatch h2
def jx {ρ:Ren} {W:World} {b:Nat} {e:TypeId} {n fz:Nat} {ro:Bool} {c:T Value} (ho:eV Tryz.prog ρ W (b,0) (.row e n false ro fz c)) (hc:∀i,i<n->mz (c.get i)) (cs:Array Value) (t:TypeId) (fr:Nat × Nat) (hh:W.heap[b]?=some (.cells cs t fr)) (o:Nat) (s:ByteArray):cs[o]?≠some (.string s):=by intro hs;obtain⟨cs',fr',k1,k2,k3,k4,k5,k6⟩:=ho;rw[hh] at k1;cases k1;have hlt:=(Jw.1 hs).1;obtain⟨v',q1,q2⟩:=k5 o (by rw[<-(k3 rfl).1];exact hlt);rw[hs] at q1;cases q1;exact hc o (by rw[<-(k3 rfl).1];exact hlt) ρ _ q2 s rfl
def kT {L:List Value} (h:∀v∈L,mz v) (i:Nat) (hi:i<L.length):mz ((T.ofList undef L).get i):=by rw[T.get_ofList,Jc,Jn hi];exact h _ (J6 hi)
def tL:∀l:List Nat,(PK l).length=l.length
 | []=>rfl
 | a :: l=>congrArg (·+1) (tL l)
def xP:∀l:List Nat,(rW l).length=l.length
 | []=>rfl
 | a :: l=>congrArg (·+1) (xP l)
def nM:∀l:List Nat,∀v∈PK l,mz v
 | [],v,h=>nomatch h
 | a :: l,v,h=>by
  rcases Jr.1 h with rfl | h
  ·exact me _ _
  ·exact nM l v h
def qq:∀l:List Nat,∀v∈rW l,mz v
 | [],v,h=>nomatch h
 | a :: l,v,h=>by
  rcases Jr.1 h with rfl | h
  ·exact me _ _
  ·exact qq l v h
structure zT (W:World) (m:Int) (u:TypeId) (off B:Nat):Prop where
 obj:∀ρ:Ren,ρ 16=some (B,0)->∀id,id<16->eV Tryz.prog ρ W (id,0) ((UW m u off).getD id .dead)
 ins:∀id,id<16->live ((UW m u off).getD id .dead)=true->id<W.heap.size
 nostr:E9 (UW m u off) W
def zi {W:World} (hsh:W.ShapedOpen Tryz.prog) (hl:laidMet Tryz.prog kv W):∃m u off B,zT W m u off B:=by
 obtain⟨ps,⟨gx3,t3,cs3,fx3,px3,qx3,hg3,ht3,hv3,hd3,⟨gx1,t1,cs1,fx1,px1,qx1,hg1,ht1,hv1,hd1,⟨gx2,t2,cs2,fx2,px2,qx2,hg2,ht2,hv2,hd2,⟨_,_,_,_,_,_,_,_,_,_,⟨_,_,_,_,_,_,_,_,_,_,⟨_,_,_,_,_,_,_,_,_,_,⟨gx4,t4,cs4,fx4,px4,qx4,hg4,ht4,hv4,hd4,_,hps7⟩,hps6⟩,hps5⟩,hps4⟩,hps3⟩,hps2⟩,hps1⟩,_,hwide⟩:=hl;have hgE : Tryz.prog.globalNamed "strconv.ErrRange" = some 5:= by kernel_rfl
 obtain rfl:5=gx4:=JJ (hgE.symm.trans hg4);have htE:(Tryz.prog.globals[5]?).map (·.type)=some 46:=by kernel_rfl
 obtain rfl:46=t4:=JJ (htE.symm.trans ht4);have hu46:Tryz.prog.underlying 46=some (.interface (match Tryz.prog.underlying 46 with | some (.interface m)=>m | _=>default)):=by kernel_rfl
 obtain⟨u,v,n,p',hcs,hin⟩:=zz hu46 hd4;obtain⟨e,a,hue,hva⟩:=Fu hin;have hcell:W.cell? ⟨5,0,none⟩=some (.iface u v):=by
  unfold World.var? at hv4;rw[hgE] at hv4;simp only[KS] at hv4;unfold World.cell?;split at hv4
  ·rename_i c t fr hh;cases hv4;simp only[hh,Option.isSome_none,J1,if_false];rw[<-Kb,hcs];rfl
  ·exact nomatch hv4
 have hmem:MemPlace.cell 5 0∈ps:=by
  rw[hps1,hps2,hps3,hps4,hps5,hps6,hps7];refine Kf _ (Kf _ (Kf _ (Kf _ (Kf _ (Kf _ (Ku _ (Ku _ ?_)))))));have:cs4.size=1:=by rw[<-Array.length_toList,hcs];rfl
  rw[this];simp[MemPlace.row]
 have hok:=(hwide 5 0 hmem).2 u v hcell;have hv:∃a:Addr,v=.pointer (some a)/\a.spot=none:=by
  unfold Value.okWide at hok;rw[hue] at hok;simp only at hok;cases v with
  | pointer p=>
   cases p with
   | none=>simp[Value.cells] at hva
   | some a'=> refine⟨a',rfl,?_⟩;unfold Cell.okWide at hok;rw[hue] at hok;simp only[Cell.ok,hue] at hok;exact hok.2.1
  | _=>simp[Cell.okWide,Cell.ok,hue] at hok
 obtain⟨a',rfl,hspot⟩:=hv;obtain⟨m,hm⟩:=tP hsh;refine⟨m,u,a'.off,a'.block,?_⟩;have r1:= row_of (l:= l32) (L:= PK l32) (k:= .u8) (e:= 5) hsh (name:= "math/bits.deBruijn32tab") (g:= 6) (by kernel_rfl) (of_decide_eq_true (by kernel_rfl)) _ z32 (by kernel_rfl) (by kernel_rfl) (by kernel_rfl) (by kernel_rfl) (by kernel_rfl) (d:= Rows.laid_math_bits_deBruijn32tab) (by kernel_rfl) (uq _) ⟨_, _, _, _, _, hg1, ht1, hv1, hd1⟩
 have r2:= row_of (l:= l64) (L:= PK l64) (k:= .u8) (e:= 5) hsh (name:= "math/bits.deBruijn64tab") (g:= 7) (by kernel_rfl) (of_decide_eq_true (by kernel_rfl)) _ z64 (by kernel_rfl) (by kernel_rfl) (by kernel_rfl) (by kernel_rfl) (by kernel_rfl) (d:= Rows.laid_math_bits_deBruijn64tab) (by kernel_rfl) (uq _) ⟨_, _, _, _, _, hg2, ht2, hv2, hd2⟩
 have r3:= row_of (l:= UH) (L:= rW UH) (k:= .u64) (e:= 131) hsh (name:= "internal/strconv.uint64pow10") (g:= 1) (by kernel_rfl) (of_decide_eq_true (by kernel_rfl)) _ z20 (by kernel_rfl) (by kernel_rfl) (by kernel_rfl) (by kernel_rfl) (by kernel_rfl) (d:= Rows.laid_internal_strconv_uint64pow10) (by kernel_rfl) (xE _) ⟨_, _, _, _, _, hg3, ht3, hv3, hd3⟩
 have r0:=λρ=>row_one (ρ:=ρ) hsh (of_decide_eq_true (by kernel_rfl)) _ z0 rfl (v:=.int .i64 m) hm (.inr rfl)
 have rE:=λ(ρ:Ren) (hρ:ρ 16=some (a'.block,0))=>row_one (ρ:=ρ) hsh (of_decide_eq_true (by kernel_rfl)) _ zE5 rfl (v:=.iface u (.pointer (some ⟨16,a'.off,none⟩))) hcell (.inr (by
  obtain⟨ab,ao,asp⟩:=a';have hspot:asp=none:=hspot;subst hspot
  simp[cW,cU,hρ]))
 have rE0:=rE (λid=>if id=16 then some (a'.block,0) else none) rfl;refine⟨λρ hρ id hid=>?_,λid hid hl=>?_,λb hl cs t fr hh o s=>?_⟩
 ·match id with
  | 0=>exact (r0 ρ).1
  | 1=>exact (r3 ρ).1
  | 2=>trivial
  | 3=>trivial
  | 4=>trivial
  | 5=>exact (rE ρ hρ).1
  | 6=>exact (r1 ρ).1
  | 7=>exact (r2 ρ).1
  | n+8=>trivial
 ·match id with
  | 0=>exact (r0 renG).2
  | 1=>exact (r3 renG).2
  | 2=>exact nomatch hl
  | 3=>exact nomatch hl
  | 4=>exact nomatch hl
  | 5=>exact rE0.2
  | 6=>exact (r1 renG).2
  | 7=>exact (r2 renG).2
  | n+8=>exact nomatch hl
 ·match b with
  | 0=>exact jx (r0 renG).1 (λi hi=>me _ _) cs t fr hh o s
  | 1=>exact jx (r3 renG).1 (λi hi=>kT (qq _) i (by rw[xP];exact hi)) cs t fr hh o s
  | 2=>exact nomatch hl
  | 3=>exact nomatch hl
  | 4=>exact nomatch hl
  | 5=>exact jx rE0.1 (λi hi=>tU _ _) cs t fr hh o s
  | 6=>exact jx (r1 renG).1 (λi hi=>kT (nM _) i (by rw[tL];exact hi)) cs t fr hh o s
  | 7=>exact jx (r2 renG).1 (λi hi=>kT (nM _) i (by rw[tL];exact hi)) cs t fr hh o s
  | n+8=>exact nomatch hl
end Go.Ev
namespace Go.Ev
open Go F Go.Proofs
def Bm (gl:List AO) (w:World) (bs:List Nat):∀(l:List AO) (i:Nat),i+l.length<=16->dO l i (j8 gl w bs)=dO l i (iL gl)
 | [],i,_=>rfl
 | o :: l,i,hi=>by unfold dO;rw[Bm gl w bs l (i+1) (by simp at hi;omega),fA,if_pos (by simp at hi;omega),iS,Jc]
theorem awx {m:Int} {u:TypeId} {off:Nat} (w:World) (bs:List Nat):HS (j8 (UW m u off) w bs) where
 n:=show 16<=16+bs.length from KC _ _
 m:=⟨m,by unfold cell0;rw[fA];rfl⟩
 e:=⟨u,_,by unfold cell0;rw[fA];rfl⟩
 g:=(Bm _ w bs glob 0 (show 0+8<=16 by decide)).trans (by kernel_rfl)
def zO (ht:aJ qL) {W:World} {m:Int} {u:TypeId} {off B:Nat} (st:zT W m u off B) {ons txs:Nat->Value} {v:Value} {l:List bV} (a:uU W ons txs v l) (hZ:∀c∈l,ZC c) {cap keeps:Int} (hcap:eX cap) (hkeeps:eX keeps) (s:List UInt8)
  {fn : Func} (hf : Tryz.prog.funcs[4]? = some fn) (hbody : fn.body.isNone = false) (hname : (fn.name== "runtime.NumGoroutine") = false):
  Calls Tryz.prog 4 #[.int .i64 cap,.int .i64 keeps,v,.string ⟨⟨s⟩⟩] W λe W'=>e=.returned (.bool true)/\W.heap.size<=W'.heap.size/\(∀b,b<W.heap.size->W'.heap[b]?=W.heap[b]?)/\W'.os=W.os/\W'.output=W.output:=by
 obtain⟨bs,hbs,hmem,hnd,hlen⟩:∃bs:List Nat,bs[0]?=some B/\(∀b∈pj v ons txs l.length,b∈bs)/\bs.Nodup/\bs.length<=3001:=by
  refine⟨B :: (pj v ons txs l.length).filter (λb=>decide (b≠B)),rfl,λb hb=>?_,?_,?_⟩
  ·by_cases q:b=B
   ·rw[q];exact Jq ..
   ·exact JG _ (List.mem_filter.2 ⟨hb,by simpa using q⟩)
  ·exact List.nodup_cons.2 ⟨λh=>by simpa using (List.mem_filter.1 h).2,(nJ _).sublist List.filter_sublist⟩
  ·rw[Jz];have:=List.length_filter_le (λb=>decide (b≠B)) (pj v ons txs l.length);have:=xn v ons txs l.length;omega
 have h16:jU bs 16=some (B,0):=by unfold jU;rw[if_neg (by decide),show 16-16=0 from rfl,hbs];rfl
 have hrB:=Hk (bs:=bs) (st.obj _ h16) st.ins hnd (by omega);have hcw0:=Vf st.nostr a hmem;have hcw:CW WL (j8 (UW m u off) W bs) (iu bs v) l:=by
  generalize j8 (UW m u off) W bs=h at hcw0;generalize iu bs v=x at hcw0;cases hcw0 with
  | nil=>exact .nil
  | row hb hq hm hc=> refine .row hb hq hm λi hi hi2=>?_;obtain⟨ln,von,vtx,e,w1,w2⟩:=hc i hi hi2;exact⟨ln,von,vtx,e,w1.1,w2.1⟩
 have hk:nD (iu bs v):=by
  cases a with
  | nil=>exact Jd _
  | row hh hc hcap=>
   rename_i b o cap cs t fr;have e:iu bs (.slice (some ⟨b,o,none⟩) l.length cap)=if b∈bs then .slice (some ⟨16+ju b bs,o,none⟩) l.length (2*cap) else unk:=rfl
   rw[e];split
   ·show l.length<=2*cap / 2;omega
   ·trivial
 haveI:=awx (m:=m) (u:=u) (off:=off) W bs
 obtain⟨h',e⟩:=Bk.law4 0 (bu.refl (j8 (UW m u off) W bs)) (show 16+bs.length<=100000000 by omega) hcw hk (λ_=>hZ) hcap hkeeps s (λv h=>some (v,h));obtain⟨N,x,h2,hcall,he⟩:=dp e;cases he
 have hw:∀b,¬ Wr (jU bs) (j8 (UW m u off) W bs) b:=UV (λid hid=>by
  match id with
  | 0=>rfl
  | 1=>rfl
  | 2=>rfl
  | 3=>rfl
  | 4=>rfl
  | 5=>rfl
  | 6=>rfl
  | 7=>rfl
  | n+8=>rfl) W bs
 have hx:=pw (fM Pa.tB (Pa.tB_ok ht)) (ly (fM Pa.tB (Pa.tB_ok ht)).toTypesOK) N 4 _ _ _ _ hcall (jU bs) W [.int .i64 cap,.int .i64 keeps,v,.string ⟨⟨s⟩⟩] hrB ⟨.of1 rfl,.of1 rfl,.of0 (uy bs v),.of1 rfl,trivial⟩;rcases hx with ⟨v',ρ',w',h1,_,_⟩ | ⟨fn',_,_,_,h2⟩
 ·exfalso;unfold callFunc at h1;rw[Sem.run_bind,run_program] at h1;simp only[Result.andThen_ok,hf,hname,hbody,J1,if_false] at h1;exact nomatch h1
 ·refine h2.mono ?_;rintro e W' ⟨ρ',v',rfl,hv,s⟩;rw[hv.bool];exact⟨rfl,s.size,λb hb=>s.same b hb (hw b),s.os,s.output⟩
end Go.Ev
namespace Go.Proofs.YtglmdggjibmjcaaGreatDoor
open Go Go.Ev
def mG:Array Value:=#[.int .i64 0,.int .i64 0,.slice none 0 0,.string ⟨#[]⟩]
def D7 (os:Os) (args:Array Value):laidMet Tryz.prog kv ((World.laidAll Tryz.prog os kv).forCall (λ_ _=>0) ⟨#[],args,[]⟩).memory:=
 laidMet_laidAll _ (by kernel_rfl) (by kernel_rfl)
def uH (os:Os):((World.laidAll Tryz.prog os kv).forCall (λ_ _=>0) ⟨#[],mG,[]⟩).Shaped Tryz.prog:=World.shaped_of_ZipB (by kernel_rfl) (by kernel_rfl)
end Go.Proofs.YtglmdggjibmjcaaGreatDoor
