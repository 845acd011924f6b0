/- -/
import Derived.Deep.CutRange
import Derived.Deep.MidRow
import Derived.Laws.Tables
import Derived.Test.YtajljbmeaeeknaaGreatA10
import Derived.Test.YtajljbmeaeeknaaGreatA16
import Derived.Test.YtajljbmeaeeknaaGreatA17
import Derived.Test.YtajljbmeaeeknaaGreatA20
import Derived.Test.YtajljbmeaeeknaaGreatA21
import Derived.Test.YtajljbmeaeeknaaGreatA22
import Derived.Test.YtajljbmeaeeknaaGreatA25
import Derived.Test.YtajljbmeaeeknaaGreatA26
import Derived.Test.YtajljbmeaeeknaaGreatA29
import Derived.Test.YtajljbmeaeeknaaGreatA30
open Go.Proofs.Tryz
open Go.Lib (hid)
set_option maxHeartbeats 1000000
set_option maxRecDepth 100000
namespace Go.Proofs.YtajljbmeaeeknaaGreat
open Go.RowKit Go.Maps
set_option linter.unusedVariables false
set_option linter.unusedSimpArgs false
theorem A4Z{p:Prop}(h:p:=by
 go_enter func62,ntmps62;go_wp2_with(go_at_call 58;(with_reducible refine(C.out _).mono ?_);rintro e w' ⟨rfl,rfl⟩)
 go_ret;exact⟨rfl,rfl⟩
 ):p:=h
theorem B1S{p:Prop}(h:p:=by
 go_upto_region 60 with(first|(go_at_call 60;(with_reducible refine(CH.out _).mono ?_);rintro e w' ⟨rfl,rfl⟩)|(go_at_call 61;(first|(with_reducible refine(C1.out _).mono ?_)|(with_reducible refine(C2.out _).mono ?_)|(with_reducible refine(C3.out _).mono ?_));rintro e w' ⟨rfl,rfl⟩))
 go_ret;exact⟨rfl,HB7.out⟩
 ):p:=h
theorem B3j{p:Prop}(h:p:=by
 go_upto_region 60 with(first|(go_at_call 60;(with_reducible refine(CH.out _).mono ?_);rintro e w' ⟨rfl,rfl⟩)|(go_at_call 62;(with_reducible refine(C4'.out _).mono ?_);rintro e w' ⟨rfl,rfl⟩)|(go_at_call 61;(first|(with_reducible refine(C1.out _).mono ?_)|(with_reducible refine(C2.out _).mono ?_)|(with_reducible refine(C3.out _).mono ?_));rintro e w' ⟨rfl,rfl⟩))
 go_ret;exact⟨rfl,HB7.out⟩
 ):p:=h
theorem B3H(n:Int):(n.tmod 2==0)=(n%2==0):=by
 have h:n.tmod 2=0↔n%2=0:=by rw[←Int.dvd_iff_tmod_eq_zero,←Int.dvd_iff_emod_eq_zero]
 cases h1:(n%2==0)
 ·simp at h1⊢;omega
 ·simp at h1⊢;omega
theorem A4S(f n:Int)(hf:f=1∨f=2∨f=3∨f=4∨f=5∨f=6∨f=7∨f=8)(w:World):Calls prog 62 #[.int .i64 f,.int .i64 n] w fun e w'=>e= .returned (.bool (fiR f n))∧w=w':=by
 have key:∀(lo hi:Int),Hid (∀w,Calls prog 58 #[.int .i64 n,.int .i64 lo,.int .i64 hi] w fun e w'=>e= .returned (.bool (decide (lo≤n)&&decide (n≤hi)))∧w=w'):=fun lo hi=>hid (z5 n lo hi)
 rcases hf with rfl|rfl|rfl|rfl|rfl|rfl|rfl|rfl
 ·have C:=key (-2048) 2047;have e:fiR 1 n=(decide (-2048≤n)&&decide (n≤2047)):=rfl;rw[e];clear e key;generalize(decide (-2048≤n)&&decide (n≤2047))=B at*
  exact A4Z
 ·have C:=key 0 31;have e:fiR 2 n=(decide (0≤n)&&decide (n≤31)):=rfl;rw[e];clear e key;generalize(decide (0≤n)&&decide (n≤31))=B at*
  exact A4Z
 ·have C:=key 0 1048575;have e:fiR 3 n=(decide (0≤n)&&decide (n≤1048575)):=by
   show(decide (0≤n)&&decide (n<1048576))=_
   congr 1;apply decide_eq_decide.2;omega
  rw[e];clear e key;generalize(decide (0≤n)&&decide (n≤1048575))=B at*
  exact A4Z
 ·have C:=key (-2048) 2047;have e:fiR 4 n=(decide (-2048≤n)&&decide (n≤2047)):=rfl;rw[e];clear e key;generalize(decide (-2048≤n)&&decide (n≤2047))=B at*
  exact A4Z
 ·have C:=key (-2048) 2047;have e:fiR 5 n=(decide (-2048≤n)&&decide (n≤2047)):=rfl;rw[e];clear e key;generalize(decide (-2048≤n)&&decide (n≤2047))=B at*
  exact A4Z
 ·have C:=key (-4096) 4094;have e:fiR 6 n=(n.tmod 2==0&&(decide (-4096≤n)&&decide (n≤4094))):=by
   show(decide (-4096≤n)&&(decide (n≤4094)&&n%2==0))=_
   rw[B3H];cases(n%2==0)<;>cases decide (-4096≤n)<;>cases decide (n≤4094)<;>rfl
  rw[e];clear e key;generalize(decide (-4096≤n)&&decide (n≤4094))=B at*
  cases hc:(n.tmod 2==0)<;>(
   go_enter func62,ntmps62;go_upto_region 60 with(go_at_call 58;(with_reducible refine(C.out _).mono ?_);rintro e w' ⟨rfl,rfl⟩)
   go_ret;exact⟨rfl,rfl⟩)
 ·have C:=key (-1048576) 1048574;have e:fiR 7 n=(n.tmod 2==0&&(decide (-1048576≤n)&&decide (n≤1048574))):=by
   show(decide (-1048576≤n)&&(decide (n≤1048574)&&n%2==0))=_
   rw[B3H];cases(n%2==0)<;>cases decide (-1048576≤n)<;>cases decide (n≤1048574)<;>rfl
  rw[e];clear e key;generalize(decide (-1048576≤n)&&decide (n≤1048574))=B at*
  cases hc:(n.tmod 2==0)<;>(
   go_enter func62,ntmps62;go_upto_region 60 with(go_at_call 58;(with_reducible refine(C.out _).mono ?_);rintro e w' ⟨rfl,rfl⟩)
   go_ret;exact⟨rfl,rfl⟩)
 ·have C:=key (-2048) 2047;have e:fiR 8 n=(decide (-2048≤n)&&decide (n≤2047)):=rfl;rw[e];clear e key;generalize(decide (-2048≤n)&&decide (n≤2047))=B at*
  exact A4Z
theorem B5P{o:Int}(h0:0≤o)(h1:o≤40):fmsL.getD (4*o.toNat) 0=fmR o:=by
 have h:=A8y ⟨o.toNat,by omega⟩;unfold B0K at h;simp only[Bool.and_eq_true,beq_iff_eq]at h;rw[h.1,Int.toNat_of_nonneg h0]
set_option maxHeartbeats 4000000 in
theorem A1q(x:Rv)(w:World):Calls prog 23 #[RvV x] w fun e w'=>e= .returned (.int .i64 (erR x))∧Below w.heap.size w w':=by
 obtain⟨o,d,a,b,i⟩:=x;show Calls prog 23 #[.agg #[.int .i64 o,.int .i64 d,.int .i64 a,.int .i64 b,.int .i64 i]] w _
 obtain⟨E,hE⟩:∃E,erR ⟨o,d,a,b,i⟩=E:=⟨_,rfl⟩
 obtain⟨W1,hW1⟩:∃W,w.alloc (.cells #[.int .i64 o,.int .i64 d,.int .i64 a,.int .i64 b,.int .i64 i] 75)=W:=⟨_,rfl⟩
 have BB:Hid (Below w.heap.size w W1):=by rw[←hW1];exact(Below.refl _ _).alloc (Nat.le_refl _) _
 have hs:w.heap.size<W1.heap.size:=by rw[←hW1];simp
 have z0:W1.cell? ⟨w.heap.size,0,none⟩=some (.int .i64 o):=by rw[←hW1];simp[go_sem]
 have C0:=hid (z5 o 0 40);by_cases hr:0≤o∧o≤40
 ·have e0:(decide (0≤o)&&decide (o≤40))=true:=by simp;exact hr
  rw[e0]at C0;clear e0;have z1:W1.cell? ⟨w.heap.size,1,none⟩=some (.int .i64 d):=by rw[←hW1];simp[go_sem]
  have z2:W1.cell? ⟨w.heap.size,2,none⟩=some (.int .i64 a):=by rw[←hW1];simp[go_sem]
  have z3:W1.cell? ⟨w.heap.size,3,none⟩=some (.int .i64 b):=by rw[←hW1];simp[go_sem]
  have z4:W1.cell? ⟨w.heap.size,4,none⟩=some (.int .i64 i):=by rw[←hW1];simp[go_sem]
  have hff:=B5P hr.1 hr.2;obtain⟨f,hf⟩:∃f,fmR o=f:=⟨_,rfl⟩
  have hfb:0≤f∧f≤9:=by have:=I7 o hr.1 hr.2;omega
  obtain⟨o0,o1⟩:=hr;obtain⟨on,rfl⟩:=Int.eq_ofNat_of_zero_le o0;have o2:(on:Int)<41:=by omega
  simp only[Int.toNat_natCast]at hff;rw[hf]at hff;have hE2:erR ⟨(on:Int),d,a,b,i⟩=if(rgR (hdR f) d&&(rgR (haR f) a&&(rgR (hbR f) b&&fiR f i)))=true then 0 else 1:=by
   unfold erR okR;simp only[hf];have:decide (f≠10)=true:=by simp;omega
   rw[this,Bool.true_and]
  rw[hE]at hE2;have CF:=hid A4w;have CH:=hid (B4s f hfb);have C1:=hid (A0x (hdR f) d);have C2:=hid (A0x (haR f) a);have C3:=hid (A0x (hbR f) b);have C4:Hid (hiR f=true→∀w,Calls prog 62 #[.int .i64 f,.int .i64 i] w fun e w'=>e= .returned (.bool (fiR f i))∧w=w'):=hid (fun h w=>A4S f i (by unfold hiR at h;simp at h;omega) w);have HN:Hid (hiR f=false→fiR f i=(i==0)):=hid (fun h=>by
   have:f=0∨f=9:=by unfold hiR at h;simp at h;omega
   rcases this with rfl|rfl<;>rfl)
  rw[hE];have HE:=hid hE2;have HS0:Below W1.heap.size W1 W1:=Below.refl _ _;have KF:∀wk:World,Below W1.heap.size W1 wk→∀wk',Below wk.heap.size wk wk'→Below W1.heap.size W1 wk':=fun wk h wk' hb=>h.trans (hb.mono h.size)
  have hS9:∀wk:World,Below W1.heap.size W1 wk→wk.cell? ⟨w.heap.size,0,none⟩=some (.int .i64 on):=fun wk h=>A0 h hs z0
  have Z1:=hid z1;have Z2:=hid z2;have Z3:=hid z3;have Z4:=hid z4;have HFF:=hid hff;have HO1:on<41:=by omega
  clear hE hf hfb z1 z2 z3 z4 hE2 o0 hff;go_enter func23,ntmps23;go_upto_region 3 with(go_at_call 58;(with_reducible refine(C0.out _).mono ?_);rintro e w' ⟨rfl,rfl⟩)
  refine wp_region_held_drew (S:=fun wk=>Below W1.heap.size W1 wk) (by kernel_rfl) ?_ (fun hHeld=>?_)
  ·exact(Below.refl _ _).drew
  refine tk 1 ?_;refine tk 2 ?_;refine rd1 0 (fun K hK=>?_);go_simp
  (go_at_call 59;(with_reducible refine(CF.out _).mono ?_);rintro e w7 ⟨rfl,hf7,hb7⟩)
  refine hK.out _ _ ?_ (fun hHeld=>?_)
  ·exact KF _ (by assumption) _ hb7
  clear hK K
  try go_frame
  refine tk 3 ?_;refine tk 4 ?_;have hc:w7.cell? ⟨W1.heap.size,on*4,none⟩=some (.int .i64 f):=by have:=hf7.2 (4*on) (by omega);rw[HFF.out,Nat.mul_comm]at this;exact this
  refine rd1 5 (fun K hK=>?_);go_simp;refine hK.out _ _ ?_ (fun hHeld=>?_)
  ·assumption
  clear hK K
  try go_frame
  refine tk 6 ?_;refine wpAnyH_done (by kernel_rfl) ?_ _;have hB7:Below W1.heap.size W1 w7:=by assumption
  have z1:=A0 hB7 hs Z1.out;have z2:=A0 hB7 hs Z2.out;have z3:=A0 hB7 hs Z3.out;have z4:=A0 hB7 hs Z4.out;have HB7:=hid (J4 BB.out (by omega) hB7);clear hHeld hS9 HS0 hB7 hb7 hf7 KF hc Z1 Z2 Z3 Z4 z0 C0 CF BB HFF hs hW1;generalize fiR f i=F at*
  generalize hdR f=p at*
  generalize haR f=q at*
  generalize hbR f=r at*
  generalize hiR f=t at*
  have HE:Hid (E=if(rgR p d&&(rgR q a&&(rgR r b&&F)))=true then 0 else 1):=HE;generalize rgR p d=P1 at*
  generalize rgR q a=P2 at*
  generalize rgR r b=P3 at*
  cases P1
  ·obtain rfl:E=1:=HE.out;go_upto_region 60 with(first|(go_at_call 60;(with_reducible refine(CH.out _).mono ?_);rintro e w' ⟨rfl,rfl⟩)|(go_at_call 61;(with_reducible refine(C1.out _).mono ?_);rintro e w' ⟨rfl,rfl⟩))
   go_ret;exact⟨rfl,HB7.out⟩
  cases P2
  ·obtain rfl:E=1:=HE.out;go_upto_region 60 with(first|(go_at_call 60;(with_reducible refine(CH.out _).mono ?_);rintro e w' ⟨rfl,rfl⟩)|(go_at_call 61;(first|(with_reducible refine(C1.out _).mono ?_)|(with_reducible refine(C2.out _).mono ?_));rintro e w' ⟨rfl,rfl⟩))
   go_ret;exact⟨rfl,HB7.out⟩
  cases P3
  ·obtain rfl:E=1:=HE.out;exact B1S
  cases t
  ·have hn:=HN.out rfl;cases F
   ·obtain rfl:E=1:=HE.out;have hn2:(i !=0)=true:=by simp at hn⊢;exact hn
    have hn3:(i==0)=false:=hn.symm;clear hn;exact B1S
   ·obtain rfl:E=0:=HE.out;have hn3:i=0:=by simpa using hn.symm
    subst hn3;clear hn;exact B1S
  ·have C4':=hid (C4.out rfl);cases F
   ·obtain rfl:E=1:=HE.out;exact B3j
   ·obtain rfl:E=0:=HE.out;exact B3j
 ·have e0:(decide (0≤o)&&decide (o≤40))=false:=by
   cases h1:decide (0≤o)<;>cases h2:decide (o≤40)<;>simp at h1 h2⊢<;>omega
  rw[e0]at C0;clear e0;have hE1:E=1:=by
   rw[←hE];unfold erR;rw[if_neg (fun h=>hr (A0A h))]
  subst hE1;rw[hE];clear hE hr;go_enter func23,ntmps23;go_wp2_with(go_at_call 58;(with_reducible refine(C0.out _).mono ?_);rintro e w' ⟨rfl,rfl⟩)
  go_ret;exact⟨rfl,BB.out⟩
end Go.Proofs.YtajljbmeaeeknaaGreat
namespace Go.Proofs.YtajljbmeaeeknaaGreat
open Go.RowKit
set_option linter.unusedVariables false
set_option linter.unusedSimpArgs false
def DigR(f t g:Int):Prop:=(f=14∧t=19∧(g=129∨g=131))∨(f=21∧t=23∧g=211)∨(f=24∧t=27∧g=247)
theorem DigR.no{f t g:Int}(h:DigR f t g)(n:Int)(hn:∀j:Int,f≤j→j<t+1→A0T j≠n):D1 g n= -1:=by
 rcases h with⟨rfl,rfl,rfl|rfl⟩|⟨rfl,rfl,rfl⟩|⟨rfl,rfl,rfl⟩
 ·have a0:n≠0:=fun e=>hn 14 (by decide) (by decide) e.symm
  have a1:n≠1:=fun e=>hn 15 (by decide) (by decide) e.symm
  have a4:n≠4:=fun e=>hn 16 (by decide) (by decide) e.symm
  have a5:n≠5:=fun e=>hn 17 (by decide) (by decide) e.symm
  have a6:n≠6:=fun e=>hn 18 (by decide) (by decide) e.symm
  have a7:n≠7:=fun e=>hn 19 (by decide) (by decide) e.symm
  simp[D1,a0,a1,a4,a5,a6,a7]
 ·have a0:n≠0:=fun e=>hn 14 (by decide) (by decide) e.symm
  have a1:n≠1:=fun e=>hn 15 (by decide) (by decide) e.symm
  have a4:n≠4:=fun e=>hn 16 (by decide) (by decide) e.symm
  have a5:n≠5:=fun e=>hn 17 (by decide) (by decide) e.symm
  have a6:n≠6:=fun e=>hn 18 (by decide) (by decide) e.symm
  have a7:n≠7:=fun e=>hn 19 (by decide) (by decide) e.symm
  simp[D1,a0,a1,a4,a5,a6,a7]
 ·have a4:n≠4:=fun e=>hn 21 (by decide) (by decide) e.symm
  have a5:n≠5:=fun e=>hn 22 (by decide) (by decide) e.symm
  have a7:n≠7:=fun e=>hn 23 (by decide) (by decide) e.symm
  simp[D1,a4,a5,a7]
 ·have a2:n≠2:=fun e=>hn 24 (by decide) (by decide) e.symm
  have a3:n≠3:=fun e=>hn 25 (by decide) (by decide) e.symm
  have a6:n≠6:=fun e=>hn 26 (by decide) (by decide) e.symm
  have a7:n≠7:=fun e=>hn 27 (by decide) (by decide) e.symm
  simp[D1,a2,a3,a6,a7]
theorem DigR.bd{f t g:Int}(h:DigR f t g):14≤f∧f≤t∧t≤27:=by
 rcases h with⟨rfl,rfl,_⟩|⟨rfl,rfl,rfl⟩|⟨rfl,rfl,rfl⟩<;>decide
theorem A9t{xs:List Ins}(h:m6 xs):xs.length≤(K6 xs).length:=by
 induction xs with
 |nil=>exact Nat.le_refl _
 |cons x r ih=>
  have h1:=(l8 (h x (List.mem_cons_self ..))).1;have h2:=ih (fun y hy=>h y (List.mem_cons_of_mem _ hy));simp only[K6,List.length_append,List.length_cons];omega
def waI(xs:List Ins):Int:=if xs.all okI then 0 else 1
theorem A0L{xs:List Ins}:xs.all okI=true↔m6 xs:=by unfold m6;rw[List.all_eq_true]
theorem A3g(xs:List Ins)(v:Value)(w:World)(hv:Ias w v xs)(hlen:xs.length≤10000):Calls prog 27 #[v] w fun e w'=>∃u,e= .returned (.tuple #[u,.int .i64 (waI xs)])∧(m6 xs→RowI w' w.heap.size 5 .u8 u (K6 xs))∧Below w.heap.size w w':=by
 by_cases h:m6 xs
 ·have e:waI xs=0:=by unfold waI;rw[A0L.2 h];rfl
  rw[e];exact(A0f xs v w hv h hlen).mono fun e w' ⟨u,h1,h2,h3⟩=>⟨u,h1,fun _=>h2,h3⟩
 ·have e:waI xs=1:=by unfold waI;rw[if_neg (fun hh=>h (A0L.1 hh))]
  rw[e];exact(A7f xs v w hv h).mono fun e w' ⟨h1,h3⟩=>⟨_,h1,fun hh=>absurd hh h,h3⟩
section
variable {base M : Nat} {mv : Value} {c : Mac} {w : World}
theorem MM.setR(h:MM base M mv c w){d:Nat}(hd:d<32){n:Int}(h0:0≤n)(h1:n<4294967296):MM base M mv {c with r:=c.r.set d n} (w.setCell ⟨M,d,none⟩ (.int .u32 n)):=by
 have hd':d<c.r.length:=by rw[h.rl];exact hd
 have hm:=h.m.set (k:=d) (by rw[B8 h.rl];omega) (.int .u32 n);have e:(B4 c mv).set d (.int .u32 n)=B4 {c with r:=c.r.set d n} mv:=by
  unfold B4;rw[List.set_append_left _ _ (by simpa using hd'),List.map_set]
 rw[e]at hm;refine⟨hm,?_,h.bm,by simp[h.rl],fun k=>?_,h.ml,h.mb,h.fb,h.ab⟩
 ·exact h.v.imp id fun⟨D,cap,e,h1,h2,h3,h5,h6⟩=>⟨D,cap,e,h1,h2,h3,h5,h6.setO h3 _⟩
 ·show 0≤(c.r.set d n).getD k 0∧_
  by_cases e:d=k
  ·subst e;rw[List.getD_eq_getElem?_getD,List.getElem?_set_self hd'];exact⟨h0,h1⟩
  ·rw[List.getD_eq_getElem?_getD,List.getElem?_set_ne e,←List.getD_eq_getElem?_getD];exact h.rb k
theorem MM.setF(h:MM base M mv c w){n:Int}(h0:0≤n)(h1:n≤15):MM base M mv {c with f:=n} (w.setCell ⟨M,32,none⟩ (.int .i64 n)):=h.setTail 0 _ {c with f:=n} (by decide) rfl rfl rfl ⟨h0,h1⟩ h.ab
theorem MM.reg(h:MM base M mv c w){d:Nat}(hd:d<32):w.cell? ⟨M,d,none⟩=some (.int .u32 (c.r.getD d 0))∧w.frozen? ⟨M,d,none⟩=false:=by
 exact B0B
theorem MM.drew(h:MM base M mv c w):MM base M mv c w.drew:=h.same (Below.refl _ _).drew
end
section
variable {base M : Nat} {mv : Value} {c : Mac}
end
end Go.Proofs.YtajljbmeaeeknaaGreat
namespace Go.Proofs.YtajljbmeaeeknaaGreat
open Go.RowKit
set_option linter.unusedVariables false
set_option linter.unusedSimpArgs false
def RdP(base M:Nat)(mv:Value)(c:Mac)(o:Option Mac)(w:World)(e:Ending)(w':World):Prop:=
 (match o with|some c'=>e= .returned (.bool true)∧MM base M mv c' w'|none=>e= .returned (.bool false)∧∃c',MM base M mv c' w'∧c'.m=c.m)∧Ch M M mv w w'
theorem RdP.ok{base M:Nat}{mv:Value}{c c':Mac}{w:World}{e:Ending}{w':World}(h1:e= .returned (.bool true))(h2:MM base M mv c' w')(h3:Ch M M mv w w'):RdP base M mv c (some c') w e w':=⟨⟨h1,h2⟩,h3⟩
theorem RdP.bad{base M:Nat}{mv:Value}{c c':Mac}{w:World}{e:Ending}{w':World}(h1:e= .returned (.bool false))(h2:MM base M mv c' w')(hm:c'.m=c.m)(h3:Ch M M mv w w'):RdP base M mv c none w e w':=⟨⟨h1,c',h2,hm⟩,h3⟩
structure RC(base M:Nat)(mv:Value)(B:Nat)(o d s z i:Int)(w:World)(c:Mac)(wk:World):Prop where
 m:MM base M mv c wk
 b:Box5 wk B o d s z i
 nm:B≠M
 no:mv.ownBlock≠some B
 ch:Ch M M mv w wk
section
variable {base M : Nat} {mv : Value} {c c' : Mac} {B : Nat} {o d s z i : Int} {w wk wk' : World}
theorem RC.next(h:RC base M mv B o d s z i w c wk)(hm:MM base M mv c' wk')(hc:Ch M M mv wk wk'):RC base M mv B o d s z i w c' wk':=
 ⟨hm,(hc.block B h.b.lt h.nm h.nm h.no).trans h.b,h.nm,h.no,h.ch.trans hc⟩
theorem RC.drewN(h:RC base M mv B o d s z i w c wk)(n:Nat):RC base M mv B o d s z i w c (wk.drewN n):=h.next (h.m.drewN n) ((Ch.refl _ _ _ _).drewN n)
theorem RC.drew(h:RC base M mv B o d s z i w c wk):RC base M mv B o d s z i w c wk.drew:=h.next h.m.drew (Ch.refl _ _ _ _).drew
theorem RC.below(h:RC base M mv B o d s z i w c wk)(hb:Below wk.heap.size wk wk'):RC base M mv B o d s z i w c wk':=h.next (h.m.same hb) (Ch.of_below hb)
theorem RC.new(h:MM base M mv c w)(o d s z i:Int):RC base M mv w.heap.size o d s z i w c (w.alloc (.cells #[.int .i64 o,.int .i64 d,.int .i64 s,.int .i64 z,.int .i64 i] 89)):=
 ⟨h.same ((Below.refl _ _).alloc (Nat.le_refl _) _),Box5.new w o d s z i,by have:=h.ltM;omega,fun e=>by have:=(h.own _ e).2;omega,Ch.of_below ((Below.refl _ _).alloc (Nat.le_refl _) _)⟩
end
section
variable {base M : Nat} {mv : Value} {c : Mac}
end
end Go.Proofs.YtajljbmeaeeknaaGreat
namespace Go.Proofs.YtajljbmeaeeknaaGreat
open Go.RowKit
set_option linter.unusedVariables false
set_option linter.unusedSimpArgs false
section
variable {base M : Nat} {mv : Value} {c : Mac}
end
end Go.Proofs.YtajljbmeaeeknaaGreat
namespace Go.Proofs.YtajljbmeaeeknaaGreat
open Go.RowKit
set_option linter.unusedVariables false
set_option linter.unusedSimpArgs false
section
variable {base M : Nat} {mv : Value} {c : Mac}
end
end Go.Proofs.YtajljbmeaeeknaaGreat
namespace Go.Proofs.YtajljbmeaeeknaaGreat
open Go.RowKit
set_option linter.unusedVariables false
set_option linter.unusedSimpArgs false
theorem MM.setM1{base M:Nat}{mv:Value}{c:Mac}{w:World}(h:MM base M mv c w){D cap:Nat}(hmv:mv= .slice (some ⟨D,0,none⟩) c.m.length cap){q:Nat}{y:Int}(hq:q<c.m.length)(y0:0≤y)(y1:y<256):MM base M mv {c with m:=c.m.set q y} (w.setCell ⟨D,q,none⟩ (.int .u8 y)):=by
 rcases h.v with⟨e,_⟩|⟨D',cap',e,h1,h2,h4,h5,h6⟩
 ·rw[e]at hq;exact absurd hq (by simp)
 ·have e2:=hmv.symm.trans e;injection e2 with e3 e4 e5
  injection e3 with e6
  injection e6 with e7
  subst e7;refine{h with m:=h.m.other h4.symm _,v:=Or.inr ⟨D,cap',?_,?_,h2,h4,h5,h6.set hq y⟩,ml:=by simpa using h.ml,mb:=fun k=>?_}
  ·rw[e];simp
  ·simpa using h1
  ·show 0≤(c.m.set q y).getD k 0∧_
   by_cases ek:q=k
   ·subst ek;rw[List.getD_eq_getElem?_getD,List.getElem?_set_self hq];exact⟨y0,y1⟩
   ·rw[List.getD_eq_getElem?_getD,List.getElem?_set_ne ek,←List.getD_eq_getElem?_getD];exact h.mb k
theorem MM.where{base M:Nat}{mv:Value}{c:Mac}{w:World}(h:MM base M mv c w)(h0:0<c.m.length):∃D cap,mv= .slice (some ⟨D,0,none⟩) c.m.length cap∧c.m.length≤cap∧D≠M∧OInts .u8 w D c.m:=by
 rcases h.v with⟨e,_⟩|⟨D,cap,e,h1,h2,h4,h5,h6⟩
 ·rw[e]at h0;exact absurd h0 (by simp)
 ·exact⟨D,cap,e,h1,h4,h6⟩
section
variable {base M : Nat} {mv : Value} {c : Mac}
end
end Go.Proofs.YtajljbmeaeeknaaGreat
namespace Go.Proofs.YtajljbmeaeeknaaGreat
open Go.RowKit
set_option linter.unusedVariables false
set_option linter.unusedSimpArgs false
section
variable {base M : Nat} {mv : Value} {c : Mac}
end
end Go.Proofs.YtajljbmeaeeknaaGreat
namespace Go.Proofs.YtajljbmeaeeknaaGreat
open Go.RowKit
set_option linter.unusedVariables false
set_option linter.unusedSimpArgs false
section
variable {base M : Nat} {mv : Value} {c : Mac}
end
end Go.Proofs.YtajljbmeaeeknaaGreat
namespace Go.Proofs.YtajljbmeaeeknaaGreat
open Go.RowKit
set_option linter.unusedVariables false
set_option linter.unusedSimpArgs false
theorem A5r(base M:Nat)(mv:Value)(c:Mac)(w:World)(h:MM base M mv c w)(hal:(c.m.length:Int)≤c.a):Calls prog 83 #[.pointer (some ⟨M,0,none⟩)] w fun e w'=>e= .returned (.tuple #[])∧MM base M mv {c with e:=3} w'∧Ch M M mv w w':=by
 have hc:w.rangeAt M 0 (B4 c mv):=fun j v hj=>by rw[Nat.zero_add];exact(h.m j v hj).1
 have hl:(B4 c mv).length=36:=by simp[B4,h.rl]
 have hsz:(prog.info? 48).map (·.size)=some (B4 c mv).length:=by rw[hl];kernel_rfl
 have hM:=h.ltM;have ab:=h.ab;have ml:=h.ml;obtain⟨v0,q0⟩:∃v,w.cell? ⟨M,0,none⟩=some v:=⟨_,(h.reg0).1⟩
 have hone:=all_oneCell_toArray (A1w h);obtain⟨va,vc,hmv,hl1,hl2⟩:=h.ints.shape;have HW:=hid (fun old=>s7 w old (B4 c mv) 48);have HM:=hid (fun W (hb:Below w.heap.size w W)=>h.same hb);have HC:Hid (∀W,MM base M mv c W→W.cell? ⟨M,33,none⟩=some (.int .u32 c.a)∧W.cell? ⟨M,34,none⟩=some mv∧W.cell? ⟨M,35,none⟩=some (.int .i64 c.e)∧W.frozen? ⟨M,35,none⟩=false):=hid (fun W hW=>⟨(hW.tailAt 1 _ rfl).1,(hW.tailAt 2 _ rfl).1,hW.tailAt 3 _ rfl⟩);have HE:Hid (∀W,MM base M mv c W→MM base M mv {c with e:=3} (W.setCell ⟨M,35,none⟩ (.int .i64 3))):=hid (fun W hW=>hW.setE 3);generalize B4 c mv=cs at*
 have hsz2:(prog.info? 48).map (·.size)=some cs.toArray.size:=by simpa using hsz
 have hold:36=cs.toArray.size:=by simpa using hl.symm
 clear h;go_enter func83,ntmps83;go_upto_region 4 with(first|(refine wpList_load_mid rfl _ _ rfl M 0 rfl cs _ hc underlying48 rfl hsz ?_)|(refine wp_store_row _ _ _ rfl w.heap.size cs.toArray rfl rfl 48 _ (b8 _ _ _) hsz2 hold hone ?_))
 obtain⟨hb,hcs,hbx,hws⟩:=HW.out #[.int .u32 0,.int .u32 0,.int .u32 0,.int .u32 0,.int .u32 0,.int .u32 0,.int .u32 0,.int .u32 0,.int .u32 0,.int .u32 0,.int .u32 0,.int .u32 0,.int .u32 0,.int .u32 0,.int .u32 0,.int .u32 0,.int .u32 0,.int .u32 0,.int .u32 0,.int .u32 0,.int .u32 0,.int .u32 0,.int .u32 0,.int .u32 0,.int .u32 0,.int .u32 0,.int .u32 0,.int .u32 0,.int .u32 0,.int .u32 0,.int .u32 0,.int .u32 0,.int .i64 0,.int .u32 0,.slice none 0 0,.int .i64 0];clear HW;generalize(((w.alloc (.cells #[.int .u32 0,.int .u32 0,.int .u32 0,.int .u32 0,.int .u32 0,.int .u32 0,.int .u32 0,.int .u32 0,.int .u32 0,.int .u32 0,.int .u32 0,.int .u32 0,.int .u32 0,.int .u32 0,.int .u32 0,.int .u32 0,.int .u32 0,.int .u32 0,.int .u32 0,.int .u32 0,.int .u32 0,.int .u32 0,.int .u32 0,.int .u32 0,.int .u32 0,.int .u32 0,.int .u32 0,.int .u32 0,.int .u32 0,.int .u32 0,.int .u32 0,.int .u32 0,.int .i64 0,.int .u32 0,.slice none 0 0,.int .i64 0] 48)).setRow w.heap.size cs.toArray).alloc (.cells #[.int .i64 0,.int .i64 0,.int .i64 0,.int .i64 0,.int .i64 0] 89))=W at*
 have hm:=HM.out W hb;obtain⟨c33,c34,c35,f35⟩:=HC.out W hm;have HCH:=hid (Ch.of_below (T:=M) (M:=M) (mv:=mv) hb);have HEE:=hid (fun n=>HE.out _ (hm.drewN n));have hdec:decide (c.a<(c.m.length:Int))=false:=decide_eq_false (by omega);rw[hmv]at c34;have hMW:M<W.heap.size:=by omega
 clear hcs hbx hmv hc hsz hsz2 hold hone q0 hm HC HM HE hb;generalize c.m.length=len at*
 generalize hca:c.a=a at*
 have HCA:=hid hca;clear hca;go_quiet(fail)
 go_wp2_with fail
 have e9:=HCA.out;subst e9;exact bodyPost_ret (v:=.tuple #[]) (by simp[results,results83,go_sem]) rfl ⟨rfl,HEE.out nq,(HCH.out.drewN nq).setM _ _⟩
theorem B1F{p:Prop}(h:p:=by
 (first|exact SC.toE hS2|exact SC.toE (by assumption)|exact SC.toE (SC.drew (by assumption))|exact SC.toE (SC.drewN (by assumption) _))
 ):p:=h
theorem A6k{x:Ins}(h:okI x=true)(e:x.o=32):isC x.s=true:=by
 have h2:=(A1u (D4 h)).2.2.1;rcases B0z h with h1|h1
 ·have:rdC x=x.s:=by simp[rdC,e]
  omega
 ·rwa[show rdC x=x.s by simp[rdC,e]]at h1
theorem Box5.block{W W':World}{b:Nat}{o d s z i:Int}(h:Box5 W b o d s z i)(hb:W'.heap[b]? =W.heap[b]?):Box5 W' b o d s z i:=hb.trans h
theorem A4M{y:Ins}{z:Int}{n:Nat}{c:Mac}(hz:max y.z 16=z)(h:exM y z c=none):A1e y n c={c with e:=3}:=by unfold A1e;rw[hz,h]
theorem A4L{y:Ins}{z:Int}{n:Nat}{c c':Mac}(hz:max y.z 16=z)(h:exM y z c=some c'):A1e y n c=if c'.e=0 then{c' with a:=(c'.a+n+(if A4m y c.f=true then y.i else 0))%4294967296}else c':=by unfold A1e;rw[hz,h]
theorem Ch.transT{T M:Nat}{mv:Value}{w W W':World}(h:Ch M M mv w W)(h':Ch T M mv W W')(hT:w.heap.size≤T):Ch M M mv w W':=
 ⟨h'.os.trans h.os,h'.tape.trans h.tape,h'.output.trans h.output,Nat.le_trans h.size h'.size,fun k hk a b cc=>(h'.block k (Nat.lt_of_lt_of_le hk h.size) (by omega) b cc).trans (h.block k hk a b cc)⟩
theorem MM.setMv{base M:Nat}{mv:Value}{c:Mac}{w:World}(h:MM base M mv c w):MM base M mv c (w.setCell ⟨M,34,none⟩ mv):=h.setTail 2 mv c (by decide) rfl rfl rfl h.fb h.ab
theorem MM.setMvE{base M:Nat}{mv:Value}{c:Mac}{w:World}(h:MM base M mv c w):MM base M mv {c with e:=3} ((w.setCell ⟨M,34,none⟩ mv).setCell ⟨M,35,none⟩ (.int .i64 3)):=h.setMv.setE 3
theorem MM.setOther{base M:Nat}{mv:Value}{c:Mac}{W:World}(h:MM base M mv c W){b k:Nat}(h1:M≠b)(h2:mv.ownBlock≠some b)(u:Value):MM base M mv c (W.setCell ⟨b,k,none⟩ u):=by
 refine⟨h.m.other h1 u,?_,h.bm,h.rl,h.rb,h.ml,h.mb,h.fb,h.ab⟩;rcases h.v with he|⟨D,cap,e,a1,a2,a3,a5,a6⟩
 ·exact Or.inl he
 ·have hD:D≠b:=fun e'=>h2 (by rw[e,e'];rfl)
  refine Or.inr ⟨D,cap,e,a1,a2,a3,a5,by simpa[World.setCell]using a6.1,fun i hi=>⟨?_,by rw[World.frozen?_setCell];exact a6.free hi⟩⟩;rw[World.cell?_setCell_other _ _ _ _ (by intro hh;cases hh;exact hD rfl)];exact a6.cell hi
structure SC(base M:Nat)(mv:Value)(c:Mac)(w:World)(B:Nat)(cs:List Value)(x:Ins)(W:World):Prop where
 mm:MM base M mv c W
 k:CellsAt W B cs
 b:Box5 W (B+1) x.o x.d x.s x.z x.i
 ch:Ch M M mv w W
 lt:0<cs.length
 mb:M<B
 ob:∀k,mv.ownBlock=some k→k<B
 wb:w.heap.size≤B
def SE(base M:Nat)(mv:Value)(c:Mac)(w:World)(B:Nat)(cs:List Value)(W:World):Prop:=MM base M mv c W∧CellsAt W B cs∧(∃x:Ins,Box5 W (B+1) x.o x.d x.s x.z x.i)∧Ch M M mv w W
section
variable {base M : Nat} {mv : Value} {c : Mac} {w : World} {B : Nat} {cs : List Value} {x : Ins} {W W' : World}
theorem SC.toE(h:SC base M mv c w B cs x W):SE base M mv c w B cs W:=⟨h.mm,h.k,⟨x,h.b⟩,h.ch⟩
theorem SC.below(h:SC base M mv c w B cs x W)(hb:Below W.heap.size W W'):SC base M mv c w B cs x W':=
 ⟨h.mm.same hb,h.k.block (hb.block B (h.k.lt h.lt)),(hb.block (B+1) h.b.lt).trans h.b,h.ch.trans (Ch.of_below hb),h.lt,h.mb,h.ob,h.wb⟩
theorem SC.drew(h:SC base M mv c w B cs x W):SC base M mv c w B cs x W.drew:=h.below (Below.refl _ _).drew
theorem SC.drewN(h:SC base M mv c w B cs x W)(n:Nat):SC base M mv c w B cs x (W.drewN n):=⟨h.mm.drewN n,h.k,h.b,h.ch.drewN n,h.lt,h.mb,h.ob,h.wb⟩
theorem SC.set1(h:SC base M mv c w B cs x W)(y:Ins){j:Nat}{u:Value}(hb:Box5 (W.setCell ⟨B+1,j,none⟩ u) (B+1) y.o y.d y.s y.z y.i):SC base M mv c w B cs y (W.setCell ⟨B+1,j,none⟩ u):=by
 have h1:=h.mb;have h2:=h.wb;refine⟨h.mm.setOther (by omega) (fun e=>by have:=h.ob _ e;omega) u,h.k.other (by omega) u,hb,⟨h.ch.os,h.ch.tape,h.ch.output,Nat.le_trans h.ch.size (by simp[World.setCell]),fun k hk a b cc=>(Below.heap_setCell W ⟨B+1,j,none⟩ u k (by show k≠B+1;omega)).trans (h.ch.block k hk a b cc)⟩,h.lt,h.mb,h.ob,h.wb⟩
theorem SC.put(h:SC base M mv c w B cs x W)(y:Ins):SC base M mv c w B cs y (((((W.setCell ⟨B+1,0,none⟩ (.int .i64 y.o)).setCell ⟨B+1,1,none⟩ (.int .i64 y.d)).setCell ⟨B+1,2,none⟩ (.int .i64 y.s)).setCell ⟨B+1,3,none⟩ (.int .i64 y.z)).setCell ⟨B+1,4,none⟩ (.int .i64 y.i)):=by
 have s0:=h.set1 ⟨y.o,x.d,x.s,x.z,x.i⟩ (h.b.set0 y.o);have s1:=s0.set1 ⟨y.o,y.d,x.s,x.z,x.i⟩ (s0.b.set1 y.d);have s2:=s1.set1 ⟨y.o,y.d,y.s,x.z,x.i⟩ (s1.b.set2 y.s);have s3:=s2.set1 ⟨y.o,y.d,y.s,y.z,x.i⟩ (s2.b.set3 y.z);exact s3.set1 y (s3.b.set4 y.i)
end
theorem A5u(base M:Nat)(mv:Value)(c:Mac)(w:World)(h:MM base M mv c w)(q:Nat)(hq:c.a=(q:Int))(hal:q<c.m.length):Calls prog 83 #[.pointer (some ⟨M,0,none⟩)] w fun e w'=>e= .returned (.tuple #[])∧MM base M mv (if m5 (c.m.drop q)=true then A1e (V5 (c.m.drop q)) (r8 (c.m.drop q)) c else{c with e:=3}) w'∧Ch M M mv w w':=by
 have hc:w.rangeAt M 0 (B4 c mv):=fun j v hj=>by rw[Nat.zero_add];exact(h.m j v hj).1
 have hl:(B4 c mv).length=36:=by simp[B4,h.rl]
 have hsz:(prog.info? 48).map (·.size)=some (B4 c mv).length:=by rw[hl];kernel_rfl
 have hM:=h.ltM;have ab:=h.ab;have ml:=h.ml;obtain⟨v0,q0⟩:∃v,w.cell? ⟨M,0,none⟩=some v:=⟨_,(h.reg0).1⟩
 have hone:=all_oneCell_toArray (A1w h);obtain⟨va,vc,hmv,hl1,hl2⟩:=h.ints.shape;have HW:=hid (fun old=>s7 w old (B4 c mv) 48);have HM:=hid (fun W (hb:Below w.heap.size w W)=>h.same hb);have HC:Hid (∀W,MM base M mv c W→W.cell? ⟨M,33,none⟩=some (.int .u32 c.a)∧W.cell? ⟨M,34,none⟩=some mv∧W.cell? ⟨M,35,none⟩=some (.int .i64 c.e)∧W.frozen? ⟨M,35,none⟩=false):=hid (fun W hW=>⟨(hW.tailAt 1 _ rfl).1,(hW.tailAt 2 _ rfl).1,hW.tailAt 3 _ rfl⟩);have HE:Hid (∀W,MM base M mv c W→MM base M mv {c with e:=3} (W.setCell ⟨M,35,none⟩ (.int .i64 3))):=hid (fun W hW=>hW.setE 3);have HQ:=hid hq;have HBY:Hid (Byt (c.m.drop q)):=hid (fun i=>by rw[List.getD_eq_getElem?_getD,List.getElem?_drop,←List.getD_eq_getElem?_getD];exact h.mb _);have HCD:=hid (fun W' v (hv:Ints .u8 W' v (c.m.drop q)) (hby:Byt (c.m.drop q))=>show Calls _ _ #[v] W' (fun e w'=>e= .returned (.tuple #[.agg #[.int .i64 (V5 (c.m.drop q)).o,.int .i64 (V5 (c.m.drop q)).d,.int .i64 (V5 (c.m.drop q)).s,.int .i64 (V5 (c.m.drop q)).z,.int .i64 (V5 (c.m.drop q)).i],.int .i64 (r8 (c.m.drop q)),.bool (m5 (c.m.drop q))])∧Below W'.heap.size W' w')from A0G (c.m.drop q) v W' hv hby);have HY:Hid (m5 (c.m.drop q)=true→okI (V5 (c.m.drop q))=true∧r8 (c.m.drop q)≤32768):=hid (fun hd=>by
  obtain⟨h1,h2⟩:=A5U hd;have:=h.ml;rw[List.length_drop]at h2;exact⟨h1,by omega⟩)
 obtain⟨R,hR⟩:∃R,(if m5 (c.m.drop q)=true then A1e (V5 (c.m.drop q)) (r8 (c.m.drop q)) c else{c with e:=3})=R:=⟨_,rfl⟩
 rw[hR];have HR:=hid hR;clear hR;generalize V5 (c.m.drop q)=y at*
 generalize r8 (c.m.drop q)=n at*
 generalize m5 (c.m.drop q)=db at*
 have HOW:Hid (∀k,mv.ownBlock=some k→k<w.heap.size):=hid (fun k e=>(h.own k e).2);have HMA:=hid (fun(W:World) (c':Mac) (h':MM base M mv c' W) (hm:c'.m=c.m)=>h'.restore (c:=c) hm h.rl h.rb h.fb h.ab);have HPW:Hid (0≤c.f∧c.f≤15):=hid h.fb;have HCS:=hid (show([.int .i64 c.f]:List Value)[0]? =(B4 c mv)[32]? by unfold B4;rw[List.getElem?_append_right (by simp[h.rl])];simp[h.rl]);generalize B4 c mv=cs at*
 have hsz2:(prog.info? 48).map (·.size)=some cs.toArray.size:=by simpa using hsz
 have hold:36=cs.toArray.size:=by simpa using hl.symm
 clear h;go_enter func83,ntmps83;go_upto_region 4 with(first|(refine wpList_load_mid rfl _ _ rfl M 0 rfl cs _ hc underlying48 rfl hsz ?_)|(refine wp_store_row _ _ _ rfl w.heap.size cs.toArray rfl rfl 48 _ (b8 _ _ _) hsz2 hold hone ?_))
 obtain⟨hb,hcs,hbx,hws⟩:=HW.out #[.int .u32 0,.int .u32 0,.int .u32 0,.int .u32 0,.int .u32 0,.int .u32 0,.int .u32 0,.int .u32 0,.int .u32 0,.int .u32 0,.int .u32 0,.int .u32 0,.int .u32 0,.int .u32 0,.int .u32 0,.int .u32 0,.int .u32 0,.int .u32 0,.int .u32 0,.int .u32 0,.int .u32 0,.int .u32 0,.int .u32 0,.int .u32 0,.int .u32 0,.int .u32 0,.int .u32 0,.int .u32 0,.int .u32 0,.int .u32 0,.int .u32 0,.int .u32 0,.int .i64 0,.int .u32 0,.slice none 0 0,.int .i64 0];clear HW;generalize(((w.alloc (.cells #[.int .u32 0,.int .u32 0,.int .u32 0,.int .u32 0,.int .u32 0,.int .u32 0,.int .u32 0,.int .u32 0,.int .u32 0,.int .u32 0,.int .u32 0,.int .u32 0,.int .u32 0,.int .u32 0,.int .u32 0,.int .u32 0,.int .u32 0,.int .u32 0,.int .u32 0,.int .u32 0,.int .u32 0,.int .u32 0,.int .u32 0,.int .u32 0,.int .u32 0,.int .u32 0,.int .u32 0,.int .u32 0,.int .u32 0,.int .u32 0,.int .u32 0,.int .u32 0,.int .i64 0,.int .u32 0,.slice none 0 0,.int .i64 0] 48)).setRow w.heap.size cs.toArray).alloc (.cells #[.int .i64 0,.int .i64 0,.int .i64 0,.int .i64 0,.int .i64 0] 89))=W at*
 have hm:=HM.out W hb;have hS:SC base M mv c w w.heap.size cs ⟨0,0,0,0,0⟩ W:=⟨hm,hcs,hbx,Ch.of_below hb,by omega,hM,HOW.out,Nat.le_refl _⟩
 obtain⟨c33,c34,c35,f35⟩:=HC.out W hm;have HCH:=hid (Ch.of_below (T:=M) (M:=M) (mv:=mv) hb);have HEE:=hid (fun n=>HE.out _ (hm.drewN n));have hdec:decide ((q:Int)<(c.m.length:Int))=true:=decide_eq_true (by omega);have HID:=hid (fun wk (h:SC base M mv c w w.heap.size cs ⟨0,0,0,0,0⟩ wk)=>by have h9:=h.mm.ints;rw[hmv]at h9;exact Ints.drop h9 (m:=q) (by omega));have HMV:Hid (∀wk,SE base M mv c w w.heap.size cs wk→wk.cell? ⟨M,34,none⟩=some (.slice va c.m.length vc)):=hid (fun wk h=>by have:=(h.1.tailAt 2 _ rfl).1;rw[hmv]at this;exact this);rw[hmv]at c34;rw[hq]at c33;have hMW:M<W.heap.size:=by omega
 have HMVE:=hid hmv;have HSZ:=hid hsz;have HSZ2:=hid hsz2;have HONE:=hid hone;have HL:=hid hl;clear hcs hbx hmv hc hsz hsz2 hold hone q0 hm HC HM HE hb hq hl;generalize c.m.length=len at*
 go_quiet(fail)
 go_upto_region 5 with fail
 have e33:∀wk,SE base M mv c w w.heap.size cs wk→wk.cell? ⟨M,33,none⟩=some (.int .u32 (q:Int)):=fun wk h=>by have:=(h.1.tailAt 1 _ rfl).1;rw[HQ.out]at this;exact this
 have e34:∀wk,SE base M mv c w w.heap.size cs wk→wk.cell? ⟨M,34,none⟩=some (.slice va len vc):=HMV.out;have hS0:=hS.drewN nq;have hql:q≤len:=by omega
 have hqv:len≤vc:=by omega
 refine wp_region_held_drew (S:=(SE base M mv c w w.heap.size cs)) (by kernel_rfl) ?_ (fun hHeld=>?_)
 ·exact B1F
 refine tk 0 ?_;refine tk 1 ?_;refine tk 2 ?_;refine tk 3 ?_;refine tk 4 ?_;refine tk 5 ?_;refine tk 6 ?_;refine tk 7 ?_;refine tk 8 ?_;refine rd1 9 (fun K hK=>?_)
 (go_simp;(go_at_call 66;refine(HCD.out _ _ (HID.out _ (hS.drewN _)) HBY.out).mono ?_;rintro e w1 ⟨rfl,hb1⟩;have hS1:=(hS.drewN (nq+1)).below hb1))
 refine hK.out _ _ ?_ (fun hHeld=>?_)
 ·exact B1F
 clear hK K
 try go_frame
 refine tk 10 ?_;refine tk 11 ?_;refine tk 12 ?_;refine tk 13 ?_;refine rd1 14 (fun K hK=>?_)
 ((obtain⟨⟨x0,x1,x2,x3,x4⟩,xf⟩:=hS1.b.cells);go_simp;have hS2:=hS1.put y;clear x0 x1 x2 x3 x4 xf)
 refine hK.out _ _ ?_ (fun hHeld=>?_)
 ·exact B1F
 clear hK K
 try go_frame
 refine tk 15 ?_;refine tk 16 ?_;refine wpAnyH_done (by kernel_rfl) ?_ _;clear e33 e34 hS hS0 hS1 HID HMV;have HS2:=hid hS2;clear hS2;generalize(((((w1.setCell ⟨w.heap.size+1,0,none⟩ (.int .i64 y.o)).setCell ⟨w.heap.size+1,1,none⟩ (.int .i64 y.d)).setCell ⟨w.heap.size+1,2,none⟩ (.int .i64 y.s)).setCell ⟨w.heap.size+1,3,none⟩ (.int .i64 y.z)).setCell ⟨w.heap.size+1,4,none⟩ (.int .i64 y.i))=W3 at*
 cases db
 ·rw[if_neg (by decide)]at HR;have k35:W3.cell? ⟨M,35,none⟩=some (.int .i64 c.e):=(HS2.out.mm.tailAt 3 _ rfl).1;have g35:W3.frozen? ⟨M,35,none⟩=false:=(HS2.out.mm.tailAt 3 _ rfl).2;have hM3:M<W3.heap.size:=HS2.out.mm.ltM;clear c33 c34 c35 f35 hb1 hdec hal ml;go_wp2_with fail
  all_goals(rw[←HR.out];exact bodyPost_ret (v:=.tuple #[]) (by simp[results,results83,go_sem]) rfl ⟨rfl,HS2.out.mm.setE 3,HS2.out.ch.setM _ _⟩)
 ·rw[if_pos rfl]at HR;obtain⟨hfit,hn⟩:=HY.out rfl;obtain⟨⟨x0,x1,x2,x3,x4⟩,xf⟩:=HS2.out.b.cells;go_upto_region 9 with fail
  generalize hz0:(if y.z<16 then 16 else y.z)=z at*
  have hz:z=16∨z=32:=by rcases A3v hfit with e|e|e<;>(rw[e]at hz0;simp at hz0;omega)
  have hzm:max y.z 16=z:=by rw[←hz0];split<;>omega
  generalize(if vc=q then va else Option.map (fun x=>x.add q) va)=sa at*
  have hbA:Below W3.heap.size W3 (W3.alloc (.cells #[.pointer (some ⟨M,0,none⟩),.int .i64 y.o,.int .i64 y.d,.int .i64 y.s,.int .i64 y.z,.int .i64 y.i,.int .i64 z,.bool false] 203)):=(Below.refl _ _).alloc (Nat.le_refl _) _;have hS4:=HS2.out.below hbA;have hB1:=HS2.out.b.lt;have htc:CellsAt (W3.alloc (.cells #[.pointer (some ⟨M,0,none⟩),.int .i64 y.o,.int .i64 y.d,.int .i64 y.s,.int .i64 y.z,.int .i64 y.i,.int .i64 z,.bool false] 203)) W3.heap.size [.pointer (some ⟨M,0,none⟩),.int .i64 y.o,.int .i64 y.d,.int .i64 y.s,.int .i64 y.z,.int .i64 y.i,.int .i64 z,.bool false]:=U5 (t:=203) (b8 _ _ _);have hst:=hS4.mm.toMSt (x:=y) (z:=z) (fl:=false) htc (by omega) (fun e=>by have:=(HS2.out.mm.own _ e).2;omega) (by have:=HS2.out.mm.bm;omega) hz;have HEX:=hid (A2a _ hst (D4 hfit) (A9B hfit));have hT:w.heap.size+1<W3.heap.size:=hB1;have hTM:M<W3.heap.size:=by omega
  have HS4:=hid hS4;have HFI:=hid hfit;have HZM:=hid hzm;have hW4:W3.heap.size<(W3.alloc (.cells #[.pointer (some ⟨M,0,none⟩),.int .i64 y.o,.int .i64 y.d,.int .i64 y.s,.int .i64 y.z,.int .i64 y.i,.int .i64 z,.bool false] 203)).heap.size:=by simp
  clear hS4 hst htc hbA hB1 x0 x1 x2 x3 x4 xf hfit hz0 hz hzm HS2 HCD HY hHeld c33 c34 c35 f35 HCH HEE hdec hb1;generalize W3.alloc (.cells #[.pointer (some ⟨M,0,none⟩),.int .i64 y.o,.int .i64 y.d,.int .i64 y.s,.int .i64 y.z,.int .i64 y.i,.int .i64 z,.bool false] 203)=W4 at*
  generalize W3.heap.size=T at*
  go_upto_region 10 with((with_reducible refine(HEX.out).mono ?_);rintro e w5 ⟨rfl,hex⟩;have HX:=hid hex;clear hex)
  have hch:Ch T M mv W4 w5:=HX.out.2;have hOW4:=HOW.out;have hkB:=HS4.out.k.block (hch.block w.heap.size (by omega) (by omega) (by omega) (fun e=>by have:=hOW4 _ e;omega));have hbB:Box5 w5 (w.heap.size+1) y.o y.d y.s y.z y.i:=(hch.block (w.heap.size+1) (by omega) (by omega) (by omega) (fun e=>by have:=hOW4 _ e;omega)).trans HS4.out.b;have HC5:=hid (HS4.out.ch.transT hch (by omega));have HK:=hid hkB;have HBX:=hid hbB;clear hkB hbB hch hOW4 HEX HS4;cases hX:exM y z c with
  |none=>
   obtain⟨c',hs5,hm5⟩:∃c',MSt base T M mv y z true c' w5∧c'.m=c.m:=by have:=HX.out.1;rw[hX]at this;exact this
   have hRe:=(HR.out.symm.trans (A4M HZM.out hX))
   clear HR;subst hRe;have ft:=hs5.ft.1;have mm5:=hs5.toMM;have c34:=(mm5.tailAt 2 _ rfl).1;rw[HMVE.out]at c34;have hsz:=HSZ.out;have hsz2:=HSZ2.out;have hone:=HONE.out;have hrg:=HK.out.range;have hth:w5.there M 0 cs.toArray.size:=mm5.m.there (by rw[HL.out,B8 mm5.rl]);have HM6:=hid (HMA.out _ _ mm5 hm5);have HC6:=hid (Ch.setCells cs 0 _ HC5.out);have hT5:T<w5.heap.size:=hs5.ltT;clear hs5 mm5 HX hX;go_upto_region 13 with(first|(refine wpList_load_mid rfl _ _ rfl w.heap.size 0 rfl cs _ hrg underlying48 rfl hsz ?_)|(refine wpList_store_mid rfl _ _ _ rfl M 0 cs.toArray rfl rfl hth hsz2 hone ?_))
   have HM7:=hid (HM6.out.setMvE);have k34:=(HM6.out.tailAt 2 _ rfl).1;have g34:=(HM6.out.tailAt 2 _ rfl).2;have k35:=(HM6.out.tailAt 3 _ rfl).1;have g35:=(HM6.out.tailAt 3 _ rfl).2;have hMl:M<(w5.setCells M 0 cs).heap.size:=by rw[R2];omega
   rw[HMVE.out]at k34;rw[HMVE.out]at HM7;clear ft c34 hsz hsz2 hone hrg hth hm5 hT5;generalize w5.setCells M 0 cs=W6 at*
   go_wp2_with fail
   refine bodyPost_end (v:=.tuple #[]) (by simp[results,results83,go_sem]) rfl ⟨rfl,?_,?_⟩
   ·rw[←HMVE.out];exact HM6.out.setMvE
   ·exact(HC6.out.setM _ _).setM _ _
  |some c'=>
   have hs5:MSt base T M mv y z false c' w5:=by have:=HX.out.1;rw[hX]at this;exact this
   have hRe:=(HR.out.symm.trans (A4L HZM.out hX))
   have ft:=hs5.ft.1;have mm5:=hs5.toMM;have HM5:=hid mm5;have hT5:T<w5.heap.size:=hs5.ltT;have hM5:M<w5.heap.size:=hs5.ltM;have c35:=(mm5.tailAt 3 _ rfl).1;clear hs5 mm5 HX hX HR;by_cases he:c'.e=0
   ·rw[he]at c35;rw[if_pos he]at hRe;have c33:=(HM5.out.tailAt 1 _ rfl).1;have f33:=(HM5.out.tailAt 1 _ rfl).2;have ab5:=HM5.out.ab;obtain⟨⟨x0,x1,x2,x3,x4⟩,xf⟩:=HBX.out.cells;have b32:w5.cell? ⟨w.heap.size,32,none⟩=some (.int .i64 c.f):=(HK.out 32 _ HCS.out.symm).1;go_upto_region 16 with fail
    have HM6:=hid (HM5.out.setA (n:=(c'.a+n)%4294967296) (by omega) (by omega));have hbx6:=HBX.out.block (W':=w5.setCell ⟨M,33,none⟩ (.int .u32 ((c'.a+n)%4294967296))) (Below.heap_setCell w5 ⟨M,33,none⟩ _ _ (by show w.heap.size+1≠M;omega));have hk6:=(HK.out.other (b':=M) (k:=33) (by omega) (.int .u32 ((c'.a+n)%4294967296)))
    have HC6:=hid (HC5.out.setM 33 (.int .u32 ((c'.a+n)%4294967296)));have HJ:=hid (fun wk=>show Calls prog 117 #[.agg #[.int .i64 y.o,.int .i64 y.d,.int .i64 y.s,.int .i64 y.z,.int .i64 y.i],.int .i64 c.f] wk (fun e w'=>e= .returned (.bool (A4m y c.f))∧Below wk.heap.size wk w')from A3M y c.f wk (A6k HFI.out) HPW.out.1 HPW.out.2);have hB6:w.heap.size+1<(w5.setCell ⟨M,33,none⟩ (.int .u32 ((c'.a+n)%4294967296))).heap.size:=hbx6.lt;have HRe:=hid hRe;obtain⟨a6,ha6⟩:∃a6,(c'.a+(n:Int))%4294967296=a6:=⟨_,rfl⟩
    have ha60:0≤a6∧a6<4294967296:=by omega
    have HA6:=hid ha6;rw[ha6]at hbx6 hk6 HM6 HC6 hB6⊢;clear ha6 hRe x0 x1 x2 x3 x4 xf b32 c33 f33 c35 ft HBX HK HC5 HM5 ab5;generalize w5.setCell ⟨M,33,none⟩ (.int .u32 a6)=W6 at*
    obtain⟨⟨x0,x1,x2,x3,x4⟩,xf⟩:=hbx6.cells;have b32:W6.cell? ⟨w.heap.size,32,none⟩=some (.int .i64 c.f):=(hk6 32 _ HCS.out.symm).1;have HBX:=hid hbx6;obtain⟨jb,hjb⟩:∃jb,A4m y c.f=jb:=⟨_,rfl⟩
    rw[hjb]at HJ HRe;clear hk6 hbx6 hjb;cases jb
    ·go_wp2_with((with_reducible refine(HJ.out _).mono ?_);rintro e w7 ⟨rfl,hb7⟩)
     have e9:(c'.a+(n:Int)+(if false=true then y.i else 0))%4294967296=a6:=by rw[if_neg (by decide),Int.add_zero];exact HA6.out
     refine bodyPost_end (v:=.tuple #[]) (by simp[results,results83,go_sem]) rfl ⟨rfl,?_,HC6.out.trans (Ch.of_below hb7)⟩;rw[HRe.out,e9];exact HM6.out.same hb7
    ·go_upto_region 17 with((with_reducible refine(HJ.out _).mono ?_);rintro e w7 ⟨rfl,hb7⟩)
     have hM7:=HM6.out.same hb7;have c33:=(hM7.tailAt 1 _ rfl).1;have f33:=(hM7.tailAt 1 _ rfl).2;have hM7l:=hM7.ltM;obtain⟨⟨-,-,-,-,y4⟩,-⟩:=(HBX.out.block (hb7.block _ hB6)).cells;have hB7:w.heap.size+1<w7.heap.size:=Nat.lt_of_lt_of_le hB6 hb7.size;have HM7:=hid hM7;have HC7:=hid (HC6.out.trans (Ch.of_below hb7));have e9:=hid (show(c'.a+(n:Int)+(if true=true then y.i else 0))%4294967296=(a6+y.i)%4294967296 by rw[if_pos rfl,←HA6.out];omega);have hbd:0≤(a6+y.i)%4294967296∧(a6+y.i)%4294967296<4294967296:=by omega
     have HM8:=hid ((hM7.setA hbd.1 hbd.2).same (Below.refl _ _).drew);have HC8:=hid ((HC7.out.setM 33 (.int .u32 ((a6+y.i)%4294967296))).drew);clear hM7 hb7 x0 x1 x2 x3 x4 xf b32 hbd ha60
     go_region
     go_wp2_with fail
     refine bodyPost_end (v:=.tuple #[]) (by simp[results,results83,go_sem]) rfl ⟨rfl,?_,HC8.out⟩;rw[HRe.out,e9.out];exact HM8.out
   ·rw[if_neg he]at hRe;have HRe:=hid hRe;have d0:(c'.e==0)=false:=by simpa using he
    clear hRe he;go_wp2_with fail
    refine bodyPost_end (v:=.tuple #[]) (by simp[results,results83,go_sem]) rfl ⟨rfl,?_,HC5.out⟩;rw[HRe.out];exact HM5.out
end Go.Proofs.YtajljbmeaeeknaaGreat
