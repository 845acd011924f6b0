/- -/
import Derived.Deep.QuietTactic
import Derived.Deep.DeepMust
import Derived.Laws.BitsAllLaws
import Derived.Laws.Entries
import Derived.RegionTactic
import Derived.BigRegion
import Derived.ChangeAlike
import Derived.Deep.RegionLaw
import Derived.Deep.CutRange
import Derived.Laws.BytesArg
import Derived.Laws.StructEq
import Derived.Maps.AppendAt
import Derived.Test.YtajljbmeaeeknaaGreatS1
import Derived.Test.YtajljbmeaeeknaaGreatS2
import Derived.Test.YtajljbmeaeeknaaGreatS7
import Derived.Test.YtajljbmeaeeknaaGreatS9
import Derived.Test.YtajljbmeaeeknaaGreatS10
import Derived.Test.YtajljbmeaeeknaaGreatS11
open Go.Proofs.Tryz
open Go.Lib (hid)
set_option maxHeartbeats 1000000
set_option maxRecDepth 100000
namespace Go.Proofs.YtajljbmeaeeknaaGreat
open Go.RowKit Go.Maps
set_option linter.unusedVariables false
set_option linter.unusedSimpArgs false
theorem q9z{p:Prop}(h:p:=by
 go_enter func277,ntmps277
 go_upto_if 5 with(go_at_call 281;(with_reducible refine(CS.out _).mono ?_);rintro e w2 ⟨rfl,hb2⟩;have y0:=A7 hb2 hs x0;have y2:=A7 hb2 hs x2;have hS2:Since W1 w2:=hb2)
 clear x0 x1 x2 x3 x4 x5;go_upto_region 8 with(go_at_call 283;(with_reducible refine(C2.out _).mono ?_);rintro e wr ⟨rfl,hbr⟩)
 have hSr:Since W1 wr:=A8 hS2 hbr;clear hS2 hb2 y0 y2 hbr;refine wp_region_held_drew (S:=(fun wk=>Since W1 wk)) (by kernel_rfl) ?_ (fun hHeld=>?_)
 ·(first|assumption|exact Since.next (show Since W1 wt by assumption) ((Below.refl _ _).alloc (Nat.le_refl _) _)|exact Since.next (show Since W1 wt by assumption) h9|exact Since.drew (by assumption)|exact Since.next (by assumption) (by assumption))
 refine tk 0 ?_;refine tk 1 ?_;refine tk 2 ?_;refine tk 4 ?_;refine tk 5 ?_;refine tk 6 ?_;refine rd1 3 (fun K hK=>?_)
 (go_simp;(go_at_call 284;(with_reducible refine(C3.out _ _ _ _).mono ?_);rintro e wt ⟨rfl,hbt⟩))
 refine hK.out _ _ ?_ (fun hHeld=>?_)
 ·(first|assumption|exact Since.next (show Since W1 wt by assumption) ((Below.refl _ _).alloc (Nat.le_refl _) _)|exact Since.next (show Since W1 wt by assumption) h9|exact Since.drew (by assumption)|exact Since.next (by assumption) (by assumption))
 clear hK K
 try go_frame
 refine rd1 7 (fun K hK=>?_);go_simp;refine hK.out _ _ ?_ (fun hHeld=>?_)
 ·(first|assumption|exact Since.next (show Since W1 wt by assumption) ((Below.refl _ _).alloc (Nat.le_refl _) _)|exact Since.next (show Since W1 wt by assumption) h9|exact Since.drew (by assumption)|exact Since.next (by assumption) (by assumption))
 clear hK K
 try go_frame
 refine rd1 8 (fun K hK=>?_)
 (go_simp;(go_at_call 282;(refine(CB.out _ (by first|assumption|exact Since.drew (by assumption))).mono ?_);rintro e w9 ⟨u,rfl,hu,h9⟩))
 refine hK.out _ _ ?_ (fun hHeld=>?_)
 ·(first|assumption|exact Since.next (show Since W1 wt by assumption) ((Below.refl _ _).alloc (Nat.le_refl _) _)|exact Since.next (show Since W1 wt by assumption) h9|exact Since.drew (by assumption)|exact Since.next (by assumption) (by assumption))
 clear hK K
 try go_frame
 refine tk 9 ?_;refine wpAnyH_done (by kernel_rfl) ?_ _;have hS9:Since W1 w9:=by assumption
 go_wp2_with fail
 go_ret;exact⟨u,rfl,hu,A8 BB.out hS9⟩
 ):p:=h
theorem A8r{p:Prop}(h:p:=by
 go_enter func277,ntmps277
 go_upto_if 5 with(go_at_call 281;(with_reducible refine(CS.out _).mono ?_);rintro e w2 ⟨rfl,hb2⟩;have y0:=A7 hb2 hs x0;have y2:=A7 hb2 hs x2;have hS2:Since W1 w2:=hb2)
 clear x0 x1 x2 x3 x4 x5;go_wp2_with(go_at_call 282;with_reducible refine(CB.out _ hS2).mono ?_;rintro e w9 ⟨u,rfl,hu,h9⟩)
 go_ret;exact⟨u,rfl,hu,A8 BB.out (A8 hS2 h9)⟩
 ):p:=h
def rg1(r:Int):Int:=if r≤0 then 3 else if r=1 then 5 else if r=2 then 6 else 7
theorem A4P{r:Int}:rg1 r=3∨rg1 r=5∨rg1 r=6∨rg1 r=7:=by unfold rg1;split;simp;split;simp;split<;>simp
theorem C6(r:Int)(hr: -1≤r∧r≤3)(w:World):Calls prog 283 #[.agg #[],.int .i64 r] w fun e w'=>e= .returned (.int .i64 (rg1 r))∧Below w.heap.size w w':=by
 have B1:=hid (((Below.refl w.heap.size w).alloc (Nat.le_refl _) (.cells #[] 189)).alloc (by simp) (.cells #[.int .i64 3,.int .i64 5,.int .i64 6,.int .i64 7] 3));have h:r= -1∨r=0∨r=1∨r=2∨r=3:=by omega
 rcases h with rfl|rfl|rfl|rfl|rfl<;>(
  go_enter func283,ntmps283;go_wp2_with fail
  go_ret;exact⟨rfl,B1.out⟩)
theorem F0(xs:List Ins)(v:Value)(w:World)(hv:Ias w v xs)(ha:J4 xs)(hl:xs.length≤100):Calls prog 282 #[.agg #[],v] w fun e w'=>∃u,e= .returned u∧RowI w' w.heap.size 5 .u8 u (E8 xs)∧Below w.heap.size w w':=by
 have B1:=hid ((Below.refl w.heap.size w).alloc (Nat.le_refl _) (.cells #[] 189));have C1:=hid (A3k xs v (w.alloc (.cells #[] 189)) (hv.stays B1.out) ha (by omega));clear ha hv;go_enter func282,ntmps282;go_wp2_with((with_reducible refine C1.out.mono ?_);rintro e w2 ⟨u,rfl,hr2,hb2⟩)
 go_ret;exact⟨_,rfl,World.ownsRow.mono hr2 (by simp),B7 B1.out (by simp) hb2⟩
theorem O9{w:World}{xs:List Ins}{base:Nat}(hb:base≤w.heap.size)(h:xs.length≤100):RowA (w.alloc (.cells (M0 xs).toArray 89)) base (.slice (some ⟨w.heap.size,0,none⟩) xs.length xs.length) xs:=by
 have:=World.ownsRow_lit (base:=base) (e:=89) (size:=5) w (M0 xs).toArray xs.length hb (by unfold maxLen;omega) (by simpa using A0r xs);exact this
theorem G3{w:World}{xs:List Ins}(h:xs.length≤100):Ias (w.alloc (.cells (M0 xs).toArray 89)) (.slice (some ⟨w.heap.size,0,none⟩) xs.length xs.length) xs:=(O9 (base:=0) (Nat.zero_le _) h).ias (by omega)
theorem E2(op d s:Int)(w:World):Calls prog 284 #[.int .i64 op,.int .i64 d,.int .i64 s] w fun e w'=>e= .returned (.agg #[.int .i64 op,.int .i64 d,.int .i64 s,.int .i64 32,.int .i64 0])∧Below w.heap.size w w':=by
 go_enter func284,ntmps284;go_wp2_with fail
 refine bodyPost_ret (v:=.agg #[.int .i64 op,.int .i64 d,.int .i64 s,.int .i64 32,.int .i64 0]) (by simp[results,results284,go_sem]) rfl ⟨rfl,?_⟩;exact(Below.refl _ _).alloc (Nat.le_refl _) _
def J5(o:Int)(long:Bool):Nat:=if o=24 then(if long then 5 else 2)else if long then 8 else 4
theorem p4(x:Cd)(long:Bool)(w:World):Calls prog 281 #[.agg #[],ncV x,.bool long] w fun e w'=>e= .returned (.int .i64 (J5 x.o long:Nat))∧Below w.heap.size w w':=by
 obtain⟨o,d,a,b,i,t⟩:=x;show Calls prog 281 #[.agg #[],.agg #[.int .i64 o,.int .i64 d,.int .i64 a,.int .i64 b,.int .u32 i,.int .i64 t],.bool long] w _
 obtain⟨hb1,k1⟩:=B9 (w.alloc (.cells #[] 189)) [.int .i64 o,.int .i64 d,.int .i64 a,.int .i64 b,.int .u32 i,.int .i64 t] 61;have hb0:Below w.heap.size w (w.alloc (.cells #[] 189)):=(Below.refl _ _).alloc (Nat.le_refl _) _;obtain⟨W1,hW1⟩:∃W,(w.alloc (.cells #[] 189)).alloc (.cells #[.int .i64 o,.int .i64 d,.int .i64 a,.int .i64 b,.int .u32 i,.int .i64 t] 61)=W:=⟨_,rfl⟩
 rw[show([.int .i64 o,.int .i64 d,.int .i64 a,.int .i64 b,.int .u32 i,.int .i64 t]:List Value).toArray=#[.int .i64 o,.int .i64 d,.int .i64 a,.int .i64 b,.int .u32 i,.int .i64 t]from rfl,hW1]at hb1 k1;rw[show(w.alloc (.cells #[] 189)).heap.size=w.heap.size+1 by simp]at k1;have BB:Hid (Since w W1):=hid (A8 hb0 hb1);have x0:=(k1 0 _ rfl).1;have x1:=(k1 1 _ rfl).1;have x2:=(k1 2 _ rfl).1;have x3:=(k1 3 _ rfl).1;have x4:=(k1 4 _ rfl).1;have x5:=(k1 5 _ rfl).1;have hs:w.heap.size+1<W1.heap.size:=B6 x0;clear k1 hb0 hb1;simp only;clear x1 x2 x3 x4 x5;by_cases ho:o=24
 ·have d0:(o==24)=true:=by simpa using ho
  have e:J5 o long=if long then 5 else 2:=by unfold J5;rw[if_pos ho]
  rw[e];clear ho e;cases long<;>(
  go_enter func281,ntmps281;go_wp2_with fail
  go_ret;exact⟨rfl,BB.out⟩)
 ·have d0:(o==24)=false:=by simpa using ho
  have e:J5 o long=if long then 8 else 4:=by unfold J5;rw[if_neg ho]
  rw[e];clear ho e;cases long<;>(
  go_enter func281,ntmps281;go_wp2_with fail
  go_ret;exact⟨rfl,BB.out⟩)
theorem d8(o:Int)(long:Bool):2≤J5 o long∧J5 o long≤8:=by unfold J5;split<;>split<;>simp
def A2y(o p q:Int):Bool:=decide (-128≤q-p-(J5 o false:Nat))&&decide (q-p-(J5 o false:Nat)≤127)
theorem A4R(x:Cd)(p q:Int)(hp:0≤p∧p≤100000)(hq:0≤q∧q≤100000)(w:World):Calls prog 279 #[.agg #[],ncV x,.int .i64 p,.int .i64 q] w fun e w'=>e= .returned (.bool (A2y x.o p q))∧Below w.heap.size w w':=by
 have CS:=hid (fun w=>p4 x false w);obtain⟨o,d,a,b,i,t⟩:=x;show Calls prog 279 #[.agg #[],.agg #[.int .i64 o,.int .i64 d,.int .i64 a,.int .i64 b,.int .u32 i,.int .i64 t],.int .i64 p,.int .i64 q] w _
 obtain⟨hb1,k1⟩:=B9 (w.alloc (.cells #[] 189)) [.int .i64 o,.int .i64 d,.int .i64 a,.int .i64 b,.int .u32 i,.int .i64 t] 61;have hb0:Below w.heap.size w (w.alloc (.cells #[] 189)):=(Below.refl _ _).alloc (Nat.le_refl _) _;obtain⟨W1,hW1⟩:∃W,(w.alloc (.cells #[] 189)).alloc (.cells #[.int .i64 o,.int .i64 d,.int .i64 a,.int .i64 b,.int .u32 i,.int .i64 t] 61)=W:=⟨_,rfl⟩
 rw[show([.int .i64 o,.int .i64 d,.int .i64 a,.int .i64 b,.int .u32 i,.int .i64 t]:List Value).toArray=#[.int .i64 o,.int .i64 d,.int .i64 a,.int .i64 b,.int .u32 i,.int .i64 t]from rfl,hW1]at hb1 k1;rw[show(w.alloc (.cells #[] 189)).heap.size=w.heap.size+1 by simp]at k1;have BB:Hid (Since w W1):=hid (A8 hb0 hb1);have x0:=(k1 0 _ rfl).1;have x1:=(k1 1 _ rfl).1;have x2:=(k1 2 _ rfl).1;have x3:=(k1 3 _ rfl).1;have x4:=(k1 4 _ rfl).1;have x5:=(k1 5 _ rfl).1;have hs:w.heap.size+1<W1.heap.size:=B6 x0;clear k1 hb0 hb1;have hz:=d8 o false;simp only[A2y];have CS:Hid (∀wk,Calls prog 281 #[.agg #[],.agg #[.int .i64 o,.int .i64 d,.int .i64 a,.int .i64 b,.int .u32 i,.int .i64 t],.bool false] wk fun e w'=>e= .returned (.int .i64 (J5 o false:Nat))∧Below wk.heap.size wk w'):=CS;generalize J5 o false=z at*
 have hs1:IntKind.i64.wrap (q-p)=q-p:=by rw[IntWalk.i64_left];exact IntWalk.wrap64_in _ (by omega)
 have hs2:IntKind.i64.wrap (q-p-(z:Int))=q-p-z:=by rw[IntWalk.i64_left];exact IntWalk.wrap64_in _ (by omega)
 cases h2:decide (-128≤q-p-(z:Int))<;>cases h3:decide (q-p-(z:Int)≤127)<;>(
  go_enter func279,ntmps279;go_wp2_with(go_at_call 281;(with_reducible refine(CS.out _).mono ?_);rintro e w2 ⟨rfl,hb2⟩)
  go_ret;exact⟨rfl,A8 BB.out hb2⟩)
def bs1(x:Cd):List Ins:=if x.a<0 then[⟨1,1,0,32,0⟩]else[]
def bf1(x:Cd):Int:=if x.a<0 then 1 else rg1 x.a
theorem base1(x:Cd)(ha: -1≤x.a∧x.a≤3)(w:World):Calls prog 287 #[.agg #[],ncV x] w fun e w'=>∃u,e= .returned (.tuple #[u,.int .i64 (bf1 x)])∧RowA w' w.heap.size u (bs1 x)∧Below w.heap.size w w':=by
 obtain⟨o,d,a,b,i,t⟩:=x;show Calls prog 287 #[.agg #[],.agg #[.int .i64 o,.int .i64 d,.int .i64 a,.int .i64 b,.int .u32 i,.int .i64 t]] w _
 obtain⟨hb1,k1⟩:=B9 (w.alloc (.cells #[] 189)) [.int .i64 o,.int .i64 d,.int .i64 a,.int .i64 b,.int .u32 i,.int .i64 t] 61;have hb0:Below w.heap.size w (w.alloc (.cells #[] 189)):=(Below.refl _ _).alloc (Nat.le_refl _) _;obtain⟨W1,hW1⟩:∃W,(w.alloc (.cells #[] 189)).alloc (.cells #[.int .i64 o,.int .i64 d,.int .i64 a,.int .i64 b,.int .u32 i,.int .i64 t] 61)=W:=⟨_,rfl⟩
 rw[show([.int .i64 o,.int .i64 d,.int .i64 a,.int .i64 b,.int .u32 i,.int .i64 t]:List Value).toArray=#[.int .i64 o,.int .i64 d,.int .i64 a,.int .i64 b,.int .u32 i,.int .i64 t]from rfl,hW1]at hb1 k1;rw[show(w.alloc (.cells #[] 189)).heap.size=w.heap.size+1 by simp]at k1;have BB:Hid (Since w W1):=hid (A8 hb0 hb1);have x0:=(k1 0 _ rfl).1;have x1:=(k1 1 _ rfl).1;have x2:=(k1 2 _ rfl).1;have x3:=(k1 3 _ rfl).1;have x4:=(k1 4 _ rfl).1;have x5:=(k1 5 _ rfl).1;have hs:w.heap.size+1<W1.heap.size:=B6 x0;clear k1 hb0 hb1;simp only[bs1,bf1]at ha⊢;have C2:=hid (C6 a ha);by_cases hz:a<0
 ·rw[if_pos hz,if_pos hz];have dz:decide (a<0)=true:=decide_eq_true hz;have hsz:w.heap.size≤W1.heap.size:=by omega
  have R:=hid (O9 (w:=W1) (base:=w.heap.size) (xs:=[⟨1,1,0,32,0⟩]) hsz (by simp));clear hz;go_enter func287,ntmps287;go_wp2_with fail
  go_ret2
  exact⟨_,rfl,R.out,A8 BB.out ((Below.refl _ _).alloc (Nat.le_refl _) _)⟩
 ·rw[if_neg hz,if_neg hz];have dz:decide (a<0)=false:=decide_eq_false hz;generalize rg1 a=ra at*
  clear hz;go_enter func287,ntmps287;go_wp2_with(go_at_call 283;(with_reducible refine(C2.out _).mono ?_);rintro e w2 ⟨rfl,hb2⟩)
  go_ret2
  exact⟨_,rfl,RowA.nil _ _,A8 BB.out hb2⟩
theorem A2S(x:Cd)(p q:Int)(hp:0≤p∧p≤100000)(hq:0≤q∧q≤100000)(ha: -1≤x.a∧x.a≤3)(HO:x.o=24)(hall:J4 [⟨33,0,0,32,(q-p-(J5 24 true:Nat))⟩])(w:World):Calls prog 277 #[.agg #[],ncV x,.bool true,.int .i64 p,.int .i64 q] w fun e w'=>∃u,e= .returned u∧RowI w' w.heap.size 5 .u8 u (E8 [⟨33,0,0,32,(q-p-(J5 24 true:Nat))⟩])∧Below w.heap.size w w':=by
 have CS:=hid (fun w=>p4 x true w);obtain⟨o,d,a,b,i,t⟩:=x;show Calls prog 277 #[.agg #[],.agg #[.int .i64 o,.int .i64 d,.int .i64 a,.int .i64 b,.int .u32 i,.int .i64 t],.bool true,.int .i64 p,.int .i64 q] w _
 obtain⟨hb1,k1⟩:=B9 (w.alloc (.cells #[] 189)) [.int .i64 o,.int .i64 d,.int .i64 a,.int .i64 b,.int .u32 i,.int .i64 t] 61;have hb0:Below w.heap.size w (w.alloc (.cells #[] 189)):=(Below.refl _ _).alloc (Nat.le_refl _) _;obtain⟨W1,hW1⟩:∃W,(w.alloc (.cells #[] 189)).alloc (.cells #[.int .i64 o,.int .i64 d,.int .i64 a,.int .i64 b,.int .u32 i,.int .i64 t] 61)=W:=⟨_,rfl⟩
 rw[show([.int .i64 o,.int .i64 d,.int .i64 a,.int .i64 b,.int .u32 i,.int .i64 t]:List Value).toArray=#[.int .i64 o,.int .i64 d,.int .i64 a,.int .i64 b,.int .u32 i,.int .i64 t]from rfl,hW1]at hb1 k1;rw[show(w.alloc (.cells #[] 189)).heap.size=w.heap.size+1 by simp]at k1;have BB:Hid (Since w W1):=hid (A8 hb0 hb1);have x0:=(k1 0 _ rfl).1;have x1:=(k1 1 _ rfl).1;have x2:=(k1 2 _ rfl).1;have x3:=(k1 3 _ rfl).1;have x4:=(k1 4 _ rfl).1;have x5:=(k1 5 _ rfl).1;have hs:w.heap.size+1<W1.heap.size:=B6 x0;clear k1 hb0 hb1;simp only at HO hall ha;subst HO;have hz:(J5 24 true:Int)=5:=rfl;rw[hz]at hall⊢;have CS:Hid (∀wk,Calls prog 281 #[.agg #[],.agg #[.int .i64 24,.int .i64 d,.int .i64 a,.int .i64 b,.int .u32 i,.int .i64 t],.bool true] wk fun e w'=>e= .returned (.int .i64 5)∧Below wk.heap.size wk w'):=CS;clear hz;have hs1:IntKind.i64.wrap (q-p)=q-p:=by rw[IntWalk.i64_left];exact IntWalk.wrap64_in _ (by omega)
 have hs2:IntKind.i64.wrap (q-p-5)=q-p-5:=by rw[IntWalk.i64_left];exact IntWalk.wrap64_in _ (by omega)
 have C2:=hid (C6 a ha);have C3:=hid E2;generalize rg1 a=ra at*
 have CB:Hid (∀wk,Since W1 wk→Calls prog 282 #[.agg #[],.slice (some ⟨wk.heap.size,0,none⟩) 1 1] (wk.alloc (.cells #[.int .i64 33,.int .i64 0,.int .i64 0,.int .i64 32,.int .i64 (q-p-5)] 89)) fun e w'=>∃u,e= .returned u∧RowI w' w.heap.size 5 .u8 u (E8 [⟨33,0,0,32,q-p-5⟩])∧Below wk.heap.size wk w'):=hid (fun wk h=>(F0 [⟨33,0,0,32,q-p-5⟩] _ _ (G3 (w:=wk) (xs:=[⟨33,0,0,32,q-p-5⟩]) (by simp)) hall (by simp)).mono fun e w' ⟨u,h1,h2,h3⟩=>⟨u,h1,World.ownsRow.mono h2 (by have:=h.size;simp;omega),A8 ((Below.refl _ _).alloc (Nat.le_refl _) _) h3⟩);exact A8r
theorem A2R(x:Cd)(p q:Int)(hp:0≤p∧p≤100000)(hq:0≤q∧q≤100000)(ha: -1≤x.a∧x.a≤3)(HO:x.o=24)(hall:J4 [⟨33,0,0,8,(q-p-(J5 24 false:Nat))⟩])(w:World):Calls prog 277 #[.agg #[],ncV x,.bool false,.int .i64 p,.int .i64 q] w fun e w'=>∃u,e= .returned u∧RowI w' w.heap.size 5 .u8 u (E8 [⟨33,0,0,8,(q-p-(J5 24 false:Nat))⟩])∧Below w.heap.size w w':=by
 have CS:=hid (fun w=>p4 x false w);obtain⟨o,d,a,b,i,t⟩:=x;show Calls prog 277 #[.agg #[],.agg #[.int .i64 o,.int .i64 d,.int .i64 a,.int .i64 b,.int .u32 i,.int .i64 t],.bool false,.int .i64 p,.int .i64 q] w _
 obtain⟨hb1,k1⟩:=B9 (w.alloc (.cells #[] 189)) [.int .i64 o,.int .i64 d,.int .i64 a,.int .i64 b,.int .u32 i,.int .i64 t] 61;have hb0:Below w.heap.size w (w.alloc (.cells #[] 189)):=(Below.refl _ _).alloc (Nat.le_refl _) _;obtain⟨W1,hW1⟩:∃W,(w.alloc (.cells #[] 189)).alloc (.cells #[.int .i64 o,.int .i64 d,.int .i64 a,.int .i64 b,.int .u32 i,.int .i64 t] 61)=W:=⟨_,rfl⟩
 rw[show([.int .i64 o,.int .i64 d,.int .i64 a,.int .i64 b,.int .u32 i,.int .i64 t]:List Value).toArray=#[.int .i64 o,.int .i64 d,.int .i64 a,.int .i64 b,.int .u32 i,.int .i64 t]from rfl,hW1]at hb1 k1;rw[show(w.alloc (.cells #[] 189)).heap.size=w.heap.size+1 by simp]at k1;have BB:Hid (Since w W1):=hid (A8 hb0 hb1);have x0:=(k1 0 _ rfl).1;have x1:=(k1 1 _ rfl).1;have x2:=(k1 2 _ rfl).1;have x3:=(k1 3 _ rfl).1;have x4:=(k1 4 _ rfl).1;have x5:=(k1 5 _ rfl).1;have hs:w.heap.size+1<W1.heap.size:=B6 x0;clear k1 hb0 hb1;simp only at HO hall ha;subst HO;have hz:(J5 24 false:Int)=2:=rfl;rw[hz]at hall⊢;have CS:Hid (∀wk,Calls prog 281 #[.agg #[],.agg #[.int .i64 24,.int .i64 d,.int .i64 a,.int .i64 b,.int .u32 i,.int .i64 t],.bool false] wk fun e w'=>e= .returned (.int .i64 2)∧Below wk.heap.size wk w'):=CS;clear hz;have hs1:IntKind.i64.wrap (q-p)=q-p:=by rw[IntWalk.i64_left];exact IntWalk.wrap64_in _ (by omega)
 have hs2:IntKind.i64.wrap (q-p-2)=q-p-2:=by rw[IntWalk.i64_left];exact IntWalk.wrap64_in _ (by omega)
 have C2:=hid (C6 a ha);have C3:=hid E2;generalize rg1 a=ra at*
 have CB:Hid (∀wk,Since W1 wk→Calls prog 282 #[.agg #[],.slice (some ⟨wk.heap.size,0,none⟩) 1 1] (wk.alloc (.cells #[.int .i64 33,.int .i64 0,.int .i64 0,.int .i64 8,.int .i64 (q-p-2)] 89)) fun e w'=>∃u,e= .returned u∧RowI w' w.heap.size 5 .u8 u (E8 [⟨33,0,0,8,q-p-2⟩])∧Below wk.heap.size wk w'):=hid (fun wk h=>(F0 [⟨33,0,0,8,q-p-2⟩] _ _ (G3 (w:=wk) (xs:=[⟨33,0,0,8,q-p-2⟩]) (by simp)) hall (by simp)).mono fun e w' ⟨u,h1,h2,h3⟩=>⟨u,h1,World.ownsRow.mono h2 (by have:=h.size;simp;omega),A8 ((Below.refl _ _).alloc (Nat.le_refl _) _) h3⟩);exact A8r
theorem A2U(x:Cd)(p q:Int)(hp:0≤p∧p≤100000)(hq:0≤q∧q≤100000)(ha: -1≤x.a∧x.a≤3)(HO:x.o=25)(hall:J4 [⟨13,rg1 x.a,rg1 x.a,32,0⟩,⟨32,0,5,32,(q-p-(J5 25 true:Nat))⟩])(w:World):Calls prog 277 #[.agg #[],ncV x,.bool true,.int .i64 p,.int .i64 q] w fun e w'=>∃u,e= .returned u∧RowI w' w.heap.size 5 .u8 u (E8 [⟨13,rg1 x.a,rg1 x.a,32,0⟩,⟨32,0,5,32,(q-p-(J5 25 true:Nat))⟩])∧Below w.heap.size w w':=by
 have CS:=hid (fun w=>p4 x true w);obtain⟨o,d,a,b,i,t⟩:=x;show Calls prog 277 #[.agg #[],.agg #[.int .i64 o,.int .i64 d,.int .i64 a,.int .i64 b,.int .u32 i,.int .i64 t],.bool true,.int .i64 p,.int .i64 q] w _
 obtain⟨hb1,k1⟩:=B9 (w.alloc (.cells #[] 189)) [.int .i64 o,.int .i64 d,.int .i64 a,.int .i64 b,.int .u32 i,.int .i64 t] 61;have hb0:Below w.heap.size w (w.alloc (.cells #[] 189)):=(Below.refl _ _).alloc (Nat.le_refl _) _;obtain⟨W1,hW1⟩:∃W,(w.alloc (.cells #[] 189)).alloc (.cells #[.int .i64 o,.int .i64 d,.int .i64 a,.int .i64 b,.int .u32 i,.int .i64 t] 61)=W:=⟨_,rfl⟩
 rw[show([.int .i64 o,.int .i64 d,.int .i64 a,.int .i64 b,.int .u32 i,.int .i64 t]:List Value).toArray=#[.int .i64 o,.int .i64 d,.int .i64 a,.int .i64 b,.int .u32 i,.int .i64 t]from rfl,hW1]at hb1 k1;rw[show(w.alloc (.cells #[] 189)).heap.size=w.heap.size+1 by simp]at k1;have BB:Hid (Since w W1):=hid (A8 hb0 hb1);have x0:=(k1 0 _ rfl).1;have x1:=(k1 1 _ rfl).1;have x2:=(k1 2 _ rfl).1;have x3:=(k1 3 _ rfl).1;have x4:=(k1 4 _ rfl).1;have x5:=(k1 5 _ rfl).1;have hs:w.heap.size+1<W1.heap.size:=B6 x0;clear k1 hb0 hb1;simp only at HO hall ha;subst HO;have hz:(J5 25 true:Int)=8:=rfl;rw[hz]at hall⊢;have CS:Hid (∀wk,Calls prog 281 #[.agg #[],.agg #[.int .i64 25,.int .i64 d,.int .i64 a,.int .i64 b,.int .u32 i,.int .i64 t],.bool true] wk fun e w'=>e= .returned (.int .i64 8)∧Below wk.heap.size wk w'):=CS;clear hz;have hs1:IntKind.i64.wrap (q-p)=q-p:=by rw[IntWalk.i64_left];exact IntWalk.wrap64_in _ (by omega)
 have hs2:IntKind.i64.wrap (q-p-8)=q-p-8:=by rw[IntWalk.i64_left];exact IntWalk.wrap64_in _ (by omega)
 have C2:=hid (C6 a ha);have C3:=hid E2;generalize rg1 a=ra at*
 have CB:Hid (∀wk,Since W1 wk→Calls prog 282 #[.agg #[],.slice (some ⟨wk.heap.size,0,none⟩) 2 2] (wk.alloc (.cells #[.int .i64 13,.int .i64 ra,.int .i64 ra,.int .i64 32,.int .i64 0,.int .i64 32,.int .i64 0,.int .i64 5,.int .i64 32,.int .i64 (q-p-8)] 89)) fun e w'=>∃u,e= .returned u∧RowI w' w.heap.size 5 .u8 u (E8 [⟨13,ra,ra,32,0⟩,⟨32,0,5,32,q-p-8⟩])∧Below wk.heap.size wk w'):=hid (fun wk h=>(F0 [⟨13,ra,ra,32,0⟩,⟨32,0,5,32,q-p-8⟩] _ _ (G3 (w:=wk) (xs:=[⟨13,ra,ra,32,0⟩,⟨32,0,5,32,q-p-8⟩]) (by simp)) hall (by simp)).mono fun e w' ⟨u,h1,h2,h3⟩=>⟨u,h1,World.ownsRow.mono h2 (by have:=h.size;simp;omega),A8 ((Below.refl _ _).alloc (Nat.le_refl _) _) h3⟩);exact q9z
theorem A2T(x:Cd)(p q:Int)(hp:0≤p∧p≤100000)(hq:0≤q∧q≤100000)(ha: -1≤x.a∧x.a≤3)(HO:x.o=25)(hall:J4 [⟨13,rg1 x.a,rg1 x.a,32,0⟩,⟨32,0,5,8,(q-p-(J5 25 false:Nat))⟩])(w:World):Calls prog 277 #[.agg #[],ncV x,.bool false,.int .i64 p,.int .i64 q] w fun e w'=>∃u,e= .returned u∧RowI w' w.heap.size 5 .u8 u (E8 [⟨13,rg1 x.a,rg1 x.a,32,0⟩,⟨32,0,5,8,(q-p-(J5 25 false:Nat))⟩])∧Below w.heap.size w w':=by
 have CS:=hid (fun w=>p4 x false w);obtain⟨o,d,a,b,i,t⟩:=x;show Calls prog 277 #[.agg #[],.agg #[.int .i64 o,.int .i64 d,.int .i64 a,.int .i64 b,.int .u32 i,.int .i64 t],.bool false,.int .i64 p,.int .i64 q] w _
 obtain⟨hb1,k1⟩:=B9 (w.alloc (.cells #[] 189)) [.int .i64 o,.int .i64 d,.int .i64 a,.int .i64 b,.int .u32 i,.int .i64 t] 61;have hb0:Below w.heap.size w (w.alloc (.cells #[] 189)):=(Below.refl _ _).alloc (Nat.le_refl _) _;obtain⟨W1,hW1⟩:∃W,(w.alloc (.cells #[] 189)).alloc (.cells #[.int .i64 o,.int .i64 d,.int .i64 a,.int .i64 b,.int .u32 i,.int .i64 t] 61)=W:=⟨_,rfl⟩
 rw[show([.int .i64 o,.int .i64 d,.int .i64 a,.int .i64 b,.int .u32 i,.int .i64 t]:List Value).toArray=#[.int .i64 o,.int .i64 d,.int .i64 a,.int .i64 b,.int .u32 i,.int .i64 t]from rfl,hW1]at hb1 k1;rw[show(w.alloc (.cells #[] 189)).heap.size=w.heap.size+1 by simp]at k1;have BB:Hid (Since w W1):=hid (A8 hb0 hb1);have x0:=(k1 0 _ rfl).1;have x1:=(k1 1 _ rfl).1;have x2:=(k1 2 _ rfl).1;have x3:=(k1 3 _ rfl).1;have x4:=(k1 4 _ rfl).1;have x5:=(k1 5 _ rfl).1;have hs:w.heap.size+1<W1.heap.size:=B6 x0;clear k1 hb0 hb1;simp only at HO hall ha;subst HO;have hz:(J5 25 false:Int)=4:=rfl;rw[hz]at hall⊢;have CS:Hid (∀wk,Calls prog 281 #[.agg #[],.agg #[.int .i64 25,.int .i64 d,.int .i64 a,.int .i64 b,.int .u32 i,.int .i64 t],.bool false] wk fun e w'=>e= .returned (.int .i64 4)∧Below wk.heap.size wk w'):=CS;clear hz;have hs1:IntKind.i64.wrap (q-p)=q-p:=by rw[IntWalk.i64_left];exact IntWalk.wrap64_in _ (by omega)
 have hs2:IntKind.i64.wrap (q-p-4)=q-p-4:=by rw[IntWalk.i64_left];exact IntWalk.wrap64_in _ (by omega)
 have C2:=hid (C6 a ha);have C3:=hid E2;generalize rg1 a=ra at*
 have CB:Hid (∀wk,Since W1 wk→Calls prog 282 #[.agg #[],.slice (some ⟨wk.heap.size,0,none⟩) 2 2] (wk.alloc (.cells #[.int .i64 13,.int .i64 ra,.int .i64 ra,.int .i64 32,.int .i64 0,.int .i64 32,.int .i64 0,.int .i64 5,.int .i64 8,.int .i64 (q-p-4)] 89)) fun e w'=>∃u,e= .returned u∧RowI w' w.heap.size 5 .u8 u (E8 [⟨13,ra,ra,32,0⟩,⟨32,0,5,8,q-p-4⟩])∧Below wk.heap.size wk w'):=hid (fun wk h=>(F0 [⟨13,ra,ra,32,0⟩,⟨32,0,5,8,q-p-4⟩] _ _ (G3 (w:=wk) (xs:=[⟨13,ra,ra,32,0⟩,⟨32,0,5,8,q-p-4⟩]) (by simp)) hall (by simp)).mono fun e w' ⟨u,h1,h2,h3⟩=>⟨u,h1,World.ownsRow.mono h2 (by have:=h.size;simp;omega),A8 ((Below.refl _ _).alloc (Nat.le_refl _) _) h3⟩);exact q9z
end Go.Proofs.YtajljbmeaeeknaaGreat
namespace Go.Proofs.YtajljbmeaeeknaaGreat
open Go.RowKit
set_option linter.unusedVariables false
set_option linter.unusedSimpArgs false
structure But(B:Nat)(w w':World):Prop where
 os:w'.os=w.os
 tape:w'.tape=w.tape
 output:w'.output=w.output
 size:w.heap.size≤w'.heap.size
 block:∀k,k<w.heap.size→k≠B→w'.heap[k]? =w.heap[k]?
theorem But.refl(B:Nat)(w:World):But B w w:=⟨rfl,rfl,rfl,Nat.le_refl _,fun _ _ _=>rfl⟩
theorem But.trans{B:Nat}{w w1 w2:World}(h:But B w w1)(h':But B w1 w2):But B w w2:=
 ⟨h'.os.trans h.os,h'.tape.trans h.tape,h'.output.trans h.output,Nat.le_trans h.size h'.size,fun k hk hn=>(h'.block k (Nat.lt_of_lt_of_le hk h.size) hn).trans (h.block k hk hn)⟩
theorem But.below{B:Nat}{w w':World}(h:But B w w')(hB:B≤w.heap.size):Below B w w':=⟨h.os,h.tape,h.output,h.size,fun k hk=>h.block k (by omega) (by omega)⟩
theorem But.setCell{B:Nat}{w w':World}(h:But B w w')(o:Nat)(v:Value):But B w (w'.setCell ⟨B,o,none⟩ v):=
 ⟨h.os,h.tape,h.output,Nat.le_trans h.size (by simp[World.setCell]),fun k hk hn=>(Below.heap_setCell w' ⟨B,o,none⟩ v k hn).trans (h.block k hk hn)⟩
theorem But.drewN{B:Nat}{w w':World}(h:But B w w')(n:Nat):But B w (w'.drewN n):=⟨h.os,h.tape,h.output,h.size,h.block⟩
theorem But.drew{B:Nat}{w w':World}(h:But B w w'):But B w w'.drew:=⟨h.os,h.tape,h.output,h.size,h.block⟩
theorem But.alloc{B:Nat}{w w':World}(h:But B w w')(o:Obj):But B w (w'.alloc o):=
 ⟨h.os,h.tape,h.output,Nat.le_trans h.size (by simp),fun k hk hn=>(Below.heap_alloc w' o k (Nat.lt_of_lt_of_le hk h.size)).trans (h.block k hk hn)⟩
theorem But.cell{B:Nat}{w w':World}(h:But B w w'){b o:Nat}{v:Value}(hb:b≠B)(hc:w.cell? ⟨b,o,none⟩=some v):w'.cell? ⟨b,o,none⟩=some v:=by
 rw[←hc];exact World.cell?_of_block (w:=w) (h.block b (B6 hc) hb)
def Off(B:Nat)(v:Value):Prop:=∀b q n c,v= .slice (some ⟨b,q,none⟩) n c→0<n→b≠B
theorem Ints.but{k:IntKind}{B:Nat}{w w':World}{v:Value}{xs:List Int}(h:Ints k w v xs)(hc:But B w w')(hT:Off B v):Ints k w' v xs:=by
 obtain⟨a,c,rfl,h1,h2,h3,h4⟩:=h;refine⟨a,c,rfl,h1,h2,h3,fun i hi=>?_⟩;obtain⟨b,o,rfl,h5,h6⟩:=h4 i hi;exact⟨b,o,rfl,Nat.lt_of_lt_of_le h5 hc.size,hc.cell (hT b o _ _ rfl (by omega)) h6⟩
def Rdr(w:World)(B:Nat)(v:Value)(m n:Nat):Prop:=
 w.heap[B]? =some (.cells #[v,.int .i64 (min n m:Nat),.bool (decide (m<n))] 183)
theorem Rdr.lt{w:World}{B:Nat}{v:Value}{m n:Nat}(h:Rdr w B v m n):B<w.heap.size:=(Array.getElem?_eq_some_iff.1 h).1
theorem Rdr.c0{w:World}{B:Nat}{v:Value}{m n:Nat}(h:Rdr w B v m n):w.cell? ⟨B,0,none⟩=some v:=by simp[World.cell?,show w.heap[B]? =_ from h]
theorem Rdr.c1{w:World}{B:Nat}{v:Value}{m n:Nat}(h:Rdr w B v m n):w.cell? ⟨B,1,none⟩=some (.int .i64 (min n m:Nat)):=by simp[World.cell?,show w.heap[B]? =_ from h]
theorem Rdr.c2{w:World}{B:Nat}{v:Value}{m n:Nat}(h:Rdr w B v m n):w.cell? ⟨B,2,none⟩=some (.bool (decide (m<n))):=by simp[World.cell?,show w.heap[B]? =_ from h]
theorem Rdr.free{w:World}{B:Nat}{v:Value}{m n:Nat}(h:Rdr w B v m n)(i:Nat):w.frozen? ⟨B,i,none⟩=false:=by simp[World.frozen?,show w.heap[B]? =_ from h]
theorem Rdr.below{w w':World}{B:Nat}{v:Value}{m n:Nat}(h:Rdr w B v m n)(hb:Below w.heap.size w w'):Rdr w' B v m n:=(hb.block B h.lt).trans h
theorem Rdr.drewN{w:World}{B:Nat}{v:Value}{m n:Nat}(h:Rdr w B v m n)(k:Nat):Rdr (w.drewN k) B v m n:=h
theorem Rdr.more{w:World}{B:Nat}{v:Value}{m n:Nat}(h:Rdr w B v m n)(hn:n<m):Rdr (w.setCell ⟨B,1,none⟩ (.int .i64 ((n:Int)+1))) B v m (n+1):=by
 unfold Rdr;simp only[World.setCell,Array.getElem?_modify,show w.heap[B]? =_ from h];simp[Nat.min_eq_left (show n+1≤m by omega),decide_eq_false (show¬m<n by omega),decide_eq_false (show¬m<n+1 by omega)]
structure RdL(w:World)(B:Nat)(v:Value)(l:List Int)(n:Nat):Prop where
 r:Rdr w B v l.length n
 l:Ints .u8 w v l
 off:Off B v
theorem RdL.stays{w w':World}{B:Nat}{v:Value}{l:List Int}{n:Nat}(h:RdL w B v l n)(hb:Below w.heap.size w w'):RdL w' B v l n:=⟨h.r.below hb,h.l.stays hb,h.off⟩
theorem But.box{B:Nat}{w w1:World}{cs:Array Value}{T:TypeId}(h:But B (w.alloc (.cells cs T)) w1)(hB:B<w.heap.size)(i:Nat):w1.cell? ⟨w.heap.size,i,none⟩=cs[i]? ∧w1.frozen? ⟨w.heap.size,i,none⟩=false:=by
 have e:=h.block w.heap.size (by simp) (by omega);refine⟨(World.cell?_of_block (w:=w.alloc (.cells cs T)) e).trans ?_,(World.frozen?_of_block (w:=w.alloc (.cells cs T)) e).trans ?_⟩
 ·simp[go_sem]
 ·simp[go_sem]
theorem But.setNew{B b:Nat}{w w':World}(h:But B w w')(hb:w.heap.size≤b)(o:Nat)(v:Value):But B w (w'.setCell ⟨b,o,none⟩ v):=
 ⟨h.os,h.tape,h.output,Nat.le_trans h.size (by simp[World.setCell]),fun k hk hn=>(Below.heap_setCell w' ⟨b,o,none⟩ v k (by show k≠b;omega)).trans (h.block k hk hn)⟩
theorem Rdr.setNew{w:World}{B b:Nat}{v:Value}{m n:Nat}(h:Rdr w B v m n)(hb:B≠b)(o:Nat)(u:Value):Rdr (w.setCell ⟨b,o,none⟩ u) B v m n:=(Below.heap_setCell w ⟨b,o,none⟩ u B hb).trans h
theorem RowI.but{w w':World}{base B:Nat}{e:TypeId}{k:IntKind}{v:Value}{xs:List Int}(h:RowI w base e k v xs)(hc:But B w w')(hB:B<base):RowI w' base e k v xs:=by
 obtain⟨h0,h1|⟨g,cap,cur,rfl,hb',hg,h2⟩⟩:=h
 ·exact⟨h0,.inl h1⟩
 ·exact⟨h0,.inr ⟨g,cap,cur,rfl,hb',by rw[hc.block g ((Array.getElem?_eq_some_iff.1 hg).1) (by omega)];exact hg,h2⟩⟩
end Go.Proofs.YtajljbmeaeeknaaGreat
namespace Go.Proofs.YtajljbmeaeeknaaGreat.Wd
def pw(n:Int):Int:=2^n.toNat
def fit(n a:Int):Bool:=decide (a<pw n)
def sgn(n a:Int):Int:=if pw (n-1)≤a then a-pw n else a
def wr(n x:Int):Int:=x%pw n
def lo(x j:Nat):Int:=((x%2^j:Nat):Int)
def has(op n a b:Int):Bool:=
 if op=4∨op=5 then decide (b≠0)else
 if op=6∨op=7 then decide (b≠0∧¬(sgn n a= -pw (n-1)∧sgn n b= -1))else
 if op=11∨op=12∨op=13 then decide (b<n)else true
theorem A4M(n a:Int):∃k,sgn n a=a+k*pw n:=by
 unfold sgn
 split
 ·exact⟨-1,by omega⟩
 ·exact⟨0,by omega⟩
theorem wr_mul(n a b:Int):wr n (sgn n a*sgn n b)=wr n (a*b):=by
 obtain⟨k,hk⟩:=A4M n a;obtain⟨l,hl⟩:=A4M n b;unfold wr;rw[hk,hl];have:(a+k*pw n)*(b+l*pw n)=a*b+(a*l+k*b+k*l*pw n)*pw n:=by
  simp only[Int.add_mul,Int.mul_add,Int.mul_assoc,Int.mul_comm,Int.mul_left_comm];omega
 rw[this,Int.add_mul_emod_self_right]
/-! ### lanes: digits of the base L -/
def A6k(L:Int)(d:Nat→Int):Nat→Int
 |0=>0
 |j+1=>A6k L d j+d j*L^j
def B0H(op l a b:Int)(j:Nat):Int:=wr l (if op=20 then wr l (a / pw l^j)-wr l (b / pw l^j)else wr l (a / pw l^j)+wr l (b / pw l^j))
def lanes(op n l a b:Int):Int:=A6k (pw l) (B0H op l a b) (n / l).toNat
end Go.Proofs.YtajljbmeaeeknaaGreat.Wd
namespace Go.Proofs.YtajljbmeaeeknaaGreat
open Go.RowKit Wd
set_option linter.unusedVariables false
set_option linter.unusedSimpArgs false
end Go.Proofs.YtajljbmeaeeknaaGreat
namespace Go.Proofs.YtajljbmeaeeknaaGreat
open Go.RowKit
set_option linter.unusedVariables false
set_option linter.unusedSimpArgs false
def Box5(w:World)(b:Nat)(o d s z i:Int):Prop:=
 w.heap[b]? =some (.cells #[.int .i64 o,.int .i64 d,.int .i64 s,.int .i64 z,.int .i64 i] 89)
theorem Box5.cells{w:World}{b:Nat}{o d s z i:Int}(h:Box5 w b o d s z i):(w.cell? ⟨b,0,none⟩=some (.int .i64 o)∧w.cell? ⟨b,1,none⟩=some (.int .i64 d)∧w.cell? ⟨b,2,none⟩=some (.int .i64 s)∧w.cell? ⟨b,3,none⟩=some (.int .i64 z)∧w.cell? ⟨b,4,none⟩=some (.int .i64 i))∧∀j,w.frozen? ⟨b,j,none⟩=false:=by
 unfold Box5 at h;refine⟨⟨?_,?_,?_,?_,?_⟩,fun j=>?_⟩<;>simp[World.cell?,World.frozen?,h]
theorem Box5.new(w:World)(o d s z i:Int):Box5 (w.alloc (.cells #[.int .i64 o,.int .i64 d,.int .i64 s,.int .i64 z,.int .i64 i] 89)) w.heap.size o d s z i:=by
 unfold Box5;rw[show(w.alloc (.cells #[.int .i64 o,.int .i64 d,.int .i64 s,.int .i64 z,.int .i64 i] 89)).heap=w.heap.push (.cells #[.int .i64 o,.int .i64 d,.int .i64 s,.int .i64 z,.int .i64 i] 89)from rfl];simp
theorem Box5.but{w w':World}{b B:Nat}{o d s z i:Int}(h:Box5 w b o d s z i)(hb:But B w w')(hn:b≠B):Box5 w' b o d s z i:=(hb.block b ((Array.getElem?_eq_some_iff.1 h).1) hn).trans h
theorem Box5.lt{w:World}{b:Nat}{o d s z i:Int}(h:Box5 w b o d s z i):b<w.heap.size:=(Array.getElem?_eq_some_iff.1 h).1
theorem Rdr.drew{w:World}{B:Nat}{v:Value}{m n:Nat}(h:Rdr w B v m n):Rdr w.drew B v m n:=h
structure Stt(w0:World)(B:Nat)(v:Value)(l:List Int)(P Q:Nat)(o d s z i:Int)(n:Nat)(W:World):Prop where
 l0:Ints .u8 w0 v l
 off:Off B v
 r:Rdr W B v l.length n
 b:But B w0 W
 x:Box5 W P o d s z i
 q:Box5 W Q 0 0 0 0 0
 bw:B<w0.heap.size
 pw:w0.heap.size≤P
 qw:w0.heap.size≤Q
 pq:P≠Q
namespace Stt
variable {w0 W W' : World} {B P Q n n' : Nat} {v : Value} {l : List Int} {o d s z i : Int}
theorem rd(h:Stt w0 B v l P Q o d s z i n W):RdL W B v l n:=⟨h.r,h.l0.but h.b h.off,h.off⟩
theorem step(h:Stt w0 B v l P Q o d s z i n W)(hr:RdL W' B v l n')(hb:But B W W'):Stt w0 B v l P Q o d s z i n' W':=
 ⟨h.l0,h.off,hr.r,h.b.trans hb,h.x.but hb (by have:=h.bw;have:=h.pw;omega),h.q.but hb (by have:=h.bw;have:=h.qw;omega),h.bw,h.pw,h.qw,h.pq⟩
theorem alloc(h:Stt w0 B v l P Q o d s z i n W)(ob:Obj):Stt w0 B v l P Q o d s z i n (W.alloc ob):=h.step (h.rd.stays ((Below.refl _ _).alloc (Nat.le_refl _) ob)) ((But.refl B W).alloc ob)
theorem drew(h:Stt w0 B v l P Q o d s z i n W):Stt w0 B v l P Q o d s z i n W.drew:=⟨h.l0,h.off,h.r,h.b.drew,h.x,h.q,h.bw,h.pw,h.qw,h.pq⟩
end Stt
structure Fin5(w0:World)(B:Nat)(v:Value)(m n:Nat)(W:World):Prop where
 r:Rdr W B v m n
 b:But B w0 W
 bw:B<w0.heap.size
theorem Fin5.drew{w0 W:World}{B m n:Nat}{v:Value}(h:Fin5 w0 B v m n W):Fin5 w0 B v m n W.drew:=⟨h.r,h.b.drew,h.bw⟩
theorem Fin5.set{w0 W:World}{B m n b:Nat}{v:Value}(h:Fin5 w0 B v m n W)(hb:w0.heap.size≤b)(j:Nat)(u:Value):Fin5 w0 B v m n (W.setCell ⟨b,j,none⟩ u):=
 ⟨h.r.setNew (by have:=h.bw;omega) j u,h.b.setNew hb j u,h.bw⟩
theorem Fin5.out{w0 W:World}{B n:Nat}{v:Value}{l:List Int}(hl:Ints .u8 w0 v l)(ho:Off B v)(h:Fin5 w0 B v l.length n W):RdL W B v l n∧But B w0 W:=⟨⟨h.r,hl.but h.b ho,ho⟩,h.b⟩
theorem Stt.call{w0 W:World}{B P Q n n':Nat}{v:Value}{l:List Int}{o d s z i:Int}(h:Stt w0 B v l P Q o d s z i n W){f:FuncId}{args:Array Value}{u:Value}(hc:Calls prog f args W fun e w'=>e= .returned u∧RdL w' B v l n'∧But B W w'):Calls prog f args W fun e w'=>e= .returned u∧Stt w0 B v l P Q o d s z i n' w'∧But B W w':=
 hc.mono fun e w' ⟨a,b,c⟩=>⟨a,h.step b c,c⟩
end Go.Proofs.YtajljbmeaeeknaaGreat
namespace Go.Proofs.YtajljbmeaeeknaaGreat
open Go.RowKit
set_option linter.unusedVariables false
set_option linter.unusedSimpArgs false
theorem But.out{B:Nat}{w W W':World}(h:But B W W')(hw:Below w.heap.size w W)(hB:w.heap.size≤B):Below w.heap.size w W':=
 ⟨h.os.trans hw.os,h.tape.trans hw.tape,h.output.trans hw.output,Nat.le_trans hw.size h.size,fun k hk=>(h.block k (Nat.lt_of_lt_of_le hk hw.size) (by omega)).trans (hw.block k hk)⟩
structure DSt(w:World)(v:Value)(l:List Int)(n:Nat)(W:World):Prop where
 r:RdL W (w.heap.size+1) v l n
 x:Box5 W w.heap.size 0 0 0 0 0
 b:Below w.heap.size w W
theorem DSt.call{w W W':World}{v:Value}{l:List Int}{n n':Nat}(h:DSt w v l n W)(hr:RdL W' (w.heap.size+1) v l n')(hb:But (w.heap.size+1) W W'):DSt w v l n' W':=
 ⟨hr,h.x.but hb (by omega),hb.out h.b (by omega)⟩
theorem DSt.below{w W W':World}{v:Value}{l:List Int}{n:Nat}(h:DSt w v l n W)(hb:Below W.heap.size W W'):DSt w v l n W':=
 ⟨h.r.stays hb,(hb.block _ h.x.lt).trans h.x,A8 h.b hb⟩
theorem DSt.drew{w W:World}{v:Value}{l:List Int}{n:Nat}(h:DSt w v l n W):DSt w v l n W.drew:=h.below (B8 (Below.refl _ _) 1)
theorem DSt.one{w W:World}{v:Value}{l:List Int}(h:DSt w v l 0 W)(hl:0<l.length):DSt w v l 1 (W.setCell ⟨w.heap.size+1,1,none⟩ (.int .i64 1)):=by
 have hb:But (w.heap.size+1) W (W.setCell ⟨w.heap.size+1,1,none⟩ (.int .i64 1)):=(But.refl _ _).setCell 1 _;exact h.call ⟨h.r.r.more hl,h.r.l.but hb h.r.off,h.r.off⟩ hb
theorem Ints.take{k:IntKind}{w:World}{a:Option Addr}{c m:Nat}{xs:List Int}(h:Ints k w (.slice a xs.length c) xs)(hm:m≤xs.length):Ints k w (.slice a m c) (xs.take m):=by
 obtain⟨a',c',e,h1,h2,h3,h4⟩:=h;cases e;have hl:(xs.take m).length=m:=by rw[List.length_take];omega
 refine⟨a,c,by rw[hl],by omega,by omega,h3,fun i hi=>?_⟩;rw[hl]at hi;obtain⟨b,o,e',h5,h6⟩:=h4 i (by omega);refine⟨b,o,e',h5,?_⟩;show w.cell? _=_
 rw[h6];simp[List.getD_eq_getElem?_getD,List.getElem?_take,hi]
theorem Ints.str{w:World}{v:Value}{xs:List Int}(h:Ints .u8 w v xs):(convert 28 9 v).run prog w= .ok (.string (strOfNums xs)) w:=by
 obtain⟨a,c,rfl,h1,h2,h3,h4⟩:=h;rcases a with _|⟨b,o,tg⟩
 ·have hl:xs=[]:=by
   rcases xs with _|⟨x,r⟩
   ·rfl
   ·obtain⟨b,o,e,_⟩:=h4 0 (by simp);cases e
  subst hl;exact run_convert_bytes_nil w _ 5 underlying28 underlying5 _ _ _ underlying9
 ·rcases Nat.eq_zero_or_pos xs.length with h0|h0
  ·have hl:xs=[]:=List.length_eq_zero_iff.1 h0;subst hl;rw[run_convert_bytes_string w _ _ 5 _ _ _ underlying28 underlying5 underlying9];have:=run_bytesToString (P:=prog) w ⟨b,o,tg⟩ 0 c [] (by have:=run_loadCells_list (P:=prog) w ⟨b,o,tg⟩ [] (by intro j v hj;simp at hj);simpa using this);exact this
  ·obtain⟨b',o',e,_⟩:=h4 0 h0;cases e;refine run_convert_bytes_arg w _ 5 underlying28 underlying5 b o xs.length c xs rfl (fun i hi=>?_) _ underlying9;obtain⟨b2,o2,e2,_,h6⟩:=h4 i hi;cases e2;rw[Nat.mul_one]at h6;exact h6
end Go.Proofs.YtajljbmeaeeknaaGreat
namespace Go.Proofs.YtajljbmeaeeknaaGreat
open Go.RowKit Go.Maps
set_option linter.unusedVariables false
set_option linter.unusedSimpArgs false
theorem Ints.drop{k:IntKind}{w:World}{a:Option Addr}{c m:Nat}{xs:List Int}(h:Ints k w (.slice a xs.length c) xs)(hm:m≤xs.length):Ints k w (.slice (if c=m then a else a.map (fun x=>x.add m)) (xs.length-m) (c-m)) (xs.drop m):=by
 obtain⟨a',c',e,h1,h2,h3,h4⟩:=h;cases e;have hl:(xs.drop m).length=xs.length-m:=List.length_drop;refine⟨_,c-m,by rw[hl],by omega,by omega,fun e=>?_,fun i hi=>?_⟩
 ·by_cases hc:c=m
  ·omega
  ·rw[if_neg hc]at e;rcases a with _|a
   ·have:=h3 rfl;omega
   ·cases e
 ·rw[hl]at hi;obtain⟨b,o,e',h5,h6⟩:=h4 (m+i) (by omega);subst e';have hc:c≠m:=by omega
  refine⟨b,o+m,by rw[if_neg hc];simp[Addr.add],h5,?_⟩;show w.cell? _=_
  have h6':w.cell? ⟨b,o+(m+i)*1,none⟩=some (.int k (xs.getD (m+i) 0)):=h6;rw[show o+m+i*1=o+(m+i)*1 by omega,h6'];simp[List.getD_eq_getElem?_getD,List.getElem?_drop]
theorem A6S:(prog.info? 89).map (fun i=>(i.zero,i.size,i.bytes))=some (some (.agg #[.int .i64 0,.int .i64 0,.int .i64 0,.int .i64 0,.int .i64 0]),5,40):=by kernel_rfl
theorem RowA.app{w':World}{base:Nat}{v':Value}{xs:List Ins}{x:Ins}(h:w'.ownsRow base 89 5 v' (xs.length+1) (M0 xs++iaC x)):RowA w' base v' (xs++[x]):=by
 unfold RowA;rw[A3d,List.length_append];exact h
end Go.Proofs.YtajljbmeaeeknaaGreat
