/- -/
import Derived.Maps.Own
import Derived.Maps.OwnOps
import Derived.Test.YtajljbmeaeeknaaGreatS14
import Derived.Test.YtajljbmeaeeknaaGreatS15
open Go.Proofs.Tryz
open Go.Lib (hid)
set_option maxRecDepth 100000
namespace Go.Proofs.YtajljbmeaeeknaaGreat
open Go.RowKit Go.Maps
set_option linter.unusedVariables false
set_option linter.unusedSimpArgs false
theorem A3C{p:Prop}(h:p:=by
 go_upto_region 15 with fail
 clear hown;refine wp_region_held_drew (S:=(fun wk=>Since W1 wk)) (by kernel_rfl) ?_ (fun hHeld=>?_)
 ·exact q2z
 refine tk 0 ?_;refine tk 1 ?_;refine tk 3 ?_;refine tk 4 ?_;refine tk 6 ?_;refine rd1 2 (fun K hK=>?_);exact q0z
 ):p:=h
set_option maxHeartbeats 2000000 in
theorem A4c(x:Cd)(h0:0≤x.i)(h1:x.i<4294967296)(hd: -1≤x.d∧x.d≤3)(ha: -1≤x.a∧x.a≤3)(hb: -1≤x.b∧x.b≤3)(HO:x.o=2)(hall:J4 ([⟨0,0,rg1 x.a,32,0⟩,⟨7,0,rg1 x.b,32,0⟩,⟨0,rg1 x.d,0,32,0⟩]))(w:World):Calls prog 278 #[.agg #[],ncV x] w fun e w'=>∃u,e= .returned u∧RowI w' w.heap.size 5 .u8 u (E8 ([⟨0,0,rg1 x.a,32,0⟩,⟨7,0,rg1 x.b,32,0⟩,⟨0,rg1 x.d,0,32,0⟩]))∧Below w.heap.size w w':=by
 obtain⟨o,d,a,b,i,t⟩:=x;show Calls prog 278 #[.agg #[],.agg #[.int .i64 o,.int .i64 d,.int .i64 a,.int .i64 b,.int .u32 i,.int .i64 t]] w _
 simp only at h0 h1 hd ha hb HO;obtain⟨hb1,k1⟩:=B9 (w.alloc (.cells #[] 189)) [.int .i64 o,.int .i64 d,.int .i64 a,.int .i64 b,.int .u32 i,.int .i64 t] 61;have hb0:Below w.heap.size w (w.alloc (.cells #[] 189)):=(Below.refl _ _).alloc (Nat.le_refl _) _;obtain⟨W1,hW1⟩:∃W,(w.alloc (.cells #[] 189)).alloc (.cells #[.int .i64 o,.int .i64 d,.int .i64 a,.int .i64 b,.int .u32 i,.int .i64 t] 61)=W:=⟨_,rfl⟩
 rw[show([.int .i64 o,.int .i64 d,.int .i64 a,.int .i64 b,.int .u32 i,.int .i64 t]:List Value).toArray=#[.int .i64 o,.int .i64 d,.int .i64 a,.int .i64 b,.int .u32 i,.int .i64 t]from rfl,hW1]at hb1 k1;rw[show(w.alloc (.cells #[] 189)).heap.size=w.heap.size+1 by simp]at k1;have BB:Hid (Since w W1):=hid (A8 hb0 hb1);have x0:=(k1 0 _ rfl).1;have hs:w.heap.size+1<W1.heap.size:=B6 x0;have X0:∀wk,Since W1 wk→wk.cell? ⟨w.heap.size+1,0,none⟩=some (.int .i64 o):=fun wk h=>A7 h hs (k1 0 _ rfl).1
 have X1:∀wk,Since W1 wk→wk.cell? ⟨w.heap.size+1,1,none⟩=some (.int .i64 d):=fun wk h=>A7 h hs (k1 1 _ rfl).1
 have X2:∀wk,Since W1 wk→wk.cell? ⟨w.heap.size+1,2,none⟩=some (.int .i64 a):=fun wk h=>A7 h hs (k1 2 _ rfl).1
 have X3:∀wk,Since W1 wk→wk.cell? ⟨w.heap.size+1,3,none⟩=some (.int .i64 b):=fun wk h=>A7 h hs (k1 3 _ rfl).1
 have X4:∀wk,Since W1 wk→wk.cell? ⟨w.heap.size+1,4,none⟩=some (.int .u32 i):=fun wk h=>A7 h hs (k1 4 _ rfl).1
 have X5:∀wk,Since W1 wk→wk.cell? ⟨w.heap.size+1,5,none⟩=some (.int .i64 t):=fun wk h=>A7 h hs (k1 5 _ rfl).1
 have K0:=hid X0;have K1:=hid X1;have K2:=hid X2;have K3:=hid X3;have K4:=hid X4;have K5:=hid X5;have C1:=hid (C6 d hd);have C2:=hid (C6 a ha);have C3:=hid (C6 b hb);have CT:=hid E2;have h00:=Since.refl W1;subst HO;have hmm:=@run_makeMap prog;generalize rg1 d=rd at*
 generalize rg1 a=ra at*
 generalize rg1 b=rb at*
 have CB:Hid (∀wk,Since W1 wk→Calls prog 282 #[.agg #[],.slice (some ⟨wk.heap.size,0,none⟩) 3 3] (wk.alloc (.cells #[.int .i64 0,.int .i64 0,.int .i64 ra,.int .i64 32,.int .i64 0,.int .i64 7,.int .i64 0,.int .i64 rb,.int .i64 32,.int .i64 0,.int .i64 0,.int .i64 rd,.int .i64 0,.int .i64 32,.int .i64 0] 89)) fun e w'=>∃u,e= .returned u∧RowI w' w.heap.size 5 .u8 u (E8 [⟨0,0,ra,32,0⟩,⟨7,0,rb,32,0⟩,⟨0,rd,0,32,0⟩])∧Below wk.heap.size wk w'):=hid (fun wk h=>(F0 [⟨0,0,ra,32,0⟩,⟨7,0,rb,32,0⟩,⟨0,rd,0,32,0⟩] _ _ (G3 (w:=wk) (xs:=[⟨0,0,ra,32,0⟩,⟨7,0,rb,32,0⟩,⟨0,rd,0,32,0⟩]) (by simp)) hall (by simp)).mono fun e w' ⟨u,h1,h2,h3⟩=>⟨u,h1,World.ownsRow.mono h2 (by have:=h.size;simp;omega),A8 ((Below.refl _ _).alloc (Nat.le_refl _) _) h3⟩);clear k1 x0 hb0 hb1;go_enter func278,ntmps278;go_upto_region 1 with fail
 go_region_held3(fun wk=>Since W1 wk) (first|assumption|exact Since.drew (by assumption)|exact Since.next (by assumption) (by assumption)) ((go_at_call 283;(first|(with_reducible refine(C1.out _).mono ?_;rintro e wa ⟨rfl,hba⟩)|(with_reducible refine(C2.out _).mono ?_;rintro e wb ⟨rfl,hbb⟩)|(with_reducible refine(C3.out _).mono ?_;rintro e wc ⟨rfl,hbc⟩))))
 have hSz:Since W1 wc:=by assumption
 have y0:=K0.out _ hSz;have HZ:=hid hSz;clear hba hbb hbc C1 C2 C3 X0 X1 X2 X3 X4 X5;have hlt:w.heap.size+1<wc.heap.size:=B6 y0;have hB:W1.heap.size≤wc.heap.size:=hSz.size;have hSm:Since W1 (wc.alloc (.map #[] 0)):=Since.next hSz ((Below.refl _ _).alloc (Nat.le_refl _) _)
 have hown:=World.ownsMap_made (H:=Unit) wc prog 3 (plainElem prog 3);have y0:=K0.out _ hSm;obtain⟨m1,hrun1,hown,hgrow⟩:=hown.update (t:=143) (key:=.int .i64 2) (val:=.int .i64 7) (int_keyed underlying3) underlying143 (by decide) (keyOf_int_mk underlying3 (by decide)) (plainElem_int underlying3 (by decide))
 replace hSm:Since W1 m1:=hSm.grown hgrow hSm.size (fun j hj=>by cases hj;exact hB)
 clear hgrow;obtain⟨m2,hrun2,hown,hgrow⟩:=hown.update (t:=143) (key:=.int .i64 3) (val:=.int .i64 10) (int_keyed underlying3) underlying143 (by decide) (keyOf_int_mk underlying3 (by decide)) (plainElem_int underlying3 (by decide))
 replace hSm:Since W1 m2:=hSm.grown hgrow hSm.size (fun j hj=>by cases hj;exact hB)
 clear hgrow;obtain⟨m3,hrun3,hown,hgrow⟩:=hown.update (t:=143) (key:=.int .i64 4) (val:=.int .i64 20) (int_keyed underlying3) underlying143 (by decide) (keyOf_int_mk underlying3 (by decide)) (plainElem_int underlying3 (by decide))
 replace hSm:Since W1 m3:=hSm.grown hgrow hSm.size (fun j hj=>by cases hj;exact hB)
 clear hgrow;obtain⟨m4,hrun4,hown,hgrow⟩:=hown.update (t:=143) (key:=.int .i64 9) (val:=.int .i64 9) (int_keyed underlying3) underlying143 (by decide) (keyOf_int_mk underlying3 (by decide)) (plainElem_int underlying3 (by decide))
 replace hSm:Since W1 m4:=hSm.grown hgrow hSm.size (fun j hj=>by cases hj;exact hB)
 clear hgrow;obtain⟨m5,hrun5,hown,hgrow⟩:=hown.update (t:=143) (key:=.int .i64 10) (val:=.int .i64 8) (int_keyed underlying3) underlying143 (by decide) (keyOf_int_mk underlying3 (by decide)) (plainElem_int underlying3 (by decide))
 replace hSm:Since W1 m5:=hSm.grown hgrow hSm.size (fun j hj=>by cases hj;exact hB)
 clear hgrow;obtain⟨m6,hrun6,hown,hgrow⟩:=hown.update (t:=143) (key:=.int .i64 11) (val:=.int .i64 11) (int_keyed underlying3) underlying143 (by decide) (keyOf_int_mk underlying3 (by decide)) (plainElem_int underlying3 (by decide))
 replace hSm:Since W1 m6:=hSm.grown hgrow hSm.size (fun j hj=>by cases hj;exact hB)
 clear hgrow;have y0:=K0.out _ hSm;obtain⟨c,hrun7,hat,hwc⟩:=hown.lookup_int (int_keyed underlying3) underlying143 underlying3 (by kernel_rfl) (key:=.int .i64 2) (keyOf_int_mk underlying3 (by decide));obtain rfl:(7:Int)=c:=by
  have e:DataW.lit (H:=Unit) (Lit.int .i64 7)= .lit (.int .i64 c):=hat;cases e;rfl
 clear hat hwc;exact A3C
set_option maxHeartbeats 2000000 in
theorem A4b(x:Cd)(h0:0≤x.i)(h1:x.i<4294967296)(hd: -1≤x.d∧x.d≤3)(ha: -1≤x.a∧x.a≤3)(hb: -1≤x.b∧x.b≤3)(HO:x.o=3)(hall:J4 ([⟨0,0,rg1 x.a,32,0⟩,⟨10,0,rg1 x.b,32,0⟩,⟨0,rg1 x.d,0,32,0⟩]))(w:World):Calls prog 278 #[.agg #[],ncV x] w fun e w'=>∃u,e= .returned u∧RowI w' w.heap.size 5 .u8 u (E8 ([⟨0,0,rg1 x.a,32,0⟩,⟨10,0,rg1 x.b,32,0⟩,⟨0,rg1 x.d,0,32,0⟩]))∧Below w.heap.size w w':=by
 obtain⟨o,d,a,b,i,t⟩:=x;show Calls prog 278 #[.agg #[],.agg #[.int .i64 o,.int .i64 d,.int .i64 a,.int .i64 b,.int .u32 i,.int .i64 t]] w _
 simp only at h0 h1 hd ha hb HO;obtain⟨hb1,k1⟩:=B9 (w.alloc (.cells #[] 189)) [.int .i64 o,.int .i64 d,.int .i64 a,.int .i64 b,.int .u32 i,.int .i64 t] 61;have hb0:Below w.heap.size w (w.alloc (.cells #[] 189)):=(Below.refl _ _).alloc (Nat.le_refl _) _;obtain⟨W1,hW1⟩:∃W,(w.alloc (.cells #[] 189)).alloc (.cells #[.int .i64 o,.int .i64 d,.int .i64 a,.int .i64 b,.int .u32 i,.int .i64 t] 61)=W:=⟨_,rfl⟩
 rw[show([.int .i64 o,.int .i64 d,.int .i64 a,.int .i64 b,.int .u32 i,.int .i64 t]:List Value).toArray=#[.int .i64 o,.int .i64 d,.int .i64 a,.int .i64 b,.int .u32 i,.int .i64 t]from rfl,hW1]at hb1 k1;rw[show(w.alloc (.cells #[] 189)).heap.size=w.heap.size+1 by simp]at k1;have BB:Hid (Since w W1):=hid (A8 hb0 hb1);have x0:=(k1 0 _ rfl).1;have hs:w.heap.size+1<W1.heap.size:=B6 x0;have X0:∀wk,Since W1 wk→wk.cell? ⟨w.heap.size+1,0,none⟩=some (.int .i64 o):=fun wk h=>A7 h hs (k1 0 _ rfl).1
 have X1:∀wk,Since W1 wk→wk.cell? ⟨w.heap.size+1,1,none⟩=some (.int .i64 d):=fun wk h=>A7 h hs (k1 1 _ rfl).1
 have X2:∀wk,Since W1 wk→wk.cell? ⟨w.heap.size+1,2,none⟩=some (.int .i64 a):=fun wk h=>A7 h hs (k1 2 _ rfl).1
 have X3:∀wk,Since W1 wk→wk.cell? ⟨w.heap.size+1,3,none⟩=some (.int .i64 b):=fun wk h=>A7 h hs (k1 3 _ rfl).1
 have X4:∀wk,Since W1 wk→wk.cell? ⟨w.heap.size+1,4,none⟩=some (.int .u32 i):=fun wk h=>A7 h hs (k1 4 _ rfl).1
 have X5:∀wk,Since W1 wk→wk.cell? ⟨w.heap.size+1,5,none⟩=some (.int .i64 t):=fun wk h=>A7 h hs (k1 5 _ rfl).1
 have K0:=hid X0;have K1:=hid X1;have K2:=hid X2;have K3:=hid X3;have K4:=hid X4;have K5:=hid X5;have C1:=hid (C6 d hd);have C2:=hid (C6 a ha);have C3:=hid (C6 b hb);have CT:=hid E2;have h00:=Since.refl W1;subst HO;have hmm:=@run_makeMap prog;generalize rg1 d=rd at*
 generalize rg1 a=ra at*
 generalize rg1 b=rb at*
 have CB:Hid (∀wk,Since W1 wk→Calls prog 282 #[.agg #[],.slice (some ⟨wk.heap.size,0,none⟩) 3 3] (wk.alloc (.cells #[.int .i64 0,.int .i64 0,.int .i64 ra,.int .i64 32,.int .i64 0,.int .i64 10,.int .i64 0,.int .i64 rb,.int .i64 32,.int .i64 0,.int .i64 0,.int .i64 rd,.int .i64 0,.int .i64 32,.int .i64 0] 89)) fun e w'=>∃u,e= .returned u∧RowI w' w.heap.size 5 .u8 u (E8 [⟨0,0,ra,32,0⟩,⟨10,0,rb,32,0⟩,⟨0,rd,0,32,0⟩])∧Below wk.heap.size wk w'):=hid (fun wk h=>(F0 [⟨0,0,ra,32,0⟩,⟨10,0,rb,32,0⟩,⟨0,rd,0,32,0⟩] _ _ (G3 (w:=wk) (xs:=[⟨0,0,ra,32,0⟩,⟨10,0,rb,32,0⟩,⟨0,rd,0,32,0⟩]) (by simp)) hall (by simp)).mono fun e w' ⟨u,h1,h2,h3⟩=>⟨u,h1,World.ownsRow.mono h2 (by have:=h.size;simp;omega),A8 ((Below.refl _ _).alloc (Nat.le_refl _) _) h3⟩);clear k1 x0 hb0 hb1;go_enter func278,ntmps278;go_upto_region 1 with fail
 go_region_held3(fun wk=>Since W1 wk) (first|assumption|exact Since.drew (by assumption)|exact Since.next (by assumption) (by assumption)) ((go_at_call 283;(first|(with_reducible refine(C1.out _).mono ?_;rintro e wa ⟨rfl,hba⟩)|(with_reducible refine(C2.out _).mono ?_;rintro e wb ⟨rfl,hbb⟩)|(with_reducible refine(C3.out _).mono ?_;rintro e wc ⟨rfl,hbc⟩))))
 have hSz:Since W1 wc:=by assumption
 have y0:=K0.out _ hSz;have HZ:=hid hSz;clear hba hbb hbc C1 C2 C3 X0 X1 X2 X3 X4 X5;have hlt:w.heap.size+1<wc.heap.size:=B6 y0;have hB:W1.heap.size≤wc.heap.size:=hSz.size;have hSm:Since W1 (wc.alloc (.map #[] 0)):=Since.next hSz ((Below.refl _ _).alloc (Nat.le_refl _) _)
 have hown:=World.ownsMap_made (H:=Unit) wc prog 3 (plainElem prog 3);have y0:=K0.out _ hSm;obtain⟨m1,hrun1,hown,hgrow⟩:=hown.update (t:=143) (key:=.int .i64 2) (val:=.int .i64 7) (int_keyed underlying3) underlying143 (by decide) (keyOf_int_mk underlying3 (by decide)) (plainElem_int underlying3 (by decide))
 replace hSm:Since W1 m1:=hSm.grown hgrow hSm.size (fun j hj=>by cases hj;exact hB)
 clear hgrow;obtain⟨m2,hrun2,hown,hgrow⟩:=hown.update (t:=143) (key:=.int .i64 3) (val:=.int .i64 10) (int_keyed underlying3) underlying143 (by decide) (keyOf_int_mk underlying3 (by decide)) (plainElem_int underlying3 (by decide))
 replace hSm:Since W1 m2:=hSm.grown hgrow hSm.size (fun j hj=>by cases hj;exact hB)
 clear hgrow;obtain⟨m3,hrun3,hown,hgrow⟩:=hown.update (t:=143) (key:=.int .i64 4) (val:=.int .i64 20) (int_keyed underlying3) underlying143 (by decide) (keyOf_int_mk underlying3 (by decide)) (plainElem_int underlying3 (by decide))
 replace hSm:Since W1 m3:=hSm.grown hgrow hSm.size (fun j hj=>by cases hj;exact hB)
 clear hgrow;obtain⟨m4,hrun4,hown,hgrow⟩:=hown.update (t:=143) (key:=.int .i64 9) (val:=.int .i64 9) (int_keyed underlying3) underlying143 (by decide) (keyOf_int_mk underlying3 (by decide)) (plainElem_int underlying3 (by decide))
 replace hSm:Since W1 m4:=hSm.grown hgrow hSm.size (fun j hj=>by cases hj;exact hB)
 clear hgrow;obtain⟨m5,hrun5,hown,hgrow⟩:=hown.update (t:=143) (key:=.int .i64 10) (val:=.int .i64 8) (int_keyed underlying3) underlying143 (by decide) (keyOf_int_mk underlying3 (by decide)) (plainElem_int underlying3 (by decide))
 replace hSm:Since W1 m5:=hSm.grown hgrow hSm.size (fun j hj=>by cases hj;exact hB)
 clear hgrow;obtain⟨m6,hrun6,hown,hgrow⟩:=hown.update (t:=143) (key:=.int .i64 11) (val:=.int .i64 11) (int_keyed underlying3) underlying143 (by decide) (keyOf_int_mk underlying3 (by decide)) (plainElem_int underlying3 (by decide))
 replace hSm:Since W1 m6:=hSm.grown hgrow hSm.size (fun j hj=>by cases hj;exact hB)
 clear hgrow;have y0:=K0.out _ hSm;obtain⟨c,hrun7,hat,hwc⟩:=hown.lookup_int (int_keyed underlying3) underlying143 underlying3 (by kernel_rfl) (key:=.int .i64 3) (keyOf_int_mk underlying3 (by decide));obtain rfl:(10:Int)=c:=by
  have e:DataW.lit (H:=Unit) (Lit.int .i64 10)= .lit (.int .i64 c):=hat;cases e;rfl
 clear hat hwc;exact A3C
set_option maxHeartbeats 2000000 in
theorem A4a(x:Cd)(h0:0≤x.i)(h1:x.i<4294967296)(hd: -1≤x.d∧x.d≤3)(ha: -1≤x.a∧x.a≤3)(hb: -1≤x.b∧x.b≤3)(HO:x.o=4)(hall:J4 ([⟨0,0,rg1 x.a,32,0⟩,⟨20,0,rg1 x.b,32,0⟩,⟨0,rg1 x.d,0,32,0⟩]))(w:World):Calls prog 278 #[.agg #[],ncV x] w fun e w'=>∃u,e= .returned u∧RowI w' w.heap.size 5 .u8 u (E8 ([⟨0,0,rg1 x.a,32,0⟩,⟨20,0,rg1 x.b,32,0⟩,⟨0,rg1 x.d,0,32,0⟩]))∧Below w.heap.size w w':=by
 obtain⟨o,d,a,b,i,t⟩:=x;show Calls prog 278 #[.agg #[],.agg #[.int .i64 o,.int .i64 d,.int .i64 a,.int .i64 b,.int .u32 i,.int .i64 t]] w _
 simp only at h0 h1 hd ha hb HO;obtain⟨hb1,k1⟩:=B9 (w.alloc (.cells #[] 189)) [.int .i64 o,.int .i64 d,.int .i64 a,.int .i64 b,.int .u32 i,.int .i64 t] 61;have hb0:Below w.heap.size w (w.alloc (.cells #[] 189)):=(Below.refl _ _).alloc (Nat.le_refl _) _;obtain⟨W1,hW1⟩:∃W,(w.alloc (.cells #[] 189)).alloc (.cells #[.int .i64 o,.int .i64 d,.int .i64 a,.int .i64 b,.int .u32 i,.int .i64 t] 61)=W:=⟨_,rfl⟩
 rw[show([.int .i64 o,.int .i64 d,.int .i64 a,.int .i64 b,.int .u32 i,.int .i64 t]:List Value).toArray=#[.int .i64 o,.int .i64 d,.int .i64 a,.int .i64 b,.int .u32 i,.int .i64 t]from rfl,hW1]at hb1 k1;rw[show(w.alloc (.cells #[] 189)).heap.size=w.heap.size+1 by simp]at k1;have BB:Hid (Since w W1):=hid (A8 hb0 hb1);have x0:=(k1 0 _ rfl).1;have hs:w.heap.size+1<W1.heap.size:=B6 x0;have X0:∀wk,Since W1 wk→wk.cell? ⟨w.heap.size+1,0,none⟩=some (.int .i64 o):=fun wk h=>A7 h hs (k1 0 _ rfl).1
 have X1:∀wk,Since W1 wk→wk.cell? ⟨w.heap.size+1,1,none⟩=some (.int .i64 d):=fun wk h=>A7 h hs (k1 1 _ rfl).1
 have X2:∀wk,Since W1 wk→wk.cell? ⟨w.heap.size+1,2,none⟩=some (.int .i64 a):=fun wk h=>A7 h hs (k1 2 _ rfl).1
 have X3:∀wk,Since W1 wk→wk.cell? ⟨w.heap.size+1,3,none⟩=some (.int .i64 b):=fun wk h=>A7 h hs (k1 3 _ rfl).1
 have X4:∀wk,Since W1 wk→wk.cell? ⟨w.heap.size+1,4,none⟩=some (.int .u32 i):=fun wk h=>A7 h hs (k1 4 _ rfl).1
 have X5:∀wk,Since W1 wk→wk.cell? ⟨w.heap.size+1,5,none⟩=some (.int .i64 t):=fun wk h=>A7 h hs (k1 5 _ rfl).1
 have K0:=hid X0;have K1:=hid X1;have K2:=hid X2;have K3:=hid X3;have K4:=hid X4;have K5:=hid X5;have C1:=hid (C6 d hd);have C2:=hid (C6 a ha);have C3:=hid (C6 b hb);have CT:=hid E2;have h00:=Since.refl W1;subst HO;have hmm:=@run_makeMap prog;generalize rg1 d=rd at*
 generalize rg1 a=ra at*
 generalize rg1 b=rb at*
 have CB:Hid (∀wk,Since W1 wk→Calls prog 282 #[.agg #[],.slice (some ⟨wk.heap.size,0,none⟩) 3 3] (wk.alloc (.cells #[.int .i64 0,.int .i64 0,.int .i64 ra,.int .i64 32,.int .i64 0,.int .i64 20,.int .i64 0,.int .i64 rb,.int .i64 32,.int .i64 0,.int .i64 0,.int .i64 rd,.int .i64 0,.int .i64 32,.int .i64 0] 89)) fun e w'=>∃u,e= .returned u∧RowI w' w.heap.size 5 .u8 u (E8 [⟨0,0,ra,32,0⟩,⟨20,0,rb,32,0⟩,⟨0,rd,0,32,0⟩])∧Below wk.heap.size wk w'):=hid (fun wk h=>(F0 [⟨0,0,ra,32,0⟩,⟨20,0,rb,32,0⟩,⟨0,rd,0,32,0⟩] _ _ (G3 (w:=wk) (xs:=[⟨0,0,ra,32,0⟩,⟨20,0,rb,32,0⟩,⟨0,rd,0,32,0⟩]) (by simp)) hall (by simp)).mono fun e w' ⟨u,h1,h2,h3⟩=>⟨u,h1,World.ownsRow.mono h2 (by have:=h.size;simp;omega),A8 ((Below.refl _ _).alloc (Nat.le_refl _) _) h3⟩);clear k1 x0 hb0 hb1;go_enter func278,ntmps278;go_upto_region 1 with fail
 go_region_held3(fun wk=>Since W1 wk) (first|assumption|exact Since.drew (by assumption)|exact Since.next (by assumption) (by assumption)) ((go_at_call 283;(first|(with_reducible refine(C1.out _).mono ?_;rintro e wa ⟨rfl,hba⟩)|(with_reducible refine(C2.out _).mono ?_;rintro e wb ⟨rfl,hbb⟩)|(with_reducible refine(C3.out _).mono ?_;rintro e wc ⟨rfl,hbc⟩))))
 have hSz:Since W1 wc:=by assumption
 have y0:=K0.out _ hSz;have HZ:=hid hSz;clear hba hbb hbc C1 C2 C3 X0 X1 X2 X3 X4 X5;have hlt:w.heap.size+1<wc.heap.size:=B6 y0;have hB:W1.heap.size≤wc.heap.size:=hSz.size;have hSm:Since W1 (wc.alloc (.map #[] 0)):=Since.next hSz ((Below.refl _ _).alloc (Nat.le_refl _) _)
 have hown:=World.ownsMap_made (H:=Unit) wc prog 3 (plainElem prog 3);have y0:=K0.out _ hSm;obtain⟨m1,hrun1,hown,hgrow⟩:=hown.update (t:=143) (key:=.int .i64 2) (val:=.int .i64 7) (int_keyed underlying3) underlying143 (by decide) (keyOf_int_mk underlying3 (by decide)) (plainElem_int underlying3 (by decide))
 replace hSm:Since W1 m1:=hSm.grown hgrow hSm.size (fun j hj=>by cases hj;exact hB)
 clear hgrow;obtain⟨m2,hrun2,hown,hgrow⟩:=hown.update (t:=143) (key:=.int .i64 3) (val:=.int .i64 10) (int_keyed underlying3) underlying143 (by decide) (keyOf_int_mk underlying3 (by decide)) (plainElem_int underlying3 (by decide))
 replace hSm:Since W1 m2:=hSm.grown hgrow hSm.size (fun j hj=>by cases hj;exact hB)
 clear hgrow;obtain⟨m3,hrun3,hown,hgrow⟩:=hown.update (t:=143) (key:=.int .i64 4) (val:=.int .i64 20) (int_keyed underlying3) underlying143 (by decide) (keyOf_int_mk underlying3 (by decide)) (plainElem_int underlying3 (by decide))
 replace hSm:Since W1 m3:=hSm.grown hgrow hSm.size (fun j hj=>by cases hj;exact hB)
 clear hgrow;obtain⟨m4,hrun4,hown,hgrow⟩:=hown.update (t:=143) (key:=.int .i64 9) (val:=.int .i64 9) (int_keyed underlying3) underlying143 (by decide) (keyOf_int_mk underlying3 (by decide)) (plainElem_int underlying3 (by decide))
 replace hSm:Since W1 m4:=hSm.grown hgrow hSm.size (fun j hj=>by cases hj;exact hB)
 clear hgrow;obtain⟨m5,hrun5,hown,hgrow⟩:=hown.update (t:=143) (key:=.int .i64 10) (val:=.int .i64 8) (int_keyed underlying3) underlying143 (by decide) (keyOf_int_mk underlying3 (by decide)) (plainElem_int underlying3 (by decide))
 replace hSm:Since W1 m5:=hSm.grown hgrow hSm.size (fun j hj=>by cases hj;exact hB)
 clear hgrow;obtain⟨m6,hrun6,hown,hgrow⟩:=hown.update (t:=143) (key:=.int .i64 11) (val:=.int .i64 11) (int_keyed underlying3) underlying143 (by decide) (keyOf_int_mk underlying3 (by decide)) (plainElem_int underlying3 (by decide))
 replace hSm:Since W1 m6:=hSm.grown hgrow hSm.size (fun j hj=>by cases hj;exact hB)
 clear hgrow;have y0:=K0.out _ hSm;obtain⟨c,hrun7,hat,hwc⟩:=hown.lookup_int (int_keyed underlying3) underlying143 underlying3 (by kernel_rfl) (key:=.int .i64 4) (keyOf_int_mk underlying3 (by decide));obtain rfl:(20:Int)=c:=by
  have e:DataW.lit (H:=Unit) (Lit.int .i64 20)= .lit (.int .i64 c):=hat;cases e;rfl
 clear hat hwc;exact A3C
set_option maxHeartbeats 2000000 in
theorem A4Y(x:Cd)(h0:0≤x.i)(h1:x.i<4294967296)(hd: -1≤x.d∧x.d≤3)(ha: -1≤x.a∧x.a≤3)(hb: -1≤x.b∧x.b≤3)(HO:x.o=9)(hall:J4 ([⟨0,0,rg1 x.a,32,0⟩,⟨9,0,rg1 x.b,32,0⟩,⟨0,rg1 x.d,0,32,0⟩]))(w:World):Calls prog 278 #[.agg #[],ncV x] w fun e w'=>∃u,e= .returned u∧RowI w' w.heap.size 5 .u8 u (E8 ([⟨0,0,rg1 x.a,32,0⟩,⟨9,0,rg1 x.b,32,0⟩,⟨0,rg1 x.d,0,32,0⟩]))∧Below w.heap.size w w':=by
 obtain⟨o,d,a,b,i,t⟩:=x;show Calls prog 278 #[.agg #[],.agg #[.int .i64 o,.int .i64 d,.int .i64 a,.int .i64 b,.int .u32 i,.int .i64 t]] w _
 simp only at h0 h1 hd ha hb HO;obtain⟨hb1,k1⟩:=B9 (w.alloc (.cells #[] 189)) [.int .i64 o,.int .i64 d,.int .i64 a,.int .i64 b,.int .u32 i,.int .i64 t] 61;have hb0:Below w.heap.size w (w.alloc (.cells #[] 189)):=(Below.refl _ _).alloc (Nat.le_refl _) _;obtain⟨W1,hW1⟩:∃W,(w.alloc (.cells #[] 189)).alloc (.cells #[.int .i64 o,.int .i64 d,.int .i64 a,.int .i64 b,.int .u32 i,.int .i64 t] 61)=W:=⟨_,rfl⟩
 rw[show([.int .i64 o,.int .i64 d,.int .i64 a,.int .i64 b,.int .u32 i,.int .i64 t]:List Value).toArray=#[.int .i64 o,.int .i64 d,.int .i64 a,.int .i64 b,.int .u32 i,.int .i64 t]from rfl,hW1]at hb1 k1;rw[show(w.alloc (.cells #[] 189)).heap.size=w.heap.size+1 by simp]at k1;have BB:Hid (Since w W1):=hid (A8 hb0 hb1);have x0:=(k1 0 _ rfl).1;have hs:w.heap.size+1<W1.heap.size:=B6 x0;have X0:∀wk,Since W1 wk→wk.cell? ⟨w.heap.size+1,0,none⟩=some (.int .i64 o):=fun wk h=>A7 h hs (k1 0 _ rfl).1
 have X1:∀wk,Since W1 wk→wk.cell? ⟨w.heap.size+1,1,none⟩=some (.int .i64 d):=fun wk h=>A7 h hs (k1 1 _ rfl).1
 have X2:∀wk,Since W1 wk→wk.cell? ⟨w.heap.size+1,2,none⟩=some (.int .i64 a):=fun wk h=>A7 h hs (k1 2 _ rfl).1
 have X3:∀wk,Since W1 wk→wk.cell? ⟨w.heap.size+1,3,none⟩=some (.int .i64 b):=fun wk h=>A7 h hs (k1 3 _ rfl).1
 have X4:∀wk,Since W1 wk→wk.cell? ⟨w.heap.size+1,4,none⟩=some (.int .u32 i):=fun wk h=>A7 h hs (k1 4 _ rfl).1
 have X5:∀wk,Since W1 wk→wk.cell? ⟨w.heap.size+1,5,none⟩=some (.int .i64 t):=fun wk h=>A7 h hs (k1 5 _ rfl).1
 have K0:=hid X0;have K1:=hid X1;have K2:=hid X2;have K3:=hid X3;have K4:=hid X4;have K5:=hid X5;have C1:=hid (C6 d hd);have C2:=hid (C6 a ha);have C3:=hid (C6 b hb);have CT:=hid E2;have h00:=Since.refl W1;subst HO;have hmm:=@run_makeMap prog;generalize rg1 d=rd at*
 generalize rg1 a=ra at*
 generalize rg1 b=rb at*
 have CB:Hid (∀wk,Since W1 wk→Calls prog 282 #[.agg #[],.slice (some ⟨wk.heap.size,0,none⟩) 3 3] (wk.alloc (.cells #[.int .i64 0,.int .i64 0,.int .i64 ra,.int .i64 32,.int .i64 0,.int .i64 9,.int .i64 0,.int .i64 rb,.int .i64 32,.int .i64 0,.int .i64 0,.int .i64 rd,.int .i64 0,.int .i64 32,.int .i64 0] 89)) fun e w'=>∃u,e= .returned u∧RowI w' w.heap.size 5 .u8 u (E8 [⟨0,0,ra,32,0⟩,⟨9,0,rb,32,0⟩,⟨0,rd,0,32,0⟩])∧Below wk.heap.size wk w'):=hid (fun wk h=>(F0 [⟨0,0,ra,32,0⟩,⟨9,0,rb,32,0⟩,⟨0,rd,0,32,0⟩] _ _ (G3 (w:=wk) (xs:=[⟨0,0,ra,32,0⟩,⟨9,0,rb,32,0⟩,⟨0,rd,0,32,0⟩]) (by simp)) hall (by simp)).mono fun e w' ⟨u,h1,h2,h3⟩=>⟨u,h1,World.ownsRow.mono h2 (by have:=h.size;simp;omega),A8 ((Below.refl _ _).alloc (Nat.le_refl _) _) h3⟩);clear k1 x0 hb0 hb1;go_enter func278,ntmps278;go_upto_region 1 with fail
 go_region_held3(fun wk=>Since W1 wk) (first|assumption|exact Since.drew (by assumption)|exact Since.next (by assumption) (by assumption)) ((go_at_call 283;(first|(with_reducible refine(C1.out _).mono ?_;rintro e wa ⟨rfl,hba⟩)|(with_reducible refine(C2.out _).mono ?_;rintro e wb ⟨rfl,hbb⟩)|(with_reducible refine(C3.out _).mono ?_;rintro e wc ⟨rfl,hbc⟩))))
 have hSz:Since W1 wc:=by assumption
 have y0:=K0.out _ hSz;have HZ:=hid hSz;clear hba hbb hbc C1 C2 C3 X0 X1 X2 X3 X4 X5;have hlt:w.heap.size+1<wc.heap.size:=B6 y0;have hB:W1.heap.size≤wc.heap.size:=hSz.size;have hSm:Since W1 (wc.alloc (.map #[] 0)):=Since.next hSz ((Below.refl _ _).alloc (Nat.le_refl _) _)
 have hown:=World.ownsMap_made (H:=Unit) wc prog 3 (plainElem prog 3);have y0:=K0.out _ hSm;obtain⟨m1,hrun1,hown,hgrow⟩:=hown.update (t:=143) (key:=.int .i64 2) (val:=.int .i64 7) (int_keyed underlying3) underlying143 (by decide) (keyOf_int_mk underlying3 (by decide)) (plainElem_int underlying3 (by decide))
 replace hSm:Since W1 m1:=hSm.grown hgrow hSm.size (fun j hj=>by cases hj;exact hB)
 clear hgrow;obtain⟨m2,hrun2,hown,hgrow⟩:=hown.update (t:=143) (key:=.int .i64 3) (val:=.int .i64 10) (int_keyed underlying3) underlying143 (by decide) (keyOf_int_mk underlying3 (by decide)) (plainElem_int underlying3 (by decide))
 replace hSm:Since W1 m2:=hSm.grown hgrow hSm.size (fun j hj=>by cases hj;exact hB)
 clear hgrow;obtain⟨m3,hrun3,hown,hgrow⟩:=hown.update (t:=143) (key:=.int .i64 4) (val:=.int .i64 20) (int_keyed underlying3) underlying143 (by decide) (keyOf_int_mk underlying3 (by decide)) (plainElem_int underlying3 (by decide))
 replace hSm:Since W1 m3:=hSm.grown hgrow hSm.size (fun j hj=>by cases hj;exact hB)
 clear hgrow;obtain⟨m4,hrun4,hown,hgrow⟩:=hown.update (t:=143) (key:=.int .i64 9) (val:=.int .i64 9) (int_keyed underlying3) underlying143 (by decide) (keyOf_int_mk underlying3 (by decide)) (plainElem_int underlying3 (by decide))
 replace hSm:Since W1 m4:=hSm.grown hgrow hSm.size (fun j hj=>by cases hj;exact hB)
 clear hgrow;obtain⟨m5,hrun5,hown,hgrow⟩:=hown.update (t:=143) (key:=.int .i64 10) (val:=.int .i64 8) (int_keyed underlying3) underlying143 (by decide) (keyOf_int_mk underlying3 (by decide)) (plainElem_int underlying3 (by decide))
 replace hSm:Since W1 m5:=hSm.grown hgrow hSm.size (fun j hj=>by cases hj;exact hB)
 clear hgrow;obtain⟨m6,hrun6,hown,hgrow⟩:=hown.update (t:=143) (key:=.int .i64 11) (val:=.int .i64 11) (int_keyed underlying3) underlying143 (by decide) (keyOf_int_mk underlying3 (by decide)) (plainElem_int underlying3 (by decide))
 replace hSm:Since W1 m6:=hSm.grown hgrow hSm.size (fun j hj=>by cases hj;exact hB)
 clear hgrow;have y0:=K0.out _ hSm;obtain⟨c,hrun7,hat,hwc⟩:=hown.lookup_int (int_keyed underlying3) underlying143 underlying3 (by kernel_rfl) (key:=.int .i64 9) (keyOf_int_mk underlying3 (by decide));obtain rfl:(9:Int)=c:=by
  have e:DataW.lit (H:=Unit) (Lit.int .i64 9)= .lit (.int .i64 c):=hat;cases e;rfl
 clear hat hwc;exact A3C
set_option maxHeartbeats 2000000 in
theorem A3Q(x:Cd)(h0:0≤x.i)(h1:x.i<4294967296)(hd: -1≤x.d∧x.d≤3)(ha: -1≤x.a∧x.a≤3)(hb: -1≤x.b∧x.b≤3)(HO:x.o=10)(hall:J4 ([⟨0,0,rg1 x.a,32,0⟩,⟨8,0,rg1 x.b,32,0⟩,⟨0,rg1 x.d,0,32,0⟩]))(w:World):Calls prog 278 #[.agg #[],ncV x] w fun e w'=>∃u,e= .returned u∧RowI w' w.heap.size 5 .u8 u (E8 ([⟨0,0,rg1 x.a,32,0⟩,⟨8,0,rg1 x.b,32,0⟩,⟨0,rg1 x.d,0,32,0⟩]))∧Below w.heap.size w w':=by
 obtain⟨o,d,a,b,i,t⟩:=x;show Calls prog 278 #[.agg #[],.agg #[.int .i64 o,.int .i64 d,.int .i64 a,.int .i64 b,.int .u32 i,.int .i64 t]] w _
 simp only at h0 h1 hd ha hb HO;obtain⟨hb1,k1⟩:=B9 (w.alloc (.cells #[] 189)) [.int .i64 o,.int .i64 d,.int .i64 a,.int .i64 b,.int .u32 i,.int .i64 t] 61;have hb0:Below w.heap.size w (w.alloc (.cells #[] 189)):=(Below.refl _ _).alloc (Nat.le_refl _) _;obtain⟨W1,hW1⟩:∃W,(w.alloc (.cells #[] 189)).alloc (.cells #[.int .i64 o,.int .i64 d,.int .i64 a,.int .i64 b,.int .u32 i,.int .i64 t] 61)=W:=⟨_,rfl⟩
 rw[show([.int .i64 o,.int .i64 d,.int .i64 a,.int .i64 b,.int .u32 i,.int .i64 t]:List Value).toArray=#[.int .i64 o,.int .i64 d,.int .i64 a,.int .i64 b,.int .u32 i,.int .i64 t]from rfl,hW1]at hb1 k1;rw[show(w.alloc (.cells #[] 189)).heap.size=w.heap.size+1 by simp]at k1;have BB:Hid (Since w W1):=hid (A8 hb0 hb1);have x0:=(k1 0 _ rfl).1;have hs:w.heap.size+1<W1.heap.size:=B6 x0;have X0:∀wk,Since W1 wk→wk.cell? ⟨w.heap.size+1,0,none⟩=some (.int .i64 o):=fun wk h=>A7 h hs (k1 0 _ rfl).1
 have X1:∀wk,Since W1 wk→wk.cell? ⟨w.heap.size+1,1,none⟩=some (.int .i64 d):=fun wk h=>A7 h hs (k1 1 _ rfl).1
 have X2:∀wk,Since W1 wk→wk.cell? ⟨w.heap.size+1,2,none⟩=some (.int .i64 a):=fun wk h=>A7 h hs (k1 2 _ rfl).1
 have X3:∀wk,Since W1 wk→wk.cell? ⟨w.heap.size+1,3,none⟩=some (.int .i64 b):=fun wk h=>A7 h hs (k1 3 _ rfl).1
 have X4:∀wk,Since W1 wk→wk.cell? ⟨w.heap.size+1,4,none⟩=some (.int .u32 i):=fun wk h=>A7 h hs (k1 4 _ rfl).1
 have X5:∀wk,Since W1 wk→wk.cell? ⟨w.heap.size+1,5,none⟩=some (.int .i64 t):=fun wk h=>A7 h hs (k1 5 _ rfl).1
 have K0:=hid X0;have K1:=hid X1;have K2:=hid X2;have K3:=hid X3;have K4:=hid X4;have K5:=hid X5;have C1:=hid (C6 d hd);have C2:=hid (C6 a ha);have C3:=hid (C6 b hb);have CT:=hid E2;have h00:=Since.refl W1;subst HO;have hmm:=@run_makeMap prog;generalize rg1 d=rd at*
 generalize rg1 a=ra at*
 generalize rg1 b=rb at*
 have CB:Hid (∀wk,Since W1 wk→Calls prog 282 #[.agg #[],.slice (some ⟨wk.heap.size,0,none⟩) 3 3] (wk.alloc (.cells #[.int .i64 0,.int .i64 0,.int .i64 ra,.int .i64 32,.int .i64 0,.int .i64 8,.int .i64 0,.int .i64 rb,.int .i64 32,.int .i64 0,.int .i64 0,.int .i64 rd,.int .i64 0,.int .i64 32,.int .i64 0] 89)) fun e w'=>∃u,e= .returned u∧RowI w' w.heap.size 5 .u8 u (E8 [⟨0,0,ra,32,0⟩,⟨8,0,rb,32,0⟩,⟨0,rd,0,32,0⟩])∧Below wk.heap.size wk w'):=hid (fun wk h=>(F0 [⟨0,0,ra,32,0⟩,⟨8,0,rb,32,0⟩,⟨0,rd,0,32,0⟩] _ _ (G3 (w:=wk) (xs:=[⟨0,0,ra,32,0⟩,⟨8,0,rb,32,0⟩,⟨0,rd,0,32,0⟩]) (by simp)) hall (by simp)).mono fun e w' ⟨u,h1,h2,h3⟩=>⟨u,h1,World.ownsRow.mono h2 (by have:=h.size;simp;omega),A8 ((Below.refl _ _).alloc (Nat.le_refl _) _) h3⟩);clear k1 x0 hb0 hb1;go_enter func278,ntmps278;go_upto_region 1 with fail
 go_region_held3(fun wk=>Since W1 wk) (first|assumption|exact Since.drew (by assumption)|exact Since.next (by assumption) (by assumption)) ((go_at_call 283;(first|(with_reducible refine(C1.out _).mono ?_;rintro e wa ⟨rfl,hba⟩)|(with_reducible refine(C2.out _).mono ?_;rintro e wb ⟨rfl,hbb⟩)|(with_reducible refine(C3.out _).mono ?_;rintro e wc ⟨rfl,hbc⟩))))
 have hSz:Since W1 wc:=by assumption
 have y0:=K0.out _ hSz;have HZ:=hid hSz;clear hba hbb hbc C1 C2 C3 X0 X1 X2 X3 X4 X5;have hlt:w.heap.size+1<wc.heap.size:=B6 y0;have hB:W1.heap.size≤wc.heap.size:=hSz.size;have hSm:Since W1 (wc.alloc (.map #[] 0)):=Since.next hSz ((Below.refl _ _).alloc (Nat.le_refl _) _)
 have hown:=World.ownsMap_made (H:=Unit) wc prog 3 (plainElem prog 3);have y0:=K0.out _ hSm;obtain⟨m1,hrun1,hown,hgrow⟩:=hown.update (t:=143) (key:=.int .i64 2) (val:=.int .i64 7) (int_keyed underlying3) underlying143 (by decide) (keyOf_int_mk underlying3 (by decide)) (plainElem_int underlying3 (by decide))
 replace hSm:Since W1 m1:=hSm.grown hgrow hSm.size (fun j hj=>by cases hj;exact hB)
 clear hgrow;obtain⟨m2,hrun2,hown,hgrow⟩:=hown.update (t:=143) (key:=.int .i64 3) (val:=.int .i64 10) (int_keyed underlying3) underlying143 (by decide) (keyOf_int_mk underlying3 (by decide)) (plainElem_int underlying3 (by decide))
 replace hSm:Since W1 m2:=hSm.grown hgrow hSm.size (fun j hj=>by cases hj;exact hB)
 clear hgrow;obtain⟨m3,hrun3,hown,hgrow⟩:=hown.update (t:=143) (key:=.int .i64 4) (val:=.int .i64 20) (int_keyed underlying3) underlying143 (by decide) (keyOf_int_mk underlying3 (by decide)) (plainElem_int underlying3 (by decide))
 replace hSm:Since W1 m3:=hSm.grown hgrow hSm.size (fun j hj=>by cases hj;exact hB)
 clear hgrow;obtain⟨m4,hrun4,hown,hgrow⟩:=hown.update (t:=143) (key:=.int .i64 9) (val:=.int .i64 9) (int_keyed underlying3) underlying143 (by decide) (keyOf_int_mk underlying3 (by decide)) (plainElem_int underlying3 (by decide))
 replace hSm:Since W1 m4:=hSm.grown hgrow hSm.size (fun j hj=>by cases hj;exact hB)
 clear hgrow;obtain⟨m5,hrun5,hown,hgrow⟩:=hown.update (t:=143) (key:=.int .i64 10) (val:=.int .i64 8) (int_keyed underlying3) underlying143 (by decide) (keyOf_int_mk underlying3 (by decide)) (plainElem_int underlying3 (by decide))
 replace hSm:Since W1 m5:=hSm.grown hgrow hSm.size (fun j hj=>by cases hj;exact hB)
 clear hgrow;obtain⟨m6,hrun6,hown,hgrow⟩:=hown.update (t:=143) (key:=.int .i64 11) (val:=.int .i64 11) (int_keyed underlying3) underlying143 (by decide) (keyOf_int_mk underlying3 (by decide)) (plainElem_int underlying3 (by decide))
 replace hSm:Since W1 m6:=hSm.grown hgrow hSm.size (fun j hj=>by cases hj;exact hB)
 clear hgrow;have y0:=K0.out _ hSm;obtain⟨c,hrun7,hat,hwc⟩:=hown.lookup_int (int_keyed underlying3) underlying143 underlying3 (by kernel_rfl) (key:=.int .i64 10) (keyOf_int_mk underlying3 (by decide));obtain rfl:(8:Int)=c:=by
  have e:DataW.lit (H:=Unit) (Lit.int .i64 8)= .lit (.int .i64 c):=hat;cases e;rfl
 clear hat hwc;exact A3C
set_option maxHeartbeats 2000000 in
theorem A3P(x:Cd)(h0:0≤x.i)(h1:x.i<4294967296)(hd: -1≤x.d∧x.d≤3)(ha: -1≤x.a∧x.a≤3)(hb: -1≤x.b∧x.b≤3)(HO:x.o=11)(hall:J4 ([⟨0,0,rg1 x.a,32,0⟩,⟨11,0,rg1 x.b,32,0⟩,⟨0,rg1 x.d,0,32,0⟩]))(w:World):Calls prog 278 #[.agg #[],ncV x] w fun e w'=>∃u,e= .returned u∧RowI w' w.heap.size 5 .u8 u (E8 ([⟨0,0,rg1 x.a,32,0⟩,⟨11,0,rg1 x.b,32,0⟩,⟨0,rg1 x.d,0,32,0⟩]))∧Below w.heap.size w w':=by
 obtain⟨o,d,a,b,i,t⟩:=x;show Calls prog 278 #[.agg #[],.agg #[.int .i64 o,.int .i64 d,.int .i64 a,.int .i64 b,.int .u32 i,.int .i64 t]] w _
 simp only at h0 h1 hd ha hb HO;obtain⟨hb1,k1⟩:=B9 (w.alloc (.cells #[] 189)) [.int .i64 o,.int .i64 d,.int .i64 a,.int .i64 b,.int .u32 i,.int .i64 t] 61;have hb0:Below w.heap.size w (w.alloc (.cells #[] 189)):=(Below.refl _ _).alloc (Nat.le_refl _) _;obtain⟨W1,hW1⟩:∃W,(w.alloc (.cells #[] 189)).alloc (.cells #[.int .i64 o,.int .i64 d,.int .i64 a,.int .i64 b,.int .u32 i,.int .i64 t] 61)=W:=⟨_,rfl⟩
 rw[show([.int .i64 o,.int .i64 d,.int .i64 a,.int .i64 b,.int .u32 i,.int .i64 t]:List Value).toArray=#[.int .i64 o,.int .i64 d,.int .i64 a,.int .i64 b,.int .u32 i,.int .i64 t]from rfl,hW1]at hb1 k1;rw[show(w.alloc (.cells #[] 189)).heap.size=w.heap.size+1 by simp]at k1;have BB:Hid (Since w W1):=hid (A8 hb0 hb1);have x0:=(k1 0 _ rfl).1;have hs:w.heap.size+1<W1.heap.size:=B6 x0;have X0:∀wk,Since W1 wk→wk.cell? ⟨w.heap.size+1,0,none⟩=some (.int .i64 o):=fun wk h=>A7 h hs (k1 0 _ rfl).1
 have X1:∀wk,Since W1 wk→wk.cell? ⟨w.heap.size+1,1,none⟩=some (.int .i64 d):=fun wk h=>A7 h hs (k1 1 _ rfl).1
 have X2:∀wk,Since W1 wk→wk.cell? ⟨w.heap.size+1,2,none⟩=some (.int .i64 a):=fun wk h=>A7 h hs (k1 2 _ rfl).1
 have X3:∀wk,Since W1 wk→wk.cell? ⟨w.heap.size+1,3,none⟩=some (.int .i64 b):=fun wk h=>A7 h hs (k1 3 _ rfl).1
 have X4:∀wk,Since W1 wk→wk.cell? ⟨w.heap.size+1,4,none⟩=some (.int .u32 i):=fun wk h=>A7 h hs (k1 4 _ rfl).1
 have X5:∀wk,Since W1 wk→wk.cell? ⟨w.heap.size+1,5,none⟩=some (.int .i64 t):=fun wk h=>A7 h hs (k1 5 _ rfl).1
 have K0:=hid X0;have K1:=hid X1;have K2:=hid X2;have K3:=hid X3;have K4:=hid X4;have K5:=hid X5;have C1:=hid (C6 d hd);have C2:=hid (C6 a ha);have C3:=hid (C6 b hb);have CT:=hid E2;have h00:=Since.refl W1;subst HO;have hmm:=@run_makeMap prog;generalize rg1 d=rd at*
 generalize rg1 a=ra at*
 generalize rg1 b=rb at*
 have CB:Hid (∀wk,Since W1 wk→Calls prog 282 #[.agg #[],.slice (some ⟨wk.heap.size,0,none⟩) 3 3] (wk.alloc (.cells #[.int .i64 0,.int .i64 0,.int .i64 ra,.int .i64 32,.int .i64 0,.int .i64 11,.int .i64 0,.int .i64 rb,.int .i64 32,.int .i64 0,.int .i64 0,.int .i64 rd,.int .i64 0,.int .i64 32,.int .i64 0] 89)) fun e w'=>∃u,e= .returned u∧RowI w' w.heap.size 5 .u8 u (E8 [⟨0,0,ra,32,0⟩,⟨11,0,rb,32,0⟩,⟨0,rd,0,32,0⟩])∧Below wk.heap.size wk w'):=hid (fun wk h=>(F0 [⟨0,0,ra,32,0⟩,⟨11,0,rb,32,0⟩,⟨0,rd,0,32,0⟩] _ _ (G3 (w:=wk) (xs:=[⟨0,0,ra,32,0⟩,⟨11,0,rb,32,0⟩,⟨0,rd,0,32,0⟩]) (by simp)) hall (by simp)).mono fun e w' ⟨u,h1,h2,h3⟩=>⟨u,h1,World.ownsRow.mono h2 (by have:=h.size;simp;omega),A8 ((Below.refl _ _).alloc (Nat.le_refl _) _) h3⟩);clear k1 x0 hb0 hb1;go_enter func278,ntmps278;go_upto_region 1 with fail
 go_region_held3(fun wk=>Since W1 wk) (first|assumption|exact Since.drew (by assumption)|exact Since.next (by assumption) (by assumption)) ((go_at_call 283;(first|(with_reducible refine(C1.out _).mono ?_;rintro e wa ⟨rfl,hba⟩)|(with_reducible refine(C2.out _).mono ?_;rintro e wb ⟨rfl,hbb⟩)|(with_reducible refine(C3.out _).mono ?_;rintro e wc ⟨rfl,hbc⟩))))
 have hSz:Since W1 wc:=by assumption
 have y0:=K0.out _ hSz;have HZ:=hid hSz;clear hba hbb hbc C1 C2 C3 X0 X1 X2 X3 X4 X5;have hlt:w.heap.size+1<wc.heap.size:=B6 y0;have hB:W1.heap.size≤wc.heap.size:=hSz.size;have hSm:Since W1 (wc.alloc (.map #[] 0)):=Since.next hSz ((Below.refl _ _).alloc (Nat.le_refl _) _)
 have hown:=World.ownsMap_made (H:=Unit) wc prog 3 (plainElem prog 3);have y0:=K0.out _ hSm;obtain⟨m1,hrun1,hown,hgrow⟩:=hown.update (t:=143) (key:=.int .i64 2) (val:=.int .i64 7) (int_keyed underlying3) underlying143 (by decide) (keyOf_int_mk underlying3 (by decide)) (plainElem_int underlying3 (by decide))
 replace hSm:Since W1 m1:=hSm.grown hgrow hSm.size (fun j hj=>by cases hj;exact hB)
 clear hgrow;obtain⟨m2,hrun2,hown,hgrow⟩:=hown.update (t:=143) (key:=.int .i64 3) (val:=.int .i64 10) (int_keyed underlying3) underlying143 (by decide) (keyOf_int_mk underlying3 (by decide)) (plainElem_int underlying3 (by decide))
 replace hSm:Since W1 m2:=hSm.grown hgrow hSm.size (fun j hj=>by cases hj;exact hB)
 clear hgrow;obtain⟨m3,hrun3,hown,hgrow⟩:=hown.update (t:=143) (key:=.int .i64 4) (val:=.int .i64 20) (int_keyed underlying3) underlying143 (by decide) (keyOf_int_mk underlying3 (by decide)) (plainElem_int underlying3 (by decide))
 replace hSm:Since W1 m3:=hSm.grown hgrow hSm.size (fun j hj=>by cases hj;exact hB)
 clear hgrow;obtain⟨m4,hrun4,hown,hgrow⟩:=hown.update (t:=143) (key:=.int .i64 9) (val:=.int .i64 9) (int_keyed underlying3) underlying143 (by decide) (keyOf_int_mk underlying3 (by decide)) (plainElem_int underlying3 (by decide))
 replace hSm:Since W1 m4:=hSm.grown hgrow hSm.size (fun j hj=>by cases hj;exact hB)
 clear hgrow;obtain⟨m5,hrun5,hown,hgrow⟩:=hown.update (t:=143) (key:=.int .i64 10) (val:=.int .i64 8) (int_keyed underlying3) underlying143 (by decide) (keyOf_int_mk underlying3 (by decide)) (plainElem_int underlying3 (by decide))
 replace hSm:Since W1 m5:=hSm.grown hgrow hSm.size (fun j hj=>by cases hj;exact hB)
 clear hgrow;obtain⟨m6,hrun6,hown,hgrow⟩:=hown.update (t:=143) (key:=.int .i64 11) (val:=.int .i64 11) (int_keyed underlying3) underlying143 (by decide) (keyOf_int_mk underlying3 (by decide)) (plainElem_int underlying3 (by decide))
 replace hSm:Since W1 m6:=hSm.grown hgrow hSm.size (fun j hj=>by cases hj;exact hB)
 clear hgrow;have y0:=K0.out _ hSm;obtain⟨c,hrun7,hat,hwc⟩:=hown.lookup_int (int_keyed underlying3) underlying143 underlying3 (by kernel_rfl) (key:=.int .i64 11) (keyOf_int_mk underlying3 (by decide));obtain rfl:(11:Int)=c:=by
  have e:DataW.lit (H:=Unit) (Lit.int .i64 11)= .lit (.int .i64 c):=hat;cases e;rfl
 clear hat hwc;exact A3C
def op1(o:Int):Int:=if o=2 then 7 else if o=3 then 10 else if o=4 then 20 else if o=9 then 9 else if o=10 then 8 else 11
def cc1(o:Int):Int:=if o=15 then 12 else if o=16 then 2 else 4
def pl1(x:Cd):List Ins:=
 if x.o=0 then[⟨1,rg1 x.d,0,32,x.i⟩]else if x.o=1 then[⟨0,rg1 x.d,rg1 x.a,32,0⟩]
 else if 5≤x.o∧x.o≤8 then dv1 x.o (rg1 x.d) (rg1 x.a) (rg1 x.b)
 else if 12≤x.o∧x.o≤14 then[⟨0,1,rg1 x.b,32,0⟩,⟨0,0,rg1 x.a,32,0⟩,⟨x.o+9,0,0,32,0⟩,⟨0,rg1 x.d,0,32,0⟩]
 else if 15≤x.o∧x.o≤17 then[⟨12,rg1 x.a,rg1 x.b,32,0⟩,⟨29,0,cc1 x.o,32,0⟩,⟨30,rg1 x.d,0,32,0⟩]
 else if 2≤x.o∧x.o≤11 then[⟨0,0,rg1 x.a,32,0⟩,⟨op1 x.o,0,rg1 x.b,32,0⟩,⟨0,rg1 x.d,0,32,0⟩]
 else if 18≤x.o∧x.o≤23 then bs1 x++mm1 x.o (rg1 x.d) (rg1 x.b) (bf1 x) (s32 x.i)
 else if x.o=26 then[⟨34,0,0,32,0⟩]else[⟨35,0,0,32,0⟩]
theorem L1{r:Int}:isR (rg1 r)=true:=by rcases A4P (r:=r)with h|h|h|h<;>rw[h]<;>decide
theorem A8g{r:Int}:isM (rg1 r)=true:=by rcases A4P (r:=r)with h|h|h|h<;>rw[h]<;>decide
theorem M4{o d s:Int}(ho:o=0∨(7≤o∧o≤13)∨o=20)(hd:isR d=true)(hs:isR s=true):okI ⟨o,d,s,32,0⟩=true:=by
 have hz:(szI o).contains 32=true:=by
  unfold szI
  split;decide
  split;decide
  split;decide
  split;decide
  omega
 unfold okI J9;simp only[hz,if_pos ho,hd,hs];rfl
theorem A1n{regs nb:Int}(x:Cd)(h:I9 regs nb x=true)(hr:regs≤4)(h0:0≤x.i)(h1:x.i<4294967296)(hx:x.o≠24∧x.o≠25)(hall:J4 (pl1 x))(w:World):Calls prog 278 #[.agg #[],ncV x] w fun e w'=>∃u,e= .returned u∧RowI w' w.heap.size 5 .u8 u (E8 (pl1 x))∧Below w.heap.size w w':=by
 obtain⟨ho,hd,ha,hb,-⟩:=s2 h;have kd: -1≤x.d∧x.d≤3:=by omega
 have ka: -1≤x.a∧x.a≤3:=by omega
 have kb: -1≤x.b∧x.b≤3:=by omega
 unfold pl1 at hall⊢;by_cases e0:x.o=0
 ·rw[if_pos e0]at hall⊢;exact A4e x h0 h1 kd ka kb e0 hall w
 rw[if_neg e0]at hall⊢;by_cases e1:x.o=1
 ·rw[if_pos e1]at hall⊢;exact A4d x h0 h1 kd ka kb e1 hall w
 rw[if_neg e1]at hall⊢;by_cases e2:5≤x.o∧x.o≤8
 ·rw[if_pos e2]at hall⊢;exact A4Z x h0 h1 kd ka kb e2 hall w
 rw[if_neg e2]at hall⊢;by_cases e3:12≤x.o∧x.o≤14
 ·rw[if_pos e3]at hall⊢;exact A3O x h0 h1 kd ka kb e3 hall w
 rw[if_neg e3]at hall⊢;by_cases e4:15≤x.o∧x.o≤17
 ·rw[if_pos e4]at hall⊢;have e:x.o=15∨x.o=16∨x.o=17:=by omega
  rcases e with e|e|e<;>rw[e]at hall⊢
  ·exact A3N x h0 h1 kd ka kb e hall w
  ·exact A3M x h0 h1 kd ka kb e hall w
  ·exact A3L x h0 h1 kd ka kb e hall w
 rw[if_neg e4]at hall⊢;by_cases e5:2≤x.o∧x.o≤11
 ·rw[if_pos e5]at hall⊢;have e:x.o=2∨x.o=3∨x.o=4∨x.o=9∨x.o=10∨x.o=11:=by omega
  rcases e with e|e|e|e|e|e<;>rw[e]at hall⊢
  ·exact A4c x h0 h1 kd ka kb e hall w
  ·exact A4b x h0 h1 kd ka kb e hall w
  ·exact A4a x h0 h1 kd ka kb e hall w
  ·exact A4Y x h0 h1 kd ka kb e hall w
  ·exact A3Q x h0 h1 kd ka kb e hall w
  ·exact A3P x h0 h1 kd ka kb e hall w
 rw[if_neg e5]at hall⊢;by_cases e6:18≤x.o∧x.o≤23
 ·rw[if_pos e6]at hall⊢;exact A3K x h0 h1 kd ka kb e6 hall w
 rw[if_neg e6]at hall⊢;by_cases e7:x.o=26
 ·rw[if_pos e7]at hall⊢;exact A3J x h0 h1 kd ka kb e7 hall w
 rw[if_neg e7]at hall⊢;exact A3I x h0 h1 kd ka kb (by omega) hall w
end Go.Proofs.YtajljbmeaeeknaaGreat
