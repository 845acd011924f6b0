/- -/
import Derived.Test.YtajljbmeaeeknaaGreatS11
import Derived.Test.YtajljbmeaeeknaaGreatS14
open Go.Proofs.Tryz
open Go.Lib (hid)
set_option maxRecDepth 100000
namespace Go.Proofs.YtajljbmeaeeknaaGreat
open Go.RowKit Go.Maps
set_option linter.unusedVariables false
set_option linter.unusedSimpArgs false
theorem q0z{p:Prop}(h:p:=by
 (go_simp;(go_at_call 284;(with_reducible refine(CT.out _ _ _ _).mono ?_);rintro e wt ⟨rfl,hbt⟩))
 refine hK.out _ _ ?_ (fun hHeld=>?_)
 ·(first|assumption|exact Since.drew (by assumption)|exact Since.next (show Since W1 wt by assumption) h9|exact Since.next (by assumption) hbt|exact Since.next (show Since W1 wt by assumption) ((Below.refl _ _).alloc (Nat.le_refl _) _)|exact Since.next (by assumption) (by assumption))
 clear hK K
 try go_frame
 refine rd1 5 (fun K hK=>?_)
 (go_simp;(go_at_call 284;(with_reducible refine(CT.out _ _ _ _).mono ?_);rintro e wt ⟨rfl,hbt⟩))
 refine hK.out _ _ ?_ (fun hHeld=>?_)
 ·(first|assumption|exact Since.drew (by assumption)|exact Since.next (show Since W1 wt by assumption) h9|exact Since.next (by assumption) hbt|exact Since.next (show Since W1 wt by assumption) ((Below.refl _ _).alloc (Nat.le_refl _) _)|exact Since.next (by assumption) (by assumption))
 clear hK K
 try go_frame
 refine rd1 7 (fun K hK=>?_)
 (go_simp;(go_at_call 284;(with_reducible refine(CT.out _ _ _ _).mono ?_);rintro e wt ⟨rfl,hbt⟩))
 refine hK.out _ _ ?_ (fun hHeld=>?_)
 ·(first|assumption|exact Since.drew (by assumption)|exact Since.next (show Since W1 wt by assumption) h9|exact Since.next (by assumption) hbt|exact Since.next (show Since W1 wt by assumption) ((Below.refl _ _).alloc (Nat.le_refl _) _)|exact Since.next (by assumption) (by assumption))
 clear hK K
 try go_frame
 refine rd1 8 (fun K hK=>?_);go_simp;refine hK.out _ _ ?_ (fun hHeld=>?_)
 ·(first|assumption|exact Since.drew (by assumption)|exact Since.next (show Since W1 wt by assumption) h9|exact Since.next (by assumption) hbt|exact Since.next (show Since W1 wt by assumption) ((Below.refl _ _).alloc (Nat.le_refl _) _)|exact Since.next (by assumption) (by assumption))
 clear hK K
 try go_frame
 refine rd1 9 (fun K hK=>?_)
 (go_simp;(go_at_call 282;(refine(CB.out _ (by first|assumption|exact Since.drew (by assumption))).mono ?_);rintro e w9 ⟨u,rfl,hu,h9⟩))
 refine hK.out _ _ ?_ (fun hHeld=>?_)
 ·(first|assumption|exact Since.drew (by assumption)|exact Since.next (show Since W1 wt by assumption) h9|exact Since.next (by assumption) hbt|exact Since.next (show Since W1 wt by assumption) ((Below.refl _ _).alloc (Nat.le_refl _) _)|exact Since.next (by assumption) (by assumption))
 clear hK K
 try go_frame
 refine tk 10 ?_;refine wpAnyH_done (by kernel_rfl) ?_ _;have hS9:Since W1 w9:=by assumption
 go_wp2_with fail
 go_ret;exact⟨u,rfl,hu,A8 BB.out hS9⟩
 ):p:=h
theorem A7U{p:Prop}(h:p:=by
 go_enter func278,ntmps278;go_upto_region 1 with fail
 go_region_held3(fun wk=>Since W1 wk) (first|assumption|exact Since.drew (by assumption)|exact Since.next (by assumption) (by assumption)) ((go_at_call 283;(first|(with_reducible refine(C1.out _).mono ?_;rintro e wa ⟨rfl,hba⟩)|(with_reducible refine(C2.out _).mono ?_;rintro e wb ⟨rfl,hbb⟩)|(with_reducible refine(C3.out _).mono ?_;rintro e wc ⟨rfl,hbc⟩))))
 have hSz:Since W1 wc:=by assumption
 have y0:=K0.out _ hSz;have HZ:=hid hSz;clear hba hbb hbc C1 C2 C3 X0 X1 X2 X3 X4 X5;have hlt:w.heap.size+1<wc.heap.size:=B6 y0;have hSt:=Since.next hSz ((Below.refl wc.heap.size wc).alloc (Nat.le_refl _) (.cells #[.int .i64 12,.int .i64 2,.int .i64 4] 3))
 go_upto_region 12 with fail
 refine wp_region_held_drew (S:=(fun wk=>Since W1 wk)) (by kernel_rfl) ?_ (fun hHeld=>?_)
 ·exact q2z
 refine tk 0 ?_;refine tk 1 ?_;refine tk 2 ?_;refine tk 4 ?_;refine tk 6 ?_;refine rd1 3 (fun K hK=>?_);exact q0z
 ):p:=h
set_option maxHeartbeats 2000000 in
theorem A3O(x:Cd)(h0:0≤x.i)(h1:x.i<4294967296)(hd: -1≤x.d∧x.d≤3)(ha: -1≤x.a∧x.a≤3)(hb: -1≤x.b∧x.b≤3)(HO:12≤x.o∧x.o≤14)(hall:J4 ([⟨0,1,rg1 x.b,32,0⟩,⟨0,0,rg1 x.a,32,0⟩,⟨x.o+9,0,0,32,0⟩,⟨0,rg1 x.d,0,32,0⟩]))(w:World):Calls prog 278 #[.agg #[],ncV x] w fun e w'=>∃u,e= .returned u∧RowI w' w.heap.size 5 .u8 u (E8 ([⟨0,1,rg1 x.b,32,0⟩,⟨0,0,rg1 x.a,32,0⟩,⟨x.o+9,0,0,32,0⟩,⟨0,rg1 x.d,0,32,0⟩]))∧Below w.heap.size w w':=by
 obtain⟨o,d,a,b,i,t⟩:=x;show Calls prog 278 #[.agg #[],.agg #[.int .i64 o,.int .i64 d,.int .i64 a,.int .i64 b,.int .u32 i,.int .i64 t]] w _
 simp only at h0 h1 hd ha hb HO;obtain⟨hb1,k1⟩:=B9 (w.alloc (.cells #[] 189)) [.int .i64 o,.int .i64 d,.int .i64 a,.int .i64 b,.int .u32 i,.int .i64 t] 61;have hb0:Below w.heap.size w (w.alloc (.cells #[] 189)):=(Below.refl _ _).alloc (Nat.le_refl _) _;obtain⟨W1,hW1⟩:∃W,(w.alloc (.cells #[] 189)).alloc (.cells #[.int .i64 o,.int .i64 d,.int .i64 a,.int .i64 b,.int .u32 i,.int .i64 t] 61)=W:=⟨_,rfl⟩
 rw[show([.int .i64 o,.int .i64 d,.int .i64 a,.int .i64 b,.int .u32 i,.int .i64 t]:List Value).toArray=#[.int .i64 o,.int .i64 d,.int .i64 a,.int .i64 b,.int .u32 i,.int .i64 t]from rfl,hW1]at hb1 k1;rw[show(w.alloc (.cells #[] 189)).heap.size=w.heap.size+1 by simp]at k1;have BB:Hid (Since w W1):=hid (A8 hb0 hb1);have x0:=(k1 0 _ rfl).1;have hs:w.heap.size+1<W1.heap.size:=B6 x0;have X0:∀wk,Since W1 wk→wk.cell? ⟨w.heap.size+1,0,none⟩=some (.int .i64 o):=fun wk h=>A7 h hs (k1 0 _ rfl).1
 have X1:∀wk,Since W1 wk→wk.cell? ⟨w.heap.size+1,1,none⟩=some (.int .i64 d):=fun wk h=>A7 h hs (k1 1 _ rfl).1
 have X2:∀wk,Since W1 wk→wk.cell? ⟨w.heap.size+1,2,none⟩=some (.int .i64 a):=fun wk h=>A7 h hs (k1 2 _ rfl).1
 have X3:∀wk,Since W1 wk→wk.cell? ⟨w.heap.size+1,3,none⟩=some (.int .i64 b):=fun wk h=>A7 h hs (k1 3 _ rfl).1
 have X4:∀wk,Since W1 wk→wk.cell? ⟨w.heap.size+1,4,none⟩=some (.int .u32 i):=fun wk h=>A7 h hs (k1 4 _ rfl).1
 have X5:∀wk,Since W1 wk→wk.cell? ⟨w.heap.size+1,5,none⟩=some (.int .i64 t):=fun wk h=>A7 h hs (k1 5 _ rfl).1
 have K0:=hid X0;have K1:=hid X1;have K2:=hid X2;have K3:=hid X3;have K4:=hid X4;have K5:=hid X5;have C1:=hid (C6 d hd);have C2:=hid (C6 a ha);have C3:=hid (C6 b hb);have CT:=hid E2;have h00:=Since.refl W1;obtain⟨ho1,ho2⟩:=HO;have e0:(o==0)=false:=beq_eq_false_iff_ne.2 (by omega);have e1:(o==1)=false:=beq_eq_false_iff_ne.2 (by omega);have e26:(o==26)=false:=beq_eq_false_iff_ne.2 (by omega);have g5:decide (5≤o)=true:=decide_eq_true (by omega);have l8:decide (o≤8)=false:=decide_eq_false (by omega);have g12:decide (12≤o)=true:=decide_eq_true (by omega);have l14:decide (o≤14)=true:=decide_eq_true (by omega);have hs1:IntKind.i64.wrap (o-12)=o-12:=by rw[IntWalk.i64_left];exact IntWalk.wrap64_in _ (by omega)
 have hs2:IntKind.i64.wrap (o-12+21)=o+9:=by rw[IntWalk.i64_left,IntWalk.wrap64_in _ (by omega)];omega
 generalize rg1 d=rd at*
 generalize rg1 a=ra at*
 generalize rg1 b=rb at*
 have CB:Hid (∀wk,Since W1 wk→Calls prog 282 #[.agg #[],.slice (some ⟨wk.heap.size,0,none⟩) 4 4] (wk.alloc (.cells #[.int .i64 0,.int .i64 1,.int .i64 rb,.int .i64 32,.int .i64 0,.int .i64 0,.int .i64 0,.int .i64 ra,.int .i64 32,.int .i64 0,.int .i64 (o+9),.int .i64 0,.int .i64 0,.int .i64 32,.int .i64 0,.int .i64 0,.int .i64 rd,.int .i64 0,.int .i64 32,.int .i64 0] 89)) fun e w'=>∃u,e= .returned u∧RowI w' w.heap.size 5 .u8 u (E8 [⟨0,1,rb,32,0⟩,⟨0,0,ra,32,0⟩,⟨o+9,0,0,32,0⟩,⟨0,rd,0,32,0⟩])∧Below wk.heap.size wk w'):=hid (fun wk h=>(F0 [⟨0,1,rb,32,0⟩,⟨0,0,ra,32,0⟩,⟨o+9,0,0,32,0⟩,⟨0,rd,0,32,0⟩] _ _ (G3 (w:=wk) (xs:=[⟨0,1,rb,32,0⟩,⟨0,0,ra,32,0⟩,⟨o+9,0,0,32,0⟩,⟨0,rd,0,32,0⟩]) (by simp)) hall (by simp)).mono fun e w' ⟨u,h1,h2,h3⟩=>⟨u,h1,World.ownsRow.mono h2 (by have:=h.size;simp;omega),A8 ((Below.refl _ _).alloc (Nat.le_refl _) _) h3⟩);clear k1 x0 hb0 hb1;go_enter func278,ntmps278;go_upto_region 1 with fail
 go_region_held3(fun wk=>Since W1 wk) (first|assumption|exact Since.drew (by assumption)|exact Since.next (by assumption) (by assumption)) ((go_at_call 283;(first|(with_reducible refine(C1.out _).mono ?_;rintro e wa ⟨rfl,hba⟩)|(with_reducible refine(C2.out _).mono ?_;rintro e wb ⟨rfl,hbb⟩)|(with_reducible refine(C3.out _).mono ?_;rintro e wc ⟨rfl,hbc⟩))))
 have hSz:Since W1 wc:=by assumption
 have y0:=K0.out _ hSz;have HZ:=hid hSz;clear hba hbb hbc C1 C2 C3 X0 X1 X2 X3 X4 X5;have X0:=K0.out;go_upto_region 9 with fail
 refine wp_region_held_drew (S:=(fun wk=>Since W1 wk)) (by kernel_rfl) ?_ (fun hHeld=>?_)
 ·exact q2z
 refine tk 0 ?_;refine tk 1 ?_;refine tk 3 ?_;refine tk 5 ?_;refine tk 6 ?_;refine tk 7 ?_;refine tk 8 ?_;refine tk 9 ?_;refine tk 10 ?_;refine rd1 2 (fun K hK=>?_)
 (go_simp;(go_at_call 284;(with_reducible refine(CT.out _ _ _ _).mono ?_);rintro e wt ⟨rfl,hbt⟩))
 refine hK.out _ _ ?_ (fun hHeld=>?_)
 ·exact q2z
 clear hK K
 try go_frame
 refine rd1 4 (fun K hK=>?_)
 (go_simp;(go_at_call 284;(with_reducible refine(CT.out _ _ _ _).mono ?_);rintro e wt ⟨rfl,hbt⟩))
 refine hK.out _ _ ?_ (fun hHeld=>?_)
 ·exact q2z
 clear hK K
 try go_frame
 refine rd1 11 (fun K hK=>?_)
 (go_simp;(go_at_call 284;(with_reducible refine(CT.out _ _ _ _).mono ?_);rintro e wt ⟨rfl,hbt⟩))
 refine hK.out _ _ ?_ (fun hHeld=>?_)
 ·exact q2z
 clear hK K
 try go_frame
 refine rd1 12 (fun K hK=>?_);go_simp;refine hK.out _ _ ?_ (fun hHeld=>?_)
 ·exact q2z
 clear hK K
 try go_frame
 refine rd1 13 (fun K hK=>?_)
 (go_simp;(go_at_call 282;(refine(CB.out _ (by first|assumption|exact Since.drew (by assumption))).mono ?_);rintro e w9 ⟨u,rfl,hu,h9⟩))
 refine hK.out _ _ ?_ (fun hHeld=>?_)
 ·exact q2z
 clear hK K
 try go_frame
 refine tk 14 ?_;exact A3A
set_option maxHeartbeats 2000000 in
theorem A3N(x:Cd)(h0:0≤x.i)(h1:x.i<4294967296)(hd: -1≤x.d∧x.d≤3)(ha: -1≤x.a∧x.a≤3)(hb: -1≤x.b∧x.b≤3)(HO:x.o=15)(hall:J4 ([⟨12,rg1 x.a,rg1 x.b,32,0⟩,⟨29,0,12,32,0⟩,⟨30,rg1 x.d,0,32,0⟩]))(w:World):Calls prog 278 #[.agg #[],ncV x] w fun e w'=>∃u,e= .returned u∧RowI w' w.heap.size 5 .u8 u (E8 ([⟨12,rg1 x.a,rg1 x.b,32,0⟩,⟨29,0,12,32,0⟩,⟨30,rg1 x.d,0,32,0⟩]))∧Below w.heap.size w w':=by
 obtain⟨o,d,a,b,i,t⟩:=x;show Calls prog 278 #[.agg #[],.agg #[.int .i64 o,.int .i64 d,.int .i64 a,.int .i64 b,.int .u32 i,.int .i64 t]] w _
 simp only at h0 h1 hd ha hb HO;obtain⟨hb1,k1⟩:=B9 (w.alloc (.cells #[] 189)) [.int .i64 o,.int .i64 d,.int .i64 a,.int .i64 b,.int .u32 i,.int .i64 t] 61;have hb0:Below w.heap.size w (w.alloc (.cells #[] 189)):=(Below.refl _ _).alloc (Nat.le_refl _) _;obtain⟨W1,hW1⟩:∃W,(w.alloc (.cells #[] 189)).alloc (.cells #[.int .i64 o,.int .i64 d,.int .i64 a,.int .i64 b,.int .u32 i,.int .i64 t] 61)=W:=⟨_,rfl⟩
 rw[show([.int .i64 o,.int .i64 d,.int .i64 a,.int .i64 b,.int .u32 i,.int .i64 t]:List Value).toArray=#[.int .i64 o,.int .i64 d,.int .i64 a,.int .i64 b,.int .u32 i,.int .i64 t]from rfl,hW1]at hb1 k1;rw[show(w.alloc (.cells #[] 189)).heap.size=w.heap.size+1 by simp]at k1;have BB:Hid (Since w W1):=hid (A8 hb0 hb1);have x0:=(k1 0 _ rfl).1;have hs:w.heap.size+1<W1.heap.size:=B6 x0;have X0:∀wk,Since W1 wk→wk.cell? ⟨w.heap.size+1,0,none⟩=some (.int .i64 o):=fun wk h=>A7 h hs (k1 0 _ rfl).1
 have X1:∀wk,Since W1 wk→wk.cell? ⟨w.heap.size+1,1,none⟩=some (.int .i64 d):=fun wk h=>A7 h hs (k1 1 _ rfl).1
 have X2:∀wk,Since W1 wk→wk.cell? ⟨w.heap.size+1,2,none⟩=some (.int .i64 a):=fun wk h=>A7 h hs (k1 2 _ rfl).1
 have X3:∀wk,Since W1 wk→wk.cell? ⟨w.heap.size+1,3,none⟩=some (.int .i64 b):=fun wk h=>A7 h hs (k1 3 _ rfl).1
 have X4:∀wk,Since W1 wk→wk.cell? ⟨w.heap.size+1,4,none⟩=some (.int .u32 i):=fun wk h=>A7 h hs (k1 4 _ rfl).1
 have X5:∀wk,Since W1 wk→wk.cell? ⟨w.heap.size+1,5,none⟩=some (.int .i64 t):=fun wk h=>A7 h hs (k1 5 _ rfl).1
 have K0:=hid X0;have K1:=hid X1;have K2:=hid X2;have K3:=hid X3;have K4:=hid X4;have K5:=hid X5;have C1:=hid (C6 d hd);have C2:=hid (C6 a ha);have C3:=hid (C6 b hb);have CT:=hid E2;have h00:=Since.refl W1;subst HO;generalize rg1 d=rd at*
 generalize rg1 a=ra at*
 generalize rg1 b=rb at*
 have CB:Hid (∀wk,Since W1 wk→Calls prog 282 #[.agg #[],.slice (some ⟨wk.heap.size,0,none⟩) 3 3] (wk.alloc (.cells #[.int .i64 12,.int .i64 ra,.int .i64 rb,.int .i64 32,.int .i64 0,.int .i64 29,.int .i64 0,.int .i64 12,.int .i64 32,.int .i64 0,.int .i64 30,.int .i64 rd,.int .i64 0,.int .i64 32,.int .i64 0] 89)) fun e w'=>∃u,e= .returned u∧RowI w' w.heap.size 5 .u8 u (E8 [⟨12,ra,rb,32,0⟩,⟨29,0,12,32,0⟩,⟨30,rd,0,32,0⟩])∧Below wk.heap.size wk w'):=hid (fun wk h=>(F0 [⟨12,ra,rb,32,0⟩,⟨29,0,12,32,0⟩,⟨30,rd,0,32,0⟩] _ _ (G3 (w:=wk) (xs:=[⟨12,ra,rb,32,0⟩,⟨29,0,12,32,0⟩,⟨30,rd,0,32,0⟩]) (by simp)) hall (by simp)).mono fun e w' ⟨u,h1,h2,h3⟩=>⟨u,h1,World.ownsRow.mono h2 (by have:=h.size;simp;omega),A8 ((Below.refl _ _).alloc (Nat.le_refl _) _) h3⟩);clear k1 x0 hb0 hb1;exact A7U
set_option maxHeartbeats 2000000 in
theorem A3M(x:Cd)(h0:0≤x.i)(h1:x.i<4294967296)(hd: -1≤x.d∧x.d≤3)(ha: -1≤x.a∧x.a≤3)(hb: -1≤x.b∧x.b≤3)(HO:x.o=16)(hall:J4 ([⟨12,rg1 x.a,rg1 x.b,32,0⟩,⟨29,0,2,32,0⟩,⟨30,rg1 x.d,0,32,0⟩]))(w:World):Calls prog 278 #[.agg #[],ncV x] w fun e w'=>∃u,e= .returned u∧RowI w' w.heap.size 5 .u8 u (E8 ([⟨12,rg1 x.a,rg1 x.b,32,0⟩,⟨29,0,2,32,0⟩,⟨30,rg1 x.d,0,32,0⟩]))∧Below w.heap.size w w':=by
 obtain⟨o,d,a,b,i,t⟩:=x;show Calls prog 278 #[.agg #[],.agg #[.int .i64 o,.int .i64 d,.int .i64 a,.int .i64 b,.int .u32 i,.int .i64 t]] w _
 simp only at h0 h1 hd ha hb HO;obtain⟨hb1,k1⟩:=B9 (w.alloc (.cells #[] 189)) [.int .i64 o,.int .i64 d,.int .i64 a,.int .i64 b,.int .u32 i,.int .i64 t] 61;have hb0:Below w.heap.size w (w.alloc (.cells #[] 189)):=(Below.refl _ _).alloc (Nat.le_refl _) _;obtain⟨W1,hW1⟩:∃W,(w.alloc (.cells #[] 189)).alloc (.cells #[.int .i64 o,.int .i64 d,.int .i64 a,.int .i64 b,.int .u32 i,.int .i64 t] 61)=W:=⟨_,rfl⟩
 rw[show([.int .i64 o,.int .i64 d,.int .i64 a,.int .i64 b,.int .u32 i,.int .i64 t]:List Value).toArray=#[.int .i64 o,.int .i64 d,.int .i64 a,.int .i64 b,.int .u32 i,.int .i64 t]from rfl,hW1]at hb1 k1;rw[show(w.alloc (.cells #[] 189)).heap.size=w.heap.size+1 by simp]at k1;have BB:Hid (Since w W1):=hid (A8 hb0 hb1);have x0:=(k1 0 _ rfl).1;have hs:w.heap.size+1<W1.heap.size:=B6 x0;have X0:∀wk,Since W1 wk→wk.cell? ⟨w.heap.size+1,0,none⟩=some (.int .i64 o):=fun wk h=>A7 h hs (k1 0 _ rfl).1
 have X1:∀wk,Since W1 wk→wk.cell? ⟨w.heap.size+1,1,none⟩=some (.int .i64 d):=fun wk h=>A7 h hs (k1 1 _ rfl).1
 have X2:∀wk,Since W1 wk→wk.cell? ⟨w.heap.size+1,2,none⟩=some (.int .i64 a):=fun wk h=>A7 h hs (k1 2 _ rfl).1
 have X3:∀wk,Since W1 wk→wk.cell? ⟨w.heap.size+1,3,none⟩=some (.int .i64 b):=fun wk h=>A7 h hs (k1 3 _ rfl).1
 have X4:∀wk,Since W1 wk→wk.cell? ⟨w.heap.size+1,4,none⟩=some (.int .u32 i):=fun wk h=>A7 h hs (k1 4 _ rfl).1
 have X5:∀wk,Since W1 wk→wk.cell? ⟨w.heap.size+1,5,none⟩=some (.int .i64 t):=fun wk h=>A7 h hs (k1 5 _ rfl).1
 have K0:=hid X0;have K1:=hid X1;have K2:=hid X2;have K3:=hid X3;have K4:=hid X4;have K5:=hid X5;have C1:=hid (C6 d hd);have C2:=hid (C6 a ha);have C3:=hid (C6 b hb);have CT:=hid E2;have h00:=Since.refl W1;subst HO;generalize rg1 d=rd at*
 generalize rg1 a=ra at*
 generalize rg1 b=rb at*
 have CB:Hid (∀wk,Since W1 wk→Calls prog 282 #[.agg #[],.slice (some ⟨wk.heap.size,0,none⟩) 3 3] (wk.alloc (.cells #[.int .i64 12,.int .i64 ra,.int .i64 rb,.int .i64 32,.int .i64 0,.int .i64 29,.int .i64 0,.int .i64 2,.int .i64 32,.int .i64 0,.int .i64 30,.int .i64 rd,.int .i64 0,.int .i64 32,.int .i64 0] 89)) fun e w'=>∃u,e= .returned u∧RowI w' w.heap.size 5 .u8 u (E8 [⟨12,ra,rb,32,0⟩,⟨29,0,2,32,0⟩,⟨30,rd,0,32,0⟩])∧Below wk.heap.size wk w'):=hid (fun wk h=>(F0 [⟨12,ra,rb,32,0⟩,⟨29,0,2,32,0⟩,⟨30,rd,0,32,0⟩] _ _ (G3 (w:=wk) (xs:=[⟨12,ra,rb,32,0⟩,⟨29,0,2,32,0⟩,⟨30,rd,0,32,0⟩]) (by simp)) hall (by simp)).mono fun e w' ⟨u,h1,h2,h3⟩=>⟨u,h1,World.ownsRow.mono h2 (by have:=h.size;simp;omega),A8 ((Below.refl _ _).alloc (Nat.le_refl _) _) h3⟩);clear k1 x0 hb0 hb1;exact A7U
set_option maxHeartbeats 2000000 in
theorem A3L(x:Cd)(h0:0≤x.i)(h1:x.i<4294967296)(hd: -1≤x.d∧x.d≤3)(ha: -1≤x.a∧x.a≤3)(hb: -1≤x.b∧x.b≤3)(HO:x.o=17)(hall:J4 ([⟨12,rg1 x.a,rg1 x.b,32,0⟩,⟨29,0,4,32,0⟩,⟨30,rg1 x.d,0,32,0⟩]))(w:World):Calls prog 278 #[.agg #[],ncV x] w fun e w'=>∃u,e= .returned u∧RowI w' w.heap.size 5 .u8 u (E8 ([⟨12,rg1 x.a,rg1 x.b,32,0⟩,⟨29,0,4,32,0⟩,⟨30,rg1 x.d,0,32,0⟩]))∧Below w.heap.size w w':=by
 obtain⟨o,d,a,b,i,t⟩:=x;show Calls prog 278 #[.agg #[],.agg #[.int .i64 o,.int .i64 d,.int .i64 a,.int .i64 b,.int .u32 i,.int .i64 t]] w _
 simp only at h0 h1 hd ha hb HO;obtain⟨hb1,k1⟩:=B9 (w.alloc (.cells #[] 189)) [.int .i64 o,.int .i64 d,.int .i64 a,.int .i64 b,.int .u32 i,.int .i64 t] 61;have hb0:Below w.heap.size w (w.alloc (.cells #[] 189)):=(Below.refl _ _).alloc (Nat.le_refl _) _;obtain⟨W1,hW1⟩:∃W,(w.alloc (.cells #[] 189)).alloc (.cells #[.int .i64 o,.int .i64 d,.int .i64 a,.int .i64 b,.int .u32 i,.int .i64 t] 61)=W:=⟨_,rfl⟩
 rw[show([.int .i64 o,.int .i64 d,.int .i64 a,.int .i64 b,.int .u32 i,.int .i64 t]:List Value).toArray=#[.int .i64 o,.int .i64 d,.int .i64 a,.int .i64 b,.int .u32 i,.int .i64 t]from rfl,hW1]at hb1 k1;rw[show(w.alloc (.cells #[] 189)).heap.size=w.heap.size+1 by simp]at k1;have BB:Hid (Since w W1):=hid (A8 hb0 hb1);have x0:=(k1 0 _ rfl).1;have hs:w.heap.size+1<W1.heap.size:=B6 x0;have X0:∀wk,Since W1 wk→wk.cell? ⟨w.heap.size+1,0,none⟩=some (.int .i64 o):=fun wk h=>A7 h hs (k1 0 _ rfl).1
 have X1:∀wk,Since W1 wk→wk.cell? ⟨w.heap.size+1,1,none⟩=some (.int .i64 d):=fun wk h=>A7 h hs (k1 1 _ rfl).1
 have X2:∀wk,Since W1 wk→wk.cell? ⟨w.heap.size+1,2,none⟩=some (.int .i64 a):=fun wk h=>A7 h hs (k1 2 _ rfl).1
 have X3:∀wk,Since W1 wk→wk.cell? ⟨w.heap.size+1,3,none⟩=some (.int .i64 b):=fun wk h=>A7 h hs (k1 3 _ rfl).1
 have X4:∀wk,Since W1 wk→wk.cell? ⟨w.heap.size+1,4,none⟩=some (.int .u32 i):=fun wk h=>A7 h hs (k1 4 _ rfl).1
 have X5:∀wk,Since W1 wk→wk.cell? ⟨w.heap.size+1,5,none⟩=some (.int .i64 t):=fun wk h=>A7 h hs (k1 5 _ rfl).1
 have K0:=hid X0;have K1:=hid X1;have K2:=hid X2;have K3:=hid X3;have K4:=hid X4;have K5:=hid X5;have C1:=hid (C6 d hd);have C2:=hid (C6 a ha);have C3:=hid (C6 b hb);have CT:=hid E2;have h00:=Since.refl W1;subst HO;generalize rg1 d=rd at*
 generalize rg1 a=ra at*
 generalize rg1 b=rb at*
 have CB:Hid (∀wk,Since W1 wk→Calls prog 282 #[.agg #[],.slice (some ⟨wk.heap.size,0,none⟩) 3 3] (wk.alloc (.cells #[.int .i64 12,.int .i64 ra,.int .i64 rb,.int .i64 32,.int .i64 0,.int .i64 29,.int .i64 0,.int .i64 4,.int .i64 32,.int .i64 0,.int .i64 30,.int .i64 rd,.int .i64 0,.int .i64 32,.int .i64 0] 89)) fun e w'=>∃u,e= .returned u∧RowI w' w.heap.size 5 .u8 u (E8 [⟨12,ra,rb,32,0⟩,⟨29,0,4,32,0⟩,⟨30,rd,0,32,0⟩])∧Below wk.heap.size wk w'):=hid (fun wk h=>(F0 [⟨12,ra,rb,32,0⟩,⟨29,0,4,32,0⟩,⟨30,rd,0,32,0⟩] _ _ (G3 (w:=wk) (xs:=[⟨12,ra,rb,32,0⟩,⟨29,0,4,32,0⟩,⟨30,rd,0,32,0⟩]) (by simp)) hall (by simp)).mono fun e w' ⟨u,h1,h2,h3⟩=>⟨u,h1,World.ownsRow.mono h2 (by have:=h.size;simp;omega),A8 ((Below.refl _ _).alloc (Nat.le_refl _) _) h3⟩);clear k1 x0 hb0 hb1;exact A7U
end Go.Proofs.YtajljbmeaeeknaaGreat
