/- -/
import Derived.Test.YtajljbmeaeeknaaGreatS10
import Derived.Test.YtajljbmeaeeknaaGreatS11
import Derived.Test.YtajljbmeaeeknaaGreatS13
open Go.Proofs.Tryz
open Go.Lib (hid)
set_option maxRecDepth 100000
namespace Go.Proofs.YtajljbmeaeeknaaGreat
open Go.RowKit Go.Maps
set_option linter.unusedVariables false
set_option linter.unusedSimpArgs false
theorem q2z{p:Prop}(h:p:=by
 (first|assumption|exact Since.drew (by assumption)|exact Since.next (show Since W1 wt by assumption) h9|exact Since.next (by assumption) hbt|exact Since.next (show Since W1 wt by assumption) ((Below.refl _ _).alloc (Nat.le_refl _) _)|exact Since.next (by assumption) (by assumption))
 ):p:=h
theorem A9A{p:Prop}(h:p:=by
 go_enter func278,ntmps278;go_upto_region 1 with fail
 go_region_held3(fun wk=>Since W1 wk) (first|assumption|exact Since.drew (by assumption)|exact Since.next (by assumption) (by assumption)) ((go_at_call 283;(first|(with_reducible refine(C1.out _).mono ?_;rintro e wa ⟨rfl,hba⟩)|(with_reducible refine(C2.out _).mono ?_;rintro e wb ⟨rfl,hbb⟩)|(with_reducible refine(C3.out _).mono ?_;rintro e wc ⟨rfl,hbc⟩))))
 have hSz:Since W1 wc:=by assumption
 have y0:=K0.out _ hSz;have HZ:=hid hSz;clear hba hbb hbc C1 C2 C3 X0 X1 X2 X3 X4 X5;go_wp2_with(go_at_call 282;with_reducible refine(CB.out _ HZ.out).mono ?_;rintro e w9 ⟨u,rfl,hu,h9⟩)
 go_ret;exact⟨u,rfl,hu,A8 BB.out (A8 HZ.out h9)⟩
 ):p:=h
theorem A5V(x:Cd)(rd ra rb:Int)(HO:5≤x.o∧x.o≤8)(w:World):Calls prog 285 #[.agg #[],ncV x,.int .i64 rd,.int .i64 ra,.int .i64 rb] w fun e w'=>∃u,e= .returned u∧RowA w' w.heap.size u (dv1 x.o rd ra rb)∧Below w.heap.size w w':=by
 have h:x.o=5∨x.o=6∨x.o=7∨x.o=8:=by omega
 rcases h with h|h|h|h<;>rw[h]
 ·exact A8K x rd ra rb h w
 ·exact A8J x rd ra rb h w
 ·exact A8I x rd ra rb h w
 ·exact A8H x rd ra rb h w
theorem A4t(x:Cd)(rd rb:Int)(h0:0≤x.i)(h1:x.i<4294967296)(ha: -1≤x.a∧x.a≤3)(HO:18≤x.o∧x.o≤23)(w:World):Calls prog 286 #[.agg #[],ncV x,.int .i64 rd,.int .i64 rb] w fun e w'=>∃u,e= .returned u∧RowA w' w.heap.size u (bs1 x++mm1 x.o rd rb (bf1 x) (s32 x.i))∧Below w.heap.size w w':=by
 have h:x.o=18∨x.o=19∨x.o=20∨x.o=21∨x.o=22∨x.o=23:=by omega
 rcases h with h|h|h|h|h|h<;>rw[h]
 ·exact A6D x rd rb h0 h1 ha h w
 ·exact A6C x rd rb h0 h1 ha h w
 ·exact A6B x rd rb h0 h1 ha h w
 ·exact A6A x rd rb h0 h1 ha h w
 ·exact A5z x rd rb h0 h1 ha h w
 ·exact A5y x rd rb h0 h1 ha h w
set_option maxHeartbeats 2000000 in
theorem A4e(x:Cd)(h0:0≤x.i)(h1:x.i<4294967296)(hd: -1≤x.d∧x.d≤3)(ha: -1≤x.a∧x.a≤3)(hb: -1≤x.b∧x.b≤3)(HO:x.o=0)(hall:J4 ([⟨1,rg1 x.d,0,32,x.i⟩]))(w:World):Calls prog 278 #[.agg #[],ncV x] w fun e w'=>∃u,e= .returned u∧RowI w' w.heap.size 5 .u8 u (E8 ([⟨1,rg1 x.d,0,32,x.i⟩]))∧Below w.heap.size w w':=by
 obtain⟨o,d,a,b,i,t⟩:=x;show Calls prog 278 #[.agg #[],.agg #[.int .i64 o,.int .i64 d,.int .i64 a,.int .i64 b,.int .u32 i,.int .i64 t]] w _
 simp only at h0 h1 hd ha hb HO;obtain⟨hb1,k1⟩:=B9 (w.alloc (.cells #[] 189)) [.int .i64 o,.int .i64 d,.int .i64 a,.int .i64 b,.int .u32 i,.int .i64 t] 61;have hb0:Below w.heap.size w (w.alloc (.cells #[] 189)):=(Below.refl _ _).alloc (Nat.le_refl _) _;obtain⟨W1,hW1⟩:∃W,(w.alloc (.cells #[] 189)).alloc (.cells #[.int .i64 o,.int .i64 d,.int .i64 a,.int .i64 b,.int .u32 i,.int .i64 t] 61)=W:=⟨_,rfl⟩
 rw[show([.int .i64 o,.int .i64 d,.int .i64 a,.int .i64 b,.int .u32 i,.int .i64 t]:List Value).toArray=#[.int .i64 o,.int .i64 d,.int .i64 a,.int .i64 b,.int .u32 i,.int .i64 t]from rfl,hW1]at hb1 k1;rw[show(w.alloc (.cells #[] 189)).heap.size=w.heap.size+1 by simp]at k1;have BB:Hid (Since w W1):=hid (A8 hb0 hb1);have x0:=(k1 0 _ rfl).1;have hs:w.heap.size+1<W1.heap.size:=B6 x0;have X0:∀wk,Since W1 wk→wk.cell? ⟨w.heap.size+1,0,none⟩=some (.int .i64 o):=fun wk h=>A7 h hs (k1 0 _ rfl).1
 have X1:∀wk,Since W1 wk→wk.cell? ⟨w.heap.size+1,1,none⟩=some (.int .i64 d):=fun wk h=>A7 h hs (k1 1 _ rfl).1
 have X2:∀wk,Since W1 wk→wk.cell? ⟨w.heap.size+1,2,none⟩=some (.int .i64 a):=fun wk h=>A7 h hs (k1 2 _ rfl).1
 have X3:∀wk,Since W1 wk→wk.cell? ⟨w.heap.size+1,3,none⟩=some (.int .i64 b):=fun wk h=>A7 h hs (k1 3 _ rfl).1
 have X4:∀wk,Since W1 wk→wk.cell? ⟨w.heap.size+1,4,none⟩=some (.int .u32 i):=fun wk h=>A7 h hs (k1 4 _ rfl).1
 have X5:∀wk,Since W1 wk→wk.cell? ⟨w.heap.size+1,5,none⟩=some (.int .i64 t):=fun wk h=>A7 h hs (k1 5 _ rfl).1
 have K0:=hid X0;have K1:=hid X1;have K2:=hid X2;have K3:=hid X3;have K4:=hid X4;have K5:=hid X5;have C1:=hid (C6 d hd);have C2:=hid (C6 a ha);have C3:=hid (C6 b hb);have CT:=hid E2;have h00:=Since.refl W1;subst HO;have hw6:wrap64 i=i:=IntWalk.wrap64_in _ (by omega);generalize rg1 d=rd at*
 generalize rg1 a=ra at*
 generalize rg1 b=rb at*
 have CB:Hid (∀wk,Since W1 wk→Calls prog 282 #[.agg #[],.slice (some ⟨wk.heap.size,0,none⟩) 1 1] (wk.alloc (.cells #[.int .i64 1,.int .i64 rd,.int .i64 0,.int .i64 32,.int .i64 i] 89)) fun e w'=>∃u,e= .returned u∧RowI w' w.heap.size 5 .u8 u (E8 [⟨1,rd,0,32,i⟩])∧Below wk.heap.size wk w'):=hid (fun wk h=>(F0 [⟨1,rd,0,32,i⟩] _ _ (G3 (w:=wk) (xs:=[⟨1,rd,0,32,i⟩]) (by simp)) hall (by simp)).mono fun e w' ⟨u,h1,h2,h3⟩=>⟨u,h1,World.ownsRow.mono h2 (by have:=h.size;simp;omega),A8 ((Below.refl _ _).alloc (Nat.le_refl _) _) h3⟩);clear k1 x0 hb0 hb1;go_enter func278,ntmps278;go_upto_region 1 with fail
 go_region_held3(fun wk=>Since W1 wk) (first|assumption|exact Since.drew (by assumption)|exact Since.next (by assumption) (by assumption)) ((go_at_call 283;(first|(with_reducible refine(C1.out _).mono ?_;rintro e wa ⟨rfl,hba⟩)|(with_reducible refine(C2.out _).mono ?_;rintro e wb ⟨rfl,hbb⟩)|(with_reducible refine(C3.out _).mono ?_;rintro e wc ⟨rfl,hbc⟩))))
 have hSz:Since W1 wc:=by assumption
 have y0:=K0.out _ hSz;have HZ:=hid hSz;clear hba hbb hbc C1 C2 C3 X0 X1 X2 X3 X4 X5;have y4:=K4.out _ hSz;go_wp2_with(go_at_call 282;with_reducible refine(CB.out _ HZ.out).mono ?_;rintro e w9 ⟨u,rfl,hu,h9⟩)
 go_ret;exact⟨u,rfl,hu,A8 BB.out (A8 HZ.out h9)⟩
set_option maxHeartbeats 2000000 in
theorem A3J(x:Cd)(h0:0≤x.i)(h1:x.i<4294967296)(hd: -1≤x.d∧x.d≤3)(ha: -1≤x.a∧x.a≤3)(hb: -1≤x.b∧x.b≤3)(HO:x.o=26)(hall:J4 ([⟨34,0,0,32,0⟩]))(w:World):Calls prog 278 #[.agg #[],ncV x] w fun e w'=>∃u,e= .returned u∧RowI w' w.heap.size 5 .u8 u (E8 ([⟨34,0,0,32,0⟩]))∧Below w.heap.size w w':=by
 obtain⟨o,d,a,b,i,t⟩:=x;show Calls prog 278 #[.agg #[],.agg #[.int .i64 o,.int .i64 d,.int .i64 a,.int .i64 b,.int .u32 i,.int .i64 t]] w _
 simp only at h0 h1 hd ha hb HO;obtain⟨hb1,k1⟩:=B9 (w.alloc (.cells #[] 189)) [.int .i64 o,.int .i64 d,.int .i64 a,.int .i64 b,.int .u32 i,.int .i64 t] 61;have hb0:Below w.heap.size w (w.alloc (.cells #[] 189)):=(Below.refl _ _).alloc (Nat.le_refl _) _;obtain⟨W1,hW1⟩:∃W,(w.alloc (.cells #[] 189)).alloc (.cells #[.int .i64 o,.int .i64 d,.int .i64 a,.int .i64 b,.int .u32 i,.int .i64 t] 61)=W:=⟨_,rfl⟩
 rw[show([.int .i64 o,.int .i64 d,.int .i64 a,.int .i64 b,.int .u32 i,.int .i64 t]:List Value).toArray=#[.int .i64 o,.int .i64 d,.int .i64 a,.int .i64 b,.int .u32 i,.int .i64 t]from rfl,hW1]at hb1 k1;rw[show(w.alloc (.cells #[] 189)).heap.size=w.heap.size+1 by simp]at k1;have BB:Hid (Since w W1):=hid (A8 hb0 hb1);have x0:=(k1 0 _ rfl).1;have hs:w.heap.size+1<W1.heap.size:=B6 x0;have X0:∀wk,Since W1 wk→wk.cell? ⟨w.heap.size+1,0,none⟩=some (.int .i64 o):=fun wk h=>A7 h hs (k1 0 _ rfl).1
 have X1:∀wk,Since W1 wk→wk.cell? ⟨w.heap.size+1,1,none⟩=some (.int .i64 d):=fun wk h=>A7 h hs (k1 1 _ rfl).1
 have X2:∀wk,Since W1 wk→wk.cell? ⟨w.heap.size+1,2,none⟩=some (.int .i64 a):=fun wk h=>A7 h hs (k1 2 _ rfl).1
 have X3:∀wk,Since W1 wk→wk.cell? ⟨w.heap.size+1,3,none⟩=some (.int .i64 b):=fun wk h=>A7 h hs (k1 3 _ rfl).1
 have X4:∀wk,Since W1 wk→wk.cell? ⟨w.heap.size+1,4,none⟩=some (.int .u32 i):=fun wk h=>A7 h hs (k1 4 _ rfl).1
 have X5:∀wk,Since W1 wk→wk.cell? ⟨w.heap.size+1,5,none⟩=some (.int .i64 t):=fun wk h=>A7 h hs (k1 5 _ rfl).1
 have K0:=hid X0;have K1:=hid X1;have K2:=hid X2;have K3:=hid X3;have K4:=hid X4;have K5:=hid X5;have C1:=hid (C6 d hd);have C2:=hid (C6 a ha);have C3:=hid (C6 b hb);have CT:=hid E2;have h00:=Since.refl W1;subst HO;generalize rg1 d=rd at*
 generalize rg1 a=ra at*
 generalize rg1 b=rb at*
 have CB:Hid (∀wk,Since W1 wk→Calls prog 282 #[.agg #[],.slice (some ⟨wk.heap.size,0,none⟩) 1 1] (wk.alloc (.cells #[.int .i64 34,.int .i64 0,.int .i64 0,.int .i64 32,.int .i64 0] 89)) fun e w'=>∃u,e= .returned u∧RowI w' w.heap.size 5 .u8 u (E8 [⟨34,0,0,32,0⟩])∧Below wk.heap.size wk w'):=hid (fun wk h=>(F0 [⟨34,0,0,32,0⟩] _ _ (G3 (w:=wk) (xs:=[⟨34,0,0,32,0⟩]) (by simp)) hall (by simp)).mono fun e w' ⟨u,h1,h2,h3⟩=>⟨u,h1,World.ownsRow.mono h2 (by have:=h.size;simp;omega),A8 ((Below.refl _ _).alloc (Nat.le_refl _) _) h3⟩);clear k1 x0 hb0 hb1;exact A9A
set_option maxHeartbeats 2000000 in
theorem A3I(x:Cd)(h0:0≤x.i)(h1:x.i<4294967296)(hd: -1≤x.d∧x.d≤3)(ha: -1≤x.a∧x.a≤3)(hb: -1≤x.b∧x.b≤3)(HO:x.o=27)(hall:J4 ([⟨35,0,0,32,0⟩]))(w:World):Calls prog 278 #[.agg #[],ncV x] w fun e w'=>∃u,e= .returned u∧RowI w' w.heap.size 5 .u8 u (E8 ([⟨35,0,0,32,0⟩]))∧Below w.heap.size w w':=by
 obtain⟨o,d,a,b,i,t⟩:=x;show Calls prog 278 #[.agg #[],.agg #[.int .i64 o,.int .i64 d,.int .i64 a,.int .i64 b,.int .u32 i,.int .i64 t]] w _
 simp only at h0 h1 hd ha hb HO;obtain⟨hb1,k1⟩:=B9 (w.alloc (.cells #[] 189)) [.int .i64 o,.int .i64 d,.int .i64 a,.int .i64 b,.int .u32 i,.int .i64 t] 61;have hb0:Below w.heap.size w (w.alloc (.cells #[] 189)):=(Below.refl _ _).alloc (Nat.le_refl _) _;obtain⟨W1,hW1⟩:∃W,(w.alloc (.cells #[] 189)).alloc (.cells #[.int .i64 o,.int .i64 d,.int .i64 a,.int .i64 b,.int .u32 i,.int .i64 t] 61)=W:=⟨_,rfl⟩
 rw[show([.int .i64 o,.int .i64 d,.int .i64 a,.int .i64 b,.int .u32 i,.int .i64 t]:List Value).toArray=#[.int .i64 o,.int .i64 d,.int .i64 a,.int .i64 b,.int .u32 i,.int .i64 t]from rfl,hW1]at hb1 k1;rw[show(w.alloc (.cells #[] 189)).heap.size=w.heap.size+1 by simp]at k1;have BB:Hid (Since w W1):=hid (A8 hb0 hb1);have x0:=(k1 0 _ rfl).1;have hs:w.heap.size+1<W1.heap.size:=B6 x0;have X0:∀wk,Since W1 wk→wk.cell? ⟨w.heap.size+1,0,none⟩=some (.int .i64 o):=fun wk h=>A7 h hs (k1 0 _ rfl).1
 have X1:∀wk,Since W1 wk→wk.cell? ⟨w.heap.size+1,1,none⟩=some (.int .i64 d):=fun wk h=>A7 h hs (k1 1 _ rfl).1
 have X2:∀wk,Since W1 wk→wk.cell? ⟨w.heap.size+1,2,none⟩=some (.int .i64 a):=fun wk h=>A7 h hs (k1 2 _ rfl).1
 have X3:∀wk,Since W1 wk→wk.cell? ⟨w.heap.size+1,3,none⟩=some (.int .i64 b):=fun wk h=>A7 h hs (k1 3 _ rfl).1
 have X4:∀wk,Since W1 wk→wk.cell? ⟨w.heap.size+1,4,none⟩=some (.int .u32 i):=fun wk h=>A7 h hs (k1 4 _ rfl).1
 have X5:∀wk,Since W1 wk→wk.cell? ⟨w.heap.size+1,5,none⟩=some (.int .i64 t):=fun wk h=>A7 h hs (k1 5 _ rfl).1
 have K0:=hid X0;have K1:=hid X1;have K2:=hid X2;have K3:=hid X3;have K4:=hid X4;have K5:=hid X5;have C1:=hid (C6 d hd);have C2:=hid (C6 a ha);have C3:=hid (C6 b hb);have CT:=hid E2;have h00:=Since.refl W1;subst HO;generalize rg1 d=rd at*
 generalize rg1 a=ra at*
 generalize rg1 b=rb at*
 have CB:Hid (∀wk,Since W1 wk→Calls prog 282 #[.agg #[],.slice (some ⟨wk.heap.size,0,none⟩) 1 1] (wk.alloc (.cells #[.int .i64 35,.int .i64 0,.int .i64 0,.int .i64 32,.int .i64 0] 89)) fun e w'=>∃u,e= .returned u∧RowI w' w.heap.size 5 .u8 u (E8 [⟨35,0,0,32,0⟩])∧Below wk.heap.size wk w'):=hid (fun wk h=>(F0 [⟨35,0,0,32,0⟩] _ _ (G3 (w:=wk) (xs:=[⟨35,0,0,32,0⟩]) (by simp)) hall (by simp)).mono fun e w' ⟨u,h1,h2,h3⟩=>⟨u,h1,World.ownsRow.mono h2 (by have:=h.size;simp;omega),A8 ((Below.refl _ _).alloc (Nat.le_refl _) _) h3⟩);clear k1 x0 hb0 hb1;exact A9A
set_option maxHeartbeats 2000000 in
theorem A4d(x:Cd)(h0:0≤x.i)(h1:x.i<4294967296)(hd: -1≤x.d∧x.d≤3)(ha: -1≤x.a∧x.a≤3)(hb: -1≤x.b∧x.b≤3)(HO:x.o=1)(hall:J4 ([⟨0,rg1 x.d,rg1 x.a,32,0⟩]))(w:World):Calls prog 278 #[.agg #[],ncV x] w fun e w'=>∃u,e= .returned u∧RowI w' w.heap.size 5 .u8 u (E8 ([⟨0,rg1 x.d,rg1 x.a,32,0⟩]))∧Below w.heap.size w w':=by
 obtain⟨o,d,a,b,i,t⟩:=x;show Calls prog 278 #[.agg #[],.agg #[.int .i64 o,.int .i64 d,.int .i64 a,.int .i64 b,.int .u32 i,.int .i64 t]] w _
 simp only at h0 h1 hd ha hb HO;obtain⟨hb1,k1⟩:=B9 (w.alloc (.cells #[] 189)) [.int .i64 o,.int .i64 d,.int .i64 a,.int .i64 b,.int .u32 i,.int .i64 t] 61;have hb0:Below w.heap.size w (w.alloc (.cells #[] 189)):=(Below.refl _ _).alloc (Nat.le_refl _) _;obtain⟨W1,hW1⟩:∃W,(w.alloc (.cells #[] 189)).alloc (.cells #[.int .i64 o,.int .i64 d,.int .i64 a,.int .i64 b,.int .u32 i,.int .i64 t] 61)=W:=⟨_,rfl⟩
 rw[show([.int .i64 o,.int .i64 d,.int .i64 a,.int .i64 b,.int .u32 i,.int .i64 t]:List Value).toArray=#[.int .i64 o,.int .i64 d,.int .i64 a,.int .i64 b,.int .u32 i,.int .i64 t]from rfl,hW1]at hb1 k1;rw[show(w.alloc (.cells #[] 189)).heap.size=w.heap.size+1 by simp]at k1;have BB:Hid (Since w W1):=hid (A8 hb0 hb1);have x0:=(k1 0 _ rfl).1;have hs:w.heap.size+1<W1.heap.size:=B6 x0;have X0:∀wk,Since W1 wk→wk.cell? ⟨w.heap.size+1,0,none⟩=some (.int .i64 o):=fun wk h=>A7 h hs (k1 0 _ rfl).1
 have X1:∀wk,Since W1 wk→wk.cell? ⟨w.heap.size+1,1,none⟩=some (.int .i64 d):=fun wk h=>A7 h hs (k1 1 _ rfl).1
 have X2:∀wk,Since W1 wk→wk.cell? ⟨w.heap.size+1,2,none⟩=some (.int .i64 a):=fun wk h=>A7 h hs (k1 2 _ rfl).1
 have X3:∀wk,Since W1 wk→wk.cell? ⟨w.heap.size+1,3,none⟩=some (.int .i64 b):=fun wk h=>A7 h hs (k1 3 _ rfl).1
 have X4:∀wk,Since W1 wk→wk.cell? ⟨w.heap.size+1,4,none⟩=some (.int .u32 i):=fun wk h=>A7 h hs (k1 4 _ rfl).1
 have X5:∀wk,Since W1 wk→wk.cell? ⟨w.heap.size+1,5,none⟩=some (.int .i64 t):=fun wk h=>A7 h hs (k1 5 _ rfl).1
 have K0:=hid X0;have K1:=hid X1;have K2:=hid X2;have K3:=hid X3;have K4:=hid X4;have K5:=hid X5;have C1:=hid (C6 d hd);have C2:=hid (C6 a ha);have C3:=hid (C6 b hb);have CT:=hid E2;have h00:=Since.refl W1;subst HO;generalize rg1 d=rd at*
 generalize rg1 a=ra at*
 generalize rg1 b=rb at*
 have CB:Hid (∀wk,Since W1 wk→Calls prog 282 #[.agg #[],.slice (some ⟨wk.heap.size,0,none⟩) 1 1] (wk.alloc (.cells #[.int .i64 0,.int .i64 rd,.int .i64 ra,.int .i64 32,.int .i64 0] 89)) fun e w'=>∃u,e= .returned u∧RowI w' w.heap.size 5 .u8 u (E8 [⟨0,rd,ra,32,0⟩])∧Below wk.heap.size wk w'):=hid (fun wk h=>(F0 [⟨0,rd,ra,32,0⟩] _ _ (G3 (w:=wk) (xs:=[⟨0,rd,ra,32,0⟩]) (by simp)) hall (by simp)).mono fun e w' ⟨u,h1,h2,h3⟩=>⟨u,h1,World.ownsRow.mono h2 (by have:=h.size;simp;omega),A8 ((Below.refl _ _).alloc (Nat.le_refl _) _) h3⟩);clear k1 x0 hb0 hb1;go_enter func278,ntmps278;go_upto_region 1 with fail
 go_region_held3(fun wk=>Since W1 wk) (first|assumption|exact Since.drew (by assumption)|exact Since.next (by assumption) (by assumption)) ((go_at_call 283;(first|(with_reducible refine(C1.out _).mono ?_;rintro e wa ⟨rfl,hba⟩)|(with_reducible refine(C2.out _).mono ?_;rintro e wb ⟨rfl,hbb⟩)|(with_reducible refine(C3.out _).mono ?_;rintro e wc ⟨rfl,hbc⟩))))
 have hSz:Since W1 wc:=by assumption
 have y0:=K0.out _ hSz;have HZ:=hid hSz;clear hba hbb hbc C1 C2 C3 X0 X1 X2 X3 X4 X5;go_upto_region 5 with fail
 refine wp_region_held_drew (S:=(fun wk=>Since W1 wk)) (by kernel_rfl) ?_ (fun hHeld=>?_)
 ·exact q2z
 refine tk 0 ?_;refine tk 1 ?_;refine tk 2 ?_;refine rd1 3 (fun K hK=>?_)
 (go_simp;(go_at_call 284;(with_reducible refine(CT.out _ _ _ _).mono ?_);rintro e wt ⟨rfl,hbt⟩))
 refine hK.out _ _ ?_ (fun hHeld=>?_)
 ·exact q2z
 clear hK K
 try go_frame
 refine rd1 4 (fun K hK=>?_);go_simp;refine hK.out _ _ ?_ (fun hHeld=>?_)
 ·exact q2z
 clear hK K
 try go_frame
 refine rd1 5 (fun K hK=>?_)
 (go_simp;(go_at_call 282;(refine(CB.out _ (by first|assumption|exact Since.drew (by assumption))).mono ?_);rintro e w9 ⟨u,rfl,hu,h9⟩))
 refine hK.out _ _ ?_ (fun hHeld=>?_)
 ·exact q2z
 clear hK K
 try go_frame
 refine tk 6 ?_;exact A3A
theorem A2j(o d b f n:Int):(mm1 o d b f n).length≤2:=by
 unfold mm1
 split;simp
 split;simp
 split;simp
 split;simp
 split<;>simp
theorem A2t(x:Cd):(bs1 x).length≤1:=by unfold bs1;split<;>simp
theorem RowA.base1{w:World}{base:Nat}{v:Value}{xs:List Ins}(h:RowA w base v xs):RowA w 0 v xs:=World.ownsRow.mono h (Nat.zero_le _)
set_option maxHeartbeats 2000000 in
theorem A4Z(x:Cd)(h0:0≤x.i)(h1:x.i<4294967296)(hd: -1≤x.d∧x.d≤3)(ha: -1≤x.a∧x.a≤3)(hb: -1≤x.b∧x.b≤3)(HO:5≤x.o∧x.o≤8)(hall:J4 (dv1 x.o (rg1 x.d) (rg1 x.a) (rg1 x.b)))(w:World):Calls prog 278 #[.agg #[],ncV x] w fun e w'=>∃u,e= .returned u∧RowI w' w.heap.size 5 .u8 u (E8 (dv1 x.o (rg1 x.d) (rg1 x.a) (rg1 x.b)))∧Below w.heap.size w w':=by
 obtain⟨o,d,a,b,i,t⟩:=x;show Calls prog 278 #[.agg #[],.agg #[.int .i64 o,.int .i64 d,.int .i64 a,.int .i64 b,.int .u32 i,.int .i64 t]] w _
 simp only at h0 h1 hd ha hb HO;obtain⟨hb1,k1⟩:=B9 (w.alloc (.cells #[] 189)) [.int .i64 o,.int .i64 d,.int .i64 a,.int .i64 b,.int .u32 i,.int .i64 t] 61;have hb0:Below w.heap.size w (w.alloc (.cells #[] 189)):=(Below.refl _ _).alloc (Nat.le_refl _) _;obtain⟨W1,hW1⟩:∃W,(w.alloc (.cells #[] 189)).alloc (.cells #[.int .i64 o,.int .i64 d,.int .i64 a,.int .i64 b,.int .u32 i,.int .i64 t] 61)=W:=⟨_,rfl⟩
 rw[show([.int .i64 o,.int .i64 d,.int .i64 a,.int .i64 b,.int .u32 i,.int .i64 t]:List Value).toArray=#[.int .i64 o,.int .i64 d,.int .i64 a,.int .i64 b,.int .u32 i,.int .i64 t]from rfl,hW1]at hb1 k1;rw[show(w.alloc (.cells #[] 189)).heap.size=w.heap.size+1 by simp]at k1;have BB:Hid (Since w W1):=hid (A8 hb0 hb1);have x0:=(k1 0 _ rfl).1;have hs:w.heap.size+1<W1.heap.size:=B6 x0;have X0:∀wk,Since W1 wk→wk.cell? ⟨w.heap.size+1,0,none⟩=some (.int .i64 o):=fun wk h=>A7 h hs (k1 0 _ rfl).1
 have X1:∀wk,Since W1 wk→wk.cell? ⟨w.heap.size+1,1,none⟩=some (.int .i64 d):=fun wk h=>A7 h hs (k1 1 _ rfl).1
 have X2:∀wk,Since W1 wk→wk.cell? ⟨w.heap.size+1,2,none⟩=some (.int .i64 a):=fun wk h=>A7 h hs (k1 2 _ rfl).1
 have X3:∀wk,Since W1 wk→wk.cell? ⟨w.heap.size+1,3,none⟩=some (.int .i64 b):=fun wk h=>A7 h hs (k1 3 _ rfl).1
 have X4:∀wk,Since W1 wk→wk.cell? ⟨w.heap.size+1,4,none⟩=some (.int .u32 i):=fun wk h=>A7 h hs (k1 4 _ rfl).1
 have X5:∀wk,Since W1 wk→wk.cell? ⟨w.heap.size+1,5,none⟩=some (.int .i64 t):=fun wk h=>A7 h hs (k1 5 _ rfl).1
 have K0:=hid X0;have K1:=hid X1;have K2:=hid X2;have K3:=hid X3;have K4:=hid X4;have K5:=hid X5;have C1:=hid (C6 d hd);have C2:=hid (C6 a ha);have C3:=hid (C6 b hb);have CT:=hid E2;have h00:=Since.refl W1;obtain⟨ho1,ho2⟩:=HO;have e0:(o==0)=false:=beq_eq_false_iff_ne.2 (by omega);have e1:(o==1)=false:=beq_eq_false_iff_ne.2 (by omega);have e26:(o==26)=false:=beq_eq_false_iff_ne.2 (by omega);have g5:decide (5≤o)=true:=decide_eq_true (by omega);have l8:decide (o≤8)=true:=decide_eq_true (by omega);have CX:=hid (fun w=>A5V ⟨o,d,a,b,i,t⟩ (rg1 d) (rg1 a) (rg1 b) ⟨ho1,ho2⟩ w);have hLL:(dv1 o (rg1 d) (rg1 a) (rg1 b)).length≤10:=by unfold dv1;split<;>simp
 generalize rg1 d=rd at*
 generalize rg1 a=ra at*
 generalize rg1 b=rb at*
 generalize dv1 o (rd) (ra) (rb)=LL at*
 have CX:Hid (∀wk,Calls prog 285 #[.agg #[],.agg #[.int .i64 o,.int .i64 d,.int .i64 a,.int .i64 b,.int .u32 i,.int .i64 t],.int .i64 rd,.int .i64 ra,.int .i64 rb] wk fun e w'=>∃u,e= .returned u∧RowA w' wk.heap.size u LL∧Below wk.heap.size wk w'):=CX;have CB:Hid (∀u wk,Since W1 wk→RowA wk 0 u LL→Calls prog 282 #[.agg #[],u] wk fun e w'=>∃u,e= .returned u∧RowI w' w.heap.size 5 .u8 u (E8 LL)∧Since W1 w'):=hid (fun u wk h hr=>(F0 LL u wk (hr.ias (by omega)) hall (by omega)).mono fun e w' ⟨u,h1,h2,h3⟩=>⟨u,h1,World.ownsRow.mono h2 (by have:=h.size;omega),A8 h h3⟩);clear k1 x0 hb0 hb1;go_enter func278,ntmps278;go_upto_region 1 with fail
 go_region_held3(fun wk=>Since W1 wk) (first|assumption|exact Since.drew (by assumption)|exact Since.next (by assumption) (by assumption)) ((go_at_call 283;(first|(with_reducible refine(C1.out _).mono ?_;rintro e wa ⟨rfl,hba⟩)|(with_reducible refine(C2.out _).mono ?_;rintro e wb ⟨rfl,hbb⟩)|(with_reducible refine(C3.out _).mono ?_;rintro e wc ⟨rfl,hbc⟩))))
 have hSz:Since W1 wc:=by assumption
 have y0:=K0.out _ hSz;have HZ:=hid hSz;clear hba hbb hbc C1 C2 C3 X0 X1 X2 X3 X4 X5;have X0:=K0.out;have X1:=K1.out;have X2:=K2.out;have X3:=K3.out;have X4:=K4.out;have X5:=K5.out;go_upto_region 7 with fail
 refine wp_region_held_drew (S:=(fun wk=>Since W1 wk)) (by kernel_rfl) ?_ (fun hHeld=>?_)
 ·exact U1
 refine tk 0 ?_;refine tk 1 ?_;refine tk 2 ?_;refine tk 3 ?_;refine tk 4 ?_;refine tk 5 ?_;refine rd1 6 (fun K hK=>?_)
 (go_simp;(go_at_call 285;(with_reducible refine(CX.out _).mono ?_);rintro e wd ⟨ud,rfl,hrd,hbd⟩;have hSd:Since W1 wd:=Since.next (by assumption) hbd;have hrd:=RowA.base1 hrd;obtain⟨a3,n3,rfl⟩:=RowA.shape hrd))
 refine hK.out _ _ ?_ (fun hHeld=>?_)
 ·exact U1
 clear hK K
 try go_frame
 refine rd1 7 (fun K hK=>?_)
 (go_simp;(go_at_call 282;(with_reducible refine(CB.out _ _ hSd hrd).mono ?_);rintro e w9 ⟨u,rfl,hu,h9⟩;have hS9:Since W1 w9:=h9))
 refine hK.out _ _ ?_ (fun hHeld=>?_)
 ·exact U1
 clear hK K
 try go_frame
 refine tk 8 ?_;exact A3A
set_option maxHeartbeats 2000000 in
theorem A3K(x:Cd)(h0:0≤x.i)(h1:x.i<4294967296)(hd: -1≤x.d∧x.d≤3)(ha: -1≤x.a∧x.a≤3)(hb: -1≤x.b∧x.b≤3)(HO:18≤x.o∧x.o≤23)(hall:J4 (bs1 x++mm1 x.o (rg1 x.d) (rg1 x.b) (bf1 x) (s32 x.i)))(w:World):Calls prog 278 #[.agg #[],ncV x] w fun e w'=>∃u,e= .returned u∧RowI w' w.heap.size 5 .u8 u (E8 (bs1 x++mm1 x.o (rg1 x.d) (rg1 x.b) (bf1 x) (s32 x.i)))∧Below w.heap.size w w':=by
 obtain⟨o,d,a,b,i,t⟩:=x;show Calls prog 278 #[.agg #[],.agg #[.int .i64 o,.int .i64 d,.int .i64 a,.int .i64 b,.int .u32 i,.int .i64 t]] w _
 simp only at h0 h1 hd ha hb HO;obtain⟨hb1,k1⟩:=B9 (w.alloc (.cells #[] 189)) [.int .i64 o,.int .i64 d,.int .i64 a,.int .i64 b,.int .u32 i,.int .i64 t] 61;have hb0:Below w.heap.size w (w.alloc (.cells #[] 189)):=(Below.refl _ _).alloc (Nat.le_refl _) _;obtain⟨W1,hW1⟩:∃W,(w.alloc (.cells #[] 189)).alloc (.cells #[.int .i64 o,.int .i64 d,.int .i64 a,.int .i64 b,.int .u32 i,.int .i64 t] 61)=W:=⟨_,rfl⟩
 rw[show([.int .i64 o,.int .i64 d,.int .i64 a,.int .i64 b,.int .u32 i,.int .i64 t]:List Value).toArray=#[.int .i64 o,.int .i64 d,.int .i64 a,.int .i64 b,.int .u32 i,.int .i64 t]from rfl,hW1]at hb1 k1;rw[show(w.alloc (.cells #[] 189)).heap.size=w.heap.size+1 by simp]at k1;have BB:Hid (Since w W1):=hid (A8 hb0 hb1);have x0:=(k1 0 _ rfl).1;have hs:w.heap.size+1<W1.heap.size:=B6 x0;have X0:∀wk,Since W1 wk→wk.cell? ⟨w.heap.size+1,0,none⟩=some (.int .i64 o):=fun wk h=>A7 h hs (k1 0 _ rfl).1
 have X1:∀wk,Since W1 wk→wk.cell? ⟨w.heap.size+1,1,none⟩=some (.int .i64 d):=fun wk h=>A7 h hs (k1 1 _ rfl).1
 have X2:∀wk,Since W1 wk→wk.cell? ⟨w.heap.size+1,2,none⟩=some (.int .i64 a):=fun wk h=>A7 h hs (k1 2 _ rfl).1
 have X3:∀wk,Since W1 wk→wk.cell? ⟨w.heap.size+1,3,none⟩=some (.int .i64 b):=fun wk h=>A7 h hs (k1 3 _ rfl).1
 have X4:∀wk,Since W1 wk→wk.cell? ⟨w.heap.size+1,4,none⟩=some (.int .u32 i):=fun wk h=>A7 h hs (k1 4 _ rfl).1
 have X5:∀wk,Since W1 wk→wk.cell? ⟨w.heap.size+1,5,none⟩=some (.int .i64 t):=fun wk h=>A7 h hs (k1 5 _ rfl).1
 have K0:=hid X0;have K1:=hid X1;have K2:=hid X2;have K3:=hid X3;have K4:=hid X4;have K5:=hid X5;have C1:=hid (C6 d hd);have C2:=hid (C6 a ha);have C3:=hid (C6 b hb);have CT:=hid E2;have h00:=Since.refl W1;obtain⟨ho1,ho2⟩:=HO;have e0:(o==0)=false:=beq_eq_false_iff_ne.2 (by omega);have e1:(o==1)=false:=beq_eq_false_iff_ne.2 (by omega);have e26:(o==26)=false:=beq_eq_false_iff_ne.2 (by omega);have g5:decide (5≤o)=true:=decide_eq_true (by omega);have l8:decide (o≤8)=false:=decide_eq_false (by omega);have g12:decide (12≤o)=true:=decide_eq_true (by omega);have l14:decide (o≤14)=false:=decide_eq_false (by omega);have g15:decide (15≤o)=true:=decide_eq_true (by omega);have l17:decide (o≤17)=false:=decide_eq_false (by omega);have g2:decide (2≤o)=true:=decide_eq_true (by omega);have l11:decide (o≤11)=false:=decide_eq_false (by omega);have g18:decide (18≤o)=true:=decide_eq_true (by omega);have l23:decide (o≤23)=true:=decide_eq_true (by omega);have CX:=hid (fun w=>A4t ⟨o,d,a,b,i,t⟩ (rg1 d) (rg1 b) h0 h1 ha ⟨ho1,ho2⟩ w);have hLL:(bs1 ⟨o,d,a,b,i,t⟩++mm1 o (rg1 d) (rg1 b) (bf1 ⟨o,d,a,b,i,t⟩) (s32 i)).length≤10:=by have:=A2j o (rg1 d) (rg1 b) (bf1 ⟨o,d,a,b,i,t⟩) (s32 i);have:=A2t ⟨o,d,a,b,i,t⟩;rw[List.length_append];omega
 generalize rg1 d=rd at*
 generalize rg1 a=ra at*
 generalize rg1 b=rb at*
 generalize bs1 ⟨o,d,a,b,i,t⟩++mm1 o (rd) (rb) (bf1 ⟨o,d,a,b,i,t⟩) (s32 i)=LL at*
 have CX:Hid (∀wk,Calls prog 286 #[.agg #[],.agg #[.int .i64 o,.int .i64 d,.int .i64 a,.int .i64 b,.int .u32 i,.int .i64 t],.int .i64 rd,.int .i64 rb] wk fun e w'=>∃u,e= .returned u∧RowA w' wk.heap.size u LL∧Below wk.heap.size wk w'):=CX;have CB:Hid (∀u wk,Since W1 wk→RowA wk 0 u LL→Calls prog 282 #[.agg #[],u] wk fun e w'=>∃u,e= .returned u∧RowI w' w.heap.size 5 .u8 u (E8 LL)∧Since W1 w'):=hid (fun u wk h hr=>(F0 LL u wk (hr.ias (by omega)) hall (by omega)).mono fun e w' ⟨u,h1,h2,h3⟩=>⟨u,h1,World.ownsRow.mono h2 (by have:=h.size;omega),A8 h h3⟩);clear k1 x0 hb0 hb1;go_enter func278,ntmps278;go_upto_region 1 with fail
 go_region_held3(fun wk=>Since W1 wk) (first|assumption|exact Since.drew (by assumption)|exact Since.next (by assumption) (by assumption)) ((go_at_call 283;(first|(with_reducible refine(C1.out _).mono ?_;rintro e wa ⟨rfl,hba⟩)|(with_reducible refine(C2.out _).mono ?_;rintro e wb ⟨rfl,hbb⟩)|(with_reducible refine(C3.out _).mono ?_;rintro e wc ⟨rfl,hbc⟩))))
 have hSz:Since W1 wc:=by assumption
 have y0:=K0.out _ hSz;have HZ:=hid hSz;clear hba hbb hbc C1 C2 C3 X0 X1 X2 X3 X4 X5;have X0:=K0.out;have X1:=K1.out;have X2:=K2.out;have X3:=K3.out;have X4:=K4.out;have X5:=K5.out;go_upto_region 17 with fail
 refine wp_region_held_drew (S:=(fun wk=>Since W1 wk)) (by kernel_rfl) ?_ (fun hHeld=>?_)
 ·exact U1
 refine tk 0 ?_;refine tk 1 ?_;refine tk 2 ?_;refine tk 3 ?_;refine tk 4 ?_;refine rd1 5 (fun K hK=>?_)
 (go_simp;(go_at_call 286;(with_reducible refine(CX.out _).mono ?_);rintro e wd ⟨ud,rfl,hrd,hbd⟩;have hSd:Since W1 wd:=Since.next (by assumption) hbd;have hrd:=RowA.base1 hrd;obtain⟨a3,n3,rfl⟩:=RowA.shape hrd))
 refine hK.out _ _ ?_ (fun hHeld=>?_)
 ·exact U1
 clear hK K
 try go_frame
 refine rd1 6 (fun K hK=>?_)
 (go_simp;(go_at_call 282;(with_reducible refine(CB.out _ _ hSd hrd).mono ?_);rintro e w9 ⟨u,rfl,hu,h9⟩;have hS9:Since W1 w9:=h9))
 refine hK.out _ _ ?_ (fun hHeld=>?_)
 ·exact U1
 clear hK K
 try go_frame
 refine tk 7 ?_;exact A3A
end Go.Proofs.YtajljbmeaeeknaaGreat
