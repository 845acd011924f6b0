/- -/
import Derived.Test.YtajljbmeaeeknaaGreatS5
open Go.Proofs.Tryz
open Go.Lib (hid)
set_option maxHeartbeats 1000000
set_option maxRecDepth 100000
namespace Go.Proofs.YtajljbmeaeeknaaGreat
open Go.RowKit
set_option linter.unusedVariables false
set_option linter.unusedSimpArgs false
theorem q5z{p:Prop}(h:p:=by
 go_enter func175,ntmps175;go_wp2_with fail
 clear hW0
 go_region_held3(fun wk=>Since W0 wk) (first|assumption|exact Since.drew (by assumption)|exact Since.next (by assumption) ((Below.refl _ _).alloc (Nat.le_refl _) _)) (first|((go_at_call 163;with_reducible refine(C1.out _ (by first|assumption|exact Since.drew (by assumption)|exact Since.next (by assumption) ((Below.refl _ _).alloc (Nat.le_refl _) _))).mono ?_);rintro e w2 ⟨v2,rfl,hr2,hb2,hs2⟩;have HR2:=hid hr2;clear hr2)|((refine D0 (by rfl) _ _ _ (by rfl) W0.heap.size 5 i0 1 underlying28 hi0 hz0 hz1 hz2 (by decide) _ [IntKind.u8.wrap (IntKind.i64.wrap (184+d))] (by rfl) (RowI.below (RowI.lit _ #[.int .u8 (IntKind.u8.wrap (IntKind.i64.wrap (184+d)))] [(IntKind.u8.wrap (IntKind.i64.wrap (184+d)))] .u8 5 W0.heap.size 1 (by first|exact Nat.le_refl _|exact(show Since W0 _ by assumption).size) rfl rfl (by unfold maxLen;simp)) hb2) _ ys (by rfl) (HR2.out.ints HY5.out) HPOS.out HLEN.out hs2.size ?_);intro v9 w9 hr9 hb9;have hs9:=D6 (by assumption) hb9;have HR9:=hid hr9;clear hr9)|((refine D0 (by rfl) _ _ _ (by rfl) W0.heap.size 5 i0 1 underlying28 hi0 hz0 hz1 hz2 (by decide) _ [IntKind.u8.wrap (IntKind.i64.wrap (184+d))] (by rfl) (RowI.below (RowI.litd _ #[.int .u8 (IntKind.u8.wrap (IntKind.i64.wrap (184+d)))] [(IntKind.u8.wrap (IntKind.i64.wrap (184+d)))] .u8 5 W0.heap.size 1 (by first|exact Nat.le_refl _|exact(show Since W0 _ by assumption).size) rfl rfl (by unfold maxLen;simp)) hb2) _ ys (by rfl) (HR2.out.ints HY5.out) HPOS.out HLEN.out hs2.size ?_);intro v9 w9 hr9 hb9;have hs9:=D6 (by assumption) hb9;have HR9:=hid hr9;clear hr9)|((refine D0 (by rfl) _ _ _ (by rfl) W0.heap.size 5 i0 1 underlying28 hi0 hz0 hz1 hz2 (by decide) _ [IntKind.u8.wrap (IntKind.i64.wrap (184+d))] (by rfl) (RowI.lit _ #[.int .u8 (IntKind.u8.wrap (IntKind.i64.wrap (184+d)))] [(IntKind.u8.wrap (IntKind.i64.wrap (184+d)))] .u8 5 W0.heap.size 1 (by first|exact Nat.le_refl _|exact(show Since W0 _ by assumption).size) rfl rfl (by unfold maxLen;simp)) _ ys (by rfl) ((HR2.out.below ((Below.refl _ _).alloc (Nat.le_refl _) _)).ints HY5.out) HPOS.out HLEN.out (Nat.le_trans hs2.size (by simp)) ?_);intro v9 w9 hr9 hb9;have hs9:=D6 (by assumption) hb9;have HR9:=hid hr9;clear hr9)|((refine D0 (by rfl) _ _ _ (by rfl) W0.heap.size 5 i0 1 underlying28 hi0 hz0 hz1 hz2 (by decide) _ [IntKind.u8.wrap (IntKind.i64.wrap (184+d))] (by rfl) (RowI.litd _ #[.int .u8 (IntKind.u8.wrap (IntKind.i64.wrap (184+d)))] [(IntKind.u8.wrap (IntKind.i64.wrap (184+d)))] .u8 5 W0.heap.size 1 (by first|exact Nat.le_refl _|exact(show Since W0 _ by assumption).size) rfl rfl (by unfold maxLen;simp)) _ ys (by rfl) ((HR2.out.below (B8 ((Below.refl _ _).alloc (Nat.le_refl _) _) 1)).ints HY5.out) HPOS.out HLEN.out (Nat.le_trans hs2.size (by simp)) ?_);intro v9 w9 hr9 hb9;have hs9:=D6 (by assumption) hb9;have HR9:=hid hr9;clear hr9))
 all_goals go_wp2_with fail
 all_goals go_ret
 all_goals exact⟨_,rfl,RowI.to (RowI.mono HR9.out HB.out.size) (by rw[EQ0.out];rfl),A8 HB.out (by first|exact hs9|exact B8 hs9 1)⟩
 ):p:=h
theorem RowI.litd(w:World)(cs:Array Value)(xs:List Int)(k:IntKind)(e:TypeId)(base n:Nat)(hb:base≤w.heap.size)(hc:cs.toList=xs.map (Value.int k))(hn:n=xs.length)(hm:xs.length≤maxLen):
  RowI (w.alloc (.cells cs e)).drew base e k (.slice (some ⟨w.heap.size,0,none⟩) n n) xs:=RowI.lit w cs xs k e base n hb hc hn hm
theorem D6{w0 w w':World}(h:Since w0 w)(h':Below w0.heap.size w w'):Since w0 w':=h.trans h'
theorem s7(o d s z i:Int)(vop:Value)(ops:List Int)(b:Nat)(w:World)(hc0:w.cell? ⟨b,0,none⟩=some (vop))(hv:Ints .u8 w vop ops)(ho:0<ops.length)(ho2:ops.length≤50000)(hi:I64 i):Calls prog 231 #[.agg #[.int .i64 o,.int .i64 d,.int .i64 s,.int .i64 z,.int .i64 i],.pointer (some ⟨b,0,none⟩)] w fun e w'=>∃v,e= .returned v∧RowI w' w.heap.size 5 .u8 v (ops++mmB d s i)∧Below w.heap.size w w':=by
 have HV:=hid hv;obtain⟨va,vc,rfl,_⟩:=hv.shape;have hl0:=B6 hc0;have hn0:¬b=w.heap.size:=by omega
 have HB:=hid ((Below.refl w.heap.size w).alloc (Nat.le_refl _) (.cells #[.int .i64 o,.int .i64 d,.int .i64 s,.int .i64 z,.int .i64 i] 89));obtain⟨W0,hW0⟩:∃W,w.alloc (.cells #[.int .i64 o,.int .i64 d,.int .i64 s,.int .i64 z,.int .i64 i] 89)=W:=⟨_,rfl⟩
 have p0:∀wk,Since W0 wk→wk.cell? ⟨b,0,none⟩=some (.slice va ops.length vc):=fun wk h=>h.cell (by rw[←hW0];exact E3 hc0)
 have q1:∀wk,Since W0 wk→wk.cell? ⟨w.heap.size,1,none⟩=some (.int .i64 d):=fun wk h=>h.cell (by rw[←hW0];simp[go_sem])
 have q2:∀wk,Since W0 wk→wk.cell? ⟨w.heap.size,2,none⟩=some (.int .i64 s):=fun wk h=>h.cell (by rw[←hW0];simp[go_sem])
 have q4:∀wk,Since W0 wk→wk.cell? ⟨w.heap.size,4,none⟩=some (.int .i64 i):=fun wk h=>h.cell (by rw[←hW0];simp[go_sem])
 have h00:=Since.refl W0;rw[hW0]at HB;obtain⟨i0,hi0,hz0,hz1,hz2⟩:=info_parts F8;have C0:Hid (∀wk,Since W0 wk→Calls prog 109 #[.slice va ops.length vc] wk fun e w'=>∃v,e= .returned v∧RowI w' W0.heap.size 5 .u8 v (ops)∧Below wk.heap.size wk w'∧Since W0 w'):=fun wk h=>O1 (r9 ops _ wk ((HV.out.stays (by rw[←hW0];exact(Below.refl _ _).alloc (Nat.le_refl _) _)).stays h) ho ho2) h
 have C1:Hid (∀wk,Since W0 wk→Calls prog 232 #[.int .i64 d,.int .i64 s,.int .i64 i] wk fun e w'=>∃v,e= .returned v∧RowI w' W0.heap.size 5 .u8 v (mmB d s i)∧Below wk.heap.size wk w'∧Since W0 w'):=fun wk h=>O1 (A4s d s i wk hi) h
 have hml:(mmB d s i).length=5:=by simp[mmB,F2]
 generalize mmB d s i=ys at*
 have HLEN:Hid (ops.length+ys.length≤100000):=by show _≤_;omega
 have HPOS:Hid (0<ys.length):=by show 0<_;omega
 have HY5:Hid (ys.length≤140737488351232):=by show _≤_;omega
 clear ho ho2 hi hml;clear hc0 hl0 hn0;go_enter func231,ntmps231;go_wp2_with fail
 clear hW0
 go_region_held3(fun wk=>Since W0 wk) (first|assumption|exact Since.drew (by assumption)|exact Since.next (by assumption) ((Below.refl _ _).alloc (Nat.le_refl _) _)) (first|((go_at_call 109;with_reducible refine(C0.out _ (by first|assumption|exact Since.drew (by assumption)|exact Since.next (by assumption) ((Below.refl _ _).alloc (Nat.le_refl _) _))).mono ?_);rintro e w1 ⟨v1,rfl,hr1,hb1,hs1⟩;have HR1:=hid hr1;clear hr1)|((go_at_call 232;with_reducible refine(C1.out _ (by first|assumption|exact Since.drew (by assumption)|exact Since.next (by assumption) ((Below.refl _ _).alloc (Nat.le_refl _) _))).mono ?_);rintro e w2 ⟨v2,rfl,hr2,hb2,hs2⟩;have HR2:=hid hr2;clear hr2)|((refine D0 (by rfl) _ _ _ (by rfl) W0.heap.size 5 i0 1 underlying28 hi0 hz0 hz1 hz2 (by decide) _ ops (by rfl) (HR1.out.below hb2) _ ys (by rfl) (HR2.out.ints HY5.out) HPOS.out HLEN.out hs2.size ?_);intro v9 w9 hr9 hb9;have hs9:=D6 (by assumption) hb9;have HR9:=hid hr9;clear hr9))
 go_wp2_with fail
 go_ret;exact⟨_,rfl,RowI.to (RowI.mono HR9.out HB.out.size) (rfl),A8 HB.out (by first|exact hs9|exact B8 hs9 1)⟩
theorem A0N(o d s z i c:Int)(b:Nat)(w:World)(hc0:w.cell? ⟨b,0,none⟩=some (.int .u8 c))(hi:I64 i):Calls prog 234 #[.agg #[.int .i64 o,.int .i64 d,.int .i64 s,.int .i64 z,.int .i64 i],.pointer (some ⟨b,0,none⟩)] w fun e w'=>∃v,e= .returned v∧RowI w' w.heap.size 5 .u8 v (c::mmB s d i)∧Below w.heap.size w w':=by
 have hl0:=B6 hc0;have hn0:¬b=w.heap.size:=by omega
 have HB:=hid ((Below.refl w.heap.size w).alloc (Nat.le_refl _) (.cells #[.int .i64 o,.int .i64 d,.int .i64 s,.int .i64 z,.int .i64 i] 89));obtain⟨W0,hW0⟩:∃W,w.alloc (.cells #[.int .i64 o,.int .i64 d,.int .i64 s,.int .i64 z,.int .i64 i] 89)=W:=⟨_,rfl⟩
 have p0:∀wk,Since W0 wk→wk.cell? ⟨b,0,none⟩=some (.int .u8 c):=fun wk h=>h.cell (by rw[←hW0];exact E3 hc0)
 have q1:∀wk,Since W0 wk→wk.cell? ⟨w.heap.size,1,none⟩=some (.int .i64 d):=fun wk h=>h.cell (by rw[←hW0];simp[go_sem])
 have q2:∀wk,Since W0 wk→wk.cell? ⟨w.heap.size,2,none⟩=some (.int .i64 s):=fun wk h=>h.cell (by rw[←hW0];simp[go_sem])
 have q4:∀wk,Since W0 wk→wk.cell? ⟨w.heap.size,4,none⟩=some (.int .i64 i):=fun wk h=>h.cell (by rw[←hW0];simp[go_sem])
 have h00:=Since.refl W0;rw[hW0]at HB;obtain⟨i0,hi0,hz0,hz1,hz2⟩:=info_parts F8;have C1:Hid (∀wk,Since W0 wk→Calls prog 232 #[.int .i64 s,.int .i64 d,.int .i64 i] wk fun e w'=>∃v,e= .returned v∧RowI w' W0.heap.size 5 .u8 v (mmB s d i)∧Below wk.heap.size wk w'∧Since W0 w'):=fun wk h=>O1 (A4s s d i wk hi) h
 have hml:(mmB s d i).length=5:=by simp[mmB,F2]
 generalize mmB s d i=ys at*
 have HLEN:Hid (([c]).length+ys.length≤100000):=by show _≤_;simp;omega
 have HPOS:Hid (0<ys.length):=by show 0<_;omega
 have HY5:Hid (ys.length≤140737488351232):=by show _≤_;omega
 clear hml;clear hi;clear hc0 hl0 hn0;go_enter func234,ntmps234;go_wp2_with fail
 clear hW0
 go_region_held3(fun wk=>Since W0 wk) (first|assumption|exact Since.drew (by assumption)|exact Since.next (by assumption) ((Below.refl _ _).alloc (Nat.le_refl _) _)) (first|((go_at_call 232;with_reducible refine(C1.out _ (by first|assumption|exact Since.drew (by assumption)|exact Since.next (by assumption) ((Below.refl _ _).alloc (Nat.le_refl _) _))).mono ?_);rintro e w2 ⟨v2,rfl,hr2,hb2,hs2⟩;have HR2:=hid hr2;clear hr2)|((refine D0 (by rfl) _ _ _ (by rfl) W0.heap.size 5 i0 1 underlying28 hi0 hz0 hz1 hz2 (by decide) _ [c] (by rfl) (RowI.below (RowI.lit _ #[.int .u8 c] [c] .u8 5 W0.heap.size 1 (by first|exact Nat.le_refl _|exact(show Since W0 _ by assumption).size) rfl rfl (by unfold maxLen;simp)) hb2) _ ys (by rfl) (HR2.out.ints HY5.out) HPOS.out HLEN.out hs2.size ?_);intro v9 w9 hr9 hb9;have hs9:=D6 (by assumption) hb9;have HR9:=hid hr9;clear hr9)|((refine D0 (by rfl) _ _ _ (by rfl) W0.heap.size 5 i0 1 underlying28 hi0 hz0 hz1 hz2 (by decide) _ [c] (by rfl) (RowI.below (RowI.litd _ #[.int .u8 c] [c] .u8 5 W0.heap.size 1 (by first|exact Nat.le_refl _|exact(show Since W0 _ by assumption).size) rfl rfl (by unfold maxLen;simp)) hb2) _ ys (by rfl) (HR2.out.ints HY5.out) HPOS.out HLEN.out hs2.size ?_);intro v9 w9 hr9 hb9;have hs9:=D6 (by assumption) hb9;have HR9:=hid hr9;clear hr9)|((refine D0 (by rfl) _ _ _ (by rfl) W0.heap.size 5 i0 1 underlying28 hi0 hz0 hz1 hz2 (by decide) _ [c] (by rfl) (RowI.lit _ #[.int .u8 c] [c] .u8 5 W0.heap.size 1 (by first|exact Nat.le_refl _|exact(show Since W0 _ by assumption).size) rfl rfl (by unfold maxLen;simp)) _ ys (by rfl) ((HR2.out.below ((Below.refl _ _).alloc (Nat.le_refl _) _)).ints HY5.out) HPOS.out HLEN.out (Nat.le_trans hs2.size (by simp)) ?_);intro v9 w9 hr9 hb9;have hs9:=D6 (by assumption) hb9;have HR9:=hid hr9;clear hr9)|((refine D0 (by rfl) _ _ _ (by rfl) W0.heap.size 5 i0 1 underlying28 hi0 hz0 hz1 hz2 (by decide) _ [c] (by rfl) (RowI.litd _ #[.int .u8 c] [c] .u8 5 W0.heap.size 1 (by first|exact Nat.le_refl _|exact(show Since W0 _ by assumption).size) rfl rfl (by unfold maxLen;simp)) _ ys (by rfl) ((HR2.out.below (B8 ((Below.refl _ _).alloc (Nat.le_refl _) _) 1)).ints HY5.out) HPOS.out HLEN.out (Nat.le_trans hs2.size (by simp)) ?_);intro v9 w9 hr9 hb9;have hs9:=D6 (by assumption) hb9;have HR9:=hid hr9;clear hr9))
 all_goals go_wp2_with fail
 all_goals go_ret
 all_goals exact⟨_,rfl,RowI.to (RowI.mono HR9.out HB.out.size) rfl,A8 HB.out (by first|exact hs9|exact B8 hs9 1)⟩
theorem A1Y(o d s i:Int)(w:World)(hi:I64 i):Calls prog 175 #[.agg #[.int .i64 o,.int .i64 d,.int .i64 s,.int .i64 32,.int .i64 i]] w fun e w'=>∃v,e= .returned v∧RowI w' w.heap.size 5 .u8 v ((184+d)%256::leB i 4)∧Below w.heap.size w w':=by
 have HB:=hid ((Below.refl w.heap.size w).alloc (Nat.le_refl _) (.cells #[.int .i64 o,.int .i64 d,.int .i64 s,.int .i64 32,.int .i64 i] 89));obtain⟨W0,hW0⟩:∃W,w.alloc (.cells #[.int .i64 o,.int .i64 d,.int .i64 s,.int .i64 32,.int .i64 i] 89)=W:=⟨_,rfl⟩
 have q1:∀wk,Since W0 wk→wk.cell? ⟨w.heap.size,1,none⟩=some (.int .i64 d):=fun wk h=>h.cell (by rw[←hW0];simp[go_sem])
 have q4:∀wk,Since W0 wk→wk.cell? ⟨w.heap.size,4,none⟩=some (.int .i64 i):=fun wk h=>h.cell (by rw[←hW0];simp[go_sem])
 have q3:∀wk,Since W0 wk→wk.cell? ⟨w.heap.size,3,none⟩=some (.int .i64 32):=fun wk h=>h.cell (by rw[←hW0];simp[go_sem])
 have h00:=Since.refl W0;rw[hW0]at HB;obtain⟨i0,hi0,hz0,hz1,hz2⟩:=info_parts F8;have C1:Hid (∀wk,Since W0 wk→Calls prog 163 #[.int .i64 i,.int .i64 (IntKind.i64.wrap 4)] wk fun e w'=>∃v,e= .returned v∧RowI w' W0.heap.size 5 .u8 v (leB i 4)∧Below wk.heap.size wk w'∧Since W0 w'):=fun wk h=>O1 (J6 i 4 wk hi (by decide)) h
 have eq0:IntKind.u8.wrap (IntKind.i64.wrap (184+d))=(184+d)%256:=by rw[IntKind.wrap_u8,IntKind.wrap_i64];omega
 have EQ0:=hid eq0;clear eq0;have hml:(leB i 4).length=4:=by simp[mmB,F2]
 generalize leB i 4=ys at*
 have HLEN:Hid (([(0:Int)]).length+ys.length≤100000):=by show _≤_;simp;omega
 have HPOS:Hid (0<ys.length):=by show 0<_;omega
 have HY5:Hid (ys.length≤140737488351232):=by show _≤_;omega
 clear hml;clear hi;exact q5z
theorem A1Z(o d s i:Int)(w:World)(hi:I64 i):Calls prog 175 #[.agg #[.int .i64 o,.int .i64 d,.int .i64 s,.int .i64 16,.int .i64 i]] w fun e w'=>∃v,e= .returned v∧RowI w' w.heap.size 5 .u8 v ((184+d)%256::leB i 2)∧Below w.heap.size w w':=by
 have HB:=hid ((Below.refl w.heap.size w).alloc (Nat.le_refl _) (.cells #[.int .i64 o,.int .i64 d,.int .i64 s,.int .i64 16,.int .i64 i] 89));obtain⟨W0,hW0⟩:∃W,w.alloc (.cells #[.int .i64 o,.int .i64 d,.int .i64 s,.int .i64 16,.int .i64 i] 89)=W:=⟨_,rfl⟩
 have q1:∀wk,Since W0 wk→wk.cell? ⟨w.heap.size,1,none⟩=some (.int .i64 d):=fun wk h=>h.cell (by rw[←hW0];simp[go_sem])
 have q4:∀wk,Since W0 wk→wk.cell? ⟨w.heap.size,4,none⟩=some (.int .i64 i):=fun wk h=>h.cell (by rw[←hW0];simp[go_sem])
 have q3:∀wk,Since W0 wk→wk.cell? ⟨w.heap.size,3,none⟩=some (.int .i64 16):=fun wk h=>h.cell (by rw[←hW0];simp[go_sem])
 have h00:=Since.refl W0;rw[hW0]at HB;obtain⟨i0,hi0,hz0,hz1,hz2⟩:=info_parts F8;have C1:Hid (∀wk,Since W0 wk→Calls prog 163 #[.int .i64 i,.int .i64 (IntKind.i64.wrap 2)] wk fun e w'=>∃v,e= .returned v∧RowI w' W0.heap.size 5 .u8 v (leB i 2)∧Below wk.heap.size wk w'∧Since W0 w'):=fun wk h=>O1 (J6 i 2 wk hi (by decide)) h
 have eq0:IntKind.u8.wrap (IntKind.i64.wrap (184+d))=(184+d)%256:=by rw[IntKind.wrap_u8,IntKind.wrap_i64];omega
 have EQ0:=hid eq0;clear eq0;have hml:(leB i 2).length=2:=by simp[mmB,F2]
 generalize leB i 2=ys at*
 have HLEN:Hid (([(0:Int)]).length+ys.length≤100000):=by show _≤_;simp;omega
 have HPOS:Hid (0<ys.length):=by show 0<_;omega
 have HY5:Hid (ys.length≤140737488351232):=by show _≤_;omega
 clear hml;clear hi;exact q5z
theorem c9(o d s z i:Int)(vop:Value)(ops:List Int)(b:Nat)(w:World)(hc0:w.cell? ⟨b,0,none⟩=some (vop))(hv:Ints .u8 w vop ops)(ho:0<ops.length)(ho2:ops.length≤50000):Calls prog 241 #[.agg #[.int .i64 o,.int .i64 d,.int .i64 s,.int .i64 z,.int .i64 i],.pointer (some ⟨b,0,none⟩)] w fun e w'=>∃v,e= .returned v∧RowI w' w.heap.size 5 .u8 v ops∧Below w.heap.size w w':=by
 have hl0:=B6 hc0;have hn0:¬b=w.heap.size:=by omega
 have HB:=hid ((Below.refl w.heap.size w).alloc (Nat.le_refl _) (.cells #[.int .i64 o,.int .i64 d,.int .i64 s,.int .i64 z,.int .i64 i] 89));obtain⟨W0,hW0⟩:∃W,w.alloc (.cells #[.int .i64 o,.int .i64 d,.int .i64 s,.int .i64 z,.int .i64 i] 89)=W:=⟨_,rfl⟩
 have p0:∀wk,Since W0 wk→wk.cell? ⟨b,0,none⟩=some (vop):=fun wk h=>h.cell (by rw[←hW0];exact E3 hc0)
 have h00:=Since.refl W0;rw[hW0]at HB;have C0:Hid (∀wk,Since W0 wk→Calls prog 109 #[vop] wk fun e w'=>∃v,e= .returned v∧RowI w' W0.heap.size 5 .u8 v (ops)∧Below wk.heap.size wk w'∧Since W0 w'):=fun wk h=>O1 (r9 ops vop wk ((hv.stays (by rw[←hW0];exact(Below.refl _ _).alloc (Nat.le_refl _) _)).stays h) ho ho2) h
 have c0:=p0 _ h00;clear hv ho ho2;clear hc0 hl0 hn0;go_enter func241,ntmps241;go_wp2_with((go_at_call 109;with_reducible refine(C0.out _ (by first|assumption)).mono ?_);rintro e w1 ⟨v1,rfl,hr1,hb1,hs1⟩;have HR1:=hid hr1;clear hr1)
 go_ret;exact⟨_,rfl,HR1.out.mono HB.out.size,A8 HB.out hs1⟩
theorem q6z{p:Prop}(h:p:=by
 go_enter func236,ntmps236;go_wp2_with((with_reducible first|refine(C0.out _).mono ?_|refine(C1.out _).mono ?_);rintro e w' ⟨rfl,rfl⟩)
 clear hW0;clear p0a q1a q4a q3a sb1 sb2
 go_region_held3(fun wk=>Since W0 wk) (first|assumption|exact Since.drew (by assumption)|exact Since.next (by assumption) ((Below.refl _ _).alloc (Nat.le_refl _) _)) (first|(go_at_call 183;with_reducible refine(C2.out _).mono ?_;rintro e w' ⟨rfl,rfl⟩)|((go_at_call 163;with_reducible refine(C3.out _ (by first|assumption|exact Since.drew (by assumption)|exact Since.next (by assumption) ((Below.refl _ _).alloc (Nat.le_refl _) _))).mono ?_);rintro e w2 ⟨v2,rfl,hr2,hb2,hs2⟩;have HR2:=hid hr2;clear hr2)|((refine D0 (by rfl) _ _ _ (by rfl) W0.heap.size 5 i0 1 underlying28 hi0 hz0 hz1 hz2 (by decide) _ [129,q] (by rfl) (RowI.below (RowI.lit _ #[.int .u8 129,.int .u8 q] [129,q] .u8 5 W0.heap.size 2 (by first|exact Nat.le_refl _|exact(show Since W0 _ by assumption).size) rfl rfl (by unfold maxLen;simp)) hb2) _ ys (by rfl) (HR2.out.ints HY5.out) HPOS.out HLEN.out hs2.size ?_);intro v9 w9 hr9 hb9;have hs9:=D6 (by assumption) hb9;have HR9:=hid hr9;clear hr9)|((refine D0 (by rfl) _ _ _ (by rfl) W0.heap.size 5 i0 1 underlying28 hi0 hz0 hz1 hz2 (by decide) _ [129,q] (by rfl) (RowI.below (RowI.litd _ #[.int .u8 129,.int .u8 q] [129,q] .u8 5 W0.heap.size 2 (by first|exact Nat.le_refl _|exact(show Since W0 _ by assumption).size) rfl rfl (by unfold maxLen;simp)) hb2) _ ys (by rfl) (HR2.out.ints HY5.out) HPOS.out HLEN.out hs2.size ?_);intro v9 w9 hr9 hb9;have hs9:=D6 (by assumption) hb9;have HR9:=hid hr9;clear hr9)|((refine D0 (by rfl) _ _ _ (by rfl) W0.heap.size 5 i0 1 underlying28 hi0 hz0 hz1 hz2 (by decide) _ [129,q] (by rfl) (RowI.lit _ #[.int .u8 129,.int .u8 q] [129,q] .u8 5 W0.heap.size 2 (by first|exact Nat.le_refl _|exact(show Since W0 _ by assumption).size) rfl rfl (by unfold maxLen;simp)) _ ys (by rfl) ((HR2.out.below ((Below.refl _ _).alloc (Nat.le_refl _) _)).ints HY5.out) HPOS.out HLEN.out (Nat.le_trans hs2.size (by simp)) ?_);intro v9 w9 hr9 hb9;have hs9:=D6 (by assumption) hb9;have HR9:=hid hr9;clear hr9)|((refine D0 (by rfl) _ _ _ (by rfl) W0.heap.size 5 i0 1 underlying28 hi0 hz0 hz1 hz2 (by decide) _ [129,q] (by rfl) (RowI.litd _ #[.int .u8 129,.int .u8 q] [129,q] .u8 5 W0.heap.size 2 (by first|exact Nat.le_refl _|exact(show Since W0 _ by assumption).size) rfl rfl (by unfold maxLen;simp)) _ ys (by rfl) ((HR2.out.below (B8 ((Below.refl _ _).alloc (Nat.le_refl _) _) 1)).ints HY5.out) HPOS.out HLEN.out (Nat.le_trans hs2.size (by simp)) ?_);intro v9 w9 hr9 hb9;have hs9:=D6 (by assumption) hb9;have HR9:=hid hr9;clear hr9))
 all_goals go_wp2_with fail
 all_goals go_ret
 all_goals exact⟨_,rfl,RowI.to (RowI.mono HR9.out HB.out.size) rfl,A8 HB.out (by first|exact hs9|exact B8 hs9 1)⟩
 ):p:=h
theorem A8y{p:Prop}(h:p:=by
 go_enter func236,ntmps236;go_wp2_with((with_reducible first|refine(C0.out _).mono ?_|refine(C1.out _).mono ?_|refine(C2.out _).mono ?_);rintro e w' ⟨rfl,rfl⟩)
 clear hW0;go_ret;exact⟨_,rfl,RowI.to (RowI.lit W0 #[_,_,_] [_,_,_] .u8 5 w.heap.size 3 HB.out.size rfl rfl (by unfold maxLen;simp)) (by have:=HSG.out;simp only[List.cons.injEq,and_true,true_and];omega),HB.out.trans (((Below.refl _ W0).alloc (Nat.le_refl _) _).mono HB.out.size)⟩
 ):p:=h
theorem p6(n:Int)(w:World)(h0:0≤n)(h1:n≤4294967295):Calls prog 237 #[.int .i64 n,.int .i64 32] w fun e w'=>e= .returned (.int .i64 (sgB n 32))∧w=w':=by
 have e:sgB n 32=if 2147483648≤n then n-4294967296 else n:=rfl
 rw[e];by_cases c:2147483648≤n
 ·rw[if_pos c];have hb:(bits .and .i64 (n / 2147483648) 1==1)=true:=by rw[f9 _ 1 1 (by decide) rfl];simp;omega
  clear e;go_enter func237,ntmps237
  go_wp2
  go_ret;exact⟨rfl,rfl⟩
 ·rw[if_neg c];have hb:(bits .and .i64 (n / 2147483648) 1==1)=false:=by rw[f9 _ 1 1 (by decide) rfl];simp;omega
  clear e;go_enter func237,ntmps237
  go_wp2
  go_ret;exact⟨rfl,rfl⟩
theorem p7(n:Int)(w:World)(h0:0≤n)(h1:n≤65535):Calls prog 237 #[.int .i64 n,.int .i64 16] w fun e w'=>e= .returned (.int .i64 (sgB n 16))∧w=w':=by
 have e:sgB n 16=if 32768≤n then n-65536 else n:=rfl
 rw[e];by_cases c:32768≤n
 ·rw[if_pos c];have hb:(bits .and .i64 (n / 32768) 1==1)=true:=by rw[f9 _ 1 1 (by decide) rfl];simp;omega
  clear e;go_enter func237,ntmps237
  go_wp2
  go_ret;exact⟨rfl,rfl⟩
 ·rw[if_neg c];have hb:(bits .and .i64 (n / 32768) 1==1)=false:=by rw[f9 _ 1 1 (by decide) rfl];simp;omega
  clear e;go_enter func237,ntmps237
  go_wp2
  go_ret;exact⟨rfl,rfl⟩
theorem A0O(o d s i n:Int)(b:Nat)(w:World)(hc0:w.cell? ⟨b,0,none⟩=some (.int .i64 n))(h0:0≤i)(h1:i≤4294967295)(hs:(-128≤sgB i 32∧sgB i 32≤127)):Calls prog 236 #[.agg #[.int .i64 o,.int .i64 d,.int .i64 s,.int .i64 32,.int .i64 i],.pointer (some ⟨b,0,none⟩)] w fun e w'=>∃v,e= .returned v∧RowI w' w.heap.size 5 .u8 v [131,mrB n d,i%256]∧Below w.heap.size w w':=by
 have hl0:=B6 hc0;have hn0:¬b=w.heap.size:=by omega
 have HB:=hid ((Below.refl w.heap.size w).alloc (Nat.le_refl _) (.cells #[.int .i64 o,.int .i64 d,.int .i64 s,.int .i64 32,.int .i64 i] 89));obtain⟨W0,hW0⟩:∃W,w.alloc (.cells #[.int .i64 o,.int .i64 d,.int .i64 s,.int .i64 32,.int .i64 i] 89)=W:=⟨_,rfl⟩
 have p0:∀wk,Since W0 wk→wk.cell? ⟨b,0,none⟩=some (.int .i64 n):=fun wk h=>h.cell (by rw[←hW0];exact E3 hc0)
 have q1:∀wk,Since W0 wk→wk.cell? ⟨w.heap.size,1,none⟩=some (.int .i64 d):=fun wk h=>h.cell (by rw[←hW0];simp[go_sem])
 have q4:∀wk,Since W0 wk→wk.cell? ⟨w.heap.size,4,none⟩=some (.int .i64 i):=fun wk h=>h.cell (by rw[←hW0];simp[go_sem])
 have q3:∀wk,Since W0 wk→wk.cell? ⟨w.heap.size,3,none⟩=some (.int .i64 32):=fun wk h=>h.cell (by rw[←hW0];simp[go_sem])
 have h00:=Since.refl W0;rw[hW0]at HB;obtain⟨i0,hi0,hz0,hz1,hz2⟩:=info_parts F8;have C0:=hid (fun w=>p6 i w h0 h1);have C2:=hid (fun w=>O4 n d w);have hsg:(i<2147483648∧sgB i 32=i)∨(2147483648≤i∧sgB i 32=i-4294967296):=by have e:sgB i 32=if 2147483648≤i then i-4294967296 else i:=rfl;rw[e];split<;>omega
 have C1:=hid (fun w=>F9 (sgB i 32) (-128) 127 w);rw[show(decide (-128≤sgB i 32)&&decide (sgB i 32≤127))=true by simp;exact hs]at C1;have HSG:=hid hsg;have hsb: -2147483648≤sgB i 32∧sgB i 32≤4294967295:=by omega
 obtain⟨sb1,sb2⟩:=hsb;generalize sgB i 32=g at*
 clear hsg hs;generalize mrB n d=q at*
 clear hc0 hl0 hn0 h0 h1;have p0a:=p0 _ h00;have q1a:=q1 _ h00;have q4a:=q4 _ h00;have q3a:=q3 _ h00;exact A8y
theorem A0P(o d s i n:Int)(b:Nat)(w:World)(hc0:w.cell? ⟨b,0,none⟩=some (.int .i64 n))(h0:0≤i)(h1:i≤4294967295)(hs:¬(-128≤sgB i 32∧sgB i 32≤127)):Calls prog 236 #[.agg #[.int .i64 o,.int .i64 d,.int .i64 s,.int .i64 32,.int .i64 i],.pointer (some ⟨b,0,none⟩)] w fun e w'=>∃v,e= .returned v∧RowI w' w.heap.size 5 .u8 v (129::mrB n d::leB i 4)∧Below w.heap.size w w':=by
 have hl0:=B6 hc0;have hn0:¬b=w.heap.size:=by omega
 have HB:=hid ((Below.refl w.heap.size w).alloc (Nat.le_refl _) (.cells #[.int .i64 o,.int .i64 d,.int .i64 s,.int .i64 32,.int .i64 i] 89));obtain⟨W0,hW0⟩:∃W,w.alloc (.cells #[.int .i64 o,.int .i64 d,.int .i64 s,.int .i64 32,.int .i64 i] 89)=W:=⟨_,rfl⟩
 have p0:∀wk,Since W0 wk→wk.cell? ⟨b,0,none⟩=some (.int .i64 n):=fun wk h=>h.cell (by rw[←hW0];exact E3 hc0)
 have q1:∀wk,Since W0 wk→wk.cell? ⟨w.heap.size,1,none⟩=some (.int .i64 d):=fun wk h=>h.cell (by rw[←hW0];simp[go_sem])
 have q4:∀wk,Since W0 wk→wk.cell? ⟨w.heap.size,4,none⟩=some (.int .i64 i):=fun wk h=>h.cell (by rw[←hW0];simp[go_sem])
 have q3:∀wk,Since W0 wk→wk.cell? ⟨w.heap.size,3,none⟩=some (.int .i64 32):=fun wk h=>h.cell (by rw[←hW0];simp[go_sem])
 have h00:=Since.refl W0;rw[hW0]at HB;obtain⟨i0,hi0,hz0,hz1,hz2⟩:=info_parts F8;have C0:=hid (fun w=>p6 i w h0 h1);have C2:=hid (fun w=>O4 n d w);have hsg:(i<2147483648∧sgB i 32=i)∨(2147483648≤i∧sgB i 32=i-4294967296):=by have e:sgB i 32=if 2147483648≤i then i-4294967296 else i:=rfl;rw[e];split<;>omega
 have C1:=hid (fun w=>F9 (sgB i 32) (-128) 127 w);rw[show(decide (-128≤sgB i 32)&&decide (sgB i 32≤127))=false by rw[Bool.eq_false_iff];intro h;simp only[Bool.and_eq_true,decide_eq_true_eq]at h;exact hs h]at C1;have C3:Hid (∀wk,Since W0 wk→Calls prog 163 #[.int .i64 i,.int .i64 (IntKind.i64.wrap 4)] wk fun e w'=>∃v,e= .returned v∧RowI w' W0.heap.size 5 .u8 v (leB i 4)∧Below wk.heap.size wk w'∧Since W0 w'):=fun wk h=>O1 (J6 i 4 wk ⟨by omega,by omega⟩ (by decide)) h
 have HSG:=hid hsg;have hsb: -2147483648≤sgB i 32∧sgB i 32≤4294967295:=by omega
 obtain⟨sb1,sb2⟩:=hsb;generalize sgB i 32=g at*
 clear hsg hs;generalize mrB n d=q at*
 have hml:(leB i 4).length=4:=by simp[F2]
 generalize leB i 4=ys at*
 have HLEN:Hid (([(0:Int),0]).length+ys.length≤100000):=by show _≤_;simp;omega
 have HPOS:Hid (0<ys.length):=by show 0<_;omega
 have HY5:Hid (ys.length≤140737488351232):=by show _≤_;omega
 clear hml;clear hc0 hl0 hn0 h0 h1;have p0a:=p0 _ h00;have q1a:=q1 _ h00;have q4a:=q4 _ h00;have q3a:=q3 _ h00;exact q6z
theorem A0Q(o d s i n:Int)(b:Nat)(w:World)(hc0:w.cell? ⟨b,0,none⟩=some (.int .i64 n))(h0:0≤i)(h1:i≤65535)(hs:(-128≤sgB i 16∧sgB i 16≤127)):Calls prog 236 #[.agg #[.int .i64 o,.int .i64 d,.int .i64 s,.int .i64 16,.int .i64 i],.pointer (some ⟨b,0,none⟩)] w fun e w'=>∃v,e= .returned v∧RowI w' w.heap.size 5 .u8 v [131,mrB n d,i%256]∧Below w.heap.size w w':=by
 have hl0:=B6 hc0;have hn0:¬b=w.heap.size:=by omega
 have HB:=hid ((Below.refl w.heap.size w).alloc (Nat.le_refl _) (.cells #[.int .i64 o,.int .i64 d,.int .i64 s,.int .i64 16,.int .i64 i] 89));obtain⟨W0,hW0⟩:∃W,w.alloc (.cells #[.int .i64 o,.int .i64 d,.int .i64 s,.int .i64 16,.int .i64 i] 89)=W:=⟨_,rfl⟩
 have p0:∀wk,Since W0 wk→wk.cell? ⟨b,0,none⟩=some (.int .i64 n):=fun wk h=>h.cell (by rw[←hW0];exact E3 hc0)
 have q1:∀wk,Since W0 wk→wk.cell? ⟨w.heap.size,1,none⟩=some (.int .i64 d):=fun wk h=>h.cell (by rw[←hW0];simp[go_sem])
 have q4:∀wk,Since W0 wk→wk.cell? ⟨w.heap.size,4,none⟩=some (.int .i64 i):=fun wk h=>h.cell (by rw[←hW0];simp[go_sem])
 have q3:∀wk,Since W0 wk→wk.cell? ⟨w.heap.size,3,none⟩=some (.int .i64 16):=fun wk h=>h.cell (by rw[←hW0];simp[go_sem])
 have h00:=Since.refl W0;rw[hW0]at HB;obtain⟨i0,hi0,hz0,hz1,hz2⟩:=info_parts F8;have C0:=hid (fun w=>p7 i w h0 h1);have C2:=hid (fun w=>O4 n d w);have hsg:(i<32768∧sgB i 16=i)∨(32768≤i∧sgB i 16=i-65536):=by have e:sgB i 16=if 32768≤i then i-65536 else i:=rfl;rw[e];split<;>omega
 have C1:=hid (fun w=>F9 (sgB i 16) (-128) 127 w);rw[show(decide (-128≤sgB i 16)&&decide (sgB i 16≤127))=true by simp;exact hs]at C1;have HSG:=hid hsg;have hsb: -2147483648≤sgB i 16∧sgB i 16≤4294967295:=by omega
 obtain⟨sb1,sb2⟩:=hsb;generalize sgB i 16=g at*
 clear hsg hs;generalize mrB n d=q at*
 clear hc0 hl0 hn0 h0 h1;have p0a:=p0 _ h00;have q1a:=q1 _ h00;have q4a:=q4 _ h00;have q3a:=q3 _ h00;exact A8y
theorem A0R(o d s i n:Int)(b:Nat)(w:World)(hc0:w.cell? ⟨b,0,none⟩=some (.int .i64 n))(h0:0≤i)(h1:i≤65535)(hs:¬(-128≤sgB i 16∧sgB i 16≤127)):Calls prog 236 #[.agg #[.int .i64 o,.int .i64 d,.int .i64 s,.int .i64 16,.int .i64 i],.pointer (some ⟨b,0,none⟩)] w fun e w'=>∃v,e= .returned v∧RowI w' w.heap.size 5 .u8 v (129::mrB n d::leB i 2)∧Below w.heap.size w w':=by
 have hl0:=B6 hc0;have hn0:¬b=w.heap.size:=by omega
 have HB:=hid ((Below.refl w.heap.size w).alloc (Nat.le_refl _) (.cells #[.int .i64 o,.int .i64 d,.int .i64 s,.int .i64 16,.int .i64 i] 89));obtain⟨W0,hW0⟩:∃W,w.alloc (.cells #[.int .i64 o,.int .i64 d,.int .i64 s,.int .i64 16,.int .i64 i] 89)=W:=⟨_,rfl⟩
 have p0:∀wk,Since W0 wk→wk.cell? ⟨b,0,none⟩=some (.int .i64 n):=fun wk h=>h.cell (by rw[←hW0];exact E3 hc0)
 have q1:∀wk,Since W0 wk→wk.cell? ⟨w.heap.size,1,none⟩=some (.int .i64 d):=fun wk h=>h.cell (by rw[←hW0];simp[go_sem])
 have q4:∀wk,Since W0 wk→wk.cell? ⟨w.heap.size,4,none⟩=some (.int .i64 i):=fun wk h=>h.cell (by rw[←hW0];simp[go_sem])
 have q3:∀wk,Since W0 wk→wk.cell? ⟨w.heap.size,3,none⟩=some (.int .i64 16):=fun wk h=>h.cell (by rw[←hW0];simp[go_sem])
 have h00:=Since.refl W0;rw[hW0]at HB;obtain⟨i0,hi0,hz0,hz1,hz2⟩:=info_parts F8;have C0:=hid (fun w=>p7 i w h0 h1);have C2:=hid (fun w=>O4 n d w);have hsg:(i<32768∧sgB i 16=i)∨(32768≤i∧sgB i 16=i-65536):=by have e:sgB i 16=if 32768≤i then i-65536 else i:=rfl;rw[e];split<;>omega
 have C1:=hid (fun w=>F9 (sgB i 16) (-128) 127 w);rw[show(decide (-128≤sgB i 16)&&decide (sgB i 16≤127))=false by rw[Bool.eq_false_iff];intro h;simp only[Bool.and_eq_true,decide_eq_true_eq]at h;exact hs h]at C1;have C3:Hid (∀wk,Since W0 wk→Calls prog 163 #[.int .i64 i,.int .i64 (IntKind.i64.wrap 2)] wk fun e w'=>∃v,e= .returned v∧RowI w' W0.heap.size 5 .u8 v (leB i 2)∧Below wk.heap.size wk w'∧Since W0 w'):=fun wk h=>O1 (J6 i 2 wk ⟨by omega,by omega⟩ (by decide)) h
 have HSG:=hid hsg;have hsb: -2147483648≤sgB i 16∧sgB i 16≤4294967295:=by omega
 obtain⟨sb1,sb2⟩:=hsb;generalize sgB i 16=g at*
 clear hsg hs;generalize mrB n d=q at*
 have hml:(leB i 2).length=2:=by simp[F2]
 generalize leB i 2=ys at*
 have HLEN:Hid (([(0:Int),0]).length+ys.length≤100000):=by show _≤_;simp;omega
 have HPOS:Hid (0<ys.length):=by show 0<_;omega
 have HY5:Hid (ys.length≤140737488351232):=by show _≤_;omega
 clear hml;clear hc0 hl0 hn0 h0 h1;have p0a:=p0 _ h00;have q1a:=q1 _ h00;have q4a:=q4 _ h00;have q3a:=q3 _ h00;exact q6z
end Go.Proofs.YtajljbmeaeeknaaGreat
