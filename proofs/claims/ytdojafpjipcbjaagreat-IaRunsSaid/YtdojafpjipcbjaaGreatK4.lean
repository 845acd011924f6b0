/- -/
import Derived.Test.YtdojafpjipcbjaaGreatK3
open Go.Proofs.Tryz
open Go.Lib (hid)
set_option maxHeartbeats 1000000
set_option maxRecDepth 100000
namespace Go.Proofs.YtdojafpjipcbjaaGreat
open Go.RowKit
set_option linter.unusedVariables false
set_option linter.unusedSimpArgs false
theorem A1T(o d s i:Int)(b b2:Nat)(w:World)(hc0:w.cell? ⟨b,0,none⟩=some (.func (.func 141) #[] #[]))(hc1:w.cell? ⟨b2,0,none⟩=some (.func (.func 142) #[] #[]))(h1:0≤s)(h2:s≤15):Calls prog 179 #[.agg #[.int .i64 o,.int .i64 d,.int .i64 s,.int .i64 8,.int .i64 i],.pointer (some ⟨b,0,none⟩),.pointer (some ⟨b2,0,none⟩)] w fun e w'=>∃v,e= .returned v∧RowI w' w.heap.size 5 .u8 v ([(112+s)%256]++[i%256])∧Below w.heap.size w w':=by
 have hl0:=F0 hc0;have hn0:¬b=w.heap.size:=by omega
 have hl1:=F0 hc1;have hn1:¬b2=w.heap.size:=by omega
 have HB:=hid ((Below.refl w.heap.size w).alloc (Nat.le_refl _) (.cells #[.int .i64 o,.int .i64 d,.int .i64 s,.int .i64 8,.int .i64 i] 61));obtain⟨W0,hW0⟩:∃W,w.alloc (.cells #[.int .i64 o,.int .i64 d,.int .i64 s,.int .i64 8,.int .i64 i] 61)=W:=⟨_,rfl⟩
 have p0:∀wk,Since W0 wk→wk.cell? ⟨b,0,none⟩=some (.func (.func 141) #[] #[]):=fun wk h=>h.cell (by rw[←hW0];exact F1 hc0)
 have p1:∀wk,Since W0 wk→wk.cell? ⟨b2,0,none⟩=some (.func (.func 142) #[] #[]):=fun wk h=>h.cell (by rw[←hW0];exact F1 hc1)
 have q0:∀wk,Since W0 wk→wk.cell? ⟨w.heap.size,0,none⟩=some (.int .i64 o):=fun wk h=>h.cell (by rw[←hW0];simp[go_sem])
 have q1:∀wk,Since W0 wk→wk.cell? ⟨w.heap.size,1,none⟩=some (.int .i64 d):=fun wk h=>h.cell (by rw[←hW0];simp[go_sem])
 have q2:∀wk,Since W0 wk→wk.cell? ⟨w.heap.size,2,none⟩=some (.int .i64 s):=fun wk h=>h.cell (by rw[←hW0];simp[go_sem])
 have q4:∀wk,Since W0 wk→wk.cell? ⟨w.heap.size,4,none⟩=some (.int .i64 i):=fun wk h=>h.cell (by rw[←hW0];simp[go_sem])
 have q3:∀wk,Since W0 wk→wk.cell? ⟨w.heap.size,3,none⟩=some (.int .i64 8):=fun wk h=>h.cell (by rw[←hW0];simp[go_sem])
 have h00:=Since.refl W0;rw[hW0]at HB;obtain⟨i0,hi0,hz0,hz1,hz2⟩:=info_parts G4;have C0:Hid (∀wk,Since W0 wk→Calls prog 141 #[.agg #[.int .i64 o,.int .i64 d,.int .i64 s,.int .i64 8,.int .i64 i]] wk fun e w'=>∃v,e= .returned v∧RowI w' W0.heap.size 5 .u8 v ([(112+s)%256])∧Below wk.heap.size wk w'∧Since W0 w'):=fun wk h=>J4 (A5T o d s 8 i wk h1 h2) h
 have eq0:IntKind.u8.wrap i=i%256:=IntKind.wrap_u8 i;have EQ0:=hid eq0;clear eq0;have h7:=q3 _ h00;have hml:([(112+s)%256]).length=1:=rfl;generalize[(112+s)%256]=xs at*
 have HLEN:Hid (xs.length+([IntKind.u8.wrap i]).length≤100000):=by show _≤_;simp;omega
 clear hml;clear h1 h2;clear hc0 hl0 hn0;clear hc1 hl1 hn1;go_enter func179,ntmps179;go_wp2_with fail
 clear hW0 h7
 go_region_held3(fun wk=>Since W0 wk) (first|assumption|exact Since.drew (by assumption)|exact Since.next (by assumption) ((Below.refl _ _).alloc (Nat.le_refl _) _)) (first|((go_at_call 141;with_reducible refine(C0.out _ (by first|assumption|exact Since.drew (by assumption)|exact Since.next (by assumption) ((Below.refl _ _).alloc (Nat.le_refl _) _))).mono ?_);rintro e w1 ⟨v1,rfl,hr1,hb1,hs1⟩;have HR1:=hid hr1;clear hr1)|((refine C7 (by rfl) _ _ _ (by rfl) W0.heap.size 5 i0 1 underlying24 hi0 hz0 hz1 hz2 (by decide) _ xs (by rfl) (HR1.out.below ((Below.refl _ _).alloc (Nat.le_refl _) _)) _ [IntKind.u8.wrap i] (by rfl) (RowI.ints (RowI.lit _ #[.int .u8 (IntKind.u8.wrap i)] [IntKind.u8.wrap i] .u8 5 W0.heap.size 1 (by first|exact Nat.le_refl _|exact(show Since W0 _ by assumption).size) rfl rfl (by unfold maxLen;simp)) (by simp)) (by simp) HLEN.out (Nat.le_trans hs1.size (by simp)) ?_);intro v9 w9 hr9 hb9;have hs9:=B3 (by assumption) hb9;have HR9:=hid hr9;clear hr9)|((refine C7 (by rfl) _ _ _ (by rfl) W0.heap.size 5 i0 1 underlying24 hi0 hz0 hz1 hz2 (by decide) _ xs (by rfl) HR1.out _ [IntKind.u8.wrap i] (by rfl) (RowI.ints (RowI.below (RowI.lit _ #[.int .u8 (IntKind.u8.wrap i)] [IntKind.u8.wrap i] .u8 5 W0.heap.size 1 (by first|exact Nat.le_refl _|exact(show Since W0 _ by assumption).size) rfl rfl (by unfold maxLen;simp)) hb1) (by simp)) (by simp) HLEN.out hs1.size ?_);intro v9 w9 hr9 hb9;have hs9:=B3 (by assumption) hb9;have HR9:=hid hr9;clear hr9)|((refine C7 (by rfl) _ _ _ (by rfl) W0.heap.size 5 i0 1 underlying24 hi0 hz0 hz1 hz2 (by decide) _ xs (by rfl) (HR1.out.below (A9 ((Below.refl _ _).alloc (Nat.le_refl _) _) 1)) _ [IntKind.u8.wrap i] (by rfl) (RowI.ints (RowI.litd _ #[.int .u8 (IntKind.u8.wrap i)] [IntKind.u8.wrap i] .u8 5 W0.heap.size 1 (by first|exact Nat.le_refl _|exact(show Since W0 _ by assumption).size) rfl rfl (by unfold maxLen;simp)) (by simp)) (by simp) HLEN.out (Nat.le_trans hs1.size (by simp)) ?_);intro v9 w9 hr9 hb9;have hs9:=B3 (by assumption) hb9;have HR9:=hid hr9;clear hr9)|((refine C7 (by rfl) _ _ _ (by rfl) W0.heap.size 5 i0 1 underlying24 hi0 hz0 hz1 hz2 (by decide) _ xs (by rfl) HR1.out _ [IntKind.u8.wrap i] (by rfl) (RowI.ints (RowI.below (RowI.litd _ #[.int .u8 (IntKind.u8.wrap i)] [IntKind.u8.wrap i] .u8 5 W0.heap.size 1 (by first|exact Nat.le_refl _|exact(show Since W0 _ by assumption).size) rfl rfl (by unfold maxLen;simp)) hb1) (by simp)) (by simp) HLEN.out hs1.size ?_);intro v9 w9 hr9 hb9;have hs9:=B3 (by assumption) hb9;have HR9:=hid hr9;clear hr9))
 all_goals go_wp2_with fail
 all_goals go_ret
 all_goals exact⟨_,rfl,RowI.to (RowI.mono HR9.out HB.out.size) (by rw[EQ0.out]),A2 HB.out (by first|exact hs9|exact A9 hs9 1)⟩
theorem A0Y(o d s i:Int)(b b2:Nat)(w:World)(hc0:w.cell? ⟨b,0,none⟩=some (.func (.func 141) #[] #[]))(hc1:w.cell? ⟨b2,0,none⟩=some (.func (.func 142) #[] #[]))(h1:0≤s)(h2:s≤15)(hi:I64 i):Calls prog 179 #[.agg #[.int .i64 o,.int .i64 d,.int .i64 s,.int .i64 32,.int .i64 i],.pointer (some ⟨b,0,none⟩),.pointer (some ⟨b2,0,none⟩)] w fun e w'=>∃v,e= .returned v∧RowI w' w.heap.size 5 .u8 v ([15,(128+s)%256]++leB i 4)∧Below w.heap.size w w':=by
 have hl0:=F0 hc0;have hn0:¬b=w.heap.size:=by omega
 have hl1:=F0 hc1;have hn1:¬b2=w.heap.size:=by omega
 have HB:=hid ((Below.refl w.heap.size w).alloc (Nat.le_refl _) (.cells #[.int .i64 o,.int .i64 d,.int .i64 s,.int .i64 32,.int .i64 i] 61));obtain⟨W0,hW0⟩:∃W,w.alloc (.cells #[.int .i64 o,.int .i64 d,.int .i64 s,.int .i64 32,.int .i64 i] 61)=W:=⟨_,rfl⟩
 have p0:∀wk,Since W0 wk→wk.cell? ⟨b,0,none⟩=some (.func (.func 141) #[] #[]):=fun wk h=>h.cell (by rw[←hW0];exact F1 hc0)
 have p1:∀wk,Since W0 wk→wk.cell? ⟨b2,0,none⟩=some (.func (.func 142) #[] #[]):=fun wk h=>h.cell (by rw[←hW0];exact F1 hc1)
 have q0:∀wk,Since W0 wk→wk.cell? ⟨w.heap.size,0,none⟩=some (.int .i64 o):=fun wk h=>h.cell (by rw[←hW0];simp[go_sem])
 have q1:∀wk,Since W0 wk→wk.cell? ⟨w.heap.size,1,none⟩=some (.int .i64 d):=fun wk h=>h.cell (by rw[←hW0];simp[go_sem])
 have q2:∀wk,Since W0 wk→wk.cell? ⟨w.heap.size,2,none⟩=some (.int .i64 s):=fun wk h=>h.cell (by rw[←hW0];simp[go_sem])
 have q4:∀wk,Since W0 wk→wk.cell? ⟨w.heap.size,4,none⟩=some (.int .i64 i):=fun wk h=>h.cell (by rw[←hW0];simp[go_sem])
 have q3:∀wk,Since W0 wk→wk.cell? ⟨w.heap.size,3,none⟩=some (.int .i64 32):=fun wk h=>h.cell (by rw[←hW0];simp[go_sem])
 have h00:=Since.refl W0;rw[hW0]at HB;obtain⟨i0,hi0,hz0,hz1,hz2⟩:=info_parts G4;have C0:Hid (∀wk,Since W0 wk→Calls prog 142 #[.agg #[.int .i64 o,.int .i64 d,.int .i64 s,.int .i64 32,.int .i64 i]] wk fun e w'=>∃v,e= .returned v∧RowI w' W0.heap.size 5 .u8 v ([15,(128+s)%256])∧Below wk.heap.size wk w'∧Since W0 w'):=fun wk h=>J4 (A5U o d s 32 i wk h1 h2) h
 have C1:Hid (∀wk,Since W0 wk→Calls prog 75 #[.int .i64 i,.int .i64 4] wk fun e w'=>∃v,e= .returned v∧RowI w' W0.heap.size 5 .u8 v (leB i 4)∧Below wk.heap.size wk w'∧Since W0 w'):=fun wk h=>J4 (G7 i 4 wk hi (by decide)) h
 have h7:=q3 _ h00;have hml:(leB i 4).length=4:=by simp[A3]
 have hxl:([15,(128+s)%256]).length≤2:=by simp
 generalize[15,(128+s)%256]=xs at*
 generalize leB i 4=ys at*
 have HLEN:Hid (xs.length+ys.length≤100000):=by show _≤_;omega
 have HPOS:Hid (0<ys.length):=by show 0<_;omega
 have HY5:Hid (ys.length≤140737488351232):=by show _≤_;omega
 clear hml hxl hi;clear h1 h2;clear hc0 hl0 hn0;clear hc1 hl1 hn1;go_enter func179,ntmps179;go_wp2_with fail
 clear hW0 h7
 go_region_held3(fun wk=>Since W0 wk) (first|assumption|exact Since.drew (by assumption)|exact Since.next (by assumption) ((Below.refl _ _).alloc (Nat.le_refl _) _)) (first|((go_at_call 142;with_reducible refine(C0.out _ (by first|assumption|exact Since.drew (by assumption)|exact Since.next (by assumption) ((Below.refl _ _).alloc (Nat.le_refl _) _))).mono ?_);rintro e w1 ⟨v1,rfl,hr1,hb1,hs1⟩;have HR1:=hid hr1;clear hr1)|((go_at_call 75;with_reducible refine(C1.out _ (by first|assumption|exact Since.drew (by assumption)|exact Since.next (by assumption) ((Below.refl _ _).alloc (Nat.le_refl _) _))).mono ?_);rintro e w2 ⟨v2,rfl,hr2,hb2,hs2⟩;have HR2:=hid hr2;clear hr2)|((refine C7 (by rfl) _ _ _ (by rfl) W0.heap.size 5 i0 1 underlying24 hi0 hz0 hz1 hz2 (by decide) _ xs (by rfl) (HR1.out.below hb2) _ ys (by rfl) (HR2.out.ints HY5.out) HPOS.out HLEN.out hs2.size ?_);intro v9 w9 hr9 hb9;have hs9:=B3 (by assumption) hb9;have HR9:=hid hr9;clear hr9))
 all_goals go_wp2_with fail
 all_goals go_ret
 all_goals exact⟨_,rfl,RowI.mono HR9.out HB.out.size,A2 HB.out (by first|exact hs9|exact A9 hs9 1)⟩
theorem A1S(o d s i:Int)(b b2:Nat)(w:World)(hc0:w.cell? ⟨b,0,none⟩=some (.func (.func 144) #[] #[]))(hc1:w.cell? ⟨b2,0,none⟩=some (.func (.func 145) #[] #[])):Calls prog 179 #[.agg #[.int .i64 o,.int .i64 d,.int .i64 s,.int .i64 8,.int .i64 i],.pointer (some ⟨b,0,none⟩),.pointer (some ⟨b2,0,none⟩)] w fun e w'=>∃v,e= .returned v∧RowI w' w.heap.size 5 .u8 v (([235]:List Int)++[i%256])∧Below w.heap.size w w':=by
 have hl0:=F0 hc0;have hn0:¬b=w.heap.size:=by omega
 have hl1:=F0 hc1;have hn1:¬b2=w.heap.size:=by omega
 have HB:=hid ((Below.refl w.heap.size w).alloc (Nat.le_refl _) (.cells #[.int .i64 o,.int .i64 d,.int .i64 s,.int .i64 8,.int .i64 i] 61));obtain⟨W0,hW0⟩:∃W,w.alloc (.cells #[.int .i64 o,.int .i64 d,.int .i64 s,.int .i64 8,.int .i64 i] 61)=W:=⟨_,rfl⟩
 have p0:∀wk,Since W0 wk→wk.cell? ⟨b,0,none⟩=some (.func (.func 144) #[] #[]):=fun wk h=>h.cell (by rw[←hW0];exact F1 hc0)
 have p1:∀wk,Since W0 wk→wk.cell? ⟨b2,0,none⟩=some (.func (.func 145) #[] #[]):=fun wk h=>h.cell (by rw[←hW0];exact F1 hc1)
 have q0:∀wk,Since W0 wk→wk.cell? ⟨w.heap.size,0,none⟩=some (.int .i64 o):=fun wk h=>h.cell (by rw[←hW0];simp[go_sem])
 have q1:∀wk,Since W0 wk→wk.cell? ⟨w.heap.size,1,none⟩=some (.int .i64 d):=fun wk h=>h.cell (by rw[←hW0];simp[go_sem])
 have q2:∀wk,Since W0 wk→wk.cell? ⟨w.heap.size,2,none⟩=some (.int .i64 s):=fun wk h=>h.cell (by rw[←hW0];simp[go_sem])
 have q4:∀wk,Since W0 wk→wk.cell? ⟨w.heap.size,4,none⟩=some (.int .i64 i):=fun wk h=>h.cell (by rw[←hW0];simp[go_sem])
 have q3:∀wk,Since W0 wk→wk.cell? ⟨w.heap.size,3,none⟩=some (.int .i64 8):=fun wk h=>h.cell (by rw[←hW0];simp[go_sem])
 have h00:=Since.refl W0;rw[hW0]at HB;obtain⟨i0,hi0,hz0,hz1,hz2⟩:=info_parts G4;have C0:Hid (∀wk,Since W0 wk→Calls prog 144 #[.agg #[.int .i64 o,.int .i64 d,.int .i64 s,.int .i64 8,.int .i64 i]] wk fun e w'=>∃v,e= .returned v∧RowI w' W0.heap.size 5 .u8 v (([235]:List Int))∧Below wk.heap.size wk w'∧Since W0 w'):=fun wk h=>J4 (A5R o d s 8 i wk) h
 have eq0:IntKind.u8.wrap i=i%256:=IntKind.wrap_u8 i;have EQ0:=hid eq0;clear eq0;have h7:=q3 _ h00;have hml:(([235]:List Int)).length=1:=rfl;generalize([235]:List Int)=xs at*
 have HLEN:Hid (xs.length+([IntKind.u8.wrap i]).length≤100000):=by show _≤_;simp;omega
 clear hml;clear hc0 hl0 hn0;clear hc1 hl1 hn1;go_enter func179,ntmps179;go_wp2_with fail
 clear hW0 h7
 go_region_held3(fun wk=>Since W0 wk) (first|assumption|exact Since.drew (by assumption)|exact Since.next (by assumption) ((Below.refl _ _).alloc (Nat.le_refl _) _)) (first|((go_at_call 144;with_reducible refine(C0.out _ (by first|assumption|exact Since.drew (by assumption)|exact Since.next (by assumption) ((Below.refl _ _).alloc (Nat.le_refl _) _))).mono ?_);rintro e w1 ⟨v1,rfl,hr1,hb1,hs1⟩;have HR1:=hid hr1;clear hr1)|((refine C7 (by rfl) _ _ _ (by rfl) W0.heap.size 5 i0 1 underlying24 hi0 hz0 hz1 hz2 (by decide) _ xs (by rfl) (HR1.out.below ((Below.refl _ _).alloc (Nat.le_refl _) _)) _ [IntKind.u8.wrap i] (by rfl) (RowI.ints (RowI.lit _ #[.int .u8 (IntKind.u8.wrap i)] [IntKind.u8.wrap i] .u8 5 W0.heap.size 1 (by first|exact Nat.le_refl _|exact(show Since W0 _ by assumption).size) rfl rfl (by unfold maxLen;simp)) (by simp)) (by simp) HLEN.out (Nat.le_trans hs1.size (by simp)) ?_);intro v9 w9 hr9 hb9;have hs9:=B3 (by assumption) hb9;have HR9:=hid hr9;clear hr9)|((refine C7 (by rfl) _ _ _ (by rfl) W0.heap.size 5 i0 1 underlying24 hi0 hz0 hz1 hz2 (by decide) _ xs (by rfl) HR1.out _ [IntKind.u8.wrap i] (by rfl) (RowI.ints (RowI.below (RowI.lit _ #[.int .u8 (IntKind.u8.wrap i)] [IntKind.u8.wrap i] .u8 5 W0.heap.size 1 (by first|exact Nat.le_refl _|exact(show Since W0 _ by assumption).size) rfl rfl (by unfold maxLen;simp)) hb1) (by simp)) (by simp) HLEN.out hs1.size ?_);intro v9 w9 hr9 hb9;have hs9:=B3 (by assumption) hb9;have HR9:=hid hr9;clear hr9)|((refine C7 (by rfl) _ _ _ (by rfl) W0.heap.size 5 i0 1 underlying24 hi0 hz0 hz1 hz2 (by decide) _ xs (by rfl) (HR1.out.below (A9 ((Below.refl _ _).alloc (Nat.le_refl _) _) 1)) _ [IntKind.u8.wrap i] (by rfl) (RowI.ints (RowI.litd _ #[.int .u8 (IntKind.u8.wrap i)] [IntKind.u8.wrap i] .u8 5 W0.heap.size 1 (by first|exact Nat.le_refl _|exact(show Since W0 _ by assumption).size) rfl rfl (by unfold maxLen;simp)) (by simp)) (by simp) HLEN.out (Nat.le_trans hs1.size (by simp)) ?_);intro v9 w9 hr9 hb9;have hs9:=B3 (by assumption) hb9;have HR9:=hid hr9;clear hr9)|((refine C7 (by rfl) _ _ _ (by rfl) W0.heap.size 5 i0 1 underlying24 hi0 hz0 hz1 hz2 (by decide) _ xs (by rfl) HR1.out _ [IntKind.u8.wrap i] (by rfl) (RowI.ints (RowI.below (RowI.litd _ #[.int .u8 (IntKind.u8.wrap i)] [IntKind.u8.wrap i] .u8 5 W0.heap.size 1 (by first|exact Nat.le_refl _|exact(show Since W0 _ by assumption).size) rfl rfl (by unfold maxLen;simp)) hb1) (by simp)) (by simp) HLEN.out hs1.size ?_);intro v9 w9 hr9 hb9;have hs9:=B3 (by assumption) hb9;have HR9:=hid hr9;clear hr9))
 all_goals go_wp2_with fail
 all_goals go_ret
 all_goals exact⟨_,rfl,RowI.to (RowI.mono HR9.out HB.out.size) (by rw[EQ0.out]),A2 HB.out (by first|exact hs9|exact A9 hs9 1)⟩
theorem A0X(o d s i:Int)(b b2:Nat)(w:World)(hc0:w.cell? ⟨b,0,none⟩=some (.func (.func 144) #[] #[]))(hc1:w.cell? ⟨b2,0,none⟩=some (.func (.func 145) #[] #[]))(hi:I64 i):Calls prog 179 #[.agg #[.int .i64 o,.int .i64 d,.int .i64 s,.int .i64 32,.int .i64 i],.pointer (some ⟨b,0,none⟩),.pointer (some ⟨b2,0,none⟩)] w fun e w'=>∃v,e= .returned v∧RowI w' w.heap.size 5 .u8 v (([233]:List Int)++leB i 4)∧Below w.heap.size w w':=by
 have hl0:=F0 hc0;have hn0:¬b=w.heap.size:=by omega
 have hl1:=F0 hc1;have hn1:¬b2=w.heap.size:=by omega
 have HB:=hid ((Below.refl w.heap.size w).alloc (Nat.le_refl _) (.cells #[.int .i64 o,.int .i64 d,.int .i64 s,.int .i64 32,.int .i64 i] 61));obtain⟨W0,hW0⟩:∃W,w.alloc (.cells #[.int .i64 o,.int .i64 d,.int .i64 s,.int .i64 32,.int .i64 i] 61)=W:=⟨_,rfl⟩
 have p0:∀wk,Since W0 wk→wk.cell? ⟨b,0,none⟩=some (.func (.func 144) #[] #[]):=fun wk h=>h.cell (by rw[←hW0];exact F1 hc0)
 have p1:∀wk,Since W0 wk→wk.cell? ⟨b2,0,none⟩=some (.func (.func 145) #[] #[]):=fun wk h=>h.cell (by rw[←hW0];exact F1 hc1)
 have q0:∀wk,Since W0 wk→wk.cell? ⟨w.heap.size,0,none⟩=some (.int .i64 o):=fun wk h=>h.cell (by rw[←hW0];simp[go_sem])
 have q1:∀wk,Since W0 wk→wk.cell? ⟨w.heap.size,1,none⟩=some (.int .i64 d):=fun wk h=>h.cell (by rw[←hW0];simp[go_sem])
 have q2:∀wk,Since W0 wk→wk.cell? ⟨w.heap.size,2,none⟩=some (.int .i64 s):=fun wk h=>h.cell (by rw[←hW0];simp[go_sem])
 have q4:∀wk,Since W0 wk→wk.cell? ⟨w.heap.size,4,none⟩=some (.int .i64 i):=fun wk h=>h.cell (by rw[←hW0];simp[go_sem])
 have q3:∀wk,Since W0 wk→wk.cell? ⟨w.heap.size,3,none⟩=some (.int .i64 32):=fun wk h=>h.cell (by rw[←hW0];simp[go_sem])
 have h00:=Since.refl W0;rw[hW0]at HB;obtain⟨i0,hi0,hz0,hz1,hz2⟩:=info_parts G4;have C0:Hid (∀wk,Since W0 wk→Calls prog 145 #[.agg #[.int .i64 o,.int .i64 d,.int .i64 s,.int .i64 32,.int .i64 i]] wk fun e w'=>∃v,e= .returned v∧RowI w' W0.heap.size 5 .u8 v (([233]:List Int))∧Below wk.heap.size wk w'∧Since W0 w'):=fun wk h=>J4 (A5S o d s 32 i wk) h
 have C1:Hid (∀wk,Since W0 wk→Calls prog 75 #[.int .i64 i,.int .i64 4] wk fun e w'=>∃v,e= .returned v∧RowI w' W0.heap.size 5 .u8 v (leB i 4)∧Below wk.heap.size wk w'∧Since W0 w'):=fun wk h=>J4 (G7 i 4 wk hi (by decide)) h
 have h7:=q3 _ h00;have hml:(leB i 4).length=4:=by simp[A3]
 have hxl:(([233]:List Int)).length≤2:=by simp
 generalize([233]:List Int)=xs at*
 generalize leB i 4=ys at*
 have HLEN:Hid (xs.length+ys.length≤100000):=by show _≤_;omega
 have HPOS:Hid (0<ys.length):=by show 0<_;omega
 have HY5:Hid (ys.length≤140737488351232):=by show _≤_;omega
 clear hml hxl hi;clear hc0 hl0 hn0;clear hc1 hl1 hn1;go_enter func179,ntmps179;go_wp2_with fail
 clear hW0 h7
 go_region_held3(fun wk=>Since W0 wk) (first|assumption|exact Since.drew (by assumption)|exact Since.next (by assumption) ((Below.refl _ _).alloc (Nat.le_refl _) _)) (first|((go_at_call 145;with_reducible refine(C0.out _ (by first|assumption|exact Since.drew (by assumption)|exact Since.next (by assumption) ((Below.refl _ _).alloc (Nat.le_refl _) _))).mono ?_);rintro e w1 ⟨v1,rfl,hr1,hb1,hs1⟩;have HR1:=hid hr1;clear hr1)|((go_at_call 75;with_reducible refine(C1.out _ (by first|assumption|exact Since.drew (by assumption)|exact Since.next (by assumption) ((Below.refl _ _).alloc (Nat.le_refl _) _))).mono ?_);rintro e w2 ⟨v2,rfl,hr2,hb2,hs2⟩;have HR2:=hid hr2;clear hr2)|((refine C7 (by rfl) _ _ _ (by rfl) W0.heap.size 5 i0 1 underlying24 hi0 hz0 hz1 hz2 (by decide) _ xs (by rfl) (HR1.out.below hb2) _ ys (by rfl) (HR2.out.ints HY5.out) HPOS.out HLEN.out hs2.size ?_);intro v9 w9 hr9 hb9;have hs9:=B3 (by assumption) hb9;have HR9:=hid hr9;clear hr9))
 all_goals go_wp2_with fail
 all_goals go_ret
 all_goals exact⟨_,rfl,RowI.mono HR9.out HB.out.size,A2 HB.out (by first|exact hs9|exact A9 hs9 1)⟩
def blk(w:World)(b:Nat)(cs:Array Value)(t:TypeId):Prop:=w.heap[b]? =some (.cells cs t (0,0))
theorem D3{w:World}{b:Nat}{cs:Array Value}{t:TypeId}(h:blk w b cs t):b<w.heap.size:=by
 rcases Nat.lt_or_ge b w.heap.size with c|c
 ·exact c
 ·unfold blk at h;rw[Array.getElem?_eq_none c]at h;cases h
theorem E6{w:World}{b:Nat}{cs:Array Value}{t:TypeId}(h:b=w.heap.size):blk (w.alloc (.cells cs t)) b cs t:=by subst h;exact Array.getElem?_push_size
theorem E9{w:World}{b:Nat}{cs:Array Value}{t:TypeId}{ob:Obj}(h:blk w b cs t):blk (w.alloc ob) b cs t:=by
 have:=D3 h;unfold blk at*
 rw[←h];exact Below.heap_alloc w ob b this
theorem I0{w w':World}{b:Nat}{cs:Array Value}{t:TypeId}(h:blk w b cs t)(hb:Below w.heap.size w w'):blk w' b cs t:=by
 unfold blk at*;rw[←h];exact hb.block b (D3 h)
theorem D4{w:World}{b:Nat}{cs:Array Value}{t:TypeId}(h:blk w b cs t)(i:Nat):w.cell? ⟨b,i,none⟩=cs[i]? :=by
 unfold blk at h;simp[World.cell?,h]
theorem A2U(c:Int)(w:World):Calls prog 118 #[.int .u8 c] w fun e w'=>∃b g,e= .returned (.agg #[.func (.func 162) #[] #[],.slice (some ⟨g,0,none⟩) 2 2,.func (.func 163) #[] #[.pointer (some ⟨b,0,none⟩)]])∧blk w' b #[.int .u8 c] 5∧blk w' g #[.int .i64 32,.int .i64 16] 3∧w.heap.size≤b∧b<w'.heap.size∧w.heap.size≤g∧g<w'.heap.size∧Below w.heap.size w w':=by
 go_enter func118,ntmps118;go_wp2_with fail
 exact bodyPost_ret (v:=.agg #[.func (.func 162) #[] #[],.slice (some ⟨(w.heap.size+1+1),0,none⟩) 2 2,.func (.func 163) #[] #[.pointer (some ⟨w.heap.size,0,none⟩)]]) (by simp[results,results118,go_sem]) rfl ⟨w.heap.size,(w.heap.size+1+1),rfl,by repeat(first|exact E6 (by simp)|refine E9 ?_),by repeat(first|exact E6 (by simp)|refine E9 ?_),by omega,by simp<;>omega,by omega,by simp<;>omega,by repeat(first|with_reducible exact Below.refl _ _|with_reducible refine Below.alloc ?_ (by simp<;>omega) _)⟩
theorem A0A(oa:Option Addr)(on oc:Nat)(w:World):Calls prog 124 #[.slice oa on oc] w fun e w'=>∃b g,e= .returned (.agg #[.func (.func 164) #[] #[],.slice (some ⟨g,0,none⟩) 1 1,.func (.func 167) #[] #[.pointer (some ⟨b,0,none⟩)]])∧blk w' b #[.slice oa on oc] 24∧blk w' g #[.int .i64 32] 3∧w.heap.size≤b∧b<w'.heap.size∧w.heap.size≤g∧g<w'.heap.size∧Below w.heap.size w w':=by
 go_enter func124,ntmps124;go_wp2_with fail
 exact bodyPost_ret (v:=.agg #[.func (.func 164) #[] #[],.slice (some ⟨(w.heap.size+1+1),0,none⟩) 1 1,.func (.func 167) #[] #[.pointer (some ⟨w.heap.size,0,none⟩)]]) (by simp[results,results124,go_sem]) rfl ⟨w.heap.size,(w.heap.size+1+1),rfl,by repeat(first|exact E6 (by simp)|refine E9 ?_),by repeat(first|exact E6 (by simp)|refine E9 ?_),by omega,by simp<;>omega,by omega,by simp<;>omega,by repeat(first|with_reducible exact Below.refl _ _|with_reducible refine Below.alloc ?_ (by simp<;>omega) _)⟩
theorem A0v(c:Int)(f:FuncId)(w:World):Calls prog 125 #[.int .u8 c,.func (.func f) #[] #[]] w fun e w'=>∃b b2 g,e= .returned (.agg #[.func (.func 169) #[] #[.pointer (some ⟨b2,0,none⟩)],.slice (some ⟨g,0,none⟩) 1 1,.func (.func 170) #[] #[.pointer (some ⟨b,0,none⟩)]])∧blk w' b #[.int .u8 c] 5∧blk w' b2 #[.func (.func f) #[] #[]] 106∧blk w' g #[.int .i64 32] 3∧w.heap.size≤b∧b<w'.heap.size∧w.heap.size≤b2∧b2<w'.heap.size∧w.heap.size≤g∧g<w'.heap.size∧Below w.heap.size w w':=by
 go_enter func125,ntmps125;go_wp2_with fail
 exact bodyPost_ret (v:=.agg #[.func (.func 169) #[] #[.pointer (some ⟨(w.heap.size+1),0,none⟩)],.slice (some ⟨(w.heap.size+1+1+1),0,none⟩) 1 1,.func (.func 170) #[] #[.pointer (some ⟨w.heap.size,0,none⟩)]]) (by simp[results,results125,go_sem]) rfl ⟨w.heap.size,(w.heap.size+1),(w.heap.size+1+1+1),rfl,by repeat(first|exact E6 (by simp)|refine E9 ?_),by repeat(first|exact E6 (by simp)|refine E9 ?_),by repeat(first|exact E6 (by simp)|refine E9 ?_),by omega,by simp<;>omega,by omega,by simp<;>omega,by omega,by simp<;>omega,by repeat(first|with_reducible exact Below.refl _ _|with_reducible refine Below.alloc ?_ (by simp<;>omega) _)⟩
theorem A9U(n:Int)(w:World):Calls prog 127 #[.int .i64 n] w fun e w'=>∃b g,e= .returned (.agg #[.func (.func 171) #[] #[],.slice (some ⟨g,0,none⟩) 2 2,.func (.func 172) #[] #[.pointer (some ⟨b,0,none⟩)]])∧blk w' b #[.int .i64 n] 3∧blk w' g #[.int .i64 32,.int .i64 16] 3∧w.heap.size≤b∧b<w'.heap.size∧w.heap.size≤g∧g<w'.heap.size∧Below w.heap.size w w':=by
 go_enter func127,ntmps127;go_wp2_with fail
 exact bodyPost_ret (v:=.agg #[.func (.func 171) #[] #[],.slice (some ⟨(w.heap.size+1+1),0,none⟩) 2 2,.func (.func 172) #[] #[.pointer (some ⟨w.heap.size,0,none⟩)]]) (by simp[results,results127,go_sem]) rfl ⟨w.heap.size,(w.heap.size+1+1),rfl,by repeat(first|exact E6 (by simp)|refine E9 ?_),by repeat(first|exact E6 (by simp)|refine E9 ?_),by omega,by simp<;>omega,by omega,by simp<;>omega,by repeat(first|with_reducible exact Below.refl _ _|with_reducible refine Below.alloc ?_ (by simp<;>omega) _)⟩
theorem a8(c n:Int)(oa:Option Addr)(on oc:Nat)(w:World):Calls prog 131 #[.int .u8 c,.int .i64 n,.slice oa on oc] w fun e w'=>∃b b2,e= .returned (.agg #[.func (.func 174) #[] #[],.slice oa on oc,.func (.func 175) #[] #[.pointer (some ⟨b,0,none⟩),.pointer (some ⟨b2,0,none⟩)]])∧blk w' b #[.int .u8 c] 5∧blk w' b2 #[.int .i64 n] 3∧w.heap.size≤b∧b<w'.heap.size∧w.heap.size≤b2∧b2<w'.heap.size∧Below w.heap.size w w':=by
 go_enter func131,ntmps131;go_wp2_with fail
 exact bodyPost_ret (v:=.agg #[.func (.func 174) #[] #[],.slice oa on oc,.func (.func 175) #[] #[.pointer (some ⟨w.heap.size,0,none⟩),.pointer (some ⟨(w.heap.size+1),0,none⟩)]]) (by simp[results,results131,go_sem]) rfl ⟨w.heap.size,(w.heap.size+1),rfl,by repeat(first|exact E6 (by simp)|refine E9 ?_),by repeat(first|exact E6 (by simp)|refine E9 ?_),by omega,by simp<;>omega,by omega,by simp<;>omega,by repeat(first|with_reducible exact Below.refl _ _|with_reducible refine Below.alloc ?_ (by simp<;>omega) _)⟩
theorem i9(oa:Option Addr)(on oc:Nat)(w:World):Calls prog 132 #[.slice oa on oc] w fun e w'=>∃b g,e= .returned (.agg #[.func (.func 176) #[] #[],.slice (some ⟨g,0,none⟩) 1 1,.func (.func 177) #[] #[.pointer (some ⟨b,0,none⟩)]])∧blk w' b #[.slice oa on oc] 24∧blk w' g #[.int .i64 32] 3∧w.heap.size≤b∧b<w'.heap.size∧w.heap.size≤g∧g<w'.heap.size∧Below w.heap.size w w':=by
 go_enter func132,ntmps132;go_wp2_with fail
 exact bodyPost_ret (v:=.agg #[.func (.func 176) #[] #[],.slice (some ⟨(w.heap.size+1+1),0,none⟩) 1 1,.func (.func 177) #[] #[.pointer (some ⟨w.heap.size,0,none⟩)]]) (by simp[results,results132,go_sem]) rfl ⟨w.heap.size,(w.heap.size+1+1),rfl,by repeat(first|exact E6 (by simp)|refine E9 ?_),by repeat(first|exact E6 (by simp)|refine E9 ?_),by omega,by simp<;>omega,by omega,by simp<;>omega,by repeat(first|with_reducible exact Below.refl _ _|with_reducible refine Below.alloc ?_ (by simp<;>omega) _)⟩
theorem A2V(f1 f2 f3:FuncId)(w:World):Calls prog 140 #[.func (.func f1) #[] #[],.func (.func f2) #[] #[],.func (.func f3) #[] #[]] w fun e w'=>∃b1 b2 b3 g,e= .returned (.agg #[.func (.func 178) #[] #[.pointer (some ⟨b3,0,none⟩)],.slice (some ⟨g,0,none⟩) 2 2,.func (.func 179) #[] #[.pointer (some ⟨b1,0,none⟩),.pointer (some ⟨b2,0,none⟩)]])∧blk w' b1 #[.func (.func f1) #[] #[]] 87∧blk w' b2 #[.func (.func f2) #[] #[]] 87∧blk w' b3 #[.func (.func f3) #[] #[]] 116∧blk w' g #[.int .i64 8,.int .i64 32] 3∧w.heap.size≤b1∧b1<w'.heap.size∧w.heap.size≤b2∧b2<w'.heap.size∧w.heap.size≤b3∧b3<w'.heap.size∧w.heap.size≤g∧g<w'.heap.size∧Below w.heap.size w w':=by
 go_enter func140,ntmps140;go_wp2_with fail
 exact bodyPost_ret (v:=.agg #[.func (.func 178) #[] #[.pointer (some ⟨(w.heap.size+1+1),0,none⟩)],.slice (some ⟨(w.heap.size+1+1+1+1),0,none⟩) 2 2,.func (.func 179) #[] #[.pointer (some ⟨w.heap.size,0,none⟩),.pointer (some ⟨(w.heap.size+1),0,none⟩)]]) (by simp[results,results140,go_sem]) rfl ⟨w.heap.size,(w.heap.size+1),(w.heap.size+1+1),(w.heap.size+1+1+1+1),rfl,by repeat(first|exact E6 (by simp)|refine E9 ?_),by repeat(first|exact E6 (by simp)|refine E9 ?_),by repeat(first|exact E6 (by simp)|refine E9 ?_),by repeat(first|exact E6 (by simp)|refine E9 ?_),by omega,by simp<;>omega,by omega,by simp<;>omega,by omega,by simp<;>omega,by omega,by simp<;>omega,by repeat(first|with_reducible exact Below.refl _ _|with_reducible refine Below.alloc ?_ (by simp<;>omega) _)⟩
theorem A0w(f1 f2:FuncId)(c1 c2:Array Value)(a:Option Addr)(n c:Nat)(w:World):Calls prog 123 #[.agg #[.func (.func f1) #[] c1,.slice a n c,.func (.func f2) #[] c2]] w fun e w'=>∃g,e= .returned (.agg #[.func (.func f1) #[] c1,.slice (some ⟨g,0,none⟩) 2 2,.func (.func f2) #[] c2])∧blk w' g #[.int .i64 32,.int .i64 16] 3∧w.heap.size≤g∧g<w'.heap.size∧Below w.heap.size w w':=by
 go_enter func123,ntmps123;go_wp2_with fail
 exact bodyPost_ret (v:=.agg #[.func (.func f1) #[] c1,.slice (some ⟨(w.heap.size+1+1),0,none⟩) 2 2,.func (.func f2) #[] c2]) (by simp[results,results123,go_sem]) rfl ⟨(w.heap.size+1+1),rfl,by repeat(first|exact E6 (by simp)|refine E9 ?_),by omega,by simp<;>omega,by repeat(first|with_reducible exact Below.refl _ _|with_reducible refine Below.alloc ?_ (by simp<;>omega) _)⟩
end Go.Proofs.YtdojafpjipcbjaaGreat
