/- -/
import Derived.Test.YtajljbmeaeeknaaGreatS4
import Derived.Test.YtajljbmeaeeknaaGreatS6
open Go.Proofs.Tryz
open Go.Lib (hid)
set_option maxHeartbeats 1000000
set_option maxRecDepth 100000
namespace Go.Proofs.YtajljbmeaeeknaaGreat
open Go.RowKit
set_option linter.unusedVariables false
set_option linter.unusedSimpArgs false
theorem A1b(o d s i:Int)(b b2:Nat)(w:World)(hc0:w.cell? ⟨b,0,none⟩=some (.func (.func 194) #[] #[]))(hc1:w.cell? ⟨b2,0,none⟩=some (.func (.func 195) #[] #[]))(h1:0≤s)(h2:s≤15):Calls prog 243 #[.agg #[.int .i64 o,.int .i64 d,.int .i64 s,.int .i64 8,.int .i64 i],.pointer (some ⟨b,0,none⟩),.pointer (some ⟨b2,0,none⟩)] w fun e w'=>∃v,e= .returned v∧RowI w' w.heap.size 5 .u8 v ([(112+s)%256]++[i%256])∧Below w.heap.size w w':=by
 have hl0:=B6 hc0;have hn0:¬b=w.heap.size:=by omega
 have hl1:=B6 hc1;have hn1:¬b2=w.heap.size:=by omega
 have HB:=hid ((Below.refl w.heap.size w).alloc (Nat.le_refl _) (.cells #[.int .i64 o,.int .i64 d,.int .i64 s,.int .i64 8,.int .i64 i] 89));obtain⟨W0,hW0⟩:∃W,w.alloc (.cells #[.int .i64 o,.int .i64 d,.int .i64 s,.int .i64 8,.int .i64 i] 89)=W:=⟨_,rfl⟩
 have p0:∀wk,Since W0 wk→wk.cell? ⟨b,0,none⟩=some (.func (.func 194) #[] #[]):=fun wk h=>h.cell (by rw[←hW0];exact E3 hc0)
 have p1:∀wk,Since W0 wk→wk.cell? ⟨b2,0,none⟩=some (.func (.func 195) #[] #[]):=fun wk h=>h.cell (by rw[←hW0];exact E3 hc1)
 have q0:∀wk,Since W0 wk→wk.cell? ⟨w.heap.size,0,none⟩=some (.int .i64 o):=fun wk h=>h.cell (by rw[←hW0];simp[go_sem])
 have q1:∀wk,Since W0 wk→wk.cell? ⟨w.heap.size,1,none⟩=some (.int .i64 d):=fun wk h=>h.cell (by rw[←hW0];simp[go_sem])
 have q2:∀wk,Since W0 wk→wk.cell? ⟨w.heap.size,2,none⟩=some (.int .i64 s):=fun wk h=>h.cell (by rw[←hW0];simp[go_sem])
 have q4:∀wk,Since W0 wk→wk.cell? ⟨w.heap.size,4,none⟩=some (.int .i64 i):=fun wk h=>h.cell (by rw[←hW0];simp[go_sem])
 have q3:∀wk,Since W0 wk→wk.cell? ⟨w.heap.size,3,none⟩=some (.int .i64 8):=fun wk h=>h.cell (by rw[←hW0];simp[go_sem])
 have h00:=Since.refl W0;rw[hW0]at HB;obtain⟨i0,hi0,hz0,hz1,hz2⟩:=info_parts F8;have C0:Hid (∀wk,Since W0 wk→Calls prog 194 #[.agg #[.int .i64 o,.int .i64 d,.int .i64 s,.int .i64 8,.int .i64 i]] wk fun e w'=>∃v,e= .returned v∧RowI w' W0.heap.size 5 .u8 v ([(112+s)%256])∧Below wk.heap.size wk w'∧Since W0 w'):=fun wk h=>O1 (A5c o d s 8 i wk h1 h2) h
 have eq0:IntKind.u8.wrap i=i%256:=IntKind.wrap_u8 i;have EQ0:=hid eq0;clear eq0;have h7:=q3 _ h00;have hml:([(112+s)%256]).length=1:=rfl;generalize[(112+s)%256]=xs at*
 have HLEN:Hid (xs.length+([IntKind.u8.wrap i]).length≤100000):=by show _≤_;simp;omega
 clear hml;clear h1 h2;clear hc0 hl0 hn0;clear hc1 hl1 hn1;go_enter func243,ntmps243;go_wp2_with fail
 clear hW0 h7
 go_region_held3(fun wk=>Since W0 wk) (first|assumption|exact Since.drew (by assumption)|exact Since.next (by assumption) ((Below.refl _ _).alloc (Nat.le_refl _) _)) (first|((go_at_call 194;with_reducible refine(C0.out _ (by first|assumption|exact Since.drew (by assumption)|exact Since.next (by assumption) ((Below.refl _ _).alloc (Nat.le_refl _) _))).mono ?_);rintro e w1 ⟨v1,rfl,hr1,hb1,hs1⟩;have HR1:=hid hr1;clear hr1)|((refine D0 (by rfl) _ _ _ (by rfl) W0.heap.size 5 i0 1 underlying28 hi0 hz0 hz1 hz2 (by decide) _ xs (by rfl) (HR1.out.below ((Below.refl _ _).alloc (Nat.le_refl _) _)) _ [IntKind.u8.wrap i] (by rfl) (RowI.ints (RowI.lit _ #[.int .u8 (IntKind.u8.wrap i)] [IntKind.u8.wrap i] .u8 5 W0.heap.size 1 (by first|exact Nat.le_refl _|exact(show Since W0 _ by assumption).size) rfl rfl (by unfold maxLen;simp)) (by simp)) (by simp) HLEN.out (Nat.le_trans hs1.size (by simp)) ?_);intro v9 w9 hr9 hb9;have hs9:=D6 (by assumption) hb9;have HR9:=hid hr9;clear hr9)|((refine D0 (by rfl) _ _ _ (by rfl) W0.heap.size 5 i0 1 underlying28 hi0 hz0 hz1 hz2 (by decide) _ xs (by rfl) HR1.out _ [IntKind.u8.wrap i] (by rfl) (RowI.ints (RowI.below (RowI.lit _ #[.int .u8 (IntKind.u8.wrap i)] [IntKind.u8.wrap i] .u8 5 W0.heap.size 1 (by first|exact Nat.le_refl _|exact(show Since W0 _ by assumption).size) rfl rfl (by unfold maxLen;simp)) hb1) (by simp)) (by simp) HLEN.out hs1.size ?_);intro v9 w9 hr9 hb9;have hs9:=D6 (by assumption) hb9;have HR9:=hid hr9;clear hr9)|((refine D0 (by rfl) _ _ _ (by rfl) W0.heap.size 5 i0 1 underlying28 hi0 hz0 hz1 hz2 (by decide) _ xs (by rfl) (HR1.out.below (B8 ((Below.refl _ _).alloc (Nat.le_refl _) _) 1)) _ [IntKind.u8.wrap i] (by rfl) (RowI.ints (RowI.litd _ #[.int .u8 (IntKind.u8.wrap i)] [IntKind.u8.wrap i] .u8 5 W0.heap.size 1 (by first|exact Nat.le_refl _|exact(show Since W0 _ by assumption).size) rfl rfl (by unfold maxLen;simp)) (by simp)) (by simp) HLEN.out (Nat.le_trans hs1.size (by simp)) ?_);intro v9 w9 hr9 hb9;have hs9:=D6 (by assumption) hb9;have HR9:=hid hr9;clear hr9)|((refine D0 (by rfl) _ _ _ (by rfl) W0.heap.size 5 i0 1 underlying28 hi0 hz0 hz1 hz2 (by decide) _ xs (by rfl) HR1.out _ [IntKind.u8.wrap i] (by rfl) (RowI.ints (RowI.below (RowI.litd _ #[.int .u8 (IntKind.u8.wrap i)] [IntKind.u8.wrap i] .u8 5 W0.heap.size 1 (by first|exact Nat.le_refl _|exact(show Since W0 _ by assumption).size) rfl rfl (by unfold maxLen;simp)) hb1) (by simp)) (by simp) HLEN.out hs1.size ?_);intro v9 w9 hr9 hb9;have hs9:=D6 (by assumption) hb9;have HR9:=hid hr9;clear hr9))
 all_goals go_wp2_with fail
 all_goals go_ret
 all_goals exact⟨_,rfl,RowI.to (RowI.mono HR9.out HB.out.size) (by rw[EQ0.out]),A8 HB.out (by first|exact hs9|exact B8 hs9 1)⟩
theorem A0T(o d s i:Int)(b b2:Nat)(w:World)(hc0:w.cell? ⟨b,0,none⟩=some (.func (.func 194) #[] #[]))(hc1:w.cell? ⟨b2,0,none⟩=some (.func (.func 195) #[] #[]))(h1:0≤s)(h2:s≤15)(hi:I64 i):Calls prog 243 #[.agg #[.int .i64 o,.int .i64 d,.int .i64 s,.int .i64 32,.int .i64 i],.pointer (some ⟨b,0,none⟩),.pointer (some ⟨b2,0,none⟩)] w fun e w'=>∃v,e= .returned v∧RowI w' w.heap.size 5 .u8 v ([15,(128+s)%256]++leB i 4)∧Below w.heap.size w w':=by
 have hl0:=B6 hc0;have hn0:¬b=w.heap.size:=by omega
 have hl1:=B6 hc1;have hn1:¬b2=w.heap.size:=by omega
 have HB:=hid ((Below.refl w.heap.size w).alloc (Nat.le_refl _) (.cells #[.int .i64 o,.int .i64 d,.int .i64 s,.int .i64 32,.int .i64 i] 89));obtain⟨W0,hW0⟩:∃W,w.alloc (.cells #[.int .i64 o,.int .i64 d,.int .i64 s,.int .i64 32,.int .i64 i] 89)=W:=⟨_,rfl⟩
 have p0:∀wk,Since W0 wk→wk.cell? ⟨b,0,none⟩=some (.func (.func 194) #[] #[]):=fun wk h=>h.cell (by rw[←hW0];exact E3 hc0)
 have p1:∀wk,Since W0 wk→wk.cell? ⟨b2,0,none⟩=some (.func (.func 195) #[] #[]):=fun wk h=>h.cell (by rw[←hW0];exact E3 hc1)
 have q0:∀wk,Since W0 wk→wk.cell? ⟨w.heap.size,0,none⟩=some (.int .i64 o):=fun wk h=>h.cell (by rw[←hW0];simp[go_sem])
 have q1:∀wk,Since W0 wk→wk.cell? ⟨w.heap.size,1,none⟩=some (.int .i64 d):=fun wk h=>h.cell (by rw[←hW0];simp[go_sem])
 have q2:∀wk,Since W0 wk→wk.cell? ⟨w.heap.size,2,none⟩=some (.int .i64 s):=fun wk h=>h.cell (by rw[←hW0];simp[go_sem])
 have q4:∀wk,Since W0 wk→wk.cell? ⟨w.heap.size,4,none⟩=some (.int .i64 i):=fun wk h=>h.cell (by rw[←hW0];simp[go_sem])
 have q3:∀wk,Since W0 wk→wk.cell? ⟨w.heap.size,3,none⟩=some (.int .i64 32):=fun wk h=>h.cell (by rw[←hW0];simp[go_sem])
 have h00:=Since.refl W0;rw[hW0]at HB;obtain⟨i0,hi0,hz0,hz1,hz2⟩:=info_parts F8;have C0:Hid (∀wk,Since W0 wk→Calls prog 195 #[.agg #[.int .i64 o,.int .i64 d,.int .i64 s,.int .i64 32,.int .i64 i]] wk fun e w'=>∃v,e= .returned v∧RowI w' W0.heap.size 5 .u8 v ([15,(128+s)%256])∧Below wk.heap.size wk w'∧Since W0 w'):=fun wk h=>O1 (A5d o d s 32 i wk h1 h2) h
 have C1:Hid (∀wk,Since W0 wk→Calls prog 163 #[.int .i64 i,.int .i64 4] wk fun e w'=>∃v,e= .returned v∧RowI w' W0.heap.size 5 .u8 v (leB i 4)∧Below wk.heap.size wk w'∧Since W0 w'):=fun wk h=>O1 (J6 i 4 wk hi (by decide)) h
 have h7:=q3 _ h00;have hml:(leB i 4).length=4:=by simp[F2]
 have hxl:([15,(128+s)%256]).length≤2:=by simp
 generalize[15,(128+s)%256]=xs at*
 generalize leB i 4=ys at*
 have HLEN:Hid (xs.length+ys.length≤100000):=by show _≤_;omega
 have HPOS:Hid (0<ys.length):=by show 0<_;omega
 have HY5:Hid (ys.length≤140737488351232):=by show _≤_;omega
 clear hml hxl hi;clear h1 h2;clear hc0 hl0 hn0;clear hc1 hl1 hn1;go_enter func243,ntmps243;go_wp2_with fail
 clear hW0 h7
 go_region_held3(fun wk=>Since W0 wk) (first|assumption|exact Since.drew (by assumption)|exact Since.next (by assumption) ((Below.refl _ _).alloc (Nat.le_refl _) _)) (first|((go_at_call 195;with_reducible refine(C0.out _ (by first|assumption|exact Since.drew (by assumption)|exact Since.next (by assumption) ((Below.refl _ _).alloc (Nat.le_refl _) _))).mono ?_);rintro e w1 ⟨v1,rfl,hr1,hb1,hs1⟩;have HR1:=hid hr1;clear hr1)|((go_at_call 163;with_reducible refine(C1.out _ (by first|assumption|exact Since.drew (by assumption)|exact Since.next (by assumption) ((Below.refl _ _).alloc (Nat.le_refl _) _))).mono ?_);rintro e w2 ⟨v2,rfl,hr2,hb2,hs2⟩;have HR2:=hid hr2;clear hr2)|((refine D0 (by rfl) _ _ _ (by rfl) W0.heap.size 5 i0 1 underlying28 hi0 hz0 hz1 hz2 (by decide) _ xs (by rfl) (HR1.out.below hb2) _ ys (by rfl) (HR2.out.ints HY5.out) HPOS.out HLEN.out hs2.size ?_);intro v9 w9 hr9 hb9;have hs9:=D6 (by assumption) hb9;have HR9:=hid hr9;clear hr9))
 all_goals go_wp2_with fail
 all_goals go_ret
 all_goals exact⟨_,rfl,RowI.mono HR9.out HB.out.size,A8 HB.out (by first|exact hs9|exact B8 hs9 1)⟩
theorem A1a(o d s i:Int)(b b2:Nat)(w:World)(hc0:w.cell? ⟨b,0,none⟩=some (.func (.func 197) #[] #[]))(hc1:w.cell? ⟨b2,0,none⟩=some (.func (.func 198) #[] #[])):Calls prog 243 #[.agg #[.int .i64 o,.int .i64 d,.int .i64 s,.int .i64 8,.int .i64 i],.pointer (some ⟨b,0,none⟩),.pointer (some ⟨b2,0,none⟩)] w fun e w'=>∃v,e= .returned v∧RowI w' w.heap.size 5 .u8 v (([235]:List Int)++[i%256])∧Below w.heap.size w w':=by
 have hl0:=B6 hc0;have hn0:¬b=w.heap.size:=by omega
 have hl1:=B6 hc1;have hn1:¬b2=w.heap.size:=by omega
 have HB:=hid ((Below.refl w.heap.size w).alloc (Nat.le_refl _) (.cells #[.int .i64 o,.int .i64 d,.int .i64 s,.int .i64 8,.int .i64 i] 89));obtain⟨W0,hW0⟩:∃W,w.alloc (.cells #[.int .i64 o,.int .i64 d,.int .i64 s,.int .i64 8,.int .i64 i] 89)=W:=⟨_,rfl⟩
 have p0:∀wk,Since W0 wk→wk.cell? ⟨b,0,none⟩=some (.func (.func 197) #[] #[]):=fun wk h=>h.cell (by rw[←hW0];exact E3 hc0)
 have p1:∀wk,Since W0 wk→wk.cell? ⟨b2,0,none⟩=some (.func (.func 198) #[] #[]):=fun wk h=>h.cell (by rw[←hW0];exact E3 hc1)
 have q0:∀wk,Since W0 wk→wk.cell? ⟨w.heap.size,0,none⟩=some (.int .i64 o):=fun wk h=>h.cell (by rw[←hW0];simp[go_sem])
 have q1:∀wk,Since W0 wk→wk.cell? ⟨w.heap.size,1,none⟩=some (.int .i64 d):=fun wk h=>h.cell (by rw[←hW0];simp[go_sem])
 have q2:∀wk,Since W0 wk→wk.cell? ⟨w.heap.size,2,none⟩=some (.int .i64 s):=fun wk h=>h.cell (by rw[←hW0];simp[go_sem])
 have q4:∀wk,Since W0 wk→wk.cell? ⟨w.heap.size,4,none⟩=some (.int .i64 i):=fun wk h=>h.cell (by rw[←hW0];simp[go_sem])
 have q3:∀wk,Since W0 wk→wk.cell? ⟨w.heap.size,3,none⟩=some (.int .i64 8):=fun wk h=>h.cell (by rw[←hW0];simp[go_sem])
 have h00:=Since.refl W0;rw[hW0]at HB;obtain⟨i0,hi0,hz0,hz1,hz2⟩:=info_parts F8;have C0:Hid (∀wk,Since W0 wk→Calls prog 197 #[.agg #[.int .i64 o,.int .i64 d,.int .i64 s,.int .i64 8,.int .i64 i]] wk fun e w'=>∃v,e= .returned v∧RowI w' W0.heap.size 5 .u8 v (([235]:List Int))∧Below wk.heap.size wk w'∧Since W0 w'):=fun wk h=>O1 (A5a o d s 8 i wk) h
 have eq0:IntKind.u8.wrap i=i%256:=IntKind.wrap_u8 i;have EQ0:=hid eq0;clear eq0;have h7:=q3 _ h00;have hml:(([235]:List Int)).length=1:=rfl;generalize([235]:List Int)=xs at*
 have HLEN:Hid (xs.length+([IntKind.u8.wrap i]).length≤100000):=by show _≤_;simp;omega
 clear hml;clear hc0 hl0 hn0;clear hc1 hl1 hn1;go_enter func243,ntmps243;go_wp2_with fail
 clear hW0 h7
 go_region_held3(fun wk=>Since W0 wk) (first|assumption|exact Since.drew (by assumption)|exact Since.next (by assumption) ((Below.refl _ _).alloc (Nat.le_refl _) _)) (first|((go_at_call 197;with_reducible refine(C0.out _ (by first|assumption|exact Since.drew (by assumption)|exact Since.next (by assumption) ((Below.refl _ _).alloc (Nat.le_refl _) _))).mono ?_);rintro e w1 ⟨v1,rfl,hr1,hb1,hs1⟩;have HR1:=hid hr1;clear hr1)|((refine D0 (by rfl) _ _ _ (by rfl) W0.heap.size 5 i0 1 underlying28 hi0 hz0 hz1 hz2 (by decide) _ xs (by rfl) (HR1.out.below ((Below.refl _ _).alloc (Nat.le_refl _) _)) _ [IntKind.u8.wrap i] (by rfl) (RowI.ints (RowI.lit _ #[.int .u8 (IntKind.u8.wrap i)] [IntKind.u8.wrap i] .u8 5 W0.heap.size 1 (by first|exact Nat.le_refl _|exact(show Since W0 _ by assumption).size) rfl rfl (by unfold maxLen;simp)) (by simp)) (by simp) HLEN.out (Nat.le_trans hs1.size (by simp)) ?_);intro v9 w9 hr9 hb9;have hs9:=D6 (by assumption) hb9;have HR9:=hid hr9;clear hr9)|((refine D0 (by rfl) _ _ _ (by rfl) W0.heap.size 5 i0 1 underlying28 hi0 hz0 hz1 hz2 (by decide) _ xs (by rfl) HR1.out _ [IntKind.u8.wrap i] (by rfl) (RowI.ints (RowI.below (RowI.lit _ #[.int .u8 (IntKind.u8.wrap i)] [IntKind.u8.wrap i] .u8 5 W0.heap.size 1 (by first|exact Nat.le_refl _|exact(show Since W0 _ by assumption).size) rfl rfl (by unfold maxLen;simp)) hb1) (by simp)) (by simp) HLEN.out hs1.size ?_);intro v9 w9 hr9 hb9;have hs9:=D6 (by assumption) hb9;have HR9:=hid hr9;clear hr9)|((refine D0 (by rfl) _ _ _ (by rfl) W0.heap.size 5 i0 1 underlying28 hi0 hz0 hz1 hz2 (by decide) _ xs (by rfl) (HR1.out.below (B8 ((Below.refl _ _).alloc (Nat.le_refl _) _) 1)) _ [IntKind.u8.wrap i] (by rfl) (RowI.ints (RowI.litd _ #[.int .u8 (IntKind.u8.wrap i)] [IntKind.u8.wrap i] .u8 5 W0.heap.size 1 (by first|exact Nat.le_refl _|exact(show Since W0 _ by assumption).size) rfl rfl (by unfold maxLen;simp)) (by simp)) (by simp) HLEN.out (Nat.le_trans hs1.size (by simp)) ?_);intro v9 w9 hr9 hb9;have hs9:=D6 (by assumption) hb9;have HR9:=hid hr9;clear hr9)|((refine D0 (by rfl) _ _ _ (by rfl) W0.heap.size 5 i0 1 underlying28 hi0 hz0 hz1 hz2 (by decide) _ xs (by rfl) HR1.out _ [IntKind.u8.wrap i] (by rfl) (RowI.ints (RowI.below (RowI.litd _ #[.int .u8 (IntKind.u8.wrap i)] [IntKind.u8.wrap i] .u8 5 W0.heap.size 1 (by first|exact Nat.le_refl _|exact(show Since W0 _ by assumption).size) rfl rfl (by unfold maxLen;simp)) hb1) (by simp)) (by simp) HLEN.out hs1.size ?_);intro v9 w9 hr9 hb9;have hs9:=D6 (by assumption) hb9;have HR9:=hid hr9;clear hr9))
 all_goals go_wp2_with fail
 all_goals go_ret
 all_goals exact⟨_,rfl,RowI.to (RowI.mono HR9.out HB.out.size) (by rw[EQ0.out]),A8 HB.out (by first|exact hs9|exact B8 hs9 1)⟩
theorem A0S(o d s i:Int)(b b2:Nat)(w:World)(hc0:w.cell? ⟨b,0,none⟩=some (.func (.func 197) #[] #[]))(hc1:w.cell? ⟨b2,0,none⟩=some (.func (.func 198) #[] #[]))(hi:I64 i):Calls prog 243 #[.agg #[.int .i64 o,.int .i64 d,.int .i64 s,.int .i64 32,.int .i64 i],.pointer (some ⟨b,0,none⟩),.pointer (some ⟨b2,0,none⟩)] w fun e w'=>∃v,e= .returned v∧RowI w' w.heap.size 5 .u8 v (([233]:List Int)++leB i 4)∧Below w.heap.size w w':=by
 have hl0:=B6 hc0;have hn0:¬b=w.heap.size:=by omega
 have hl1:=B6 hc1;have hn1:¬b2=w.heap.size:=by omega
 have HB:=hid ((Below.refl w.heap.size w).alloc (Nat.le_refl _) (.cells #[.int .i64 o,.int .i64 d,.int .i64 s,.int .i64 32,.int .i64 i] 89));obtain⟨W0,hW0⟩:∃W,w.alloc (.cells #[.int .i64 o,.int .i64 d,.int .i64 s,.int .i64 32,.int .i64 i] 89)=W:=⟨_,rfl⟩
 have p0:∀wk,Since W0 wk→wk.cell? ⟨b,0,none⟩=some (.func (.func 197) #[] #[]):=fun wk h=>h.cell (by rw[←hW0];exact E3 hc0)
 have p1:∀wk,Since W0 wk→wk.cell? ⟨b2,0,none⟩=some (.func (.func 198) #[] #[]):=fun wk h=>h.cell (by rw[←hW0];exact E3 hc1)
 have q0:∀wk,Since W0 wk→wk.cell? ⟨w.heap.size,0,none⟩=some (.int .i64 o):=fun wk h=>h.cell (by rw[←hW0];simp[go_sem])
 have q1:∀wk,Since W0 wk→wk.cell? ⟨w.heap.size,1,none⟩=some (.int .i64 d):=fun wk h=>h.cell (by rw[←hW0];simp[go_sem])
 have q2:∀wk,Since W0 wk→wk.cell? ⟨w.heap.size,2,none⟩=some (.int .i64 s):=fun wk h=>h.cell (by rw[←hW0];simp[go_sem])
 have q4:∀wk,Since W0 wk→wk.cell? ⟨w.heap.size,4,none⟩=some (.int .i64 i):=fun wk h=>h.cell (by rw[←hW0];simp[go_sem])
 have q3:∀wk,Since W0 wk→wk.cell? ⟨w.heap.size,3,none⟩=some (.int .i64 32):=fun wk h=>h.cell (by rw[←hW0];simp[go_sem])
 have h00:=Since.refl W0;rw[hW0]at HB;obtain⟨i0,hi0,hz0,hz1,hz2⟩:=info_parts F8;have C0:Hid (∀wk,Since W0 wk→Calls prog 198 #[.agg #[.int .i64 o,.int .i64 d,.int .i64 s,.int .i64 32,.int .i64 i]] wk fun e w'=>∃v,e= .returned v∧RowI w' W0.heap.size 5 .u8 v (([233]:List Int))∧Below wk.heap.size wk w'∧Since W0 w'):=fun wk h=>O1 (A5b o d s 32 i wk) h
 have C1:Hid (∀wk,Since W0 wk→Calls prog 163 #[.int .i64 i,.int .i64 4] wk fun e w'=>∃v,e= .returned v∧RowI w' W0.heap.size 5 .u8 v (leB i 4)∧Below wk.heap.size wk w'∧Since W0 w'):=fun wk h=>O1 (J6 i 4 wk hi (by decide)) h
 have h7:=q3 _ h00;have hml:(leB i 4).length=4:=by simp[F2]
 have hxl:(([233]:List Int)).length≤2:=by simp
 generalize([233]:List Int)=xs at*
 generalize leB i 4=ys at*
 have HLEN:Hid (xs.length+ys.length≤100000):=by show _≤_;omega
 have HPOS:Hid (0<ys.length):=by show 0<_;omega
 have HY5:Hid (ys.length≤140737488351232):=by show _≤_;omega
 clear hml hxl hi;clear hc0 hl0 hn0;clear hc1 hl1 hn1;go_enter func243,ntmps243;go_wp2_with fail
 clear hW0 h7
 go_region_held3(fun wk=>Since W0 wk) (first|assumption|exact Since.drew (by assumption)|exact Since.next (by assumption) ((Below.refl _ _).alloc (Nat.le_refl _) _)) (first|((go_at_call 198;with_reducible refine(C0.out _ (by first|assumption|exact Since.drew (by assumption)|exact Since.next (by assumption) ((Below.refl _ _).alloc (Nat.le_refl _) _))).mono ?_);rintro e w1 ⟨v1,rfl,hr1,hb1,hs1⟩;have HR1:=hid hr1;clear hr1)|((go_at_call 163;with_reducible refine(C1.out _ (by first|assumption|exact Since.drew (by assumption)|exact Since.next (by assumption) ((Below.refl _ _).alloc (Nat.le_refl _) _))).mono ?_);rintro e w2 ⟨v2,rfl,hr2,hb2,hs2⟩;have HR2:=hid hr2;clear hr2)|((refine D0 (by rfl) _ _ _ (by rfl) W0.heap.size 5 i0 1 underlying28 hi0 hz0 hz1 hz2 (by decide) _ xs (by rfl) (HR1.out.below hb2) _ ys (by rfl) (HR2.out.ints HY5.out) HPOS.out HLEN.out hs2.size ?_);intro v9 w9 hr9 hb9;have hs9:=D6 (by assumption) hb9;have HR9:=hid hr9;clear hr9))
 all_goals go_wp2_with fail
 all_goals go_ret
 all_goals exact⟨_,rfl,RowI.mono HR9.out HB.out.size,A8 HB.out (by first|exact hs9|exact B8 hs9 1)⟩
def blk(w:World)(b:Nat)(cs:Array Value)(t:TypeId):Prop:=w.heap[b]? =some (.cells cs t (0,0))
theorem D1{w:World}{b:Nat}{cs:Array Value}{t:TypeId}(h:blk w b cs t):b<w.heap.size:=by
 rcases Nat.lt_or_ge b w.heap.size with c|c
 ·exact c
 ·unfold blk at h;rw[Array.getElem?_eq_none c]at h;cases h
theorem D7{w:World}{b:Nat}{cs:Array Value}{t:TypeId}(h:b=w.heap.size):blk (w.alloc (.cells cs t)) b cs t:=by subst h;exact Array.getElem?_push_size
theorem E1{w:World}{b:Nat}{cs:Array Value}{t:TypeId}{ob:Obj}(h:blk w b cs t):blk (w.alloc ob) b cs t:=by
 have:=D1 h;unfold blk at*
 rw[←h];exact Below.heap_alloc w ob b this
theorem F6{w w':World}{b:Nat}{cs:Array Value}{t:TypeId}(h:blk w b cs t)(hb:Below w.heap.size w w'):blk w' b cs t:=by
 unfold blk at*;rw[←h];exact hb.block b (D1 h)
theorem D5{w:World}{b:Nat}{cs:Array Value}{t:TypeId}(h:blk w b cs t)(i:Nat):w.cell? ⟨b,i,none⟩=cs[i]? :=by
 unfold blk at h;simp[World.cell?,h]
theorem A2k(c:Int)(w:World):Calls prog 171 #[.int .u8 c] w fun e w'=>∃b g,e= .returned (.agg #[.func (.func 226) #[] #[],.slice (some ⟨g,0,none⟩) 2 2,.func (.func 227) #[] #[.pointer (some ⟨b,0,none⟩)]])∧blk w' b #[.int .u8 c] 5∧blk w' g #[.int .i64 32,.int .i64 16] 3∧w.heap.size≤b∧b<w'.heap.size∧w.heap.size≤g∧g<w'.heap.size∧Below w.heap.size w w':=by
 go_enter func171,ntmps171;go_wp2_with fail
 exact bodyPost_ret (v:=.agg #[.func (.func 226) #[] #[],.slice (some ⟨(w.heap.size+1+1),0,none⟩) 2 2,.func (.func 227) #[] #[.pointer (some ⟨w.heap.size,0,none⟩)]]) (by simp[results,results171,go_sem]) rfl ⟨w.heap.size,(w.heap.size+1+1),rfl,by repeat(first|exact D7 (by simp)|refine E1 ?_),by repeat(first|exact D7 (by simp)|refine E1 ?_),by omega,by simp<;>omega,by omega,by simp<;>omega,by repeat(first|with_reducible exact Below.refl _ _|with_reducible refine Below.alloc ?_ (by simp<;>omega) _)⟩
theorem z5(oa:Option Addr)(on oc:Nat)(w:World):Calls prog 177 #[.slice oa on oc] w fun e w'=>∃b g,e= .returned (.agg #[.func (.func 228) #[] #[],.slice (some ⟨g,0,none⟩) 1 1,.func (.func 231) #[] #[.pointer (some ⟨b,0,none⟩)]])∧blk w' b #[.slice oa on oc] 28∧blk w' g #[.int .i64 32] 3∧w.heap.size≤b∧b<w'.heap.size∧w.heap.size≤g∧g<w'.heap.size∧Below w.heap.size w w':=by
 go_enter func177,ntmps177;go_wp2_with fail
 exact bodyPost_ret (v:=.agg #[.func (.func 228) #[] #[],.slice (some ⟨(w.heap.size+1+1),0,none⟩) 1 1,.func (.func 231) #[] #[.pointer (some ⟨w.heap.size,0,none⟩)]]) (by simp[results,results177,go_sem]) rfl ⟨w.heap.size,(w.heap.size+1+1),rfl,by repeat(first|exact D7 (by simp)|refine E1 ?_),by repeat(first|exact D7 (by simp)|refine E1 ?_),by omega,by simp<;>omega,by omega,by simp<;>omega,by repeat(first|with_reducible exact Below.refl _ _|with_reducible refine Below.alloc ?_ (by simp<;>omega) _)⟩
theorem A0o(c:Int)(f:FuncId)(w:World):Calls prog 178 #[.int .u8 c,.func (.func f) #[] #[]] w fun e w'=>∃b b2 g,e= .returned (.agg #[.func (.func 233) #[] #[.pointer (some ⟨b2,0,none⟩)],.slice (some ⟨g,0,none⟩) 1 1,.func (.func 234) #[] #[.pointer (some ⟨b,0,none⟩)]])∧blk w' b #[.int .u8 c] 5∧blk w' b2 #[.func (.func f) #[] #[]] 106∧blk w' g #[.int .i64 32] 3∧w.heap.size≤b∧b<w'.heap.size∧w.heap.size≤b2∧b2<w'.heap.size∧w.heap.size≤g∧g<w'.heap.size∧Below w.heap.size w w':=by
 go_enter func178,ntmps178;go_wp2_with fail
 exact bodyPost_ret (v:=.agg #[.func (.func 233) #[] #[.pointer (some ⟨(w.heap.size+1),0,none⟩)],.slice (some ⟨(w.heap.size+1+1+1),0,none⟩) 1 1,.func (.func 234) #[] #[.pointer (some ⟨w.heap.size,0,none⟩)]]) (by simp[results,results178,go_sem]) rfl ⟨w.heap.size,(w.heap.size+1),(w.heap.size+1+1+1),rfl,by repeat(first|exact D7 (by simp)|refine E1 ?_),by repeat(first|exact D7 (by simp)|refine E1 ?_),by repeat(first|exact D7 (by simp)|refine E1 ?_),by omega,by simp<;>omega,by omega,by simp<;>omega,by omega,by simp<;>omega,by repeat(first|with_reducible exact Below.refl _ _|with_reducible refine Below.alloc ?_ (by simp<;>omega) _)⟩
theorem A7t(n:Int)(w:World):Calls prog 180 #[.int .i64 n] w fun e w'=>∃b g,e= .returned (.agg #[.func (.func 235) #[] #[],.slice (some ⟨g,0,none⟩) 2 2,.func (.func 236) #[] #[.pointer (some ⟨b,0,none⟩)]])∧blk w' b #[.int .i64 n] 3∧blk w' g #[.int .i64 32,.int .i64 16] 3∧w.heap.size≤b∧b<w'.heap.size∧w.heap.size≤g∧g<w'.heap.size∧Below w.heap.size w w':=by
 go_enter func180,ntmps180;go_wp2_with fail
 exact bodyPost_ret (v:=.agg #[.func (.func 235) #[] #[],.slice (some ⟨(w.heap.size+1+1),0,none⟩) 2 2,.func (.func 236) #[] #[.pointer (some ⟨w.heap.size,0,none⟩)]]) (by simp[results,results180,go_sem]) rfl ⟨w.heap.size,(w.heap.size+1+1),rfl,by repeat(first|exact D7 (by simp)|refine E1 ?_),by repeat(first|exact D7 (by simp)|refine E1 ?_),by omega,by simp<;>omega,by omega,by simp<;>omega,by repeat(first|with_reducible exact Below.refl _ _|with_reducible refine Below.alloc ?_ (by simp<;>omega) _)⟩
theorem X8(c n:Int)(oa:Option Addr)(on oc:Nat)(w:World):Calls prog 184 #[.int .u8 c,.int .i64 n,.slice oa on oc] w fun e w'=>∃b b2,e= .returned (.agg #[.func (.func 238) #[] #[],.slice oa on oc,.func (.func 239) #[] #[.pointer (some ⟨b,0,none⟩),.pointer (some ⟨b2,0,none⟩)]])∧blk w' b #[.int .u8 c] 5∧blk w' b2 #[.int .i64 n] 3∧w.heap.size≤b∧b<w'.heap.size∧w.heap.size≤b2∧b2<w'.heap.size∧Below w.heap.size w w':=by
 go_enter func184,ntmps184;go_wp2_with fail
 exact bodyPost_ret (v:=.agg #[.func (.func 238) #[] #[],.slice oa on oc,.func (.func 239) #[] #[.pointer (some ⟨w.heap.size,0,none⟩),.pointer (some ⟨(w.heap.size+1),0,none⟩)]]) (by simp[results,results184,go_sem]) rfl ⟨w.heap.size,(w.heap.size+1),rfl,by repeat(first|exact D7 (by simp)|refine E1 ?_),by repeat(first|exact D7 (by simp)|refine E1 ?_),by omega,by simp<;>omega,by omega,by simp<;>omega,by repeat(first|with_reducible exact Below.refl _ _|with_reducible refine Below.alloc ?_ (by simp<;>omega) _)⟩
theorem f7(oa:Option Addr)(on oc:Nat)(w:World):Calls prog 185 #[.slice oa on oc] w fun e w'=>∃b g,e= .returned (.agg #[.func (.func 240) #[] #[],.slice (some ⟨g,0,none⟩) 1 1,.func (.func 241) #[] #[.pointer (some ⟨b,0,none⟩)]])∧blk w' b #[.slice oa on oc] 28∧blk w' g #[.int .i64 32] 3∧w.heap.size≤b∧b<w'.heap.size∧w.heap.size≤g∧g<w'.heap.size∧Below w.heap.size w w':=by
 go_enter func185,ntmps185;go_wp2_with fail
 exact bodyPost_ret (v:=.agg #[.func (.func 240) #[] #[],.slice (some ⟨(w.heap.size+1+1),0,none⟩) 1 1,.func (.func 241) #[] #[.pointer (some ⟨w.heap.size,0,none⟩)]]) (by simp[results,results185,go_sem]) rfl ⟨w.heap.size,(w.heap.size+1+1),rfl,by repeat(first|exact D7 (by simp)|refine E1 ?_),by repeat(first|exact D7 (by simp)|refine E1 ?_),by omega,by simp<;>omega,by omega,by simp<;>omega,by repeat(first|with_reducible exact Below.refl _ _|with_reducible refine Below.alloc ?_ (by simp<;>omega) _)⟩
theorem A2l(f1 f2 f3:FuncId)(w:World):Calls prog 193 #[.func (.func f1) #[] #[],.func (.func f2) #[] #[],.func (.func f3) #[] #[]] w fun e w'=>∃b1 b2 b3 g,e= .returned (.agg #[.func (.func 242) #[] #[.pointer (some ⟨b3,0,none⟩)],.slice (some ⟨g,0,none⟩) 2 2,.func (.func 243) #[] #[.pointer (some ⟨b1,0,none⟩),.pointer (some ⟨b2,0,none⟩)]])∧blk w' b1 #[.func (.func f1) #[] #[]] 139∧blk w' b2 #[.func (.func f2) #[] #[]] 139∧blk w' b3 #[.func (.func f3) #[] #[]] 176∧blk w' g #[.int .i64 8,.int .i64 32] 3∧w.heap.size≤b1∧b1<w'.heap.size∧w.heap.size≤b2∧b2<w'.heap.size∧w.heap.size≤b3∧b3<w'.heap.size∧w.heap.size≤g∧g<w'.heap.size∧Below w.heap.size w w':=by
 go_enter func193,ntmps193;go_wp2_with fail
 exact bodyPost_ret (v:=.agg #[.func (.func 242) #[] #[.pointer (some ⟨(w.heap.size+1+1),0,none⟩)],.slice (some ⟨(w.heap.size+1+1+1+1),0,none⟩) 2 2,.func (.func 243) #[] #[.pointer (some ⟨w.heap.size,0,none⟩),.pointer (some ⟨(w.heap.size+1),0,none⟩)]]) (by simp[results,results193,go_sem]) rfl ⟨w.heap.size,(w.heap.size+1),(w.heap.size+1+1),(w.heap.size+1+1+1+1),rfl,by repeat(first|exact D7 (by simp)|refine E1 ?_),by repeat(first|exact D7 (by simp)|refine E1 ?_),by repeat(first|exact D7 (by simp)|refine E1 ?_),by repeat(first|exact D7 (by simp)|refine E1 ?_),by omega,by simp<;>omega,by omega,by simp<;>omega,by omega,by simp<;>omega,by omega,by simp<;>omega,by repeat(first|with_reducible exact Below.refl _ _|with_reducible refine Below.alloc ?_ (by simp<;>omega) _)⟩
theorem A0p(f1 f2:FuncId)(c1 c2:Array Value)(a:Option Addr)(n c:Nat)(w:World):Calls prog 176 #[.agg #[.func (.func f1) #[] c1,.slice a n c,.func (.func f2) #[] c2]] w fun e w'=>∃g,e= .returned (.agg #[.func (.func f1) #[] c1,.slice (some ⟨g,0,none⟩) 2 2,.func (.func f2) #[] c2])∧blk w' g #[.int .i64 32,.int .i64 16] 3∧w.heap.size≤g∧g<w'.heap.size∧Below w.heap.size w w':=by
 go_enter func176,ntmps176;go_wp2_with fail
 exact bodyPost_ret (v:=.agg #[.func (.func f1) #[] c1,.slice (some ⟨(w.heap.size+1+1),0,none⟩) 2 2,.func (.func f2) #[] c2]) (by simp[results,results176,go_sem]) rfl ⟨(w.heap.size+1+1),rfl,by repeat(first|exact D7 (by simp)|refine E1 ?_),by omega,by simp<;>omega,by repeat(first|with_reducible exact Below.refl _ _|with_reducible refine Below.alloc ?_ (by simp<;>omega) _)⟩
end Go.Proofs.YtajljbmeaeeknaaGreat
namespace Go.Proofs.YtajljbmeaeeknaaGreat
set_option linter.unusedVariables false
set_option linter.unusedSimpArgs false
theorem G5{x:Ins}(h:okI x=true):J9 x=true:=by unfold okI at h;simp only[Bool.and_eq_true]at h;exact h.2
theorem H8{x:Ins}(h:okI x=true):x.z∈szI x.o:=by unfold okI at h;simp only[Bool.and_eq_true]at h;simpa using h.1
theorem A2i{x:Ins}(h:okI x=true):0≤x.o∧x.o≤36:=by
 by_cases c:0≤x.o∧x.o≤36
 ·exact c
 ·have:=H8 h;unfold szI at this;rw[if_neg (by omega),if_neg (by omega),if_neg (by omega),if_neg (by omega),if_neg (by omega),if_neg (by omega),if_neg (by omega),if_neg (by omega)]at this;cases this
end Go.Proofs.YtajljbmeaeeknaaGreat
