/- Walks of signed, and of the closures that write an operation with a number, and a jump. -/
import Derived.Test.YtdojafpjipcbjaaF3
namespace Go.Proofs.Ytdojafpjipcbjaa
open Go.RowKit
set_option linter.unusedVariables false
set_option linter.unusedSimpArgs false
theorem signed_32 (n : Int) (w : World) (h0 : 0 ≤ n) (h1 : n ≤ 4294967295) : Calls Try.prog 123 #[.int .i64 n, .int .i64 32] w fun e w' => e = .returned (.int .i64 (sgB n 32)) ∧ w = w' := by
  have e : sgB n 32 = if 2147483648 ≤ n then n - 4294967296 else n := rfl
  rw [e]
  by_cases c : 2147483648 ≤ n
  · rw [if_pos c]
    have hb : (bits .and .i64 (n / 2147483648) 1 == 1) = true := by rw [i64_and _ 1 1 (by decide) rfl]; simp; omega
    clear e
    go_enter Try.func123, Try.ntmps123
    go_wp2
    go_ret
    exact ⟨rfl, rfl⟩
  · rw [if_neg c]
    have hb : (bits .and .i64 (n / 2147483648) 1 == 1) = false := by rw [i64_and _ 1 1 (by decide) rfl]; simp; omega
    clear e
    go_enter Try.func123, Try.ntmps123
    go_wp2
    go_ret
    exact ⟨rfl, rfl⟩
theorem signed_16 (n : Int) (w : World) (h0 : 0 ≤ n) (h1 : n ≤ 65535) : Calls Try.prog 123 #[.int .i64 n, .int .i64 16] w fun e w' => e = .returned (.int .i64 (sgB n 16)) ∧ w = w' := by
  have e : sgB n 16 = if 32768 ≤ n then n - 65536 else n := rfl
  rw [e]
  by_cases c : 32768 ≤ n
  · rw [if_pos c]
    have hb : (bits .and .i64 (n / 32768) 1 == 1) = true := by rw [i64_and _ 1 1 (by decide) rfl]; simp; omega
    clear e
    go_enter Try.func123, Try.ntmps123
    go_wp2
    go_ret
    exact ⟨rfl, rfl⟩
  · rw [if_neg c]
    have hb : (bits .and .i64 (n / 32768) 1 == 1) = false := by rw [i64_and _ 1 1 (by decide) rfl]; simp; omega
    clear e
    go_enter Try.func123, Try.ntmps123
    go_wp2
    go_ret
    exact ⟨rfl, rfl⟩
set_option maxRecDepth 100000 in
set_option maxHeartbeats 1000000 in
theorem wr_num_32_s (o d s i n : Int) (b : Nat) (w : World) (hc0 : w.cell? ⟨b, 0, none⟩ = some (.int .i64 n)) (h0 : 0 ≤ i) (h1 : i ≤ 4294967295) (hs : (-128 ≤ sgB i 32 ∧ sgB i 32 ≤ 127)) : Calls Try.prog 122 #[.agg #[.int .i64 o, .int .i64 d, .int .i64 s, .int .i64 32, .int .i64 i], .pointer (some ⟨b, 0, none⟩)] w fun e w' => ∃ v, e = .returned v ∧ RowI w' w.heap.size 5 .u8 v [131, mrB n d, i % 256] ∧ Below w.heap.size w w' := by
  have hl0 := cell_lt hc0
  have hn0 : ¬ b = w.heap.size := by omega
  have HB := Lib.hid ((Below.refl w.heap.size w).alloc (Nat.le_refl _) (.cells #[.int .i64 o, .int .i64 d, .int .i64 s, .int .i64 32, .int .i64 i] 25))
  obtain ⟨W0, hW0⟩ : ∃ W, w.alloc (.cells #[.int .i64 o, .int .i64 d, .int .i64 s, .int .i64 32, .int .i64 i] 25) = W := ⟨_, rfl⟩
  have p0 : ∀ wk, Since W0 wk → wk.cell? ⟨b, 0, none⟩ = some (.int .i64 n) := fun wk h => h.cell (by rw [← hW0]; exact cell_alloc hc0)
  have q1 : ∀ wk, Since W0 wk → wk.cell? ⟨w.heap.size, 1, none⟩ = some (.int .i64 d) := fun wk h => h.cell (by rw [← hW0]; simp [go_sem])
  have q4 : ∀ wk, Since W0 wk → wk.cell? ⟨w.heap.size, 4, none⟩ = some (.int .i64 i) := fun wk h => h.cell (by rw [← hW0]; simp [go_sem])
  have q3 : ∀ wk, Since W0 wk → wk.cell? ⟨w.heap.size, 3, none⟩ = some (.int .i64 32) := fun wk h => h.cell (by rw [← hW0]; simp [go_sem])
  have h00 := Since.refl W0
  rw [hW0] at HB
  obtain ⟨i0, hi0, hz0, hz1, hz2⟩ := info_parts info_u8
  have C0 := Lib.hid (fun w => signed_32 i w h0 h1)
  have C2 := Lib.hid (fun w => mr_any n d w)
  have hsg : (i < 2147483648 ∧ sgB i 32 = i) ∨ (2147483648 ≤ i ∧ sgB i 32 = i - 4294967296) := by have e : sgB i 32 = if 2147483648 ≤ i then i - 4294967296 else i := rfl; rw [e]; split <;> omega
  have C1 := Lib.hid (fun w => within_ia (sgB i 32) (-128) 127 w)
  rw [show (decide (-128 ≤ sgB i 32) && decide (sgB i 32 ≤ 127)) = true by simp; exact hs] at C1
  have HSG := Lib.hid hsg
  have hsb : -2147483648 ≤ sgB i 32 ∧ sgB i 32 ≤ 4294967295 := by omega
  obtain ⟨sb1, sb2⟩ := hsb
  generalize sgB i 32 = g at *
  clear hsg hs
  generalize mrB n d = q at *
  clear hc0 hl0 hn0 h0 h1
  have p0a := p0 _ h00
  have q1a := q1 _ h00
  have q4a := q4 _ h00
  have q3a := q3 _ h00
  go_enter Try.func122, Try.ntmps122
  go_wp2_with (first | ((go_at_call 123; with_reducible refine (C0.out _).mono ?_); rintro e w' ⟨rfl, rfl⟩) | ((go_at_call 76; with_reducible refine (C1.out _).mono ?_); rintro e w' ⟨rfl, rfl⟩) | ((go_at_call 86; with_reducible refine (C2.out _).mono ?_); rintro e w' ⟨rfl, rfl⟩))
  clear hW0
  go_ret
  exact ⟨_, rfl, RowI.to (RowI.lit W0 #[_, _, _] [_, _, _] .u8 5 w.heap.size 3 HB.out.size rfl rfl (by unfold maxLen; simp)) (by have := HSG.out; simp only [List.cons.injEq, and_true, true_and]; omega), HB.out.trans (((Below.refl _ W0).alloc (Nat.le_refl _) _).mono HB.out.size)⟩
set_option maxRecDepth 100000 in
set_option maxHeartbeats 1000000 in
theorem wr_num_32_b (o d s i n : Int) (b : Nat) (w : World) (hc0 : w.cell? ⟨b, 0, none⟩ = some (.int .i64 n)) (h0 : 0 ≤ i) (h1 : i ≤ 4294967295) (hs : ¬ (-128 ≤ sgB i 32 ∧ sgB i 32 ≤ 127)) : Calls Try.prog 122 #[.agg #[.int .i64 o, .int .i64 d, .int .i64 s, .int .i64 32, .int .i64 i], .pointer (some ⟨b, 0, none⟩)] w fun e w' => ∃ v, e = .returned v ∧ RowI w' w.heap.size 5 .u8 v (129 :: mrB n d :: leB i 4) ∧ Below w.heap.size w w' := by
  have hl0 := cell_lt hc0
  have hn0 : ¬ b = w.heap.size := by omega
  have HB := Lib.hid ((Below.refl w.heap.size w).alloc (Nat.le_refl _) (.cells #[.int .i64 o, .int .i64 d, .int .i64 s, .int .i64 32, .int .i64 i] 25))
  obtain ⟨W0, hW0⟩ : ∃ W, w.alloc (.cells #[.int .i64 o, .int .i64 d, .int .i64 s, .int .i64 32, .int .i64 i] 25) = W := ⟨_, rfl⟩
  have p0 : ∀ wk, Since W0 wk → wk.cell? ⟨b, 0, none⟩ = some (.int .i64 n) := fun wk h => h.cell (by rw [← hW0]; exact cell_alloc hc0)
  have q1 : ∀ wk, Since W0 wk → wk.cell? ⟨w.heap.size, 1, none⟩ = some (.int .i64 d) := fun wk h => h.cell (by rw [← hW0]; simp [go_sem])
  have q4 : ∀ wk, Since W0 wk → wk.cell? ⟨w.heap.size, 4, none⟩ = some (.int .i64 i) := fun wk h => h.cell (by rw [← hW0]; simp [go_sem])
  have q3 : ∀ wk, Since W0 wk → wk.cell? ⟨w.heap.size, 3, none⟩ = some (.int .i64 32) := fun wk h => h.cell (by rw [← hW0]; simp [go_sem])
  have h00 := Since.refl W0
  rw [hW0] at HB
  obtain ⟨i0, hi0, hz0, hz1, hz2⟩ := info_parts info_u8
  have C0 := Lib.hid (fun w => signed_32 i w h0 h1)
  have C2 := Lib.hid (fun w => mr_any n d w)
  have hsg : (i < 2147483648 ∧ sgB i 32 = i) ∨ (2147483648 ≤ i ∧ sgB i 32 = i - 4294967296) := by have e : sgB i 32 = if 2147483648 ≤ i then i - 4294967296 else i := rfl; rw [e]; split <;> omega
  have C1 := Lib.hid (fun w => within_ia (sgB i 32) (-128) 127 w)
  rw [show (decide (-128 ≤ sgB i 32) && decide (sgB i 32 ≤ 127)) = false by rw [Bool.eq_false_iff]; intro h; simp only [Bool.and_eq_true, decide_eq_true_eq] at h; exact hs h] at C1
  have C3 : Hid (∀ wk, Since W0 wk → Calls Try.prog 78 #[.int .i64 i, .int .i64 (IntKind.i64.wrap 4)] wk fun e w' => ∃ v, e = .returned v ∧ RowI w' W0.heap.size 5 .u8 v (leB i 4) ∧ Below wk.heap.size wk w' ∧ Since W0 w') := fun wk h => acc_r (number_any i 4 wk ⟨by omega, by omega⟩ (by decide)) h
  have HSG := Lib.hid hsg
  have hsb : -2147483648 ≤ sgB i 32 ∧ sgB i 32 ≤ 4294967295 := by omega
  obtain ⟨sb1, sb2⟩ := hsb
  generalize sgB i 32 = g at *
  clear hsg hs
  generalize mrB n d = q at *
  have hml : (leB i 4).length = 4 := by simp [leB_length]
  generalize leB i 4 = ys at *
  have HLEN : Hid (([(0 : Int), 0]).length + ys.length ≤ 100000) := by show _ ≤ _; simp; omega
  have HPOS : Hid (0 < ys.length) := by show 0 < _; omega
  have HY5 : Hid (ys.length ≤ 140737488351232) := by show _ ≤ _; omega
  clear hml
  clear hc0 hl0 hn0 h0 h1
  have p0a := p0 _ h00
  have q1a := q1 _ h00
  have q4a := q4 _ h00
  have q3a := q3 _ h00
  go_enter Try.func122, Try.ntmps122
  go_wp2_with (first | ((go_at_call 123; with_reducible refine (C0.out _).mono ?_); rintro e w' ⟨rfl, rfl⟩) | ((go_at_call 76; with_reducible refine (C1.out _).mono ?_); rintro e w' ⟨rfl, rfl⟩))
  clear hW0
  clear p0a q1a q4a q3a sb1 sb2
  go_region_held3 (fun wk => Since W0 wk) (first | assumption | exact Since.drew (by assumption) | exact Since.next (by assumption) ((Below.refl _ _).alloc (Nat.le_refl _) _)) (first | (go_at_call 86; with_reducible refine (C2.out _).mono ?_; rintro e w' ⟨rfl, rfl⟩) | ((go_at_call 78; with_reducible refine (C3.out _ (by first | assumption | exact Since.drew (by assumption) | exact Since.next (by assumption) ((Below.refl _ _).alloc (Nat.le_refl _) _))).mono ?_); rintro e w2 ⟨v2, rfl, hr2, hb2, hs2⟩; have HR2 := Lib.hid hr2; clear hr2) | ((refine step_app_row (by rfl) _ _ _ (by rfl) W0.heap.size 5 i0 1 Try.underlying22 hi0 hz0 hz1 hz2 (by decide) _ [129, q] (by rfl) (RowI.below (RowI.lit _ #[.int .u8 129, .int .u8 q] [129, q] .u8 5 W0.heap.size 2 (by first | exact Nat.le_refl _ | exact (show Since W0 _ by assumption).size) rfl rfl (by unfold maxLen; simp)) hb2) _ ys (by rfl) (HR2.out.ints HY5.out) HPOS.out HLEN.out hs2.size ?_); intro v9 w9 hr9 hb9; have hs9 := since_step (by assumption) hb9; have HR9 := Lib.hid hr9; clear hr9) | ((refine step_app_row (by rfl) _ _ _ (by rfl) W0.heap.size 5 i0 1 Try.underlying22 hi0 hz0 hz1 hz2 (by decide) _ [129, q] (by rfl) (RowI.below (RowI.litd _ #[.int .u8 129, .int .u8 q] [129, q] .u8 5 W0.heap.size 2 (by first | exact Nat.le_refl _ | exact (show Since W0 _ by assumption).size) rfl rfl (by unfold maxLen; simp)) hb2) _ ys (by rfl) (HR2.out.ints HY5.out) HPOS.out HLEN.out hs2.size ?_); intro v9 w9 hr9 hb9; have hs9 := since_step (by assumption) hb9; have HR9 := Lib.hid hr9; clear hr9) | ((refine step_app_row (by rfl) _ _ _ (by rfl) W0.heap.size 5 i0 1 Try.underlying22 hi0 hz0 hz1 hz2 (by decide) _ [129, q] (by rfl) (RowI.lit _ #[.int .u8 129, .int .u8 q] [129, q] .u8 5 W0.heap.size 2 (by first | exact Nat.le_refl _ | exact (show Since W0 _ by assumption).size) rfl rfl (by unfold maxLen; simp)) _ ys (by rfl) ((HR2.out.below ((Below.refl _ _).alloc (Nat.le_refl _) _)).ints HY5.out) HPOS.out HLEN.out (Nat.le_trans hs2.size (by simp)) ?_); intro v9 w9 hr9 hb9; have hs9 := since_step (by assumption) hb9; have HR9 := Lib.hid hr9; clear hr9) | ((refine step_app_row (by rfl) _ _ _ (by rfl) W0.heap.size 5 i0 1 Try.underlying22 hi0 hz0 hz1 hz2 (by decide) _ [129, q] (by rfl) (RowI.litd _ #[.int .u8 129, .int .u8 q] [129, q] .u8 5 W0.heap.size 2 (by first | exact Nat.le_refl _ | exact (show Since W0 _ by assumption).size) rfl rfl (by unfold maxLen; simp)) _ ys (by rfl) ((HR2.out.below (below_drewN ((Below.refl _ _).alloc (Nat.le_refl _) _) 1)).ints HY5.out) HPOS.out HLEN.out (Nat.le_trans hs2.size (by simp)) ?_); intro v9 w9 hr9 hb9; have hs9 := since_step (by assumption) hb9; have HR9 := Lib.hid hr9; clear hr9))
  all_goals go_wp2_with fail
  all_goals go_ret
  all_goals exact ⟨_, rfl, RowI.to (RowI.mono HR9.out HB.out.size) rfl, below_hop HB.out (by first | exact hs9 | exact below_drewN hs9 1)⟩
set_option maxRecDepth 100000 in
set_option maxHeartbeats 1000000 in
theorem wr_num_16_s (o d s i n : Int) (b : Nat) (w : World) (hc0 : w.cell? ⟨b, 0, none⟩ = some (.int .i64 n)) (h0 : 0 ≤ i) (h1 : i ≤ 65535) (hs : (-128 ≤ sgB i 16 ∧ sgB i 16 ≤ 127)) : Calls Try.prog 122 #[.agg #[.int .i64 o, .int .i64 d, .int .i64 s, .int .i64 16, .int .i64 i], .pointer (some ⟨b, 0, none⟩)] w fun e w' => ∃ v, e = .returned v ∧ RowI w' w.heap.size 5 .u8 v [131, mrB n d, i % 256] ∧ Below w.heap.size w w' := by
  have hl0 := cell_lt hc0
  have hn0 : ¬ b = w.heap.size := by omega
  have HB := Lib.hid ((Below.refl w.heap.size w).alloc (Nat.le_refl _) (.cells #[.int .i64 o, .int .i64 d, .int .i64 s, .int .i64 16, .int .i64 i] 25))
  obtain ⟨W0, hW0⟩ : ∃ W, w.alloc (.cells #[.int .i64 o, .int .i64 d, .int .i64 s, .int .i64 16, .int .i64 i] 25) = W := ⟨_, rfl⟩
  have p0 : ∀ wk, Since W0 wk → wk.cell? ⟨b, 0, none⟩ = some (.int .i64 n) := fun wk h => h.cell (by rw [← hW0]; exact cell_alloc hc0)
  have q1 : ∀ wk, Since W0 wk → wk.cell? ⟨w.heap.size, 1, none⟩ = some (.int .i64 d) := fun wk h => h.cell (by rw [← hW0]; simp [go_sem])
  have q4 : ∀ wk, Since W0 wk → wk.cell? ⟨w.heap.size, 4, none⟩ = some (.int .i64 i) := fun wk h => h.cell (by rw [← hW0]; simp [go_sem])
  have q3 : ∀ wk, Since W0 wk → wk.cell? ⟨w.heap.size, 3, none⟩ = some (.int .i64 16) := fun wk h => h.cell (by rw [← hW0]; simp [go_sem])
  have h00 := Since.refl W0
  rw [hW0] at HB
  obtain ⟨i0, hi0, hz0, hz1, hz2⟩ := info_parts info_u8
  have C0 := Lib.hid (fun w => signed_16 i w h0 h1)
  have C2 := Lib.hid (fun w => mr_any n d w)
  have hsg : (i < 32768 ∧ sgB i 16 = i) ∨ (32768 ≤ i ∧ sgB i 16 = i - 65536) := by have e : sgB i 16 = if 32768 ≤ i then i - 65536 else i := rfl; rw [e]; split <;> omega
  have C1 := Lib.hid (fun w => within_ia (sgB i 16) (-128) 127 w)
  rw [show (decide (-128 ≤ sgB i 16) && decide (sgB i 16 ≤ 127)) = true by simp; exact hs] at C1
  have HSG := Lib.hid hsg
  have hsb : -2147483648 ≤ sgB i 16 ∧ sgB i 16 ≤ 4294967295 := by omega
  obtain ⟨sb1, sb2⟩ := hsb
  generalize sgB i 16 = g at *
  clear hsg hs
  generalize mrB n d = q at *
  clear hc0 hl0 hn0 h0 h1
  have p0a := p0 _ h00
  have q1a := q1 _ h00
  have q4a := q4 _ h00
  have q3a := q3 _ h00
  go_enter Try.func122, Try.ntmps122
  go_wp2_with (first | ((go_at_call 123; with_reducible refine (C0.out _).mono ?_); rintro e w' ⟨rfl, rfl⟩) | ((go_at_call 76; with_reducible refine (C1.out _).mono ?_); rintro e w' ⟨rfl, rfl⟩) | ((go_at_call 86; with_reducible refine (C2.out _).mono ?_); rintro e w' ⟨rfl, rfl⟩))
  clear hW0
  go_ret
  exact ⟨_, rfl, RowI.to (RowI.lit W0 #[_, _, _] [_, _, _] .u8 5 w.heap.size 3 HB.out.size rfl rfl (by unfold maxLen; simp)) (by have := HSG.out; simp only [List.cons.injEq, and_true, true_and]; omega), HB.out.trans (((Below.refl _ W0).alloc (Nat.le_refl _) _).mono HB.out.size)⟩
set_option maxRecDepth 100000 in
set_option maxHeartbeats 1000000 in
theorem wr_num_16_b (o d s i n : Int) (b : Nat) (w : World) (hc0 : w.cell? ⟨b, 0, none⟩ = some (.int .i64 n)) (h0 : 0 ≤ i) (h1 : i ≤ 65535) (hs : ¬ (-128 ≤ sgB i 16 ∧ sgB i 16 ≤ 127)) : Calls Try.prog 122 #[.agg #[.int .i64 o, .int .i64 d, .int .i64 s, .int .i64 16, .int .i64 i], .pointer (some ⟨b, 0, none⟩)] w fun e w' => ∃ v, e = .returned v ∧ RowI w' w.heap.size 5 .u8 v (129 :: mrB n d :: leB i 2) ∧ Below w.heap.size w w' := by
  have hl0 := cell_lt hc0
  have hn0 : ¬ b = w.heap.size := by omega
  have HB := Lib.hid ((Below.refl w.heap.size w).alloc (Nat.le_refl _) (.cells #[.int .i64 o, .int .i64 d, .int .i64 s, .int .i64 16, .int .i64 i] 25))
  obtain ⟨W0, hW0⟩ : ∃ W, w.alloc (.cells #[.int .i64 o, .int .i64 d, .int .i64 s, .int .i64 16, .int .i64 i] 25) = W := ⟨_, rfl⟩
  have p0 : ∀ wk, Since W0 wk → wk.cell? ⟨b, 0, none⟩ = some (.int .i64 n) := fun wk h => h.cell (by rw [← hW0]; exact cell_alloc hc0)
  have q1 : ∀ wk, Since W0 wk → wk.cell? ⟨w.heap.size, 1, none⟩ = some (.int .i64 d) := fun wk h => h.cell (by rw [← hW0]; simp [go_sem])
  have q4 : ∀ wk, Since W0 wk → wk.cell? ⟨w.heap.size, 4, none⟩ = some (.int .i64 i) := fun wk h => h.cell (by rw [← hW0]; simp [go_sem])
  have q3 : ∀ wk, Since W0 wk → wk.cell? ⟨w.heap.size, 3, none⟩ = some (.int .i64 16) := fun wk h => h.cell (by rw [← hW0]; simp [go_sem])
  have h00 := Since.refl W0
  rw [hW0] at HB
  obtain ⟨i0, hi0, hz0, hz1, hz2⟩ := info_parts info_u8
  have C0 := Lib.hid (fun w => signed_16 i w h0 h1)
  have C2 := Lib.hid (fun w => mr_any n d w)
  have hsg : (i < 32768 ∧ sgB i 16 = i) ∨ (32768 ≤ i ∧ sgB i 16 = i - 65536) := by have e : sgB i 16 = if 32768 ≤ i then i - 65536 else i := rfl; rw [e]; split <;> omega
  have C1 := Lib.hid (fun w => within_ia (sgB i 16) (-128) 127 w)
  rw [show (decide (-128 ≤ sgB i 16) && decide (sgB i 16 ≤ 127)) = false by rw [Bool.eq_false_iff]; intro h; simp only [Bool.and_eq_true, decide_eq_true_eq] at h; exact hs h] at C1
  have C3 : Hid (∀ wk, Since W0 wk → Calls Try.prog 78 #[.int .i64 i, .int .i64 (IntKind.i64.wrap 2)] wk fun e w' => ∃ v, e = .returned v ∧ RowI w' W0.heap.size 5 .u8 v (leB i 2) ∧ Below wk.heap.size wk w' ∧ Since W0 w') := fun wk h => acc_r (number_any i 2 wk ⟨by omega, by omega⟩ (by decide)) h
  have HSG := Lib.hid hsg
  have hsb : -2147483648 ≤ sgB i 16 ∧ sgB i 16 ≤ 4294967295 := by omega
  obtain ⟨sb1, sb2⟩ := hsb
  generalize sgB i 16 = g at *
  clear hsg hs
  generalize mrB n d = q at *
  have hml : (leB i 2).length = 2 := by simp [leB_length]
  generalize leB i 2 = ys at *
  have HLEN : Hid (([(0 : Int), 0]).length + ys.length ≤ 100000) := by show _ ≤ _; simp; omega
  have HPOS : Hid (0 < ys.length) := by show 0 < _; omega
  have HY5 : Hid (ys.length ≤ 140737488351232) := by show _ ≤ _; omega
  clear hml
  clear hc0 hl0 hn0 h0 h1
  have p0a := p0 _ h00
  have q1a := q1 _ h00
  have q4a := q4 _ h00
  have q3a := q3 _ h00
  go_enter Try.func122, Try.ntmps122
  go_wp2_with (first | ((go_at_call 123; with_reducible refine (C0.out _).mono ?_); rintro e w' ⟨rfl, rfl⟩) | ((go_at_call 76; with_reducible refine (C1.out _).mono ?_); rintro e w' ⟨rfl, rfl⟩))
  clear hW0
  clear p0a q1a q4a q3a sb1 sb2
  go_region_held3 (fun wk => Since W0 wk) (first | assumption | exact Since.drew (by assumption) | exact Since.next (by assumption) ((Below.refl _ _).alloc (Nat.le_refl _) _)) (first | (go_at_call 86; with_reducible refine (C2.out _).mono ?_; rintro e w' ⟨rfl, rfl⟩) | ((go_at_call 78; with_reducible refine (C3.out _ (by first | assumption | exact Since.drew (by assumption) | exact Since.next (by assumption) ((Below.refl _ _).alloc (Nat.le_refl _) _))).mono ?_); rintro e w2 ⟨v2, rfl, hr2, hb2, hs2⟩; have HR2 := Lib.hid hr2; clear hr2) | ((refine step_app_row (by rfl) _ _ _ (by rfl) W0.heap.size 5 i0 1 Try.underlying22 hi0 hz0 hz1 hz2 (by decide) _ [129, q] (by rfl) (RowI.below (RowI.lit _ #[.int .u8 129, .int .u8 q] [129, q] .u8 5 W0.heap.size 2 (by first | exact Nat.le_refl _ | exact (show Since W0 _ by assumption).size) rfl rfl (by unfold maxLen; simp)) hb2) _ ys (by rfl) (HR2.out.ints HY5.out) HPOS.out HLEN.out hs2.size ?_); intro v9 w9 hr9 hb9; have hs9 := since_step (by assumption) hb9; have HR9 := Lib.hid hr9; clear hr9) | ((refine step_app_row (by rfl) _ _ _ (by rfl) W0.heap.size 5 i0 1 Try.underlying22 hi0 hz0 hz1 hz2 (by decide) _ [129, q] (by rfl) (RowI.below (RowI.litd _ #[.int .u8 129, .int .u8 q] [129, q] .u8 5 W0.heap.size 2 (by first | exact Nat.le_refl _ | exact (show Since W0 _ by assumption).size) rfl rfl (by unfold maxLen; simp)) hb2) _ ys (by rfl) (HR2.out.ints HY5.out) HPOS.out HLEN.out hs2.size ?_); intro v9 w9 hr9 hb9; have hs9 := since_step (by assumption) hb9; have HR9 := Lib.hid hr9; clear hr9) | ((refine step_app_row (by rfl) _ _ _ (by rfl) W0.heap.size 5 i0 1 Try.underlying22 hi0 hz0 hz1 hz2 (by decide) _ [129, q] (by rfl) (RowI.lit _ #[.int .u8 129, .int .u8 q] [129, q] .u8 5 W0.heap.size 2 (by first | exact Nat.le_refl _ | exact (show Since W0 _ by assumption).size) rfl rfl (by unfold maxLen; simp)) _ ys (by rfl) ((HR2.out.below ((Below.refl _ _).alloc (Nat.le_refl _) _)).ints HY5.out) HPOS.out HLEN.out (Nat.le_trans hs2.size (by simp)) ?_); intro v9 w9 hr9 hb9; have hs9 := since_step (by assumption) hb9; have HR9 := Lib.hid hr9; clear hr9) | ((refine step_app_row (by rfl) _ _ _ (by rfl) W0.heap.size 5 i0 1 Try.underlying22 hi0 hz0 hz1 hz2 (by decide) _ [129, q] (by rfl) (RowI.litd _ #[.int .u8 129, .int .u8 q] [129, q] .u8 5 W0.heap.size 2 (by first | exact Nat.le_refl _ | exact (show Since W0 _ by assumption).size) rfl rfl (by unfold maxLen; simp)) _ ys (by rfl) ((HR2.out.below (below_drewN ((Below.refl _ _).alloc (Nat.le_refl _) _) 1)).ints HY5.out) HPOS.out HLEN.out (Nat.le_trans hs2.size (by simp)) ?_); intro v9 w9 hr9 hb9; have hs9 := since_step (by assumption) hb9; have HR9 := Lib.hid hr9; clear hr9))
  all_goals go_wp2_with fail
  all_goals go_ret
  all_goals exact ⟨_, rfl, RowI.to (RowI.mono HR9.out HB.out.size) rfl, below_hop HB.out (by first | exact hs9 | exact below_drewN hs9 1)⟩
end Go.Proofs.Ytdojafpjipcbjaa
namespace Go.Proofs.Ytdojafpjipcbjaa
open Go.RowKit
set_option linter.unusedVariables false
set_option linter.unusedSimpArgs false
set_option maxRecDepth 100000 in
set_option maxHeartbeats 1000000 in
theorem wr_jumpC_8 (o d s i : Int) (b b2 : Nat) (w : World) (hc0 : w.cell? ⟨b, 0, none⟩ = some (.func (.func 96) #[] #[])) (hc1 : w.cell? ⟨b2, 0, none⟩ = some (.func (.func 97) #[] #[])) (h1 : 0 ≤ s) (h2 : s ≤ 15) : Calls Try.prog 129 #[.agg #[.int .i64 o, .int .i64 d, .int .i64 s, .int .i64 8, .int .i64 i], .pointer (some ⟨b, 0, none⟩), .pointer (some ⟨b2, 0, none⟩)] w fun e w' => ∃ v, e = .returned v ∧ RowI w' w.heap.size 5 .u8 v ([(112 + s) % 256] ++ [i % 256]) ∧ Below w.heap.size w w' := by
  have hl0 := cell_lt hc0
  have hn0 : ¬ b = w.heap.size := by omega
  have hl1 := cell_lt hc1
  have hn1 : ¬ b2 = w.heap.size := by omega
  have HB := Lib.hid ((Below.refl w.heap.size w).alloc (Nat.le_refl _) (.cells #[.int .i64 o, .int .i64 d, .int .i64 s, .int .i64 8, .int .i64 i] 25))
  obtain ⟨W0, hW0⟩ : ∃ W, w.alloc (.cells #[.int .i64 o, .int .i64 d, .int .i64 s, .int .i64 8, .int .i64 i] 25) = W := ⟨_, rfl⟩
  have p0 : ∀ wk, Since W0 wk → wk.cell? ⟨b, 0, none⟩ = some (.func (.func 96) #[] #[]) := fun wk h => h.cell (by rw [← hW0]; exact cell_alloc hc0)
  have p1 : ∀ wk, Since W0 wk → wk.cell? ⟨b2, 0, none⟩ = some (.func (.func 97) #[] #[]) := fun wk h => h.cell (by rw [← hW0]; exact cell_alloc hc1)
  have q0 : ∀ wk, Since W0 wk → wk.cell? ⟨w.heap.size, 0, none⟩ = some (.int .i64 o) := fun wk h => h.cell (by rw [← hW0]; simp [go_sem])
  have q1 : ∀ wk, Since W0 wk → wk.cell? ⟨w.heap.size, 1, none⟩ = some (.int .i64 d) := fun wk h => h.cell (by rw [← hW0]; simp [go_sem])
  have q2 : ∀ wk, Since W0 wk → wk.cell? ⟨w.heap.size, 2, none⟩ = some (.int .i64 s) := fun wk h => h.cell (by rw [← hW0]; simp [go_sem])
  have q4 : ∀ wk, Since W0 wk → wk.cell? ⟨w.heap.size, 4, none⟩ = some (.int .i64 i) := fun wk h => h.cell (by rw [← hW0]; simp [go_sem])
  have q3 : ∀ wk, Since W0 wk → wk.cell? ⟨w.heap.size, 3, none⟩ = some (.int .i64 8) := fun wk h => h.cell (by rw [← hW0]; simp [go_sem])
  have h00 := Since.refl W0
  rw [hW0] at HB
  obtain ⟨i0, hi0, hz0, hz1, hz2⟩ := info_parts info_u8
  have C0 : Hid (∀ wk, Since W0 wk → Calls Try.prog 96 #[.agg #[.int .i64 o, .int .i64 d, .int .i64 s, .int .i64 8, .int .i64 i]] wk fun e w' => ∃ v, e = .returned v ∧ RowI w' W0.heap.size 5 .u8 v ([(112 + s) % 256]) ∧ Below wk.heap.size wk w' ∧ Since W0 w') := fun wk h => acc_r (wr_jccS o d s 8 i wk h1 h2) h
  have eq0 : IntKind.u8.wrap i = i % 256 := IntKind.wrap_u8 i
  have EQ0 := Lib.hid eq0
  clear eq0
  have h7 := q3 _ h00
  have hml : ([(112 + s) % 256]).length = 1 := rfl
  generalize [(112 + s) % 256] = xs at *
  have HLEN : Hid (xs.length + ([IntKind.u8.wrap i]).length ≤ 100000) := by show _ ≤ _; simp; omega
  clear hml
  clear h1 h2
  clear hc0 hl0 hn0
  clear hc1 hl1 hn1
  go_enter Try.func129, Try.ntmps129
  go_wp2_with fail
  clear hW0 h7
  go_region_held3 (fun wk => Since W0 wk) (first | assumption | exact Since.drew (by assumption) | exact Since.next (by assumption) ((Below.refl _ _).alloc (Nat.le_refl _) _)) (first | ((go_at_call 96; with_reducible refine (C0.out _ (by first | assumption | exact Since.drew (by assumption) | exact Since.next (by assumption) ((Below.refl _ _).alloc (Nat.le_refl _) _))).mono ?_); rintro e w1 ⟨v1, rfl, hr1, hb1, hs1⟩; have HR1 := Lib.hid hr1; clear hr1) | ((refine step_app_row (by rfl) _ _ _ (by rfl) W0.heap.size 5 i0 1 Try.underlying22 hi0 hz0 hz1 hz2 (by decide) _ xs (by rfl) (HR1.out.below ((Below.refl _ _).alloc (Nat.le_refl _) _)) _ [IntKind.u8.wrap i] (by rfl) (RowI.ints (RowI.lit _ #[.int .u8 (IntKind.u8.wrap i)] [IntKind.u8.wrap i] .u8 5 W0.heap.size 1 (by first | exact Nat.le_refl _ | exact (show Since W0 _ by assumption).size) rfl rfl (by unfold maxLen; simp)) (by simp)) (by simp) HLEN.out (Nat.le_trans hs1.size (by simp)) ?_); intro v9 w9 hr9 hb9; have hs9 := since_step (by assumption) hb9; have HR9 := Lib.hid hr9; clear hr9) | ((refine step_app_row (by rfl) _ _ _ (by rfl) W0.heap.size 5 i0 1 Try.underlying22 hi0 hz0 hz1 hz2 (by decide) _ xs (by rfl) HR1.out _ [IntKind.u8.wrap i] (by rfl) (RowI.ints (RowI.below (RowI.lit _ #[.int .u8 (IntKind.u8.wrap i)] [IntKind.u8.wrap i] .u8 5 W0.heap.size 1 (by first | exact Nat.le_refl _ | exact (show Since W0 _ by assumption).size) rfl rfl (by unfold maxLen; simp)) hb1) (by simp)) (by simp) HLEN.out hs1.size ?_); intro v9 w9 hr9 hb9; have hs9 := since_step (by assumption) hb9; have HR9 := Lib.hid hr9; clear hr9) | ((refine step_app_row (by rfl) _ _ _ (by rfl) W0.heap.size 5 i0 1 Try.underlying22 hi0 hz0 hz1 hz2 (by decide) _ xs (by rfl) (HR1.out.below (below_drewN ((Below.refl _ _).alloc (Nat.le_refl _) _) 1)) _ [IntKind.u8.wrap i] (by rfl) (RowI.ints (RowI.litd _ #[.int .u8 (IntKind.u8.wrap i)] [IntKind.u8.wrap i] .u8 5 W0.heap.size 1 (by first | exact Nat.le_refl _ | exact (show Since W0 _ by assumption).size) rfl rfl (by unfold maxLen; simp)) (by simp)) (by simp) HLEN.out (Nat.le_trans hs1.size (by simp)) ?_); intro v9 w9 hr9 hb9; have hs9 := since_step (by assumption) hb9; have HR9 := Lib.hid hr9; clear hr9) | ((refine step_app_row (by rfl) _ _ _ (by rfl) W0.heap.size 5 i0 1 Try.underlying22 hi0 hz0 hz1 hz2 (by decide) _ xs (by rfl) HR1.out _ [IntKind.u8.wrap i] (by rfl) (RowI.ints (RowI.below (RowI.litd _ #[.int .u8 (IntKind.u8.wrap i)] [IntKind.u8.wrap i] .u8 5 W0.heap.size 1 (by first | exact Nat.le_refl _ | exact (show Since W0 _ by assumption).size) rfl rfl (by unfold maxLen; simp)) hb1) (by simp)) (by simp) HLEN.out hs1.size ?_); intro v9 w9 hr9 hb9; have hs9 := since_step (by assumption) hb9; have HR9 := Lib.hid hr9; clear hr9))
  all_goals go_wp2_with fail
  all_goals go_ret
  all_goals exact ⟨_, rfl, RowI.to (RowI.mono HR9.out HB.out.size) (by rw [EQ0.out]), below_hop HB.out (by first | exact hs9 | exact below_drewN hs9 1)⟩
set_option maxRecDepth 100000 in
set_option maxHeartbeats 1000000 in
theorem wr_jumpC_32 (o d s i : Int) (b b2 : Nat) (w : World) (hc0 : w.cell? ⟨b, 0, none⟩ = some (.func (.func 96) #[] #[])) (hc1 : w.cell? ⟨b2, 0, none⟩ = some (.func (.func 97) #[] #[])) (h1 : 0 ≤ s) (h2 : s ≤ 15) (hi : I64 i) : Calls Try.prog 129 #[.agg #[.int .i64 o, .int .i64 d, .int .i64 s, .int .i64 32, .int .i64 i], .pointer (some ⟨b, 0, none⟩), .pointer (some ⟨b2, 0, none⟩)] w fun e w' => ∃ v, e = .returned v ∧ RowI w' w.heap.size 5 .u8 v ([15, (128 + s) % 256] ++ leB i 4) ∧ Below w.heap.size w w' := by
  have hl0 := cell_lt hc0
  have hn0 : ¬ b = w.heap.size := by omega
  have hl1 := cell_lt hc1
  have hn1 : ¬ b2 = w.heap.size := by omega
  have HB := Lib.hid ((Below.refl w.heap.size w).alloc (Nat.le_refl _) (.cells #[.int .i64 o, .int .i64 d, .int .i64 s, .int .i64 32, .int .i64 i] 25))
  obtain ⟨W0, hW0⟩ : ∃ W, w.alloc (.cells #[.int .i64 o, .int .i64 d, .int .i64 s, .int .i64 32, .int .i64 i] 25) = W := ⟨_, rfl⟩
  have p0 : ∀ wk, Since W0 wk → wk.cell? ⟨b, 0, none⟩ = some (.func (.func 96) #[] #[]) := fun wk h => h.cell (by rw [← hW0]; exact cell_alloc hc0)
  have p1 : ∀ wk, Since W0 wk → wk.cell? ⟨b2, 0, none⟩ = some (.func (.func 97) #[] #[]) := fun wk h => h.cell (by rw [← hW0]; exact cell_alloc hc1)
  have q0 : ∀ wk, Since W0 wk → wk.cell? ⟨w.heap.size, 0, none⟩ = some (.int .i64 o) := fun wk h => h.cell (by rw [← hW0]; simp [go_sem])
  have q1 : ∀ wk, Since W0 wk → wk.cell? ⟨w.heap.size, 1, none⟩ = some (.int .i64 d) := fun wk h => h.cell (by rw [← hW0]; simp [go_sem])
  have q2 : ∀ wk, Since W0 wk → wk.cell? ⟨w.heap.size, 2, none⟩ = some (.int .i64 s) := fun wk h => h.cell (by rw [← hW0]; simp [go_sem])
  have q4 : ∀ wk, Since W0 wk → wk.cell? ⟨w.heap.size, 4, none⟩ = some (.int .i64 i) := fun wk h => h.cell (by rw [← hW0]; simp [go_sem])
  have q3 : ∀ wk, Since W0 wk → wk.cell? ⟨w.heap.size, 3, none⟩ = some (.int .i64 32) := fun wk h => h.cell (by rw [← hW0]; simp [go_sem])
  have h00 := Since.refl W0
  rw [hW0] at HB
  obtain ⟨i0, hi0, hz0, hz1, hz2⟩ := info_parts info_u8
  have C0 : Hid (∀ wk, Since W0 wk → Calls Try.prog 97 #[.agg #[.int .i64 o, .int .i64 d, .int .i64 s, .int .i64 32, .int .i64 i]] wk fun e w' => ∃ v, e = .returned v ∧ RowI w' W0.heap.size 5 .u8 v ([15, (128 + s) % 256]) ∧ Below wk.heap.size wk w' ∧ Since W0 w') := fun wk h => acc_r (wr_jccL o d s 32 i wk h1 h2) h
  have C1 : Hid (∀ wk, Since W0 wk → Calls Try.prog 78 #[.int .i64 i, .int .i64 4] wk fun e w' => ∃ v, e = .returned v ∧ RowI w' W0.heap.size 5 .u8 v (leB i 4) ∧ Below wk.heap.size wk w' ∧ Since W0 w') := fun wk h => acc_r (number_any i 4 wk hi (by decide)) h
  have h7 := q3 _ h00
  have hml : (leB i 4).length = 4 := by simp [leB_length]
  have hxl : ([15, (128 + s) % 256]).length ≤ 2 := by simp
  generalize [15, (128 + s) % 256] = xs at *
  generalize leB i 4 = ys at *
  have HLEN : Hid (xs.length + ys.length ≤ 100000) := by show _ ≤ _; omega
  have HPOS : Hid (0 < ys.length) := by show 0 < _; omega
  have HY5 : Hid (ys.length ≤ 140737488351232) := by show _ ≤ _; omega
  clear hml hxl hi
  clear h1 h2
  clear hc0 hl0 hn0
  clear hc1 hl1 hn1
  go_enter Try.func129, Try.ntmps129
  go_wp2_with fail
  clear hW0 h7
  go_region_held3 (fun wk => Since W0 wk) (first | assumption | exact Since.drew (by assumption) | exact Since.next (by assumption) ((Below.refl _ _).alloc (Nat.le_refl _) _)) (first | ((go_at_call 97; with_reducible refine (C0.out _ (by first | assumption | exact Since.drew (by assumption) | exact Since.next (by assumption) ((Below.refl _ _).alloc (Nat.le_refl _) _))).mono ?_); rintro e w1 ⟨v1, rfl, hr1, hb1, hs1⟩; have HR1 := Lib.hid hr1; clear hr1) | ((go_at_call 78; with_reducible refine (C1.out _ (by first | assumption | exact Since.drew (by assumption) | exact Since.next (by assumption) ((Below.refl _ _).alloc (Nat.le_refl _) _))).mono ?_); rintro e w2 ⟨v2, rfl, hr2, hb2, hs2⟩; have HR2 := Lib.hid hr2; clear hr2) | ((refine step_app_row (by rfl) _ _ _ (by rfl) W0.heap.size 5 i0 1 Try.underlying22 hi0 hz0 hz1 hz2 (by decide) _ xs (by rfl) (HR1.out.below hb2) _ ys (by rfl) (HR2.out.ints HY5.out) HPOS.out HLEN.out hs2.size ?_); intro v9 w9 hr9 hb9; have hs9 := since_step (by assumption) hb9; have HR9 := Lib.hid hr9; clear hr9))
  all_goals go_wp2_with fail
  all_goals go_ret
  all_goals exact ⟨_, rfl, RowI.mono HR9.out HB.out.size, below_hop HB.out (by first | exact hs9 | exact below_drewN hs9 1)⟩
set_option maxRecDepth 100000 in
set_option maxHeartbeats 1000000 in
theorem wr_jumpJ_8 (o d s i : Int) (b b2 : Nat) (w : World) (hc0 : w.cell? ⟨b, 0, none⟩ = some (.func (.func 99) #[] #[])) (hc1 : w.cell? ⟨b2, 0, none⟩ = some (.func (.func 100) #[] #[])) : Calls Try.prog 129 #[.agg #[.int .i64 o, .int .i64 d, .int .i64 s, .int .i64 8, .int .i64 i], .pointer (some ⟨b, 0, none⟩), .pointer (some ⟨b2, 0, none⟩)] w fun e w' => ∃ v, e = .returned v ∧ RowI w' w.heap.size 5 .u8 v (([235] : List Int) ++ [i % 256]) ∧ Below w.heap.size w w' := by
  have hl0 := cell_lt hc0
  have hn0 : ¬ b = w.heap.size := by omega
  have hl1 := cell_lt hc1
  have hn1 : ¬ b2 = w.heap.size := by omega
  have HB := Lib.hid ((Below.refl w.heap.size w).alloc (Nat.le_refl _) (.cells #[.int .i64 o, .int .i64 d, .int .i64 s, .int .i64 8, .int .i64 i] 25))
  obtain ⟨W0, hW0⟩ : ∃ W, w.alloc (.cells #[.int .i64 o, .int .i64 d, .int .i64 s, .int .i64 8, .int .i64 i] 25) = W := ⟨_, rfl⟩
  have p0 : ∀ wk, Since W0 wk → wk.cell? ⟨b, 0, none⟩ = some (.func (.func 99) #[] #[]) := fun wk h => h.cell (by rw [← hW0]; exact cell_alloc hc0)
  have p1 : ∀ wk, Since W0 wk → wk.cell? ⟨b2, 0, none⟩ = some (.func (.func 100) #[] #[]) := fun wk h => h.cell (by rw [← hW0]; exact cell_alloc hc1)
  have q0 : ∀ wk, Since W0 wk → wk.cell? ⟨w.heap.size, 0, none⟩ = some (.int .i64 o) := fun wk h => h.cell (by rw [← hW0]; simp [go_sem])
  have q1 : ∀ wk, Since W0 wk → wk.cell? ⟨w.heap.size, 1, none⟩ = some (.int .i64 d) := fun wk h => h.cell (by rw [← hW0]; simp [go_sem])
  have q2 : ∀ wk, Since W0 wk → wk.cell? ⟨w.heap.size, 2, none⟩ = some (.int .i64 s) := fun wk h => h.cell (by rw [← hW0]; simp [go_sem])
  have q4 : ∀ wk, Since W0 wk → wk.cell? ⟨w.heap.size, 4, none⟩ = some (.int .i64 i) := fun wk h => h.cell (by rw [← hW0]; simp [go_sem])
  have q3 : ∀ wk, Since W0 wk → wk.cell? ⟨w.heap.size, 3, none⟩ = some (.int .i64 8) := fun wk h => h.cell (by rw [← hW0]; simp [go_sem])
  have h00 := Since.refl W0
  rw [hW0] at HB
  obtain ⟨i0, hi0, hz0, hz1, hz2⟩ := info_parts info_u8
  have C0 : Hid (∀ wk, Since W0 wk → Calls Try.prog 99 #[.agg #[.int .i64 o, .int .i64 d, .int .i64 s, .int .i64 8, .int .i64 i]] wk fun e w' => ∃ v, e = .returned v ∧ RowI w' W0.heap.size 5 .u8 v (([235] : List Int)) ∧ Below wk.heap.size wk w' ∧ Since W0 w') := fun wk h => acc_r (wr_jmpS o d s 8 i wk) h
  have eq0 : IntKind.u8.wrap i = i % 256 := IntKind.wrap_u8 i
  have EQ0 := Lib.hid eq0
  clear eq0
  have h7 := q3 _ h00
  have hml : (([235] : List Int)).length = 1 := rfl
  generalize ([235] : List Int) = xs at *
  have HLEN : Hid (xs.length + ([IntKind.u8.wrap i]).length ≤ 100000) := by show _ ≤ _; simp; omega
  clear hml
  clear hc0 hl0 hn0
  clear hc1 hl1 hn1
  go_enter Try.func129, Try.ntmps129
  go_wp2_with fail
  clear hW0 h7
  go_region_held3 (fun wk => Since W0 wk) (first | assumption | exact Since.drew (by assumption) | exact Since.next (by assumption) ((Below.refl _ _).alloc (Nat.le_refl _) _)) (first | ((go_at_call 99; with_reducible refine (C0.out _ (by first | assumption | exact Since.drew (by assumption) | exact Since.next (by assumption) ((Below.refl _ _).alloc (Nat.le_refl _) _))).mono ?_); rintro e w1 ⟨v1, rfl, hr1, hb1, hs1⟩; have HR1 := Lib.hid hr1; clear hr1) | ((refine step_app_row (by rfl) _ _ _ (by rfl) W0.heap.size 5 i0 1 Try.underlying22 hi0 hz0 hz1 hz2 (by decide) _ xs (by rfl) (HR1.out.below ((Below.refl _ _).alloc (Nat.le_refl _) _)) _ [IntKind.u8.wrap i] (by rfl) (RowI.ints (RowI.lit _ #[.int .u8 (IntKind.u8.wrap i)] [IntKind.u8.wrap i] .u8 5 W0.heap.size 1 (by first | exact Nat.le_refl _ | exact (show Since W0 _ by assumption).size) rfl rfl (by unfold maxLen; simp)) (by simp)) (by simp) HLEN.out (Nat.le_trans hs1.size (by simp)) ?_); intro v9 w9 hr9 hb9; have hs9 := since_step (by assumption) hb9; have HR9 := Lib.hid hr9; clear hr9) | ((refine step_app_row (by rfl) _ _ _ (by rfl) W0.heap.size 5 i0 1 Try.underlying22 hi0 hz0 hz1 hz2 (by decide) _ xs (by rfl) HR1.out _ [IntKind.u8.wrap i] (by rfl) (RowI.ints (RowI.below (RowI.lit _ #[.int .u8 (IntKind.u8.wrap i)] [IntKind.u8.wrap i] .u8 5 W0.heap.size 1 (by first | exact Nat.le_refl _ | exact (show Since W0 _ by assumption).size) rfl rfl (by unfold maxLen; simp)) hb1) (by simp)) (by simp) HLEN.out hs1.size ?_); intro v9 w9 hr9 hb9; have hs9 := since_step (by assumption) hb9; have HR9 := Lib.hid hr9; clear hr9) | ((refine step_app_row (by rfl) _ _ _ (by rfl) W0.heap.size 5 i0 1 Try.underlying22 hi0 hz0 hz1 hz2 (by decide) _ xs (by rfl) (HR1.out.below (below_drewN ((Below.refl _ _).alloc (Nat.le_refl _) _) 1)) _ [IntKind.u8.wrap i] (by rfl) (RowI.ints (RowI.litd _ #[.int .u8 (IntKind.u8.wrap i)] [IntKind.u8.wrap i] .u8 5 W0.heap.size 1 (by first | exact Nat.le_refl _ | exact (show Since W0 _ by assumption).size) rfl rfl (by unfold maxLen; simp)) (by simp)) (by simp) HLEN.out (Nat.le_trans hs1.size (by simp)) ?_); intro v9 w9 hr9 hb9; have hs9 := since_step (by assumption) hb9; have HR9 := Lib.hid hr9; clear hr9) | ((refine step_app_row (by rfl) _ _ _ (by rfl) W0.heap.size 5 i0 1 Try.underlying22 hi0 hz0 hz1 hz2 (by decide) _ xs (by rfl) HR1.out _ [IntKind.u8.wrap i] (by rfl) (RowI.ints (RowI.below (RowI.litd _ #[.int .u8 (IntKind.u8.wrap i)] [IntKind.u8.wrap i] .u8 5 W0.heap.size 1 (by first | exact Nat.le_refl _ | exact (show Since W0 _ by assumption).size) rfl rfl (by unfold maxLen; simp)) hb1) (by simp)) (by simp) HLEN.out hs1.size ?_); intro v9 w9 hr9 hb9; have hs9 := since_step (by assumption) hb9; have HR9 := Lib.hid hr9; clear hr9))
  all_goals go_wp2_with fail
  all_goals go_ret
  all_goals exact ⟨_, rfl, RowI.to (RowI.mono HR9.out HB.out.size) (by rw [EQ0.out]), below_hop HB.out (by first | exact hs9 | exact below_drewN hs9 1)⟩
set_option maxRecDepth 100000 in
set_option maxHeartbeats 1000000 in
theorem wr_jumpJ_32 (o d s i : Int) (b b2 : Nat) (w : World) (hc0 : w.cell? ⟨b, 0, none⟩ = some (.func (.func 99) #[] #[])) (hc1 : w.cell? ⟨b2, 0, none⟩ = some (.func (.func 100) #[] #[])) (hi : I64 i) : Calls Try.prog 129 #[.agg #[.int .i64 o, .int .i64 d, .int .i64 s, .int .i64 32, .int .i64 i], .pointer (some ⟨b, 0, none⟩), .pointer (some ⟨b2, 0, none⟩)] w fun e w' => ∃ v, e = .returned v ∧ RowI w' w.heap.size 5 .u8 v (([233] : List Int) ++ leB i 4) ∧ Below w.heap.size w w' := by
  have hl0 := cell_lt hc0
  have hn0 : ¬ b = w.heap.size := by omega
  have hl1 := cell_lt hc1
  have hn1 : ¬ b2 = w.heap.size := by omega
  have HB := Lib.hid ((Below.refl w.heap.size w).alloc (Nat.le_refl _) (.cells #[.int .i64 o, .int .i64 d, .int .i64 s, .int .i64 32, .int .i64 i] 25))
  obtain ⟨W0, hW0⟩ : ∃ W, w.alloc (.cells #[.int .i64 o, .int .i64 d, .int .i64 s, .int .i64 32, .int .i64 i] 25) = W := ⟨_, rfl⟩
  have p0 : ∀ wk, Since W0 wk → wk.cell? ⟨b, 0, none⟩ = some (.func (.func 99) #[] #[]) := fun wk h => h.cell (by rw [← hW0]; exact cell_alloc hc0)
  have p1 : ∀ wk, Since W0 wk → wk.cell? ⟨b2, 0, none⟩ = some (.func (.func 100) #[] #[]) := fun wk h => h.cell (by rw [← hW0]; exact cell_alloc hc1)
  have q0 : ∀ wk, Since W0 wk → wk.cell? ⟨w.heap.size, 0, none⟩ = some (.int .i64 o) := fun wk h => h.cell (by rw [← hW0]; simp [go_sem])
  have q1 : ∀ wk, Since W0 wk → wk.cell? ⟨w.heap.size, 1, none⟩ = some (.int .i64 d) := fun wk h => h.cell (by rw [← hW0]; simp [go_sem])
  have q2 : ∀ wk, Since W0 wk → wk.cell? ⟨w.heap.size, 2, none⟩ = some (.int .i64 s) := fun wk h => h.cell (by rw [← hW0]; simp [go_sem])
  have q4 : ∀ wk, Since W0 wk → wk.cell? ⟨w.heap.size, 4, none⟩ = some (.int .i64 i) := fun wk h => h.cell (by rw [← hW0]; simp [go_sem])
  have q3 : ∀ wk, Since W0 wk → wk.cell? ⟨w.heap.size, 3, none⟩ = some (.int .i64 32) := fun wk h => h.cell (by rw [← hW0]; simp [go_sem])
  have h00 := Since.refl W0
  rw [hW0] at HB
  obtain ⟨i0, hi0, hz0, hz1, hz2⟩ := info_parts info_u8
  have C0 : Hid (∀ wk, Since W0 wk → Calls Try.prog 100 #[.agg #[.int .i64 o, .int .i64 d, .int .i64 s, .int .i64 32, .int .i64 i]] wk fun e w' => ∃ v, e = .returned v ∧ RowI w' W0.heap.size 5 .u8 v (([233] : List Int)) ∧ Below wk.heap.size wk w' ∧ Since W0 w') := fun wk h => acc_r (wr_jmpL o d s 32 i wk) h
  have C1 : Hid (∀ wk, Since W0 wk → Calls Try.prog 78 #[.int .i64 i, .int .i64 4] wk fun e w' => ∃ v, e = .returned v ∧ RowI w' W0.heap.size 5 .u8 v (leB i 4) ∧ Below wk.heap.size wk w' ∧ Since W0 w') := fun wk h => acc_r (number_any i 4 wk hi (by decide)) h
  have h7 := q3 _ h00
  have hml : (leB i 4).length = 4 := by simp [leB_length]
  have hxl : (([233] : List Int)).length ≤ 2 := by simp
  generalize ([233] : List Int) = xs at *
  generalize leB i 4 = ys at *
  have HLEN : Hid (xs.length + ys.length ≤ 100000) := by show _ ≤ _; omega
  have HPOS : Hid (0 < ys.length) := by show 0 < _; omega
  have HY5 : Hid (ys.length ≤ 140737488351232) := by show _ ≤ _; omega
  clear hml hxl hi
  clear hc0 hl0 hn0
  clear hc1 hl1 hn1
  go_enter Try.func129, Try.ntmps129
  go_wp2_with fail
  clear hW0 h7
  go_region_held3 (fun wk => Since W0 wk) (first | assumption | exact Since.drew (by assumption) | exact Since.next (by assumption) ((Below.refl _ _).alloc (Nat.le_refl _) _)) (first | ((go_at_call 100; with_reducible refine (C0.out _ (by first | assumption | exact Since.drew (by assumption) | exact Since.next (by assumption) ((Below.refl _ _).alloc (Nat.le_refl _) _))).mono ?_); rintro e w1 ⟨v1, rfl, hr1, hb1, hs1⟩; have HR1 := Lib.hid hr1; clear hr1) | ((go_at_call 78; with_reducible refine (C1.out _ (by first | assumption | exact Since.drew (by assumption) | exact Since.next (by assumption) ((Below.refl _ _).alloc (Nat.le_refl _) _))).mono ?_); rintro e w2 ⟨v2, rfl, hr2, hb2, hs2⟩; have HR2 := Lib.hid hr2; clear hr2) | ((refine step_app_row (by rfl) _ _ _ (by rfl) W0.heap.size 5 i0 1 Try.underlying22 hi0 hz0 hz1 hz2 (by decide) _ xs (by rfl) (HR1.out.below hb2) _ ys (by rfl) (HR2.out.ints HY5.out) HPOS.out HLEN.out hs2.size ?_); intro v9 w9 hr9 hb9; have hs9 := since_step (by assumption) hb9; have HR9 := Lib.hid hr9; clear hr9))
  all_goals go_wp2_with fail
  all_goals go_ret
  all_goals exact ⟨_, rfl, RowI.mono HR9.out HB.out.size, below_hop HB.out (by first | exact hs9 | exact below_drewN hs9 1)⟩
end Go.Proofs.Ytdojafpjipcbjaa
