/- -/
import Derived.Test.YtaegpeofecdhfaaGreatC1
import Derived.Test.YtaegpeofecdhfaaGreatC3
set_option maxHeartbeats 1000000
set_option maxRecDepth 100000
namespace Go.Proofs.YtaegpeofecdhfaaGreat
open Go.RowKit
set_option linter.unusedVariables false
set_option linter.unusedSimpArgs false
theorem RowI.litd (w : World) (cs : Array Value) (xs : List Int) (k : IntKind) (e : TypeId) (base n : Nat) (hb : base ≤ w.heap.size) (hc : cs.toList = xs.map (Value.int k)) (hn : n = xs.length) (hm : xs.length ≤ maxLen) :
    RowI (w.alloc (.cells cs e)).drew base e k (.slice (some ⟨w.heap.size, 0, none⟩) n n) xs := RowI.lit w cs xs k e base n hb hc hn hm
theorem since_step {w0 w w' : World} (h : Since w0 w) (h' : Below w0.heap.size w w') : Since w0 w' := h.trans h'
theorem wr_load (o d s z i : Int) (vop : Value) (ops : List Int) (b : Nat) (w : World) (hc0 : w.cell? ⟨b, 0, none⟩ = some (vop)) (hv : Ints .u8 w vop ops) (ho : 0 < ops.length) (ho2 : ops.length ≤ 50000) (hi : I64 i) : Calls Tryz.prog 238 #[.agg #[.int .i64 o, .int .i64 d, .int .i64 s, .int .i64 z, .int .i64 i], .pointer (some ⟨b, 0, none⟩)] w fun e w' => ∃ v, e = .returned v ∧ RowI w' w.heap.size 5 .u8 v (ops ++ mmB d s i) ∧ Below w.heap.size w w' := by
  have HV := Lib.hid hv
  obtain ⟨va, vc, rfl, _⟩ := hv.shape
  have hl0 := cell_lt hc0
  have hn0 : ¬ b = w.heap.size := by omega
  have HB := Lib.hid ((Below.refl w.heap.size w).alloc (Nat.le_refl _) (.cells #[.int .i64 o, .int .i64 d, .int .i64 s, .int .i64 z, .int .i64 i] 157))
  obtain ⟨W0, hW0⟩ : ∃ W, w.alloc (.cells #[.int .i64 o, .int .i64 d, .int .i64 s, .int .i64 z, .int .i64 i] 157) = W := ⟨_, rfl⟩
  have p0 : ∀ wk, Since W0 wk → wk.cell? ⟨b, 0, none⟩ = some (.slice va ops.length vc) := fun wk h => h.cell (by rw [← hW0]; exact cell_alloc hc0)
  have q1 : ∀ wk, Since W0 wk → wk.cell? ⟨w.heap.size, 1, none⟩ = some (.int .i64 d) := fun wk h => h.cell (by rw [← hW0]; simp [go_sem])
  have q2 : ∀ wk, Since W0 wk → wk.cell? ⟨w.heap.size, 2, none⟩ = some (.int .i64 s) := fun wk h => h.cell (by rw [← hW0]; simp [go_sem])
  have q4 : ∀ wk, Since W0 wk → wk.cell? ⟨w.heap.size, 4, none⟩ = some (.int .i64 i) := fun wk h => h.cell (by rw [← hW0]; simp [go_sem])
  have h00 := Since.refl W0
  rw [hW0] at HB
  obtain ⟨i0, hi0, hz0, hz1, hz2⟩ := info_parts info_u8
  have C0 : Hid (∀ wk, Since W0 wk → Calls Tryz.prog 63 #[.slice va ops.length vc] wk fun e w' => ∃ v, e = .returned v ∧ RowI w' W0.heap.size 5 .u8 v (ops) ∧ Below wk.heap.size wk w' ∧ Since W0 w') := fun wk h => acc_r (clone_any ops _ wk ((HV.out.stays (by rw [← hW0]; exact (Below.refl _ _).alloc (Nat.le_refl _) _)).stays h) ho ho2) h
  have C1 : Hid (∀ wk, Since W0 wk → Calls Tryz.prog 239 #[.int .i64 d, .int .i64 s, .int .i64 i] wk fun e w' => ∃ v, e = .returned v ∧ RowI w' W0.heap.size 5 .u8 v (mmB d s i) ∧ Below wk.heap.size wk w' ∧ Since W0 w') := fun wk h => acc_r (mm_any d s i wk hi) h
  have hml : (mmB d s i).length = 5 := by simp [mmB, leB_length]
  generalize mmB d s i = ys at *
  have HLEN : Hid (ops.length + ys.length ≤ 100000) := by show _ ≤ _; omega
  have HPOS : Hid (0 < ys.length) := by show 0 < _; omega
  have HY5 : Hid (ys.length ≤ 140737488351232) := by show _ ≤ _; omega
  clear ho ho2 hi hml
  clear hc0 hl0 hn0
  go_enter Tryz.func238, Tryz.ntmps238
  go_wp2_with fail
  clear hW0
  go_region_held3 (fun wk => Since W0 wk) (first | assumption | exact Since.drew (by assumption) | exact Since.next (by assumption) ((Below.refl _ _).alloc (Nat.le_refl _) _)) (first | ((go_at_call 63; with_reducible refine (C0.out _ (by first | assumption | exact Since.drew (by assumption) | exact Since.next (by assumption) ((Below.refl _ _).alloc (Nat.le_refl _) _))).mono ?_); rintro e w1 ⟨v1, rfl, hr1, hb1, hs1⟩; have HR1 := Lib.hid hr1; clear hr1) | ((go_at_call 239; with_reducible refine (C1.out _ (by first | assumption | exact Since.drew (by assumption) | exact Since.next (by assumption) ((Below.refl _ _).alloc (Nat.le_refl _) _))).mono ?_); rintro e w2 ⟨v2, rfl, hr2, hb2, hs2⟩; have HR2 := Lib.hid hr2; clear hr2) | ((refine step_app_row (by rfl) _ _ _ (by rfl) W0.heap.size 5 i0 1 Tryz.underlying22 hi0 hz0 hz1 hz2 (by decide) _ ops (by rfl) (HR1.out.below hb2) _ ys (by rfl) (HR2.out.ints HY5.out) HPOS.out HLEN.out hs2.size ?_); intro v9 w9 hr9 hb9; have hs9 := since_step (by assumption) hb9; have HR9 := Lib.hid hr9; clear hr9))
  go_wp2_with fail
  go_ret
  exact ⟨_, rfl, RowI.to (RowI.mono HR9.out HB.out.size) (rfl), below_hop HB.out (by first | exact hs9 | exact below_drewN hs9 1)⟩
theorem wr_store (o d s z i c : Int) (b : Nat) (w : World) (hc0 : w.cell? ⟨b, 0, none⟩ = some (.int .u8 c)) (hi : I64 i) : Calls Tryz.prog 241 #[.agg #[.int .i64 o, .int .i64 d, .int .i64 s, .int .i64 z, .int .i64 i], .pointer (some ⟨b, 0, none⟩)] w fun e w' => ∃ v, e = .returned v ∧ RowI w' w.heap.size 5 .u8 v (c :: mmB s d i) ∧ Below w.heap.size w w' := by
  have hl0 := cell_lt hc0
  have hn0 : ¬ b = w.heap.size := by omega
  have HB := Lib.hid ((Below.refl w.heap.size w).alloc (Nat.le_refl _) (.cells #[.int .i64 o, .int .i64 d, .int .i64 s, .int .i64 z, .int .i64 i] 157))
  obtain ⟨W0, hW0⟩ : ∃ W, w.alloc (.cells #[.int .i64 o, .int .i64 d, .int .i64 s, .int .i64 z, .int .i64 i] 157) = W := ⟨_, rfl⟩
  have p0 : ∀ wk, Since W0 wk → wk.cell? ⟨b, 0, none⟩ = some (.int .u8 c) := fun wk h => h.cell (by rw [← hW0]; exact cell_alloc hc0)
  have q1 : ∀ wk, Since W0 wk → wk.cell? ⟨w.heap.size, 1, none⟩ = some (.int .i64 d) := fun wk h => h.cell (by rw [← hW0]; simp [go_sem])
  have q2 : ∀ wk, Since W0 wk → wk.cell? ⟨w.heap.size, 2, none⟩ = some (.int .i64 s) := fun wk h => h.cell (by rw [← hW0]; simp [go_sem])
  have q4 : ∀ wk, Since W0 wk → wk.cell? ⟨w.heap.size, 4, none⟩ = some (.int .i64 i) := fun wk h => h.cell (by rw [← hW0]; simp [go_sem])
  have h00 := Since.refl W0
  rw [hW0] at HB
  obtain ⟨i0, hi0, hz0, hz1, hz2⟩ := info_parts info_u8
  have C1 : Hid (∀ wk, Since W0 wk → Calls Tryz.prog 239 #[.int .i64 s, .int .i64 d, .int .i64 i] wk fun e w' => ∃ v, e = .returned v ∧ RowI w' W0.heap.size 5 .u8 v (mmB s d i) ∧ Below wk.heap.size wk w' ∧ Since W0 w') := fun wk h => acc_r (mm_any s d i wk hi) h
  have hml : (mmB s d i).length = 5 := by simp [mmB, leB_length]
  generalize mmB s d i = ys at *
  have HLEN : Hid (([c]).length + ys.length ≤ 100000) := by show _ ≤ _; simp; omega
  have HPOS : Hid (0 < ys.length) := by show 0 < _; omega
  have HY5 : Hid (ys.length ≤ 140737488351232) := by show _ ≤ _; omega
  clear hml
  clear hi
  clear hc0 hl0 hn0
  go_enter Tryz.func241, Tryz.ntmps241
  go_wp2_with fail
  clear hW0
  go_region_held3 (fun wk => Since W0 wk) (first | assumption | exact Since.drew (by assumption) | exact Since.next (by assumption) ((Below.refl _ _).alloc (Nat.le_refl _) _)) (first | ((go_at_call 239; with_reducible refine (C1.out _ (by first | assumption | exact Since.drew (by assumption) | exact Since.next (by assumption) ((Below.refl _ _).alloc (Nat.le_refl _) _))).mono ?_); rintro e w2 ⟨v2, rfl, hr2, hb2, hs2⟩; have HR2 := Lib.hid hr2; clear hr2) | ((refine step_app_row (by rfl) _ _ _ (by rfl) W0.heap.size 5 i0 1 Tryz.underlying22 hi0 hz0 hz1 hz2 (by decide) _ [c] (by rfl) (RowI.below (RowI.lit _ #[.int .u8 c] [c] .u8 5 W0.heap.size 1 (by first | exact Nat.le_refl _ | exact (show Since W0 _ by assumption).size) rfl rfl (by unfold maxLen; simp)) hb2) _ ys (by rfl) (HR2.out.ints HY5.out) HPOS.out HLEN.out hs2.size ?_); intro v9 w9 hr9 hb9; have hs9 := since_step (by assumption) hb9; have HR9 := Lib.hid hr9; clear hr9) | ((refine step_app_row (by rfl) _ _ _ (by rfl) W0.heap.size 5 i0 1 Tryz.underlying22 hi0 hz0 hz1 hz2 (by decide) _ [c] (by rfl) (RowI.below (RowI.litd _ #[.int .u8 c] [c] .u8 5 W0.heap.size 1 (by first | exact Nat.le_refl _ | exact (show Since W0 _ by assumption).size) rfl rfl (by unfold maxLen; simp)) hb2) _ ys (by rfl) (HR2.out.ints HY5.out) HPOS.out HLEN.out hs2.size ?_); intro v9 w9 hr9 hb9; have hs9 := since_step (by assumption) hb9; have HR9 := Lib.hid hr9; clear hr9) | ((refine step_app_row (by rfl) _ _ _ (by rfl) W0.heap.size 5 i0 1 Tryz.underlying22 hi0 hz0 hz1 hz2 (by decide) _ [c] (by rfl) (RowI.lit _ #[.int .u8 c] [c] .u8 5 W0.heap.size 1 (by first | exact Nat.le_refl _ | exact (show Since W0 _ by assumption).size) rfl rfl (by unfold maxLen; simp)) _ ys (by rfl) ((HR2.out.below ((Below.refl _ _).alloc (Nat.le_refl _) _)).ints HY5.out) HPOS.out HLEN.out (Nat.le_trans hs2.size (by simp)) ?_); intro v9 w9 hr9 hb9; have hs9 := since_step (by assumption) hb9; have HR9 := Lib.hid hr9; clear hr9) | ((refine step_app_row (by rfl) _ _ _ (by rfl) W0.heap.size 5 i0 1 Tryz.underlying22 hi0 hz0 hz1 hz2 (by decide) _ [c] (by rfl) (RowI.litd _ #[.int .u8 c] [c] .u8 5 W0.heap.size 1 (by first | exact Nat.le_refl _ | exact (show Since W0 _ by assumption).size) rfl rfl (by unfold maxLen; simp)) _ ys (by rfl) ((HR2.out.below (below_drewN ((Below.refl _ _).alloc (Nat.le_refl _) _) 1)).ints HY5.out) HPOS.out HLEN.out (Nat.le_trans hs2.size (by simp)) ?_); intro v9 w9 hr9 hb9; have hs9 := since_step (by assumption) hb9; have HR9 := Lib.hid hr9; clear hr9))
  all_goals go_wp2_with fail
  all_goals go_ret
  all_goals exact ⟨_, rfl, RowI.to (RowI.mono HR9.out HB.out.size) rfl, below_hop HB.out (by first | exact hs9 | exact below_drewN hs9 1)⟩
theorem wr_movi_32 (o d s i : Int) (w : World) (hi : I64 i) : Calls Tryz.prog 208 #[.agg #[.int .i64 o, .int .i64 d, .int .i64 s, .int .i64 32, .int .i64 i]] w fun e w' => ∃ v, e = .returned v ∧ RowI w' w.heap.size 5 .u8 v ((184 + d) % 256 :: leB i 4) ∧ Below w.heap.size w w' := by
  have HB := Lib.hid ((Below.refl w.heap.size w).alloc (Nat.le_refl _) (.cells #[.int .i64 o, .int .i64 d, .int .i64 s, .int .i64 32, .int .i64 i] 157))
  obtain ⟨W0, hW0⟩ : ∃ W, w.alloc (.cells #[.int .i64 o, .int .i64 d, .int .i64 s, .int .i64 32, .int .i64 i] 157) = W := ⟨_, rfl⟩
  have q1 : ∀ wk, Since W0 wk → wk.cell? ⟨w.heap.size, 1, none⟩ = some (.int .i64 d) := fun wk h => h.cell (by rw [← hW0]; simp [go_sem])
  have q4 : ∀ wk, Since W0 wk → wk.cell? ⟨w.heap.size, 4, none⟩ = some (.int .i64 i) := fun wk h => h.cell (by rw [← hW0]; simp [go_sem])
  have q3 : ∀ wk, Since W0 wk → wk.cell? ⟨w.heap.size, 3, none⟩ = some (.int .i64 32) := fun wk h => h.cell (by rw [← hW0]; simp [go_sem])
  have h00 := Since.refl W0
  rw [hW0] at HB
  obtain ⟨i0, hi0, hz0, hz1, hz2⟩ := info_parts info_u8
  have C1 : Hid (∀ wk, Since W0 wk → Calls Tryz.prog 148 #[.int .i64 i, .int .i64 (IntKind.i64.wrap 4)] wk fun e w' => ∃ v, e = .returned v ∧ RowI w' W0.heap.size 5 .u8 v (leB i 4) ∧ Below wk.heap.size wk w' ∧ Since W0 w') := fun wk h => acc_r (number_any i 4 wk hi (by decide)) h
  have eq0 : IntKind.u8.wrap (IntKind.i64.wrap (184 + d)) = (184 + d) % 256 := by rw [IntKind.wrap_u8, IntKind.wrap_i64]; omega
  have EQ0 := Lib.hid eq0
  clear eq0
  have hml : (leB i 4).length = 4 := by simp [mmB, leB_length]
  generalize leB i 4 = ys at *
  have HLEN : Hid (([(0 : Int)]).length + ys.length ≤ 100000) := by show _ ≤ _; simp; omega
  have HPOS : Hid (0 < ys.length) := by show 0 < _; omega
  have HY5 : Hid (ys.length ≤ 140737488351232) := by show _ ≤ _; omega
  clear hml
  clear hi
  go_enter Tryz.func208, Tryz.ntmps208
  go_wp2_with fail
  clear hW0
  go_region_held3 (fun wk => Since W0 wk) (first | assumption | exact Since.drew (by assumption) | exact Since.next (by assumption) ((Below.refl _ _).alloc (Nat.le_refl _) _)) (first | ((go_at_call 148; with_reducible refine (C1.out _ (by first | assumption | exact Since.drew (by assumption) | exact Since.next (by assumption) ((Below.refl _ _).alloc (Nat.le_refl _) _))).mono ?_); rintro e w2 ⟨v2, rfl, hr2, hb2, hs2⟩; have HR2 := Lib.hid hr2; clear hr2) | ((refine step_app_row (by rfl) _ _ _ (by rfl) W0.heap.size 5 i0 1 Tryz.underlying22 hi0 hz0 hz1 hz2 (by decide) _ [IntKind.u8.wrap (IntKind.i64.wrap (184 + d))] (by rfl) (RowI.below (RowI.lit _ #[.int .u8 (IntKind.u8.wrap (IntKind.i64.wrap (184 + d)))] [(IntKind.u8.wrap (IntKind.i64.wrap (184 + d)))] .u8 5 W0.heap.size 1 (by first | exact Nat.le_refl _ | exact (show Since W0 _ by assumption).size) rfl rfl (by unfold maxLen; simp)) hb2) _ ys (by rfl) (HR2.out.ints HY5.out) HPOS.out HLEN.out hs2.size ?_); intro v9 w9 hr9 hb9; have hs9 := since_step (by assumption) hb9; have HR9 := Lib.hid hr9; clear hr9) | ((refine step_app_row (by rfl) _ _ _ (by rfl) W0.heap.size 5 i0 1 Tryz.underlying22 hi0 hz0 hz1 hz2 (by decide) _ [IntKind.u8.wrap (IntKind.i64.wrap (184 + d))] (by rfl) (RowI.below (RowI.litd _ #[.int .u8 (IntKind.u8.wrap (IntKind.i64.wrap (184 + d)))] [(IntKind.u8.wrap (IntKind.i64.wrap (184 + d)))] .u8 5 W0.heap.size 1 (by first | exact Nat.le_refl _ | exact (show Since W0 _ by assumption).size) rfl rfl (by unfold maxLen; simp)) hb2) _ ys (by rfl) (HR2.out.ints HY5.out) HPOS.out HLEN.out hs2.size ?_); intro v9 w9 hr9 hb9; have hs9 := since_step (by assumption) hb9; have HR9 := Lib.hid hr9; clear hr9) | ((refine step_app_row (by rfl) _ _ _ (by rfl) W0.heap.size 5 i0 1 Tryz.underlying22 hi0 hz0 hz1 hz2 (by decide) _ [IntKind.u8.wrap (IntKind.i64.wrap (184 + d))] (by rfl) (RowI.lit _ #[.int .u8 (IntKind.u8.wrap (IntKind.i64.wrap (184 + d)))] [(IntKind.u8.wrap (IntKind.i64.wrap (184 + d)))] .u8 5 W0.heap.size 1 (by first | exact Nat.le_refl _ | exact (show Since W0 _ by assumption).size) rfl rfl (by unfold maxLen; simp)) _ ys (by rfl) ((HR2.out.below ((Below.refl _ _).alloc (Nat.le_refl _) _)).ints HY5.out) HPOS.out HLEN.out (Nat.le_trans hs2.size (by simp)) ?_); intro v9 w9 hr9 hb9; have hs9 := since_step (by assumption) hb9; have HR9 := Lib.hid hr9; clear hr9) | ((refine step_app_row (by rfl) _ _ _ (by rfl) W0.heap.size 5 i0 1 Tryz.underlying22 hi0 hz0 hz1 hz2 (by decide) _ [IntKind.u8.wrap (IntKind.i64.wrap (184 + d))] (by rfl) (RowI.litd _ #[.int .u8 (IntKind.u8.wrap (IntKind.i64.wrap (184 + d)))] [(IntKind.u8.wrap (IntKind.i64.wrap (184 + d)))] .u8 5 W0.heap.size 1 (by first | exact Nat.le_refl _ | exact (show Since W0 _ by assumption).size) rfl rfl (by unfold maxLen; simp)) _ ys (by rfl) ((HR2.out.below (below_drewN ((Below.refl _ _).alloc (Nat.le_refl _) _) 1)).ints HY5.out) HPOS.out HLEN.out (Nat.le_trans hs2.size (by simp)) ?_); intro v9 w9 hr9 hb9; have hs9 := since_step (by assumption) hb9; have HR9 := Lib.hid hr9; clear hr9))
  all_goals go_wp2_with fail
  all_goals go_ret
  all_goals exact ⟨_, rfl, RowI.to (RowI.mono HR9.out HB.out.size) (by rw [EQ0.out]; rfl), below_hop HB.out (by first | exact hs9 | exact below_drewN hs9 1)⟩
theorem wr_movi_16 (o d s i : Int) (w : World) (hi : I64 i) : Calls Tryz.prog 208 #[.agg #[.int .i64 o, .int .i64 d, .int .i64 s, .int .i64 16, .int .i64 i]] w fun e w' => ∃ v, e = .returned v ∧ RowI w' w.heap.size 5 .u8 v ((184 + d) % 256 :: leB i 2) ∧ Below w.heap.size w w' := by
  have HB := Lib.hid ((Below.refl w.heap.size w).alloc (Nat.le_refl _) (.cells #[.int .i64 o, .int .i64 d, .int .i64 s, .int .i64 16, .int .i64 i] 157))
  obtain ⟨W0, hW0⟩ : ∃ W, w.alloc (.cells #[.int .i64 o, .int .i64 d, .int .i64 s, .int .i64 16, .int .i64 i] 157) = W := ⟨_, rfl⟩
  have q1 : ∀ wk, Since W0 wk → wk.cell? ⟨w.heap.size, 1, none⟩ = some (.int .i64 d) := fun wk h => h.cell (by rw [← hW0]; simp [go_sem])
  have q4 : ∀ wk, Since W0 wk → wk.cell? ⟨w.heap.size, 4, none⟩ = some (.int .i64 i) := fun wk h => h.cell (by rw [← hW0]; simp [go_sem])
  have q3 : ∀ wk, Since W0 wk → wk.cell? ⟨w.heap.size, 3, none⟩ = some (.int .i64 16) := fun wk h => h.cell (by rw [← hW0]; simp [go_sem])
  have h00 := Since.refl W0
  rw [hW0] at HB
  obtain ⟨i0, hi0, hz0, hz1, hz2⟩ := info_parts info_u8
  have C1 : Hid (∀ wk, Since W0 wk → Calls Tryz.prog 148 #[.int .i64 i, .int .i64 (IntKind.i64.wrap 2)] wk fun e w' => ∃ v, e = .returned v ∧ RowI w' W0.heap.size 5 .u8 v (leB i 2) ∧ Below wk.heap.size wk w' ∧ Since W0 w') := fun wk h => acc_r (number_any i 2 wk hi (by decide)) h
  have eq0 : IntKind.u8.wrap (IntKind.i64.wrap (184 + d)) = (184 + d) % 256 := by rw [IntKind.wrap_u8, IntKind.wrap_i64]; omega
  have EQ0 := Lib.hid eq0
  clear eq0
  have hml : (leB i 2).length = 2 := by simp [mmB, leB_length]
  generalize leB i 2 = ys at *
  have HLEN : Hid (([(0 : Int)]).length + ys.length ≤ 100000) := by show _ ≤ _; simp; omega
  have HPOS : Hid (0 < ys.length) := by show 0 < _; omega
  have HY5 : Hid (ys.length ≤ 140737488351232) := by show _ ≤ _; omega
  clear hml
  clear hi
  go_enter Tryz.func208, Tryz.ntmps208
  go_wp2_with fail
  clear hW0
  go_region_held3 (fun wk => Since W0 wk) (first | assumption | exact Since.drew (by assumption) | exact Since.next (by assumption) ((Below.refl _ _).alloc (Nat.le_refl _) _)) (first | ((go_at_call 148; with_reducible refine (C1.out _ (by first | assumption | exact Since.drew (by assumption) | exact Since.next (by assumption) ((Below.refl _ _).alloc (Nat.le_refl _) _))).mono ?_); rintro e w2 ⟨v2, rfl, hr2, hb2, hs2⟩; have HR2 := Lib.hid hr2; clear hr2) | ((refine step_app_row (by rfl) _ _ _ (by rfl) W0.heap.size 5 i0 1 Tryz.underlying22 hi0 hz0 hz1 hz2 (by decide) _ [IntKind.u8.wrap (IntKind.i64.wrap (184 + d))] (by rfl) (RowI.below (RowI.lit _ #[.int .u8 (IntKind.u8.wrap (IntKind.i64.wrap (184 + d)))] [(IntKind.u8.wrap (IntKind.i64.wrap (184 + d)))] .u8 5 W0.heap.size 1 (by first | exact Nat.le_refl _ | exact (show Since W0 _ by assumption).size) rfl rfl (by unfold maxLen; simp)) hb2) _ ys (by rfl) (HR2.out.ints HY5.out) HPOS.out HLEN.out hs2.size ?_); intro v9 w9 hr9 hb9; have hs9 := since_step (by assumption) hb9; have HR9 := Lib.hid hr9; clear hr9) | ((refine step_app_row (by rfl) _ _ _ (by rfl) W0.heap.size 5 i0 1 Tryz.underlying22 hi0 hz0 hz1 hz2 (by decide) _ [IntKind.u8.wrap (IntKind.i64.wrap (184 + d))] (by rfl) (RowI.below (RowI.litd _ #[.int .u8 (IntKind.u8.wrap (IntKind.i64.wrap (184 + d)))] [(IntKind.u8.wrap (IntKind.i64.wrap (184 + d)))] .u8 5 W0.heap.size 1 (by first | exact Nat.le_refl _ | exact (show Since W0 _ by assumption).size) rfl rfl (by unfold maxLen; simp)) hb2) _ ys (by rfl) (HR2.out.ints HY5.out) HPOS.out HLEN.out hs2.size ?_); intro v9 w9 hr9 hb9; have hs9 := since_step (by assumption) hb9; have HR9 := Lib.hid hr9; clear hr9) | ((refine step_app_row (by rfl) _ _ _ (by rfl) W0.heap.size 5 i0 1 Tryz.underlying22 hi0 hz0 hz1 hz2 (by decide) _ [IntKind.u8.wrap (IntKind.i64.wrap (184 + d))] (by rfl) (RowI.lit _ #[.int .u8 (IntKind.u8.wrap (IntKind.i64.wrap (184 + d)))] [(IntKind.u8.wrap (IntKind.i64.wrap (184 + d)))] .u8 5 W0.heap.size 1 (by first | exact Nat.le_refl _ | exact (show Since W0 _ by assumption).size) rfl rfl (by unfold maxLen; simp)) _ ys (by rfl) ((HR2.out.below ((Below.refl _ _).alloc (Nat.le_refl _) _)).ints HY5.out) HPOS.out HLEN.out (Nat.le_trans hs2.size (by simp)) ?_); intro v9 w9 hr9 hb9; have hs9 := since_step (by assumption) hb9; have HR9 := Lib.hid hr9; clear hr9) | ((refine step_app_row (by rfl) _ _ _ (by rfl) W0.heap.size 5 i0 1 Tryz.underlying22 hi0 hz0 hz1 hz2 (by decide) _ [IntKind.u8.wrap (IntKind.i64.wrap (184 + d))] (by rfl) (RowI.litd _ #[.int .u8 (IntKind.u8.wrap (IntKind.i64.wrap (184 + d)))] [(IntKind.u8.wrap (IntKind.i64.wrap (184 + d)))] .u8 5 W0.heap.size 1 (by first | exact Nat.le_refl _ | exact (show Since W0 _ by assumption).size) rfl rfl (by unfold maxLen; simp)) _ ys (by rfl) ((HR2.out.below (below_drewN ((Below.refl _ _).alloc (Nat.le_refl _) _) 1)).ints HY5.out) HPOS.out HLEN.out (Nat.le_trans hs2.size (by simp)) ?_); intro v9 w9 hr9 hb9; have hs9 := since_step (by assumption) hb9; have HR9 := Lib.hid hr9; clear hr9))
  all_goals go_wp2_with fail
  all_goals go_ret
  all_goals exact ⟨_, rfl, RowI.to (RowI.mono HR9.out HB.out.size) (by rw [EQ0.out]; rfl), below_hop HB.out (by first | exact hs9 | exact below_drewN hs9 1)⟩
theorem wr_bare (o d s z i : Int) (vop : Value) (ops : List Int) (b : Nat) (w : World) (hc0 : w.cell? ⟨b, 0, none⟩ = some (vop)) (hv : Ints .u8 w vop ops) (ho : 0 < ops.length) (ho2 : ops.length ≤ 50000) : Calls Tryz.prog 248 #[.agg #[.int .i64 o, .int .i64 d, .int .i64 s, .int .i64 z, .int .i64 i], .pointer (some ⟨b, 0, none⟩)] w fun e w' => ∃ v, e = .returned v ∧ RowI w' w.heap.size 5 .u8 v ops ∧ Below w.heap.size w w' := by
  have hl0 := cell_lt hc0
  have hn0 : ¬ b = w.heap.size := by omega
  have HB := Lib.hid ((Below.refl w.heap.size w).alloc (Nat.le_refl _) (.cells #[.int .i64 o, .int .i64 d, .int .i64 s, .int .i64 z, .int .i64 i] 157))
  obtain ⟨W0, hW0⟩ : ∃ W, w.alloc (.cells #[.int .i64 o, .int .i64 d, .int .i64 s, .int .i64 z, .int .i64 i] 157) = W := ⟨_, rfl⟩
  have p0 : ∀ wk, Since W0 wk → wk.cell? ⟨b, 0, none⟩ = some (vop) := fun wk h => h.cell (by rw [← hW0]; exact cell_alloc hc0)
  have h00 := Since.refl W0
  rw [hW0] at HB
  have C0 : Hid (∀ wk, Since W0 wk → Calls Tryz.prog 63 #[vop] wk fun e w' => ∃ v, e = .returned v ∧ RowI w' W0.heap.size 5 .u8 v (ops) ∧ Below wk.heap.size wk w' ∧ Since W0 w') := fun wk h => acc_r (clone_any ops vop wk ((hv.stays (by rw [← hW0]; exact (Below.refl _ _).alloc (Nat.le_refl _) _)).stays h) ho ho2) h
  have c0 := p0 _ h00
  clear hv ho ho2
  clear hc0 hl0 hn0
  go_enter Tryz.func248, Tryz.ntmps248
  go_wp2_with ((go_at_call 63; with_reducible refine (C0.out _ (by first | assumption)).mono ?_); rintro e w1 ⟨v1, rfl, hr1, hb1, hs1⟩; have HR1 := Lib.hid hr1; clear hr1)
  go_ret
  exact ⟨_, rfl, HR1.out.mono HB.out.size, below_hop HB.out hs1⟩
theorem signed_32 (n : Int) (w : World) (h0 : 0 ≤ n) (h1 : n ≤ 4294967295) : Calls Tryz.prog 244 #[.int .i64 n, .int .i64 32] w fun e w' => e = .returned (.int .i64 (sgB n 32)) ∧ w = w' := by
  have e : sgB n 32 = if 2147483648 ≤ n then n - 4294967296 else n := rfl
  rw [e]
  by_cases c : 2147483648 ≤ n
  · rw [if_pos c]
    have hb : (bits .and .i64 (n / 2147483648) 1 == 1) = true := by rw [i64_and _ 1 1 (by decide) rfl]; simp; omega
    clear e
    go_enter Tryz.func244, Tryz.ntmps244
    go_wp2
    go_ret
    exact ⟨rfl, rfl⟩
  · rw [if_neg c]
    have hb : (bits .and .i64 (n / 2147483648) 1 == 1) = false := by rw [i64_and _ 1 1 (by decide) rfl]; simp; omega
    clear e
    go_enter Tryz.func244, Tryz.ntmps244
    go_wp2
    go_ret
    exact ⟨rfl, rfl⟩
theorem signed_16 (n : Int) (w : World) (h0 : 0 ≤ n) (h1 : n ≤ 65535) : Calls Tryz.prog 244 #[.int .i64 n, .int .i64 16] w fun e w' => e = .returned (.int .i64 (sgB n 16)) ∧ w = w' := by
  have e : sgB n 16 = if 32768 ≤ n then n - 65536 else n := rfl
  rw [e]
  by_cases c : 32768 ≤ n
  · rw [if_pos c]
    have hb : (bits .and .i64 (n / 32768) 1 == 1) = true := by rw [i64_and _ 1 1 (by decide) rfl]; simp; omega
    clear e
    go_enter Tryz.func244, Tryz.ntmps244
    go_wp2
    go_ret
    exact ⟨rfl, rfl⟩
  · rw [if_neg c]
    have hb : (bits .and .i64 (n / 32768) 1 == 1) = false := by rw [i64_and _ 1 1 (by decide) rfl]; simp; omega
    clear e
    go_enter Tryz.func244, Tryz.ntmps244
    go_wp2
    go_ret
    exact ⟨rfl, rfl⟩
theorem wr_num_32_s (o d s i n : Int) (b : Nat) (w : World) (hc0 : w.cell? ⟨b, 0, none⟩ = some (.int .i64 n)) (h0 : 0 ≤ i) (h1 : i ≤ 4294967295) (hs : (-128 ≤ sgB i 32 ∧ sgB i 32 ≤ 127)) : Calls Tryz.prog 243 #[.agg #[.int .i64 o, .int .i64 d, .int .i64 s, .int .i64 32, .int .i64 i], .pointer (some ⟨b, 0, none⟩)] w fun e w' => ∃ v, e = .returned v ∧ RowI w' w.heap.size 5 .u8 v [131, mrB n d, i % 256] ∧ Below w.heap.size w w' := by
  have hl0 := cell_lt hc0
  have hn0 : ¬ b = w.heap.size := by omega
  have HB := Lib.hid ((Below.refl w.heap.size w).alloc (Nat.le_refl _) (.cells #[.int .i64 o, .int .i64 d, .int .i64 s, .int .i64 32, .int .i64 i] 157))
  obtain ⟨W0, hW0⟩ : ∃ W, w.alloc (.cells #[.int .i64 o, .int .i64 d, .int .i64 s, .int .i64 32, .int .i64 i] 157) = W := ⟨_, rfl⟩
  have p0 : ∀ wk, Since W0 wk → wk.cell? ⟨b, 0, none⟩ = some (.int .i64 n) := fun wk h => h.cell (by rw [← hW0]; exact cell_alloc hc0)
  have q1 : ∀ wk, Since W0 wk → wk.cell? ⟨w.heap.size, 1, none⟩ = some (.int .i64 d) := fun wk h => h.cell (by rw [← hW0]; simp [go_sem])
  have q4 : ∀ wk, Since W0 wk → wk.cell? ⟨w.heap.size, 4, none⟩ = some (.int .i64 i) := fun wk h => h.cell (by rw [← hW0]; simp [go_sem])
  have q3 : ∀ wk, Since W0 wk → wk.cell? ⟨w.heap.size, 3, none⟩ = some (.int .i64 32) := fun wk h => h.cell (by rw [← hW0]; simp [go_sem])
  have h00 := Since.refl W0
  rw [hW0] at HB
  obtain ⟨i0, hi0, hz0, hz1, hz2⟩ := info_parts info_u8
  have C0 := Lib.hid (fun w => signed_32 i w h0 h1)
  have C2 := Lib.hid (fun w => mr_any n d w)
  have hsg : (i < 2147483648 ∧ sgB i 32 = i) ∨ (2147483648 ≤ i ∧ sgB i 32 = i - 4294967296) := by have e : sgB i 32 = if 2147483648 ≤ i then i - 4294967296 else i := rfl; rw [e]; split <;> omega
  have C1 := Lib.hid (fun w => within_ia (sgB i 32) (-128) 127 w)
  rw [show (decide (-128 ≤ sgB i 32) && decide (sgB i 32 ≤ 127)) = true by simp; exact hs] at C1
  have HSG := Lib.hid hsg
  have hsb : -2147483648 ≤ sgB i 32 ∧ sgB i 32 ≤ 4294967295 := by omega
  obtain ⟨sb1, sb2⟩ := hsb
  generalize sgB i 32 = g at *
  clear hsg hs
  generalize mrB n d = q at *
  clear hc0 hl0 hn0 h0 h1
  have p0a := p0 _ h00
  have q1a := q1 _ h00
  have q4a := q4 _ h00
  have q3a := q3 _ h00
  go_enter Tryz.func243, Tryz.ntmps243
  go_wp2_with (first | ((go_at_call 244; with_reducible refine (C0.out _).mono ?_); rintro e w' ⟨rfl, rfl⟩) | ((go_at_call 207; with_reducible refine (C1.out _).mono ?_); rintro e w' ⟨rfl, rfl⟩) | ((go_at_call 216; with_reducible refine (C2.out _).mono ?_); rintro e w' ⟨rfl, rfl⟩))
  clear hW0
  go_ret
  exact ⟨_, rfl, RowI.to (RowI.lit W0 #[_, _, _] [_, _, _] .u8 5 w.heap.size 3 HB.out.size rfl rfl (by unfold maxLen; simp)) (by have := HSG.out; simp only [List.cons.injEq, and_true, true_and]; omega), HB.out.trans (((Below.refl _ W0).alloc (Nat.le_refl _) _).mono HB.out.size)⟩
theorem wr_num_32_b (o d s i n : Int) (b : Nat) (w : World) (hc0 : w.cell? ⟨b, 0, none⟩ = some (.int .i64 n)) (h0 : 0 ≤ i) (h1 : i ≤ 4294967295) (hs : ¬ (-128 ≤ sgB i 32 ∧ sgB i 32 ≤ 127)) : Calls Tryz.prog 243 #[.agg #[.int .i64 o, .int .i64 d, .int .i64 s, .int .i64 32, .int .i64 i], .pointer (some ⟨b, 0, none⟩)] w fun e w' => ∃ v, e = .returned v ∧ RowI w' w.heap.size 5 .u8 v (129 :: mrB n d :: leB i 4) ∧ Below w.heap.size w w' := by
  have hl0 := cell_lt hc0
  have hn0 : ¬ b = w.heap.size := by omega
  have HB := Lib.hid ((Below.refl w.heap.size w).alloc (Nat.le_refl _) (.cells #[.int .i64 o, .int .i64 d, .int .i64 s, .int .i64 32, .int .i64 i] 157))
  obtain ⟨W0, hW0⟩ : ∃ W, w.alloc (.cells #[.int .i64 o, .int .i64 d, .int .i64 s, .int .i64 32, .int .i64 i] 157) = W := ⟨_, rfl⟩
  have p0 : ∀ wk, Since W0 wk → wk.cell? ⟨b, 0, none⟩ = some (.int .i64 n) := fun wk h => h.cell (by rw [← hW0]; exact cell_alloc hc0)
  have q1 : ∀ wk, Since W0 wk → wk.cell? ⟨w.heap.size, 1, none⟩ = some (.int .i64 d) := fun wk h => h.cell (by rw [← hW0]; simp [go_sem])
  have q4 : ∀ wk, Since W0 wk → wk.cell? ⟨w.heap.size, 4, none⟩ = some (.int .i64 i) := fun wk h => h.cell (by rw [← hW0]; simp [go_sem])
  have q3 : ∀ wk, Since W0 wk → wk.cell? ⟨w.heap.size, 3, none⟩ = some (.int .i64 32) := fun wk h => h.cell (by rw [← hW0]; simp [go_sem])
  have h00 := Since.refl W0
  rw [hW0] at HB
  obtain ⟨i0, hi0, hz0, hz1, hz2⟩ := info_parts info_u8
  have C0 := Lib.hid (fun w => signed_32 i w h0 h1)
  have C2 := Lib.hid (fun w => mr_any n d w)
  have hsg : (i < 2147483648 ∧ sgB i 32 = i) ∨ (2147483648 ≤ i ∧ sgB i 32 = i - 4294967296) := by have e : sgB i 32 = if 2147483648 ≤ i then i - 4294967296 else i := rfl; rw [e]; split <;> omega
  have C1 := Lib.hid (fun w => within_ia (sgB i 32) (-128) 127 w)
  rw [show (decide (-128 ≤ sgB i 32) && decide (sgB i 32 ≤ 127)) = false by rw [Bool.eq_false_iff]; intro h; simp only [Bool.and_eq_true, decide_eq_true_eq] at h; exact hs h] at C1
  have C3 : Hid (∀ wk, Since W0 wk → Calls Tryz.prog 148 #[.int .i64 i, .int .i64 (IntKind.i64.wrap 4)] wk fun e w' => ∃ v, e = .returned v ∧ RowI w' W0.heap.size 5 .u8 v (leB i 4) ∧ Below wk.heap.size wk w' ∧ Since W0 w') := fun wk h => acc_r (number_any i 4 wk ⟨by omega, by omega⟩ (by decide)) h
  have HSG := Lib.hid hsg
  have hsb : -2147483648 ≤ sgB i 32 ∧ sgB i 32 ≤ 4294967295 := by omega
  obtain ⟨sb1, sb2⟩ := hsb
  generalize sgB i 32 = g at *
  clear hsg hs
  generalize mrB n d = q at *
  have hml : (leB i 4).length = 4 := by simp [leB_length]
  generalize leB i 4 = ys at *
  have HLEN : Hid (([(0 : Int), 0]).length + ys.length ≤ 100000) := by show _ ≤ _; simp; omega
  have HPOS : Hid (0 < ys.length) := by show 0 < _; omega
  have HY5 : Hid (ys.length ≤ 140737488351232) := by show _ ≤ _; omega
  clear hml
  clear hc0 hl0 hn0 h0 h1
  have p0a := p0 _ h00
  have q1a := q1 _ h00
  have q4a := q4 _ h00
  have q3a := q3 _ h00
  go_enter Tryz.func243, Tryz.ntmps243
  go_wp2_with (first | ((go_at_call 244; with_reducible refine (C0.out _).mono ?_); rintro e w' ⟨rfl, rfl⟩) | ((go_at_call 207; with_reducible refine (C1.out _).mono ?_); rintro e w' ⟨rfl, rfl⟩))
  clear hW0
  clear p0a q1a q4a q3a sb1 sb2
  go_region_held3 (fun wk => Since W0 wk) (first | assumption | exact Since.drew (by assumption) | exact Since.next (by assumption) ((Below.refl _ _).alloc (Nat.le_refl _) _)) (first | (go_at_call 216; with_reducible refine (C2.out _).mono ?_; rintro e w' ⟨rfl, rfl⟩) | ((go_at_call 148; with_reducible refine (C3.out _ (by first | assumption | exact Since.drew (by assumption) | exact Since.next (by assumption) ((Below.refl _ _).alloc (Nat.le_refl _) _))).mono ?_); rintro e w2 ⟨v2, rfl, hr2, hb2, hs2⟩; have HR2 := Lib.hid hr2; clear hr2) | ((refine step_app_row (by rfl) _ _ _ (by rfl) W0.heap.size 5 i0 1 Tryz.underlying22 hi0 hz0 hz1 hz2 (by decide) _ [129, q] (by rfl) (RowI.below (RowI.lit _ #[.int .u8 129, .int .u8 q] [129, q] .u8 5 W0.heap.size 2 (by first | exact Nat.le_refl _ | exact (show Since W0 _ by assumption).size) rfl rfl (by unfold maxLen; simp)) hb2) _ ys (by rfl) (HR2.out.ints HY5.out) HPOS.out HLEN.out hs2.size ?_); intro v9 w9 hr9 hb9; have hs9 := since_step (by assumption) hb9; have HR9 := Lib.hid hr9; clear hr9) | ((refine step_app_row (by rfl) _ _ _ (by rfl) W0.heap.size 5 i0 1 Tryz.underlying22 hi0 hz0 hz1 hz2 (by decide) _ [129, q] (by rfl) (RowI.below (RowI.litd _ #[.int .u8 129, .int .u8 q] [129, q] .u8 5 W0.heap.size 2 (by first | exact Nat.le_refl _ | exact (show Since W0 _ by assumption).size) rfl rfl (by unfold maxLen; simp)) hb2) _ ys (by rfl) (HR2.out.ints HY5.out) HPOS.out HLEN.out hs2.size ?_); intro v9 w9 hr9 hb9; have hs9 := since_step (by assumption) hb9; have HR9 := Lib.hid hr9; clear hr9) | ((refine step_app_row (by rfl) _ _ _ (by rfl) W0.heap.size 5 i0 1 Tryz.underlying22 hi0 hz0 hz1 hz2 (by decide) _ [129, q] (by rfl) (RowI.lit _ #[.int .u8 129, .int .u8 q] [129, q] .u8 5 W0.heap.size 2 (by first | exact Nat.le_refl _ | exact (show Since W0 _ by assumption).size) rfl rfl (by unfold maxLen; simp)) _ ys (by rfl) ((HR2.out.below ((Below.refl _ _).alloc (Nat.le_refl _) _)).ints HY5.out) HPOS.out HLEN.out (Nat.le_trans hs2.size (by simp)) ?_); intro v9 w9 hr9 hb9; have hs9 := since_step (by assumption) hb9; have HR9 := Lib.hid hr9; clear hr9) | ((refine step_app_row (by rfl) _ _ _ (by rfl) W0.heap.size 5 i0 1 Tryz.underlying22 hi0 hz0 hz1 hz2 (by decide) _ [129, q] (by rfl) (RowI.litd _ #[.int .u8 129, .int .u8 q] [129, q] .u8 5 W0.heap.size 2 (by first | exact Nat.le_refl _ | exact (show Since W0 _ by assumption).size) rfl rfl (by unfold maxLen; simp)) _ ys (by rfl) ((HR2.out.below (below_drewN ((Below.refl _ _).alloc (Nat.le_refl _) _) 1)).ints HY5.out) HPOS.out HLEN.out (Nat.le_trans hs2.size (by simp)) ?_); intro v9 w9 hr9 hb9; have hs9 := since_step (by assumption) hb9; have HR9 := Lib.hid hr9; clear hr9))
  all_goals go_wp2_with fail
  all_goals go_ret
  all_goals exact ⟨_, rfl, RowI.to (RowI.mono HR9.out HB.out.size) rfl, below_hop HB.out (by first | exact hs9 | exact below_drewN hs9 1)⟩
theorem wr_num_16_s (o d s i n : Int) (b : Nat) (w : World) (hc0 : w.cell? ⟨b, 0, none⟩ = some (.int .i64 n)) (h0 : 0 ≤ i) (h1 : i ≤ 65535) (hs : (-128 ≤ sgB i 16 ∧ sgB i 16 ≤ 127)) : Calls Tryz.prog 243 #[.agg #[.int .i64 o, .int .i64 d, .int .i64 s, .int .i64 16, .int .i64 i], .pointer (some ⟨b, 0, none⟩)] w fun e w' => ∃ v, e = .returned v ∧ RowI w' w.heap.size 5 .u8 v [131, mrB n d, i % 256] ∧ Below w.heap.size w w' := by
  have hl0 := cell_lt hc0
  have hn0 : ¬ b = w.heap.size := by omega
  have HB := Lib.hid ((Below.refl w.heap.size w).alloc (Nat.le_refl _) (.cells #[.int .i64 o, .int .i64 d, .int .i64 s, .int .i64 16, .int .i64 i] 157))
  obtain ⟨W0, hW0⟩ : ∃ W, w.alloc (.cells #[.int .i64 o, .int .i64 d, .int .i64 s, .int .i64 16, .int .i64 i] 157) = W := ⟨_, rfl⟩
  have p0 : ∀ wk, Since W0 wk → wk.cell? ⟨b, 0, none⟩ = some (.int .i64 n) := fun wk h => h.cell (by rw [← hW0]; exact cell_alloc hc0)
  have q1 : ∀ wk, Since W0 wk → wk.cell? ⟨w.heap.size, 1, none⟩ = some (.int .i64 d) := fun wk h => h.cell (by rw [← hW0]; simp [go_sem])
  have q4 : ∀ wk, Since W0 wk → wk.cell? ⟨w.heap.size, 4, none⟩ = some (.int .i64 i) := fun wk h => h.cell (by rw [← hW0]; simp [go_sem])
  have q3 : ∀ wk, Since W0 wk → wk.cell? ⟨w.heap.size, 3, none⟩ = some (.int .i64 16) := fun wk h => h.cell (by rw [← hW0]; simp [go_sem])
  have h00 := Since.refl W0
  rw [hW0] at HB
  obtain ⟨i0, hi0, hz0, hz1, hz2⟩ := info_parts info_u8
  have C0 := Lib.hid (fun w => signed_16 i w h0 h1)
  have C2 := Lib.hid (fun w => mr_any n d w)
  have hsg : (i < 32768 ∧ sgB i 16 = i) ∨ (32768 ≤ i ∧ sgB i 16 = i - 65536) := by have e : sgB i 16 = if 32768 ≤ i then i - 65536 else i := rfl; rw [e]; split <;> omega
  have C1 := Lib.hid (fun w => within_ia (sgB i 16) (-128) 127 w)
  rw [show (decide (-128 ≤ sgB i 16) && decide (sgB i 16 ≤ 127)) = true by simp; exact hs] at C1
  have HSG := Lib.hid hsg
  have hsb : -2147483648 ≤ sgB i 16 ∧ sgB i 16 ≤ 4294967295 := by omega
  obtain ⟨sb1, sb2⟩ := hsb
  generalize sgB i 16 = g at *
  clear hsg hs
  generalize mrB n d = q at *
  clear hc0 hl0 hn0 h0 h1
  have p0a := p0 _ h00
  have q1a := q1 _ h00
  have q4a := q4 _ h00
  have q3a := q3 _ h00
  go_enter Tryz.func243, Tryz.ntmps243
  go_wp2_with (first | ((go_at_call 244; with_reducible refine (C0.out _).mono ?_); rintro e w' ⟨rfl, rfl⟩) | ((go_at_call 207; with_reducible refine (C1.out _).mono ?_); rintro e w' ⟨rfl, rfl⟩) | ((go_at_call 216; with_reducible refine (C2.out _).mono ?_); rintro e w' ⟨rfl, rfl⟩))
  clear hW0
  go_ret
  exact ⟨_, rfl, RowI.to (RowI.lit W0 #[_, _, _] [_, _, _] .u8 5 w.heap.size 3 HB.out.size rfl rfl (by unfold maxLen; simp)) (by have := HSG.out; simp only [List.cons.injEq, and_true, true_and]; omega), HB.out.trans (((Below.refl _ W0).alloc (Nat.le_refl _) _).mono HB.out.size)⟩
theorem wr_num_16_b (o d s i n : Int) (b : Nat) (w : World) (hc0 : w.cell? ⟨b, 0, none⟩ = some (.int .i64 n)) (h0 : 0 ≤ i) (h1 : i ≤ 65535) (hs : ¬ (-128 ≤ sgB i 16 ∧ sgB i 16 ≤ 127)) : Calls Tryz.prog 243 #[.agg #[.int .i64 o, .int .i64 d, .int .i64 s, .int .i64 16, .int .i64 i], .pointer (some ⟨b, 0, none⟩)] w fun e w' => ∃ v, e = .returned v ∧ RowI w' w.heap.size 5 .u8 v (129 :: mrB n d :: leB i 2) ∧ Below w.heap.size w w' := by
  have hl0 := cell_lt hc0
  have hn0 : ¬ b = w.heap.size := by omega
  have HB := Lib.hid ((Below.refl w.heap.size w).alloc (Nat.le_refl _) (.cells #[.int .i64 o, .int .i64 d, .int .i64 s, .int .i64 16, .int .i64 i] 157))
  obtain ⟨W0, hW0⟩ : ∃ W, w.alloc (.cells #[.int .i64 o, .int .i64 d, .int .i64 s, .int .i64 16, .int .i64 i] 157) = W := ⟨_, rfl⟩
  have p0 : ∀ wk, Since W0 wk → wk.cell? ⟨b, 0, none⟩ = some (.int .i64 n) := fun wk h => h.cell (by rw [← hW0]; exact cell_alloc hc0)
  have q1 : ∀ wk, Since W0 wk → wk.cell? ⟨w.heap.size, 1, none⟩ = some (.int .i64 d) := fun wk h => h.cell (by rw [← hW0]; simp [go_sem])
  have q4 : ∀ wk, Since W0 wk → wk.cell? ⟨w.heap.size, 4, none⟩ = some (.int .i64 i) := fun wk h => h.cell (by rw [← hW0]; simp [go_sem])
  have q3 : ∀ wk, Since W0 wk → wk.cell? ⟨w.heap.size, 3, none⟩ = some (.int .i64 16) := fun wk h => h.cell (by rw [← hW0]; simp [go_sem])
  have h00 := Since.refl W0
  rw [hW0] at HB
  obtain ⟨i0, hi0, hz0, hz1, hz2⟩ := info_parts info_u8
  have C0 := Lib.hid (fun w => signed_16 i w h0 h1)
  have C2 := Lib.hid (fun w => mr_any n d w)
  have hsg : (i < 32768 ∧ sgB i 16 = i) ∨ (32768 ≤ i ∧ sgB i 16 = i - 65536) := by have e : sgB i 16 = if 32768 ≤ i then i - 65536 else i := rfl; rw [e]; split <;> omega
  have C1 := Lib.hid (fun w => within_ia (sgB i 16) (-128) 127 w)
  rw [show (decide (-128 ≤ sgB i 16) && decide (sgB i 16 ≤ 127)) = false by rw [Bool.eq_false_iff]; intro h; simp only [Bool.and_eq_true, decide_eq_true_eq] at h; exact hs h] at C1
  have C3 : Hid (∀ wk, Since W0 wk → Calls Tryz.prog 148 #[.int .i64 i, .int .i64 (IntKind.i64.wrap 2)] wk fun e w' => ∃ v, e = .returned v ∧ RowI w' W0.heap.size 5 .u8 v (leB i 2) ∧ Below wk.heap.size wk w' ∧ Since W0 w') := fun wk h => acc_r (number_any i 2 wk ⟨by omega, by omega⟩ (by decide)) h
  have HSG := Lib.hid hsg
  have hsb : -2147483648 ≤ sgB i 16 ∧ sgB i 16 ≤ 4294967295 := by omega
  obtain ⟨sb1, sb2⟩ := hsb
  generalize sgB i 16 = g at *
  clear hsg hs
  generalize mrB n d = q at *
  have hml : (leB i 2).length = 2 := by simp [leB_length]
  generalize leB i 2 = ys at *
  have HLEN : Hid (([(0 : Int), 0]).length + ys.length ≤ 100000) := by show _ ≤ _; simp; omega
  have HPOS : Hid (0 < ys.length) := by show 0 < _; omega
  have HY5 : Hid (ys.length ≤ 140737488351232) := by show _ ≤ _; omega
  clear hml
  clear hc0 hl0 hn0 h0 h1
  have p0a := p0 _ h00
  have q1a := q1 _ h00
  have q4a := q4 _ h00
  have q3a := q3 _ h00
  go_enter Tryz.func243, Tryz.ntmps243
  go_wp2_with (first | ((go_at_call 244; with_reducible refine (C0.out _).mono ?_); rintro e w' ⟨rfl, rfl⟩) | ((go_at_call 207; with_reducible refine (C1.out _).mono ?_); rintro e w' ⟨rfl, rfl⟩))
  clear hW0
  clear p0a q1a q4a q3a sb1 sb2
  go_region_held3 (fun wk => Since W0 wk) (first | assumption | exact Since.drew (by assumption) | exact Since.next (by assumption) ((Below.refl _ _).alloc (Nat.le_refl _) _)) (first | (go_at_call 216; with_reducible refine (C2.out _).mono ?_; rintro e w' ⟨rfl, rfl⟩) | ((go_at_call 148; with_reducible refine (C3.out _ (by first | assumption | exact Since.drew (by assumption) | exact Since.next (by assumption) ((Below.refl _ _).alloc (Nat.le_refl _) _))).mono ?_); rintro e w2 ⟨v2, rfl, hr2, hb2, hs2⟩; have HR2 := Lib.hid hr2; clear hr2) | ((refine step_app_row (by rfl) _ _ _ (by rfl) W0.heap.size 5 i0 1 Tryz.underlying22 hi0 hz0 hz1 hz2 (by decide) _ [129, q] (by rfl) (RowI.below (RowI.lit _ #[.int .u8 129, .int .u8 q] [129, q] .u8 5 W0.heap.size 2 (by first | exact Nat.le_refl _ | exact (show Since W0 _ by assumption).size) rfl rfl (by unfold maxLen; simp)) hb2) _ ys (by rfl) (HR2.out.ints HY5.out) HPOS.out HLEN.out hs2.size ?_); intro v9 w9 hr9 hb9; have hs9 := since_step (by assumption) hb9; have HR9 := Lib.hid hr9; clear hr9) | ((refine step_app_row (by rfl) _ _ _ (by rfl) W0.heap.size 5 i0 1 Tryz.underlying22 hi0 hz0 hz1 hz2 (by decide) _ [129, q] (by rfl) (RowI.below (RowI.litd _ #[.int .u8 129, .int .u8 q] [129, q] .u8 5 W0.heap.size 2 (by first | exact Nat.le_refl _ | exact (show Since W0 _ by assumption).size) rfl rfl (by unfold maxLen; simp)) hb2) _ ys (by rfl) (HR2.out.ints HY5.out) HPOS.out HLEN.out hs2.size ?_); intro v9 w9 hr9 hb9; have hs9 := since_step (by assumption) hb9; have HR9 := Lib.hid hr9; clear hr9) | ((refine step_app_row (by rfl) _ _ _ (by rfl) W0.heap.size 5 i0 1 Tryz.underlying22 hi0 hz0 hz1 hz2 (by decide) _ [129, q] (by rfl) (RowI.lit _ #[.int .u8 129, .int .u8 q] [129, q] .u8 5 W0.heap.size 2 (by first | exact Nat.le_refl _ | exact (show Since W0 _ by assumption).size) rfl rfl (by unfold maxLen; simp)) _ ys (by rfl) ((HR2.out.below ((Below.refl _ _).alloc (Nat.le_refl _) _)).ints HY5.out) HPOS.out HLEN.out (Nat.le_trans hs2.size (by simp)) ?_); intro v9 w9 hr9 hb9; have hs9 := since_step (by assumption) hb9; have HR9 := Lib.hid hr9; clear hr9) | ((refine step_app_row (by rfl) _ _ _ (by rfl) W0.heap.size 5 i0 1 Tryz.underlying22 hi0 hz0 hz1 hz2 (by decide) _ [129, q] (by rfl) (RowI.litd _ #[.int .u8 129, .int .u8 q] [129, q] .u8 5 W0.heap.size 2 (by first | exact Nat.le_refl _ | exact (show Since W0 _ by assumption).size) rfl rfl (by unfold maxLen; simp)) _ ys (by rfl) ((HR2.out.below (below_drewN ((Below.refl _ _).alloc (Nat.le_refl _) _) 1)).ints HY5.out) HPOS.out HLEN.out (Nat.le_trans hs2.size (by simp)) ?_); intro v9 w9 hr9 hb9; have hs9 := since_step (by assumption) hb9; have HR9 := Lib.hid hr9; clear hr9))
  all_goals go_wp2_with fail
  all_goals go_ret
  all_goals exact ⟨_, rfl, RowI.to (RowI.mono HR9.out HB.out.size) rfl, below_hop HB.out (by first | exact hs9 | exact below_drewN hs9 1)⟩
theorem wr_jumpC_8 (o d s i : Int) (b b2 : Nat) (w : World) (hc0 : w.cell? ⟨b, 0, none⟩ = some (.func (.func 227) #[] #[])) (hc1 : w.cell? ⟨b2, 0, none⟩ = some (.func (.func 228) #[] #[])) (h1 : 0 ≤ s) (h2 : s ≤ 15) : Calls Tryz.prog 250 #[.agg #[.int .i64 o, .int .i64 d, .int .i64 s, .int .i64 8, .int .i64 i], .pointer (some ⟨b, 0, none⟩), .pointer (some ⟨b2, 0, none⟩)] w fun e w' => ∃ v, e = .returned v ∧ RowI w' w.heap.size 5 .u8 v ([(112 + s) % 256] ++ [i % 256]) ∧ Below w.heap.size w w' := by
  have hl0 := cell_lt hc0
  have hn0 : ¬ b = w.heap.size := by omega
  have hl1 := cell_lt hc1
  have hn1 : ¬ b2 = w.heap.size := by omega
  have HB := Lib.hid ((Below.refl w.heap.size w).alloc (Nat.le_refl _) (.cells #[.int .i64 o, .int .i64 d, .int .i64 s, .int .i64 8, .int .i64 i] 157))
  obtain ⟨W0, hW0⟩ : ∃ W, w.alloc (.cells #[.int .i64 o, .int .i64 d, .int .i64 s, .int .i64 8, .int .i64 i] 157) = W := ⟨_, rfl⟩
  have p0 : ∀ wk, Since W0 wk → wk.cell? ⟨b, 0, none⟩ = some (.func (.func 227) #[] #[]) := fun wk h => h.cell (by rw [← hW0]; exact cell_alloc hc0)
  have p1 : ∀ wk, Since W0 wk → wk.cell? ⟨b2, 0, none⟩ = some (.func (.func 228) #[] #[]) := fun wk h => h.cell (by rw [← hW0]; exact cell_alloc hc1)
  have q0 : ∀ wk, Since W0 wk → wk.cell? ⟨w.heap.size, 0, none⟩ = some (.int .i64 o) := fun wk h => h.cell (by rw [← hW0]; simp [go_sem])
  have q1 : ∀ wk, Since W0 wk → wk.cell? ⟨w.heap.size, 1, none⟩ = some (.int .i64 d) := fun wk h => h.cell (by rw [← hW0]; simp [go_sem])
  have q2 : ∀ wk, Since W0 wk → wk.cell? ⟨w.heap.size, 2, none⟩ = some (.int .i64 s) := fun wk h => h.cell (by rw [← hW0]; simp [go_sem])
  have q4 : ∀ wk, Since W0 wk → wk.cell? ⟨w.heap.size, 4, none⟩ = some (.int .i64 i) := fun wk h => h.cell (by rw [← hW0]; simp [go_sem])
  have q3 : ∀ wk, Since W0 wk → wk.cell? ⟨w.heap.size, 3, none⟩ = some (.int .i64 8) := fun wk h => h.cell (by rw [← hW0]; simp [go_sem])
  have h00 := Since.refl W0
  rw [hW0] at HB
  obtain ⟨i0, hi0, hz0, hz1, hz2⟩ := info_parts info_u8
  have C0 : Hid (∀ wk, Since W0 wk → Calls Tryz.prog 227 #[.agg #[.int .i64 o, .int .i64 d, .int .i64 s, .int .i64 8, .int .i64 i]] wk fun e w' => ∃ v, e = .returned v ∧ RowI w' W0.heap.size 5 .u8 v ([(112 + s) % 256]) ∧ Below wk.heap.size wk w' ∧ Since W0 w') := fun wk h => acc_r (wr_jccS o d s 8 i wk h1 h2) h
  have eq0 : IntKind.u8.wrap i = i % 256 := IntKind.wrap_u8 i
  have EQ0 := Lib.hid eq0
  clear eq0
  have h7 := q3 _ h00
  have hml : ([(112 + s) % 256]).length = 1 := rfl
  generalize [(112 + s) % 256] = xs at *
  have HLEN : Hid (xs.length + ([IntKind.u8.wrap i]).length ≤ 100000) := by show _ ≤ _; simp; omega
  clear hml
  clear h1 h2
  clear hc0 hl0 hn0
  clear hc1 hl1 hn1
  go_enter Tryz.func250, Tryz.ntmps250
  go_wp2_with fail
  clear hW0 h7
  go_region_held3 (fun wk => Since W0 wk) (first | assumption | exact Since.drew (by assumption) | exact Since.next (by assumption) ((Below.refl _ _).alloc (Nat.le_refl _) _)) (first | ((go_at_call 227; with_reducible refine (C0.out _ (by first | assumption | exact Since.drew (by assumption) | exact Since.next (by assumption) ((Below.refl _ _).alloc (Nat.le_refl _) _))).mono ?_); rintro e w1 ⟨v1, rfl, hr1, hb1, hs1⟩; have HR1 := Lib.hid hr1; clear hr1) | ((refine step_app_row (by rfl) _ _ _ (by rfl) W0.heap.size 5 i0 1 Tryz.underlying22 hi0 hz0 hz1 hz2 (by decide) _ xs (by rfl) (HR1.out.below ((Below.refl _ _).alloc (Nat.le_refl _) _)) _ [IntKind.u8.wrap i] (by rfl) (RowI.ints (RowI.lit _ #[.int .u8 (IntKind.u8.wrap i)] [IntKind.u8.wrap i] .u8 5 W0.heap.size 1 (by first | exact Nat.le_refl _ | exact (show Since W0 _ by assumption).size) rfl rfl (by unfold maxLen; simp)) (by simp)) (by simp) HLEN.out (Nat.le_trans hs1.size (by simp)) ?_); intro v9 w9 hr9 hb9; have hs9 := since_step (by assumption) hb9; have HR9 := Lib.hid hr9; clear hr9) | ((refine step_app_row (by rfl) _ _ _ (by rfl) W0.heap.size 5 i0 1 Tryz.underlying22 hi0 hz0 hz1 hz2 (by decide) _ xs (by rfl) HR1.out _ [IntKind.u8.wrap i] (by rfl) (RowI.ints (RowI.below (RowI.lit _ #[.int .u8 (IntKind.u8.wrap i)] [IntKind.u8.wrap i] .u8 5 W0.heap.size 1 (by first | exact Nat.le_refl _ | exact (show Since W0 _ by assumption).size) rfl rfl (by unfold maxLen; simp)) hb1) (by simp)) (by simp) HLEN.out hs1.size ?_); intro v9 w9 hr9 hb9; have hs9 := since_step (by assumption) hb9; have HR9 := Lib.hid hr9; clear hr9) | ((refine step_app_row (by rfl) _ _ _ (by rfl) W0.heap.size 5 i0 1 Tryz.underlying22 hi0 hz0 hz1 hz2 (by decide) _ xs (by rfl) (HR1.out.below (below_drewN ((Below.refl _ _).alloc (Nat.le_refl _) _) 1)) _ [IntKind.u8.wrap i] (by rfl) (RowI.ints (RowI.litd _ #[.int .u8 (IntKind.u8.wrap i)] [IntKind.u8.wrap i] .u8 5 W0.heap.size 1 (by first | exact Nat.le_refl _ | exact (show Since W0 _ by assumption).size) rfl rfl (by unfold maxLen; simp)) (by simp)) (by simp) HLEN.out (Nat.le_trans hs1.size (by simp)) ?_); intro v9 w9 hr9 hb9; have hs9 := since_step (by assumption) hb9; have HR9 := Lib.hid hr9; clear hr9) | ((refine step_app_row (by rfl) _ _ _ (by rfl) W0.heap.size 5 i0 1 Tryz.underlying22 hi0 hz0 hz1 hz2 (by decide) _ xs (by rfl) HR1.out _ [IntKind.u8.wrap i] (by rfl) (RowI.ints (RowI.below (RowI.litd _ #[.int .u8 (IntKind.u8.wrap i)] [IntKind.u8.wrap i] .u8 5 W0.heap.size 1 (by first | exact Nat.le_refl _ | exact (show Since W0 _ by assumption).size) rfl rfl (by unfold maxLen; simp)) hb1) (by simp)) (by simp) HLEN.out hs1.size ?_); intro v9 w9 hr9 hb9; have hs9 := since_step (by assumption) hb9; have HR9 := Lib.hid hr9; clear hr9))
  all_goals go_wp2_with fail
  all_goals go_ret
  all_goals exact ⟨_, rfl, RowI.to (RowI.mono HR9.out HB.out.size) (by rw [EQ0.out]), below_hop HB.out (by first | exact hs9 | exact below_drewN hs9 1)⟩
theorem wr_jumpC_32 (o d s i : Int) (b b2 : Nat) (w : World) (hc0 : w.cell? ⟨b, 0, none⟩ = some (.func (.func 227) #[] #[])) (hc1 : w.cell? ⟨b2, 0, none⟩ = some (.func (.func 228) #[] #[])) (h1 : 0 ≤ s) (h2 : s ≤ 15) (hi : I64 i) : Calls Tryz.prog 250 #[.agg #[.int .i64 o, .int .i64 d, .int .i64 s, .int .i64 32, .int .i64 i], .pointer (some ⟨b, 0, none⟩), .pointer (some ⟨b2, 0, none⟩)] w fun e w' => ∃ v, e = .returned v ∧ RowI w' w.heap.size 5 .u8 v ([15, (128 + s) % 256] ++ leB i 4) ∧ Below w.heap.size w w' := by
  have hl0 := cell_lt hc0
  have hn0 : ¬ b = w.heap.size := by omega
  have hl1 := cell_lt hc1
  have hn1 : ¬ b2 = w.heap.size := by omega
  have HB := Lib.hid ((Below.refl w.heap.size w).alloc (Nat.le_refl _) (.cells #[.int .i64 o, .int .i64 d, .int .i64 s, .int .i64 32, .int .i64 i] 157))
  obtain ⟨W0, hW0⟩ : ∃ W, w.alloc (.cells #[.int .i64 o, .int .i64 d, .int .i64 s, .int .i64 32, .int .i64 i] 157) = W := ⟨_, rfl⟩
  have p0 : ∀ wk, Since W0 wk → wk.cell? ⟨b, 0, none⟩ = some (.func (.func 227) #[] #[]) := fun wk h => h.cell (by rw [← hW0]; exact cell_alloc hc0)
  have p1 : ∀ wk, Since W0 wk → wk.cell? ⟨b2, 0, none⟩ = some (.func (.func 228) #[] #[]) := fun wk h => h.cell (by rw [← hW0]; exact cell_alloc hc1)
  have q0 : ∀ wk, Since W0 wk → wk.cell? ⟨w.heap.size, 0, none⟩ = some (.int .i64 o) := fun wk h => h.cell (by rw [← hW0]; simp [go_sem])
  have q1 : ∀ wk, Since W0 wk → wk.cell? ⟨w.heap.size, 1, none⟩ = some (.int .i64 d) := fun wk h => h.cell (by rw [← hW0]; simp [go_sem])
  have q2 : ∀ wk, Since W0 wk → wk.cell? ⟨w.heap.size, 2, none⟩ = some (.int .i64 s) := fun wk h => h.cell (by rw [← hW0]; simp [go_sem])
  have q4 : ∀ wk, Since W0 wk → wk.cell? ⟨w.heap.size, 4, none⟩ = some (.int .i64 i) := fun wk h => h.cell (by rw [← hW0]; simp [go_sem])
  have q3 : ∀ wk, Since W0 wk → wk.cell? ⟨w.heap.size, 3, none⟩ = some (.int .i64 32) := fun wk h => h.cell (by rw [← hW0]; simp [go_sem])
  have h00 := Since.refl W0
  rw [hW0] at HB
  obtain ⟨i0, hi0, hz0, hz1, hz2⟩ := info_parts info_u8
  have C0 : Hid (∀ wk, Since W0 wk → Calls Tryz.prog 228 #[.agg #[.int .i64 o, .int .i64 d, .int .i64 s, .int .i64 32, .int .i64 i]] wk fun e w' => ∃ v, e = .returned v ∧ RowI w' W0.heap.size 5 .u8 v ([15, (128 + s) % 256]) ∧ Below wk.heap.size wk w' ∧ Since W0 w') := fun wk h => acc_r (wr_jccL o d s 32 i wk h1 h2) h
  have C1 : Hid (∀ wk, Since W0 wk → Calls Tryz.prog 148 #[.int .i64 i, .int .i64 4] wk fun e w' => ∃ v, e = .returned v ∧ RowI w' W0.heap.size 5 .u8 v (leB i 4) ∧ Below wk.heap.size wk w' ∧ Since W0 w') := fun wk h => acc_r (number_any i 4 wk hi (by decide)) h
  have h7 := q3 _ h00
  have hml : (leB i 4).length = 4 := by simp [leB_length]
  have hxl : ([15, (128 + s) % 256]).length ≤ 2 := by simp
  generalize [15, (128 + s) % 256] = xs at *
  generalize leB i 4 = ys at *
  have HLEN : Hid (xs.length + ys.length ≤ 100000) := by show _ ≤ _; omega
  have HPOS : Hid (0 < ys.length) := by show 0 < _; omega
  have HY5 : Hid (ys.length ≤ 140737488351232) := by show _ ≤ _; omega
  clear hml hxl hi
  clear h1 h2
  clear hc0 hl0 hn0
  clear hc1 hl1 hn1
  go_enter Tryz.func250, Tryz.ntmps250
  go_wp2_with fail
  clear hW0 h7
  go_region_held3 (fun wk => Since W0 wk) (first | assumption | exact Since.drew (by assumption) | exact Since.next (by assumption) ((Below.refl _ _).alloc (Nat.le_refl _) _)) (first | ((go_at_call 228; with_reducible refine (C0.out _ (by first | assumption | exact Since.drew (by assumption) | exact Since.next (by assumption) ((Below.refl _ _).alloc (Nat.le_refl _) _))).mono ?_); rintro e w1 ⟨v1, rfl, hr1, hb1, hs1⟩; have HR1 := Lib.hid hr1; clear hr1) | ((go_at_call 148; with_reducible refine (C1.out _ (by first | assumption | exact Since.drew (by assumption) | exact Since.next (by assumption) ((Below.refl _ _).alloc (Nat.le_refl _) _))).mono ?_); rintro e w2 ⟨v2, rfl, hr2, hb2, hs2⟩; have HR2 := Lib.hid hr2; clear hr2) | ((refine step_app_row (by rfl) _ _ _ (by rfl) W0.heap.size 5 i0 1 Tryz.underlying22 hi0 hz0 hz1 hz2 (by decide) _ xs (by rfl) (HR1.out.below hb2) _ ys (by rfl) (HR2.out.ints HY5.out) HPOS.out HLEN.out hs2.size ?_); intro v9 w9 hr9 hb9; have hs9 := since_step (by assumption) hb9; have HR9 := Lib.hid hr9; clear hr9))
  all_goals go_wp2_with fail
  all_goals go_ret
  all_goals exact ⟨_, rfl, RowI.mono HR9.out HB.out.size, below_hop HB.out (by first | exact hs9 | exact below_drewN hs9 1)⟩
theorem wr_jumpJ_8 (o d s i : Int) (b b2 : Nat) (w : World) (hc0 : w.cell? ⟨b, 0, none⟩ = some (.func (.func 230) #[] #[])) (hc1 : w.cell? ⟨b2, 0, none⟩ = some (.func (.func 231) #[] #[])) : Calls Tryz.prog 250 #[.agg #[.int .i64 o, .int .i64 d, .int .i64 s, .int .i64 8, .int .i64 i], .pointer (some ⟨b, 0, none⟩), .pointer (some ⟨b2, 0, none⟩)] w fun e w' => ∃ v, e = .returned v ∧ RowI w' w.heap.size 5 .u8 v (([235] : List Int) ++ [i % 256]) ∧ Below w.heap.size w w' := by
  have hl0 := cell_lt hc0
  have hn0 : ¬ b = w.heap.size := by omega
  have hl1 := cell_lt hc1
  have hn1 : ¬ b2 = w.heap.size := by omega
  have HB := Lib.hid ((Below.refl w.heap.size w).alloc (Nat.le_refl _) (.cells #[.int .i64 o, .int .i64 d, .int .i64 s, .int .i64 8, .int .i64 i] 157))
  obtain ⟨W0, hW0⟩ : ∃ W, w.alloc (.cells #[.int .i64 o, .int .i64 d, .int .i64 s, .int .i64 8, .int .i64 i] 157) = W := ⟨_, rfl⟩
  have p0 : ∀ wk, Since W0 wk → wk.cell? ⟨b, 0, none⟩ = some (.func (.func 230) #[] #[]) := fun wk h => h.cell (by rw [← hW0]; exact cell_alloc hc0)
  have p1 : ∀ wk, Since W0 wk → wk.cell? ⟨b2, 0, none⟩ = some (.func (.func 231) #[] #[]) := fun wk h => h.cell (by rw [← hW0]; exact cell_alloc hc1)
  have q0 : ∀ wk, Since W0 wk → wk.cell? ⟨w.heap.size, 0, none⟩ = some (.int .i64 o) := fun wk h => h.cell (by rw [← hW0]; simp [go_sem])
  have q1 : ∀ wk, Since W0 wk → wk.cell? ⟨w.heap.size, 1, none⟩ = some (.int .i64 d) := fun wk h => h.cell (by rw [← hW0]; simp [go_sem])
  have q2 : ∀ wk, Since W0 wk → wk.cell? ⟨w.heap.size, 2, none⟩ = some (.int .i64 s) := fun wk h => h.cell (by rw [← hW0]; simp [go_sem])
  have q4 : ∀ wk, Since W0 wk → wk.cell? ⟨w.heap.size, 4, none⟩ = some (.int .i64 i) := fun wk h => h.cell (by rw [← hW0]; simp [go_sem])
  have q3 : ∀ wk, Since W0 wk → wk.cell? ⟨w.heap.size, 3, none⟩ = some (.int .i64 8) := fun wk h => h.cell (by rw [← hW0]; simp [go_sem])
  have h00 := Since.refl W0
  rw [hW0] at HB
  obtain ⟨i0, hi0, hz0, hz1, hz2⟩ := info_parts info_u8
  have C0 : Hid (∀ wk, Since W0 wk → Calls Tryz.prog 230 #[.agg #[.int .i64 o, .int .i64 d, .int .i64 s, .int .i64 8, .int .i64 i]] wk fun e w' => ∃ v, e = .returned v ∧ RowI w' W0.heap.size 5 .u8 v (([235] : List Int)) ∧ Below wk.heap.size wk w' ∧ Since W0 w') := fun wk h => acc_r (wr_jmpS o d s 8 i wk) h
  have eq0 : IntKind.u8.wrap i = i % 256 := IntKind.wrap_u8 i
  have EQ0 := Lib.hid eq0
  clear eq0
  have h7 := q3 _ h00
  have hml : (([235] : List Int)).length = 1 := rfl
  generalize ([235] : List Int) = xs at *
  have HLEN : Hid (xs.length + ([IntKind.u8.wrap i]).length ≤ 100000) := by show _ ≤ _; simp; omega
  clear hml
  clear hc0 hl0 hn0
  clear hc1 hl1 hn1
  go_enter Tryz.func250, Tryz.ntmps250
  go_wp2_with fail
  clear hW0 h7
  go_region_held3 (fun wk => Since W0 wk) (first | assumption | exact Since.drew (by assumption) | exact Since.next (by assumption) ((Below.refl _ _).alloc (Nat.le_refl _) _)) (first | ((go_at_call 230; with_reducible refine (C0.out _ (by first | assumption | exact Since.drew (by assumption) | exact Since.next (by assumption) ((Below.refl _ _).alloc (Nat.le_refl _) _))).mono ?_); rintro e w1 ⟨v1, rfl, hr1, hb1, hs1⟩; have HR1 := Lib.hid hr1; clear hr1) | ((refine step_app_row (by rfl) _ _ _ (by rfl) W0.heap.size 5 i0 1 Tryz.underlying22 hi0 hz0 hz1 hz2 (by decide) _ xs (by rfl) (HR1.out.below ((Below.refl _ _).alloc (Nat.le_refl _) _)) _ [IntKind.u8.wrap i] (by rfl) (RowI.ints (RowI.lit _ #[.int .u8 (IntKind.u8.wrap i)] [IntKind.u8.wrap i] .u8 5 W0.heap.size 1 (by first | exact Nat.le_refl _ | exact (show Since W0 _ by assumption).size) rfl rfl (by unfold maxLen; simp)) (by simp)) (by simp) HLEN.out (Nat.le_trans hs1.size (by simp)) ?_); intro v9 w9 hr9 hb9; have hs9 := since_step (by assumption) hb9; have HR9 := Lib.hid hr9; clear hr9) | ((refine step_app_row (by rfl) _ _ _ (by rfl) W0.heap.size 5 i0 1 Tryz.underlying22 hi0 hz0 hz1 hz2 (by decide) _ xs (by rfl) HR1.out _ [IntKind.u8.wrap i] (by rfl) (RowI.ints (RowI.below (RowI.lit _ #[.int .u8 (IntKind.u8.wrap i)] [IntKind.u8.wrap i] .u8 5 W0.heap.size 1 (by first | exact Nat.le_refl _ | exact (show Since W0 _ by assumption).size) rfl rfl (by unfold maxLen; simp)) hb1) (by simp)) (by simp) HLEN.out hs1.size ?_); intro v9 w9 hr9 hb9; have hs9 := since_step (by assumption) hb9; have HR9 := Lib.hid hr9; clear hr9) | ((refine step_app_row (by rfl) _ _ _ (by rfl) W0.heap.size 5 i0 1 Tryz.underlying22 hi0 hz0 hz1 hz2 (by decide) _ xs (by rfl) (HR1.out.below (below_drewN ((Below.refl _ _).alloc (Nat.le_refl _) _) 1)) _ [IntKind.u8.wrap i] (by rfl) (RowI.ints (RowI.litd _ #[.int .u8 (IntKind.u8.wrap i)] [IntKind.u8.wrap i] .u8 5 W0.heap.size 1 (by first | exact Nat.le_refl _ | exact (show Since W0 _ by assumption).size) rfl rfl (by unfold maxLen; simp)) (by simp)) (by simp) HLEN.out (Nat.le_trans hs1.size (by simp)) ?_); intro v9 w9 hr9 hb9; have hs9 := since_step (by assumption) hb9; have HR9 := Lib.hid hr9; clear hr9) | ((refine step_app_row (by rfl) _ _ _ (by rfl) W0.heap.size 5 i0 1 Tryz.underlying22 hi0 hz0 hz1 hz2 (by decide) _ xs (by rfl) HR1.out _ [IntKind.u8.wrap i] (by rfl) (RowI.ints (RowI.below (RowI.litd _ #[.int .u8 (IntKind.u8.wrap i)] [IntKind.u8.wrap i] .u8 5 W0.heap.size 1 (by first | exact Nat.le_refl _ | exact (show Since W0 _ by assumption).size) rfl rfl (by unfold maxLen; simp)) hb1) (by simp)) (by simp) HLEN.out hs1.size ?_); intro v9 w9 hr9 hb9; have hs9 := since_step (by assumption) hb9; have HR9 := Lib.hid hr9; clear hr9))
  all_goals go_wp2_with fail
  all_goals go_ret
  all_goals exact ⟨_, rfl, RowI.to (RowI.mono HR9.out HB.out.size) (by rw [EQ0.out]), below_hop HB.out (by first | exact hs9 | exact below_drewN hs9 1)⟩
theorem wr_jumpJ_32 (o d s i : Int) (b b2 : Nat) (w : World) (hc0 : w.cell? ⟨b, 0, none⟩ = some (.func (.func 230) #[] #[])) (hc1 : w.cell? ⟨b2, 0, none⟩ = some (.func (.func 231) #[] #[])) (hi : I64 i) : Calls Tryz.prog 250 #[.agg #[.int .i64 o, .int .i64 d, .int .i64 s, .int .i64 32, .int .i64 i], .pointer (some ⟨b, 0, none⟩), .pointer (some ⟨b2, 0, none⟩)] w fun e w' => ∃ v, e = .returned v ∧ RowI w' w.heap.size 5 .u8 v (([233] : List Int) ++ leB i 4) ∧ Below w.heap.size w w' := by
  have hl0 := cell_lt hc0
  have hn0 : ¬ b = w.heap.size := by omega
  have hl1 := cell_lt hc1
  have hn1 : ¬ b2 = w.heap.size := by omega
  have HB := Lib.hid ((Below.refl w.heap.size w).alloc (Nat.le_refl _) (.cells #[.int .i64 o, .int .i64 d, .int .i64 s, .int .i64 32, .int .i64 i] 157))
  obtain ⟨W0, hW0⟩ : ∃ W, w.alloc (.cells #[.int .i64 o, .int .i64 d, .int .i64 s, .int .i64 32, .int .i64 i] 157) = W := ⟨_, rfl⟩
  have p0 : ∀ wk, Since W0 wk → wk.cell? ⟨b, 0, none⟩ = some (.func (.func 230) #[] #[]) := fun wk h => h.cell (by rw [← hW0]; exact cell_alloc hc0)
  have p1 : ∀ wk, Since W0 wk → wk.cell? ⟨b2, 0, none⟩ = some (.func (.func 231) #[] #[]) := fun wk h => h.cell (by rw [← hW0]; exact cell_alloc hc1)
  have q0 : ∀ wk, Since W0 wk → wk.cell? ⟨w.heap.size, 0, none⟩ = some (.int .i64 o) := fun wk h => h.cell (by rw [← hW0]; simp [go_sem])
  have q1 : ∀ wk, Since W0 wk → wk.cell? ⟨w.heap.size, 1, none⟩ = some (.int .i64 d) := fun wk h => h.cell (by rw [← hW0]; simp [go_sem])
  have q2 : ∀ wk, Since W0 wk → wk.cell? ⟨w.heap.size, 2, none⟩ = some (.int .i64 s) := fun wk h => h.cell (by rw [← hW0]; simp [go_sem])
  have q4 : ∀ wk, Since W0 wk → wk.cell? ⟨w.heap.size, 4, none⟩ = some (.int .i64 i) := fun wk h => h.cell (by rw [← hW0]; simp [go_sem])
  have q3 : ∀ wk, Since W0 wk → wk.cell? ⟨w.heap.size, 3, none⟩ = some (.int .i64 32) := fun wk h => h.cell (by rw [← hW0]; simp [go_sem])
  have h00 := Since.refl W0
  rw [hW0] at HB
  obtain ⟨i0, hi0, hz0, hz1, hz2⟩ := info_parts info_u8
  have C0 : Hid (∀ wk, Since W0 wk → Calls Tryz.prog 231 #[.agg #[.int .i64 o, .int .i64 d, .int .i64 s, .int .i64 32, .int .i64 i]] wk fun e w' => ∃ v, e = .returned v ∧ RowI w' W0.heap.size 5 .u8 v (([233] : List Int)) ∧ Below wk.heap.size wk w' ∧ Since W0 w') := fun wk h => acc_r (wr_jmpL o d s 32 i wk) h
  have C1 : Hid (∀ wk, Since W0 wk → Calls Tryz.prog 148 #[.int .i64 i, .int .i64 4] wk fun e w' => ∃ v, e = .returned v ∧ RowI w' W0.heap.size 5 .u8 v (leB i 4) ∧ Below wk.heap.size wk w' ∧ Since W0 w') := fun wk h => acc_r (number_any i 4 wk hi (by decide)) h
  have h7 := q3 _ h00
  have hml : (leB i 4).length = 4 := by simp [leB_length]
  have hxl : (([233] : List Int)).length ≤ 2 := by simp
  generalize ([233] : List Int) = xs at *
  generalize leB i 4 = ys at *
  have HLEN : Hid (xs.length + ys.length ≤ 100000) := by show _ ≤ _; omega
  have HPOS : Hid (0 < ys.length) := by show 0 < _; omega
  have HY5 : Hid (ys.length ≤ 140737488351232) := by show _ ≤ _; omega
  clear hml hxl hi
  clear hc0 hl0 hn0
  clear hc1 hl1 hn1
  go_enter Tryz.func250, Tryz.ntmps250
  go_wp2_with fail
  clear hW0 h7
  go_region_held3 (fun wk => Since W0 wk) (first | assumption | exact Since.drew (by assumption) | exact Since.next (by assumption) ((Below.refl _ _).alloc (Nat.le_refl _) _)) (first | ((go_at_call 231; with_reducible refine (C0.out _ (by first | assumption | exact Since.drew (by assumption) | exact Since.next (by assumption) ((Below.refl _ _).alloc (Nat.le_refl _) _))).mono ?_); rintro e w1 ⟨v1, rfl, hr1, hb1, hs1⟩; have HR1 := Lib.hid hr1; clear hr1) | ((go_at_call 148; with_reducible refine (C1.out _ (by first | assumption | exact Since.drew (by assumption) | exact Since.next (by assumption) ((Below.refl _ _).alloc (Nat.le_refl _) _))).mono ?_); rintro e w2 ⟨v2, rfl, hr2, hb2, hs2⟩; have HR2 := Lib.hid hr2; clear hr2) | ((refine step_app_row (by rfl) _ _ _ (by rfl) W0.heap.size 5 i0 1 Tryz.underlying22 hi0 hz0 hz1 hz2 (by decide) _ xs (by rfl) (HR1.out.below hb2) _ ys (by rfl) (HR2.out.ints HY5.out) HPOS.out HLEN.out hs2.size ?_); intro v9 w9 hr9 hb9; have hs9 := since_step (by assumption) hb9; have HR9 := Lib.hid hr9; clear hr9))
  all_goals go_wp2_with fail
  all_goals go_ret
  all_goals exact ⟨_, rfl, RowI.mono HR9.out HB.out.size, below_hop HB.out (by first | exact hs9 | exact below_drewN hs9 1)⟩
def blk (w : World) (b : Nat) (cs : Array Value) (t : TypeId) : Prop := w.heap[b]? = some (.cells cs t (0, 0))
theorem blk_lt {w : World} {b : Nat} {cs : Array Value} {t : TypeId} (h : blk w b cs t) : b < w.heap.size := by
  rcases Nat.lt_or_ge b w.heap.size with c | c
  · exact c
  · unfold blk at h; rw [Array.getElem?_eq_none c] at h; cases h
theorem blk_new {w : World} {b : Nat} {cs : Array Value} {t : TypeId} (h : b = w.heap.size) : blk (w.alloc (.cells cs t)) b cs t := by subst h; exact Array.getElem?_push_size
theorem blk_alloc {w : World} {b : Nat} {cs : Array Value} {t : TypeId} {ob : Obj} (h : blk w b cs t) : blk (w.alloc ob) b cs t := by
  have := blk_lt h
  unfold blk at *
  rw [← h]
  exact Below.heap_alloc w ob b this
theorem blk_below {w w' : World} {b : Nat} {cs : Array Value} {t : TypeId} (h : blk w b cs t) (hb : Below w.heap.size w w') : blk w' b cs t := by
  unfold blk at *; rw [← h]; exact hb.block b (blk_lt h)
theorem blk_cell {w : World} {b : Nat} {cs : Array Value} {t : TypeId} (h : blk w b cs t) (i : Nat) : w.cell? ⟨b, i, none⟩ = cs[i]? := by
  unfold blk at h; simp [World.cell?, h]
theorem kd_pair (c : Int) (w : World) : Calls Tryz.prog 204 #[.int .u8 c] w fun e w' => ∃ b g, e = .returned (.agg #[.func (.func 233) #[] #[], .slice (some ⟨g, 0, none⟩) 2 2, .func (.func 234) #[] #[.pointer (some ⟨b, 0, none⟩)]]) ∧ blk w' b #[.int .u8 c] 5 ∧ blk w' g #[.int .i64 32, .int .i64 16] 3 ∧ w.heap.size ≤ b ∧ b < w'.heap.size ∧ w.heap.size ≤ g ∧ g < w'.heap.size ∧ Below w.heap.size w w' := by
  go_enter Tryz.func204, Tryz.ntmps204
  go_wp2_with fail
  exact bodyPost_ret (v := .agg #[.func (.func 233) #[] #[], .slice (some ⟨(w.heap.size + 1 + 1), 0, none⟩) 2 2, .func (.func 234) #[] #[.pointer (some ⟨w.heap.size, 0, none⟩)]]) (by simp [results, Tryz.results204, go_sem]) rfl ⟨w.heap.size, (w.heap.size + 1 + 1), rfl, by repeat (first | exact blk_new (by simp) | refine blk_alloc ?_), by repeat (first | exact blk_new (by simp) | refine blk_alloc ?_), by omega, by simp <;> omega, by omega, by simp <;> omega, by repeat (first | with_reducible exact Below.refl _ _ | with_reducible refine Below.alloc ?_ (by simp <;> omega) _)⟩
theorem kd_load (oa : Option Addr) (on oc : Nat) (w : World) : Calls Tryz.prog 210 #[.slice oa on oc] w fun e w' => ∃ b g, e = .returned (.agg #[.func (.func 235) #[] #[], .slice (some ⟨g, 0, none⟩) 1 1, .func (.func 238) #[] #[.pointer (some ⟨b, 0, none⟩)]]) ∧ blk w' b #[.slice oa on oc] 22 ∧ blk w' g #[.int .i64 32] 3 ∧ w.heap.size ≤ b ∧ b < w'.heap.size ∧ w.heap.size ≤ g ∧ g < w'.heap.size ∧ Below w.heap.size w w' := by
  go_enter Tryz.func210, Tryz.ntmps210
  go_wp2_with fail
  exact bodyPost_ret (v := .agg #[.func (.func 235) #[] #[], .slice (some ⟨(w.heap.size + 1 + 1), 0, none⟩) 1 1, .func (.func 238) #[] #[.pointer (some ⟨w.heap.size, 0, none⟩)]]) (by simp [results, Tryz.results210, go_sem]) rfl ⟨w.heap.size, (w.heap.size + 1 + 1), rfl, by repeat (first | exact blk_new (by simp) | refine blk_alloc ?_), by repeat (first | exact blk_new (by simp) | refine blk_alloc ?_), by omega, by simp <;> omega, by omega, by simp <;> omega, by repeat (first | with_reducible exact Below.refl _ _ | with_reducible refine Below.alloc ?_ (by simp <;> omega) _)⟩
theorem kd_store (c : Int) (f : FuncId) (w : World) : Calls Tryz.prog 211 #[.int .u8 c, .func (.func f) #[] #[]] w fun e w' => ∃ b b2 g, e = .returned (.agg #[.func (.func 240) #[] #[.pointer (some ⟨b2, 0, none⟩)], .slice (some ⟨g, 0, none⟩) 1 1, .func (.func 241) #[] #[.pointer (some ⟨b, 0, none⟩)]]) ∧ blk w' b #[.int .u8 c] 5 ∧ blk w' b2 #[.func (.func f) #[] #[]] 82 ∧ blk w' g #[.int .i64 32] 3 ∧ w.heap.size ≤ b ∧ b < w'.heap.size ∧ w.heap.size ≤ b2 ∧ b2 < w'.heap.size ∧ w.heap.size ≤ g ∧ g < w'.heap.size ∧ Below w.heap.size w w' := by
  go_enter Tryz.func211, Tryz.ntmps211
  go_wp2_with fail
  exact bodyPost_ret (v := .agg #[.func (.func 240) #[] #[.pointer (some ⟨(w.heap.size + 1), 0, none⟩)], .slice (some ⟨(w.heap.size + 1 + 1 + 1), 0, none⟩) 1 1, .func (.func 241) #[] #[.pointer (some ⟨w.heap.size, 0, none⟩)]]) (by simp [results, Tryz.results211, go_sem]) rfl ⟨w.heap.size, (w.heap.size + 1), (w.heap.size + 1 + 1 + 1), rfl, by repeat (first | exact blk_new (by simp) | refine blk_alloc ?_), by repeat (first | exact blk_new (by simp) | refine blk_alloc ?_), by repeat (first | exact blk_new (by simp) | refine blk_alloc ?_), by omega, by simp <;> omega, by omega, by simp <;> omega, by omega, by simp <;> omega, by repeat (first | with_reducible exact Below.refl _ _ | with_reducible refine Below.alloc ?_ (by simp <;> omega) _)⟩
theorem kd_num (n : Int) (w : World) : Calls Tryz.prog 213 #[.int .i64 n] w fun e w' => ∃ b g, e = .returned (.agg #[.func (.func 242) #[] #[], .slice (some ⟨g, 0, none⟩) 2 2, .func (.func 243) #[] #[.pointer (some ⟨b, 0, none⟩)]]) ∧ blk w' b #[.int .i64 n] 3 ∧ blk w' g #[.int .i64 32, .int .i64 16] 3 ∧ w.heap.size ≤ b ∧ b < w'.heap.size ∧ w.heap.size ≤ g ∧ g < w'.heap.size ∧ Below w.heap.size w w' := by
  go_enter Tryz.func213, Tryz.ntmps213
  go_wp2_with fail
  exact bodyPost_ret (v := .agg #[.func (.func 242) #[] #[], .slice (some ⟨(w.heap.size + 1 + 1), 0, none⟩) 2 2, .func (.func 243) #[] #[.pointer (some ⟨w.heap.size, 0, none⟩)]]) (by simp [results, Tryz.results213, go_sem]) rfl ⟨w.heap.size, (w.heap.size + 1 + 1), rfl, by repeat (first | exact blk_new (by simp) | refine blk_alloc ?_), by repeat (first | exact blk_new (by simp) | refine blk_alloc ?_), by omega, by simp <;> omega, by omega, by simp <;> omega, by repeat (first | with_reducible exact Below.refl _ _ | with_reducible refine Below.alloc ?_ (by simp <;> omega) _)⟩
theorem kd_single (c n : Int) (oa : Option Addr) (on oc : Nat) (w : World) : Calls Tryz.prog 217 #[.int .u8 c, .int .i64 n, .slice oa on oc] w fun e w' => ∃ b b2, e = .returned (.agg #[.func (.func 245) #[] #[], .slice oa on oc, .func (.func 246) #[] #[.pointer (some ⟨b, 0, none⟩), .pointer (some ⟨b2, 0, none⟩)]]) ∧ blk w' b #[.int .u8 c] 5 ∧ blk w' b2 #[.int .i64 n] 3 ∧ w.heap.size ≤ b ∧ b < w'.heap.size ∧ w.heap.size ≤ b2 ∧ b2 < w'.heap.size ∧ Below w.heap.size w w' := by
  go_enter Tryz.func217, Tryz.ntmps217
  go_wp2_with fail
  exact bodyPost_ret (v := .agg #[.func (.func 245) #[] #[], .slice oa on oc, .func (.func 246) #[] #[.pointer (some ⟨w.heap.size, 0, none⟩), .pointer (some ⟨(w.heap.size + 1), 0, none⟩)]]) (by simp [results, Tryz.results217, go_sem]) rfl ⟨w.heap.size, (w.heap.size + 1), rfl, by repeat (first | exact blk_new (by simp) | refine blk_alloc ?_), by repeat (first | exact blk_new (by simp) | refine blk_alloc ?_), by omega, by simp <;> omega, by omega, by simp <;> omega, by repeat (first | with_reducible exact Below.refl _ _ | with_reducible refine Below.alloc ?_ (by simp <;> omega) _)⟩
theorem kd_bare (oa : Option Addr) (on oc : Nat) (w : World) : Calls Tryz.prog 218 #[.slice oa on oc] w fun e w' => ∃ b g, e = .returned (.agg #[.func (.func 247) #[] #[], .slice (some ⟨g, 0, none⟩) 1 1, .func (.func 248) #[] #[.pointer (some ⟨b, 0, none⟩)]]) ∧ blk w' b #[.slice oa on oc] 22 ∧ blk w' g #[.int .i64 32] 3 ∧ w.heap.size ≤ b ∧ b < w'.heap.size ∧ w.heap.size ≤ g ∧ g < w'.heap.size ∧ Below w.heap.size w w' := by
  go_enter Tryz.func218, Tryz.ntmps218
  go_wp2_with fail
  exact bodyPost_ret (v := .agg #[.func (.func 247) #[] #[], .slice (some ⟨(w.heap.size + 1 + 1), 0, none⟩) 1 1, .func (.func 248) #[] #[.pointer (some ⟨w.heap.size, 0, none⟩)]]) (by simp [results, Tryz.results218, go_sem]) rfl ⟨w.heap.size, (w.heap.size + 1 + 1), rfl, by repeat (first | exact blk_new (by simp) | refine blk_alloc ?_), by repeat (first | exact blk_new (by simp) | refine blk_alloc ?_), by omega, by simp <;> omega, by omega, by simp <;> omega, by repeat (first | with_reducible exact Below.refl _ _ | with_reducible refine Below.alloc ?_ (by simp <;> omega) _)⟩
theorem kd_jump (f1 f2 f3 : FuncId) (w : World) : Calls Tryz.prog 226 #[.func (.func f1) #[] #[], .func (.func f2) #[] #[], .func (.func f3) #[] #[]] w fun e w' => ∃ b1 b2 b3 g, e = .returned (.agg #[.func (.func 249) #[] #[.pointer (some ⟨b3, 0, none⟩)], .slice (some ⟨g, 0, none⟩) 2 2, .func (.func 250) #[] #[.pointer (some ⟨b1, 0, none⟩), .pointer (some ⟨b2, 0, none⟩)]]) ∧ blk w' b1 #[.func (.func f1) #[] #[]] 208 ∧ blk w' b2 #[.func (.func f2) #[] #[]] 208 ∧ blk w' b3 #[.func (.func f3) #[] #[]] 235 ∧ blk w' g #[.int .i64 8, .int .i64 32] 3 ∧ w.heap.size ≤ b1 ∧ b1 < w'.heap.size ∧ w.heap.size ≤ b2 ∧ b2 < w'.heap.size ∧ w.heap.size ≤ b3 ∧ b3 < w'.heap.size ∧ w.heap.size ≤ g ∧ g < w'.heap.size ∧ Below w.heap.size w w' := by
  go_enter Tryz.func226, Tryz.ntmps226
  go_wp2_with fail
  exact bodyPost_ret (v := .agg #[.func (.func 249) #[] #[.pointer (some ⟨(w.heap.size + 1 + 1), 0, none⟩)], .slice (some ⟨(w.heap.size + 1 + 1 + 1 + 1), 0, none⟩) 2 2, .func (.func 250) #[] #[.pointer (some ⟨w.heap.size, 0, none⟩), .pointer (some ⟨(w.heap.size + 1), 0, none⟩)]]) (by simp [results, Tryz.results226, go_sem]) rfl ⟨w.heap.size, (w.heap.size + 1), (w.heap.size + 1 + 1), (w.heap.size + 1 + 1 + 1 + 1), rfl, by repeat (first | exact blk_new (by simp) | refine blk_alloc ?_), by repeat (first | exact blk_new (by simp) | refine blk_alloc ?_), by repeat (first | exact blk_new (by simp) | refine blk_alloc ?_), by repeat (first | exact blk_new (by simp) | refine blk_alloc ?_), by omega, by simp <;> omega, by omega, by simp <;> omega, by omega, by simp <;> omega, by omega, by simp <;> omega, by repeat (first | with_reducible exact Below.refl _ _ | with_reducible refine Below.alloc ?_ (by simp <;> omega) _)⟩
theorem kd_sized (f1 f2 : FuncId) (c1 c2 : Array Value) (a : Option Addr) (n c : Nat) (w : World) : Calls Tryz.prog 209 #[.agg #[.func (.func f1) #[] c1, .slice a n c, .func (.func f2) #[] c2]] w fun e w' => ∃ g, e = .returned (.agg #[.func (.func f1) #[] c1, .slice (some ⟨g, 0, none⟩) 2 2, .func (.func f2) #[] c2]) ∧ blk w' g #[.int .i64 32, .int .i64 16] 3 ∧ w.heap.size ≤ g ∧ g < w'.heap.size ∧ Below w.heap.size w w' := by
  go_enter Tryz.func209, Tryz.ntmps209
  go_wp2_with fail
  exact bodyPost_ret (v := .agg #[.func (.func f1) #[] c1, .slice (some ⟨(w.heap.size + 1 + 1), 0, none⟩) 2 2, .func (.func f2) #[] c2]) (by simp [results, Tryz.results209, go_sem]) rfl ⟨(w.heap.size + 1 + 1), rfl, by repeat (first | exact blk_new (by simp) | refine blk_alloc ?_), by omega, by simp <;> omega, by repeat (first | with_reducible exact Below.refl _ _ | with_reducible refine Below.alloc ?_ (by simp <;> omega) _)⟩
end Go.Proofs.YtaegpeofecdhfaaGreat
namespace Go.Proofs.YtaegpeofecdhfaaGreat
set_option linter.unusedVariables false
set_option linter.unusedSimpArgs false
theorem ok_fit {x : Ins} (h : okI x = true) : fitI x = true := by unfold okI at h; simp only [Bool.and_eq_true] at h; exact h.2
theorem ok_sz {x : Ins} (h : okI x = true) : x.z ∈ szI x.o := by unfold okI at h; simp only [Bool.and_eq_true] at h; simpa using h.1
theorem ok_op {x : Ins} (h : okI x = true) : 0 ≤ x.o ∧ x.o ≤ 36 := by
  by_cases c : 0 ≤ x.o ∧ x.o ≤ 36
  · exact c
  · have := ok_sz h
    unfold szI at this
    rw [if_neg (by omega), if_neg (by omega), if_neg (by omega), if_neg (by omega), if_neg (by omega), if_neg (by omega), if_neg (by omega), if_neg (by omega)] at this
    cases this
end Go.Proofs.YtaegpeofecdhfaaGreat
namespace Go.Proofs.YtaegpeofecdhfaaGreat
open Go.RowKit
set_option linter.unusedVariables false
set_option linter.unusedSimpArgs false
theorem ints_blk {w : World} {g : Nat} {cs : Array Value} {t : TypeId} {k : IntKind} {xs : List Int} (h : blk w g cs t) (hc : cs.toList = xs.map (Value.int k)) (hl : xs.length ≤ 1000) : Ints k w (.slice (some ⟨g, 0, none⟩) xs.length xs.length) xs := by
  refine ⟨some ⟨g, 0, none⟩, xs.length, rfl, Nat.le_refl _, ⟨by omega, by omega⟩, (fun h => by cases h), fun i hi => ⟨g, 0, rfl, blk_lt h, ?_⟩⟩
  show w.cell? ⟨g, 0 + i * 1, none⟩ = some (.int k (xs.getD i 0))
  rw [Nat.mul_one, Nat.zero_add, blk_cell h, ← Array.getElem?_toList, hc, List.getElem?_map, List.getD_eq_getElem?_getD, List.getElem?_eq_getElem hi]
  rfl
def Knd (base : Nat) (w : World) (k : Value) (o : Int) : Prop :=
  ∃ (FF WW : FuncId) (cF cW : Array Value) (g : Nat) (T : Nat → Prop), k = .agg #[.func (.func FF) #[] cF, .slice (some ⟨g, 0, none⟩) (szI o).length (szI o).length, .func (.func WW) #[] cW] ∧
    (∀ (args : Array Value) (w : World), (callFunc FF args).run Tryz.prog w = .ok (.enter FF args) w) ∧ (∀ (args : Array Value) (w : World), (callFunc WW args).run Tryz.prog w = .ok (.enter WW args) w) ∧
    (∀ b, T b → base ≤ b ∧ b < w.heap.size) ∧ ∀ wk : World, w.heap.size ≤ wk.heap.size → (∀ b, T b → wk.heap[b]? = w.heap[b]?) →
      Ints .i64 wk (.slice (some ⟨g, 0, none⟩) (szI o).length (szI o).length) (szI o) ∧
      (∀ x : Ins, x.o = o → x.z ∈ szI o → Calls Tryz.prog FF (#[InsV x] ++ cF) wk fun e w' => e = .returned (.bool (fitI x)) ∧ Below wk.heap.size wk w') ∧
      (∀ x : Ins, x.o = o → okI x = true → Calls Tryz.prog WW (#[InsV x] ++ cW) wk fun e w' => ∃ v, e = .returned v ∧ RowI w' wk.heap.size 5 .u8 v (bodyI x) ∧ Below wk.heap.size wk w')
theorem Knd.keep {base : Nat} {w w' : World} {k : Value} {o : Int} (h : Knd base w k o) (hs : w.heap.size ≤ w'.heap.size) (hk : ∀ b, base ≤ b → b < w.heap.size → w'.heap[b]? = w.heap[b]?) : Knd base w' k o := by
  obtain ⟨F, W, cF, cW, g, T, h1, h2, h3, h4, h5⟩ := h
  refine ⟨F, W, cF, cW, g, T, h1, h2, h3, fun b hb => ⟨(h4 b hb).1, by have := (h4 b hb).2; omega⟩, fun wk hz hT => h5 wk (by omega) fun b hb => ?_⟩
  rw [hT b hb, hk b (h4 b hb).1 (h4 b hb).2]
theorem Knd.mono {base base' : Nat} {w : World} {k : Value} {o : Int} (h : Knd base w k o) (hb : base' ≤ base) : Knd base' w k o := by
  obtain ⟨F, W, cF, cW, g, T, h1, h2, h3, h4, h5⟩ := h
  exact ⟨F, W, cF, cW, g, T, h1, h2, h3, fun b hb' => ⟨by have := (h4 b hb').1; omega, (h4 b hb').2⟩, h5⟩
theorem Knd.below {base : Nat} {w w' : World} {k : Value} {o : Int} (h : Knd base w k o) (hb : Below w.heap.size w w') : Knd base w' k o := h.keep hb.size fun b _ hl => hb.block b hl
theorem knd_0 (base : Nat) (w : World) (g b : Nat) (hg : blk w g #[.int .i64 32, .int .i64 16] 3) (hb : blk w b #[.int .u8 137] 5) (lg : base ≤ g) (lb : base ≤ b) : Knd base w (.agg #[.func (.func 233) #[] #[], .slice (some ⟨g, 0, none⟩) 2 2, .func (.func 234) #[] #[.pointer (some ⟨b, 0, none⟩)]]) 0 := by
  refine ⟨233, 234, #[], #[.pointer (some ⟨b, 0, none⟩)], g, fun x => x = g ∨ x = b, rfl, fun _ _ => by kernel_rfl, fun _ _ => by kernel_rfl, ?_, ?_⟩
  · rintro x (rfl | rfl)
    · exact ⟨lg, blk_lt hg⟩
    · exact ⟨lb, blk_lt hb⟩
  · intro wk hs hT
    have kg := hT g (.inl rfl)
    have bg : blk wk g #[.int .i64 32, .int .i64 16] 3 := by unfold blk at hg ⊢; rw [kg]; exact hg
    have kb := hT b (.inr (rfl))
    have bb : blk wk b #[.int .u8 137] 5 := by unfold blk at hb ⊢; rw [kb]; exact hb
    refine ⟨ints_blk (xs := [32, 16]) bg rfl (by decide), fun x hx hz => ?_, fun x hx hok => ?_⟩
    · obtain ⟨o, d, s, z, i⟩ := x
      simp only at hx
      subst hx
      exact fit_pair 0 d s z i wk
    · have hf := ok_fit hok
      have hz := ok_sz hok
      clear hok
      obtain ⟨o, d, s, z, i⟩ := x
      simp only at hx
      subst hx
      exact wr_pair 0 d s z i 137 b wk (blk_cell bb 0)
theorem knd_1 (base : Nat) (w : World) (g : Nat) (hg : blk w g #[.int .i64 32, .int .i64 16] 3) (lg : base ≤ g) : Knd base w (.agg #[.func (.func 205) #[] #[], .slice (some ⟨g, 0, none⟩) 2 2, .func (.func 208) #[] #[]]) 1 := by
  refine ⟨205, 208, #[], #[], g, fun x => x = g, rfl, fun _ _ => by kernel_rfl, fun _ _ => by kernel_rfl, ?_, ?_⟩
  · rintro x rfl
    exact ⟨lg, blk_lt hg⟩
  · intro wk hs hT
    have kg := hT g (rfl)
    have bg : blk wk g #[.int .i64 32, .int .i64 16] 3 := by unfold blk at hg ⊢; rw [kg]; exact hg
    refine ⟨ints_blk (xs := [32, 16]) bg rfl (by decide), fun x hx hz => ?_, fun x hx hok => ?_⟩
    · obtain ⟨o, d, s, z, i⟩ := x
      simp only at hx
      subst hx
      simp [szI] at hz
      rcases hz with rfl | rfl
      · exact fit_movi_32 1 d s i wk
      · exact fit_movi_16 1 d s i wk
    · have hf := ok_fit hok
      have hz := ok_sz hok
      clear hok
      obtain ⟨o, d, s, z, i⟩ := x
      simp only at hx
      subst hx
      simp [szI] at hz
      simp [fitI, isR, inZ] at hf
      have p32 : pwZ 32 = 4294967296 := rfl
      have p16 : pwZ 16 = 65536 := rfl
      rcases hz with rfl | rfl
      · exact wr_movi_32 1 d s i wk ⟨by omega, by omega⟩
      · exact wr_movi_16 1 d s i wk ⟨by omega, by omega⟩
theorem knd_2 (base : Nat) (w : World) (g b go : Nat) (hg : blk w g #[.int .i64 32, .int .i64 16] 3) (hb : blk w b #[.slice (some ⟨go, 0, none⟩) 1 1] 22) (hgo : blk w go #[.int .u8 139] 5) (lg : base ≤ g) (lb : base ≤ b) (lgo : base ≤ go) : Knd base w (.agg #[.func (.func 235) #[] #[], .slice (some ⟨g, 0, none⟩) 2 2, .func (.func 238) #[] #[.pointer (some ⟨b, 0, none⟩)]]) 2 := by
  refine ⟨235, 238, #[], #[.pointer (some ⟨b, 0, none⟩)], g, fun x => x = g ∨ x = b ∨ x = go, rfl, fun _ _ => by kernel_rfl, fun _ _ => by kernel_rfl, ?_, ?_⟩
  · rintro x (rfl | rfl | rfl)
    · exact ⟨lg, blk_lt hg⟩
    · exact ⟨lb, blk_lt hb⟩
    · exact ⟨lgo, blk_lt hgo⟩
  · intro wk hs hT
    have kg := hT g (.inl rfl)
    have bg : blk wk g #[.int .i64 32, .int .i64 16] 3 := by unfold blk at hg ⊢; rw [kg]; exact hg
    have kb := hT b (.inr (.inl rfl))
    have bb : blk wk b #[.slice (some ⟨go, 0, none⟩) 1 1] 22 := by unfold blk at hb ⊢; rw [kb]; exact hb
    have kgo := hT go (.inr (.inr (rfl)))
    have bgo : blk wk go #[.int .u8 139] 5 := by unfold blk at hgo ⊢; rw [kgo]; exact hgo
    refine ⟨ints_blk (xs := [32, 16]) bg rfl (by decide), fun x hx hz => ?_, fun x hx hok => ?_⟩
    · obtain ⟨o, d, s, z, i⟩ := x
      simp only at hx
      subst hx
      exact fit_load 2 d s z i wk
    · have hf := ok_fit hok
      have hz := ok_sz hok
      clear hok
      obtain ⟨o, d, s, z, i⟩ := x
      simp only at hx
      subst hx
      simp [fitI, fitJ, isR, isM, isL, isC, isB, isW4] at hf
      exact wr_load 2 d s z i _ [139] b wk (blk_cell bb 0) (ints_blk (xs := [139]) bgo rfl (by decide)) (by decide) (by decide) ⟨by omega, by omega⟩
theorem knd_3 (base : Nat) (w : World) (g b b2 : Nat) (hg : blk w g #[.int .i64 32, .int .i64 16] 3) (hb : blk w b #[.int .u8 137] 5) (hb2 : blk w b2 #[.func (.func 206) #[] #[]] 82) (lg : base ≤ g) (lb : base ≤ b) (lb2 : base ≤ b2) : Knd base w (.agg #[.func (.func 240) #[] #[.pointer (some ⟨b2, 0, none⟩)], .slice (some ⟨g, 0, none⟩) 2 2, .func (.func 241) #[] #[.pointer (some ⟨b, 0, none⟩)]]) 3 := by
  refine ⟨240, 241, #[.pointer (some ⟨b2, 0, none⟩)], #[.pointer (some ⟨b, 0, none⟩)], g, fun x => x = g ∨ x = b ∨ x = b2, rfl, fun _ _ => by kernel_rfl, fun _ _ => by kernel_rfl, ?_, ?_⟩
  · rintro x (rfl | rfl | rfl)
    · exact ⟨lg, blk_lt hg⟩
    · exact ⟨lb, blk_lt hb⟩
    · exact ⟨lb2, blk_lt hb2⟩
  · intro wk hs hT
    have kg := hT g (.inl rfl)
    have bg : blk wk g #[.int .i64 32, .int .i64 16] 3 := by unfold blk at hg ⊢; rw [kg]; exact hg
    have kb := hT b (.inr (.inl rfl))
    have bb : blk wk b #[.int .u8 137] 5 := by unfold blk at hb ⊢; rw [kb]; exact hb
    have kb2 := hT b2 (.inr (.inr (rfl)))
    have bb2 : blk wk b2 #[.func (.func 206) #[] #[]] 82 := by unfold blk at hb2 ⊢; rw [kb2]; exact hb2
    refine ⟨ints_blk (xs := [32, 16]) bg rfl (by decide), fun x hx hz => ?_, fun x hx hok => ?_⟩
    · obtain ⟨o, d, s, z, i⟩ := x
      simp only at hx
      subst hx
      exact fit_storeR 3 d s z i b2 wk (blk_cell bb2 0)
    · have hf := ok_fit hok
      have hz := ok_sz hok
      clear hok
      obtain ⟨o, d, s, z, i⟩ := x
      simp only at hx
      subst hx
      simp [fitI, fitJ, isR, isM, isL, isC, isB, isW4] at hf
      exact wr_store 3 d s z i 137 b wk (blk_cell bb 0) ⟨by omega, by omega⟩
theorem knd_4 (base : Nat) (w : World) (g b go : Nat) (hg : blk w g #[.int .i64 32] 3) (hb : blk w b #[.slice (some ⟨go, 0, none⟩) 2 2] 22) (hgo : blk w go #[.int .u8 15, .int .u8 182] 5) (lg : base ≤ g) (lb : base ≤ b) (lgo : base ≤ go) : Knd base w (.agg #[.func (.func 235) #[] #[], .slice (some ⟨g, 0, none⟩) 1 1, .func (.func 238) #[] #[.pointer (some ⟨b, 0, none⟩)]]) 4 := by
  refine ⟨235, 238, #[], #[.pointer (some ⟨b, 0, none⟩)], g, fun x => x = g ∨ x = b ∨ x = go, rfl, fun _ _ => by kernel_rfl, fun _ _ => by kernel_rfl, ?_, ?_⟩
  · rintro x (rfl | rfl | rfl)
    · exact ⟨lg, blk_lt hg⟩
    · exact ⟨lb, blk_lt hb⟩
    · exact ⟨lgo, blk_lt hgo⟩
  · intro wk hs hT
    have kg := hT g (.inl rfl)
    have bg : blk wk g #[.int .i64 32] 3 := by unfold blk at hg ⊢; rw [kg]; exact hg
    have kb := hT b (.inr (.inl rfl))
    have bb : blk wk b #[.slice (some ⟨go, 0, none⟩) 2 2] 22 := by unfold blk at hb ⊢; rw [kb]; exact hb
    have kgo := hT go (.inr (.inr (rfl)))
    have bgo : blk wk go #[.int .u8 15, .int .u8 182] 5 := by unfold blk at hgo ⊢; rw [kgo]; exact hgo
    refine ⟨ints_blk (xs := [32]) bg rfl (by decide), fun x hx hz => ?_, fun x hx hok => ?_⟩
    · obtain ⟨o, d, s, z, i⟩ := x
      simp only at hx
      subst hx
      exact fit_load 4 d s z i wk
    · have hf := ok_fit hok
      have hz := ok_sz hok
      clear hok
      obtain ⟨o, d, s, z, i⟩ := x
      simp only at hx
      subst hx
      simp [fitI, fitJ, isR, isM, isL, isC, isB, isW4] at hf
      exact wr_load 4 d s z i _ [15, 182] b wk (blk_cell bb 0) (ints_blk (xs := [15, 182]) bgo rfl (by decide)) (by decide) (by decide) ⟨by omega, by omega⟩
theorem knd_5 (base : Nat) (w : World) (g b go : Nat) (hg : blk w g #[.int .i64 32] 3) (hb : blk w b #[.slice (some ⟨go, 0, none⟩) 2 2] 22) (hgo : blk w go #[.int .u8 15, .int .u8 183] 5) (lg : base ≤ g) (lb : base ≤ b) (lgo : base ≤ go) : Knd base w (.agg #[.func (.func 235) #[] #[], .slice (some ⟨g, 0, none⟩) 1 1, .func (.func 238) #[] #[.pointer (some ⟨b, 0, none⟩)]]) 5 := by
  refine ⟨235, 238, #[], #[.pointer (some ⟨b, 0, none⟩)], g, fun x => x = g ∨ x = b ∨ x = go, rfl, fun _ _ => by kernel_rfl, fun _ _ => by kernel_rfl, ?_, ?_⟩
  · rintro x (rfl | rfl | rfl)
    · exact ⟨lg, blk_lt hg⟩
    · exact ⟨lb, blk_lt hb⟩
    · exact ⟨lgo, blk_lt hgo⟩
  · intro wk hs hT
    have kg := hT g (.inl rfl)
    have bg : blk wk g #[.int .i64 32] 3 := by unfold blk at hg ⊢; rw [kg]; exact hg
    have kb := hT b (.inr (.inl rfl))
    have bb : blk wk b #[.slice (some ⟨go, 0, none⟩) 2 2] 22 := by unfold blk at hb ⊢; rw [kb]; exact hb
    have kgo := hT go (.inr (.inr (rfl)))
    have bgo : blk wk go #[.int .u8 15, .int .u8 183] 5 := by unfold blk at hgo ⊢; rw [kgo]; exact hgo
    refine ⟨ints_blk (xs := [32]) bg rfl (by decide), fun x hx hz => ?_, fun x hx hok => ?_⟩
    · obtain ⟨o, d, s, z, i⟩ := x
      simp only at hx
      subst hx
      exact fit_load 5 d s z i wk
    · have hf := ok_fit hok
      have hz := ok_sz hok
      clear hok
      obtain ⟨o, d, s, z, i⟩ := x
      simp only at hx
      subst hx
      simp [fitI, fitJ, isR, isM, isL, isC, isB, isW4] at hf
      exact wr_load 5 d s z i _ [15, 183] b wk (blk_cell bb 0) (ints_blk (xs := [15, 183]) bgo rfl (by decide)) (by decide) (by decide) ⟨by omega, by omega⟩
theorem knd_6 (base : Nat) (w : World) (g b b2 : Nat) (hg : blk w g #[.int .i64 32] 3) (hb : blk w b #[.int .u8 136] 5) (hb2 : blk w b2 #[.func (.func 212) #[] #[]] 82) (lg : base ≤ g) (lb : base ≤ b) (lb2 : base ≤ b2) : Knd base w (.agg #[.func (.func 240) #[] #[.pointer (some ⟨b2, 0, none⟩)], .slice (some ⟨g, 0, none⟩) 1 1, .func (.func 241) #[] #[.pointer (some ⟨b, 0, none⟩)]]) 6 := by
  refine ⟨240, 241, #[.pointer (some ⟨b2, 0, none⟩)], #[.pointer (some ⟨b, 0, none⟩)], g, fun x => x = g ∨ x = b ∨ x = b2, rfl, fun _ _ => by kernel_rfl, fun _ _ => by kernel_rfl, ?_, ?_⟩
  · rintro x (rfl | rfl | rfl)
    · exact ⟨lg, blk_lt hg⟩
    · exact ⟨lb, blk_lt hb⟩
    · exact ⟨lb2, blk_lt hb2⟩
  · intro wk hs hT
    have kg := hT g (.inl rfl)
    have bg : blk wk g #[.int .i64 32] 3 := by unfold blk at hg ⊢; rw [kg]; exact hg
    have kb := hT b (.inr (.inl rfl))
    have bb : blk wk b #[.int .u8 136] 5 := by unfold blk at hb ⊢; rw [kb]; exact hb
    have kb2 := hT b2 (.inr (.inr (rfl)))
    have bb2 : blk wk b2 #[.func (.func 212) #[] #[]] 82 := by unfold blk at hb2 ⊢; rw [kb2]; exact hb2
    refine ⟨ints_blk (xs := [32]) bg rfl (by decide), fun x hx hz => ?_, fun x hx hok => ?_⟩
    · obtain ⟨o, d, s, z, i⟩ := x
      simp only at hx
      subst hx
      exact fit_storeL 6 d s z i b2 wk (blk_cell bb2 0)
    · have hf := ok_fit hok
      have hz := ok_sz hok
      clear hok
      obtain ⟨o, d, s, z, i⟩ := x
      simp only at hx
      subst hx
      simp [fitI, fitJ, isR, isM, isL, isC, isB, isW4] at hf
      exact wr_store 6 d s z i 136 b wk (blk_cell bb 0) ⟨by omega, by omega⟩
theorem knd_pair (o D : Int) (ho : (o = 7 ∧ D = 1) ∨ (o = 8 ∧ D = 9) ∨ (o = 9 ∧ D = 33) ∨ (o = 10 ∧ D = 41) ∨ (o = 11 ∧ D = 49) ∨ (o = 12 ∧ D = 57) ∨ (o = 13 ∧ D = 133)) (base : Nat) (w : World) (g b : Nat) (hg : blk w g #[.int .i64 32, .int .i64 16] 3) (hb : blk w b #[.int .u8 D] 5) (lg : base ≤ g) (lb : base ≤ b) : Knd base w (.agg #[.func (.func 233) #[] #[], .slice (some ⟨g, 0, none⟩) 2 2, .func (.func 234) #[] #[.pointer (some ⟨b, 0, none⟩)]]) o := by
  rcases ho with ⟨rfl, hD⟩ | ⟨rfl, hD⟩ | ⟨rfl, hD⟩ | ⟨rfl, hD⟩ | ⟨rfl, hD⟩ | ⟨rfl, hD⟩ | ⟨rfl, hD⟩
  all_goals
    refine ⟨233, 234, #[], #[.pointer (some ⟨b, 0, none⟩)], g, fun x => x = g ∨ x = b, rfl, fun _ _ => by kernel_rfl, fun _ _ => by kernel_rfl, ?_, ?_⟩
    · rintro x (rfl | rfl)
      · exact ⟨lg, blk_lt hg⟩
      · exact ⟨lb, blk_lt hb⟩
    · intro wk hs hT
      have kg := hT g (.inl rfl)
      have bg : blk wk g #[.int .i64 32, .int .i64 16] 3 := by unfold blk at hg ⊢; rw [kg]; exact hg
      have kb := hT b (.inr (rfl))
      have bb : blk wk b #[.int .u8 D] 5 := by unfold blk at hb ⊢; rw [kb]; exact hb
      refine ⟨ints_blk (xs := [32, 16]) bg rfl (by decide), fun x hx hz => ?_, fun x hx hok => ?_⟩
      · obtain ⟨o, d, s, z, i⟩ := x
        simp only at hx
        subst hx
        exact fit_pair _ d s z i wk
      · have hf := ok_fit hok
        have hz := ok_sz hok
        clear hok
        obtain ⟨o, d, s, z, i⟩ := x
        simp only at hx
        subst hx
        subst hD; exact wr_pair _ d s z i _ b wk (blk_cell bb 0)
theorem knd_alu (o D : Int) (ho : (o = 14 ∧ D = 0) ∨ (o = 15 ∧ D = 1) ∨ (o = 16 ∧ D = 4) ∨ (o = 17 ∧ D = 5) ∨ (o = 18 ∧ D = 6) ∨ (o = 19 ∧ D = 7)) (base : Nat) (w : World) (g b : Nat) (hg : blk w g #[.int .i64 32, .int .i64 16] 3) (hb : blk w b #[.int .i64 D] 3) (lg : base ≤ g) (lb : base ≤ b) : Knd base w (.agg #[.func (.func 242) #[] #[], .slice (some ⟨g, 0, none⟩) 2 2, .func (.func 243) #[] #[.pointer (some ⟨b, 0, none⟩)]]) o := by
  rcases ho with ⟨rfl, hD⟩ | ⟨rfl, hD⟩ | ⟨rfl, hD⟩ | ⟨rfl, hD⟩ | ⟨rfl, hD⟩ | ⟨rfl, hD⟩
  all_goals
    refine ⟨242, 243, #[], #[.pointer (some ⟨b, 0, none⟩)], g, fun x => x = g ∨ x = b, rfl, fun _ _ => by kernel_rfl, fun _ _ => by kernel_rfl, ?_, ?_⟩
    · rintro x (rfl | rfl)
      · exact ⟨lg, blk_lt hg⟩
      · exact ⟨lb, blk_lt hb⟩
    · intro wk hs hT
      have kg := hT g (.inl rfl)
      have bg : blk wk g #[.int .i64 32, .int .i64 16] 3 := by unfold blk at hg ⊢; rw [kg]; exact hg
      have kb := hT b (.inr (rfl))
      have bb : blk wk b #[.int .i64 D] 3 := by unfold blk at hb ⊢; rw [kb]; exact hb
      refine ⟨ints_blk (xs := [32, 16]) bg rfl (by decide), fun x hx hz => ?_, fun x hx hok => ?_⟩
      · obtain ⟨o, d, s, z, i⟩ := x
        simp only at hx
        subst hx
        simp [szI] at hz
        rcases hz with rfl | rfl
        · exact fit_num_32 _ d s i wk
        · exact fit_num_16 _ d s i wk
      · have hf := ok_fit hok
        have hz := ok_sz hok
        clear hok
        obtain ⟨o, d, s, z, i⟩ := x
        simp only at hx
        subst hx
        simp [szI] at hz
        simp [fitI, isR, inZ] at hf
        have p32 : pwZ 32 = 4294967296 := rfl
        have p16 : pwZ 16 = 65536 := rfl
        rcases hz with rfl | rfl
        · by_cases hs : -128 ≤ sgB i 32 ∧ sgB i 32 ≤ 127
          · rw [show bodyI _ = [131, mrB D d, i % 256] by simp [bodyI, hs, digI, hD]]
            exact wr_num_32_s _ d s i D b wk (blk_cell bb 0) (by omega) (by omega) hs
          · rw [show bodyI _ = 129 :: mrB D d :: leB i 4 by simp [bodyI, hs, digI, hD]]
            exact wr_num_32_b _ d s i D b wk (blk_cell bb 0) (by omega) (by omega) hs
        · by_cases hs : -128 ≤ sgB i 16 ∧ sgB i 16 ≤ 127
          · rw [show bodyI _ = [131, mrB D d, i % 256] by simp [bodyI, hs, digI, hD]]
            exact wr_num_16_s _ d s i D b wk (blk_cell bb 0) (by omega) (by omega) hs
          · rw [show bodyI _ = 129 :: mrB D d :: leB i 2 by simp [bodyI, hs, digI, hD]]
            exact wr_num_16_b _ d s i D b wk (blk_cell bb 0) (by omega) (by omega) hs
theorem knd_20 (base : Nat) (w : World) (g : Nat) (hg : blk w g #[.int .i64 32] 3) (lg : base ≤ g) : Knd base w (.agg #[.func (.func 214) #[] #[], .slice (some ⟨g, 0, none⟩) 1 1, .func (.func 215) #[] #[]]) 20 := by
  refine ⟨214, 215, #[], #[], g, fun x => x = g, rfl, fun _ _ => by kernel_rfl, fun _ _ => by kernel_rfl, ?_, ?_⟩
  · rintro x rfl
    exact ⟨lg, blk_lt hg⟩
  · intro wk hs hT
    have kg := hT g (rfl)
    have bg : blk wk g #[.int .i64 32] 3 := by unfold blk at hg ⊢; rw [kg]; exact hg
    refine ⟨ints_blk (xs := [32]) bg rfl (by decide), fun x hx hz => ?_, fun x hx hok => ?_⟩
    · obtain ⟨o, d, s, z, i⟩ := x
      simp only at hx
      subst hx
      exact fit_mul 20 d s z i wk
    · have hf := ok_fit hok
      have hz := ok_sz hok
      clear hok
      obtain ⟨o, d, s, z, i⟩ := x
      simp only at hx
      subst hx
      simp [fitI, fitJ, isR, isM, isL, isC, isB, isW4] at hf
      exact wr_mul 20 d s z i wk
theorem knd_sh (o D : Int) (ho : (o = 21 ∧ D = 4) ∨ (o = 22 ∧ D = 5) ∨ (o = 23 ∧ D = 7)) (base : Nat) (w : World) (g b b2 : Nat) (hg : blk w g #[.int .i64 32, .int .i64 16] 3) (hb : blk w b #[.int .u8 211] 5) (hb2 : blk w b2 #[.int .i64 D] 3) (lg : base ≤ g) (lb : base ≤ b) (lb2 : base ≤ b2) : Knd base w (.agg #[.func (.func 245) #[] #[], .slice (some ⟨g, 0, none⟩) 2 2, .func (.func 246) #[] #[.pointer (some ⟨b, 0, none⟩), .pointer (some ⟨b2, 0, none⟩)]]) o := by
  rcases ho with ⟨rfl, hD⟩ | ⟨rfl, hD⟩ | ⟨rfl, hD⟩
  all_goals
    refine ⟨245, 246, #[], #[.pointer (some ⟨b, 0, none⟩), .pointer (some ⟨b2, 0, none⟩)], g, fun x => x = g ∨ x = b ∨ x = b2, rfl, fun _ _ => by kernel_rfl, fun _ _ => by kernel_rfl, ?_, ?_⟩
    · rintro x (rfl | rfl | rfl)
      · exact ⟨lg, blk_lt hg⟩
      · exact ⟨lb, blk_lt hb⟩
      · exact ⟨lb2, blk_lt hb2⟩
    · intro wk hs hT
      have kg := hT g (.inl rfl)
      have bg : blk wk g #[.int .i64 32, .int .i64 16] 3 := by unfold blk at hg ⊢; rw [kg]; exact hg
      have kb := hT b (.inr (.inl rfl))
      have bb : blk wk b #[.int .u8 211] 5 := by unfold blk at hb ⊢; rw [kb]; exact hb
      have kb2 := hT b2 (.inr (.inr (rfl)))
      have bb2 : blk wk b2 #[.int .i64 D] 3 := by unfold blk at hb2 ⊢; rw [kb2]; exact hb2
      refine ⟨ints_blk (xs := [32, 16]) bg rfl (by decide), fun x hx hz => ?_, fun x hx hok => ?_⟩
      · obtain ⟨o, d, s, z, i⟩ := x
        simp only at hx
        subst hx
        exact fit_single _ d s z i wk
      · have hf := ok_fit hok
        have hz := ok_sz hok
        clear hok
        obtain ⟨o, d, s, z, i⟩ := x
        simp only at hx
        subst hx
        subst hD; exact wr_single _ d s z i _ _ b b2 wk (blk_cell bb 0) (blk_cell bb2 0)
theorem knd_nn (o D : Int) (ho : (o = 24 ∧ D = 2) ∨ (o = 25 ∧ D = 3)) (base : Nat) (w : World) (g b b2 : Nat) (hg : blk w g #[.int .i64 32, .int .i64 16] 3) (hb : blk w b #[.int .u8 247] 5) (hb2 : blk w b2 #[.int .i64 D] 3) (lg : base ≤ g) (lb : base ≤ b) (lb2 : base ≤ b2) : Knd base w (.agg #[.func (.func 245) #[] #[], .slice (some ⟨g, 0, none⟩) 2 2, .func (.func 246) #[] #[.pointer (some ⟨b, 0, none⟩), .pointer (some ⟨b2, 0, none⟩)]]) o := by
  rcases ho with ⟨rfl, hD⟩ | ⟨rfl, hD⟩
  all_goals
    refine ⟨245, 246, #[], #[.pointer (some ⟨b, 0, none⟩), .pointer (some ⟨b2, 0, none⟩)], g, fun x => x = g ∨ x = b ∨ x = b2, rfl, fun _ _ => by kernel_rfl, fun _ _ => by kernel_rfl, ?_, ?_⟩
    · rintro x (rfl | rfl | rfl)
      · exact ⟨lg, blk_lt hg⟩
      · exact ⟨lb, blk_lt hb⟩
      · exact ⟨lb2, blk_lt hb2⟩
    · intro wk hs hT
      have kg := hT g (.inl rfl)
      have bg : blk wk g #[.int .i64 32, .int .i64 16] 3 := by unfold blk at hg ⊢; rw [kg]; exact hg
      have kb := hT b (.inr (.inl rfl))
      have bb : blk wk b #[.int .u8 247] 5 := by unfold blk at hb ⊢; rw [kb]; exact hb
      have kb2 := hT b2 (.inr (.inr (rfl)))
      have bb2 : blk wk b2 #[.int .i64 D] 3 := by unfold blk at hb2 ⊢; rw [kb2]; exact hb2
      refine ⟨ints_blk (xs := [32, 16]) bg rfl (by decide), fun x hx hz => ?_, fun x hx hok => ?_⟩
      · obtain ⟨o, d, s, z, i⟩ := x
        simp only at hx
        subst hx
        exact fit_single _ d s z i wk
      · have hf := ok_fit hok
        have hz := ok_sz hok
        clear hok
        obtain ⟨o, d, s, z, i⟩ := x
        simp only at hx
        subst hx
        subst hD; exact wr_single _ d s z i _ _ b b2 wk (blk_cell bb 0) (blk_cell bb2 0)
theorem knd_dv (o D : Int) (ho : (o = 26 ∧ D = 6) ∨ (o = 27 ∧ D = 7)) (base : Nat) (w : World) (g b b2 : Nat) (hg : blk w g #[.int .i64 32] 3) (hb : blk w b #[.int .u8 247] 5) (hb2 : blk w b2 #[.int .i64 D] 3) (lg : base ≤ g) (lb : base ≤ b) (lb2 : base ≤ b2) : Knd base w (.agg #[.func (.func 245) #[] #[], .slice (some ⟨g, 0, none⟩) 1 1, .func (.func 246) #[] #[.pointer (some ⟨b, 0, none⟩), .pointer (some ⟨b2, 0, none⟩)]]) o := by
  rcases ho with ⟨rfl, hD⟩ | ⟨rfl, hD⟩
  all_goals
    refine ⟨245, 246, #[], #[.pointer (some ⟨b, 0, none⟩), .pointer (some ⟨b2, 0, none⟩)], g, fun x => x = g ∨ x = b ∨ x = b2, rfl, fun _ _ => by kernel_rfl, fun _ _ => by kernel_rfl, ?_, ?_⟩
    · rintro x (rfl | rfl | rfl)
      · exact ⟨lg, blk_lt hg⟩
      · exact ⟨lb, blk_lt hb⟩
      · exact ⟨lb2, blk_lt hb2⟩
    · intro wk hs hT
      have kg := hT g (.inl rfl)
      have bg : blk wk g #[.int .i64 32] 3 := by unfold blk at hg ⊢; rw [kg]; exact hg
      have kb := hT b (.inr (.inl rfl))
      have bb : blk wk b #[.int .u8 247] 5 := by unfold blk at hb ⊢; rw [kb]; exact hb
      have kb2 := hT b2 (.inr (.inr (rfl)))
      have bb2 : blk wk b2 #[.int .i64 D] 3 := by unfold blk at hb2 ⊢; rw [kb2]; exact hb2
      refine ⟨ints_blk (xs := [32]) bg rfl (by decide), fun x hx hz => ?_, fun x hx hok => ?_⟩
      · obtain ⟨o, d, s, z, i⟩ := x
        simp only at hx
        subst hx
        exact fit_single _ d s z i wk
      · have hf := ok_fit hok
        have hz := ok_sz hok
        clear hok
        obtain ⟨o, d, s, z, i⟩ := x
        simp only at hx
        subst hx
        subst hD; exact wr_single _ d s z i _ _ b b2 wk (blk_cell bb 0) (blk_cell bb2 0)
theorem knd_28 (base : Nat) (w : World) (g b go : Nat) (hg : blk w g #[.int .i64 32] 3) (hb : blk w b #[.slice (some ⟨go, 0, none⟩) 1 1] 22) (hgo : blk w go #[.int .u8 153] 5) (lg : base ≤ g) (lb : base ≤ b) (lgo : base ≤ go) : Knd base w (.agg #[.func (.func 247) #[] #[], .slice (some ⟨g, 0, none⟩) 1 1, .func (.func 248) #[] #[.pointer (some ⟨b, 0, none⟩)]]) 28 := by
  refine ⟨247, 248, #[], #[.pointer (some ⟨b, 0, none⟩)], g, fun x => x = g ∨ x = b ∨ x = go, rfl, fun _ _ => by kernel_rfl, fun _ _ => by kernel_rfl, ?_, ?_⟩
  · rintro x (rfl | rfl | rfl)
    · exact ⟨lg, blk_lt hg⟩
    · exact ⟨lb, blk_lt hb⟩
    · exact ⟨lgo, blk_lt hgo⟩
  · intro wk hs hT
    have kg := hT g (.inl rfl)
    have bg : blk wk g #[.int .i64 32] 3 := by unfold blk at hg ⊢; rw [kg]; exact hg
    have kb := hT b (.inr (.inl rfl))
    have bb : blk wk b #[.slice (some ⟨go, 0, none⟩) 1 1] 22 := by unfold blk at hb ⊢; rw [kb]; exact hb
    have kgo := hT go (.inr (.inr (rfl)))
    have bgo : blk wk go #[.int .u8 153] 5 := by unfold blk at hgo ⊢; rw [kgo]; exact hgo
    refine ⟨ints_blk (xs := [32]) bg rfl (by decide), fun x hx hz => ?_, fun x hx hok => ?_⟩
    · obtain ⟨o, d, s, z, i⟩ := x
      simp only at hx
      subst hx
      exact fit_bare 28 d s z i wk
    · have hf := ok_fit hok
      have hz := ok_sz hok
      clear hok
      obtain ⟨o, d, s, z, i⟩ := x
      simp only at hx
      subst hx
      exact wr_bare 28 d s z i _ [153] b wk (blk_cell bb 0) (ints_blk (xs := [153]) bgo rfl (by decide)) (by decide) (by decide)
theorem knd_29 (base : Nat) (w : World) (g : Nat) (hg : blk w g #[.int .i64 32] 3) (lg : base ≤ g) : Knd base w (.agg #[.func (.func 219) #[] #[], .slice (some ⟨g, 0, none⟩) 1 1, .func (.func 221) #[] #[]]) 29 := by
  refine ⟨219, 221, #[], #[], g, fun x => x = g, rfl, fun _ _ => by kernel_rfl, fun _ _ => by kernel_rfl, ?_, ?_⟩
  · rintro x rfl
    exact ⟨lg, blk_lt hg⟩
  · intro wk hs hT
    have kg := hT g (rfl)
    have bg : blk wk g #[.int .i64 32] 3 := by unfold blk at hg ⊢; rw [kg]; exact hg
    refine ⟨ints_blk (xs := [32]) bg rfl (by decide), fun x hx hz => ?_, fun x hx hok => ?_⟩
    · obtain ⟨o, d, s, z, i⟩ := x
      simp only at hx
      subst hx
      exact fit_set 29 d s z i wk
    · have hf := ok_fit hok
      have hz := ok_sz hok
      clear hok
      obtain ⟨o, d, s, z, i⟩ := x
      simp only at hx
      subst hx
      simp [fitI, fitJ, isR, isM, isL, isC, isB, isW4] at hf
      exact wr_set 29 d s z i wk (by omega) (by omega)
theorem knd_30 (base : Nat) (w : World) (g : Nat) (hg : blk w g #[.int .i64 32] 3) (lg : base ≤ g) : Knd base w (.agg #[.func (.func 222) #[] #[], .slice (some ⟨g, 0, none⟩) 1 1, .func (.func 223) #[] #[]]) 30 := by
  refine ⟨222, 223, #[], #[], g, fun x => x = g, rfl, fun _ _ => by kernel_rfl, fun _ _ => by kernel_rfl, ?_, ?_⟩
  · rintro x rfl
    exact ⟨lg, blk_lt hg⟩
  · intro wk hs hT
    have kg := hT g (rfl)
    have bg : blk wk g #[.int .i64 32] 3 := by unfold blk at hg ⊢; rw [kg]; exact hg
    refine ⟨ints_blk (xs := [32]) bg rfl (by decide), fun x hx hz => ?_, fun x hx hok => ?_⟩
    · obtain ⟨o, d, s, z, i⟩ := x
      simp only at hx
      subst hx
      exact fit_zero 30 d s z i wk
    · have hf := ok_fit hok
      have hz := ok_sz hok
      clear hok
      obtain ⟨o, d, s, z, i⟩ := x
      simp only at hx
      subst hx
      simp [fitI, fitJ, isR, isM, isL, isC, isB, isW4] at hf
      exact wr_zero 30 d s z i wk
theorem knd_31 (base : Nat) (w : World) (g : Nat) (hg : blk w g #[.int .i64 32] 3) (lg : base ≤ g) : Knd base w (.agg #[.func (.func 224) #[] #[], .slice (some ⟨g, 0, none⟩) 1 1, .func (.func 225) #[] #[]]) 31 := by
  refine ⟨224, 225, #[], #[], g, fun x => x = g, rfl, fun _ _ => by kernel_rfl, fun _ _ => by kernel_rfl, ?_, ?_⟩
  · rintro x rfl
    exact ⟨lg, blk_lt hg⟩
  · intro wk hs hT
    have kg := hT g (rfl)
    have bg : blk wk g #[.int .i64 32] 3 := by unfold blk at hg ⊢; rw [kg]; exact hg
    refine ⟨ints_blk (xs := [32]) bg rfl (by decide), fun x hx hz => ?_, fun x hx hok => ?_⟩
    · obtain ⟨o, d, s, z, i⟩ := x
      simp only at hx
      subst hx
      exact fit_cmov 31 d s z i wk
    · have hf := ok_fit hok
      have hz := ok_sz hok
      clear hok
      obtain ⟨o, d, s, z, i⟩ := x
      simp only at hx
      subst hx
      simp [fitI, fitJ, isR, isM, isL, isC, isB, isW4] at hf
      exact wr_cmov 31 d s z i wk (by omega) (by omega)
theorem knd_32 (base : Nat) (w : World) (g b1 b2 b3 : Nat) (hg : blk w g #[.int .i64 8, .int .i64 32] 3) (hb1 : blk w b1 #[.func (.func 227) #[] #[]] 208) (hb2 : blk w b2 #[.func (.func 228) #[] #[]] 208) (hb3 : blk w b3 #[.func (.func 229) #[] #[]] 235) (lg : base ≤ g) (lb1 : base ≤ b1) (lb2 : base ≤ b2) (lb3 : base ≤ b3) : Knd base w (.agg #[.func (.func 249) #[] #[.pointer (some ⟨b3, 0, none⟩)], .slice (some ⟨g, 0, none⟩) 2 2, .func (.func 250) #[] #[.pointer (some ⟨b1, 0, none⟩), .pointer (some ⟨b2, 0, none⟩)]]) 32 := by
  refine ⟨249, 250, #[.pointer (some ⟨b3, 0, none⟩)], #[.pointer (some ⟨b1, 0, none⟩), .pointer (some ⟨b2, 0, none⟩)], g, fun x => x = g ∨ x = b1 ∨ x = b2 ∨ x = b3, rfl, fun _ _ => by kernel_rfl, fun _ _ => by kernel_rfl, ?_, ?_⟩
  · rintro x (rfl | rfl | rfl | rfl)
    · exact ⟨lg, blk_lt hg⟩
    · exact ⟨lb1, blk_lt hb1⟩
    · exact ⟨lb2, blk_lt hb2⟩
    · exact ⟨lb3, blk_lt hb3⟩
  · intro wk hs hT
    have kg := hT g (.inl rfl)
    have bg : blk wk g #[.int .i64 8, .int .i64 32] 3 := by unfold blk at hg ⊢; rw [kg]; exact hg
    have kb1 := hT b1 (.inr (.inl rfl))
    have bb1 : blk wk b1 #[.func (.func 227) #[] #[]] 208 := by unfold blk at hb1 ⊢; rw [kb1]; exact hb1
    have kb2 := hT b2 (.inr (.inr (.inl rfl)))
    have bb2 : blk wk b2 #[.func (.func 228) #[] #[]] 208 := by unfold blk at hb2 ⊢; rw [kb2]; exact hb2
    have kb3 := hT b3 (.inr (.inr (.inr (rfl))))
    have bb3 : blk wk b3 #[.func (.func 229) #[] #[]] 235 := by unfold blk at hb3 ⊢; rw [kb3]; exact hb3
    refine ⟨ints_blk (xs := [8, 32]) bg rfl (by decide), fun x hx hz => ?_, fun x hx hok => ?_⟩
    · obtain ⟨o, d, s, z, i⟩ := x
      simp only at hx
      subst hx
      simp [szI] at hz
      rcases hz with rfl | rfl
      · have h := fit_jumpC_8 32 d s i b3 wk (blk_cell bb3 0)
        rw [show ((d == 0) && ((isC s) && isB i)) = fitI ⟨32, d, s, 8, i⟩ by simp [fitI, fitJ]] at h
        exact h
      · have h := fit_jumpC_32 32 d s i b3 wk (blk_cell bb3 0)
        rw [show ((d == 0) && ((isC s) && isW4 i)) = fitI ⟨32, d, s, 32, i⟩ by simp [fitI, fitJ]] at h
        exact h
    · have hf := ok_fit hok
      have hz := ok_sz hok
      clear hok
      obtain ⟨o, d, s, z, i⟩ := x
      simp only at hx
      subst hx
      simp [szI] at hz
      simp [fitI, fitJ, isR, isM, isL, isC, isB, isW4] at hf
      rcases hz with rfl | rfl
      · exact wr_jumpC_8 32 d s i b1 b2 wk (blk_cell bb1 0) (blk_cell bb2 0) (by omega) (by omega)
      · exact wr_jumpC_32 32 d s i b1 b2 wk (blk_cell bb1 0) (blk_cell bb2 0) (by omega) (by omega) ⟨by omega, by omega⟩
theorem knd_33 (base : Nat) (w : World) (g b1 b2 b3 : Nat) (hg : blk w g #[.int .i64 8, .int .i64 32] 3) (hb1 : blk w b1 #[.func (.func 230) #[] #[]] 208) (hb2 : blk w b2 #[.func (.func 231) #[] #[]] 208) (hb3 : blk w b3 #[.func (.func 232) #[] #[]] 235) (lg : base ≤ g) (lb1 : base ≤ b1) (lb2 : base ≤ b2) (lb3 : base ≤ b3) : Knd base w (.agg #[.func (.func 249) #[] #[.pointer (some ⟨b3, 0, none⟩)], .slice (some ⟨g, 0, none⟩) 2 2, .func (.func 250) #[] #[.pointer (some ⟨b1, 0, none⟩), .pointer (some ⟨b2, 0, none⟩)]]) 33 := by
  refine ⟨249, 250, #[.pointer (some ⟨b3, 0, none⟩)], #[.pointer (some ⟨b1, 0, none⟩), .pointer (some ⟨b2, 0, none⟩)], g, fun x => x = g ∨ x = b1 ∨ x = b2 ∨ x = b3, rfl, fun _ _ => by kernel_rfl, fun _ _ => by kernel_rfl, ?_, ?_⟩
  · rintro x (rfl | rfl | rfl | rfl)
    · exact ⟨lg, blk_lt hg⟩
    · exact ⟨lb1, blk_lt hb1⟩
    · exact ⟨lb2, blk_lt hb2⟩
    · exact ⟨lb3, blk_lt hb3⟩
  · intro wk hs hT
    have kg := hT g (.inl rfl)
    have bg : blk wk g #[.int .i64 8, .int .i64 32] 3 := by unfold blk at hg ⊢; rw [kg]; exact hg
    have kb1 := hT b1 (.inr (.inl rfl))
    have bb1 : blk wk b1 #[.func (.func 230) #[] #[]] 208 := by unfold blk at hb1 ⊢; rw [kb1]; exact hb1
    have kb2 := hT b2 (.inr (.inr (.inl rfl)))
    have bb2 : blk wk b2 #[.func (.func 231) #[] #[]] 208 := by unfold blk at hb2 ⊢; rw [kb2]; exact hb2
    have kb3 := hT b3 (.inr (.inr (.inr (rfl))))
    have bb3 : blk wk b3 #[.func (.func 232) #[] #[]] 235 := by unfold blk at hb3 ⊢; rw [kb3]; exact hb3
    refine ⟨ints_blk (xs := [8, 32]) bg rfl (by decide), fun x hx hz => ?_, fun x hx hok => ?_⟩
    · obtain ⟨o, d, s, z, i⟩ := x
      simp only at hx
      subst hx
      simp [szI] at hz
      rcases hz with rfl | rfl
      · have h := fit_jumpJ_8 33 d s i b3 wk (blk_cell bb3 0)
        rw [show ((d == 0) && ((s == 0) && isB i)) = fitI ⟨33, d, s, 8, i⟩ by simp [fitI, fitJ]] at h
        exact h
      · have h := fit_jumpJ_32 33 d s i b3 wk (blk_cell bb3 0)
        rw [show ((d == 0) && ((s == 0) && isW4 i)) = fitI ⟨33, d, s, 32, i⟩ by simp [fitI, fitJ]] at h
        exact h
    · have hf := ok_fit hok
      have hz := ok_sz hok
      clear hok
      obtain ⟨o, d, s, z, i⟩ := x
      simp only at hx
      subst hx
      simp [szI] at hz
      simp [fitI, fitJ, isR, isM, isL, isC, isB, isW4] at hf
      rcases hz with rfl | rfl
      · exact wr_jumpJ_8 33 d s i b1 b2 wk (blk_cell bb1 0) (blk_cell bb2 0)
      · exact wr_jumpJ_32 33 d s i b1 b2 wk (blk_cell bb1 0) (blk_cell bb2 0) ⟨by omega, by omega⟩
theorem knd_34 (base : Nat) (w : World) (g b go : Nat) (hg : blk w g #[.int .i64 32] 3) (hb : blk w b #[.slice (some ⟨go, 0, none⟩) 1 1] 22) (hgo : blk w go #[.int .u8 244] 5) (lg : base ≤ g) (lb : base ≤ b) (lgo : base ≤ go) : Knd base w (.agg #[.func (.func 247) #[] #[], .slice (some ⟨g, 0, none⟩) 1 1, .func (.func 248) #[] #[.pointer (some ⟨b, 0, none⟩)]]) 34 := by
  refine ⟨247, 248, #[], #[.pointer (some ⟨b, 0, none⟩)], g, fun x => x = g ∨ x = b ∨ x = go, rfl, fun _ _ => by kernel_rfl, fun _ _ => by kernel_rfl, ?_, ?_⟩
  · rintro x (rfl | rfl | rfl)
    · exact ⟨lg, blk_lt hg⟩
    · exact ⟨lb, blk_lt hb⟩
    · exact ⟨lgo, blk_lt hgo⟩
  · intro wk hs hT
    have kg := hT g (.inl rfl)
    have bg : blk wk g #[.int .i64 32] 3 := by unfold blk at hg ⊢; rw [kg]; exact hg
    have kb := hT b (.inr (.inl rfl))
    have bb : blk wk b #[.slice (some ⟨go, 0, none⟩) 1 1] 22 := by unfold blk at hb ⊢; rw [kb]; exact hb
    have kgo := hT go (.inr (.inr (rfl)))
    have bgo : blk wk go #[.int .u8 244] 5 := by unfold blk at hgo ⊢; rw [kgo]; exact hgo
    refine ⟨ints_blk (xs := [32]) bg rfl (by decide), fun x hx hz => ?_, fun x hx hok => ?_⟩
    · obtain ⟨o, d, s, z, i⟩ := x
      simp only at hx
      subst hx
      exact fit_bare 34 d s z i wk
    · have hf := ok_fit hok
      have hz := ok_sz hok
      clear hok
      obtain ⟨o, d, s, z, i⟩ := x
      simp only at hx
      subst hx
      exact wr_bare 34 d s z i _ [244] b wk (blk_cell bb 0) (ints_blk (xs := [244]) bgo rfl (by decide)) (by decide) (by decide)
theorem knd_35 (base : Nat) (w : World) (g b go : Nat) (hg : blk w g #[.int .i64 32] 3) (hb : blk w b #[.slice (some ⟨go, 0, none⟩) 2 2] 22) (hgo : blk w go #[.int .u8 15, .int .u8 11] 5) (lg : base ≤ g) (lb : base ≤ b) (lgo : base ≤ go) : Knd base w (.agg #[.func (.func 247) #[] #[], .slice (some ⟨g, 0, none⟩) 1 1, .func (.func 248) #[] #[.pointer (some ⟨b, 0, none⟩)]]) 35 := by
  refine ⟨247, 248, #[], #[.pointer (some ⟨b, 0, none⟩)], g, fun x => x = g ∨ x = b ∨ x = go, rfl, fun _ _ => by kernel_rfl, fun _ _ => by kernel_rfl, ?_, ?_⟩
  · rintro x (rfl | rfl | rfl)
    · exact ⟨lg, blk_lt hg⟩
    · exact ⟨lb, blk_lt hb⟩
    · exact ⟨lgo, blk_lt hgo⟩
  · intro wk hs hT
    have kg := hT g (.inl rfl)
    have bg : blk wk g #[.int .i64 32] 3 := by unfold blk at hg ⊢; rw [kg]; exact hg
    have kb := hT b (.inr (.inl rfl))
    have bb : blk wk b #[.slice (some ⟨go, 0, none⟩) 2 2] 22 := by unfold blk at hb ⊢; rw [kb]; exact hb
    have kgo := hT go (.inr (.inr (rfl)))
    have bgo : blk wk go #[.int .u8 15, .int .u8 11] 5 := by unfold blk at hgo ⊢; rw [kgo]; exact hgo
    refine ⟨ints_blk (xs := [32]) bg rfl (by decide), fun x hx hz => ?_, fun x hx hok => ?_⟩
    · obtain ⟨o, d, s, z, i⟩ := x
      simp only at hx
      subst hx
      exact fit_bare 35 d s z i wk
    · have hf := ok_fit hok
      have hz := ok_sz hok
      clear hok
      obtain ⟨o, d, s, z, i⟩ := x
      simp only at hx
      subst hx
      exact wr_bare 35 d s z i _ [15, 11] b wk (blk_cell bb 0) (ints_blk (xs := [15, 11]) bgo rfl (by decide)) (by decide) (by decide)
theorem knd_36 (base : Nat) (w : World) (g b go : Nat) (hg : blk w g #[.int .i64 32] 3) (hb : blk w b #[.slice (some ⟨go, 0, none⟩) 1 1] 22) (hgo : blk w go #[.int .u8 144] 5) (lg : base ≤ g) (lb : base ≤ b) (lgo : base ≤ go) : Knd base w (.agg #[.func (.func 247) #[] #[], .slice (some ⟨g, 0, none⟩) 1 1, .func (.func 248) #[] #[.pointer (some ⟨b, 0, none⟩)]]) 36 := by
  refine ⟨247, 248, #[], #[.pointer (some ⟨b, 0, none⟩)], g, fun x => x = g ∨ x = b ∨ x = go, rfl, fun _ _ => by kernel_rfl, fun _ _ => by kernel_rfl, ?_, ?_⟩
  · rintro x (rfl | rfl | rfl)
    · exact ⟨lg, blk_lt hg⟩
    · exact ⟨lb, blk_lt hb⟩
    · exact ⟨lgo, blk_lt hgo⟩
  · intro wk hs hT
    have kg := hT g (.inl rfl)
    have bg : blk wk g #[.int .i64 32] 3 := by unfold blk at hg ⊢; rw [kg]; exact hg
    have kb := hT b (.inr (.inl rfl))
    have bb : blk wk b #[.slice (some ⟨go, 0, none⟩) 1 1] 22 := by unfold blk at hb ⊢; rw [kb]; exact hb
    have kgo := hT go (.inr (.inr (rfl)))
    have bgo : blk wk go #[.int .u8 144] 5 := by unfold blk at hgo ⊢; rw [kgo]; exact hgo
    refine ⟨ints_blk (xs := [32]) bg rfl (by decide), fun x hx hz => ?_, fun x hx hok => ?_⟩
    · obtain ⟨o, d, s, z, i⟩ := x
      simp only at hx
      subst hx
      exact fit_bare 36 d s z i wk
    · have hf := ok_fit hok
      have hz := ok_sz hok
      clear hok
      obtain ⟨o, d, s, z, i⟩ := x
      simp only at hx
      subst hx
      exact wr_bare 36 d s z i _ [144] b wk (blk_cell bb 0) (ints_blk (xs := [144]) bgo rfl (by decide)) (by decide) (by decide)
end Go.Proofs.YtaegpeofecdhfaaGreat
