/- Breaks: operations bit by bit, and with a rest -/
import Derived.Test.YtpgbepgbgpjmcaaBg
import Derived.Test.YtpgbepgbgpjmcaaBp
import Derived.BigQuiet
namespace Go.Proofs.Ytpgbepgbgpjmcaa
open Go.RowKit Wd
set_option linter.unusedVariables false
set_option linter.unusedSimpArgs false
set_option maxRecDepth 100000 in
set_option maxHeartbeats 16000000 in
theorem pBreaks_5 (fl n a b : Int) (w : World) (g : good 5 n a b = true) (h3 : 0 ≤ a) (h5 : 0 ≤ b) (f7 : 0 ≤ fl) (f8 : fl ≤ 7) : Calls Try.prog 28 #[.int .i64 5, .int .i64 fl, .int .i64 n, .int .u32 a, .int .u32 b] w fun e w' => e = .returned (.tuple #[.bool (has 5 n a b && brk 5 fl n a b), .int .i64 0]) ∧ Below w.heap.size w w' := by
  have ew : ∀ w, (binOp .eql 56 (.nilFunc) .nilFunc).run Try.prog w = .ok (.bool true) w := fun _ => by kernel_rfl
  have el : ∀ w, (binOp .neq 57 (.nilFunc) .nilFunc).run Try.prog w = .ok (.bool false) w := fun _ => by kernel_rfl
  obtain ⟨_, _, h1, h2, h4, h6⟩ := (good_iff _ _ _ _).1 g
  obtain ⟨m, rfl⟩ := Int.eq_ofNat_of_zero_le (show 0 ≤ n by omega)
  have hp := @pw_le32 (m : Int) (by omega)
  have hp0 := pw_pos (m : Int)
  have hw : isW m = true := by simp [isW]; omega
  have fa : fit m a = true := by simp [fit, h4]
  have fb : fit m b = true := by simp [fit, h6]
  obtain ⟨k1, k2, k4⟩ := and_fl fl f7 f8
  have u1 : decide (fl < 0) = false := by simp; omega
  have u2 : decide (7 < fl) = false := by simp; omega
  have hB : brk 5 fl m a b = false := rfl
  have hv : (has 5 m a b && brk 5 fl m a b) = false := by rw [hB, Bool.and_false]
  rw [hv]
  clear hv hB
  rcases (Bool.eq_false_or_eq_true (has 5 m a b)).symm with hh | hh
  · cases e2 : f2 fl
    · have j2 : (bits .and .i64 fl 4 != 0) = false := k4.trans e2
      clear k1 k2 k4 g
      go_enter Try.func28, Try.ntmps28
      go_wp2_with (first | (go_at_call 36; refine (asked_n 5 _ _ _ 4 63 (fun _ => #[]) _ (fun _ => rfl)).mono ?_; rintro e w1 ⟨h, rfl, ⟨m3, m4, c1, c2, c3, c8, c9, c10⟩, hb1⟩) | (go_at_call 63; refine (pdo_5 _ _ _ _ (by assumption) (by assumption) (by assumption) (by assumption) (by assumption) (by assumption)).mono ?_; rintro e w2 ⟨rfl, hd1⟩; have z1 : w2.cell? ⟨w1.heap.size, 1, none⟩ = some (.nilFunc) := (by obtain ⟨d1, rfl⟩ := hd1; simp [go_sem]); have z2 : w2.cell? ⟨w1.heap.size, 2, none⟩ = some (.nilFunc) := (by obtain ⟨d1, rfl⟩ := hd1; simp [go_sem])))
      go_ret2
      exact ⟨rfl, ((hb1.trans ((Below.refl _ _).alloc hb1.size _)).trans (hd1.below _))⟩
    · have j2 : (bits .and .i64 fl 4 != 0) = true := k4.trans e2
      clear k1 k2 k4 g
      go_enter Try.func28, Try.ntmps28
      go_wp2_with (first | (go_at_call 36; refine (asked_n 5 _ _ _ 4 63 (fun _ => #[]) _ (fun _ => rfl)).mono ?_; rintro e w1 ⟨h, rfl, ⟨m3, m4, c1, c2, c3, c8, c9, c10⟩, hb1⟩) | (go_at_call 63; refine (pdo_5 _ _ _ _ (by assumption) (by assumption) (by assumption) (by assumption) (by assumption) (by assumption)).mono ?_; rintro e w2 ⟨rfl, hd1⟩; have z1 : w2.cell? ⟨w1.heap.size, 1, none⟩ = some (.nilFunc) := (by obtain ⟨d1, rfl⟩ := hd1; simp [go_sem]); have z2 : w2.cell? ⟨w1.heap.size, 2, none⟩ = some (.nilFunc) := (by obtain ⟨d1, rfl⟩ := hd1; simp [go_sem])))
      go_ret2
      exact ⟨rfl, ((hb1.trans ((Below.refl _ _).alloc hb1.size _)).trans (hd1.below _))⟩
  · cases e2 : f2 fl
    · have j2 : (bits .and .i64 fl 4 != 0) = false := k4.trans e2
      clear k1 k2 k4 g
      go_enter Try.func28, Try.ntmps28
      go_wp2_with (first | (go_at_call 36; refine (asked_n 5 _ _ _ 4 63 (fun _ => #[]) _ (fun _ => rfl)).mono ?_; rintro e w1 ⟨h, rfl, ⟨m3, m4, c1, c2, c3, c8, c9, c10⟩, hb1⟩) | (go_at_call 63; refine (pdo_5 _ _ _ _ (by assumption) (by assumption) (by assumption) (by assumption) (by assumption) (by assumption)).mono ?_; rintro e w2 ⟨rfl, hd1⟩; have z1 : w2.cell? ⟨w1.heap.size, 1, none⟩ = some (.nilFunc) := (by obtain ⟨d1, rfl⟩ := hd1; simp [go_sem]); have z2 : w2.cell? ⟨w1.heap.size, 2, none⟩ = some (.nilFunc) := (by obtain ⟨d1, rfl⟩ := hd1; simp [go_sem])))
      go_ret2
      exact ⟨rfl, ((hb1.trans ((Below.refl _ _).alloc hb1.size _)).trans (hd1.below _))⟩
    · have j2 : (bits .and .i64 fl 4 != 0) = true := k4.trans e2
      clear k1 k2 k4 g
      go_enter Try.func28, Try.ntmps28
      go_wp2_with (first | (go_at_call 36; refine (asked_n 5 _ _ _ 4 63 (fun _ => #[]) _ (fun _ => rfl)).mono ?_; rintro e w1 ⟨h, rfl, ⟨m3, m4, c1, c2, c3, c8, c9, c10⟩, hb1⟩) | (go_at_call 63; refine (pdo_5 _ _ _ _ (by assumption) (by assumption) (by assumption) (by assumption) (by assumption) (by assumption)).mono ?_; rintro e w2 ⟨rfl, hd1⟩; have z1 : w2.cell? ⟨w1.heap.size, 1, none⟩ = some (.nilFunc) := (by obtain ⟨d1, rfl⟩ := hd1; simp [go_sem]); have z2 : w2.cell? ⟨w1.heap.size, 2, none⟩ = some (.nilFunc) := (by obtain ⟨d1, rfl⟩ := hd1; simp [go_sem])))
      go_ret2
      exact ⟨rfl, ((hb1.trans ((Below.refl _ _).alloc hb1.size _)).trans (hd1.below _))⟩

set_option maxRecDepth 100000 in
set_option maxHeartbeats 16000000 in
theorem pBreaks_7 (fl n a b : Int) (w : World) (g : good 7 n a b = true) (h3 : 0 ≤ a) (h5 : 0 ≤ b) (f7 : 0 ≤ fl) (f8 : fl ≤ 7) : Calls Try.prog 28 #[.int .i64 7, .int .i64 fl, .int .i64 n, .int .u32 a, .int .u32 b] w fun e w' => e = .returned (.tuple #[.bool (has 7 n a b && brk 7 fl n a b), .int .i64 0]) ∧ Below w.heap.size w w' := by
  have ew : ∀ w, (binOp .eql 56 (.nilFunc) .nilFunc).run Try.prog w = .ok (.bool true) w := fun _ => by kernel_rfl
  have el : ∀ w, (binOp .neq 57 (.nilFunc) .nilFunc).run Try.prog w = .ok (.bool false) w := fun _ => by kernel_rfl
  obtain ⟨_, _, h1, h2, h4, h6⟩ := (good_iff _ _ _ _).1 g
  obtain ⟨m, rfl⟩ := Int.eq_ofNat_of_zero_le (show 0 ≤ n by omega)
  have hp := @pw_le32 (m : Int) (by omega)
  have hp0 := pw_pos (m : Int)
  have hw : isW m = true := by simp [isW]; omega
  have fa : fit m a = true := by simp [fit, h4]
  have fb : fit m b = true := by simp [fit, h6]
  obtain ⟨k1, k2, k4⟩ := and_fl fl f7 f8
  have u1 : decide (fl < 0) = false := by simp; omega
  have u2 : decide (7 < fl) = false := by simp; omega
  have hB : brk 7 fl m a b = false := rfl
  have hv : (has 7 m a b && brk 7 fl m a b) = false := by rw [hB, Bool.and_false]
  rw [hv]
  clear hv hB
  rcases (Bool.eq_false_or_eq_true (has 7 m a b)).symm with hh | hh
  · cases e2 : f2 fl
    · have j2 : (bits .and .i64 fl 4 != 0) = false := k4.trans e2
      clear k1 k2 k4 g
      go_enter Try.func28, Try.ntmps28
      go_wp2_with (first | (go_at_call 36; refine (asked_n 7 _ _ _ 6 67 (fun _ => #[]) _ (fun _ => rfl)).mono ?_; rintro e w1 ⟨h, rfl, ⟨m3, m4, c1, c2, c3, c8, c9, c10⟩, hb1⟩) | (go_at_call 67; refine (pdo_7 _ _ _ _ (by assumption) (by assumption) (by assumption) (by assumption) (by assumption) (by assumption)).mono ?_; rintro e w2 ⟨rfl, hd1⟩; have z1 : w2.cell? ⟨w1.heap.size, 1, none⟩ = some (.nilFunc) := (by obtain ⟨d1, rfl⟩ := hd1; simp [go_sem]); have z2 : w2.cell? ⟨w1.heap.size, 2, none⟩ = some (.nilFunc) := (by obtain ⟨d1, rfl⟩ := hd1; simp [go_sem])))
      go_ret2
      exact ⟨rfl, ((hb1.trans ((Below.refl _ _).alloc hb1.size _)).trans (hd1.below _))⟩
    · have j2 : (bits .and .i64 fl 4 != 0) = true := k4.trans e2
      clear k1 k2 k4 g
      go_enter Try.func28, Try.ntmps28
      go_wp2_with (first | (go_at_call 36; refine (asked_n 7 _ _ _ 6 67 (fun _ => #[]) _ (fun _ => rfl)).mono ?_; rintro e w1 ⟨h, rfl, ⟨m3, m4, c1, c2, c3, c8, c9, c10⟩, hb1⟩) | (go_at_call 67; refine (pdo_7 _ _ _ _ (by assumption) (by assumption) (by assumption) (by assumption) (by assumption) (by assumption)).mono ?_; rintro e w2 ⟨rfl, hd1⟩; have z1 : w2.cell? ⟨w1.heap.size, 1, none⟩ = some (.nilFunc) := (by obtain ⟨d1, rfl⟩ := hd1; simp [go_sem]); have z2 : w2.cell? ⟨w1.heap.size, 2, none⟩ = some (.nilFunc) := (by obtain ⟨d1, rfl⟩ := hd1; simp [go_sem])))
      go_ret2
      exact ⟨rfl, ((hb1.trans ((Below.refl _ _).alloc hb1.size _)).trans (hd1.below _))⟩
  · cases e2 : f2 fl
    · have j2 : (bits .and .i64 fl 4 != 0) = false := k4.trans e2
      clear k1 k2 k4 g
      go_enter Try.func28, Try.ntmps28
      go_wp2_with (first | (go_at_call 36; refine (asked_n 7 _ _ _ 6 67 (fun _ => #[]) _ (fun _ => rfl)).mono ?_; rintro e w1 ⟨h, rfl, ⟨m3, m4, c1, c2, c3, c8, c9, c10⟩, hb1⟩) | (go_at_call 67; refine (pdo_7 _ _ _ _ (by assumption) (by assumption) (by assumption) (by assumption) (by assumption) (by assumption)).mono ?_; rintro e w2 ⟨rfl, hd1⟩; have z1 : w2.cell? ⟨w1.heap.size, 1, none⟩ = some (.nilFunc) := (by obtain ⟨d1, rfl⟩ := hd1; simp [go_sem]); have z2 : w2.cell? ⟨w1.heap.size, 2, none⟩ = some (.nilFunc) := (by obtain ⟨d1, rfl⟩ := hd1; simp [go_sem])))
      go_ret2
      exact ⟨rfl, ((hb1.trans ((Below.refl _ _).alloc hb1.size _)).trans (hd1.below _))⟩
    · have j2 : (bits .and .i64 fl 4 != 0) = true := k4.trans e2
      clear k1 k2 k4 g
      go_enter Try.func28, Try.ntmps28
      go_wp2_with (first | (go_at_call 36; refine (asked_n 7 _ _ _ 6 67 (fun _ => #[]) _ (fun _ => rfl)).mono ?_; rintro e w1 ⟨h, rfl, ⟨m3, m4, c1, c2, c3, c8, c9, c10⟩, hb1⟩) | (go_at_call 67; refine (pdo_7 _ _ _ _ (by assumption) (by assumption) (by assumption) (by assumption) (by assumption) (by assumption)).mono ?_; rintro e w2 ⟨rfl, hd1⟩; have z1 : w2.cell? ⟨w1.heap.size, 1, none⟩ = some (.nilFunc) := (by obtain ⟨d1, rfl⟩ := hd1; simp [go_sem]); have z2 : w2.cell? ⟨w1.heap.size, 2, none⟩ = some (.nilFunc) := (by obtain ⟨d1, rfl⟩ := hd1; simp [go_sem])))
      go_ret2
      exact ⟨rfl, ((hb1.trans ((Below.refl _ _).alloc hb1.size _)).trans (hd1.below _))⟩

set_option maxRecDepth 100000 in
set_option maxHeartbeats 16000000 in
theorem pBreaks_8 (fl n a b : Int) (w : World) (g : good 8 n a b = true) (h3 : 0 ≤ a) (h5 : 0 ≤ b) (f7 : 0 ≤ fl) (f8 : fl ≤ 7) : Calls Try.prog 28 #[.int .i64 8, .int .i64 fl, .int .i64 n, .int .u32 a, .int .u32 b] w fun e w' => e = .returned (.tuple #[.bool (has 8 n a b && brk 8 fl n a b), .int .i64 0]) ∧ Below w.heap.size w w' := by
  have ew : ∀ w, (binOp .eql 56 (.nilFunc) .nilFunc).run Try.prog w = .ok (.bool true) w := fun _ => by kernel_rfl
  have el : ∀ w, (binOp .neq 57 (.nilFunc) .nilFunc).run Try.prog w = .ok (.bool false) w := fun _ => by kernel_rfl
  obtain ⟨_, _, h1, h2, h4, h6⟩ := (good_iff _ _ _ _).1 g
  obtain ⟨m, rfl⟩ := Int.eq_ofNat_of_zero_le (show 0 ≤ n by omega)
  have hp := @pw_le32 (m : Int) (by omega)
  have hp0 := pw_pos (m : Int)
  have hw : isW m = true := by simp [isW]; omega
  have fa : fit m a = true := by simp [fit, h4]
  have fb : fit m b = true := by simp [fit, h6]
  obtain ⟨k1, k2, k4⟩ := and_fl fl f7 f8
  have u1 : decide (fl < 0) = false := by simp; omega
  have u2 : decide (7 < fl) = false := by simp; omega
  have hB : brk 8 fl m a b = false := rfl
  have hv : (has 8 m a b && brk 8 fl m a b) = false := by rw [hB, Bool.and_false]
  rw [hv]
  clear hv hB
  have hh : has 8 m a b = true := rfl
  cases e2 : f2 fl
  · have j2 : (bits .and .i64 fl 4 != 0) = false := k4.trans e2
    clear k1 k2 k4 g
    go_enter Try.func28, Try.ntmps28
    go_wp2_with (first | (go_at_call 36; refine (asked_n 8 _ _ _ 7 81 (fun h => #[.pointer (some ⟨h + 7, 0, none⟩)]) _ (fun _ => rfl)).mono ?_; rintro e w1 ⟨h, rfl, ⟨m3, m4, c1, c2, c3, c8, c9, c10⟩, hb1⟩) | (go_at_call 81; refine (pdo_8 _ _ _ _ (by assumption) (by assumption) (by assumption) (by assumption) (by assumption) (by assumption) (h + 7) (by have q : h + 7 < w1.heap.size := (by omega); simp [go_sem, *])).mono ?_; rintro e w2 ⟨rfl, hd1⟩; have z1 : w2.cell? ⟨w1.heap.size, 1, none⟩ = some (.nilFunc) := (by obtain ⟨d1, rfl⟩ := hd1; simp [go_sem]); have z2 : w2.cell? ⟨w1.heap.size, 2, none⟩ = some (.nilFunc) := (by obtain ⟨d1, rfl⟩ := hd1; simp [go_sem])))
    go_ret2
    exact ⟨rfl, ((hb1.trans ((Below.refl _ _).alloc hb1.size _)).trans (hd1.below _))⟩
  · have j2 : (bits .and .i64 fl 4 != 0) = true := k4.trans e2
    clear k1 k2 k4 g
    go_enter Try.func28, Try.ntmps28
    go_wp2_with (first | (go_at_call 36; refine (asked_n 8 _ _ _ 7 81 (fun h => #[.pointer (some ⟨h + 7, 0, none⟩)]) _ (fun _ => rfl)).mono ?_; rintro e w1 ⟨h, rfl, ⟨m3, m4, c1, c2, c3, c8, c9, c10⟩, hb1⟩) | (go_at_call 81; refine (pdo_8 _ _ _ _ (by assumption) (by assumption) (by assumption) (by assumption) (by assumption) (by assumption) (h + 7) (by have q : h + 7 < w1.heap.size := (by omega); simp [go_sem, *])).mono ?_; rintro e w2 ⟨rfl, hd1⟩; have z1 : w2.cell? ⟨w1.heap.size, 1, none⟩ = some (.nilFunc) := (by obtain ⟨d1, rfl⟩ := hd1; simp [go_sem]); have z2 : w2.cell? ⟨w1.heap.size, 2, none⟩ = some (.nilFunc) := (by obtain ⟨d1, rfl⟩ := hd1; simp [go_sem])))
    go_ret2
    exact ⟨rfl, ((hb1.trans ((Below.refl _ _).alloc hb1.size _)).trans (hd1.below _))⟩

set_option maxRecDepth 100000 in
set_option maxHeartbeats 16000000 in
theorem pBreaks_9 (fl n a b : Int) (w : World) (g : good 9 n a b = true) (h3 : 0 ≤ a) (h5 : 0 ≤ b) (f7 : 0 ≤ fl) (f8 : fl ≤ 7) : Calls Try.prog 28 #[.int .i64 9, .int .i64 fl, .int .i64 n, .int .u32 a, .int .u32 b] w fun e w' => e = .returned (.tuple #[.bool (has 9 n a b && brk 9 fl n a b), .int .i64 0]) ∧ Below w.heap.size w w' := by
  have ew : ∀ w, (binOp .eql 56 (.nilFunc) .nilFunc).run Try.prog w = .ok (.bool true) w := fun _ => by kernel_rfl
  have el : ∀ w, (binOp .neq 57 (.nilFunc) .nilFunc).run Try.prog w = .ok (.bool false) w := fun _ => by kernel_rfl
  obtain ⟨_, _, h1, h2, h4, h6⟩ := (good_iff _ _ _ _).1 g
  obtain ⟨m, rfl⟩ := Int.eq_ofNat_of_zero_le (show 0 ≤ n by omega)
  have hp := @pw_le32 (m : Int) (by omega)
  have hp0 := pw_pos (m : Int)
  have hw : isW m = true := by simp [isW]; omega
  have fa : fit m a = true := by simp [fit, h4]
  have fb : fit m b = true := by simp [fit, h6]
  obtain ⟨k1, k2, k4⟩ := and_fl fl f7 f8
  have u1 : decide (fl < 0) = false := by simp; omega
  have u2 : decide (7 < fl) = false := by simp; omega
  have hB : brk 9 fl m a b = false := rfl
  have hv : (has 9 m a b && brk 9 fl m a b) = false := by rw [hB, Bool.and_false]
  rw [hv]
  clear hv hB
  have hh : has 9 m a b = true := rfl
  cases e2 : f2 fl
  · have j2 : (bits .and .i64 fl 4 != 0) = false := k4.trans e2
    clear k1 k2 k4 g
    go_enter Try.func28, Try.ntmps28
    go_wp2_with (first | (go_at_call 36; refine (asked_n 9 _ _ _ 8 81 (fun h => #[.pointer (some ⟨h + 9, 0, none⟩)]) _ (fun _ => rfl)).mono ?_; rintro e w1 ⟨h, rfl, ⟨m3, m4, c1, c2, c3, c8, c9, c10⟩, hb1⟩) | (go_at_call 81; refine (pdo_9 _ _ _ _ (by assumption) (by assumption) (by assumption) (by assumption) (by assumption) (by assumption) (h + 9) (by have q : h + 9 < w1.heap.size := (by omega); simp [go_sem, *])).mono ?_; rintro e w2 ⟨rfl, hd1⟩; have z1 : w2.cell? ⟨w1.heap.size, 1, none⟩ = some (.nilFunc) := (by obtain ⟨d1, rfl⟩ := hd1; simp [go_sem]); have z2 : w2.cell? ⟨w1.heap.size, 2, none⟩ = some (.nilFunc) := (by obtain ⟨d1, rfl⟩ := hd1; simp [go_sem])))
    go_ret2
    exact ⟨rfl, ((hb1.trans ((Below.refl _ _).alloc hb1.size _)).trans (hd1.below _))⟩
  · have j2 : (bits .and .i64 fl 4 != 0) = true := k4.trans e2
    clear k1 k2 k4 g
    go_enter Try.func28, Try.ntmps28
    go_wp2_with (first | (go_at_call 36; refine (asked_n 9 _ _ _ 8 81 (fun h => #[.pointer (some ⟨h + 9, 0, none⟩)]) _ (fun _ => rfl)).mono ?_; rintro e w1 ⟨h, rfl, ⟨m3, m4, c1, c2, c3, c8, c9, c10⟩, hb1⟩) | (go_at_call 81; refine (pdo_9 _ _ _ _ (by assumption) (by assumption) (by assumption) (by assumption) (by assumption) (by assumption) (h + 9) (by have q : h + 9 < w1.heap.size := (by omega); simp [go_sem, *])).mono ?_; rintro e w2 ⟨rfl, hd1⟩; have z1 : w2.cell? ⟨w1.heap.size, 1, none⟩ = some (.nilFunc) := (by obtain ⟨d1, rfl⟩ := hd1; simp [go_sem]); have z2 : w2.cell? ⟨w1.heap.size, 2, none⟩ = some (.nilFunc) := (by obtain ⟨d1, rfl⟩ := hd1; simp [go_sem])))
    go_ret2
    exact ⟨rfl, ((hb1.trans ((Below.refl _ _).alloc hb1.size _)).trans (hd1.below _))⟩

set_option maxRecDepth 100000 in
set_option maxHeartbeats 16000000 in
theorem pBreaks_10 (fl n a b : Int) (w : World) (g : good 10 n a b = true) (h3 : 0 ≤ a) (h5 : 0 ≤ b) (f7 : 0 ≤ fl) (f8 : fl ≤ 7) : Calls Try.prog 28 #[.int .i64 10, .int .i64 fl, .int .i64 n, .int .u32 a, .int .u32 b] w fun e w' => e = .returned (.tuple #[.bool (has 10 n a b && brk 10 fl n a b), .int .i64 0]) ∧ Below w.heap.size w w' := by
  have ew : ∀ w, (binOp .eql 56 (.nilFunc) .nilFunc).run Try.prog w = .ok (.bool true) w := fun _ => by kernel_rfl
  have el : ∀ w, (binOp .neq 57 (.nilFunc) .nilFunc).run Try.prog w = .ok (.bool false) w := fun _ => by kernel_rfl
  obtain ⟨_, _, h1, h2, h4, h6⟩ := (good_iff _ _ _ _).1 g
  obtain ⟨m, rfl⟩ := Int.eq_ofNat_of_zero_le (show 0 ≤ n by omega)
  have hp := @pw_le32 (m : Int) (by omega)
  have hp0 := pw_pos (m : Int)
  have hw : isW m = true := by simp [isW]; omega
  have fa : fit m a = true := by simp [fit, h4]
  have fb : fit m b = true := by simp [fit, h6]
  obtain ⟨k1, k2, k4⟩ := and_fl fl f7 f8
  have u1 : decide (fl < 0) = false := by simp; omega
  have u2 : decide (7 < fl) = false := by simp; omega
  have hB : brk 10 fl m a b = false := rfl
  have hv : (has 10 m a b && brk 10 fl m a b) = false := by rw [hB, Bool.and_false]
  rw [hv]
  clear hv hB
  have hh : has 10 m a b = true := rfl
  cases e2 : f2 fl
  · have j2 : (bits .and .i64 fl 4 != 0) = false := k4.trans e2
    clear k1 k2 k4 g
    go_enter Try.func28, Try.ntmps28
    go_wp2_with (first | (go_at_call 36; refine (asked_n 10 _ _ _ 9 81 (fun h => #[.pointer (some ⟨h + 11, 0, none⟩)]) _ (fun _ => rfl)).mono ?_; rintro e w1 ⟨h, rfl, ⟨m3, m4, c1, c2, c3, c8, c9, c10⟩, hb1⟩) | (go_at_call 81; refine (pdo_10 _ _ _ _ (by assumption) (by assumption) (by assumption) (by assumption) (by assumption) (by assumption) (h + 11) (by have q : h + 11 < w1.heap.size := (by omega); simp [go_sem, *])).mono ?_; rintro e w2 ⟨rfl, hd1⟩; have z1 : w2.cell? ⟨w1.heap.size, 1, none⟩ = some (.nilFunc) := (by obtain ⟨d1, rfl⟩ := hd1; simp [go_sem]); have z2 : w2.cell? ⟨w1.heap.size, 2, none⟩ = some (.nilFunc) := (by obtain ⟨d1, rfl⟩ := hd1; simp [go_sem])))
    go_ret2
    exact ⟨rfl, ((hb1.trans ((Below.refl _ _).alloc hb1.size _)).trans (hd1.below _))⟩
  · have j2 : (bits .and .i64 fl 4 != 0) = true := k4.trans e2
    clear k1 k2 k4 g
    go_enter Try.func28, Try.ntmps28
    go_wp2_with (first | (go_at_call 36; refine (asked_n 10 _ _ _ 9 81 (fun h => #[.pointer (some ⟨h + 11, 0, none⟩)]) _ (fun _ => rfl)).mono ?_; rintro e w1 ⟨h, rfl, ⟨m3, m4, c1, c2, c3, c8, c9, c10⟩, hb1⟩) | (go_at_call 81; refine (pdo_10 _ _ _ _ (by assumption) (by assumption) (by assumption) (by assumption) (by assumption) (by assumption) (h + 11) (by have q : h + 11 < w1.heap.size := (by omega); simp [go_sem, *])).mono ?_; rintro e w2 ⟨rfl, hd1⟩; have z1 : w2.cell? ⟨w1.heap.size, 1, none⟩ = some (.nilFunc) := (by obtain ⟨d1, rfl⟩ := hd1; simp [go_sem]); have z2 : w2.cell? ⟨w1.heap.size, 2, none⟩ = some (.nilFunc) := (by obtain ⟨d1, rfl⟩ := hd1; simp [go_sem])))
    go_ret2
    exact ⟨rfl, ((hb1.trans ((Below.refl _ _).alloc hb1.size _)).trans (hd1.below _))⟩

set_option maxRecDepth 100000 in
set_option maxHeartbeats 16000000 in
theorem pBreaks_4 (fl n a b : Int) (w : World) (g : good 4 n a b = true) (h3 : 0 ≤ a) (h5 : 0 ≤ b) (f7 : 0 ≤ fl) (f8 : fl ≤ 7) : Calls Try.prog 28 #[.int .i64 4, .int .i64 fl, .int .i64 n, .int .u32 a, .int .u32 b] w fun e w' => e = .returned (.tuple #[.bool (has 4 n a b && brk 4 fl n a b), .int .i64 0]) ∧ Below w.heap.size w w' := by
  have ew : ∀ w, (binOp .eql 56 (.nilFunc) .nilFunc).run Try.prog w = .ok (.bool true) w := fun _ => by kernel_rfl
  have el : ∀ w, (binOp .neq 57 (.func (.func 62) #[] #[]) .nilFunc).run Try.prog w = .ok (.bool true) w := fun _ => by kernel_rfl
  obtain ⟨_, _, h1, h2, h4, h6⟩ := (good_iff _ _ _ _).1 g
  obtain ⟨m, rfl⟩ := Int.eq_ofNat_of_zero_le (show 0 ≤ n by omega)
  have hp := @pw_le32 (m : Int) (by omega)
  have hp0 := pw_pos (m : Int)
  have hw : isW m = true := by simp [isW]; omega
  have fa : fit m a = true := by simp [fit, h4]
  have fb : fit m b = true := by simp [fit, h6]
  obtain ⟨k1, k2, k4⟩ := and_fl fl f7 f8
  have u1 : decide (fl < 0) = false := by simp; omega
  have u2 : decide (7 < fl) = false := by simp; omega
  have hB : brk 4 fl m a b = (f2 fl && brL 4 m a b) := rfl
  rcases (Bool.eq_false_or_eq_true (has 4 m a b)).symm with hh | hh
  · have hv : (has 4 m a b && brk 4 fl m a b) = false := by rw [hh] <;> rfl
    rw [hv]
    clear hv hB k1 k2 k4 g
    go_enter Try.func28, Try.ntmps28
    go_wp2_with (first | (go_at_call 36; refine (asked_l 4 _ _ _ 3 61 62 (fun _ => #[]) _ (fun _ => rfl)).mono ?_; rintro e w1 ⟨h, rfl, ⟨m3, m4, c1, c2, c3, c8, c9, c10⟩, hb1⟩) | (go_at_call 61; refine (pdo_4 _ _ _ _ (by assumption) (by assumption) (by assumption) (by assumption) (by assumption) (by assumption)).mono ?_; rintro e w2 ⟨rfl, hd1⟩; have z1 : w2.cell? ⟨w1.heap.size, 1, none⟩ = some (.nilFunc) := (by obtain ⟨d1, rfl⟩ := hd1; simp [go_sem]); have z2 : w2.cell? ⟨w1.heap.size, 2, none⟩ = some (.func (.func 62) #[] #[]) := (by obtain ⟨d1, rfl⟩ := hd1; simp [go_sem])) | (go_at_call 62; refine (lf8 m a b _ (by assumption) (by assumption) (by assumption) (by assumption) (by assumption) (by assumption) (by assumption)).mono ?_; rintro e w3 ⟨rfl, hd2⟩; have z3 : w3.cell? ⟨w1.heap.size, 1, none⟩ = some (.nilFunc) := (by obtain ⟨d2, rfl⟩ := hd2; obtain ⟨d1, rfl⟩ := hd1; simp [go_sem])))
    go_ret2
    exact ⟨rfl, ((hb1.trans ((Below.refl _ _).alloc hb1.size _)).trans (hd1.below _))⟩
  · cases e2 : f2 fl
    · have j2 : (bits .and .i64 fl 4 != 0) = false := k4.trans e2
      have hv : (has 4 m a b && brk 4 fl m a b) = false := by rw [hh, hB, e2] <;> rfl
      rw [hv]
      clear hv hB k1 k2 k4 g
      go_enter Try.func28, Try.ntmps28
      go_wp2_with (first | (go_at_call 36; refine (asked_l 4 _ _ _ 3 61 62 (fun _ => #[]) _ (fun _ => rfl)).mono ?_; rintro e w1 ⟨h, rfl, ⟨m3, m4, c1, c2, c3, c8, c9, c10⟩, hb1⟩) | (go_at_call 61; refine (pdo_4 _ _ _ _ (by assumption) (by assumption) (by assumption) (by assumption) (by assumption) (by assumption)).mono ?_; rintro e w2 ⟨rfl, hd1⟩; have z1 : w2.cell? ⟨w1.heap.size, 1, none⟩ = some (.nilFunc) := (by obtain ⟨d1, rfl⟩ := hd1; simp [go_sem]); have z2 : w2.cell? ⟨w1.heap.size, 2, none⟩ = some (.func (.func 62) #[] #[]) := (by obtain ⟨d1, rfl⟩ := hd1; simp [go_sem])) | (go_at_call 62; refine (lf8 m a b _ (by assumption) (by assumption) (by assumption) (by assumption) (by assumption) (by assumption) (by assumption)).mono ?_; rintro e w3 ⟨rfl, hd2⟩; have z3 : w3.cell? ⟨w1.heap.size, 1, none⟩ = some (.nilFunc) := (by obtain ⟨d2, rfl⟩ := hd2; obtain ⟨d1, rfl⟩ := hd1; simp [go_sem])))
      go_ret2
      exact ⟨rfl, ((hb1.trans ((Below.refl _ _).alloc hb1.size _)).trans (hd1.below _))⟩
    · have j2 : (bits .and .i64 fl 4 != 0) = true := k4.trans e2
      cases hl : brL 4 m a b
      · have hv : (has 4 m a b && brk 4 fl m a b) = false := by rw [hh, hB, e2, hl] <;> rfl
        rw [hv]
        clear hv hB k1 k2 k4 g
        go_enter Try.func28, Try.ntmps28
        go_wp2_with (first | (go_at_call 36; refine (asked_l 4 _ _ _ 3 61 62 (fun _ => #[]) _ (fun _ => rfl)).mono ?_; rintro e w1 ⟨h, rfl, ⟨m3, m4, c1, c2, c3, c8, c9, c10⟩, hb1⟩) | (go_at_call 61; refine (pdo_4 _ _ _ _ (by assumption) (by assumption) (by assumption) (by assumption) (by assumption) (by assumption)).mono ?_; rintro e w2 ⟨rfl, hd1⟩; have z1 : w2.cell? ⟨w1.heap.size, 1, none⟩ = some (.nilFunc) := (by obtain ⟨d1, rfl⟩ := hd1; simp [go_sem]); have z2 : w2.cell? ⟨w1.heap.size, 2, none⟩ = some (.func (.func 62) #[] #[]) := (by obtain ⟨d1, rfl⟩ := hd1; simp [go_sem])) | (go_at_call 62; refine (lf8 m a b _ (by assumption) (by assumption) (by assumption) (by assumption) (by assumption) (by assumption) (by assumption)).mono ?_; rintro e w3 ⟨rfl, hd2⟩; have z3 : w3.cell? ⟨w1.heap.size, 1, none⟩ = some (.nilFunc) := (by obtain ⟨d2, rfl⟩ := hd2; obtain ⟨d1, rfl⟩ := hd1; simp [go_sem])))
        go_ret2
        exact ⟨rfl, ((hb1.trans ((Below.refl _ _).alloc hb1.size _)).trans (hd1.below _)).trans (hd2.below _)⟩
      · have hv : (has 4 m a b && brk 4 fl m a b) = true := by rw [hh, hB, e2, hl] <;> rfl
        rw [hv]
        clear hv hB k1 k2 k4 g
        go_enter Try.func28, Try.ntmps28
        go_wp2_with (first | (go_at_call 36; refine (asked_l 4 _ _ _ 3 61 62 (fun _ => #[]) _ (fun _ => rfl)).mono ?_; rintro e w1 ⟨h, rfl, ⟨m3, m4, c1, c2, c3, c8, c9, c10⟩, hb1⟩) | (go_at_call 61; refine (pdo_4 _ _ _ _ (by assumption) (by assumption) (by assumption) (by assumption) (by assumption) (by assumption)).mono ?_; rintro e w2 ⟨rfl, hd1⟩; have z1 : w2.cell? ⟨w1.heap.size, 1, none⟩ = some (.nilFunc) := (by obtain ⟨d1, rfl⟩ := hd1; simp [go_sem]); have z2 : w2.cell? ⟨w1.heap.size, 2, none⟩ = some (.func (.func 62) #[] #[]) := (by obtain ⟨d1, rfl⟩ := hd1; simp [go_sem])) | (go_at_call 62; refine (lf8 m a b _ (by assumption) (by assumption) (by assumption) (by assumption) (by assumption) (by assumption) (by assumption)).mono ?_; rintro e w3 ⟨rfl, hd2⟩; have z3 : w3.cell? ⟨w1.heap.size, 1, none⟩ = some (.nilFunc) := (by obtain ⟨d2, rfl⟩ := hd2; obtain ⟨d1, rfl⟩ := hd1; simp [go_sem])))
        go_ret2
        exact ⟨rfl, ((hb1.trans ((Below.refl _ _).alloc hb1.size _)).trans (hd1.below _)).trans (hd2.below _)⟩

set_option maxRecDepth 100000 in
set_option maxHeartbeats 16000000 in
theorem pBreaks_6 (fl n a b : Int) (w : World) (g : good 6 n a b = true) (h3 : 0 ≤ a) (h5 : 0 ≤ b) (f7 : 0 ≤ fl) (f8 : fl ≤ 7) : Calls Try.prog 28 #[.int .i64 6, .int .i64 fl, .int .i64 n, .int .u32 a, .int .u32 b] w fun e w' => e = .returned (.tuple #[.bool (has 6 n a b && brk 6 fl n a b), .int .i64 0]) ∧ Below w.heap.size w w' := by
  have ew : ∀ w, (binOp .eql 56 (.nilFunc) .nilFunc).run Try.prog w = .ok (.bool true) w := fun _ => by kernel_rfl
  have el : ∀ w, (binOp .neq 57 (.func (.func 66) #[] #[]) .nilFunc).run Try.prog w = .ok (.bool true) w := fun _ => by kernel_rfl
  obtain ⟨_, _, h1, h2, h4, h6⟩ := (good_iff _ _ _ _).1 g
  obtain ⟨m, rfl⟩ := Int.eq_ofNat_of_zero_le (show 0 ≤ n by omega)
  have hp := @pw_le32 (m : Int) (by omega)
  have hp0 := pw_pos (m : Int)
  have hw : isW m = true := by simp [isW]; omega
  have fa : fit m a = true := by simp [fit, h4]
  have fb : fit m b = true := by simp [fit, h6]
  obtain ⟨k1, k2, k4⟩ := and_fl fl f7 f8
  have u1 : decide (fl < 0) = false := by simp; omega
  have u2 : decide (7 < fl) = false := by simp; omega
  have hB : brk 6 fl m a b = (f2 fl && brL 6 m a b) := rfl
  rcases (Bool.eq_false_or_eq_true (has 6 m a b)).symm with hh | hh
  · have hv : (has 6 m a b && brk 6 fl m a b) = false := by rw [hh] <;> rfl
    rw [hv]
    clear hv hB k1 k2 k4 g
    go_enter Try.func28, Try.ntmps28
    go_wp2_with (first | (go_at_call 36; refine (asked_l 6 _ _ _ 5 64 66 (fun _ => #[]) _ (fun _ => rfl)).mono ?_; rintro e w1 ⟨h, rfl, ⟨m3, m4, c1, c2, c3, c8, c9, c10⟩, hb1⟩) | (go_at_call 64; refine (pdo_6 _ _ _ _ (by assumption) (by assumption) (by assumption) (by assumption) (by assumption) (by assumption)).mono ?_; rintro e w2 ⟨rfl, hd1⟩; have z1 : w2.cell? ⟨w1.heap.size, 1, none⟩ = some (.nilFunc) := (by obtain ⟨d1, rfl⟩ := hd1; simp [go_sem]); have z2 : w2.cell? ⟨w1.heap.size, 2, none⟩ = some (.func (.func 66) #[] #[]) := (by obtain ⟨d1, rfl⟩ := hd1; simp [go_sem])) | (go_at_call 66; refine (lf11 m a b _ (by assumption) (by assumption) (by assumption) (by assumption) (by assumption) (by assumption) (by assumption)).mono ?_; rintro e w3 ⟨rfl, hd2⟩; have z3 : w3.cell? ⟨w1.heap.size, 1, none⟩ = some (.nilFunc) := (by obtain ⟨d2, rfl⟩ := hd2; obtain ⟨d1, rfl⟩ := hd1; simp [go_sem])))
    go_ret2
    exact ⟨rfl, ((hb1.trans ((Below.refl _ _).alloc hb1.size _)).trans (hd1.below _))⟩
  · cases e2 : f2 fl
    · have j2 : (bits .and .i64 fl 4 != 0) = false := k4.trans e2
      have hv : (has 6 m a b && brk 6 fl m a b) = false := by rw [hh, hB, e2] <;> rfl
      rw [hv]
      clear hv hB k1 k2 k4 g
      go_enter Try.func28, Try.ntmps28
      go_wp2_with (first | (go_at_call 36; refine (asked_l 6 _ _ _ 5 64 66 (fun _ => #[]) _ (fun _ => rfl)).mono ?_; rintro e w1 ⟨h, rfl, ⟨m3, m4, c1, c2, c3, c8, c9, c10⟩, hb1⟩) | (go_at_call 64; refine (pdo_6 _ _ _ _ (by assumption) (by assumption) (by assumption) (by assumption) (by assumption) (by assumption)).mono ?_; rintro e w2 ⟨rfl, hd1⟩; have z1 : w2.cell? ⟨w1.heap.size, 1, none⟩ = some (.nilFunc) := (by obtain ⟨d1, rfl⟩ := hd1; simp [go_sem]); have z2 : w2.cell? ⟨w1.heap.size, 2, none⟩ = some (.func (.func 66) #[] #[]) := (by obtain ⟨d1, rfl⟩ := hd1; simp [go_sem])) | (go_at_call 66; refine (lf11 m a b _ (by assumption) (by assumption) (by assumption) (by assumption) (by assumption) (by assumption) (by assumption)).mono ?_; rintro e w3 ⟨rfl, hd2⟩; have z3 : w3.cell? ⟨w1.heap.size, 1, none⟩ = some (.nilFunc) := (by obtain ⟨d2, rfl⟩ := hd2; obtain ⟨d1, rfl⟩ := hd1; simp [go_sem])))
      go_ret2
      exact ⟨rfl, ((hb1.trans ((Below.refl _ _).alloc hb1.size _)).trans (hd1.below _))⟩
    · have j2 : (bits .and .i64 fl 4 != 0) = true := k4.trans e2
      cases hl : brL 6 m a b
      · have hv : (has 6 m a b && brk 6 fl m a b) = false := by rw [hh, hB, e2, hl] <;> rfl
        rw [hv]
        clear hv hB k1 k2 k4 g
        go_enter Try.func28, Try.ntmps28
        go_wp2_with (first | (go_at_call 36; refine (asked_l 6 _ _ _ 5 64 66 (fun _ => #[]) _ (fun _ => rfl)).mono ?_; rintro e w1 ⟨h, rfl, ⟨m3, m4, c1, c2, c3, c8, c9, c10⟩, hb1⟩) | (go_at_call 64; refine (pdo_6 _ _ _ _ (by assumption) (by assumption) (by assumption) (by assumption) (by assumption) (by assumption)).mono ?_; rintro e w2 ⟨rfl, hd1⟩; have z1 : w2.cell? ⟨w1.heap.size, 1, none⟩ = some (.nilFunc) := (by obtain ⟨d1, rfl⟩ := hd1; simp [go_sem]); have z2 : w2.cell? ⟨w1.heap.size, 2, none⟩ = some (.func (.func 66) #[] #[]) := (by obtain ⟨d1, rfl⟩ := hd1; simp [go_sem])) | (go_at_call 66; refine (lf11 m a b _ (by assumption) (by assumption) (by assumption) (by assumption) (by assumption) (by assumption) (by assumption)).mono ?_; rintro e w3 ⟨rfl, hd2⟩; have z3 : w3.cell? ⟨w1.heap.size, 1, none⟩ = some (.nilFunc) := (by obtain ⟨d2, rfl⟩ := hd2; obtain ⟨d1, rfl⟩ := hd1; simp [go_sem])))
        go_ret2
        exact ⟨rfl, ((hb1.trans ((Below.refl _ _).alloc hb1.size _)).trans (hd1.below _)).trans (hd2.below _)⟩
      · have hv : (has 6 m a b && brk 6 fl m a b) = true := by rw [hh, hB, e2, hl] <;> rfl
        rw [hv]
        clear hv hB k1 k2 k4 g
        go_enter Try.func28, Try.ntmps28
        go_wp2_with (first | (go_at_call 36; refine (asked_l 6 _ _ _ 5 64 66 (fun _ => #[]) _ (fun _ => rfl)).mono ?_; rintro e w1 ⟨h, rfl, ⟨m3, m4, c1, c2, c3, c8, c9, c10⟩, hb1⟩) | (go_at_call 64; refine (pdo_6 _ _ _ _ (by assumption) (by assumption) (by assumption) (by assumption) (by assumption) (by assumption)).mono ?_; rintro e w2 ⟨rfl, hd1⟩; have z1 : w2.cell? ⟨w1.heap.size, 1, none⟩ = some (.nilFunc) := (by obtain ⟨d1, rfl⟩ := hd1; simp [go_sem]); have z2 : w2.cell? ⟨w1.heap.size, 2, none⟩ = some (.func (.func 66) #[] #[]) := (by obtain ⟨d1, rfl⟩ := hd1; simp [go_sem])) | (go_at_call 66; refine (lf11 m a b _ (by assumption) (by assumption) (by assumption) (by assumption) (by assumption) (by assumption) (by assumption)).mono ?_; rintro e w3 ⟨rfl, hd2⟩; have z3 : w3.cell? ⟨w1.heap.size, 1, none⟩ = some (.nilFunc) := (by obtain ⟨d2, rfl⟩ := hd2; obtain ⟨d1, rfl⟩ := hd1; simp [go_sem])))
        go_ret2
        exact ⟨rfl, ((hb1.trans ((Below.refl _ _).alloc hb1.size _)).trans (hd1.below _)).trans (hd2.below _)⟩

set_option maxRecDepth 100000 in
set_option maxHeartbeats 16000000 in
theorem pBreaks_12 (fl n a b : Int) (w : World) (g : good 12 n a b = true) (h3 : 0 ≤ a) (h5 : 0 ≤ b) (f7 : 0 ≤ fl) (f8 : fl ≤ 7) : Calls Try.prog 28 #[.int .i64 12, .int .i64 fl, .int .i64 n, .int .u32 a, .int .u32 b] w fun e w' => e = .returned (.tuple #[.bool (has 12 n a b && brk 12 fl n a b), .int .i64 0]) ∧ Below w.heap.size w w' := by
  have ew : ∀ w, (binOp .eql 56 (.nilFunc) .nilFunc).run Try.prog w = .ok (.bool true) w := fun _ => by kernel_rfl
  have el : ∀ w, (binOp .neq 57 (.func (.func 75) #[] #[]) .nilFunc).run Try.prog w = .ok (.bool true) w := fun _ => by kernel_rfl
  obtain ⟨_, _, h1, h2, h4, h6⟩ := (good_iff _ _ _ _).1 g
  obtain ⟨m, rfl⟩ := Int.eq_ofNat_of_zero_le (show 0 ≤ n by omega)
  have hp := @pw_le32 (m : Int) (by omega)
  have hp0 := pw_pos (m : Int)
  have hw : isW m = true := by simp [isW]; omega
  have fa : fit m a = true := by simp [fit, h4]
  have fb : fit m b = true := by simp [fit, h6]
  obtain ⟨k1, k2, k4⟩ := and_fl fl f7 f8
  have u1 : decide (fl < 0) = false := by simp; omega
  have u2 : decide (7 < fl) = false := by simp; omega
  have hB : brk 12 fl m a b = (f2 fl && brL 12 m a b) := rfl
  rcases (Bool.eq_false_or_eq_true (has 12 m a b)).symm with hh | hh
  · have hv : (has 12 m a b && brk 12 fl m a b) = false := by rw [hh] <;> rfl
    rw [hv]
    clear hv hB k1 k2 k4 g
    go_enter Try.func28, Try.ntmps28
    go_wp2_with (first | (go_at_call 36; refine (asked_l 12 _ _ _ 11 74 75 (fun _ => #[]) _ (fun _ => rfl)).mono ?_; rintro e w1 ⟨h, rfl, ⟨m3, m4, c1, c2, c3, c8, c9, c10⟩, hb1⟩) | (go_at_call 74; refine (pdo_12 _ _ _ _ (by assumption) (by assumption) (by assumption) (by assumption) (by assumption) (by assumption)).mono ?_; rintro e w2 ⟨rfl, hd1⟩; have z1 : w2.cell? ⟨w1.heap.size, 1, none⟩ = some (.nilFunc) := (by obtain ⟨d1, rfl⟩ := hd1; simp [go_sem]); have z2 : w2.cell? ⟨w1.heap.size, 2, none⟩ = some (.func (.func 75) #[] #[]) := (by obtain ⟨d1, rfl⟩ := hd1; simp [go_sem])) | (go_at_call 75; refine (lf19 m a b _ (by assumption) (by assumption) (by assumption) (by assumption) (by assumption) (by assumption) (by assumption)).mono ?_; rintro e w3 ⟨rfl, hd2⟩; have z3 : w3.cell? ⟨w1.heap.size, 1, none⟩ = some (.nilFunc) := (by obtain ⟨d2, rfl⟩ := hd2; obtain ⟨d1, rfl⟩ := hd1; simp [go_sem])))
    go_ret2
    exact ⟨rfl, ((hb1.trans ((Below.refl _ _).alloc hb1.size _)).trans (hd1.below _))⟩
  · cases e2 : f2 fl
    · have j2 : (bits .and .i64 fl 4 != 0) = false := k4.trans e2
      have hv : (has 12 m a b && brk 12 fl m a b) = false := by rw [hh, hB, e2] <;> rfl
      rw [hv]
      clear hv hB k1 k2 k4 g
      go_enter Try.func28, Try.ntmps28
      go_wp2_with (first | (go_at_call 36; refine (asked_l 12 _ _ _ 11 74 75 (fun _ => #[]) _ (fun _ => rfl)).mono ?_; rintro e w1 ⟨h, rfl, ⟨m3, m4, c1, c2, c3, c8, c9, c10⟩, hb1⟩) | (go_at_call 74; refine (pdo_12 _ _ _ _ (by assumption) (by assumption) (by assumption) (by assumption) (by assumption) (by assumption)).mono ?_; rintro e w2 ⟨rfl, hd1⟩; have z1 : w2.cell? ⟨w1.heap.size, 1, none⟩ = some (.nilFunc) := (by obtain ⟨d1, rfl⟩ := hd1; simp [go_sem]); have z2 : w2.cell? ⟨w1.heap.size, 2, none⟩ = some (.func (.func 75) #[] #[]) := (by obtain ⟨d1, rfl⟩ := hd1; simp [go_sem])) | (go_at_call 75; refine (lf19 m a b _ (by assumption) (by assumption) (by assumption) (by assumption) (by assumption) (by assumption) (by assumption)).mono ?_; rintro e w3 ⟨rfl, hd2⟩; have z3 : w3.cell? ⟨w1.heap.size, 1, none⟩ = some (.nilFunc) := (by obtain ⟨d2, rfl⟩ := hd2; obtain ⟨d1, rfl⟩ := hd1; simp [go_sem])))
      go_ret2
      exact ⟨rfl, ((hb1.trans ((Below.refl _ _).alloc hb1.size _)).trans (hd1.below _))⟩
    · have j2 : (bits .and .i64 fl 4 != 0) = true := k4.trans e2
      cases hl : brL 12 m a b
      · have hv : (has 12 m a b && brk 12 fl m a b) = false := by rw [hh, hB, e2, hl] <;> rfl
        rw [hv]
        clear hv hB k1 k2 k4 g
        go_enter Try.func28, Try.ntmps28
        go_wp2_with (first | (go_at_call 36; refine (asked_l 12 _ _ _ 11 74 75 (fun _ => #[]) _ (fun _ => rfl)).mono ?_; rintro e w1 ⟨h, rfl, ⟨m3, m4, c1, c2, c3, c8, c9, c10⟩, hb1⟩) | (go_at_call 74; refine (pdo_12 _ _ _ _ (by assumption) (by assumption) (by assumption) (by assumption) (by assumption) (by assumption)).mono ?_; rintro e w2 ⟨rfl, hd1⟩; have z1 : w2.cell? ⟨w1.heap.size, 1, none⟩ = some (.nilFunc) := (by obtain ⟨d1, rfl⟩ := hd1; simp [go_sem]); have z2 : w2.cell? ⟨w1.heap.size, 2, none⟩ = some (.func (.func 75) #[] #[]) := (by obtain ⟨d1, rfl⟩ := hd1; simp [go_sem])) | (go_at_call 75; refine (lf19 m a b _ (by assumption) (by assumption) (by assumption) (by assumption) (by assumption) (by assumption) (by assumption)).mono ?_; rintro e w3 ⟨rfl, hd2⟩; have z3 : w3.cell? ⟨w1.heap.size, 1, none⟩ = some (.nilFunc) := (by obtain ⟨d2, rfl⟩ := hd2; obtain ⟨d1, rfl⟩ := hd1; simp [go_sem])))
        go_ret2
        exact ⟨rfl, ((hb1.trans ((Below.refl _ _).alloc hb1.size _)).trans (hd1.below _)).trans (hd2.below _)⟩
      · have hv : (has 12 m a b && brk 12 fl m a b) = true := by rw [hh, hB, e2, hl] <;> rfl
        rw [hv]
        clear hv hB k1 k2 k4 g
        go_enter Try.func28, Try.ntmps28
        go_wp2_with (first | (go_at_call 36; refine (asked_l 12 _ _ _ 11 74 75 (fun _ => #[]) _ (fun _ => rfl)).mono ?_; rintro e w1 ⟨h, rfl, ⟨m3, m4, c1, c2, c3, c8, c9, c10⟩, hb1⟩) | (go_at_call 74; refine (pdo_12 _ _ _ _ (by assumption) (by assumption) (by assumption) (by assumption) (by assumption) (by assumption)).mono ?_; rintro e w2 ⟨rfl, hd1⟩; have z1 : w2.cell? ⟨w1.heap.size, 1, none⟩ = some (.nilFunc) := (by obtain ⟨d1, rfl⟩ := hd1; simp [go_sem]); have z2 : w2.cell? ⟨w1.heap.size, 2, none⟩ = some (.func (.func 75) #[] #[]) := (by obtain ⟨d1, rfl⟩ := hd1; simp [go_sem])) | (go_at_call 75; refine (lf19 m a b _ (by assumption) (by assumption) (by assumption) (by assumption) (by assumption) (by assumption) (by assumption)).mono ?_; rintro e w3 ⟨rfl, hd2⟩; have z3 : w3.cell? ⟨w1.heap.size, 1, none⟩ = some (.nilFunc) := (by obtain ⟨d2, rfl⟩ := hd2; obtain ⟨d1, rfl⟩ := hd1; simp [go_sem])))
        go_ret2
        exact ⟨rfl, ((hb1.trans ((Below.refl _ _).alloc hb1.size _)).trans (hd1.below _)).trans (hd2.below _)⟩

set_option maxRecDepth 100000 in
set_option maxHeartbeats 16000000 in
theorem pBreaks_13 (fl n a b : Int) (w : World) (g : good 13 n a b = true) (h3 : 0 ≤ a) (h5 : 0 ≤ b) (f7 : 0 ≤ fl) (f8 : fl ≤ 7) : Calls Try.prog 28 #[.int .i64 13, .int .i64 fl, .int .i64 n, .int .u32 a, .int .u32 b] w fun e w' => e = .returned (.tuple #[.bool (has 13 n a b && brk 13 fl n a b), .int .i64 0]) ∧ Below w.heap.size w w' := by
  have ew : ∀ w, (binOp .eql 56 (.nilFunc) .nilFunc).run Try.prog w = .ok (.bool true) w := fun _ => by kernel_rfl
  have el : ∀ w, (binOp .neq 57 (.func (.func 78) #[] #[]) .nilFunc).run Try.prog w = .ok (.bool true) w := fun _ => by kernel_rfl
  obtain ⟨_, _, h1, h2, h4, h6⟩ := (good_iff _ _ _ _).1 g
  obtain ⟨m, rfl⟩ := Int.eq_ofNat_of_zero_le (show 0 ≤ n by omega)
  have hp := @pw_le32 (m : Int) (by omega)
  have hp0 := pw_pos (m : Int)
  have hw : isW m = true := by simp [isW]; omega
  have fa : fit m a = true := by simp [fit, h4]
  have fb : fit m b = true := by simp [fit, h6]
  obtain ⟨k1, k2, k4⟩ := and_fl fl f7 f8
  have u1 : decide (fl < 0) = false := by simp; omega
  have u2 : decide (7 < fl) = false := by simp; omega
  have hB : brk 13 fl m a b = (f2 fl && brL 13 m a b) := rfl
  rcases (Bool.eq_false_or_eq_true (has 13 m a b)).symm with hh | hh
  · have hv : (has 13 m a b && brk 13 fl m a b) = false := by rw [hh] <;> rfl
    rw [hv]
    clear hv hB k1 k2 k4 g
    go_enter Try.func28, Try.ntmps28
    go_wp2_with (first | (go_at_call 36; refine (asked_l 13 _ _ _ 12 76 78 (fun _ => #[]) _ (fun _ => rfl)).mono ?_; rintro e w1 ⟨h, rfl, ⟨m3, m4, c1, c2, c3, c8, c9, c10⟩, hb1⟩) | (go_at_call 76; refine (pdo_13 _ _ _ _ (by assumption) (by assumption) (by assumption) (by assumption) (by assumption) (by assumption)).mono ?_; rintro e w2 ⟨rfl, hd1⟩; have z1 : w2.cell? ⟨w1.heap.size, 1, none⟩ = some (.nilFunc) := (by obtain ⟨d1, rfl⟩ := hd1; simp [go_sem]); have z2 : w2.cell? ⟨w1.heap.size, 2, none⟩ = some (.func (.func 78) #[] #[]) := (by obtain ⟨d1, rfl⟩ := hd1; simp [go_sem])) | (go_at_call 78; refine (lf21 m a b _ (by assumption) (by assumption) (by assumption) (by assumption) (by assumption) (by assumption) (by assumption)).mono ?_; rintro e w3 ⟨rfl, hd2⟩; have z3 : w3.cell? ⟨w1.heap.size, 1, none⟩ = some (.nilFunc) := (by obtain ⟨d2, rfl⟩ := hd2; obtain ⟨d1, rfl⟩ := hd1; simp [go_sem])))
    go_ret2
    exact ⟨rfl, ((hb1.trans ((Below.refl _ _).alloc hb1.size _)).trans (hd1.below _))⟩
  · cases e2 : f2 fl
    · have j2 : (bits .and .i64 fl 4 != 0) = false := k4.trans e2
      have hv : (has 13 m a b && brk 13 fl m a b) = false := by rw [hh, hB, e2] <;> rfl
      rw [hv]
      clear hv hB k1 k2 k4 g
      go_enter Try.func28, Try.ntmps28
      go_wp2_with (first | (go_at_call 36; refine (asked_l 13 _ _ _ 12 76 78 (fun _ => #[]) _ (fun _ => rfl)).mono ?_; rintro e w1 ⟨h, rfl, ⟨m3, m4, c1, c2, c3, c8, c9, c10⟩, hb1⟩) | (go_at_call 76; refine (pdo_13 _ _ _ _ (by assumption) (by assumption) (by assumption) (by assumption) (by assumption) (by assumption)).mono ?_; rintro e w2 ⟨rfl, hd1⟩; have z1 : w2.cell? ⟨w1.heap.size, 1, none⟩ = some (.nilFunc) := (by obtain ⟨d1, rfl⟩ := hd1; simp [go_sem]); have z2 : w2.cell? ⟨w1.heap.size, 2, none⟩ = some (.func (.func 78) #[] #[]) := (by obtain ⟨d1, rfl⟩ := hd1; simp [go_sem])) | (go_at_call 78; refine (lf21 m a b _ (by assumption) (by assumption) (by assumption) (by assumption) (by assumption) (by assumption) (by assumption)).mono ?_; rintro e w3 ⟨rfl, hd2⟩; have z3 : w3.cell? ⟨w1.heap.size, 1, none⟩ = some (.nilFunc) := (by obtain ⟨d2, rfl⟩ := hd2; obtain ⟨d1, rfl⟩ := hd1; simp [go_sem])))
      go_ret2
      exact ⟨rfl, ((hb1.trans ((Below.refl _ _).alloc hb1.size _)).trans (hd1.below _))⟩
    · have j2 : (bits .and .i64 fl 4 != 0) = true := k4.trans e2
      cases hl : brL 13 m a b
      · have hv : (has 13 m a b && brk 13 fl m a b) = false := by rw [hh, hB, e2, hl] <;> rfl
        rw [hv]
        clear hv hB k1 k2 k4 g
        go_enter Try.func28, Try.ntmps28
        go_wp2_with (first | (go_at_call 36; refine (asked_l 13 _ _ _ 12 76 78 (fun _ => #[]) _ (fun _ => rfl)).mono ?_; rintro e w1 ⟨h, rfl, ⟨m3, m4, c1, c2, c3, c8, c9, c10⟩, hb1⟩) | (go_at_call 76; refine (pdo_13 _ _ _ _ (by assumption) (by assumption) (by assumption) (by assumption) (by assumption) (by assumption)).mono ?_; rintro e w2 ⟨rfl, hd1⟩; have z1 : w2.cell? ⟨w1.heap.size, 1, none⟩ = some (.nilFunc) := (by obtain ⟨d1, rfl⟩ := hd1; simp [go_sem]); have z2 : w2.cell? ⟨w1.heap.size, 2, none⟩ = some (.func (.func 78) #[] #[]) := (by obtain ⟨d1, rfl⟩ := hd1; simp [go_sem])) | (go_at_call 78; refine (lf21 m a b _ (by assumption) (by assumption) (by assumption) (by assumption) (by assumption) (by assumption) (by assumption)).mono ?_; rintro e w3 ⟨rfl, hd2⟩; have z3 : w3.cell? ⟨w1.heap.size, 1, none⟩ = some (.nilFunc) := (by obtain ⟨d2, rfl⟩ := hd2; obtain ⟨d1, rfl⟩ := hd1; simp [go_sem])))
        go_ret2
        exact ⟨rfl, ((hb1.trans ((Below.refl _ _).alloc hb1.size _)).trans (hd1.below _)).trans (hd2.below _)⟩
      · have hv : (has 13 m a b && brk 13 fl m a b) = true := by rw [hh, hB, e2, hl] <;> rfl
        rw [hv]
        clear hv hB k1 k2 k4 g
        go_enter Try.func28, Try.ntmps28
        go_wp2_with (first | (go_at_call 36; refine (asked_l 13 _ _ _ 12 76 78 (fun _ => #[]) _ (fun _ => rfl)).mono ?_; rintro e w1 ⟨h, rfl, ⟨m3, m4, c1, c2, c3, c8, c9, c10⟩, hb1⟩) | (go_at_call 76; refine (pdo_13 _ _ _ _ (by assumption) (by assumption) (by assumption) (by assumption) (by assumption) (by assumption)).mono ?_; rintro e w2 ⟨rfl, hd1⟩; have z1 : w2.cell? ⟨w1.heap.size, 1, none⟩ = some (.nilFunc) := (by obtain ⟨d1, rfl⟩ := hd1; simp [go_sem]); have z2 : w2.cell? ⟨w1.heap.size, 2, none⟩ = some (.func (.func 78) #[] #[]) := (by obtain ⟨d1, rfl⟩ := hd1; simp [go_sem])) | (go_at_call 78; refine (lf21 m a b _ (by assumption) (by assumption) (by assumption) (by assumption) (by assumption) (by assumption) (by assumption)).mono ?_; rintro e w3 ⟨rfl, hd2⟩; have z3 : w3.cell? ⟨w1.heap.size, 1, none⟩ = some (.nilFunc) := (by obtain ⟨d2, rfl⟩ := hd2; obtain ⟨d1, rfl⟩ := hd1; simp [go_sem])))
        go_ret2
        exact ⟨rfl, ((hb1.trans ((Below.refl _ _).alloc hb1.size _)).trans (hd1.below _)).trans (hd2.below _)⟩

end Go.Proofs.Ytpgbepgbgpjmcaa
