/- Breaks: operations bit by bit, and with a rest -/
import Derived.Test.YtpgbepgbgpjmcaaDoorBg
import Derived.Test.YtpgbepgbgpjmcaaDoorBp
import Derived.BigQuiet
namespace Go.Proofs.YtpgbepgbgpjmcaaDoor
open Go.RowKit Wd
set_option linter.unusedVariables false
set_option linter.unusedSimpArgs false
set_option maxRecDepth 100000 in
set_option maxHeartbeats 16000000 in
theorem pBreaks_5 (fl n a b : Int) (w : World) (g : good 5 n a b = true) (h3 : 0 ≤ a) (h5 : 0 ≤ b) (f7 : 0 ≤ fl) (f8 : fl ≤ 7) : Calls Tryd.prog 26 #[.int .i64 5, .int .i64 fl, .int .i64 n, .int .u32 a, .int .u32 b] w fun e w' => e = .returned (.tuple #[.bool (has 5 n a b && brk 5 fl n a b), .int .i64 0]) ∧ Below w.heap.size w w' := by
  have ew : ∀ w, (binOp .eql 50 (.nilFunc) .nilFunc).run Tryd.prog w = .ok (.bool true) w := fun _ => by kernel_rfl
  have el : ∀ w, (binOp .neq 51 (.nilFunc) .nilFunc).run Tryd.prog w = .ok (.bool false) w := fun _ => by kernel_rfl
  obtain ⟨_, _, h1, h2, h4, h6⟩ := (good_iff _ _ _ _).1 g
  obtain ⟨m, rfl⟩ := Int.eq_ofNat_of_zero_le (show 0 ≤ n by omega)
  have hp := @pw_le32 (m : Int) (by omega)
  have hp0 := pw_pos (m : Int)
  have hw : isW m = true := by simp [isW]; omega
  have fa : fit m a = true := by simp [fit, h4]
  have fb : fit m b = true := by simp [fit, h6]
  obtain ⟨k1, k2, k4⟩ := and_fl fl f7 f8
  have u1 : decide (fl < 0) = false := by simp; omega
  have u2 : decide (7 < fl) = false := by simp; omega
  have hB : brk 5 fl m a b = false := rfl
  have hv : (has 5 m a b && brk 5 fl m a b) = false := by rw [hB, Bool.and_false]
  rw [hv]
  clear hv hB
  rcases (Bool.eq_false_or_eq_true (has 5 m a b)).symm with hh | hh
  · cases e2 : f2 fl
    · have j2 : (bits .and .i64 fl 4 != 0) = false := k4.trans e2
      clear k1 k2 k4 g
      go_enter Tryd.func26, Tryd.ntmps26
      go_wp2_with (first | (go_at_call 24; refine (asked_n 5 _ _ _ 4 43 (fun _ => #[]) _ (fun _ => rfl)).mono ?_; rintro e w1 ⟨h, rfl, ⟨m3, m4, c1, c2, c3, c8, c9, c10⟩, hb1⟩) | (go_at_call 43; refine (pdo_5 _ _ _ _ (by assumption) (by assumption) (by assumption) (by assumption) (by assumption) (by assumption)).mono ?_; rintro e w2 ⟨rfl, hd1⟩; have z1 : w2.cell? ⟨w1.heap.size, 1, none⟩ = some (.nilFunc) := (by obtain ⟨d1, rfl⟩ := hd1; simp [go_sem]); have z2 : w2.cell? ⟨w1.heap.size, 2, none⟩ = some (.nilFunc) := (by obtain ⟨d1, rfl⟩ := hd1; simp [go_sem])))
      go_ret2
      exact ⟨rfl, ((hb1.trans ((Below.refl _ _).alloc hb1.size _)).trans (hd1.below _))⟩
    · have j2 : (bits .and .i64 fl 4 != 0) = true := k4.trans e2
      clear k1 k2 k4 g
      go_enter Tryd.func26, Tryd.ntmps26
      go_wp2_with (first | (go_at_call 24; refine (asked_n 5 _ _ _ 4 43 (fun _ => #[]) _ (fun _ => rfl)).mono ?_; rintro e w1 ⟨h, rfl, ⟨m3, m4, c1, c2, c3, c8, c9, c10⟩, hb1⟩) | (go_at_call 43; refine (pdo_5 _ _ _ _ (by assumption) (by assumption) (by assumption) (by assumption) (by assumption) (by assumption)).mono ?_; rintro e w2 ⟨rfl, hd1⟩; have z1 : w2.cell? ⟨w1.heap.size, 1, none⟩ = some (.nilFunc) := (by obtain ⟨d1, rfl⟩ := hd1; simp [go_sem]); have z2 : w2.cell? ⟨w1.heap.size, 2, none⟩ = some (.nilFunc) := (by obtain ⟨d1, rfl⟩ := hd1; simp [go_sem])))
      go_ret2
      exact ⟨rfl, ((hb1.trans ((Below.refl _ _).alloc hb1.size _)).trans (hd1.below _))⟩
  · cases e2 : f2 fl
    · have j2 : (bits .and .i64 fl 4 != 0) = false := k4.trans e2
      clear k1 k2 k4 g
      go_enter Tryd.func26, Tryd.ntmps26
      go_wp2_with (first | (go_at_call 24; refine (asked_n 5 _ _ _ 4 43 (fun _ => #[]) _ (fun _ => rfl)).mono ?_; rintro e w1 ⟨h, rfl, ⟨m3, m4, c1, c2, c3, c8, c9, c10⟩, hb1⟩) | (go_at_call 43; refine (pdo_5 _ _ _ _ (by assumption) (by assumption) (by assumption) (by assumption) (by assumption) (by assumption)).mono ?_; rintro e w2 ⟨rfl, hd1⟩; have z1 : w2.cell? ⟨w1.heap.size, 1, none⟩ = some (.nilFunc) := (by obtain ⟨d1, rfl⟩ := hd1; simp [go_sem]); have z2 : w2.cell? ⟨w1.heap.size, 2, none⟩ = some (.nilFunc) := (by obtain ⟨d1, rfl⟩ := hd1; simp [go_sem])))
      go_ret2
      exact ⟨rfl, ((hb1.trans ((Below.refl _ _).alloc hb1.size _)).trans (hd1.below _))⟩
    · have j2 : (bits .and .i64 fl 4 != 0) = true := k4.trans e2
      clear k1 k2 k4 g
      go_enter Tryd.func26, Tryd.ntmps26
      go_wp2_with (first | (go_at_call 24; refine (asked_n 5 _ _ _ 4 43 (fun _ => #[]) _ (fun _ => rfl)).mono ?_; rintro e w1 ⟨h, rfl, ⟨m3, m4, c1, c2, c3, c8, c9, c10⟩, hb1⟩) | (go_at_call 43; refine (pdo_5 _ _ _ _ (by assumption) (by assumption) (by assumption) (by assumption) (by assumption) (by assumption)).mono ?_; rintro e w2 ⟨rfl, hd1⟩; have z1 : w2.cell? ⟨w1.heap.size, 1, none⟩ = some (.nilFunc) := (by obtain ⟨d1, rfl⟩ := hd1; simp [go_sem]); have z2 : w2.cell? ⟨w1.heap.size, 2, none⟩ = some (.nilFunc) := (by obtain ⟨d1, rfl⟩ := hd1; simp [go_sem])))
      go_ret2
      exact ⟨rfl, ((hb1.trans ((Below.refl _ _).alloc hb1.size _)).trans (hd1.below _))⟩

set_option maxRecDepth 100000 in
set_option maxHeartbeats 16000000 in
theorem pBreaks_7 (fl n a b : Int) (w : World) (g : good 7 n a b = true) (h3 : 0 ≤ a) (h5 : 0 ≤ b) (f7 : 0 ≤ fl) (f8 : fl ≤ 7) : Calls Tryd.prog 26 #[.int .i64 7, .int .i64 fl, .int .i64 n, .int .u32 a, .int .u32 b] w fun e w' => e = .returned (.tuple #[.bool (has 7 n a b && brk 7 fl n a b), .int .i64 0]) ∧ Below w.heap.size w w' := by
  have ew : ∀ w, (binOp .eql 50 (.nilFunc) .nilFunc).run Tryd.prog w = .ok (.bool true) w := fun _ => by kernel_rfl
  have el : ∀ w, (binOp .neq 51 (.nilFunc) .nilFunc).run Tryd.prog w = .ok (.bool false) w := fun _ => by kernel_rfl
  obtain ⟨_, _, h1, h2, h4, h6⟩ := (good_iff _ _ _ _).1 g
  obtain ⟨m, rfl⟩ := Int.eq_ofNat_of_zero_le (show 0 ≤ n by omega)
  have hp := @pw_le32 (m : Int) (by omega)
  have hp0 := pw_pos (m : Int)
  have hw : isW m = true := by simp [isW]; omega
  have fa : fit m a = true := by simp [fit, h4]
  have fb : fit m b = true := by simp [fit, h6]
  obtain ⟨k1, k2, k4⟩ := and_fl fl f7 f8
  have u1 : decide (fl < 0) = false := by simp; omega
  have u2 : decide (7 < fl) = false := by simp; omega
  have hB : brk 7 fl m a b = false := rfl
  have hv : (has 7 m a b && brk 7 fl m a b) = false := by rw [hB, Bool.and_false]
  rw [hv]
  clear hv hB
  rcases (Bool.eq_false_or_eq_true (has 7 m a b)).symm with hh | hh
  · cases e2 : f2 fl
    · have j2 : (bits .and .i64 fl 4 != 0) = false := k4.trans e2
      clear k1 k2 k4 g
      go_enter Tryd.func26, Tryd.ntmps26
      go_wp2_with (first | (go_at_call 24; refine (asked_n 7 _ _ _ 6 47 (fun _ => #[]) _ (fun _ => rfl)).mono ?_; rintro e w1 ⟨h, rfl, ⟨m3, m4, c1, c2, c3, c8, c9, c10⟩, hb1⟩) | (go_at_call 47; refine (pdo_7 _ _ _ _ (by assumption) (by assumption) (by assumption) (by assumption) (by assumption) (by assumption)).mono ?_; rintro e w2 ⟨rfl, hd1⟩; have z1 : w2.cell? ⟨w1.heap.size, 1, none⟩ = some (.nilFunc) := (by obtain ⟨d1, rfl⟩ := hd1; simp [go_sem]); have z2 : w2.cell? ⟨w1.heap.size, 2, none⟩ = some (.nilFunc) := (by obtain ⟨d1, rfl⟩ := hd1; simp [go_sem])))
      go_ret2
      exact ⟨rfl, ((hb1.trans ((Below.refl _ _).alloc hb1.size _)).trans (hd1.below _))⟩
    · have j2 : (bits .and .i64 fl 4 != 0) = true := k4.trans e2
      clear k1 k2 k4 g
      go_enter Tryd.func26, Tryd.ntmps26
      go_wp2_with (first | (go_at_call 24; refine (asked_n 7 _ _ _ 6 47 (fun _ => #[]) _ (fun _ => rfl)).mono ?_; rintro e w1 ⟨h, rfl, ⟨m3, m4, c1, c2, c3, c8, c9, c10⟩, hb1⟩) | (go_at_call 47; refine (pdo_7 _ _ _ _ (by assumption) (by assumption) (by assumption) (by assumption) (by assumption) (by assumption)).mono ?_; rintro e w2 ⟨rfl, hd1⟩; have z1 : w2.cell? ⟨w1.heap.size, 1, none⟩ = some (.nilFunc) := (by obtain ⟨d1, rfl⟩ := hd1; simp [go_sem]); have z2 : w2.cell? ⟨w1.heap.size, 2, none⟩ = some (.nilFunc) := (by obtain ⟨d1, rfl⟩ := hd1; simp [go_sem])))
      go_ret2
      exact ⟨rfl, ((hb1.trans ((Below.refl _ _).alloc hb1.size _)).trans (hd1.below _))⟩
  · cases e2 : f2 fl
    · have j2 : (bits .and .i64 fl 4 != 0) = false := k4.trans e2
      clear k1 k2 k4 g
      go_enter Tryd.func26, Tryd.ntmps26
      go_wp2_with (first | (go_at_call 24; refine (asked_n 7 _ _ _ 6 47 (fun _ => #[]) _ (fun _ => rfl)).mono ?_; rintro e w1 ⟨h, rfl, ⟨m3, m4, c1, c2, c3, c8, c9, c10⟩, hb1⟩) | (go_at_call 47; refine (pdo_7 _ _ _ _ (by assumption) (by assumption) (by assumption) (by assumption) (by assumption) (by assumption)).mono ?_; rintro e w2 ⟨rfl, hd1⟩; have z1 : w2.cell? ⟨w1.heap.size, 1, none⟩ = some (.nilFunc) := (by obtain ⟨d1, rfl⟩ := hd1; simp [go_sem]); have z2 : w2.cell? ⟨w1.heap.size, 2, none⟩ = some (.nilFunc) := (by obtain ⟨d1, rfl⟩ := hd1; simp [go_sem])))
      go_ret2
      exact ⟨rfl, ((hb1.trans ((Below.refl _ _).alloc hb1.size _)).trans (hd1.below _))⟩
    · have j2 : (bits .and .i64 fl 4 != 0) = true := k4.trans e2
      clear k1 k2 k4 g
      go_enter Tryd.func26, Tryd.ntmps26
      go_wp2_with (first | (go_at_call 24; refine (asked_n 7 _ _ _ 6 47 (fun _ => #[]) _ (fun _ => rfl)).mono ?_; rintro e w1 ⟨h, rfl, ⟨m3, m4, c1, c2, c3, c8, c9, c10⟩, hb1⟩) | (go_at_call 47; refine (pdo_7 _ _ _ _ (by assumption) (by assumption) (by assumption) (by assumption) (by assumption) (by assumption)).mono ?_; rintro e w2 ⟨rfl, hd1⟩; have z1 : w2.cell? ⟨w1.heap.size, 1, none⟩ = some (.nilFunc) := (by obtain ⟨d1, rfl⟩ := hd1; simp [go_sem]); have z2 : w2.cell? ⟨w1.heap.size, 2, none⟩ = some (.nilFunc) := (by obtain ⟨d1, rfl⟩ := hd1; simp [go_sem])))
      go_ret2
      exact ⟨rfl, ((hb1.trans ((Below.refl _ _).alloc hb1.size _)).trans (hd1.below _))⟩

set_option maxRecDepth 100000 in
set_option maxHeartbeats 16000000 in
theorem pBreaks_8 (fl n a b : Int) (w : World) (g : good 8 n a b = true) (h3 : 0 ≤ a) (h5 : 0 ≤ b) (f7 : 0 ≤ fl) (f8 : fl ≤ 7) : Calls Tryd.prog 26 #[.int .i64 8, .int .i64 fl, .int .i64 n, .int .u32 a, .int .u32 b] w fun e w' => e = .returned (.tuple #[.bool (has 8 n a b && brk 8 fl n a b), .int .i64 0]) ∧ Below w.heap.size w w' := by
  have ew : ∀ w, (binOp .eql 50 (.nilFunc) .nilFunc).run Tryd.prog w = .ok (.bool true) w := fun _ => by kernel_rfl
  have el : ∀ w, (binOp .neq 51 (.nilFunc) .nilFunc).run Tryd.prog w = .ok (.bool false) w := fun _ => by kernel_rfl
  obtain ⟨_, _, h1, h2, h4, h6⟩ := (good_iff _ _ _ _).1 g
  obtain ⟨m, rfl⟩ := Int.eq_ofNat_of_zero_le (show 0 ≤ n by omega)
  have hp := @pw_le32 (m : Int) (by omega)
  have hp0 := pw_pos (m : Int)
  have hw : isW m = true := by simp [isW]; omega
  have fa : fit m a = true := by simp [fit, h4]
  have fb : fit m b = true := by simp [fit, h6]
  obtain ⟨k1, k2, k4⟩ := and_fl fl f7 f8
  have u1 : decide (fl < 0) = false := by simp; omega
  have u2 : decide (7 < fl) = false := by simp; omega
  have hB : brk 8 fl m a b = false := rfl
  have hv : (has 8 m a b && brk 8 fl m a b) = false := by rw [hB, Bool.and_false]
  rw [hv]
  clear hv hB
  have hh : has 8 m a b = true := rfl
  cases e2 : f2 fl
  · have j2 : (bits .and .i64 fl 4 != 0) = false := k4.trans e2
    clear k1 k2 k4 g
    go_enter Tryd.func26, Tryd.ntmps26
    go_wp2_with (first | (go_at_call 24; refine (asked_n 8 _ _ _ 7 60 (fun h => #[.pointer (some ⟨h + 7, 0, none⟩)]) _ (fun _ => rfl)).mono ?_; rintro e w1 ⟨h, rfl, ⟨m3, m4, c1, c2, c3, c8, c9, c10⟩, hb1⟩) | (go_at_call 60; refine (pdo_8 _ _ _ _ (by assumption) (by assumption) (by assumption) (by assumption) (by assumption) (by assumption) (h + 7) (by have q : h + 7 < w1.heap.size := (by omega); simp [go_sem, *])).mono ?_; rintro e w2 ⟨rfl, hd1⟩; have z1 : w2.cell? ⟨w1.heap.size, 1, none⟩ = some (.nilFunc) := (by obtain ⟨d1, rfl⟩ := hd1; simp [go_sem]); have z2 : w2.cell? ⟨w1.heap.size, 2, none⟩ = some (.nilFunc) := (by obtain ⟨d1, rfl⟩ := hd1; simp [go_sem])))
    go_ret2
    exact ⟨rfl, ((hb1.trans ((Below.refl _ _).alloc hb1.size _)).trans (hd1.below _))⟩
  · have j2 : (bits .and .i64 fl 4 != 0) = true := k4.trans e2
    clear k1 k2 k4 g
    go_enter Tryd.func26, Tryd.ntmps26
    go_wp2_with (first | (go_at_call 24; refine (asked_n 8 _ _ _ 7 60 (fun h => #[.pointer (some ⟨h + 7, 0, none⟩)]) _ (fun _ => rfl)).mono ?_; rintro e w1 ⟨h, rfl, ⟨m3, m4, c1, c2, c3, c8, c9, c10⟩, hb1⟩) | (go_at_call 60; refine (pdo_8 _ _ _ _ (by assumption) (by assumption) (by assumption) (by assumption) (by assumption) (by assumption) (h + 7) (by have q : h + 7 < w1.heap.size := (by omega); simp [go_sem, *])).mono ?_; rintro e w2 ⟨rfl, hd1⟩; have z1 : w2.cell? ⟨w1.heap.size, 1, none⟩ = some (.nilFunc) := (by obtain ⟨d1, rfl⟩ := hd1; simp [go_sem]); have z2 : w2.cell? ⟨w1.heap.size, 2, none⟩ = some (.nilFunc) := (by obtain ⟨d1, rfl⟩ := hd1; simp [go_sem])))
    go_ret2
    exact ⟨rfl, ((hb1.trans ((Below.refl _ _).alloc hb1.size _)).trans (hd1.below _))⟩

set_option maxRecDepth 100000 in
set_option maxHeartbeats 16000000 in
theorem pBreaks_9 (fl n a b : Int) (w : World) (g : good 9 n a b = true) (h3 : 0 ≤ a) (h5 : 0 ≤ b) (f7 : 0 ≤ fl) (f8 : fl ≤ 7) : Calls Tryd.prog 26 #[.int .i64 9, .int .i64 fl, .int .i64 n, .int .u32 a, .int .u32 b] w fun e w' => e = .returned (.tuple #[.bool (has 9 n a b && brk 9 fl n a b), .int .i64 0]) ∧ Below w.heap.size w w' := by
  have ew : ∀ w, (binOp .eql 50 (.nilFunc) .nilFunc).run Tryd.prog w = .ok (.bool true) w := fun _ => by kernel_rfl
  have el : ∀ w, (binOp .neq 51 (.nilFunc) .nilFunc).run Tryd.prog w = .ok (.bool false) w := fun _ => by kernel_rfl
  obtain ⟨_, _, h1, h2, h4, h6⟩ := (good_iff _ _ _ _).1 g
  obtain ⟨m, rfl⟩ := Int.eq_ofNat_of_zero_le (show 0 ≤ n by omega)
  have hp := @pw_le32 (m : Int) (by omega)
  have hp0 := pw_pos (m : Int)
  have hw : isW m = true := by simp [isW]; omega
  have fa : fit m a = true := by simp [fit, h4]
  have fb : fit m b = true := by simp [fit, h6]
  obtain ⟨k1, k2, k4⟩ := and_fl fl f7 f8
  have u1 : decide (fl < 0) = false := by simp; omega
  have u2 : decide (7 < fl) = false := by simp; omega
  have hB : brk 9 fl m a b = false := rfl
  have hv : (has 9 m a b && brk 9 fl m a b) = false := by rw [hB, Bool.and_false]
  rw [hv]
  clear hv hB
  have hh : has 9 m a b = true := rfl
  cases e2 : f2 fl
  · have j2 : (bits .and .i64 fl 4 != 0) = false := k4.trans e2
    clear k1 k2 k4 g
    go_enter Tryd.func26, Tryd.ntmps26
    go_wp2_with (first | (go_at_call 24; refine (asked_n 9 _ _ _ 8 60 (fun h => #[.pointer (some ⟨h + 9, 0, none⟩)]) _ (fun _ => rfl)).mono ?_; rintro e w1 ⟨h, rfl, ⟨m3, m4, c1, c2, c3, c8, c9, c10⟩, hb1⟩) | (go_at_call 60; refine (pdo_9 _ _ _ _ (by assumption) (by assumption) (by assumption) (by assumption) (by assumption) (by assumption) (h + 9) (by have q : h + 9 < w1.heap.size := (by omega); simp [go_sem, *])).mono ?_; rintro e w2 ⟨rfl, hd1⟩; have z1 : w2.cell? ⟨w1.heap.size, 1, none⟩ = some (.nilFunc) := (by obtain ⟨d1, rfl⟩ := hd1; simp [go_sem]); have z2 : w2.cell? ⟨w1.heap.size, 2, none⟩ = some (.nilFunc) := (by obtain ⟨d1, rfl⟩ := hd1; simp [go_sem])))
    go_ret2
    exact ⟨rfl, ((hb1.trans ((Below.refl _ _).alloc hb1.size _)).trans (hd1.below _))⟩
  · have j2 : (bits .and .i64 fl 4 != 0) = true := k4.trans e2
    clear k1 k2 k4 g
    go_enter Tryd.func26, Tryd.ntmps26
    go_wp2_with (first | (go_at_call 24; refine (asked_n 9 _ _ _ 8 60 (fun h => #[.pointer (some ⟨h + 9, 0, none⟩)]) _ (fun _ => rfl)).mono ?_; rintro e w1 ⟨h, rfl, ⟨m3, m4, c1, c2, c3, c8, c9, c10⟩, hb1⟩) | (go_at_call 60; refine (pdo_9 _ _ _ _ (by assumption) (by assumption) (by assumption) (by assumption) (by assumption) (by assumption) (h + 9) (by have q : h + 9 < w1.heap.size := (by omega); simp [go_sem, *])).mono ?_; rintro e w2 ⟨rfl, hd1⟩; have z1 : w2.cell? ⟨w1.heap.size, 1, none⟩ = some (.nilFunc) := (by obtain ⟨d1, rfl⟩ := hd1; simp [go_sem]); have z2 : w2.cell? ⟨w1.heap.size, 2, none⟩ = some (.nilFunc) := (by obtain ⟨d1, rfl⟩ := hd1; simp [go_sem])))
    go_ret2
    exact ⟨rfl, ((hb1.trans ((Below.refl _ _).alloc hb1.size _)).trans (hd1.below _))⟩

set_option maxRecDepth 100000 in
set_option maxHeartbeats 16000000 in
theorem pBreaks_10 (fl n a b : Int) (w : World) (g : good 10 n a b = true) (h3 : 0 ≤ a) (h5 : 0 ≤ b) (f7 : 0 ≤ fl) (f8 : fl ≤ 7) : Calls Tryd.prog 26 #[.int .i64 10, .int .i64 fl, .int .i64 n, .int .u32 a, .int .u32 b] w fun e w' => e = .returned (.tuple #[.bool (has 10 n a b && brk 10 fl n a b), .int .i64 0]) ∧ Below w.heap.size w w' := by
  have ew : ∀ w, (binOp .eql 50 (.nilFunc) .nilFunc).run Tryd.prog w = .ok (.bool true) w := fun _ => by kernel_rfl
  have el : ∀ w, (binOp .neq 51 (.nilFunc) .nilFunc).run Tryd.prog w = .ok (.bool false) w := fun _ => by kernel_rfl
  obtain ⟨_, _, h1, h2, h4, h6⟩ := (good_iff _ _ _ _).1 g
  obtain ⟨m, rfl⟩ := Int.eq_ofNat_of_zero_le (show 0 ≤ n by omega)
  have hp := @pw_le32 (m : Int) (by omega)
  have hp0 := pw_pos (m : Int)
  have hw : isW m = true := by simp [isW]; omega
  have fa : fit m a = true := by simp [fit, h4]
  have fb : fit m b = true := by simp [fit, h6]
  obtain ⟨k1, k2, k4⟩ := and_fl fl f7 f8
  have u1 : decide (fl < 0) = false := by simp; omega
  have u2 : decide (7 < fl) = false := by simp; omega
  have hB : brk 10 fl m a b = false := rfl
  have hv : (has 10 m a b && brk 10 fl m a b) = false := by rw [hB, Bool.and_false]
  rw [hv]
  clear hv hB
  have hh : has 10 m a b = true := rfl
  cases e2 : f2 fl
  · have j2 : (bits .and .i64 fl 4 != 0) = false := k4.trans e2
    clear k1 k2 k4 g
    go_enter Tryd.func26, Tryd.ntmps26
    go_wp2_with (first | (go_at_call 24; refine (asked_n 10 _ _ _ 9 60 (fun h => #[.pointer (some ⟨h + 11, 0, none⟩)]) _ (fun _ => rfl)).mono ?_; rintro e w1 ⟨h, rfl, ⟨m3, m4, c1, c2, c3, c8, c9, c10⟩, hb1⟩) | (go_at_call 60; refine (pdo_10 _ _ _ _ (by assumption) (by assumption) (by assumption) (by assumption) (by assumption) (by assumption) (h + 11) (by have q : h + 11 < w1.heap.size := (by omega); simp [go_sem, *])).mono ?_; rintro e w2 ⟨rfl, hd1⟩; have z1 : w2.cell? ⟨w1.heap.size, 1, none⟩ = some (.nilFunc) := (by obtain ⟨d1, rfl⟩ := hd1; simp [go_sem]); have z2 : w2.cell? ⟨w1.heap.size, 2, none⟩ = some (.nilFunc) := (by obtain ⟨d1, rfl⟩ := hd1; simp [go_sem])))
    go_ret2
    exact ⟨rfl, ((hb1.trans ((Below.refl _ _).alloc hb1.size _)).trans (hd1.below _))⟩
  · have j2 : (bits .and .i64 fl 4 != 0) = true := k4.trans e2
    clear k1 k2 k4 g
    go_enter Tryd.func26, Tryd.ntmps26
    go_wp2_with (first | (go_at_call 24; refine (asked_n 10 _ _ _ 9 60 (fun h => #[.pointer (some ⟨h + 11, 0, none⟩)]) _ (fun _ => rfl)).mono ?_; rintro e w1 ⟨h, rfl, ⟨m3, m4, c1, c2, c3, c8, c9, c10⟩, hb1⟩) | (go_at_call 60; refine (pdo_10 _ _ _ _ (by assumption) (by assumption) (by assumption) (by assumption) (by assumption) (by assumption) (h + 11) (by have q : h + 11 < w1.heap.size := (by omega); simp [go_sem, *])).mono ?_; rintro e w2 ⟨rfl, hd1⟩; have z1 : w2.cell? ⟨w1.heap.size, 1, none⟩ = some (.nilFunc) := (by obtain ⟨d1, rfl⟩ := hd1; simp [go_sem]); have z2 : w2.cell? ⟨w1.heap.size, 2, none⟩ = some (.nilFunc) := (by obtain ⟨d1, rfl⟩ := hd1; simp [go_sem])))
    go_ret2
    exact ⟨rfl, ((hb1.trans ((Below.refl _ _).alloc hb1.size _)).trans (hd1.below _))⟩

set_option maxRecDepth 100000 in
set_option maxHeartbeats 16000000 in
theorem pBreaks_4 (fl n a b : Int) (w : World) (g : good 4 n a b = true) (h3 : 0 ≤ a) (h5 : 0 ≤ b) (f7 : 0 ≤ fl) (f8 : fl ≤ 7) : Calls Tryd.prog 26 #[.int .i64 4, .int .i64 fl, .int .i64 n, .int .u32 a, .int .u32 b] w fun e w' => e = .returned (.tuple #[.bool (has 4 n a b && brk 4 fl n a b), .int .i64 0]) ∧ Below w.heap.size w w' := by
  have ew : ∀ w, (binOp .eql 50 (.nilFunc) .nilFunc).run Tryd.prog w = .ok (.bool true) w := fun _ => by kernel_rfl
  have el : ∀ w, (binOp .neq 51 (.func (.func 42) #[] #[]) .nilFunc).run Tryd.prog w = .ok (.bool true) w := fun _ => by kernel_rfl
  obtain ⟨_, _, h1, h2, h4, h6⟩ := (good_iff _ _ _ _).1 g
  obtain ⟨m, rfl⟩ := Int.eq_ofNat_of_zero_le (show 0 ≤ n by omega)
  have hp := @pw_le32 (m : Int) (by omega)
  have hp0 := pw_pos (m : Int)
  have hw : isW m = true := by simp [isW]; omega
  have fa : fit m a = true := by simp [fit, h4]
  have fb : fit m b = true := by simp [fit, h6]
  obtain ⟨k1, k2, k4⟩ := and_fl fl f7 f8
  have u1 : decide (fl < 0) = false := by simp; omega
  have u2 : decide (7 < fl) = false := by simp; omega
  have hB : brk 4 fl m a b = (f2 fl && brL 4 m a b) := rfl
  rcases (Bool.eq_false_or_eq_true (has 4 m a b)).symm with hh | hh
  · have hv : (has 4 m a b && brk 4 fl m a b) = false := by rw [hh] <;> rfl
    rw [hv]
    clear hv hB k1 k2 k4 g
    go_enter Tryd.func26, Tryd.ntmps26
    go_wp2_with (first | (go_at_call 24; refine (asked_l 4 _ _ _ 3 41 42 (fun _ => #[]) _ (fun _ => rfl)).mono ?_; rintro e w1 ⟨h, rfl, ⟨m3, m4, c1, c2, c3, c8, c9, c10⟩, hb1⟩) | (go_at_call 41; refine (pdo_4 _ _ _ _ (by assumption) (by assumption) (by assumption) (by assumption) (by assumption) (by assumption)).mono ?_; rintro e w2 ⟨rfl, hd1⟩; have z1 : w2.cell? ⟨w1.heap.size, 1, none⟩ = some (.nilFunc) := (by obtain ⟨d1, rfl⟩ := hd1; simp [go_sem]); have z2 : w2.cell? ⟨w1.heap.size, 2, none⟩ = some (.func (.func 42) #[] #[]) := (by obtain ⟨d1, rfl⟩ := hd1; simp [go_sem])) | (go_at_call 42; refine (lf8 m a b _ (by assumption) (by assumption) (by assumption) (by assumption) (by assumption) (by assumption) (by assumption)).mono ?_; rintro e w3 ⟨rfl, hd2⟩; have z3 : w3.cell? ⟨w1.heap.size, 1, none⟩ = some (.nilFunc) := (by obtain ⟨d2, rfl⟩ := hd2; obtain ⟨d1, rfl⟩ := hd1; simp [go_sem])))
    go_ret2
    exact ⟨rfl, ((hb1.trans ((Below.refl _ _).alloc hb1.size _)).trans (hd1.below _))⟩
  · cases e2 : f2 fl
    · have j2 : (bits .and .i64 fl 4 != 0) = false := k4.trans e2
      have hv : (has 4 m a b && brk 4 fl m a b) = false := by rw [hh, hB, e2] <;> rfl
      rw [hv]
      clear hv hB k1 k2 k4 g
      go_enter Tryd.func26, Tryd.ntmps26
      go_wp2_with (first | (go_at_call 24; refine (asked_l 4 _ _ _ 3 41 42 (fun _ => #[]) _ (fun _ => rfl)).mono ?_; rintro e w1 ⟨h, rfl, ⟨m3, m4, c1, c2, c3, c8, c9, c10⟩, hb1⟩) | (go_at_call 41; refine (pdo_4 _ _ _ _ (by assumption) (by assumption) (by assumption) (by assumption) (by assumption) (by assumption)).mono ?_; rintro e w2 ⟨rfl, hd1⟩; have z1 : w2.cell? ⟨w1.heap.size, 1, none⟩ = some (.nilFunc) := (by obtain ⟨d1, rfl⟩ := hd1; simp [go_sem]); have z2 : w2.cell? ⟨w1.heap.size, 2, none⟩ = some (.func (.func 42) #[] #[]) := (by obtain ⟨d1, rfl⟩ := hd1; simp [go_sem])) | (go_at_call 42; refine (lf8 m a b _ (by assumption) (by assumption) (by assumption) (by assumption) (by assumption) (by assumption) (by assumption)).mono ?_; rintro e w3 ⟨rfl, hd2⟩; have z3 : w3.cell? ⟨w1.heap.size, 1, none⟩ = some (.nilFunc) := (by obtain ⟨d2, rfl⟩ := hd2; obtain ⟨d1, rfl⟩ := hd1; simp [go_sem])))
      go_ret2
      exact ⟨rfl, ((hb1.trans ((Below.refl _ _).alloc hb1.size _)).trans (hd1.below _))⟩
    · have j2 : (bits .and .i64 fl 4 != 0) = true := k4.trans e2
      cases hl : brL 4 m a b
      · have hv : (has 4 m a b && brk 4 fl m a b) = false := by rw [hh, hB, e2, hl] <;> rfl
        rw [hv]
        clear hv hB k1 k2 k4 g
        go_enter Tryd.func26, Tryd.ntmps26
        go_wp2_with (first | (go_at_call 24; refine (asked_l 4 _ _ _ 3 41 42 (fun _ => #[]) _ (fun _ => rfl)).mono ?_; rintro e w1 ⟨h, rfl, ⟨m3, m4, c1, c2, c3, c8, c9, c10⟩, hb1⟩) | (go_at_call 41; refine (pdo_4 _ _ _ _ (by assumption) (by assumption) (by assumption) (by assumption) (by assumption) (by assumption)).mono ?_; rintro e w2 ⟨rfl, hd1⟩; have z1 : w2.cell? ⟨w1.heap.size, 1, none⟩ = some (.nilFunc) := (by obtain ⟨d1, rfl⟩ := hd1; simp [go_sem]); have z2 : w2.cell? ⟨w1.heap.size, 2, none⟩ = some (.func (.func 42) #[] #[]) := (by obtain ⟨d1, rfl⟩ := hd1; simp [go_sem])) | (go_at_call 42; refine (lf8 m a b _ (by assumption) (by assumption) (by assumption) (by assumption) (by assumption) (by assumption) (by assumption)).mono ?_; rintro e w3 ⟨rfl, hd2⟩; have z3 : w3.cell? ⟨w1.heap.size, 1, none⟩ = some (.nilFunc) := (by obtain ⟨d2, rfl⟩ := hd2; obtain ⟨d1, rfl⟩ := hd1; simp [go_sem])))
        go_ret2
        exact ⟨rfl, ((hb1.trans ((Below.refl _ _).alloc hb1.size _)).trans (hd1.below _)).trans (hd2.below _)⟩
      · have hv : (has 4 m a b && brk 4 fl m a b) = true := by rw [hh, hB, e2, hl] <;> rfl
        rw [hv]
        clear hv hB k1 k2 k4 g
        go_enter Tryd.func26, Tryd.ntmps26
        go_wp2_with (first | (go_at_call 24; refine (asked_l 4 _ _ _ 3 41 42 (fun _ => #[]) _ (fun _ => rfl)).mono ?_; rintro e w1 ⟨h, rfl, ⟨m3, m4, c1, c2, c3, c8, c9, c10⟩, hb1⟩) | (go_at_call 41; refine (pdo_4 _ _ _ _ (by assumption) (by assumption) (by assumption) (by assumption) (by assumption) (by assumption)).mono ?_; rintro e w2 ⟨rfl, hd1⟩; have z1 : w2.cell? ⟨w1.heap.size, 1, none⟩ = some (.nilFunc) := (by obtain ⟨d1, rfl⟩ := hd1; simp [go_sem]); have z2 : w2.cell? ⟨w1.heap.size, 2, none⟩ = some (.func (.func 42) #[] #[]) := (by obtain ⟨d1, rfl⟩ := hd1; simp [go_sem])) | (go_at_call 42; refine (lf8 m a b _ (by assumption) (by assumption) (by assumption) (by assumption) (by assumption) (by assumption) (by assumption)).mono ?_; rintro e w3 ⟨rfl, hd2⟩; have z3 : w3.cell? ⟨w1.heap.size, 1, none⟩ = some (.nilFunc) := (by obtain ⟨d2, rfl⟩ := hd2; obtain ⟨d1, rfl⟩ := hd1; simp [go_sem])))
        go_ret2
        exact ⟨rfl, ((hb1.trans ((Below.refl _ _).alloc hb1.size _)).trans (hd1.below _)).trans (hd2.below _)⟩

set_option maxRecDepth 100000 in
set_option maxHeartbeats 16000000 in
theorem pBreaks_6 (fl n a b : Int) (w : World) (g : good 6 n a b = true) (h3 : 0 ≤ a) (h5 : 0 ≤ b) (f7 : 0 ≤ fl) (f8 : fl ≤ 7) : Calls Tryd.prog 26 #[.int .i64 6, .int .i64 fl, .int .i64 n, .int .u32 a, .int .u32 b] w fun e w' => e = .returned (.tuple #[.bool (has 6 n a b && brk 6 fl n a b), .int .i64 0]) ∧ Below w.heap.size w w' := by
  have ew : ∀ w, (binOp .eql 50 (.nilFunc) .nilFunc).run Tryd.prog w = .ok (.bool true) w := fun _ => by kernel_rfl
  have el : ∀ w, (binOp .neq 51 (.func (.func 46) #[] #[]) .nilFunc).run Tryd.prog w = .ok (.bool true) w := fun _ => by kernel_rfl
  obtain ⟨_, _, h1, h2, h4, h6⟩ := (good_iff _ _ _ _).1 g
  obtain ⟨m, rfl⟩ := Int.eq_ofNat_of_zero_le (show 0 ≤ n by omega)
  have hp := @pw_le32 (m : Int) (by omega)
  have hp0 := pw_pos (m : Int)
  have hw : isW m = true := by simp [isW]; omega
  have fa : fit m a = true := by simp [fit, h4]
  have fb : fit m b = true := by simp [fit, h6]
  obtain ⟨k1, k2, k4⟩ := and_fl fl f7 f8
  have u1 : decide (fl < 0) = false := by simp; omega
  have u2 : decide (7 < fl) = false := by simp; omega
  have hB : brk 6 fl m a b = (f2 fl && brL 6 m a b) := rfl
  rcases (Bool.eq_false_or_eq_true (has 6 m a b)).symm with hh | hh
  · have hv : (has 6 m a b && brk 6 fl m a b) = false := by rw [hh] <;> rfl
    rw [hv]
    clear hv hB k1 k2 k4 g
    go_enter Tryd.func26, Tryd.ntmps26
    go_wp2_with (first | (go_at_call 24; refine (asked_l 6 _ _ _ 5 44 46 (fun _ => #[]) _ (fun _ => rfl)).mono ?_; rintro e w1 ⟨h, rfl, ⟨m3, m4, c1, c2, c3, c8, c9, c10⟩, hb1⟩) | (go_at_call 44; refine (pdo_6 _ _ _ _ (by assumption) (by assumption) (by assumption) (by assumption) (by assumption) (by assumption)).mono ?_; rintro e w2 ⟨rfl, hd1⟩; have z1 : w2.cell? ⟨w1.heap.size, 1, none⟩ = some (.nilFunc) := (by obtain ⟨d1, rfl⟩ := hd1; simp [go_sem]); have z2 : w2.cell? ⟨w1.heap.size, 2, none⟩ = some (.func (.func 46) #[] #[]) := (by obtain ⟨d1, rfl⟩ := hd1; simp [go_sem])) | (go_at_call 46; refine (lf11 m a b _ (by assumption) (by assumption) (by assumption) (by assumption) (by assumption) (by assumption) (by assumption)).mono ?_; rintro e w3 ⟨rfl, hd2⟩; have z3 : w3.cell? ⟨w1.heap.size, 1, none⟩ = some (.nilFunc) := (by obtain ⟨d2, rfl⟩ := hd2; obtain ⟨d1, rfl⟩ := hd1; simp [go_sem])))
    go_ret2
    exact ⟨rfl, ((hb1.trans ((Below.refl _ _).alloc hb1.size _)).trans (hd1.below _))⟩
  · cases e2 : f2 fl
    · have j2 : (bits .and .i64 fl 4 != 0) = false := k4.trans e2
      have hv : (has 6 m a b && brk 6 fl m a b) = false := by rw [hh, hB, e2] <;> rfl
      rw [hv]
      clear hv hB k1 k2 k4 g
      go_enter Tryd.func26, Tryd.ntmps26
      go_wp2_with (first | (go_at_call 24; refine (asked_l 6 _ _ _ 5 44 46 (fun _ => #[]) _ (fun _ => rfl)).mono ?_; rintro e w1 ⟨h, rfl, ⟨m3, m4, c1, c2, c3, c8, c9, c10⟩, hb1⟩) | (go_at_call 44; refine (pdo_6 _ _ _ _ (by assumption) (by assumption) (by assumption) (by assumption) (by assumption) (by assumption)).mono ?_; rintro e w2 ⟨rfl, hd1⟩; have z1 : w2.cell? ⟨w1.heap.size, 1, none⟩ = some (.nilFunc) := (by obtain ⟨d1, rfl⟩ := hd1; simp [go_sem]); have z2 : w2.cell? ⟨w1.heap.size, 2, none⟩ = some (.func (.func 46) #[] #[]) := (by obtain ⟨d1, rfl⟩ := hd1; simp [go_sem])) | (go_at_call 46; refine (lf11 m a b _ (by assumption) (by assumption) (by assumption) (by assumption) (by assumption) (by assumption) (by assumption)).mono ?_; rintro e w3 ⟨rfl, hd2⟩; have z3 : w3.cell? ⟨w1.heap.size, 1, none⟩ = some (.nilFunc) := (by obtain ⟨d2, rfl⟩ := hd2; obtain ⟨d1, rfl⟩ := hd1; simp [go_sem])))
      go_ret2
      exact ⟨rfl, ((hb1.trans ((Below.refl _ _).alloc hb1.size _)).trans (hd1.below _))⟩
    · have j2 : (bits .and .i64 fl 4 != 0) = true := k4.trans e2
      cases hl : brL 6 m a b
      · have hv : (has 6 m a b && brk 6 fl m a b) = false := by rw [hh, hB, e2, hl] <;> rfl
        rw [hv]
        clear hv hB k1 k2 k4 g
        go_enter Tryd.func26, Tryd.ntmps26
        go_wp2_with (first | (go_at_call 24; refine (asked_l 6 _ _ _ 5 44 46 (fun _ => #[]) _ (fun _ => rfl)).mono ?_; rintro e w1 ⟨h, rfl, ⟨m3, m4, c1, c2, c3, c8, c9, c10⟩, hb1⟩) | (go_at_call 44; refine (pdo_6 _ _ _ _ (by assumption) (by assumption) (by assumption) (by assumption) (by assumption) (by assumption)).mono ?_; rintro e w2 ⟨rfl, hd1⟩; have z1 : w2.cell? ⟨w1.heap.size, 1, none⟩ = some (.nilFunc) := (by obtain ⟨d1, rfl⟩ := hd1; simp [go_sem]); have z2 : w2.cell? ⟨w1.heap.size, 2, none⟩ = some (.func (.func 46) #[] #[]) := (by obtain ⟨d1, rfl⟩ := hd1; simp [go_sem])) | (go_at_call 46; refine (lf11 m a b _ (by assumption) (by assumption) (by assumption) (by assumption) (by assumption) (by assumption) (by assumption)).mono ?_; rintro e w3 ⟨rfl, hd2⟩; have z3 : w3.cell? ⟨w1.heap.size, 1, none⟩ = some (.nilFunc) := (by obtain ⟨d2, rfl⟩ := hd2; obtain ⟨d1, rfl⟩ := hd1; simp [go_sem])))
        go_ret2
        exact ⟨rfl, ((hb1.trans ((Below.refl _ _).alloc hb1.size _)).trans (hd1.below _)).trans (hd2.below _)⟩
      · have hv : (has 6 m a b && brk 6 fl m a b) = true := by rw [hh, hB, e2, hl] <;> rfl
        rw [hv]
        clear hv hB k1 k2 k4 g
        go_enter Tryd.func26, Tryd.ntmps26
        go_wp2_with (first | (go_at_call 24; refine (asked_l 6 _ _ _ 5 44 46 (fun _ => #[]) _ (fun _ => rfl)).mono ?_; rintro e w1 ⟨h, rfl, ⟨m3, m4, c1, c2, c3, c8, c9, c10⟩, hb1⟩) | (go_at_call 44; refine (pdo_6 _ _ _ _ (by assumption) (by assumption) (by assumption) (by assumption) (by assumption) (by assumption)).mono ?_; rintro e w2 ⟨rfl, hd1⟩; have z1 : w2.cell? ⟨w1.heap.size, 1, none⟩ = some (.nilFunc) := (by obtain ⟨d1, rfl⟩ := hd1; simp [go_sem]); have z2 : w2.cell? ⟨w1.heap.size, 2, none⟩ = some (.func (.func 46) #[] #[]) := (by obtain ⟨d1, rfl⟩ := hd1; simp [go_sem])) | (go_at_call 46; refine (lf11 m a b _ (by assumption) (by assumption) (by assumption) (by assumption) (by assumption) (by assumption) (by assumption)).mono ?_; rintro e w3 ⟨rfl, hd2⟩; have z3 : w3.cell? ⟨w1.heap.size, 1, none⟩ = some (.nilFunc) := (by obtain ⟨d2, rfl⟩ := hd2; obtain ⟨d1, rfl⟩ := hd1; simp [go_sem])))
        go_ret2
        exact ⟨rfl, ((hb1.trans ((Below.refl _ _).alloc hb1.size _)).trans (hd1.below _)).trans (hd2.below _)⟩

set_option maxRecDepth 100000 in
set_option maxHeartbeats 16000000 in
theorem pBreaks_12 (fl n a b : Int) (w : World) (g : good 12 n a b = true) (h3 : 0 ≤ a) (h5 : 0 ≤ b) (f7 : 0 ≤ fl) (f8 : fl ≤ 7) : Calls Tryd.prog 26 #[.int .i64 12, .int .i64 fl, .int .i64 n, .int .u32 a, .int .u32 b] w fun e w' => e = .returned (.tuple #[.bool (has 12 n a b && brk 12 fl n a b), .int .i64 0]) ∧ Below w.heap.size w w' := by
  have ew : ∀ w, (binOp .eql 50 (.nilFunc) .nilFunc).run Tryd.prog w = .ok (.bool true) w := fun _ => by kernel_rfl
  have el : ∀ w, (binOp .neq 51 (.func (.func 55) #[] #[]) .nilFunc).run Tryd.prog w = .ok (.bool true) w := fun _ => by kernel_rfl
  obtain ⟨_, _, h1, h2, h4, h6⟩ := (good_iff _ _ _ _).1 g
  obtain ⟨m, rfl⟩ := Int.eq_ofNat_of_zero_le (show 0 ≤ n by omega)
  have hp := @pw_le32 (m : Int) (by omega)
  have hp0 := pw_pos (m : Int)
  have hw : isW m = true := by simp [isW]; omega
  have fa : fit m a = true := by simp [fit, h4]
  have fb : fit m b = true := by simp [fit, h6]
  obtain ⟨k1, k2, k4⟩ := and_fl fl f7 f8
  have u1 : decide (fl < 0) = false := by simp; omega
  have u2 : decide (7 < fl) = false := by simp; omega
  have hB : brk 12 fl m a b = (f2 fl && brL 12 m a b) := rfl
  rcases (Bool.eq_false_or_eq_true (has 12 m a b)).symm with hh | hh
  · have hv : (has 12 m a b && brk 12 fl m a b) = false := by rw [hh] <;> rfl
    rw [hv]
    clear hv hB k1 k2 k4 g
    go_enter Tryd.func26, Tryd.ntmps26
    go_wp2_with (first | (go_at_call 24; refine (asked_l 12 _ _ _ 11 54 55 (fun _ => #[]) _ (fun _ => rfl)).mono ?_; rintro e w1 ⟨h, rfl, ⟨m3, m4, c1, c2, c3, c8, c9, c10⟩, hb1⟩) | (go_at_call 54; refine (pdo_12 _ _ _ _ (by assumption) (by assumption) (by assumption) (by assumption) (by assumption) (by assumption)).mono ?_; rintro e w2 ⟨rfl, hd1⟩; have z1 : w2.cell? ⟨w1.heap.size, 1, none⟩ = some (.nilFunc) := (by obtain ⟨d1, rfl⟩ := hd1; simp [go_sem]); have z2 : w2.cell? ⟨w1.heap.size, 2, none⟩ = some (.func (.func 55) #[] #[]) := (by obtain ⟨d1, rfl⟩ := hd1; simp [go_sem])) | (go_at_call 55; refine (lf19 m a b _ (by assumption) (by assumption) (by assumption) (by assumption) (by assumption) (by assumption) (by assumption)).mono ?_; rintro e w3 ⟨rfl, hd2⟩; have z3 : w3.cell? ⟨w1.heap.size, 1, none⟩ = some (.nilFunc) := (by obtain ⟨d2, rfl⟩ := hd2; obtain ⟨d1, rfl⟩ := hd1; simp [go_sem])))
    go_ret2
    exact ⟨rfl, ((hb1.trans ((Below.refl _ _).alloc hb1.size _)).trans (hd1.below _))⟩
  · cases e2 : f2 fl
    · have j2 : (bits .and .i64 fl 4 != 0) = false := k4.trans e2
      have hv : (has 12 m a b && brk 12 fl m a b) = false := by rw [hh, hB, e2] <;> rfl
      rw [hv]
      clear hv hB k1 k2 k4 g
      go_enter Tryd.func26, Tryd.ntmps26
      go_wp2_with (first | (go_at_call 24; refine (asked_l 12 _ _ _ 11 54 55 (fun _ => #[]) _ (fun _ => rfl)).mono ?_; rintro e w1 ⟨h, rfl, ⟨m3, m4, c1, c2, c3, c8, c9, c10⟩, hb1⟩) | (go_at_call 54; refine (pdo_12 _ _ _ _ (by assumption) (by assumption) (by assumption) (by assumption) (by assumption) (by assumption)).mono ?_; rintro e w2 ⟨rfl, hd1⟩; have z1 : w2.cell? ⟨w1.heap.size, 1, none⟩ = some (.nilFunc) := (by obtain ⟨d1, rfl⟩ := hd1; simp [go_sem]); have z2 : w2.cell? ⟨w1.heap.size, 2, none⟩ = some (.func (.func 55) #[] #[]) := (by obtain ⟨d1, rfl⟩ := hd1; simp [go_sem])) | (go_at_call 55; refine (lf19 m a b _ (by assumption) (by assumption) (by assumption) (by assumption) (by assumption) (by assumption) (by assumption)).mono ?_; rintro e w3 ⟨rfl, hd2⟩; have z3 : w3.cell? ⟨w1.heap.size, 1, none⟩ = some (.nilFunc) := (by obtain ⟨d2, rfl⟩ := hd2; obtain ⟨d1, rfl⟩ := hd1; simp [go_sem])))
      go_ret2
      exact ⟨rfl, ((hb1.trans ((Below.refl _ _).alloc hb1.size _)).trans (hd1.below _))⟩
    · have j2 : (bits .and .i64 fl 4 != 0) = true := k4.trans e2
      cases hl : brL 12 m a b
      · have hv : (has 12 m a b && brk 12 fl m a b) = false := by rw [hh, hB, e2, hl] <;> rfl
        rw [hv]
        clear hv hB k1 k2 k4 g
        go_enter Tryd.func26, Tryd.ntmps26
        go_wp2_with (first | (go_at_call 24; refine (asked_l 12 _ _ _ 11 54 55 (fun _ => #[]) _ (fun _ => rfl)).mono ?_; rintro e w1 ⟨h, rfl, ⟨m3, m4, c1, c2, c3, c8, c9, c10⟩, hb1⟩) | (go_at_call 54; refine (pdo_12 _ _ _ _ (by assumption) (by assumption) (by assumption) (by assumption) (by assumption) (by assumption)).mono ?_; rintro e w2 ⟨rfl, hd1⟩; have z1 : w2.cell? ⟨w1.heap.size, 1, none⟩ = some (.nilFunc) := (by obtain ⟨d1, rfl⟩ := hd1; simp [go_sem]); have z2 : w2.cell? ⟨w1.heap.size, 2, none⟩ = some (.func (.func 55) #[] #[]) := (by obtain ⟨d1, rfl⟩ := hd1; simp [go_sem])) | (go_at_call 55; refine (lf19 m a b _ (by assumption) (by assumption) (by assumption) (by assumption) (by assumption) (by assumption) (by assumption)).mono ?_; rintro e w3 ⟨rfl, hd2⟩; have z3 : w3.cell? ⟨w1.heap.size, 1, none⟩ = some (.nilFunc) := (by obtain ⟨d2, rfl⟩ := hd2; obtain ⟨d1, rfl⟩ := hd1; simp [go_sem])))
        go_ret2
        exact ⟨rfl, ((hb1.trans ((Below.refl _ _).alloc hb1.size _)).trans (hd1.below _)).trans (hd2.below _)⟩
      · have hv : (has 12 m a b && brk 12 fl m a b) = true := by rw [hh, hB, e2, hl] <;> rfl
        rw [hv]
        clear hv hB k1 k2 k4 g
        go_enter Tryd.func26, Tryd.ntmps26
        go_wp2_with (first | (go_at_call 24; refine (asked_l 12 _ _ _ 11 54 55 (fun _ => #[]) _ (fun _ => rfl)).mono ?_; rintro e w1 ⟨h, rfl, ⟨m3, m4, c1, c2, c3, c8, c9, c10⟩, hb1⟩) | (go_at_call 54; refine (pdo_12 _ _ _ _ (by assumption) (by assumption) (by assumption) (by assumption) (by assumption) (by assumption)).mono ?_; rintro e w2 ⟨rfl, hd1⟩; have z1 : w2.cell? ⟨w1.heap.size, 1, none⟩ = some (.nilFunc) := (by obtain ⟨d1, rfl⟩ := hd1; simp [go_sem]); have z2 : w2.cell? ⟨w1.heap.size, 2, none⟩ = some (.func (.func 55) #[] #[]) := (by obtain ⟨d1, rfl⟩ := hd1; simp [go_sem])) | (go_at_call 55; refine (lf19 m a b _ (by assumption) (by assumption) (by assumption) (by assumption) (by assumption) (by assumption) (by assumption)).mono ?_; rintro e w3 ⟨rfl, hd2⟩; have z3 : w3.cell? ⟨w1.heap.size, 1, none⟩ = some (.nilFunc) := (by obtain ⟨d2, rfl⟩ := hd2; obtain ⟨d1, rfl⟩ := hd1; simp [go_sem])))
        go_ret2
        exact ⟨rfl, ((hb1.trans ((Below.refl _ _).alloc hb1.size _)).trans (hd1.below _)).trans (hd2.below _)⟩

set_option maxRecDepth 100000 in
set_option maxHeartbeats 16000000 in
theorem pBreaks_13 (fl n a b : Int) (w : World) (g : good 13 n a b = true) (h3 : 0 ≤ a) (h5 : 0 ≤ b) (f7 : 0 ≤ fl) (f8 : fl ≤ 7) : Calls Tryd.prog 26 #[.int .i64 13, .int .i64 fl, .int .i64 n, .int .u32 a, .int .u32 b] w fun e w' => e = .returned (.tuple #[.bool (has 13 n a b && brk 13 fl n a b), .int .i64 0]) ∧ Below w.heap.size w w' := by
  have ew : ∀ w, (binOp .eql 50 (.nilFunc) .nilFunc).run Tryd.prog w = .ok (.bool true) w := fun _ => by kernel_rfl
  have el : ∀ w, (binOp .neq 51 (.func (.func 58) #[] #[]) .nilFunc).run Tryd.prog w = .ok (.bool true) w := fun _ => by kernel_rfl
  obtain ⟨_, _, h1, h2, h4, h6⟩ := (good_iff _ _ _ _).1 g
  obtain ⟨m, rfl⟩ := Int.eq_ofNat_of_zero_le (show 0 ≤ n by omega)
  have hp := @pw_le32 (m : Int) (by omega)
  have hp0 := pw_pos (m : Int)
  have hw : isW m = true := by simp [isW]; omega
  have fa : fit m a = true := by simp [fit, h4]
  have fb : fit m b = true := by simp [fit, h6]
  obtain ⟨k1, k2, k4⟩ := and_fl fl f7 f8
  have u1 : decide (fl < 0) = false := by simp; omega
  have u2 : decide (7 < fl) = false := by simp; omega
  have hB : brk 13 fl m a b = (f2 fl && brL 13 m a b) := rfl
  rcases (Bool.eq_false_or_eq_true (has 13 m a b)).symm with hh | hh
  · have hv : (has 13 m a b && brk 13 fl m a b) = false := by rw [hh] <;> rfl
    rw [hv]
    clear hv hB k1 k2 k4 g
    go_enter Tryd.func26, Tryd.ntmps26
    go_wp2_with (first | (go_at_call 24; refine (asked_l 13 _ _ _ 12 56 58 (fun _ => #[]) _ (fun _ => rfl)).mono ?_; rintro e w1 ⟨h, rfl, ⟨m3, m4, c1, c2, c3, c8, c9, c10⟩, hb1⟩) | (go_at_call 56; refine (pdo_13 _ _ _ _ (by assumption) (by assumption) (by assumption) (by assumption) (by assumption) (by assumption)).mono ?_; rintro e w2 ⟨rfl, hd1⟩; have z1 : w2.cell? ⟨w1.heap.size, 1, none⟩ = some (.nilFunc) := (by obtain ⟨d1, rfl⟩ := hd1; simp [go_sem]); have z2 : w2.cell? ⟨w1.heap.size, 2, none⟩ = some (.func (.func 58) #[] #[]) := (by obtain ⟨d1, rfl⟩ := hd1; simp [go_sem])) | (go_at_call 58; refine (lf21 m a b _ (by assumption) (by assumption) (by assumption) (by assumption) (by assumption) (by assumption) (by assumption)).mono ?_; rintro e w3 ⟨rfl, hd2⟩; have z3 : w3.cell? ⟨w1.heap.size, 1, none⟩ = some (.nilFunc) := (by obtain ⟨d2, rfl⟩ := hd2; obtain ⟨d1, rfl⟩ := hd1; simp [go_sem])))
    go_ret2
    exact ⟨rfl, ((hb1.trans ((Below.refl _ _).alloc hb1.size _)).trans (hd1.below _))⟩
  · cases e2 : f2 fl
    · have j2 : (bits .and .i64 fl 4 != 0) = false := k4.trans e2
      have hv : (has 13 m a b && brk 13 fl m a b) = false := by rw [hh, hB, e2] <;> rfl
      rw [hv]
      clear hv hB k1 k2 k4 g
      go_enter Tryd.func26, Tryd.ntmps26
      go_wp2_with (first | (go_at_call 24; refine (asked_l 13 _ _ _ 12 56 58 (fun _ => #[]) _ (fun _ => rfl)).mono ?_; rintro e w1 ⟨h, rfl, ⟨m3, m4, c1, c2, c3, c8, c9, c10⟩, hb1⟩) | (go_at_call 56; refine (pdo_13 _ _ _ _ (by assumption) (by assumption) (by assumption) (by assumption) (by assumption) (by assumption)).mono ?_; rintro e w2 ⟨rfl, hd1⟩; have z1 : w2.cell? ⟨w1.heap.size, 1, none⟩ = some (.nilFunc) := (by obtain ⟨d1, rfl⟩ := hd1; simp [go_sem]); have z2 : w2.cell? ⟨w1.heap.size, 2, none⟩ = some (.func (.func 58) #[] #[]) := (by obtain ⟨d1, rfl⟩ := hd1; simp [go_sem])) | (go_at_call 58; refine (lf21 m a b _ (by assumption) (by assumption) (by assumption) (by assumption) (by assumption) (by assumption) (by assumption)).mono ?_; rintro e w3 ⟨rfl, hd2⟩; have z3 : w3.cell? ⟨w1.heap.size, 1, none⟩ = some (.nilFunc) := (by obtain ⟨d2, rfl⟩ := hd2; obtain ⟨d1, rfl⟩ := hd1; simp [go_sem])))
      go_ret2
      exact ⟨rfl, ((hb1.trans ((Below.refl _ _).alloc hb1.size _)).trans (hd1.below _))⟩
    · have j2 : (bits .and .i64 fl 4 != 0) = true := k4.trans e2
      cases hl : brL 13 m a b
      · have hv : (has 13 m a b && brk 13 fl m a b) = false := by rw [hh, hB, e2, hl] <;> rfl
        rw [hv]
        clear hv hB k1 k2 k4 g
        go_enter Tryd.func26, Tryd.ntmps26
        go_wp2_with (first | (go_at_call 24; refine (asked_l 13 _ _ _ 12 56 58 (fun _ => #[]) _ (fun _ => rfl)).mono ?_; rintro e w1 ⟨h, rfl, ⟨m3, m4, c1, c2, c3, c8, c9, c10⟩, hb1⟩) | (go_at_call 56; refine (pdo_13 _ _ _ _ (by assumption) (by assumption) (by assumption) (by assumption) (by assumption) (by assumption)).mono ?_; rintro e w2 ⟨rfl, hd1⟩; have z1 : w2.cell? ⟨w1.heap.size, 1, none⟩ = some (.nilFunc) := (by obtain ⟨d1, rfl⟩ := hd1; simp [go_sem]); have z2 : w2.cell? ⟨w1.heap.size, 2, none⟩ = some (.func (.func 58) #[] #[]) := (by obtain ⟨d1, rfl⟩ := hd1; simp [go_sem])) | (go_at_call 58; refine (lf21 m a b _ (by assumption) (by assumption) (by assumption) (by assumption) (by assumption) (by assumption) (by assumption)).mono ?_; rintro e w3 ⟨rfl, hd2⟩; have z3 : w3.cell? ⟨w1.heap.size, 1, none⟩ = some (.nilFunc) := (by obtain ⟨d2, rfl⟩ := hd2; obtain ⟨d1, rfl⟩ := hd1; simp [go_sem])))
        go_ret2
        exact ⟨rfl, ((hb1.trans ((Below.refl _ _).alloc hb1.size _)).trans (hd1.below _)).trans (hd2.below _)⟩
      · have hv : (has 13 m a b && brk 13 fl m a b) = true := by rw [hh, hB, e2, hl] <;> rfl
        rw [hv]
        clear hv hB k1 k2 k4 g
        go_enter Tryd.func26, Tryd.ntmps26
        go_wp2_with (first | (go_at_call 24; refine (asked_l 13 _ _ _ 12 56 58 (fun _ => #[]) _ (fun _ => rfl)).mono ?_; rintro e w1 ⟨h, rfl, ⟨m3, m4, c1, c2, c3, c8, c9, c10⟩, hb1⟩) | (go_at_call 56; refine (pdo_13 _ _ _ _ (by assumption) (by assumption) (by assumption) (by assumption) (by assumption) (by assumption)).mono ?_; rintro e w2 ⟨rfl, hd1⟩; have z1 : w2.cell? ⟨w1.heap.size, 1, none⟩ = some (.nilFunc) := (by obtain ⟨d1, rfl⟩ := hd1; simp [go_sem]); have z2 : w2.cell? ⟨w1.heap.size, 2, none⟩ = some (.func (.func 58) #[] #[]) := (by obtain ⟨d1, rfl⟩ := hd1; simp [go_sem])) | (go_at_call 58; refine (lf21 m a b _ (by assumption) (by assumption) (by assumption) (by assumption) (by assumption) (by assumption) (by assumption)).mono ?_; rintro e w3 ⟨rfl, hd2⟩; have z3 : w3.cell? ⟨w1.heap.size, 1, none⟩ = some (.nilFunc) := (by obtain ⟨d2, rfl⟩ := hd2; obtain ⟨d1, rfl⟩ := hd1; simp [go_sem])))
        go_ret2
        exact ⟨rfl, ((hb1.trans ((Below.refl _ _).alloc hb1.size _)).trans (hd1.below _)).trans (hd2.below _)⟩

end Go.Proofs.YtpgbepgbgpjmcaaDoor
