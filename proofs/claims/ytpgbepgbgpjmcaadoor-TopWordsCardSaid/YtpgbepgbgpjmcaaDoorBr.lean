/- Breaks of package bits, for all numbers. -/
import Derived.Test.YtpgbepgbgpjmcaaDoorBq1
import Derived.Test.YtpgbepgbgpjmcaaDoorBq2
import Derived.Test.YtpgbepgbgpjmcaaDoorBq3
import Derived.Test.YtpgbepgbgpjmcaaDoorBq4
import Derived.Test.YtpgbepgbgpjmcaaDoorBq5
namespace Go.Proofs.YtpgbepgbgpjmcaaDoor
open Go.RowKit Wd
set_option linter.unusedVariables false
set_option linter.unusedSimpArgs false

theorem pBreaks_bad (op fl n a b : Int) (w : World) (g : good op n a b = false) : Calls Tryd.prog 26 #[.int .i64 op, .int .i64 fl, .int .i64 n, .int .u32 a, .int .u32 b] w fun e w' => e = .returned (.tuple #[.bool false, .int .i64 1]) ∧ Below w.heap.size w w' := by
  go_enter Tryd.func26, Tryd.ntmps26
  go_wp2_with (first | (go_at_call 24; refine (asked_bad _ _ _ _ _ (by assumption)).mono ?_; rintro e w1 ⟨v, rfl, (⟨fd, fw, cd, rfl⟩ | ⟨fd, fl, cd, rfl⟩ | ⟨fd, cd, rfl⟩ | rfl), hb1⟩))
  all_goals go_ret2
  all_goals exact ⟨rfl, hb1.trans ((Below.refl _ _).alloc hb1.size _)⟩

set_option maxHeartbeats 4000000 in
theorem pBreaks_fl1 (fl n a b : Int) (w : World) (hf : ¬ (0 ≤ fl ∧ fl ≤ 7)) : Calls Tryd.prog 26 #[.int .i64 1, .int .i64 fl, .int .i64 n, .int .u32 a, .int .u32 b] w fun e w' => e = .returned (.tuple #[.bool false, .int .i64 1]) ∧ Below w.heap.size w w' := by
  cases hx : (isW n && fit n a && fit n b)
  · skip
    go_enter Tryd.func26, Tryd.ntmps26
    go_wp2_with (first | (go_at_call 24; refine (asked_w 1 n a b 0 59 34 (fun h => #[.pointer (some ⟨h + 1, 0, none⟩)]) _ (fun _ => rfl)).mono ?_; rintro e w1 ⟨h, rfl, ⟨m3, m4, c1, c2, c3, c8, c9, c10⟩, hb1⟩))
    go_ret2
    exact ⟨rfl, hb1.trans ((Below.refl _ _).alloc hb1.size _)⟩
  · rcases Int.lt_or_le fl 0 with hn | hn
    · have u1 : decide (fl < 0) = true := by simpa using hn
      go_enter Tryd.func26, Tryd.ntmps26
      go_wp2_with (first | (go_at_call 24; refine (asked_w 1 n a b 0 59 34 (fun h => #[.pointer (some ⟨h + 1, 0, none⟩)]) _ (fun _ => rfl)).mono ?_; rintro e w1 ⟨h, rfl, ⟨m3, m4, c1, c2, c3, c8, c9, c10⟩, hb1⟩))
      go_ret2
      exact ⟨rfl, hb1.trans ((Below.refl _ _).alloc hb1.size _)⟩
    · have u1 : decide (fl < 0) = false := by simp; omega
      have u2 : decide (7 < fl) = true := by simp; omega
      go_enter Tryd.func26, Tryd.ntmps26
      go_wp2_with (first | (go_at_call 24; refine (asked_w 1 n a b 0 59 34 (fun h => #[.pointer (some ⟨h + 1, 0, none⟩)]) _ (fun _ => rfl)).mono ?_; rintro e w1 ⟨h, rfl, ⟨m3, m4, c1, c2, c3, c8, c9, c10⟩, hb1⟩))
      go_ret2
      exact ⟨rfl, hb1.trans ((Below.refl _ _).alloc hb1.size _)⟩

set_option maxHeartbeats 4000000 in
theorem pBreaks_fl2 (fl n a b : Int) (w : World) (hf : ¬ (0 ≤ fl ∧ fl ≤ 7)) : Calls Tryd.prog 26 #[.int .i64 2, .int .i64 fl, .int .i64 n, .int .u32 a, .int .u32 b] w fun e w' => e = .returned (.tuple #[.bool false, .int .i64 1]) ∧ Below w.heap.size w w' := by
  cases hx : (isW n && fit n a && fit n b)
  · skip
    go_enter Tryd.func26, Tryd.ntmps26
    go_wp2_with (first | (go_at_call 24; refine (asked_w 2 n a b 1 59 36 (fun h => #[.pointer (some ⟨h + 3, 0, none⟩)]) _ (fun _ => rfl)).mono ?_; rintro e w1 ⟨h, rfl, ⟨m3, m4, c1, c2, c3, c8, c9, c10⟩, hb1⟩))
    go_ret2
    exact ⟨rfl, hb1.trans ((Below.refl _ _).alloc hb1.size _)⟩
  · rcases Int.lt_or_le fl 0 with hn | hn
    · have u1 : decide (fl < 0) = true := by simpa using hn
      go_enter Tryd.func26, Tryd.ntmps26
      go_wp2_with (first | (go_at_call 24; refine (asked_w 2 n a b 1 59 36 (fun h => #[.pointer (some ⟨h + 3, 0, none⟩)]) _ (fun _ => rfl)).mono ?_; rintro e w1 ⟨h, rfl, ⟨m3, m4, c1, c2, c3, c8, c9, c10⟩, hb1⟩))
      go_ret2
      exact ⟨rfl, hb1.trans ((Below.refl _ _).alloc hb1.size _)⟩
    · have u1 : decide (fl < 0) = false := by simp; omega
      have u2 : decide (7 < fl) = true := by simp; omega
      go_enter Tryd.func26, Tryd.ntmps26
      go_wp2_with (first | (go_at_call 24; refine (asked_w 2 n a b 1 59 36 (fun h => #[.pointer (some ⟨h + 3, 0, none⟩)]) _ (fun _ => rfl)).mono ?_; rintro e w1 ⟨h, rfl, ⟨m3, m4, c1, c2, c3, c8, c9, c10⟩, hb1⟩))
      go_ret2
      exact ⟨rfl, hb1.trans ((Below.refl _ _).alloc hb1.size _)⟩

set_option maxHeartbeats 4000000 in
theorem pBreaks_fl3 (fl n a b : Int) (w : World) (hf : ¬ (0 ≤ fl ∧ fl ≤ 7)) : Calls Tryd.prog 26 #[.int .i64 3, .int .i64 fl, .int .i64 n, .int .u32 a, .int .u32 b] w fun e w' => e = .returned (.tuple #[.bool false, .int .i64 1]) ∧ Below w.heap.size w w' := by
  cases hx : (isW n && fit n a && fit n b)
  · skip
    go_enter Tryd.func26, Tryd.ntmps26
    go_wp2_with (first | (go_at_call 24; refine (asked_w 3 n a b 2 59 38 (fun h => #[.pointer (some ⟨h + 5, 0, none⟩)]) _ (fun _ => rfl)).mono ?_; rintro e w1 ⟨h, rfl, ⟨m3, m4, c1, c2, c3, c8, c9, c10⟩, hb1⟩))
    go_ret2
    exact ⟨rfl, hb1.trans ((Below.refl _ _).alloc hb1.size _)⟩
  · rcases Int.lt_or_le fl 0 with hn | hn
    · have u1 : decide (fl < 0) = true := by simpa using hn
      go_enter Tryd.func26, Tryd.ntmps26
      go_wp2_with (first | (go_at_call 24; refine (asked_w 3 n a b 2 59 38 (fun h => #[.pointer (some ⟨h + 5, 0, none⟩)]) _ (fun _ => rfl)).mono ?_; rintro e w1 ⟨h, rfl, ⟨m3, m4, c1, c2, c3, c8, c9, c10⟩, hb1⟩))
      go_ret2
      exact ⟨rfl, hb1.trans ((Below.refl _ _).alloc hb1.size _)⟩
    · have u1 : decide (fl < 0) = false := by simp; omega
      have u2 : decide (7 < fl) = true := by simp; omega
      go_enter Tryd.func26, Tryd.ntmps26
      go_wp2_with (first | (go_at_call 24; refine (asked_w 3 n a b 2 59 38 (fun h => #[.pointer (some ⟨h + 5, 0, none⟩)]) _ (fun _ => rfl)).mono ?_; rintro e w1 ⟨h, rfl, ⟨m3, m4, c1, c2, c3, c8, c9, c10⟩, hb1⟩))
      go_ret2
      exact ⟨rfl, hb1.trans ((Below.refl _ _).alloc hb1.size _)⟩

set_option maxHeartbeats 4000000 in
theorem pBreaks_fl4 (fl n a b : Int) (w : World) (hf : ¬ (0 ≤ fl ∧ fl ≤ 7)) : Calls Tryd.prog 26 #[.int .i64 4, .int .i64 fl, .int .i64 n, .int .u32 a, .int .u32 b] w fun e w' => e = .returned (.tuple #[.bool false, .int .i64 1]) ∧ Below w.heap.size w w' := by
  cases hx : (isW n && fit n a && fit n b)
  · skip
    go_enter Tryd.func26, Tryd.ntmps26
    go_wp2_with (first | (go_at_call 24; refine (asked_l 4 n a b 3 41 42 (fun _ => #[]) _ (fun _ => rfl)).mono ?_; rintro e w1 ⟨h, rfl, ⟨m3, m4, c1, c2, c3, c8, c9, c10⟩, hb1⟩))
    go_ret2
    exact ⟨rfl, hb1.trans ((Below.refl _ _).alloc hb1.size _)⟩
  · rcases Int.lt_or_le fl 0 with hn | hn
    · have u1 : decide (fl < 0) = true := by simpa using hn
      go_enter Tryd.func26, Tryd.ntmps26
      go_wp2_with (first | (go_at_call 24; refine (asked_l 4 n a b 3 41 42 (fun _ => #[]) _ (fun _ => rfl)).mono ?_; rintro e w1 ⟨h, rfl, ⟨m3, m4, c1, c2, c3, c8, c9, c10⟩, hb1⟩))
      go_ret2
      exact ⟨rfl, hb1.trans ((Below.refl _ _).alloc hb1.size _)⟩
    · have u1 : decide (fl < 0) = false := by simp; omega
      have u2 : decide (7 < fl) = true := by simp; omega
      go_enter Tryd.func26, Tryd.ntmps26
      go_wp2_with (first | (go_at_call 24; refine (asked_l 4 n a b 3 41 42 (fun _ => #[]) _ (fun _ => rfl)).mono ?_; rintro e w1 ⟨h, rfl, ⟨m3, m4, c1, c2, c3, c8, c9, c10⟩, hb1⟩))
      go_ret2
      exact ⟨rfl, hb1.trans ((Below.refl _ _).alloc hb1.size _)⟩

set_option maxHeartbeats 4000000 in
theorem pBreaks_fl5 (fl n a b : Int) (w : World) (hf : ¬ (0 ≤ fl ∧ fl ≤ 7)) : Calls Tryd.prog 26 #[.int .i64 5, .int .i64 fl, .int .i64 n, .int .u32 a, .int .u32 b] w fun e w' => e = .returned (.tuple #[.bool false, .int .i64 1]) ∧ Below w.heap.size w w' := by
  cases hx : (isW n && fit n a && fit n b)
  · skip
    go_enter Tryd.func26, Tryd.ntmps26
    go_wp2_with (first | (go_at_call 24; refine (asked_n 5 n a b 4 43 (fun _ => #[]) _ (fun _ => rfl)).mono ?_; rintro e w1 ⟨h, rfl, ⟨m3, m4, c1, c2, c3, c8, c9, c10⟩, hb1⟩))
    go_ret2
    exact ⟨rfl, hb1.trans ((Below.refl _ _).alloc hb1.size _)⟩
  · rcases Int.lt_or_le fl 0 with hn | hn
    · have u1 : decide (fl < 0) = true := by simpa using hn
      go_enter Tryd.func26, Tryd.ntmps26
      go_wp2_with (first | (go_at_call 24; refine (asked_n 5 n a b 4 43 (fun _ => #[]) _ (fun _ => rfl)).mono ?_; rintro e w1 ⟨h, rfl, ⟨m3, m4, c1, c2, c3, c8, c9, c10⟩, hb1⟩))
      go_ret2
      exact ⟨rfl, hb1.trans ((Below.refl _ _).alloc hb1.size _)⟩
    · have u1 : decide (fl < 0) = false := by simp; omega
      have u2 : decide (7 < fl) = true := by simp; omega
      go_enter Tryd.func26, Tryd.ntmps26
      go_wp2_with (first | (go_at_call 24; refine (asked_n 5 n a b 4 43 (fun _ => #[]) _ (fun _ => rfl)).mono ?_; rintro e w1 ⟨h, rfl, ⟨m3, m4, c1, c2, c3, c8, c9, c10⟩, hb1⟩))
      go_ret2
      exact ⟨rfl, hb1.trans ((Below.refl _ _).alloc hb1.size _)⟩

set_option maxHeartbeats 4000000 in
theorem pBreaks_fl6 (fl n a b : Int) (w : World) (hf : ¬ (0 ≤ fl ∧ fl ≤ 7)) : Calls Tryd.prog 26 #[.int .i64 6, .int .i64 fl, .int .i64 n, .int .u32 a, .int .u32 b] w fun e w' => e = .returned (.tuple #[.bool false, .int .i64 1]) ∧ Below w.heap.size w w' := by
  cases hx : (isW n && fit n a && fit n b)
  · skip
    go_enter Tryd.func26, Tryd.ntmps26
    go_wp2_with (first | (go_at_call 24; refine (asked_l 6 n a b 5 44 46 (fun _ => #[]) _ (fun _ => rfl)).mono ?_; rintro e w1 ⟨h, rfl, ⟨m3, m4, c1, c2, c3, c8, c9, c10⟩, hb1⟩))
    go_ret2
    exact ⟨rfl, hb1.trans ((Below.refl _ _).alloc hb1.size _)⟩
  · rcases Int.lt_or_le fl 0 with hn | hn
    · have u1 : decide (fl < 0) = true := by simpa using hn
      go_enter Tryd.func26, Tryd.ntmps26
      go_wp2_with (first | (go_at_call 24; refine (asked_l 6 n a b 5 44 46 (fun _ => #[]) _ (fun _ => rfl)).mono ?_; rintro e w1 ⟨h, rfl, ⟨m3, m4, c1, c2, c3, c8, c9, c10⟩, hb1⟩))
      go_ret2
      exact ⟨rfl, hb1.trans ((Below.refl _ _).alloc hb1.size _)⟩
    · have u1 : decide (fl < 0) = false := by simp; omega
      have u2 : decide (7 < fl) = true := by simp; omega
      go_enter Tryd.func26, Tryd.ntmps26
      go_wp2_with (first | (go_at_call 24; refine (asked_l 6 n a b 5 44 46 (fun _ => #[]) _ (fun _ => rfl)).mono ?_; rintro e w1 ⟨h, rfl, ⟨m3, m4, c1, c2, c3, c8, c9, c10⟩, hb1⟩))
      go_ret2
      exact ⟨rfl, hb1.trans ((Below.refl _ _).alloc hb1.size _)⟩

set_option maxHeartbeats 4000000 in
theorem pBreaks_fl7 (fl n a b : Int) (w : World) (hf : ¬ (0 ≤ fl ∧ fl ≤ 7)) : Calls Tryd.prog 26 #[.int .i64 7, .int .i64 fl, .int .i64 n, .int .u32 a, .int .u32 b] w fun e w' => e = .returned (.tuple #[.bool false, .int .i64 1]) ∧ Below w.heap.size w w' := by
  cases hx : (isW n && fit n a && fit n b)
  · skip
    go_enter Tryd.func26, Tryd.ntmps26
    go_wp2_with (first | (go_at_call 24; refine (asked_n 7 n a b 6 47 (fun _ => #[]) _ (fun _ => rfl)).mono ?_; rintro e w1 ⟨h, rfl, ⟨m3, m4, c1, c2, c3, c8, c9, c10⟩, hb1⟩))
    go_ret2
    exact ⟨rfl, hb1.trans ((Below.refl _ _).alloc hb1.size _)⟩
  · rcases Int.lt_or_le fl 0 with hn | hn
    · have u1 : decide (fl < 0) = true := by simpa using hn
      go_enter Tryd.func26, Tryd.ntmps26
      go_wp2_with (first | (go_at_call 24; refine (asked_n 7 n a b 6 47 (fun _ => #[]) _ (fun _ => rfl)).mono ?_; rintro e w1 ⟨h, rfl, ⟨m3, m4, c1, c2, c3, c8, c9, c10⟩, hb1⟩))
      go_ret2
      exact ⟨rfl, hb1.trans ((Below.refl _ _).alloc hb1.size _)⟩
    · have u1 : decide (fl < 0) = false := by simp; omega
      have u2 : decide (7 < fl) = true := by simp; omega
      go_enter Tryd.func26, Tryd.ntmps26
      go_wp2_with (first | (go_at_call 24; refine (asked_n 7 n a b 6 47 (fun _ => #[]) _ (fun _ => rfl)).mono ?_; rintro e w1 ⟨h, rfl, ⟨m3, m4, c1, c2, c3, c8, c9, c10⟩, hb1⟩))
      go_ret2
      exact ⟨rfl, hb1.trans ((Below.refl _ _).alloc hb1.size _)⟩

set_option maxHeartbeats 4000000 in
theorem pBreaks_fl8 (fl n a b : Int) (w : World) (hf : ¬ (0 ≤ fl ∧ fl ≤ 7)) : Calls Tryd.prog 26 #[.int .i64 8, .int .i64 fl, .int .i64 n, .int .u32 a, .int .u32 b] w fun e w' => e = .returned (.tuple #[.bool false, .int .i64 1]) ∧ Below w.heap.size w w' := by
  cases hx : (isW n && fit n a && fit n b)
  · skip
    go_enter Tryd.func26, Tryd.ntmps26
    go_wp2_with (first | (go_at_call 24; refine (asked_n 8 n a b 7 60 (fun h => #[.pointer (some ⟨h + 7, 0, none⟩)]) _ (fun _ => rfl)).mono ?_; rintro e w1 ⟨h, rfl, ⟨m3, m4, c1, c2, c3, c8, c9, c10⟩, hb1⟩))
    go_ret2
    exact ⟨rfl, hb1.trans ((Below.refl _ _).alloc hb1.size _)⟩
  · rcases Int.lt_or_le fl 0 with hn | hn
    · have u1 : decide (fl < 0) = true := by simpa using hn
      go_enter Tryd.func26, Tryd.ntmps26
      go_wp2_with (first | (go_at_call 24; refine (asked_n 8 n a b 7 60 (fun h => #[.pointer (some ⟨h + 7, 0, none⟩)]) _ (fun _ => rfl)).mono ?_; rintro e w1 ⟨h, rfl, ⟨m3, m4, c1, c2, c3, c8, c9, c10⟩, hb1⟩))
      go_ret2
      exact ⟨rfl, hb1.trans ((Below.refl _ _).alloc hb1.size _)⟩
    · have u1 : decide (fl < 0) = false := by simp; omega
      have u2 : decide (7 < fl) = true := by simp; omega
      go_enter Tryd.func26, Tryd.ntmps26
      go_wp2_with (first | (go_at_call 24; refine (asked_n 8 n a b 7 60 (fun h => #[.pointer (some ⟨h + 7, 0, none⟩)]) _ (fun _ => rfl)).mono ?_; rintro e w1 ⟨h, rfl, ⟨m3, m4, c1, c2, c3, c8, c9, c10⟩, hb1⟩))
      go_ret2
      exact ⟨rfl, hb1.trans ((Below.refl _ _).alloc hb1.size _)⟩

set_option maxHeartbeats 4000000 in
theorem pBreaks_fl9 (fl n a b : Int) (w : World) (hf : ¬ (0 ≤ fl ∧ fl ≤ 7)) : Calls Tryd.prog 26 #[.int .i64 9, .int .i64 fl, .int .i64 n, .int .u32 a, .int .u32 b] w fun e w' => e = .returned (.tuple #[.bool false, .int .i64 1]) ∧ Below w.heap.size w w' := by
  cases hx : (isW n && fit n a && fit n b)
  · skip
    go_enter Tryd.func26, Tryd.ntmps26
    go_wp2_with (first | (go_at_call 24; refine (asked_n 9 n a b 8 60 (fun h => #[.pointer (some ⟨h + 9, 0, none⟩)]) _ (fun _ => rfl)).mono ?_; rintro e w1 ⟨h, rfl, ⟨m3, m4, c1, c2, c3, c8, c9, c10⟩, hb1⟩))
    go_ret2
    exact ⟨rfl, hb1.trans ((Below.refl _ _).alloc hb1.size _)⟩
  · rcases Int.lt_or_le fl 0 with hn | hn
    · have u1 : decide (fl < 0) = true := by simpa using hn
      go_enter Tryd.func26, Tryd.ntmps26
      go_wp2_with (first | (go_at_call 24; refine (asked_n 9 n a b 8 60 (fun h => #[.pointer (some ⟨h + 9, 0, none⟩)]) _ (fun _ => rfl)).mono ?_; rintro e w1 ⟨h, rfl, ⟨m3, m4, c1, c2, c3, c8, c9, c10⟩, hb1⟩))
      go_ret2
      exact ⟨rfl, hb1.trans ((Below.refl _ _).alloc hb1.size _)⟩
    · have u1 : decide (fl < 0) = false := by simp; omega
      have u2 : decide (7 < fl) = true := by simp; omega
      go_enter Tryd.func26, Tryd.ntmps26
      go_wp2_with (first | (go_at_call 24; refine (asked_n 9 n a b 8 60 (fun h => #[.pointer (some ⟨h + 9, 0, none⟩)]) _ (fun _ => rfl)).mono ?_; rintro e w1 ⟨h, rfl, ⟨m3, m4, c1, c2, c3, c8, c9, c10⟩, hb1⟩))
      go_ret2
      exact ⟨rfl, hb1.trans ((Below.refl _ _).alloc hb1.size _)⟩

set_option maxHeartbeats 4000000 in
theorem pBreaks_fl10 (fl n a b : Int) (w : World) (hf : ¬ (0 ≤ fl ∧ fl ≤ 7)) : Calls Tryd.prog 26 #[.int .i64 10, .int .i64 fl, .int .i64 n, .int .u32 a, .int .u32 b] w fun e w' => e = .returned (.tuple #[.bool false, .int .i64 1]) ∧ Below w.heap.size w w' := by
  cases hx : (isW n && fit n a && fit n b)
  · skip
    go_enter Tryd.func26, Tryd.ntmps26
    go_wp2_with (first | (go_at_call 24; refine (asked_n 10 n a b 9 60 (fun h => #[.pointer (some ⟨h + 11, 0, none⟩)]) _ (fun _ => rfl)).mono ?_; rintro e w1 ⟨h, rfl, ⟨m3, m4, c1, c2, c3, c8, c9, c10⟩, hb1⟩))
    go_ret2
    exact ⟨rfl, hb1.trans ((Below.refl _ _).alloc hb1.size _)⟩
  · rcases Int.lt_or_le fl 0 with hn | hn
    · have u1 : decide (fl < 0) = true := by simpa using hn
      go_enter Tryd.func26, Tryd.ntmps26
      go_wp2_with (first | (go_at_call 24; refine (asked_n 10 n a b 9 60 (fun h => #[.pointer (some ⟨h + 11, 0, none⟩)]) _ (fun _ => rfl)).mono ?_; rintro e w1 ⟨h, rfl, ⟨m3, m4, c1, c2, c3, c8, c9, c10⟩, hb1⟩))
      go_ret2
      exact ⟨rfl, hb1.trans ((Below.refl _ _).alloc hb1.size _)⟩
    · have u1 : decide (fl < 0) = false := by simp; omega
      have u2 : decide (7 < fl) = true := by simp; omega
      go_enter Tryd.func26, Tryd.ntmps26
      go_wp2_with (first | (go_at_call 24; refine (asked_n 10 n a b 9 60 (fun h => #[.pointer (some ⟨h + 11, 0, none⟩)]) _ (fun _ => rfl)).mono ?_; rintro e w1 ⟨h, rfl, ⟨m3, m4, c1, c2, c3, c8, c9, c10⟩, hb1⟩))
      go_ret2
      exact ⟨rfl, hb1.trans ((Below.refl _ _).alloc hb1.size _)⟩

set_option maxHeartbeats 4000000 in
theorem pBreaks_fl11 (fl n a b : Int) (w : World) (hf : ¬ (0 ≤ fl ∧ fl ≤ 7)) : Calls Tryd.prog 26 #[.int .i64 11, .int .i64 fl, .int .i64 n, .int .u32 a, .int .u32 b] w fun e w' => e = .returned (.tuple #[.bool false, .int .i64 1]) ∧ Below w.heap.size w w' := by
  cases hx : (isW n && fit n a && fit n b)
  · skip
    go_enter Tryd.func26, Tryd.ntmps26
    go_wp2_with (first | (go_at_call 24; refine (asked_w 11 n a b 10 52 53 (fun _ => #[]) _ (fun _ => rfl)).mono ?_; rintro e w1 ⟨h, rfl, ⟨m3, m4, c1, c2, c3, c8, c9, c10⟩, hb1⟩))
    go_ret2
    exact ⟨rfl, hb1.trans ((Below.refl _ _).alloc hb1.size _)⟩
  · rcases Int.lt_or_le fl 0 with hn | hn
    · have u1 : decide (fl < 0) = true := by simpa using hn
      go_enter Tryd.func26, Tryd.ntmps26
      go_wp2_with (first | (go_at_call 24; refine (asked_w 11 n a b 10 52 53 (fun _ => #[]) _ (fun _ => rfl)).mono ?_; rintro e w1 ⟨h, rfl, ⟨m3, m4, c1, c2, c3, c8, c9, c10⟩, hb1⟩))
      go_ret2
      exact ⟨rfl, hb1.trans ((Below.refl _ _).alloc hb1.size _)⟩
    · have u1 : decide (fl < 0) = false := by simp; omega
      have u2 : decide (7 < fl) = true := by simp; omega
      go_enter Tryd.func26, Tryd.ntmps26
      go_wp2_with (first | (go_at_call 24; refine (asked_w 11 n a b 10 52 53 (fun _ => #[]) _ (fun _ => rfl)).mono ?_; rintro e w1 ⟨h, rfl, ⟨m3, m4, c1, c2, c3, c8, c9, c10⟩, hb1⟩))
      go_ret2
      exact ⟨rfl, hb1.trans ((Below.refl _ _).alloc hb1.size _)⟩

set_option maxHeartbeats 4000000 in
theorem pBreaks_fl12 (fl n a b : Int) (w : World) (hf : ¬ (0 ≤ fl ∧ fl ≤ 7)) : Calls Tryd.prog 26 #[.int .i64 12, .int .i64 fl, .int .i64 n, .int .u32 a, .int .u32 b] w fun e w' => e = .returned (.tuple #[.bool false, .int .i64 1]) ∧ Below w.heap.size w w' := by
  cases hx : (isW n && fit n a && fit n b)
  · skip
    go_enter Tryd.func26, Tryd.ntmps26
    go_wp2_with (first | (go_at_call 24; refine (asked_l 12 n a b 11 54 55 (fun _ => #[]) _ (fun _ => rfl)).mono ?_; rintro e w1 ⟨h, rfl, ⟨m3, m4, c1, c2, c3, c8, c9, c10⟩, hb1⟩))
    go_ret2
    exact ⟨rfl, hb1.trans ((Below.refl _ _).alloc hb1.size _)⟩
  · rcases Int.lt_or_le fl 0 with hn | hn
    · have u1 : decide (fl < 0) = true := by simpa using hn
      go_enter Tryd.func26, Tryd.ntmps26
      go_wp2_with (first | (go_at_call 24; refine (asked_l 12 n a b 11 54 55 (fun _ => #[]) _ (fun _ => rfl)).mono ?_; rintro e w1 ⟨h, rfl, ⟨m3, m4, c1, c2, c3, c8, c9, c10⟩, hb1⟩))
      go_ret2
      exact ⟨rfl, hb1.trans ((Below.refl _ _).alloc hb1.size _)⟩
    · have u1 : decide (fl < 0) = false := by simp; omega
      have u2 : decide (7 < fl) = true := by simp; omega
      go_enter Tryd.func26, Tryd.ntmps26
      go_wp2_with (first | (go_at_call 24; refine (asked_l 12 n a b 11 54 55 (fun _ => #[]) _ (fun _ => rfl)).mono ?_; rintro e w1 ⟨h, rfl, ⟨m3, m4, c1, c2, c3, c8, c9, c10⟩, hb1⟩))
      go_ret2
      exact ⟨rfl, hb1.trans ((Below.refl _ _).alloc hb1.size _)⟩

set_option maxHeartbeats 4000000 in
theorem pBreaks_fl13 (fl n a b : Int) (w : World) (hf : ¬ (0 ≤ fl ∧ fl ≤ 7)) : Calls Tryd.prog 26 #[.int .i64 13, .int .i64 fl, .int .i64 n, .int .u32 a, .int .u32 b] w fun e w' => e = .returned (.tuple #[.bool false, .int .i64 1]) ∧ Below w.heap.size w w' := by
  cases hx : (isW n && fit n a && fit n b)
  · skip
    go_enter Tryd.func26, Tryd.ntmps26
    go_wp2_with (first | (go_at_call 24; refine (asked_l 13 n a b 12 56 58 (fun _ => #[]) _ (fun _ => rfl)).mono ?_; rintro e w1 ⟨h, rfl, ⟨m3, m4, c1, c2, c3, c8, c9, c10⟩, hb1⟩))
    go_ret2
    exact ⟨rfl, hb1.trans ((Below.refl _ _).alloc hb1.size _)⟩
  · rcases Int.lt_or_le fl 0 with hn | hn
    · have u1 : decide (fl < 0) = true := by simpa using hn
      go_enter Tryd.func26, Tryd.ntmps26
      go_wp2_with (first | (go_at_call 24; refine (asked_l 13 n a b 12 56 58 (fun _ => #[]) _ (fun _ => rfl)).mono ?_; rintro e w1 ⟨h, rfl, ⟨m3, m4, c1, c2, c3, c8, c9, c10⟩, hb1⟩))
      go_ret2
      exact ⟨rfl, hb1.trans ((Below.refl _ _).alloc hb1.size _)⟩
    · have u1 : decide (fl < 0) = false := by simp; omega
      have u2 : decide (7 < fl) = true := by simp; omega
      go_enter Tryd.func26, Tryd.ntmps26
      go_wp2_with (first | (go_at_call 24; refine (asked_l 13 n a b 12 56 58 (fun _ => #[]) _ (fun _ => rfl)).mono ?_; rintro e w1 ⟨h, rfl, ⟨m3, m4, c1, c2, c3, c8, c9, c10⟩, hb1⟩))
      go_ret2
      exact ⟨rfl, hb1.trans ((Below.refl _ _).alloc hb1.size _)⟩

theorem pBreaks_any (op fl n a b : Int) (w : World) (h3 : 0 ≤ a) (h5 : 0 ≤ b) : Calls Tryd.prog 26 #[.int .i64 op, .int .i64 fl, .int .i64 n, .int .u32 a, .int .u32 b] w fun e w' => e = .returned (.tuple #[.bool (brX op fl n a b), .int .i64 (brE op fl n a b)]) ∧ Below w.heap.size w w' := by
  cases g : good op n a b
  · have hv : brX op fl n a b = false ∧ brE op fl n a b = 1 := by simp [brX, brE, goodF, g]
    rw [hv.1, hv.2]
    exact pBreaks_bad op fl n a b w g
  · obtain ⟨g1, g2, _⟩ := (good_iff _ _ _ _).1 g
    have h : op = 1 ∨ op = 2 ∨ op = 3 ∨ op = 4 ∨ op = 5 ∨ op = 6 ∨ op = 7 ∨ op = 8 ∨ op = 9 ∨ op = 10 ∨ op = 11 ∨ op = 12 ∨ op = 13 := by omega
    by_cases hf : 0 ≤ fl ∧ fl ≤ 7
    · have hv : brX op fl n a b = (has op n a b && brk op fl n a b) ∧ brE op fl n a b = 0 := by simp [brX, brE, goodF, g, hf]
      rw [hv.1, hv.2]
      rcases h with rfl | rfl | rfl | rfl | rfl | rfl | rfl | rfl | rfl | rfl | rfl | rfl | rfl
      · exact pBreaks_1 fl n a b w g h3 h5 hf.1 hf.2
      · exact pBreaks_2 fl n a b w g h3 h5 hf.1 hf.2
      · exact pBreaks_3 fl n a b w g h3 h5 hf.1 hf.2
      · exact pBreaks_4 fl n a b w g h3 h5 hf.1 hf.2
      · exact pBreaks_5 fl n a b w g h3 h5 hf.1 hf.2
      · exact pBreaks_6 fl n a b w g h3 h5 hf.1 hf.2
      · exact pBreaks_7 fl n a b w g h3 h5 hf.1 hf.2
      · exact pBreaks_8 fl n a b w g h3 h5 hf.1 hf.2
      · exact pBreaks_9 fl n a b w g h3 h5 hf.1 hf.2
      · exact pBreaks_10 fl n a b w g h3 h5 hf.1 hf.2
      · exact pBreaks_11 fl n a b w g h3 h5 hf.1 hf.2
      · exact pBreaks_12 fl n a b w g h3 h5 hf.1 hf.2
      · exact pBreaks_13 fl n a b w g h3 h5 hf.1 hf.2
    · have hv : brX op fl n a b = false ∧ brE op fl n a b = 1 := by simp [brX, brE, goodF, hf]
      rw [hv.1, hv.2]
      rcases h with rfl | rfl | rfl | rfl | rfl | rfl | rfl | rfl | rfl | rfl | rfl | rfl | rfl
      · exact pBreaks_fl1 fl n a b w hf
      · exact pBreaks_fl2 fl n a b w hf
      · exact pBreaks_fl3 fl n a b w hf
      · exact pBreaks_fl4 fl n a b w hf
      · exact pBreaks_fl5 fl n a b w hf
      · exact pBreaks_fl6 fl n a b w hf
      · exact pBreaks_fl7 fl n a b w hf
      · exact pBreaks_fl8 fl n a b w hf
      · exact pBreaks_fl9 fl n a b w hf
      · exact pBreaks_fl10 fl n a b w hf
      · exact pBreaks_fl11 fl n a b w hf
      · exact pBreaks_fl12 fl n a b w hf
      · exact pBreaks_fl13 fl n a b w hf

end Go.Proofs.YtpgbepgbgpjmcaaDoor
