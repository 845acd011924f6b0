/- Walks of holds and Holds, of the program and of the reference. -/
import Derived.Test.YtdojafpjipcbjaaF2
import Derived.Test.YtdojafpjipcbjaaF5
namespace Go.Proofs.Ytdojafpjipcbjaa
open Go.RowKit
set_option linter.unusedVariables false
set_option linter.unusedSimpArgs false
def caF (f : Int) : Bool := f % 2 == 1
def zeF (f : Int) : Bool := f / 2 % 2 == 1
def siF (f : Int) : Bool := f / 4 % 2 == 1
def ovF (f : Int) : Bool := f / 8 % 2 == 1
/-- Whether a condition holds of flags. -/
def hoB (c f : Int) : Bool :=
  (if c / 2 = 0 then ovF f else if c / 2 = 1 then caF f else if c / 2 = 2 then zeF f else if c / 2 = 3 then (caF f || zeF f) else if c / 2 = 4 then siF f
   else if c / 2 = 6 then (siF f != ovF f) else if c / 2 = 7 then (zeF f || (siF f != ovF f)) else false) != (c % 2 == 1)
theorem isC_cases {c : Int} (h : isC c = true) : c = 0 ∨ c = 1 ∨ c = 2 ∨ c = 3 ∨ c = 4 ∨ c = 5 ∨ c = 6 ∨ c = 7 ∨ c = 8 ∨ c = 9 ∨ c = 12 ∨ c = 13 ∨ c = 14 ∨ c = 15 := by
  simp [isC] at h; omega
set_option maxHeartbeats 1000000 in
theorem has_any (q f : Int) (r : Bool) (b : Nat) (w : World) (hc : w.cell? ⟨b, 0, none⟩ = some (.int .i64 f)) (h : (bits .and .i64 f q != 0) = r) : Calls Try.prog 55 #[.int .i64 q, .pointer (some ⟨b, 0, none⟩)] w fun e w' => e = .returned (.bool r) ∧ w = w' := by
  go_enter Try.func55, Try.ntmps55
  go_wp2_with fail
  go_ret
  exact ⟨rfl, rfl⟩
theorem has_bits {f : Int} (h0 : 0 ≤ f) (h1 : f ≤ 15) : (bits .and .i64 f 1 != 0) = caF f ∧ (bits .and .i64 f 2 != 0) = zeF f ∧ (bits .and .i64 f 4 != 0) = siF f ∧ (bits .and .i64 f 8 != 0) = ovF f := by
  rcases (show f = 0 ∨ f = 1 ∨ f = 2 ∨ f = 3 ∨ f = 4 ∨ f = 5 ∨ f = 6 ∨ f = 7 ∨ f = 8 ∨ f = 9 ∨ f = 10 ∨ f = 11 ∨ f = 12 ∨ f = 13 ∨ f = 14 ∨ f = 15 by omega) with rfl | rfl | rfl | rfl | rfl | rfl | rfl | rfl | rfl | rfl | rfl | rfl | rfl | rfl | rfl | rfl <;> decide
set_option maxHeartbeats 1000000 in
theorem ho_0 (f : Int) (w : World) (h0 : 0 ≤ f) (h1 : f ≤ 15) : Calls Try.prog 33 #[.int .i64 0, .int .i64 f] w fun e w' => e = .returned (.bool (hoB 0 f)) ∧ Below w.heap.size w w' := by
  have HB := Lib.hid ((Below.refl w.heap.size w).alloc (Nat.le_refl _) (.cells #[.int .i64 f] 3))
  obtain ⟨k1, k2, k3, k4⟩ := has_bits h0 h1
  have Cov : Hid (∀ w (b : Nat), w.cell? ⟨b, 0, none⟩ = some (.int .i64 f) → Calls Try.prog 55 #[.int .i64 8, .pointer (some ⟨b, 0, none⟩)] w fun e w' => e = .returned (.bool (ovF f)) ∧ w = w') := fun w b hc => has_any 8 f _ b w hc k4
  clear k1 k2 k3 k4 h0 h1
  have e : hoB 0 f = ((ovF f) != false) := rfl
  rw [e]
  clear e
  generalize ovF f = ov at *
  cases ov <;> skip
  all_goals go_enter Try.func33, Try.ntmps33
  all_goals go_wp2_with (first | ((go_at_call 55; with_reducible refine (Cov.out _ _ (by first | assumption | (simp [go_sem]; done))).mono ?_); rintro e w' ⟨rfl, rfl⟩))
  all_goals go_ret
  all_goals exact ⟨rfl, HB.out⟩
set_option maxHeartbeats 1000000 in
theorem ho_1 (f : Int) (w : World) (h0 : 0 ≤ f) (h1 : f ≤ 15) : Calls Try.prog 33 #[.int .i64 1, .int .i64 f] w fun e w' => e = .returned (.bool (hoB 1 f)) ∧ Below w.heap.size w w' := by
  have HB := Lib.hid ((Below.refl w.heap.size w).alloc (Nat.le_refl _) (.cells #[.int .i64 f] 3))
  obtain ⟨k1, k2, k3, k4⟩ := has_bits h0 h1
  have Cov : Hid (∀ w (b : Nat), w.cell? ⟨b, 0, none⟩ = some (.int .i64 f) → Calls Try.prog 55 #[.int .i64 8, .pointer (some ⟨b, 0, none⟩)] w fun e w' => e = .returned (.bool (ovF f)) ∧ w = w') := fun w b hc => has_any 8 f _ b w hc k4
  clear k1 k2 k3 k4 h0 h1
  have e : hoB 1 f = ((ovF f) != true) := rfl
  rw [e]
  clear e
  generalize ovF f = ov at *
  cases ov <;> skip
  all_goals go_enter Try.func33, Try.ntmps33
  all_goals go_wp2_with (first | ((go_at_call 55; with_reducible refine (Cov.out _ _ (by first | assumption | (simp [go_sem]; done))).mono ?_); rintro e w' ⟨rfl, rfl⟩))
  all_goals go_ret
  all_goals exact ⟨rfl, HB.out⟩
set_option maxHeartbeats 1000000 in
theorem ho_2 (f : Int) (w : World) (h0 : 0 ≤ f) (h1 : f ≤ 15) : Calls Try.prog 33 #[.int .i64 2, .int .i64 f] w fun e w' => e = .returned (.bool (hoB 2 f)) ∧ Below w.heap.size w w' := by
  have HB := Lib.hid ((Below.refl w.heap.size w).alloc (Nat.le_refl _) (.cells #[.int .i64 f] 3))
  obtain ⟨k1, k2, k3, k4⟩ := has_bits h0 h1
  have Cca : Hid (∀ w (b : Nat), w.cell? ⟨b, 0, none⟩ = some (.int .i64 f) → Calls Try.prog 55 #[.int .i64 1, .pointer (some ⟨b, 0, none⟩)] w fun e w' => e = .returned (.bool (caF f)) ∧ w = w') := fun w b hc => has_any 1 f _ b w hc k1
  clear k1 k2 k3 k4 h0 h1
  have e : hoB 2 f = ((caF f) != false) := rfl
  rw [e]
  clear e
  generalize caF f = ca at *
  cases ca <;> skip
  all_goals go_enter Try.func33, Try.ntmps33
  all_goals go_wp2_with (first | ((go_at_call 55; with_reducible refine (Cca.out _ _ (by first | assumption | (simp [go_sem]; done))).mono ?_); rintro e w' ⟨rfl, rfl⟩))
  all_goals go_ret
  all_goals exact ⟨rfl, HB.out⟩
set_option maxHeartbeats 1000000 in
theorem ho_3 (f : Int) (w : World) (h0 : 0 ≤ f) (h1 : f ≤ 15) : Calls Try.prog 33 #[.int .i64 3, .int .i64 f] w fun e w' => e = .returned (.bool (hoB 3 f)) ∧ Below w.heap.size w w' := by
  have HB := Lib.hid ((Below.refl w.heap.size w).alloc (Nat.le_refl _) (.cells #[.int .i64 f] 3))
  obtain ⟨k1, k2, k3, k4⟩ := has_bits h0 h1
  have Cca : Hid (∀ w (b : Nat), w.cell? ⟨b, 0, none⟩ = some (.int .i64 f) → Calls Try.prog 55 #[.int .i64 1, .pointer (some ⟨b, 0, none⟩)] w fun e w' => e = .returned (.bool (caF f)) ∧ w = w') := fun w b hc => has_any 1 f _ b w hc k1
  clear k1 k2 k3 k4 h0 h1
  have e : hoB 3 f = ((caF f) != true) := rfl
  rw [e]
  clear e
  generalize caF f = ca at *
  cases ca <;> skip
  all_goals go_enter Try.func33, Try.ntmps33
  all_goals go_wp2_with (first | ((go_at_call 55; with_reducible refine (Cca.out _ _ (by first | assumption | (simp [go_sem]; done))).mono ?_); rintro e w' ⟨rfl, rfl⟩))
  all_goals go_ret
  all_goals exact ⟨rfl, HB.out⟩
set_option maxHeartbeats 1000000 in
theorem ho_4 (f : Int) (w : World) (h0 : 0 ≤ f) (h1 : f ≤ 15) : Calls Try.prog 33 #[.int .i64 4, .int .i64 f] w fun e w' => e = .returned (.bool (hoB 4 f)) ∧ Below w.heap.size w w' := by
  have HB := Lib.hid ((Below.refl w.heap.size w).alloc (Nat.le_refl _) (.cells #[.int .i64 f] 3))
  obtain ⟨k1, k2, k3, k4⟩ := has_bits h0 h1
  have Cze : Hid (∀ w (b : Nat), w.cell? ⟨b, 0, none⟩ = some (.int .i64 f) → Calls Try.prog 55 #[.int .i64 2, .pointer (some ⟨b, 0, none⟩)] w fun e w' => e = .returned (.bool (zeF f)) ∧ w = w') := fun w b hc => has_any 2 f _ b w hc k2
  clear k1 k2 k3 k4 h0 h1
  have e : hoB 4 f = ((zeF f) != false) := rfl
  rw [e]
  clear e
  generalize zeF f = ze at *
  cases ze <;> skip
  all_goals go_enter Try.func33, Try.ntmps33
  all_goals go_wp2_with (first | ((go_at_call 55; with_reducible refine (Cze.out _ _ (by first | assumption | (simp [go_sem]; done))).mono ?_); rintro e w' ⟨rfl, rfl⟩))
  all_goals go_ret
  all_goals exact ⟨rfl, HB.out⟩
set_option maxHeartbeats 1000000 in
theorem ho_5 (f : Int) (w : World) (h0 : 0 ≤ f) (h1 : f ≤ 15) : Calls Try.prog 33 #[.int .i64 5, .int .i64 f] w fun e w' => e = .returned (.bool (hoB 5 f)) ∧ Below w.heap.size w w' := by
  have HB := Lib.hid ((Below.refl w.heap.size w).alloc (Nat.le_refl _) (.cells #[.int .i64 f] 3))
  obtain ⟨k1, k2, k3, k4⟩ := has_bits h0 h1
  have Cze : Hid (∀ w (b : Nat), w.cell? ⟨b, 0, none⟩ = some (.int .i64 f) → Calls Try.prog 55 #[.int .i64 2, .pointer (some ⟨b, 0, none⟩)] w fun e w' => e = .returned (.bool (zeF f)) ∧ w = w') := fun w b hc => has_any 2 f _ b w hc k2
  clear k1 k2 k3 k4 h0 h1
  have e : hoB 5 f = ((zeF f) != true) := rfl
  rw [e]
  clear e
  generalize zeF f = ze at *
  cases ze <;> skip
  all_goals go_enter Try.func33, Try.ntmps33
  all_goals go_wp2_with (first | ((go_at_call 55; with_reducible refine (Cze.out _ _ (by first | assumption | (simp [go_sem]; done))).mono ?_); rintro e w' ⟨rfl, rfl⟩))
  all_goals go_ret
  all_goals exact ⟨rfl, HB.out⟩
set_option maxHeartbeats 1000000 in
theorem ho_6 (f : Int) (w : World) (h0 : 0 ≤ f) (h1 : f ≤ 15) : Calls Try.prog 33 #[.int .i64 6, .int .i64 f] w fun e w' => e = .returned (.bool (hoB 6 f)) ∧ Below w.heap.size w w' := by
  have HB := Lib.hid ((Below.refl w.heap.size w).alloc (Nat.le_refl _) (.cells #[.int .i64 f] 3))
  obtain ⟨k1, k2, k3, k4⟩ := has_bits h0 h1
  have Cca : Hid (∀ w (b : Nat), w.cell? ⟨b, 0, none⟩ = some (.int .i64 f) → Calls Try.prog 55 #[.int .i64 1, .pointer (some ⟨b, 0, none⟩)] w fun e w' => e = .returned (.bool (caF f)) ∧ w = w') := fun w b hc => has_any 1 f _ b w hc k1
  have Cze : Hid (∀ w (b : Nat), w.cell? ⟨b, 0, none⟩ = some (.int .i64 f) → Calls Try.prog 55 #[.int .i64 2, .pointer (some ⟨b, 0, none⟩)] w fun e w' => e = .returned (.bool (zeF f)) ∧ w = w') := fun w b hc => has_any 2 f _ b w hc k2
  clear k1 k2 k3 k4 h0 h1
  have e : hoB 6 f = ((caF f || zeF f) != false) := rfl
  rw [e]
  clear e
  generalize caF f = ca at *
  generalize zeF f = ze at *
  cases ca <;> cases ze <;> skip
  all_goals go_enter Try.func33, Try.ntmps33
  all_goals go_wp2_with (first | ((go_at_call 55; with_reducible refine (Cca.out _ _ (by first | assumption | (simp [go_sem]; done))).mono ?_); rintro e w' ⟨rfl, rfl⟩) | ((go_at_call 55; with_reducible refine (Cze.out _ _ (by first | assumption | (simp [go_sem]; done))).mono ?_); rintro e w' ⟨rfl, rfl⟩))
  all_goals go_ret
  all_goals exact ⟨rfl, HB.out⟩
set_option maxHeartbeats 1000000 in
theorem ho_7 (f : Int) (w : World) (h0 : 0 ≤ f) (h1 : f ≤ 15) : Calls Try.prog 33 #[.int .i64 7, .int .i64 f] w fun e w' => e = .returned (.bool (hoB 7 f)) ∧ Below w.heap.size w w' := by
  have HB := Lib.hid ((Below.refl w.heap.size w).alloc (Nat.le_refl _) (.cells #[.int .i64 f] 3))
  obtain ⟨k1, k2, k3, k4⟩ := has_bits h0 h1
  have Cca : Hid (∀ w (b : Nat), w.cell? ⟨b, 0, none⟩ = some (.int .i64 f) → Calls Try.prog 55 #[.int .i64 1, .pointer (some ⟨b, 0, none⟩)] w fun e w' => e = .returned (.bool (caF f)) ∧ w = w') := fun w b hc => has_any 1 f _ b w hc k1
  have Cze : Hid (∀ w (b : Nat), w.cell? ⟨b, 0, none⟩ = some (.int .i64 f) → Calls Try.prog 55 #[.int .i64 2, .pointer (some ⟨b, 0, none⟩)] w fun e w' => e = .returned (.bool (zeF f)) ∧ w = w') := fun w b hc => has_any 2 f _ b w hc k2
  clear k1 k2 k3 k4 h0 h1
  have e : hoB 7 f = ((caF f || zeF f) != true) := rfl
  rw [e]
  clear e
  generalize caF f = ca at *
  generalize zeF f = ze at *
  cases ca <;> cases ze <;> skip
  all_goals go_enter Try.func33, Try.ntmps33
  all_goals go_wp2_with (first | ((go_at_call 55; with_reducible refine (Cca.out _ _ (by first | assumption | (simp [go_sem]; done))).mono ?_); rintro e w' ⟨rfl, rfl⟩) | ((go_at_call 55; with_reducible refine (Cze.out _ _ (by first | assumption | (simp [go_sem]; done))).mono ?_); rintro e w' ⟨rfl, rfl⟩))
  all_goals go_ret
  all_goals exact ⟨rfl, HB.out⟩
set_option maxHeartbeats 1000000 in
theorem ho_8 (f : Int) (w : World) (h0 : 0 ≤ f) (h1 : f ≤ 15) : Calls Try.prog 33 #[.int .i64 8, .int .i64 f] w fun e w' => e = .returned (.bool (hoB 8 f)) ∧ Below w.heap.size w w' := by
  have HB := Lib.hid ((Below.refl w.heap.size w).alloc (Nat.le_refl _) (.cells #[.int .i64 f] 3))
  obtain ⟨k1, k2, k3, k4⟩ := has_bits h0 h1
  have Csi : Hid (∀ w (b : Nat), w.cell? ⟨b, 0, none⟩ = some (.int .i64 f) → Calls Try.prog 55 #[.int .i64 4, .pointer (some ⟨b, 0, none⟩)] w fun e w' => e = .returned (.bool (siF f)) ∧ w = w') := fun w b hc => has_any 4 f _ b w hc k3
  clear k1 k2 k3 k4 h0 h1
  have e : hoB 8 f = ((siF f) != false) := rfl
  rw [e]
  clear e
  generalize siF f = si at *
  cases si <;> skip
  all_goals go_enter Try.func33, Try.ntmps33
  all_goals go_wp2_with (first | ((go_at_call 55; with_reducible refine (Csi.out _ _ (by first | assumption | (simp [go_sem]; done))).mono ?_); rintro e w' ⟨rfl, rfl⟩))
  all_goals go_ret
  all_goals exact ⟨rfl, HB.out⟩
set_option maxHeartbeats 1000000 in
theorem ho_9 (f : Int) (w : World) (h0 : 0 ≤ f) (h1 : f ≤ 15) : Calls Try.prog 33 #[.int .i64 9, .int .i64 f] w fun e w' => e = .returned (.bool (hoB 9 f)) ∧ Below w.heap.size w w' := by
  have HB := Lib.hid ((Below.refl w.heap.size w).alloc (Nat.le_refl _) (.cells #[.int .i64 f] 3))
  obtain ⟨k1, k2, k3, k4⟩ := has_bits h0 h1
  have Csi : Hid (∀ w (b : Nat), w.cell? ⟨b, 0, none⟩ = some (.int .i64 f) → Calls Try.prog 55 #[.int .i64 4, .pointer (some ⟨b, 0, none⟩)] w fun e w' => e = .returned (.bool (siF f)) ∧ w = w') := fun w b hc => has_any 4 f _ b w hc k3
  clear k1 k2 k3 k4 h0 h1
  have e : hoB 9 f = ((siF f) != true) := rfl
  rw [e]
  clear e
  generalize siF f = si at *
  cases si <;> skip
  all_goals go_enter Try.func33, Try.ntmps33
  all_goals go_wp2_with (first | ((go_at_call 55; with_reducible refine (Csi.out _ _ (by first | assumption | (simp [go_sem]; done))).mono ?_); rintro e w' ⟨rfl, rfl⟩))
  all_goals go_ret
  all_goals exact ⟨rfl, HB.out⟩
set_option maxHeartbeats 1000000 in
theorem ho_12 (f : Int) (w : World) (h0 : 0 ≤ f) (h1 : f ≤ 15) : Calls Try.prog 33 #[.int .i64 12, .int .i64 f] w fun e w' => e = .returned (.bool (hoB 12 f)) ∧ Below w.heap.size w w' := by
  have HB := Lib.hid ((Below.refl w.heap.size w).alloc (Nat.le_refl _) (.cells #[.int .i64 f] 3))
  obtain ⟨k1, k2, k3, k4⟩ := has_bits h0 h1
  have Csi : Hid (∀ w (b : Nat), w.cell? ⟨b, 0, none⟩ = some (.int .i64 f) → Calls Try.prog 55 #[.int .i64 4, .pointer (some ⟨b, 0, none⟩)] w fun e w' => e = .returned (.bool (siF f)) ∧ w = w') := fun w b hc => has_any 4 f _ b w hc k3
  have Cov : Hid (∀ w (b : Nat), w.cell? ⟨b, 0, none⟩ = some (.int .i64 f) → Calls Try.prog 55 #[.int .i64 8, .pointer (some ⟨b, 0, none⟩)] w fun e w' => e = .returned (.bool (ovF f)) ∧ w = w') := fun w b hc => has_any 8 f _ b w hc k4
  clear k1 k2 k3 k4 h0 h1
  have e : hoB 12 f = ((siF f != ovF f) != false) := rfl
  rw [e]
  clear e
  generalize siF f = si at *
  generalize ovF f = ov at *
  cases si <;> cases ov <;> skip
  all_goals go_enter Try.func33, Try.ntmps33
  all_goals go_wp2_with (first | ((go_at_call 55; with_reducible refine (Csi.out _ _ (by first | assumption | (simp [go_sem]; done))).mono ?_); rintro e w' ⟨rfl, rfl⟩) | ((go_at_call 55; with_reducible refine (Cov.out _ _ (by first | assumption | (simp [go_sem]; done))).mono ?_); rintro e w' ⟨rfl, rfl⟩))
  all_goals go_ret
  all_goals exact ⟨rfl, HB.out⟩
set_option maxHeartbeats 1000000 in
theorem ho_13 (f : Int) (w : World) (h0 : 0 ≤ f) (h1 : f ≤ 15) : Calls Try.prog 33 #[.int .i64 13, .int .i64 f] w fun e w' => e = .returned (.bool (hoB 13 f)) ∧ Below w.heap.size w w' := by
  have HB := Lib.hid ((Below.refl w.heap.size w).alloc (Nat.le_refl _) (.cells #[.int .i64 f] 3))
  obtain ⟨k1, k2, k3, k4⟩ := has_bits h0 h1
  have Csi : Hid (∀ w (b : Nat), w.cell? ⟨b, 0, none⟩ = some (.int .i64 f) → Calls Try.prog 55 #[.int .i64 4, .pointer (some ⟨b, 0, none⟩)] w fun e w' => e = .returned (.bool (siF f)) ∧ w = w') := fun w b hc => has_any 4 f _ b w hc k3
  have Cov : Hid (∀ w (b : Nat), w.cell? ⟨b, 0, none⟩ = some (.int .i64 f) → Calls Try.prog 55 #[.int .i64 8, .pointer (some ⟨b, 0, none⟩)] w fun e w' => e = .returned (.bool (ovF f)) ∧ w = w') := fun w b hc => has_any 8 f _ b w hc k4
  clear k1 k2 k3 k4 h0 h1
  have e : hoB 13 f = ((siF f != ovF f) != true) := rfl
  rw [e]
  clear e
  generalize siF f = si at *
  generalize ovF f = ov at *
  cases si <;> cases ov <;> skip
  all_goals go_enter Try.func33, Try.ntmps33
  all_goals go_wp2_with (first | ((go_at_call 55; with_reducible refine (Csi.out _ _ (by first | assumption | (simp [go_sem]; done))).mono ?_); rintro e w' ⟨rfl, rfl⟩) | ((go_at_call 55; with_reducible refine (Cov.out _ _ (by first | assumption | (simp [go_sem]; done))).mono ?_); rintro e w' ⟨rfl, rfl⟩))
  all_goals go_ret
  all_goals exact ⟨rfl, HB.out⟩
set_option maxHeartbeats 1000000 in
theorem ho_14 (f : Int) (w : World) (h0 : 0 ≤ f) (h1 : f ≤ 15) : Calls Try.prog 33 #[.int .i64 14, .int .i64 f] w fun e w' => e = .returned (.bool (hoB 14 f)) ∧ Below w.heap.size w w' := by
  have HB := Lib.hid ((Below.refl w.heap.size w).alloc (Nat.le_refl _) (.cells #[.int .i64 f] 3))
  obtain ⟨k1, k2, k3, k4⟩ := has_bits h0 h1
  have Cze : Hid (∀ w (b : Nat), w.cell? ⟨b, 0, none⟩ = some (.int .i64 f) → Calls Try.prog 55 #[.int .i64 2, .pointer (some ⟨b, 0, none⟩)] w fun e w' => e = .returned (.bool (zeF f)) ∧ w = w') := fun w b hc => has_any 2 f _ b w hc k2
  have Csi : Hid (∀ w (b : Nat), w.cell? ⟨b, 0, none⟩ = some (.int .i64 f) → Calls Try.prog 55 #[.int .i64 4, .pointer (some ⟨b, 0, none⟩)] w fun e w' => e = .returned (.bool (siF f)) ∧ w = w') := fun w b hc => has_any 4 f _ b w hc k3
  have Cov : Hid (∀ w (b : Nat), w.cell? ⟨b, 0, none⟩ = some (.int .i64 f) → Calls Try.prog 55 #[.int .i64 8, .pointer (some ⟨b, 0, none⟩)] w fun e w' => e = .returned (.bool (ovF f)) ∧ w = w') := fun w b hc => has_any 8 f _ b w hc k4
  clear k1 k2 k3 k4 h0 h1
  have e : hoB 14 f = ((zeF f || (siF f != ovF f)) != false) := rfl
  rw [e]
  clear e
  generalize zeF f = ze at *
  generalize siF f = si at *
  generalize ovF f = ov at *
  cases ze <;> cases si <;> cases ov <;> skip
  all_goals go_enter Try.func33, Try.ntmps33
  all_goals go_wp2_with (first | ((go_at_call 55; with_reducible refine (Cze.out _ _ (by first | assumption | (simp [go_sem]; done))).mono ?_); rintro e w' ⟨rfl, rfl⟩) | ((go_at_call 55; with_reducible refine (Csi.out _ _ (by first | assumption | (simp [go_sem]; done))).mono ?_); rintro e w' ⟨rfl, rfl⟩) | ((go_at_call 55; with_reducible refine (Cov.out _ _ (by first | assumption | (simp [go_sem]; done))).mono ?_); rintro e w' ⟨rfl, rfl⟩))
  all_goals go_ret
  all_goals exact ⟨rfl, HB.out⟩
set_option maxHeartbeats 1000000 in
theorem ho_15 (f : Int) (w : World) (h0 : 0 ≤ f) (h1 : f ≤ 15) : Calls Try.prog 33 #[.int .i64 15, .int .i64 f] w fun e w' => e = .returned (.bool (hoB 15 f)) ∧ Below w.heap.size w w' := by
  have HB := Lib.hid ((Below.refl w.heap.size w).alloc (Nat.le_refl _) (.cells #[.int .i64 f] 3))
  obtain ⟨k1, k2, k3, k4⟩ := has_bits h0 h1
  have Cze : Hid (∀ w (b : Nat), w.cell? ⟨b, 0, none⟩ = some (.int .i64 f) → Calls Try.prog 55 #[.int .i64 2, .pointer (some ⟨b, 0, none⟩)] w fun e w' => e = .returned (.bool (zeF f)) ∧ w = w') := fun w b hc => has_any 2 f _ b w hc k2
  have Csi : Hid (∀ w (b : Nat), w.cell? ⟨b, 0, none⟩ = some (.int .i64 f) → Calls Try.prog 55 #[.int .i64 4, .pointer (some ⟨b, 0, none⟩)] w fun e w' => e = .returned (.bool (siF f)) ∧ w = w') := fun w b hc => has_any 4 f _ b w hc k3
  have Cov : Hid (∀ w (b : Nat), w.cell? ⟨b, 0, none⟩ = some (.int .i64 f) → Calls Try.prog 55 #[.int .i64 8, .pointer (some ⟨b, 0, none⟩)] w fun e w' => e = .returned (.bool (ovF f)) ∧ w = w') := fun w b hc => has_any 8 f _ b w hc k4
  clear k1 k2 k3 k4 h0 h1
  have e : hoB 15 f = ((zeF f || (siF f != ovF f)) != true) := rfl
  rw [e]
  clear e
  generalize zeF f = ze at *
  generalize siF f = si at *
  generalize ovF f = ov at *
  cases ze <;> cases si <;> cases ov <;> skip
  all_goals go_enter Try.func33, Try.ntmps33
  all_goals go_wp2_with (first | ((go_at_call 55; with_reducible refine (Cze.out _ _ (by first | assumption | (simp [go_sem]; done))).mono ?_); rintro e w' ⟨rfl, rfl⟩) | ((go_at_call 55; with_reducible refine (Csi.out _ _ (by first | assumption | (simp [go_sem]; done))).mono ?_); rintro e w' ⟨rfl, rfl⟩) | ((go_at_call 55; with_reducible refine (Cov.out _ _ (by first | assumption | (simp [go_sem]; done))).mono ?_); rintro e w' ⟨rfl, rfl⟩))
  all_goals go_ret
  all_goals exact ⟨rfl, HB.out⟩
end Go.Proofs.Ytdojafpjipcbjaa
namespace Go.Proofs.Ytdojafpjipcbjaa
open Go.RowKit
set_option linter.unusedVariables false
set_option linter.unusedSimpArgs false
theorem holds_any (c f : Int) (w : World) (hc : isC c = true) (h0 : 0 ≤ f) (h1 : f ≤ 15) : Calls Try.prog 33 #[.int .i64 c, .int .i64 f] w fun e w' => e = .returned (.bool (hoB c f)) ∧ Below w.heap.size w w' := by
  rcases isC_cases hc with rfl | rfl | rfl | rfl | rfl | rfl | rfl | rfl | rfl | rfl | rfl | rfl | rfl | rfl
  · exact ho_0 f w h0 h1
  · exact ho_1 f w h0 h1
  · exact ho_2 f w h0 h1
  · exact ho_3 f w h0 h1
  · exact ho_4 f w h0 h1
  · exact ho_5 f w h0 h1
  · exact ho_6 f w h0 h1
  · exact ho_7 f w h0 h1
  · exact ho_8 f w h0 h1
  · exact ho_9 f w h0 h1
  · exact ho_12 f w h0 h1
  · exact ho_13 f w h0 h1
  · exact ho_14 f w h0 h1
  · exact ho_15 f w h0 h1
/-- The condition that an instruction looks at; -1: none. -/
def rdC (x : Ins) : Int := if x.o = 29 ∨ x.o = 32 then x.s else if x.o = 31 then x.i else -1
/-- The flags that decide a condition. -/
def rdT (c : Int) : Int := if c < 0 then 0 else if c / 2 = 0 then 8 else if c / 2 = 1 then 1 else if c / 2 = 2 then 2 else if c / 2 = 3 then 3 else if c / 2 = 4 then 4 else if c / 2 = 6 then 12 else if c / 2 = 7 then 14 else 0
def rdX (x : Ins) : Int := if okI x = true then rdT (rdC x) else 0
theorem rdC_is {x : Ins} (h : okI x = true) : rdC x = -1 ∨ isC (rdC x) = true := by
  have hf := ok_fit h
  obtain ⟨o, d, s, z, i⟩ := x
  unfold rdC
  simp only
  by_cases c1 : o = 29
  · subst c1; right; simp [fitI] at hf; simp [hf]
  · by_cases c2 : o = 32
    · subst c2; right; simp [fitI] at hf; simp [hf]
    · rw [if_neg (by omega)]
      by_cases c3 : o = 31
      · subst c3; right; simp [fitI] at hf; simp [hf]
      · left; rw [if_neg c3]
end Go.Proofs.Ytdojafpjipcbjaa
