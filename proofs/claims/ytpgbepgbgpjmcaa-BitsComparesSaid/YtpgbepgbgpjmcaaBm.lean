/- Compare, Opposite, Mirror of both sides, and the walk of the statement BitsCompares. -/
import Derived.Test.YtpgbepgbgpjmcaaBj
import Derived.Test.YtpgbepgbgpjmcaaRing
namespace Go.Proofs.Ytpgbepgbgpjmcaa
open Go.RowKit Wd
set_option linter.unusedVariables false
set_option linter.unusedSimpArgs false
def isP (p : Int) : Bool := decide (0 ≤ p ∧ p ≤ 9)
def coX (p n a b : Int) : Bool := goodC p n a b && cmpV p n a b
def coE (p n a b : Int) : Int := if goodC p n a b = true then 0 else 1
def opX (p : Int) : Int := if isP p = true then oppV p else 0
def miX (p : Int) : Int := if isP p = true then mirV p else 0
def opE (p : Int) : Int := if isP p = true then 0 else 1

theorem isPred_any (p : Int) (w : World) : Calls Try.prog 48 #[.int .i64 p] w fun e w' => e = .returned (.bool (isP p)) ∧ w = w' := by
  by_cases h1 : 0 ≤ p <;> by_cases h2 : p ≤ 9
  all_goals
    go_enter Try.func48, Try.ntmps48
    go_wp2
    go_ret
    exact ⟨ret_b (by simp [isP, h1, h2]), rfl⟩
theorem rIsPred_any (p : Int) (w : World) : Calls Try.prog 49 #[.int .i64 p] w fun e w' => e = .returned (.bool (isP p)) ∧ w = w' := by
  by_cases h1 : 0 ≤ p <;> by_cases h2 : p ≤ 9
  all_goals
    go_enter Try.func49, Try.ntmps49
    go_wp2
    go_ret
    exact ⟨ret_b (by simp [isP, h1, h2]), rfl⟩
theorem rcompare_any (p x y : Int) (w : World) (h1 : 0 ≤ p) (h2 : p ≤ 9) : Calls Try.prog 50 #[.int .i64 p, .int .i64 x, .int .i64 y] w fun e w' => e = .returned (.bool (cmp2 p x y)) ∧ w = w' := by
  have h : p = 0 ∨ p = 1 ∨ p = 2 ∨ p = 3 ∨ p = 4 ∨ p = 5 ∨ p = 6 ∨ p = 7 ∨ p = 8 ∨ p = 9 := by omega
  rcases h with rfl | rfl | rfl | rfl | rfl | rfl | rfl | rfl | rfl | rfl
  · have e : cmp2 0 x y = (x == y) := rfl
    rw [e]
    clear e
    go_enter Try.func50, Try.ntmps50
    go_wp2
    go_ret
    exact ⟨rfl, rfl⟩
  · have e : cmp2 1 x y = (x != y) := rfl
    rw [e]
    clear e
    go_enter Try.func50, Try.ntmps50
    go_wp2
    go_ret
    exact ⟨rfl, rfl⟩
  · have e : cmp2 2 x y = decide (x < y) := rfl
    rw [e]
    clear e
    go_enter Try.func50, Try.ntmps50
    go_wp2
    go_ret
    exact ⟨rfl, rfl⟩
  · have e : cmp2 3 x y = decide (x ≤ y) := rfl
    rw [e]
    clear e
    go_enter Try.func50, Try.ntmps50
    go_wp2
    go_ret
    exact ⟨rfl, rfl⟩
  · have e : cmp2 4 x y = decide (y < x) := rfl
    rw [e]
    clear e
    go_enter Try.func50, Try.ntmps50
    go_wp2
    go_ret
    exact ⟨rfl, rfl⟩
  · have e : cmp2 5 x y = decide (y ≤ x) := rfl
    rw [e]
    clear e
    go_enter Try.func50, Try.ntmps50
    go_wp2
    go_ret
    exact ⟨rfl, rfl⟩
  · have e : cmp2 6 x y = decide (x < y) := rfl
    rw [e]
    clear e
    go_enter Try.func50, Try.ntmps50
    go_wp2
    go_ret
    exact ⟨rfl, rfl⟩
  · have e : cmp2 7 x y = decide (x ≤ y) := rfl
    rw [e]
    clear e
    go_enter Try.func50, Try.ntmps50
    go_wp2
    go_ret
    exact ⟨rfl, rfl⟩
  · have e : cmp2 8 x y = decide (y < x) := rfl
    rw [e]
    clear e
    go_enter Try.func50, Try.ntmps50
    go_wp2
    go_ret
    exact ⟨rfl, rfl⟩
  · have e : cmp2 9 x y = decide (y ≤ x) := rfl
    rw [e]
    clear e
    go_enter Try.func50, Try.ntmps50
    go_wp2
    go_ret
    exact ⟨rfl, rfl⟩

set_option maxHeartbeats 1000000 in
theorem pCompare (p n a b : Int) (h3 : 0 ≤ a) (h4 : a ≤ 4294967295) (h5 : 0 ≤ b) (h6 : b ≤ 4294967295) (w : World) : Calls Try.prog 30 #[.int .i64 p, .int .i64 n, .int .u32 a, .int .u32 b] w fun e w' => e = .returned (.tuple #[.bool (coX p n a b), .int .i64 (coE p n a b)]) ∧ Below w.heap.size w w' := by
  by_cases g : goodC p n a b = true
  · obtain ⟨g1, g2, g3, g4, g5, g6⟩ := (goodC_iff _ _ _ _).1 g
    have e2 : coE p n a b = 0 := by simp [coE, g]
    have e1 : coX p n a b = cmpV p n a b := by simp [coX, g]
    rw [e1, e2]
    have hn : isW n = true := by simp [isW, g3, g4]
    have fa : fit n a = true := by simp [fit, g5]
    have fb : fit n b = true := by simp [fit, g6]
    have hq : isP p = true := by simp [isP, g1, g2]
    have x1 := sgn_lo32 (n := n) (a := a) (by omega) (by omega) h3
    have x2 := sgn_hi32 (n := n) (a := a) (by omega) (by omega) g5
    have y1 := sgn_lo32 (n := n) (a := b) (by omega) (by omega) h5
    have y2 := sgn_hi32 (n := n) (a := b) (by omega) (by omega) g6
    clear e1 e2 g
    have h : p = 0 ∨ p = 1 ∨ p = 2 ∨ p = 3 ∨ p = 4 ∨ p = 5 ∨ p = 6 ∨ p = 7 ∨ p = 8 ∨ p = 9 := by omega
    rcases h with rfl | rfl | rfl | rfl | rfl | rfl | rfl | rfl | rfl | rfl
    · have e : cmpV 0 n a b = (a == b) := rfl
      rw [e]
      clear e
      go_enter Try.func30, Try.ntmps30
      go_wp2_with (first | (go_at_call 48; refine (isPred_any _ _).mono ?_; rintro e w' ⟨rfl, rfl⟩) | (go_at_call 41; refine (fits2 _ a b _ _ (by simp [go_sem]) (by simp [go_sem])).mono ?_; rintro e w' ⟨rfl, rfl⟩) | (go_at_call 46; refine (signed_any _ _ _ (by omega) (by omega) (by omega) (by omega)).mono ?_; rintro e w' ⟨rfl, rfl⟩))
      go_ret2
      exact ⟨rfl, (Below.refl _ _).alloc (Nat.le_refl _) _⟩
    · have e : cmpV 1 n a b = (a != b) := rfl
      rw [e]
      clear e
      go_enter Try.func30, Try.ntmps30
      go_wp2_with (first | (go_at_call 48; refine (isPred_any _ _).mono ?_; rintro e w' ⟨rfl, rfl⟩) | (go_at_call 41; refine (fits2 _ a b _ _ (by simp [go_sem]) (by simp [go_sem])).mono ?_; rintro e w' ⟨rfl, rfl⟩) | (go_at_call 46; refine (signed_any _ _ _ (by omega) (by omega) (by omega) (by omega)).mono ?_; rintro e w' ⟨rfl, rfl⟩))
      go_ret2
      exact ⟨rfl, (Below.refl _ _).alloc (Nat.le_refl _) _⟩
    · have e : cmpV 2 n a b = decide (a < b) := rfl
      rw [e]
      clear e
      go_enter Try.func30, Try.ntmps30
      go_wp2_with (first | (go_at_call 48; refine (isPred_any _ _).mono ?_; rintro e w' ⟨rfl, rfl⟩) | (go_at_call 41; refine (fits2 _ a b _ _ (by simp [go_sem]) (by simp [go_sem])).mono ?_; rintro e w' ⟨rfl, rfl⟩) | (go_at_call 46; refine (signed_any _ _ _ (by omega) (by omega) (by omega) (by omega)).mono ?_; rintro e w' ⟨rfl, rfl⟩))
      go_ret2
      exact ⟨rfl, (Below.refl _ _).alloc (Nat.le_refl _) _⟩
    · have e : cmpV 3 n a b = decide (a ≤ b) := rfl
      rw [e]
      clear e
      go_enter Try.func30, Try.ntmps30
      go_wp2_with (first | (go_at_call 48; refine (isPred_any _ _).mono ?_; rintro e w' ⟨rfl, rfl⟩) | (go_at_call 41; refine (fits2 _ a b _ _ (by simp [go_sem]) (by simp [go_sem])).mono ?_; rintro e w' ⟨rfl, rfl⟩) | (go_at_call 46; refine (signed_any _ _ _ (by omega) (by omega) (by omega) (by omega)).mono ?_; rintro e w' ⟨rfl, rfl⟩))
      go_ret2
      exact ⟨rfl, (Below.refl _ _).alloc (Nat.le_refl _) _⟩
    · have e : cmpV 4 n a b = decide (b < a) := rfl
      rw [e]
      clear e
      go_enter Try.func30, Try.ntmps30
      go_wp2_with (first | (go_at_call 48; refine (isPred_any _ _).mono ?_; rintro e w' ⟨rfl, rfl⟩) | (go_at_call 41; refine (fits2 _ a b _ _ (by simp [go_sem]) (by simp [go_sem])).mono ?_; rintro e w' ⟨rfl, rfl⟩) | (go_at_call 46; refine (signed_any _ _ _ (by omega) (by omega) (by omega) (by omega)).mono ?_; rintro e w' ⟨rfl, rfl⟩))
      go_ret2
      exact ⟨rfl, (Below.refl _ _).alloc (Nat.le_refl _) _⟩
    · have e : cmpV 5 n a b = decide (b ≤ a) := rfl
      rw [e]
      clear e
      go_enter Try.func30, Try.ntmps30
      go_wp2_with (first | (go_at_call 48; refine (isPred_any _ _).mono ?_; rintro e w' ⟨rfl, rfl⟩) | (go_at_call 41; refine (fits2 _ a b _ _ (by simp [go_sem]) (by simp [go_sem])).mono ?_; rintro e w' ⟨rfl, rfl⟩) | (go_at_call 46; refine (signed_any _ _ _ (by omega) (by omega) (by omega) (by omega)).mono ?_; rintro e w' ⟨rfl, rfl⟩))
      go_ret2
      exact ⟨rfl, (Below.refl _ _).alloc (Nat.le_refl _) _⟩
    · have e : cmpV 6 n a b = decide (sgn n a < sgn n b) := rfl
      rw [e]
      clear e
      go_enter Try.func30, Try.ntmps30
      go_wp2_with (first | (go_at_call 48; refine (isPred_any _ _).mono ?_; rintro e w' ⟨rfl, rfl⟩) | (go_at_call 41; refine (fits2 _ a b _ _ (by simp [go_sem]) (by simp [go_sem])).mono ?_; rintro e w' ⟨rfl, rfl⟩) | (go_at_call 46; refine (signed_any _ _ _ (by omega) (by omega) (by omega) (by omega)).mono ?_; rintro e w' ⟨rfl, rfl⟩))
      go_ret2
      exact ⟨rfl, (Below.refl _ _).alloc (Nat.le_refl _) _⟩
    · have e : cmpV 7 n a b = decide (sgn n a ≤ sgn n b) := rfl
      rw [e]
      clear e
      go_enter Try.func30, Try.ntmps30
      go_wp2_with (first | (go_at_call 48; refine (isPred_any _ _).mono ?_; rintro e w' ⟨rfl, rfl⟩) | (go_at_call 41; refine (fits2 _ a b _ _ (by simp [go_sem]) (by simp [go_sem])).mono ?_; rintro e w' ⟨rfl, rfl⟩) | (go_at_call 46; refine (signed_any _ _ _ (by omega) (by omega) (by omega) (by omega)).mono ?_; rintro e w' ⟨rfl, rfl⟩))
      go_ret2
      exact ⟨rfl, (Below.refl _ _).alloc (Nat.le_refl _) _⟩
    · have e : cmpV 8 n a b = decide (sgn n b < sgn n a) := rfl
      rw [e]
      clear e
      go_enter Try.func30, Try.ntmps30
      go_wp2_with (first | (go_at_call 48; refine (isPred_any _ _).mono ?_; rintro e w' ⟨rfl, rfl⟩) | (go_at_call 41; refine (fits2 _ a b _ _ (by simp [go_sem]) (by simp [go_sem])).mono ?_; rintro e w' ⟨rfl, rfl⟩) | (go_at_call 46; refine (signed_any _ _ _ (by omega) (by omega) (by omega) (by omega)).mono ?_; rintro e w' ⟨rfl, rfl⟩))
      go_ret2
      exact ⟨rfl, (Below.refl _ _).alloc (Nat.le_refl _) _⟩
    · have e : cmpV 9 n a b = decide (sgn n b ≤ sgn n a) := rfl
      rw [e]
      clear e
      go_enter Try.func30, Try.ntmps30
      go_wp2_with (first | (go_at_call 48; refine (isPred_any _ _).mono ?_; rintro e w' ⟨rfl, rfl⟩) | (go_at_call 41; refine (fits2 _ a b _ _ (by simp [go_sem]) (by simp [go_sem])).mono ?_; rintro e w' ⟨rfl, rfl⟩) | (go_at_call 46; refine (signed_any _ _ _ (by omega) (by omega) (by omega) (by omega)).mono ?_; rintro e w' ⟨rfl, rfl⟩))
      go_ret2
      exact ⟨rfl, (Below.refl _ _).alloc (Nat.le_refl _) _⟩
  · have e2 : coE p n a b = 1 := by simp [coE, g]
    have e1 : coX p n a b = false := by simp [coX, g]
    rw [e1, e2]
    clear e1 e2
    cases hq : isP p
    · clear g
      go_enter Try.func30, Try.ntmps30
      go_wp2_with (first | (go_at_call 48; refine (isPred_any _ _).mono ?_; rintro e w' ⟨rfl, rfl⟩) | (go_at_call 41; refine (fits2 _ a b _ _ (by simp [go_sem]) (by simp [go_sem])).mono ?_; rintro e w' ⟨rfl, rfl⟩) | (go_at_call 46; refine (signed_any _ _ _ (by omega) (by omega) (by omega) (by omega)).mono ?_; rintro e w' ⟨rfl, rfl⟩))
      go_ret2
      exact ⟨rfl, Below.refl _ _⟩
    · have hx : (isW n && fit n a && fit n b) = false := by
        rw [Bool.eq_false_iff]
        intro h
        apply g
        simp only [isP, isW, fit, Bool.and_eq_true, decide_eq_true_eq] at hq h
        exact (goodC_iff _ _ _ _).2 ⟨hq.1, hq.2, h.1.1.1, h.1.1.2, h.1.2, h.2⟩
      clear g
      cases hw : isW n
      · clear hx
        go_enter Try.func30, Try.ntmps30
        go_wp2_with (first | (go_at_call 48; refine (isPred_any _ _).mono ?_; rintro e w' ⟨rfl, rfl⟩) | (go_at_call 41; refine (fits2 _ a b _ _ (by simp [go_sem]) (by simp [go_sem])).mono ?_; rintro e w' ⟨rfl, rfl⟩) | (go_at_call 46; refine (signed_any _ _ _ (by omega) (by omega) (by omega) (by omega)).mono ?_; rintro e w' ⟨rfl, rfl⟩))
        go_ret2
        exact ⟨rfl, (Below.refl _ _).alloc (Nat.le_refl _) _⟩
      · cases fa : fit n a
        · clear hx
          go_enter Try.func30, Try.ntmps30
          go_wp2_with (first | (go_at_call 48; refine (isPred_any _ _).mono ?_; rintro e w' ⟨rfl, rfl⟩) | (go_at_call 41; refine (fits2 _ a b _ _ (by simp [go_sem]) (by simp [go_sem])).mono ?_; rintro e w' ⟨rfl, rfl⟩) | (go_at_call 46; refine (signed_any _ _ _ (by omega) (by omega) (by omega) (by omega)).mono ?_; rintro e w' ⟨rfl, rfl⟩))
          go_ret2
          exact ⟨rfl, (Below.refl _ _).alloc (Nat.le_refl _) _⟩
        · have fb : fit n b = false := by simpa [hw, fa] using hx
          clear hx
          go_enter Try.func30, Try.ntmps30
          go_wp2_with (first | (go_at_call 48; refine (isPred_any _ _).mono ?_; rintro e w' ⟨rfl, rfl⟩) | (go_at_call 41; refine (fits2 _ a b _ _ (by simp [go_sem]) (by simp [go_sem])).mono ?_; rintro e w' ⟨rfl, rfl⟩) | (go_at_call 46; refine (signed_any _ _ _ (by omega) (by omega) (by omega) (by omega)).mono ?_; rintro e w' ⟨rfl, rfl⟩))
          go_ret2
          exact ⟨rfl, (Below.refl _ _).alloc (Nat.le_refl _) _⟩

set_option maxHeartbeats 1000000 in
theorem rCompare (p n a b : Int) (h3 : 0 ≤ a) (h4 : a ≤ 4294967295) (h5 : 0 ≤ b) (h6 : b ≤ 4294967295) (w : World) : Calls Try.prog 31 #[.int .i64 p, .int .i64 n, .int .u32 a, .int .u32 b] w fun e w' => e = .returned (.tuple #[.bool (coX p n a b), .int .i64 (coE p n a b)]) ∧ w = w' := by
  by_cases g : goodC p n a b = true
  · obtain ⟨g1, g2, g3, g4, g5, g6⟩ := (goodC_iff _ _ _ _).1 g
    have e2 : coE p n a b = 0 := by simp [coE, g]
    have e1 : coX p n a b = cmpV p n a b := by simp [coX, g]
    rw [e1, e2]
    have hn : isW n = true := by simp [isW, g3, g4]
    have fa : fit n a = true := by simp [fit, g5]
    have fb : fit n b = true := by simp [fit, g6]
    have hq : isP p = true := by simp [isP, g1, g2]
    have x1 := sgn_lo32 (n := n) (a := a) (by omega) (by omega) h3
    have x2 := sgn_hi32 (n := n) (a := a) (by omega) (by omega) g5
    have y1 := sgn_lo32 (n := n) (a := b) (by omega) (by omega) h5
    have y2 := sgn_hi32 (n := n) (a := b) (by omega) (by omega) g6
    clear e1 e2 g
    have h : p = 0 ∨ p = 1 ∨ p = 2 ∨ p = 3 ∨ p = 4 ∨ p = 5 ∨ p = 6 ∨ p = 7 ∨ p = 8 ∨ p = 9 := by omega
    rcases h with rfl | rfl | rfl | rfl | rfl | rfl | rfl | rfl | rfl | rfl
    · have e : cmpV 0 n a b = cmp2 0 a b := rfl
      rw [e]
      clear e
      go_enter Try.func31, Try.ntmps31
      go_wp2_with (first | (go_at_call 49; refine (rIsPred_any _ _).mono ?_; rintro e w' ⟨rfl, rfl⟩) | (go_at_call 18; refine (rIsWord_any _ _ _ (by omega) (by omega)).mono ?_; rintro e w' ⟨rfl, rfl⟩) | (go_at_call 40; refine (rSign_any _ _ _ (by omega) (by omega) (by omega) (by omega)).mono ?_; rintro e w' ⟨rfl, rfl⟩) | (go_at_call 50; refine (rcompare_any _ _ _ _ (by omega) (by omega)).mono ?_; rintro e w' ⟨rfl, rfl⟩))
      go_ret2
      exact ⟨rfl, rfl⟩
    · have e : cmpV 1 n a b = cmp2 1 a b := rfl
      rw [e]
      clear e
      go_enter Try.func31, Try.ntmps31
      go_wp2_with (first | (go_at_call 49; refine (rIsPred_any _ _).mono ?_; rintro e w' ⟨rfl, rfl⟩) | (go_at_call 18; refine (rIsWord_any _ _ _ (by omega) (by omega)).mono ?_; rintro e w' ⟨rfl, rfl⟩) | (go_at_call 40; refine (rSign_any _ _ _ (by omega) (by omega) (by omega) (by omega)).mono ?_; rintro e w' ⟨rfl, rfl⟩) | (go_at_call 50; refine (rcompare_any _ _ _ _ (by omega) (by omega)).mono ?_; rintro e w' ⟨rfl, rfl⟩))
      go_ret2
      exact ⟨rfl, rfl⟩
    · have e : cmpV 2 n a b = cmp2 2 a b := rfl
      rw [e]
      clear e
      go_enter Try.func31, Try.ntmps31
      go_wp2_with (first | (go_at_call 49; refine (rIsPred_any _ _).mono ?_; rintro e w' ⟨rfl, rfl⟩) | (go_at_call 18; refine (rIsWord_any _ _ _ (by omega) (by omega)).mono ?_; rintro e w' ⟨rfl, rfl⟩) | (go_at_call 40; refine (rSign_any _ _ _ (by omega) (by omega) (by omega) (by omega)).mono ?_; rintro e w' ⟨rfl, rfl⟩) | (go_at_call 50; refine (rcompare_any _ _ _ _ (by omega) (by omega)).mono ?_; rintro e w' ⟨rfl, rfl⟩))
      go_ret2
      exact ⟨rfl, rfl⟩
    · have e : cmpV 3 n a b = cmp2 3 a b := rfl
      rw [e]
      clear e
      go_enter Try.func31, Try.ntmps31
      go_wp2_with (first | (go_at_call 49; refine (rIsPred_any _ _).mono ?_; rintro e w' ⟨rfl, rfl⟩) | (go_at_call 18; refine (rIsWord_any _ _ _ (by omega) (by omega)).mono ?_; rintro e w' ⟨rfl, rfl⟩) | (go_at_call 40; refine (rSign_any _ _ _ (by omega) (by omega) (by omega) (by omega)).mono ?_; rintro e w' ⟨rfl, rfl⟩) | (go_at_call 50; refine (rcompare_any _ _ _ _ (by omega) (by omega)).mono ?_; rintro e w' ⟨rfl, rfl⟩))
      go_ret2
      exact ⟨rfl, rfl⟩
    · have e : cmpV 4 n a b = cmp2 4 a b := rfl
      rw [e]
      clear e
      go_enter Try.func31, Try.ntmps31
      go_wp2_with (first | (go_at_call 49; refine (rIsPred_any _ _).mono ?_; rintro e w' ⟨rfl, rfl⟩) | (go_at_call 18; refine (rIsWord_any _ _ _ (by omega) (by omega)).mono ?_; rintro e w' ⟨rfl, rfl⟩) | (go_at_call 40; refine (rSign_any _ _ _ (by omega) (by omega) (by omega) (by omega)).mono ?_; rintro e w' ⟨rfl, rfl⟩) | (go_at_call 50; refine (rcompare_any _ _ _ _ (by omega) (by omega)).mono ?_; rintro e w' ⟨rfl, rfl⟩))
      go_ret2
      exact ⟨rfl, rfl⟩
    · have e : cmpV 5 n a b = cmp2 5 a b := rfl
      rw [e]
      clear e
      go_enter Try.func31, Try.ntmps31
      go_wp2_with (first | (go_at_call 49; refine (rIsPred_any _ _).mono ?_; rintro e w' ⟨rfl, rfl⟩) | (go_at_call 18; refine (rIsWord_any _ _ _ (by omega) (by omega)).mono ?_; rintro e w' ⟨rfl, rfl⟩) | (go_at_call 40; refine (rSign_any _ _ _ (by omega) (by omega) (by omega) (by omega)).mono ?_; rintro e w' ⟨rfl, rfl⟩) | (go_at_call 50; refine (rcompare_any _ _ _ _ (by omega) (by omega)).mono ?_; rintro e w' ⟨rfl, rfl⟩))
      go_ret2
      exact ⟨rfl, rfl⟩
    · have e : cmpV 6 n a b = cmp2 6 (sgn n a) (sgn n b) := rfl
      rw [e]
      clear e
      go_enter Try.func31, Try.ntmps31
      go_wp2_with (first | (go_at_call 49; refine (rIsPred_any _ _).mono ?_; rintro e w' ⟨rfl, rfl⟩) | (go_at_call 18; refine (rIsWord_any _ _ _ (by omega) (by omega)).mono ?_; rintro e w' ⟨rfl, rfl⟩) | (go_at_call 40; refine (rSign_any _ _ _ (by omega) (by omega) (by omega) (by omega)).mono ?_; rintro e w' ⟨rfl, rfl⟩) | (go_at_call 50; refine (rcompare_any _ _ _ _ (by omega) (by omega)).mono ?_; rintro e w' ⟨rfl, rfl⟩))
      go_ret2
      exact ⟨rfl, rfl⟩
    · have e : cmpV 7 n a b = cmp2 7 (sgn n a) (sgn n b) := rfl
      rw [e]
      clear e
      go_enter Try.func31, Try.ntmps31
      go_wp2_with (first | (go_at_call 49; refine (rIsPred_any _ _).mono ?_; rintro e w' ⟨rfl, rfl⟩) | (go_at_call 18; refine (rIsWord_any _ _ _ (by omega) (by omega)).mono ?_; rintro e w' ⟨rfl, rfl⟩) | (go_at_call 40; refine (rSign_any _ _ _ (by omega) (by omega) (by omega) (by omega)).mono ?_; rintro e w' ⟨rfl, rfl⟩) | (go_at_call 50; refine (rcompare_any _ _ _ _ (by omega) (by omega)).mono ?_; rintro e w' ⟨rfl, rfl⟩))
      go_ret2
      exact ⟨rfl, rfl⟩
    · have e : cmpV 8 n a b = cmp2 8 (sgn n a) (sgn n b) := rfl
      rw [e]
      clear e
      go_enter Try.func31, Try.ntmps31
      go_wp2_with (first | (go_at_call 49; refine (rIsPred_any _ _).mono ?_; rintro e w' ⟨rfl, rfl⟩) | (go_at_call 18; refine (rIsWord_any _ _ _ (by omega) (by omega)).mono ?_; rintro e w' ⟨rfl, rfl⟩) | (go_at_call 40; refine (rSign_any _ _ _ (by omega) (by omega) (by omega) (by omega)).mono ?_; rintro e w' ⟨rfl, rfl⟩) | (go_at_call 50; refine (rcompare_any _ _ _ _ (by omega) (by omega)).mono ?_; rintro e w' ⟨rfl, rfl⟩))
      go_ret2
      exact ⟨rfl, rfl⟩
    · have e : cmpV 9 n a b = cmp2 9 (sgn n a) (sgn n b) := rfl
      rw [e]
      clear e
      go_enter Try.func31, Try.ntmps31
      go_wp2_with (first | (go_at_call 49; refine (rIsPred_any _ _).mono ?_; rintro e w' ⟨rfl, rfl⟩) | (go_at_call 18; refine (rIsWord_any _ _ _ (by omega) (by omega)).mono ?_; rintro e w' ⟨rfl, rfl⟩) | (go_at_call 40; refine (rSign_any _ _ _ (by omega) (by omega) (by omega) (by omega)).mono ?_; rintro e w' ⟨rfl, rfl⟩) | (go_at_call 50; refine (rcompare_any _ _ _ _ (by omega) (by omega)).mono ?_; rintro e w' ⟨rfl, rfl⟩))
      go_ret2
      exact ⟨rfl, rfl⟩
  · have e2 : coE p n a b = 1 := by simp [coE, g]
    have e1 : coX p n a b = false := by simp [coX, g]
    rw [e1, e2]
    clear e1 e2
    cases hq : isP p
    · clear g
      go_enter Try.func31, Try.ntmps31
      go_wp2_with (first | (go_at_call 49; refine (rIsPred_any _ _).mono ?_; rintro e w' ⟨rfl, rfl⟩) | (go_at_call 18; refine (rIsWord_any _ _ _ (by omega) (by omega)).mono ?_; rintro e w' ⟨rfl, rfl⟩) | (go_at_call 40; refine (rSign_any _ _ _ (by omega) (by omega) (by omega) (by omega)).mono ?_; rintro e w' ⟨rfl, rfl⟩) | (go_at_call 50; refine (rcompare_any _ _ _ _ (by omega) (by omega)).mono ?_; rintro e w' ⟨rfl, rfl⟩))
      go_ret2
      exact ⟨rfl, rfl⟩
    · have hx : (isW n && fit n a && fit n b) = false := by
        rw [Bool.eq_false_iff]
        intro h
        apply g
        simp only [isP, isW, fit, Bool.and_eq_true, decide_eq_true_eq] at hq h
        exact (goodC_iff _ _ _ _).2 ⟨hq.1, hq.2, h.1.1.1, h.1.1.2, h.1.2, h.2⟩
      clear g
      cases hw : isW n
      · clear hx
        go_enter Try.func31, Try.ntmps31
        go_wp2_with (first | (go_at_call 49; refine (rIsPred_any _ _).mono ?_; rintro e w' ⟨rfl, rfl⟩) | (go_at_call 18; refine (rIsWord_any _ _ _ (by omega) (by omega)).mono ?_; rintro e w' ⟨rfl, rfl⟩) | (go_at_call 40; refine (rSign_any _ _ _ (by omega) (by omega) (by omega) (by omega)).mono ?_; rintro e w' ⟨rfl, rfl⟩) | (go_at_call 50; refine (rcompare_any _ _ _ _ (by omega) (by omega)).mono ?_; rintro e w' ⟨rfl, rfl⟩))
        go_ret2
        exact ⟨rfl, rfl⟩
      · cases fa : fit n a
        · clear hx
          go_enter Try.func31, Try.ntmps31
          go_wp2_with (first | (go_at_call 49; refine (rIsPred_any _ _).mono ?_; rintro e w' ⟨rfl, rfl⟩) | (go_at_call 18; refine (rIsWord_any _ _ _ (by omega) (by omega)).mono ?_; rintro e w' ⟨rfl, rfl⟩) | (go_at_call 40; refine (rSign_any _ _ _ (by omega) (by omega) (by omega) (by omega)).mono ?_; rintro e w' ⟨rfl, rfl⟩) | (go_at_call 50; refine (rcompare_any _ _ _ _ (by omega) (by omega)).mono ?_; rintro e w' ⟨rfl, rfl⟩))
          go_ret2
          exact ⟨rfl, rfl⟩
        · have fb : fit n b = false := by simpa [hw, fa] using hx
          clear hx
          go_enter Try.func31, Try.ntmps31
          go_wp2_with (first | (go_at_call 49; refine (rIsPred_any _ _).mono ?_; rintro e w' ⟨rfl, rfl⟩) | (go_at_call 18; refine (rIsWord_any _ _ _ (by omega) (by omega)).mono ?_; rintro e w' ⟨rfl, rfl⟩) | (go_at_call 40; refine (rSign_any _ _ _ (by omega) (by omega) (by omega) (by omega)).mono ?_; rintro e w' ⟨rfl, rfl⟩) | (go_at_call 50; refine (rcompare_any _ _ _ _ (by omega) (by omega)).mono ?_; rintro e w' ⟨rfl, rfl⟩))
          go_ret2
          exact ⟨rfl, rfl⟩

set_option maxHeartbeats 4000000 in
theorem pOpposite (p : Int) (w : World) : Calls Try.prog 32 #[.int .i64 p] w fun e w' => e = .returned (.tuple #[.int .i64 (opX p), .int .i64 (opE p)]) ∧ Below w.heap.size w w' := by
  by_cases hq : isP p = true
  · have hq2 : 0 ≤ p ∧ p ≤ 9 := by simpa [isP] using hq
    have h : p = 0 ∨ p = 1 ∨ p = 2 ∨ p = 3 ∨ p = 4 ∨ p = 5 ∨ p = 6 ∨ p = 7 ∨ p = 8 ∨ p = 9 := by omega
    rcases h with rfl | rfl | rfl | rfl | rfl | rfl | rfl | rfl | rfl | rfl
    · have e1 : opX 0 = 1 := by decide
      have e2 : opE 0 = 0 := by decide
      rw [e1, e2]
      clear e1 e2
      have i0 : ∀ w, (Instr.index 73 (.agg #[.int .i64 1, .int .i64 0, .int .i64 5, .int .i64 4, .int .i64 3, .int .i64 2, .int .i64 9, .int .i64 8, .int .i64 7, .int .i64 6]) (.int .i64 0)).run Try.prog w = .ok (.int .i64 1) w := fun _ => by kernel_rfl
      go_enter Try.func32, Try.ntmps32
      go_wp2_with (first | (go_at_call 48; refine (isPred_any _ _).mono ?_; rintro e w' ⟨rfl, rfl⟩))
      go_ret2
      exact ⟨rfl, by repeat (first | with_reducible exact Below.refl _ _ | with_reducible refine Below.drew ?_ | with_reducible refine Below.alloc ?_ (by simp; try omega) _)⟩
    · have e1 : opX 1 = 0 := by decide
      have e2 : opE 1 = 0 := by decide
      rw [e1, e2]
      clear e1 e2
      have i0 : ∀ w, (Instr.index 73 (.agg #[.int .i64 1, .int .i64 0, .int .i64 5, .int .i64 4, .int .i64 3, .int .i64 2, .int .i64 9, .int .i64 8, .int .i64 7, .int .i64 6]) (.int .i64 1)).run Try.prog w = .ok (.int .i64 0) w := fun _ => by kernel_rfl
      go_enter Try.func32, Try.ntmps32
      go_wp2_with (first | (go_at_call 48; refine (isPred_any _ _).mono ?_; rintro e w' ⟨rfl, rfl⟩))
      go_ret2
      exact ⟨rfl, by repeat (first | with_reducible exact Below.refl _ _ | with_reducible refine Below.drew ?_ | with_reducible refine Below.alloc ?_ (by simp; try omega) _)⟩
    · have e1 : opX 2 = 5 := by decide
      have e2 : opE 2 = 0 := by decide
      rw [e1, e2]
      clear e1 e2
      have i0 : ∀ w, (Instr.index 73 (.agg #[.int .i64 1, .int .i64 0, .int .i64 5, .int .i64 4, .int .i64 3, .int .i64 2, .int .i64 9, .int .i64 8, .int .i64 7, .int .i64 6]) (.int .i64 2)).run Try.prog w = .ok (.int .i64 5) w := fun _ => by kernel_rfl
      go_enter Try.func32, Try.ntmps32
      go_wp2_with (first | (go_at_call 48; refine (isPred_any _ _).mono ?_; rintro e w' ⟨rfl, rfl⟩))
      go_ret2
      exact ⟨rfl, by repeat (first | with_reducible exact Below.refl _ _ | with_reducible refine Below.drew ?_ | with_reducible refine Below.alloc ?_ (by simp; try omega) _)⟩
    · have e1 : opX 3 = 4 := by decide
      have e2 : opE 3 = 0 := by decide
      rw [e1, e2]
      clear e1 e2
      have i0 : ∀ w, (Instr.index 73 (.agg #[.int .i64 1, .int .i64 0, .int .i64 5, .int .i64 4, .int .i64 3, .int .i64 2, .int .i64 9, .int .i64 8, .int .i64 7, .int .i64 6]) (.int .i64 3)).run Try.prog w = .ok (.int .i64 4) w := fun _ => by kernel_rfl
      go_enter Try.func32, Try.ntmps32
      go_wp2_with (first | (go_at_call 48; refine (isPred_any _ _).mono ?_; rintro e w' ⟨rfl, rfl⟩))
      go_ret2
      exact ⟨rfl, by repeat (first | with_reducible exact Below.refl _ _ | with_reducible refine Below.drew ?_ | with_reducible refine Below.alloc ?_ (by simp; try omega) _)⟩
    · have e1 : opX 4 = 3 := by decide
      have e2 : opE 4 = 0 := by decide
      rw [e1, e2]
      clear e1 e2
      have i0 : ∀ w, (Instr.index 73 (.agg #[.int .i64 1, .int .i64 0, .int .i64 5, .int .i64 4, .int .i64 3, .int .i64 2, .int .i64 9, .int .i64 8, .int .i64 7, .int .i64 6]) (.int .i64 4)).run Try.prog w = .ok (.int .i64 3) w := fun _ => by kernel_rfl
      go_enter Try.func32, Try.ntmps32
      go_wp2_with (first | (go_at_call 48; refine (isPred_any _ _).mono ?_; rintro e w' ⟨rfl, rfl⟩))
      go_ret2
      exact ⟨rfl, by repeat (first | with_reducible exact Below.refl _ _ | with_reducible refine Below.drew ?_ | with_reducible refine Below.alloc ?_ (by simp; try omega) _)⟩
    · have e1 : opX 5 = 2 := by decide
      have e2 : opE 5 = 0 := by decide
      rw [e1, e2]
      clear e1 e2
      have i0 : ∀ w, (Instr.index 73 (.agg #[.int .i64 1, .int .i64 0, .int .i64 5, .int .i64 4, .int .i64 3, .int .i64 2, .int .i64 9, .int .i64 8, .int .i64 7, .int .i64 6]) (.int .i64 5)).run Try.prog w = .ok (.int .i64 2) w := fun _ => by kernel_rfl
      go_enter Try.func32, Try.ntmps32
      go_wp2_with (first | (go_at_call 48; refine (isPred_any _ _).mono ?_; rintro e w' ⟨rfl, rfl⟩))
      go_ret2
      exact ⟨rfl, by repeat (first | with_reducible exact Below.refl _ _ | with_reducible refine Below.drew ?_ | with_reducible refine Below.alloc ?_ (by simp; try omega) _)⟩
    · have e1 : opX 6 = 9 := by decide
      have e2 : opE 6 = 0 := by decide
      rw [e1, e2]
      clear e1 e2
      have i0 : ∀ w, (Instr.index 73 (.agg #[.int .i64 1, .int .i64 0, .int .i64 5, .int .i64 4, .int .i64 3, .int .i64 2, .int .i64 9, .int .i64 8, .int .i64 7, .int .i64 6]) (.int .i64 6)).run Try.prog w = .ok (.int .i64 9) w := fun _ => by kernel_rfl
      go_enter Try.func32, Try.ntmps32
      go_wp2_with (first | (go_at_call 48; refine (isPred_any _ _).mono ?_; rintro e w' ⟨rfl, rfl⟩))
      go_ret2
      exact ⟨rfl, by repeat (first | with_reducible exact Below.refl _ _ | with_reducible refine Below.drew ?_ | with_reducible refine Below.alloc ?_ (by simp; try omega) _)⟩
    · have e1 : opX 7 = 8 := by decide
      have e2 : opE 7 = 0 := by decide
      rw [e1, e2]
      clear e1 e2
      have i0 : ∀ w, (Instr.index 73 (.agg #[.int .i64 1, .int .i64 0, .int .i64 5, .int .i64 4, .int .i64 3, .int .i64 2, .int .i64 9, .int .i64 8, .int .i64 7, .int .i64 6]) (.int .i64 7)).run Try.prog w = .ok (.int .i64 8) w := fun _ => by kernel_rfl
      go_enter Try.func32, Try.ntmps32
      go_wp2_with (first | (go_at_call 48; refine (isPred_any _ _).mono ?_; rintro e w' ⟨rfl, rfl⟩))
      go_ret2
      exact ⟨rfl, by repeat (first | with_reducible exact Below.refl _ _ | with_reducible refine Below.drew ?_ | with_reducible refine Below.alloc ?_ (by simp; try omega) _)⟩
    · have e1 : opX 8 = 7 := by decide
      have e2 : opE 8 = 0 := by decide
      rw [e1, e2]
      clear e1 e2
      have i0 : ∀ w, (Instr.index 73 (.agg #[.int .i64 1, .int .i64 0, .int .i64 5, .int .i64 4, .int .i64 3, .int .i64 2, .int .i64 9, .int .i64 8, .int .i64 7, .int .i64 6]) (.int .i64 8)).run Try.prog w = .ok (.int .i64 7) w := fun _ => by kernel_rfl
      go_enter Try.func32, Try.ntmps32
      go_wp2_with (first | (go_at_call 48; refine (isPred_any _ _).mono ?_; rintro e w' ⟨rfl, rfl⟩))
      go_ret2
      exact ⟨rfl, by repeat (first | with_reducible exact Below.refl _ _ | with_reducible refine Below.drew ?_ | with_reducible refine Below.alloc ?_ (by simp; try omega) _)⟩
    · have e1 : opX 9 = 6 := by decide
      have e2 : opE 9 = 0 := by decide
      rw [e1, e2]
      clear e1 e2
      have i0 : ∀ w, (Instr.index 73 (.agg #[.int .i64 1, .int .i64 0, .int .i64 5, .int .i64 4, .int .i64 3, .int .i64 2, .int .i64 9, .int .i64 8, .int .i64 7, .int .i64 6]) (.int .i64 9)).run Try.prog w = .ok (.int .i64 6) w := fun _ => by kernel_rfl
      go_enter Try.func32, Try.ntmps32
      go_wp2_with (first | (go_at_call 48; refine (isPred_any _ _).mono ?_; rintro e w' ⟨rfl, rfl⟩))
      go_ret2
      exact ⟨rfl, by repeat (first | with_reducible exact Below.refl _ _ | with_reducible refine Below.drew ?_ | with_reducible refine Below.alloc ?_ (by simp; try omega) _)⟩
  · have hq : isP p = false := by simpa using hq
    have e1 : opX p = 0 := by simp [opX, hq]
    have e2 : opE p = 1 := by simp [opE, hq]
    rw [e1, e2]
    clear e1 e2
    go_enter Try.func32, Try.ntmps32
    go_wp2_with (first | (go_at_call 48; refine (isPred_any _ _).mono ?_; rintro e w' ⟨rfl, rfl⟩))
    go_ret2
    exact ⟨rfl, by repeat (first | with_reducible exact Below.refl _ _ | with_reducible refine Below.drew ?_ | with_reducible refine Below.alloc ?_ (by simp; try omega) _)⟩

set_option maxHeartbeats 4000000 in
theorem pMirror (p : Int) (w : World) : Calls Try.prog 34 #[.int .i64 p] w fun e w' => e = .returned (.tuple #[.int .i64 (miX p), .int .i64 (opE p)]) ∧ Below w.heap.size w w' := by
  by_cases hq : isP p = true
  · have hq2 : 0 ≤ p ∧ p ≤ 9 := by simpa [isP] using hq
    have h : p = 0 ∨ p = 1 ∨ p = 2 ∨ p = 3 ∨ p = 4 ∨ p = 5 ∨ p = 6 ∨ p = 7 ∨ p = 8 ∨ p = 9 := by omega
    rcases h with rfl | rfl | rfl | rfl | rfl | rfl | rfl | rfl | rfl | rfl
    · have e1 : miX 0 = 0 := by decide
      have e2 : opE 0 = 0 := by decide
      rw [e1, e2]
      clear e1 e2
      have i0 : ∀ w, (Instr.index 73 (.agg #[.int .i64 0, .int .i64 1, .int .i64 4, .int .i64 5, .int .i64 2, .int .i64 3, .int .i64 8, .int .i64 9, .int .i64 6, .int .i64 7]) (.int .i64 0)).run Try.prog w = .ok (.int .i64 0) w := fun _ => by kernel_rfl
      go_enter Try.func34, Try.ntmps34
      go_wp2_with (first | (go_at_call 48; refine (isPred_any _ _).mono ?_; rintro e w' ⟨rfl, rfl⟩))
      go_ret2
      exact ⟨rfl, by repeat (first | with_reducible exact Below.refl _ _ | with_reducible refine Below.drew ?_ | with_reducible refine Below.alloc ?_ (by simp; try omega) _)⟩
    · have e1 : miX 1 = 1 := by decide
      have e2 : opE 1 = 0 := by decide
      rw [e1, e2]
      clear e1 e2
      have i0 : ∀ w, (Instr.index 73 (.agg #[.int .i64 0, .int .i64 1, .int .i64 4, .int .i64 5, .int .i64 2, .int .i64 3, .int .i64 8, .int .i64 9, .int .i64 6, .int .i64 7]) (.int .i64 1)).run Try.prog w = .ok (.int .i64 1) w := fun _ => by kernel_rfl
      go_enter Try.func34, Try.ntmps34
      go_wp2_with (first | (go_at_call 48; refine (isPred_any _ _).mono ?_; rintro e w' ⟨rfl, rfl⟩))
      go_ret2
      exact ⟨rfl, by repeat (first | with_reducible exact Below.refl _ _ | with_reducible refine Below.drew ?_ | with_reducible refine Below.alloc ?_ (by simp; try omega) _)⟩
    · have e1 : miX 2 = 4 := by decide
      have e2 : opE 2 = 0 := by decide
      rw [e1, e2]
      clear e1 e2
      have i0 : ∀ w, (Instr.index 73 (.agg #[.int .i64 0, .int .i64 1, .int .i64 4, .int .i64 5, .int .i64 2, .int .i64 3, .int .i64 8, .int .i64 9, .int .i64 6, .int .i64 7]) (.int .i64 2)).run Try.prog w = .ok (.int .i64 4) w := fun _ => by kernel_rfl
      go_enter Try.func34, Try.ntmps34
      go_wp2_with (first | (go_at_call 48; refine (isPred_any _ _).mono ?_; rintro e w' ⟨rfl, rfl⟩))
      go_ret2
      exact ⟨rfl, by repeat (first | with_reducible exact Below.refl _ _ | with_reducible refine Below.drew ?_ | with_reducible refine Below.alloc ?_ (by simp; try omega) _)⟩
    · have e1 : miX 3 = 5 := by decide
      have e2 : opE 3 = 0 := by decide
      rw [e1, e2]
      clear e1 e2
      have i0 : ∀ w, (Instr.index 73 (.agg #[.int .i64 0, .int .i64 1, .int .i64 4, .int .i64 5, .int .i64 2, .int .i64 3, .int .i64 8, .int .i64 9, .int .i64 6, .int .i64 7]) (.int .i64 3)).run Try.prog w = .ok (.int .i64 5) w := fun _ => by kernel_rfl
      go_enter Try.func34, Try.ntmps34
      go_wp2_with (first | (go_at_call 48; refine (isPred_any _ _).mono ?_; rintro e w' ⟨rfl, rfl⟩))
      go_ret2
      exact ⟨rfl, by repeat (first | with_reducible exact Below.refl _ _ | with_reducible refine Below.drew ?_ | with_reducible refine Below.alloc ?_ (by simp; try omega) _)⟩
    · have e1 : miX 4 = 2 := by decide
      have e2 : opE 4 = 0 := by decide
      rw [e1, e2]
      clear e1 e2
      have i0 : ∀ w, (Instr.index 73 (.agg #[.int .i64 0, .int .i64 1, .int .i64 4, .int .i64 5, .int .i64 2, .int .i64 3, .int .i64 8, .int .i64 9, .int .i64 6, .int .i64 7]) (.int .i64 4)).run Try.prog w = .ok (.int .i64 2) w := fun _ => by kernel_rfl
      go_enter Try.func34, Try.ntmps34
      go_wp2_with (first | (go_at_call 48; refine (isPred_any _ _).mono ?_; rintro e w' ⟨rfl, rfl⟩))
      go_ret2
      exact ⟨rfl, by repeat (first | with_reducible exact Below.refl _ _ | with_reducible refine Below.drew ?_ | with_reducible refine Below.alloc ?_ (by simp; try omega) _)⟩
    · have e1 : miX 5 = 3 := by decide
      have e2 : opE 5 = 0 := by decide
      rw [e1, e2]
      clear e1 e2
      have i0 : ∀ w, (Instr.index 73 (.agg #[.int .i64 0, .int .i64 1, .int .i64 4, .int .i64 5, .int .i64 2, .int .i64 3, .int .i64 8, .int .i64 9, .int .i64 6, .int .i64 7]) (.int .i64 5)).run Try.prog w = .ok (.int .i64 3) w := fun _ => by kernel_rfl
      go_enter Try.func34, Try.ntmps34
      go_wp2_with (first | (go_at_call 48; refine (isPred_any _ _).mono ?_; rintro e w' ⟨rfl, rfl⟩))
      go_ret2
      exact ⟨rfl, by repeat (first | with_reducible exact Below.refl _ _ | with_reducible refine Below.drew ?_ | with_reducible refine Below.alloc ?_ (by simp; try omega) _)⟩
    · have e1 : miX 6 = 8 := by decide
      have e2 : opE 6 = 0 := by decide
      rw [e1, e2]
      clear e1 e2
      have i0 : ∀ w, (Instr.index 73 (.agg #[.int .i64 0, .int .i64 1, .int .i64 4, .int .i64 5, .int .i64 2, .int .i64 3, .int .i64 8, .int .i64 9, .int .i64 6, .int .i64 7]) (.int .i64 6)).run Try.prog w = .ok (.int .i64 8) w := fun _ => by kernel_rfl
      go_enter Try.func34, Try.ntmps34
      go_wp2_with (first | (go_at_call 48; refine (isPred_any _ _).mono ?_; rintro e w' ⟨rfl, rfl⟩))
      go_ret2
      exact ⟨rfl, by repeat (first | with_reducible exact Below.refl _ _ | with_reducible refine Below.drew ?_ | with_reducible refine Below.alloc ?_ (by simp; try omega) _)⟩
    · have e1 : miX 7 = 9 := by decide
      have e2 : opE 7 = 0 := by decide
      rw [e1, e2]
      clear e1 e2
      have i0 : ∀ w, (Instr.index 73 (.agg #[.int .i64 0, .int .i64 1, .int .i64 4, .int .i64 5, .int .i64 2, .int .i64 3, .int .i64 8, .int .i64 9, .int .i64 6, .int .i64 7]) (.int .i64 7)).run Try.prog w = .ok (.int .i64 9) w := fun _ => by kernel_rfl
      go_enter Try.func34, Try.ntmps34
      go_wp2_with (first | (go_at_call 48; refine (isPred_any _ _).mono ?_; rintro e w' ⟨rfl, rfl⟩))
      go_ret2
      exact ⟨rfl, by repeat (first | with_reducible exact Below.refl _ _ | with_reducible refine Below.drew ?_ | with_reducible refine Below.alloc ?_ (by simp; try omega) _)⟩
    · have e1 : miX 8 = 6 := by decide
      have e2 : opE 8 = 0 := by decide
      rw [e1, e2]
      clear e1 e2
      have i0 : ∀ w, (Instr.index 73 (.agg #[.int .i64 0, .int .i64 1, .int .i64 4, .int .i64 5, .int .i64 2, .int .i64 3, .int .i64 8, .int .i64 9, .int .i64 6, .int .i64 7]) (.int .i64 8)).run Try.prog w = .ok (.int .i64 6) w := fun _ => by kernel_rfl
      go_enter Try.func34, Try.ntmps34
      go_wp2_with (first | (go_at_call 48; refine (isPred_any _ _).mono ?_; rintro e w' ⟨rfl, rfl⟩))
      go_ret2
      exact ⟨rfl, by repeat (first | with_reducible exact Below.refl _ _ | with_reducible refine Below.drew ?_ | with_reducible refine Below.alloc ?_ (by simp; try omega) _)⟩
    · have e1 : miX 9 = 7 := by decide
      have e2 : opE 9 = 0 := by decide
      rw [e1, e2]
      clear e1 e2
      have i0 : ∀ w, (Instr.index 73 (.agg #[.int .i64 0, .int .i64 1, .int .i64 4, .int .i64 5, .int .i64 2, .int .i64 3, .int .i64 8, .int .i64 9, .int .i64 6, .int .i64 7]) (.int .i64 9)).run Try.prog w = .ok (.int .i64 7) w := fun _ => by kernel_rfl
      go_enter Try.func34, Try.ntmps34
      go_wp2_with (first | (go_at_call 48; refine (isPred_any _ _).mono ?_; rintro e w' ⟨rfl, rfl⟩))
      go_ret2
      exact ⟨rfl, by repeat (first | with_reducible exact Below.refl _ _ | with_reducible refine Below.drew ?_ | with_reducible refine Below.alloc ?_ (by simp; try omega) _)⟩
  · have hq : isP p = false := by simpa using hq
    have e1 : miX p = 0 := by simp [miX, hq]
    have e2 : opE p = 1 := by simp [opE, hq]
    rw [e1, e2]
    clear e1 e2
    go_enter Try.func34, Try.ntmps34
    go_wp2_with (first | (go_at_call 48; refine (isPred_any _ _).mono ?_; rintro e w' ⟨rfl, rfl⟩))
    go_ret2
    exact ⟨rfl, by repeat (first | with_reducible exact Below.refl _ _ | with_reducible refine Below.drew ?_ | with_reducible refine Below.alloc ?_ (by simp; try omega) _)⟩

set_option maxHeartbeats 4000000 in
theorem rOpposite (p : Int) (w : World) : Calls Try.prog 33 #[.int .i64 p] w fun e w' => e = .returned (.tuple #[.int .i64 (opX p), .int .i64 (opE p)]) ∧ Below w.heap.size w w' := by
  by_cases hq : isP p = true
  · have hq2 : 0 ≤ p ∧ p ≤ 9 := by simpa [isP] using hq
    have h : p = 0 ∨ p = 1 ∨ p = 2 ∨ p = 3 ∨ p = 4 ∨ p = 5 ∨ p = 6 ∨ p = 7 ∨ p = 8 ∨ p = 9 := by omega
    rcases h with rfl | rfl | rfl | rfl | rfl | rfl | rfl | rfl | rfl | rfl
    · have e1 : opX 0 = 1 := by decide
      have e2 : opE 0 = 0 := by decide
      rw [e1, e2]
      clear e1 e2
      go_enter Try.func33, Try.ntmps33
      go_wp2_with (first | (go_at_call 49; refine (rIsPred_any _ _).mono ?_; rintro e w' ⟨rfl, rfl⟩))
      go_ret2
      exact ⟨rfl, by repeat (first | with_reducible exact Below.refl _ _ | with_reducible refine Below.drew ?_ | with_reducible refine Below.alloc ?_ (by simp; try omega) _)⟩
    · have e1 : opX 1 = 0 := by decide
      have e2 : opE 1 = 0 := by decide
      rw [e1, e2]
      clear e1 e2
      go_enter Try.func33, Try.ntmps33
      go_wp2_with (first | (go_at_call 49; refine (rIsPred_any _ _).mono ?_; rintro e w' ⟨rfl, rfl⟩))
      go_ret2
      exact ⟨rfl, by repeat (first | with_reducible exact Below.refl _ _ | with_reducible refine Below.drew ?_ | with_reducible refine Below.alloc ?_ (by simp; try omega) _)⟩
    · have e1 : opX 2 = 5 := by decide
      have e2 : opE 2 = 0 := by decide
      rw [e1, e2]
      clear e1 e2
      go_enter Try.func33, Try.ntmps33
      go_wp2_with (first | (go_at_call 49; refine (rIsPred_any _ _).mono ?_; rintro e w' ⟨rfl, rfl⟩))
      go_ret2
      exact ⟨rfl, by repeat (first | with_reducible exact Below.refl _ _ | with_reducible refine Below.drew ?_ | with_reducible refine Below.alloc ?_ (by simp; try omega) _)⟩
    · have e1 : opX 3 = 4 := by decide
      have e2 : opE 3 = 0 := by decide
      rw [e1, e2]
      clear e1 e2
      go_enter Try.func33, Try.ntmps33
      go_wp2_with (first | (go_at_call 49; refine (rIsPred_any _ _).mono ?_; rintro e w' ⟨rfl, rfl⟩))
      go_ret2
      exact ⟨rfl, by repeat (first | with_reducible exact Below.refl _ _ | with_reducible refine Below.drew ?_ | with_reducible refine Below.alloc ?_ (by simp; try omega) _)⟩
    · have e1 : opX 4 = 3 := by decide
      have e2 : opE 4 = 0 := by decide
      rw [e1, e2]
      clear e1 e2
      go_enter Try.func33, Try.ntmps33
      go_wp2_with (first | (go_at_call 49; refine (rIsPred_any _ _).mono ?_; rintro e w' ⟨rfl, rfl⟩))
      go_ret2
      exact ⟨rfl, by repeat (first | with_reducible exact Below.refl _ _ | with_reducible refine Below.drew ?_ | with_reducible refine Below.alloc ?_ (by simp; try omega) _)⟩
    · have e1 : opX 5 = 2 := by decide
      have e2 : opE 5 = 0 := by decide
      rw [e1, e2]
      clear e1 e2
      go_enter Try.func33, Try.ntmps33
      go_wp2_with (first | (go_at_call 49; refine (rIsPred_any _ _).mono ?_; rintro e w' ⟨rfl, rfl⟩))
      go_ret2
      exact ⟨rfl, by repeat (first | with_reducible exact Below.refl _ _ | with_reducible refine Below.drew ?_ | with_reducible refine Below.alloc ?_ (by simp; try omega) _)⟩
    · have e1 : opX 6 = 9 := by decide
      have e2 : opE 6 = 0 := by decide
      rw [e1, e2]
      clear e1 e2
      go_enter Try.func33, Try.ntmps33
      go_wp2_with (first | (go_at_call 49; refine (rIsPred_any _ _).mono ?_; rintro e w' ⟨rfl, rfl⟩))
      go_ret2
      exact ⟨rfl, by repeat (first | with_reducible exact Below.refl _ _ | with_reducible refine Below.drew ?_ | with_reducible refine Below.alloc ?_ (by simp; try omega) _)⟩
    · have e1 : opX 7 = 8 := by decide
      have e2 : opE 7 = 0 := by decide
      rw [e1, e2]
      clear e1 e2
      go_enter Try.func33, Try.ntmps33
      go_wp2_with (first | (go_at_call 49; refine (rIsPred_any _ _).mono ?_; rintro e w' ⟨rfl, rfl⟩))
      go_ret2
      exact ⟨rfl, by repeat (first | with_reducible exact Below.refl _ _ | with_reducible refine Below.drew ?_ | with_reducible refine Below.alloc ?_ (by simp; try omega) _)⟩
    · have e1 : opX 8 = 7 := by decide
      have e2 : opE 8 = 0 := by decide
      rw [e1, e2]
      clear e1 e2
      go_enter Try.func33, Try.ntmps33
      go_wp2_with (first | (go_at_call 49; refine (rIsPred_any _ _).mono ?_; rintro e w' ⟨rfl, rfl⟩))
      go_ret2
      exact ⟨rfl, by repeat (first | with_reducible exact Below.refl _ _ | with_reducible refine Below.drew ?_ | with_reducible refine Below.alloc ?_ (by simp; try omega) _)⟩
    · have e1 : opX 9 = 6 := by decide
      have e2 : opE 9 = 0 := by decide
      rw [e1, e2]
      clear e1 e2
      go_enter Try.func33, Try.ntmps33
      go_wp2_with (first | (go_at_call 49; refine (rIsPred_any _ _).mono ?_; rintro e w' ⟨rfl, rfl⟩))
      go_ret2
      exact ⟨rfl, by repeat (first | with_reducible exact Below.refl _ _ | with_reducible refine Below.drew ?_ | with_reducible refine Below.alloc ?_ (by simp; try omega) _)⟩
  · have hq : isP p = false := by simpa using hq
    have e1 : opX p = 0 := by simp [opX, hq]
    have e2 : opE p = 1 := by simp [opE, hq]
    rw [e1, e2]
    clear e1 e2
    go_enter Try.func33, Try.ntmps33
    go_wp2_with (first | (go_at_call 49; refine (rIsPred_any _ _).mono ?_; rintro e w' ⟨rfl, rfl⟩))
    go_ret2
    exact ⟨rfl, by repeat (first | with_reducible exact Below.refl _ _ | with_reducible refine Below.drew ?_ | with_reducible refine Below.alloc ?_ (by simp; try omega) _)⟩

set_option maxHeartbeats 4000000 in
theorem rMirror (p : Int) (w : World) : Calls Try.prog 35 #[.int .i64 p] w fun e w' => e = .returned (.tuple #[.int .i64 (miX p), .int .i64 (opE p)]) ∧ Below w.heap.size w w' := by
  by_cases hq : isP p = true
  · have hq2 : 0 ≤ p ∧ p ≤ 9 := by simpa [isP] using hq
    have h : p = 0 ∨ p = 1 ∨ p = 2 ∨ p = 3 ∨ p = 4 ∨ p = 5 ∨ p = 6 ∨ p = 7 ∨ p = 8 ∨ p = 9 := by omega
    rcases h with rfl | rfl | rfl | rfl | rfl | rfl | rfl | rfl | rfl | rfl
    · have e1 : miX 0 = 0 := by decide
      have e2 : opE 0 = 0 := by decide
      rw [e1, e2]
      clear e1 e2
      go_enter Try.func35, Try.ntmps35
      go_wp2_with (first | (go_at_call 49; refine (rIsPred_any _ _).mono ?_; rintro e w' ⟨rfl, rfl⟩))
      go_ret2
      exact ⟨rfl, by repeat (first | with_reducible exact Below.refl _ _ | with_reducible refine Below.drew ?_ | with_reducible refine Below.alloc ?_ (by simp; try omega) _)⟩
    · have e1 : miX 1 = 1 := by decide
      have e2 : opE 1 = 0 := by decide
      rw [e1, e2]
      clear e1 e2
      go_enter Try.func35, Try.ntmps35
      go_wp2_with (first | (go_at_call 49; refine (rIsPred_any _ _).mono ?_; rintro e w' ⟨rfl, rfl⟩))
      go_ret2
      exact ⟨rfl, by repeat (first | with_reducible exact Below.refl _ _ | with_reducible refine Below.drew ?_ | with_reducible refine Below.alloc ?_ (by simp; try omega) _)⟩
    · have e1 : miX 2 = 4 := by decide
      have e2 : opE 2 = 0 := by decide
      rw [e1, e2]
      clear e1 e2
      go_enter Try.func35, Try.ntmps35
      go_wp2_with (first | (go_at_call 49; refine (rIsPred_any _ _).mono ?_; rintro e w' ⟨rfl, rfl⟩))
      go_ret2
      exact ⟨rfl, by repeat (first | with_reducible exact Below.refl _ _ | with_reducible refine Below.drew ?_ | with_reducible refine Below.alloc ?_ (by simp; try omega) _)⟩
    · have e1 : miX 3 = 5 := by decide
      have e2 : opE 3 = 0 := by decide
      rw [e1, e2]
      clear e1 e2
      go_enter Try.func35, Try.ntmps35
      go_wp2_with (first | (go_at_call 49; refine (rIsPred_any _ _).mono ?_; rintro e w' ⟨rfl, rfl⟩))
      go_ret2
      exact ⟨rfl, by repeat (first | with_reducible exact Below.refl _ _ | with_reducible refine Below.drew ?_ | with_reducible refine Below.alloc ?_ (by simp; try omega) _)⟩
    · have e1 : miX 4 = 2 := by decide
      have e2 : opE 4 = 0 := by decide
      rw [e1, e2]
      clear e1 e2
      go_enter Try.func35, Try.ntmps35
      go_wp2_with (first | (go_at_call 49; refine (rIsPred_any _ _).mono ?_; rintro e w' ⟨rfl, rfl⟩))
      go_ret2
      exact ⟨rfl, by repeat (first | with_reducible exact Below.refl _ _ | with_reducible refine Below.drew ?_ | with_reducible refine Below.alloc ?_ (by simp; try omega) _)⟩
    · have e1 : miX 5 = 3 := by decide
      have e2 : opE 5 = 0 := by decide
      rw [e1, e2]
      clear e1 e2
      go_enter Try.func35, Try.ntmps35
      go_wp2_with (first | (go_at_call 49; refine (rIsPred_any _ _).mono ?_; rintro e w' ⟨rfl, rfl⟩))
      go_ret2
      exact ⟨rfl, by repeat (first | with_reducible exact Below.refl _ _ | with_reducible refine Below.drew ?_ | with_reducible refine Below.alloc ?_ (by simp; try omega) _)⟩
    · have e1 : miX 6 = 8 := by decide
      have e2 : opE 6 = 0 := by decide
      rw [e1, e2]
      clear e1 e2
      go_enter Try.func35, Try.ntmps35
      go_wp2_with (first | (go_at_call 49; refine (rIsPred_any _ _).mono ?_; rintro e w' ⟨rfl, rfl⟩))
      go_ret2
      exact ⟨rfl, by repeat (first | with_reducible exact Below.refl _ _ | with_reducible refine Below.drew ?_ | with_reducible refine Below.alloc ?_ (by simp; try omega) _)⟩
    · have e1 : miX 7 = 9 := by decide
      have e2 : opE 7 = 0 := by decide
      rw [e1, e2]
      clear e1 e2
      go_enter Try.func35, Try.ntmps35
      go_wp2_with (first | (go_at_call 49; refine (rIsPred_any _ _).mono ?_; rintro e w' ⟨rfl, rfl⟩))
      go_ret2
      exact ⟨rfl, by repeat (first | with_reducible exact Below.refl _ _ | with_reducible refine Below.drew ?_ | with_reducible refine Below.alloc ?_ (by simp; try omega) _)⟩
    · have e1 : miX 8 = 6 := by decide
      have e2 : opE 8 = 0 := by decide
      rw [e1, e2]
      clear e1 e2
      go_enter Try.func35, Try.ntmps35
      go_wp2_with (first | (go_at_call 49; refine (rIsPred_any _ _).mono ?_; rintro e w' ⟨rfl, rfl⟩))
      go_ret2
      exact ⟨rfl, by repeat (first | with_reducible exact Below.refl _ _ | with_reducible refine Below.drew ?_ | with_reducible refine Below.alloc ?_ (by simp; try omega) _)⟩
    · have e1 : miX 9 = 7 := by decide
      have e2 : opE 9 = 0 := by decide
      rw [e1, e2]
      clear e1 e2
      go_enter Try.func35, Try.ntmps35
      go_wp2_with (first | (go_at_call 49; refine (rIsPred_any _ _).mono ?_; rintro e w' ⟨rfl, rfl⟩))
      go_ret2
      exact ⟨rfl, by repeat (first | with_reducible exact Below.refl _ _ | with_reducible refine Below.drew ?_ | with_reducible refine Below.alloc ?_ (by simp; try omega) _)⟩
  · have hq : isP p = false := by simpa using hq
    have e1 : miX p = 0 := by simp [miX, hq]
    have e2 : opE p = 1 := by simp [opE, hq]
    rw [e1, e2]
    clear e1 e2
    go_enter Try.func35, Try.ntmps35
    go_wp2_with (first | (go_at_call 49; refine (rIsPred_any _ _).mono ?_; rintro e w' ⟨rfl, rfl⟩))
    go_ret2
    exact ⟨rfl, by repeat (first | with_reducible exact Below.refl _ _ | with_reducible refine Below.drew ?_ | with_reducible refine Below.alloc ?_ (by simp; try omega) _)⟩

theorem wCompares (p n a b : Int) (w : World) (h3 : 0 ≤ a) (h4 : a ≤ 4294967295) (h5 : 0 ≤ b) (h6 : b ≤ 4294967295) : Calls Try.prog 10 #[.int .i64 p, .int .i64 n, .agg #[.int .u32 a, .int .u32 b]] w fun e w' => e = .returned (.bool true) ∧ Below w.heap.size w w' := by
  by_cases g : goodC p n a b = true
  · have e2 : coE p n a b = 0 := by simp [coE, g]
    have e1 : coX p n a b = cmpV p n a b := by simp [coX, g]
    obtain ⟨g1, g2, g3⟩ := (goodC_iff _ _ _ _).1 g
    have hq : isP p = true := by simp [isP, g1, g2]
    have e3 : opX p = oppV p := by simp [opX, hq]
    have e4 : miX p = mirV p := by simp [miX, hq]
    obtain ⟨o1, o2⟩ := opp_cmp g
    obtain ⟨m1, m2⟩ := mir_cmp g
    have e5 : coE (oppV p) n a b = 0 := by simp [coE, o2]
    have e6 : coE (mirV p) n b a = 0 := by simp [coE, m2]
    have e7 : coX (oppV p) n a b = !cmpV p n a b := by simp [coX, o2, o1]
    have e8 : coX (mirV p) n b a = cmpV p n a b := by simp [coX, m2, m1]
    clear g g1 g2 g3 hq o1 o2 m1 m2
    generalize cmpV p n a b = c at *
    generalize oppV p = q at *
    generalize mirV p = r at *
    cases c
    · go_enter Try.func10, Try.ntmps10
      go_wp2_with fail
      have h00 := Since.refl (w.alloc (.cells #[.int .u32 a, .int .u32 b] 24))
      have l0 : ∀ wk, Since (w.alloc (.cells #[.int .u32 a, .int .u32 b] 24)) wk → wk.cell? ⟨w.heap.size, 0, none⟩ = some (.int .u32 a) := fun wk h => since_box 0 h
      have l1 : ∀ wk, Since (w.alloc (.cells #[.int .u32 a, .int .u32 b] 24)) wk → wk.cell? ⟨w.heap.size, 1, none⟩ = some (.int .u32 b) := fun wk h => since_box 1 h
      go_wp2_with (first | (go_at_call 30; refine (acc_p (pCompare _ _ _ _ (by omega) (by omega) (by omega) (by omega) _) (by assumption)).mono ?_; rintro e w' ⟨rfl, hb⟩) | (go_at_call 31; refine (acc_e (rCompare _ _ _ _ (by omega) (by omega) (by omega) (by omega) _) (by assumption)).mono ?_; rintro e w' ⟨rfl, hb⟩) | (go_at_call 32; refine (acc_p (pOpposite _ _) (by assumption)).mono ?_; rintro e w' ⟨rfl, hb⟩) | (go_at_call 33; refine (acc_p (rOpposite _ _) (by assumption)).mono ?_; rintro e w' ⟨rfl, hb⟩) | (go_at_call 34; refine (acc_p (pMirror _ _) (by assumption)).mono ?_; rintro e w' ⟨rfl, hb⟩) | (go_at_call 35; refine (acc_p (rMirror _ _) (by assumption)).mono ?_; rintro e w' ⟨rfl, hb⟩) | (go_at_call 13; refine (acc_p (known_any _) (by assumption)).mono ?_; rintro e w' ⟨rfl, hb⟩))
      go_ret
      exact ⟨rfl, below_box ‹_›⟩
    · go_enter Try.func10, Try.ntmps10
      go_wp2_with fail
      have h00 := Since.refl (w.alloc (.cells #[.int .u32 a, .int .u32 b] 24))
      have l0 : ∀ wk, Since (w.alloc (.cells #[.int .u32 a, .int .u32 b] 24)) wk → wk.cell? ⟨w.heap.size, 0, none⟩ = some (.int .u32 a) := fun wk h => since_box 0 h
      have l1 : ∀ wk, Since (w.alloc (.cells #[.int .u32 a, .int .u32 b] 24)) wk → wk.cell? ⟨w.heap.size, 1, none⟩ = some (.int .u32 b) := fun wk h => since_box 1 h
      go_wp2_with (first | (go_at_call 30; refine (acc_p (pCompare _ _ _ _ (by omega) (by omega) (by omega) (by omega) _) (by assumption)).mono ?_; rintro e w' ⟨rfl, hb⟩) | (go_at_call 31; refine (acc_e (rCompare _ _ _ _ (by omega) (by omega) (by omega) (by omega) _) (by assumption)).mono ?_; rintro e w' ⟨rfl, hb⟩) | (go_at_call 32; refine (acc_p (pOpposite _ _) (by assumption)).mono ?_; rintro e w' ⟨rfl, hb⟩) | (go_at_call 33; refine (acc_p (rOpposite _ _) (by assumption)).mono ?_; rintro e w' ⟨rfl, hb⟩) | (go_at_call 34; refine (acc_p (pMirror _ _) (by assumption)).mono ?_; rintro e w' ⟨rfl, hb⟩) | (go_at_call 35; refine (acc_p (rMirror _ _) (by assumption)).mono ?_; rintro e w' ⟨rfl, hb⟩) | (go_at_call 13; refine (acc_p (known_any _) (by assumption)).mono ?_; rintro e w' ⟨rfl, hb⟩))
      go_ret
      exact ⟨rfl, below_box ‹_›⟩
  · have e2 : coE p n a b = 1 := by simp [coE, g]
    clear g
    go_enter Try.func10, Try.ntmps10
    go_wp2_with fail
    have h00 := Since.refl (w.alloc (.cells #[.int .u32 a, .int .u32 b] 24))
    have l0 : ∀ wk, Since (w.alloc (.cells #[.int .u32 a, .int .u32 b] 24)) wk → wk.cell? ⟨w.heap.size, 0, none⟩ = some (.int .u32 a) := fun wk h => since_box 0 h
    have l1 : ∀ wk, Since (w.alloc (.cells #[.int .u32 a, .int .u32 b] 24)) wk → wk.cell? ⟨w.heap.size, 1, none⟩ = some (.int .u32 b) := fun wk h => since_box 1 h
    go_wp2_with (first | (go_at_call 30; refine (acc_p (pCompare _ _ _ _ (by omega) (by omega) (by omega) (by omega) _) (by assumption)).mono ?_; rintro e w' ⟨rfl, hb⟩) | (go_at_call 31; refine (acc_e (rCompare _ _ _ _ (by omega) (by omega) (by omega) (by omega) _) (by assumption)).mono ?_; rintro e w' ⟨rfl, hb⟩) | (go_at_call 32; refine (acc_p (pOpposite _ _) (by assumption)).mono ?_; rintro e w' ⟨rfl, hb⟩) | (go_at_call 33; refine (acc_p (rOpposite _ _) (by assumption)).mono ?_; rintro e w' ⟨rfl, hb⟩) | (go_at_call 34; refine (acc_p (pMirror _ _) (by assumption)).mono ?_; rintro e w' ⟨rfl, hb⟩) | (go_at_call 35; refine (acc_p (rMirror _ _) (by assumption)).mono ?_; rintro e w' ⟨rfl, hb⟩) | (go_at_call 13; refine (acc_p (known_any _) (by assumption)).mono ?_; rintro e w' ⟨rfl, hb⟩))
    go_ret
    exact ⟨rfl, below_box ‹_›⟩

end Go.Proofs.Ytpgbepgbgpjmcaa
