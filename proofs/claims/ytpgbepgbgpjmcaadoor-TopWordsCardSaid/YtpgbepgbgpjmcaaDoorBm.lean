/- Compare, Opposite, Mirror of both sides, and the walk of the statement BitsCompares. -/
import Derived.Test.YtpgbepgbgpjmcaaDoorBj
import Derived.Test.YtpgbepgbgpjmcaaDoorRing
namespace Go.Proofs.YtpgbepgbgpjmcaaDoor
open Go.RowKit Wd
set_option linter.unusedVariables false
set_option linter.unusedSimpArgs false
def isP (p : Int) : Bool := decide (0 ≤ p ∧ p ≤ 9)
def coX (p n a b : Int) : Bool := goodC p n a b && cmpV p n a b
def coE (p n a b : Int) : Int := if goodC p n a b = true then 0 else 1
def opX (p : Int) : Int := if isP p = true then oppV p else 0
def miX (p : Int) : Int := if isP p = true then mirV p else 0
def opE (p : Int) : Int := if isP p = true then 0 else 1

theorem isPred_any (p : Int) (w : World) : Calls Tryd.prog 32 #[.int .i64 p] w fun e w' => e = .returned (.bool (isP p)) ∧ w = w' := by
  by_cases h1 : 0 ≤ p <;> by_cases h2 : p ≤ 9
  all_goals
    go_enter Tryd.func32, Tryd.ntmps32
    go_wp2
    go_ret
    exact ⟨ret_b (by simp [isP, h1, h2]), rfl⟩
set_option maxHeartbeats 1000000 in
theorem pCompare (p n a b : Int) (h3 : 0 ≤ a) (h4 : a ≤ 4294967295) (h5 : 0 ≤ b) (h6 : b ≤ 4294967295) (w : World) : Calls Tryd.prog 27 #[.int .i64 p, .int .i64 n, .int .u32 a, .int .u32 b] w fun e w' => e = .returned (.tuple #[.bool (coX p n a b), .int .i64 (coE p n a b)]) ∧ Below w.heap.size w w' := by
  by_cases g : goodC p n a b = true
  · obtain ⟨g1, g2, g3, g4, g5, g6⟩ := (goodC_iff _ _ _ _).1 g
    have e2 : coE p n a b = 0 := by simp [coE, g]
    have e1 : coX p n a b = cmpV p n a b := by simp [coX, g]
    rw [e1, e2]
    have hn : isW n = true := by simp [isW, g3, g4]
    have fa : fit n a = true := by simp [fit, g5]
    have fb : fit n b = true := by simp [fit, g6]
    have hq : isP p = true := by simp [isP, g1, g2]
    have x1 := sgn_lo32 (n := n) (a := a) (by omega) (by omega) h3
    have x2 := sgn_hi32 (n := n) (a := a) (by omega) (by omega) g5
    have y1 := sgn_lo32 (n := n) (a := b) (by omega) (by omega) h5
    have y2 := sgn_hi32 (n := n) (a := b) (by omega) (by omega) g6
    clear e1 e2 g
    have h : p = 0 ∨ p = 1 ∨ p = 2 ∨ p = 3 ∨ p = 4 ∨ p = 5 ∨ p = 6 ∨ p = 7 ∨ p = 8 ∨ p = 9 := by omega
    rcases h with rfl | rfl | rfl | rfl | rfl | rfl | rfl | rfl | rfl | rfl
    · have e : cmpV 0 n a b = (a == b) := rfl
      rw [e]
      clear e
      go_enter Tryd.func27, Tryd.ntmps27
      go_wp2_with (first | (go_at_call 32; refine (isPred_any _ _).mono ?_; rintro e w' ⟨rfl, rfl⟩) | (go_at_call 18; refine (fits2 _ a b _ _ (by simp [go_sem]) (by simp [go_sem])).mono ?_; rintro e w' ⟨rfl, rfl⟩) | (go_at_call 29; refine (signed_any _ _ _ (by omega) (by omega) (by omega) (by omega)).mono ?_; rintro e w' ⟨rfl, rfl⟩))
      go_ret2
      exact ⟨rfl, (Below.refl _ _).alloc (Nat.le_refl _) _⟩
    · have e : cmpV 1 n a b = (a != b) := rfl
      rw [e]
      clear e
      go_enter Tryd.func27, Tryd.ntmps27
      go_wp2_with (first | (go_at_call 32; refine (isPred_any _ _).mono ?_; rintro e w' ⟨rfl, rfl⟩) | (go_at_call 18; refine (fits2 _ a b _ _ (by simp [go_sem]) (by simp [go_sem])).mono ?_; rintro e w' ⟨rfl, rfl⟩) | (go_at_call 29; refine (signed_any _ _ _ (by omega) (by omega) (by omega) (by omega)).mono ?_; rintro e w' ⟨rfl, rfl⟩))
      go_ret2
      exact ⟨rfl, (Below.refl _ _).alloc (Nat.le_refl _) _⟩
    · have e : cmpV 2 n a b = decide (a < b) := rfl
      rw [e]
      clear e
      go_enter Tryd.func27, Tryd.ntmps27
      go_wp2_with (first | (go_at_call 32; refine (isPred_any _ _).mono ?_; rintro e w' ⟨rfl, rfl⟩) | (go_at_call 18; refine (fits2 _ a b _ _ (by simp [go_sem]) (by simp [go_sem])).mono ?_; rintro e w' ⟨rfl, rfl⟩) | (go_at_call 29; refine (signed_any _ _ _ (by omega) (by omega) (by omega) (by omega)).mono ?_; rintro e w' ⟨rfl, rfl⟩))
      go_ret2
      exact ⟨rfl, (Below.refl _ _).alloc (Nat.le_refl _) _⟩
    · have e : cmpV 3 n a b = decide (a ≤ b) := rfl
      rw [e]
      clear e
      go_enter Tryd.func27, Tryd.ntmps27
      go_wp2_with (first | (go_at_call 32; refine (isPred_any _ _).mono ?_; rintro e w' ⟨rfl, rfl⟩) | (go_at_call 18; refine (fits2 _ a b _ _ (by simp [go_sem]) (by simp [go_sem])).mono ?_; rintro e w' ⟨rfl, rfl⟩) | (go_at_call 29; refine (signed_any _ _ _ (by omega) (by omega) (by omega) (by omega)).mono ?_; rintro e w' ⟨rfl, rfl⟩))
      go_ret2
      exact ⟨rfl, (Below.refl _ _).alloc (Nat.le_refl _) _⟩
    · have e : cmpV 4 n a b = decide (b < a) := rfl
      rw [e]
      clear e
      go_enter Tryd.func27, Tryd.ntmps27
      go_wp2_with (first | (go_at_call 32; refine (isPred_any _ _).mono ?_; rintro e w' ⟨rfl, rfl⟩) | (go_at_call 18; refine (fits2 _ a b _ _ (by simp [go_sem]) (by simp [go_sem])).mono ?_; rintro e w' ⟨rfl, rfl⟩) | (go_at_call 29; refine (signed_any _ _ _ (by omega) (by omega) (by omega) (by omega)).mono ?_; rintro e w' ⟨rfl, rfl⟩))
      go_ret2
      exact ⟨rfl, (Below.refl _ _).alloc (Nat.le_refl _) _⟩
    · have e : cmpV 5 n a b = decide (b ≤ a) := rfl
      rw [e]
      clear e
      go_enter Tryd.func27, Tryd.ntmps27
      go_wp2_with (first | (go_at_call 32; refine (isPred_any _ _).mono ?_; rintro e w' ⟨rfl, rfl⟩) | (go_at_call 18; refine (fits2 _ a b _ _ (by simp [go_sem]) (by simp [go_sem])).mono ?_; rintro e w' ⟨rfl, rfl⟩) | (go_at_call 29; refine (signed_any _ _ _ (by omega) (by omega) (by omega) (by omega)).mono ?_; rintro e w' ⟨rfl, rfl⟩))
      go_ret2
      exact ⟨rfl, (Below.refl _ _).alloc (Nat.le_refl _) _⟩
    · have e : cmpV 6 n a b = decide (sgn n a < sgn n b) := rfl
      rw [e]
      clear e
      go_enter Tryd.func27, Tryd.ntmps27
      go_wp2_with (first | (go_at_call 32; refine (isPred_any _ _).mono ?_; rintro e w' ⟨rfl, rfl⟩) | (go_at_call 18; refine (fits2 _ a b _ _ (by simp [go_sem]) (by simp [go_sem])).mono ?_; rintro e w' ⟨rfl, rfl⟩) | (go_at_call 29; refine (signed_any _ _ _ (by omega) (by omega) (by omega) (by omega)).mono ?_; rintro e w' ⟨rfl, rfl⟩))
      go_ret2
      exact ⟨rfl, (Below.refl _ _).alloc (Nat.le_refl _) _⟩
    · have e : cmpV 7 n a b = decide (sgn n a ≤ sgn n b) := rfl
      rw [e]
      clear e
      go_enter Tryd.func27, Tryd.ntmps27
      go_wp2_with (first | (go_at_call 32; refine (isPred_any _ _).mono ?_; rintro e w' ⟨rfl, rfl⟩) | (go_at_call 18; refine (fits2 _ a b _ _ (by simp [go_sem]) (by simp [go_sem])).mono ?_; rintro e w' ⟨rfl, rfl⟩) | (go_at_call 29; refine (signed_any _ _ _ (by omega) (by omega) (by omega) (by omega)).mono ?_; rintro e w' ⟨rfl, rfl⟩))
      go_ret2
      exact ⟨rfl, (Below.refl _ _).alloc (Nat.le_refl _) _⟩
    · have e : cmpV 8 n a b = decide (sgn n b < sgn n a) := rfl
      rw [e]
      clear e
      go_enter Tryd.func27, Tryd.ntmps27
      go_wp2_with (first | (go_at_call 32; refine (isPred_any _ _).mono ?_; rintro e w' ⟨rfl, rfl⟩) | (go_at_call 18; refine (fits2 _ a b _ _ (by simp [go_sem]) (by simp [go_sem])).mono ?_; rintro e w' ⟨rfl, rfl⟩) | (go_at_call 29; refine (signed_any _ _ _ (by omega) (by omega) (by omega) (by omega)).mono ?_; rintro e w' ⟨rfl, rfl⟩))
      go_ret2
      exact ⟨rfl, (Below.refl _ _).alloc (Nat.le_refl _) _⟩
    · have e : cmpV 9 n a b = decide (sgn n b ≤ sgn n a) := rfl
      rw [e]
      clear e
      go_enter Tryd.func27, Tryd.ntmps27
      go_wp2_with (first | (go_at_call 32; refine (isPred_any _ _).mono ?_; rintro e w' ⟨rfl, rfl⟩) | (go_at_call 18; refine (fits2 _ a b _ _ (by simp [go_sem]) (by simp [go_sem])).mono ?_; rintro e w' ⟨rfl, rfl⟩) | (go_at_call 29; refine (signed_any _ _ _ (by omega) (by omega) (by omega) (by omega)).mono ?_; rintro e w' ⟨rfl, rfl⟩))
      go_ret2
      exact ⟨rfl, (Below.refl _ _).alloc (Nat.le_refl _) _⟩
  · have e2 : coE p n a b = 1 := by simp [coE, g]
    have e1 : coX p n a b = false := by simp [coX, g]
    rw [e1, e2]
    clear e1 e2
    cases hq : isP p
    · clear g
      go_enter Tryd.func27, Tryd.ntmps27
      go_wp2_with (first | (go_at_call 32; refine (isPred_any _ _).mono ?_; rintro e w' ⟨rfl, rfl⟩) | (go_at_call 18; refine (fits2 _ a b _ _ (by simp [go_sem]) (by simp [go_sem])).mono ?_; rintro e w' ⟨rfl, rfl⟩) | (go_at_call 29; refine (signed_any _ _ _ (by omega) (by omega) (by omega) (by omega)).mono ?_; rintro e w' ⟨rfl, rfl⟩))
      go_ret2
      exact ⟨rfl, Below.refl _ _⟩
    · have hx : (isW n && fit n a && fit n b) = false := by
        rw [Bool.eq_false_iff]
        intro h
        apply g
        simp only [isP, isW, fit, Bool.and_eq_true, decide_eq_true_eq] at hq h
        exact (goodC_iff _ _ _ _).2 ⟨hq.1, hq.2, h.1.1.1, h.1.1.2, h.1.2, h.2⟩
      clear g
      cases hw : isW n
      · clear hx
        go_enter Tryd.func27, Tryd.ntmps27
        go_wp2_with (first | (go_at_call 32; refine (isPred_any _ _).mono ?_; rintro e w' ⟨rfl, rfl⟩) | (go_at_call 18; refine (fits2 _ a b _ _ (by simp [go_sem]) (by simp [go_sem])).mono ?_; rintro e w' ⟨rfl, rfl⟩) | (go_at_call 29; refine (signed_any _ _ _ (by omega) (by omega) (by omega) (by omega)).mono ?_; rintro e w' ⟨rfl, rfl⟩))
        go_ret2
        exact ⟨rfl, (Below.refl _ _).alloc (Nat.le_refl _) _⟩
      · cases fa : fit n a
        · clear hx
          go_enter Tryd.func27, Tryd.ntmps27
          go_wp2_with (first | (go_at_call 32; refine (isPred_any _ _).mono ?_; rintro e w' ⟨rfl, rfl⟩) | (go_at_call 18; refine (fits2 _ a b _ _ (by simp [go_sem]) (by simp [go_sem])).mono ?_; rintro e w' ⟨rfl, rfl⟩) | (go_at_call 29; refine (signed_any _ _ _ (by omega) (by omega) (by omega) (by omega)).mono ?_; rintro e w' ⟨rfl, rfl⟩))
          go_ret2
          exact ⟨rfl, (Below.refl _ _).alloc (Nat.le_refl _) _⟩
        · have fb : fit n b = false := by simpa [hw, fa] using hx
          clear hx
          go_enter Tryd.func27, Tryd.ntmps27
          go_wp2_with (first | (go_at_call 32; refine (isPred_any _ _).mono ?_; rintro e w' ⟨rfl, rfl⟩) | (go_at_call 18; refine (fits2 _ a b _ _ (by simp [go_sem]) (by simp [go_sem])).mono ?_; rintro e w' ⟨rfl, rfl⟩) | (go_at_call 29; refine (signed_any _ _ _ (by omega) (by omega) (by omega) (by omega)).mono ?_; rintro e w' ⟨rfl, rfl⟩))
          go_ret2
          exact ⟨rfl, (Below.refl _ _).alloc (Nat.le_refl _) _⟩

end Go.Proofs.YtpgbepgbgpjmcaaDoor
