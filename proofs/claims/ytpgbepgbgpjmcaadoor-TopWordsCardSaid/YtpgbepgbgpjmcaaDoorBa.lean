/- Walks of the small functions of packages bits and backstayref01: what each returns, said of numbers. -/
import Derived.Test.YtpgbepgbgpjmcaaDoorRows
import Derived.Test.YtpgbepgbgpjmcaaDoorMath
import Derived.WalkKit
import Derived.WalkSpells
import Derived.WalkLawsBesides
import Derived.BigGuardPart
import Derived.BigQuiet
import Derived.Laws.EntriesVeiled
import Derived.Lib.Hide
namespace Go.Proofs.YtpgbepgbgpjmcaaDoor
open Go.RowKit Wd

theorem ret_i {k : IntKind} {a b : Int} (h : a = b) : Ending.returned (.int k a) = .returned (.int k b) := by rw [h]
theorem ret_b {a b : Bool} (h : a = b) : Ending.returned (.bool a) = .returned (.bool b) := by rw [h]

theorem isWidth_any (n : Int) (w : World) : Calls Tryd.prog 28 #[.int .i64 n] w fun e w' => e = .returned (.bool (isW n)) ∧ w = w' := by
  by_cases h1 : 1 ≤ n <;> by_cases h2 : n ≤ 32
  all_goals
    go_enter Tryd.func28, Tryd.ntmps28
    go_wp2
    go_ret
    exact ⟨ret_b (by simp [isW, h1, h2]), rfl⟩

theorem rIsWidth_any (n : Int) (w : World) : Calls Tryd.prog 23 #[.int .i64 n] w fun e w' => e = .returned (.bool (isW n)) ∧ w = w' := by
  by_cases h1 : 1 ≤ n <;> by_cases h2 : n ≤ 32
  all_goals
    go_enter Tryd.func23, Tryd.ntmps23
    go_wp2
    go_ret
    exact ⟨ret_b (by simp [isW, h1, h2]), rfl⟩

theorem mask_any (n : Int) (w : World) (h1 : 1 ≤ n) (h2 : n ≤ 32) : Calls Tryd.prog 30 #[.int .i64 n] w fun e w' => e = .returned (.int .u32 (pw n - 1)) ∧ w = w' := by
  have hp := pw_le32 h2
  have hp0 := pw_pos n
  have e1 : IntKind.u64.wrap (2 ^ n.toNat) = pw n := by
    show IntKind.u64.wrap (pw n) = pw n
    exact IntWalk.u64_in _ (by omega)
  go_enter Tryd.func30, Tryd.ntmps30
  go_wp2
  go_ret
  exact ⟨rfl, rfl⟩
theorem size_any (n : Int) (w : World) (h1 : 0 ≤ n) (h2 : n ≤ 32) : Calls Tryd.prog 20 #[.int .i64 n] w fun e w' => e = .returned (.int .i64 (pw n)) ∧ w = w' := by
  have hp := pw_le32 h2
  have hp0 := pw_pos n
  go_enter Tryd.func20, Tryd.ntmps20
  go_wp2
  go_ret
  exact ⟨ret_i (IntWalk.wrap64_in (pw n) (by omega)), rfl⟩

theorem signed_any (n x : Int) (w : World) (h1 : 1 ≤ n) (h2 : n ≤ 32) (h3 : 0 ≤ x) (h4 : x < pw n) : Calls Tryd.prog 29 #[.int .i64 n, .int .u32 x] w fun e w' => e = .returned (.int .i64 (sgn n x)) ∧ w = w' := by
  have hp := pw_le32 h2
  have hp0 := pw_pos n
  have e1 : wrap64 (2 ^ n.toNat) = pw n := by
    show wrap64 (pw n) = pw n
    exact IntWalk.wrap64_in _ (by omega)
  have e2 := hi_bit n x h1 h3 h4
  by_cases hc : pw (n - 1) ≤ x
  · rw [if_pos hc] at e2
    go_enter Tryd.func29, Tryd.ntmps29
    go_wp2
    go_ret
    exact ⟨ret_i (sgn_hi hc).symm, rfl⟩
  · rw [if_neg hc] at e2
    go_enter Tryd.func29, Tryd.ntmps29
    go_wp2
    go_ret
    exact ⟨ret_i (sgn_lo (by omega)).symm, rfl⟩
theorem rIsWord_any (n x : Int) (w : World) (h3 : 0 ≤ x) (h4 : x ≤ 4294967295) : Calls Tryd.prog 11 #[.int .i64 n, .int .u32 x] w fun e w' => e = .returned (.bool (isW n && fit n x)) ∧ w = w' := by
  by_cases hw : isW n = true
  · have h12 : 1 ≤ n ∧ n ≤ 32 := by simpa [isW] using hw
    obtain ⟨h1, h2⟩ := h12
    have hp := pw_le32 h2
    go_enter Tryd.func11, Tryd.ntmps11
    go_wp2_with (first | (go_at_call 20; refine (size_any _ _ (by omega) (by omega)).mono ?_; rintro e w' ⟨rfl, rfl⟩) | (go_at_call 23; refine (rIsWidth_any _ _).mono ?_; rintro e w' ⟨rfl, rfl⟩))
    go_ret
    exact ⟨ret_b (by simp [hw, fit]), rfl⟩
  · have hw : isW n = false := by simpa using hw
    go_enter Tryd.func11, Tryd.ntmps11
    go_wp2_with (first | (go_at_call 20; refine (size_any _ _ (by omega) (by omega)).mono ?_; rintro e w' ⟨rfl, rfl⟩) | (go_at_call 23; refine (rIsWidth_any _ _).mono ?_; rintro e w' ⟨rfl, rfl⟩))
    go_ret
    exact ⟨ret_b (by simp [hw]), rfl⟩

theorem fits1 (n a : Int) (b : Nat) (w : World) (g0 : w.cell? ⟨b, 0, none⟩ = some (.int .u32 a))  : Calls Tryd.prog 18 #[.int .i64 n, .slice (some ⟨b, 0, none⟩) 1 1] w fun e w' => e = .returned (.bool (isW n && fit n a)) ∧ w = w' := by
  by_cases hw : isW n = true
  · have h12 : 1 ≤ n ∧ n ≤ 32 := by simpa [isW] using hw
    obtain ⟨h1, h2⟩ := h12
    rcases Int.lt_or_le a (pw n) with f0 | f0
    · go_enter Tryd.func18, Tryd.ntmps18
      go_wp2_with (first | (rw [rounds_succ]) | (go_at_call 28; refine (isWidth_any _ _).mono ?_; rintro e w' ⟨rfl, rfl⟩) | (go_at_call 30; refine (mask_any _ _ (by assumption) (by assumption)).mono ?_; rintro e w' ⟨rfl, rfl⟩))
      refine wp_loop_rounds 2 ?_
      go_wp2_with (first | (rw [rounds_succ]) | (go_at_call 28; refine (isWidth_any _ _).mono ?_; rintro e w' ⟨rfl, rfl⟩) | (go_at_call 30; refine (mask_any _ _ (by assumption) (by assumption)).mono ?_; rintro e w' ⟨rfl, rfl⟩))
      go_ret
      exact ⟨ret_b (by simp [hw, fit, f0]), rfl⟩
    · go_enter Tryd.func18, Tryd.ntmps18
      go_wp2_with (first | (rw [rounds_succ]) | (go_at_call 28; refine (isWidth_any _ _).mono ?_; rintro e w' ⟨rfl, rfl⟩) | (go_at_call 30; refine (mask_any _ _ (by assumption) (by assumption)).mono ?_; rintro e w' ⟨rfl, rfl⟩))
      refine wp_loop_rounds 1 ?_
      go_wp2_with (first | (rw [rounds_succ]) | (go_at_call 28; refine (isWidth_any _ _).mono ?_; rintro e w' ⟨rfl, rfl⟩) | (go_at_call 30; refine (mask_any _ _ (by assumption) (by assumption)).mono ?_; rintro e w' ⟨rfl, rfl⟩))
      go_ret
      exact ⟨ret_b (by simp [hw, fit, Int.not_lt.2 f0]), rfl⟩
  · have hw : isW n = false := by simpa using hw
    go_enter Tryd.func18, Tryd.ntmps18
    go_wp2_with (first | (rw [rounds_succ]) | (go_at_call 28; refine (isWidth_any _ _).mono ?_; rintro e w' ⟨rfl, rfl⟩) | (go_at_call 30; refine (mask_any _ _ (by assumption) (by assumption)).mono ?_; rintro e w' ⟨rfl, rfl⟩))
    go_ret
    exact ⟨ret_b (by simp [hw]), rfl⟩

theorem fits2 (n a c : Int) (b : Nat) (w : World) (g0 : w.cell? ⟨b, 0, none⟩ = some (.int .u32 a)) (g1 : w.cell? ⟨b, 1, none⟩ = some (.int .u32 c))  : Calls Tryd.prog 18 #[.int .i64 n, .slice (some ⟨b, 0, none⟩) 2 2] w fun e w' => e = .returned (.bool (isW n && fit n a && fit n c)) ∧ w = w' := by
  by_cases hw : isW n = true
  · have h12 : 1 ≤ n ∧ n ≤ 32 := by simpa [isW] using hw
    obtain ⟨h1, h2⟩ := h12
    rcases Int.lt_or_le a (pw n) with f0 | f0
    · rcases Int.lt_or_le c (pw n) with f1 | f1
      · go_enter Tryd.func18, Tryd.ntmps18
        go_wp2_with (first | (rw [rounds_succ]) | (go_at_call 28; refine (isWidth_any _ _).mono ?_; rintro e w' ⟨rfl, rfl⟩) | (go_at_call 30; refine (mask_any _ _ (by assumption) (by assumption)).mono ?_; rintro e w' ⟨rfl, rfl⟩))
        refine wp_loop_rounds 3 ?_
        go_wp2_with (first | (rw [rounds_succ]) | (go_at_call 28; refine (isWidth_any _ _).mono ?_; rintro e w' ⟨rfl, rfl⟩) | (go_at_call 30; refine (mask_any _ _ (by assumption) (by assumption)).mono ?_; rintro e w' ⟨rfl, rfl⟩))
        go_ret
        exact ⟨ret_b (by simp [hw, fit, f0, f1]), rfl⟩
      · go_enter Tryd.func18, Tryd.ntmps18
        go_wp2_with (first | (rw [rounds_succ]) | (go_at_call 28; refine (isWidth_any _ _).mono ?_; rintro e w' ⟨rfl, rfl⟩) | (go_at_call 30; refine (mask_any _ _ (by assumption) (by assumption)).mono ?_; rintro e w' ⟨rfl, rfl⟩))
        refine wp_loop_rounds 2 ?_
        go_wp2_with (first | (rw [rounds_succ]) | (go_at_call 28; refine (isWidth_any _ _).mono ?_; rintro e w' ⟨rfl, rfl⟩) | (go_at_call 30; refine (mask_any _ _ (by assumption) (by assumption)).mono ?_; rintro e w' ⟨rfl, rfl⟩))
        go_ret
        exact ⟨ret_b (by simp [hw, fit, f0, Int.not_lt.2 f1]), rfl⟩
    · go_enter Tryd.func18, Tryd.ntmps18
      go_wp2_with (first | (rw [rounds_succ]) | (go_at_call 28; refine (isWidth_any _ _).mono ?_; rintro e w' ⟨rfl, rfl⟩) | (go_at_call 30; refine (mask_any _ _ (by assumption) (by assumption)).mono ?_; rintro e w' ⟨rfl, rfl⟩))
      refine wp_loop_rounds 1 ?_
      go_wp2_with (first | (rw [rounds_succ]) | (go_at_call 28; refine (isWidth_any _ _).mono ?_; rintro e w' ⟨rfl, rfl⟩) | (go_at_call 30; refine (mask_any _ _ (by assumption) (by assumption)).mono ?_; rintro e w' ⟨rfl, rfl⟩))
      go_ret
      exact ⟨ret_b (by simp [hw, fit, Int.not_lt.2 f0]), rfl⟩
  · have hw : isW n = false := by simpa using hw
    go_enter Tryd.func18, Tryd.ntmps18
    go_wp2_with (first | (rw [rounds_succ]) | (go_at_call 28; refine (isWidth_any _ _).mono ?_; rintro e w' ⟨rfl, rfl⟩) | (go_at_call 30; refine (mask_any _ _ (by assumption) (by assumption)).mono ?_; rintro e w' ⟨rfl, rfl⟩))
    go_ret
    exact ⟨ret_b (by simp [hw]), rfl⟩

end Go.Proofs.YtpgbepgbgpjmcaaDoor
