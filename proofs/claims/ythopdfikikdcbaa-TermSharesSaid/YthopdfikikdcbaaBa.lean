/- Walks of the small functions of packages bits and backstayref01: what each returns, said of numbers. -/
import Derived.Test.YthopdfikikdcbaaRows
import Derived.Test.YthopdfikikdcbaaMath
import Derived.WalkKit
import Derived.WalkSpells
import Derived.WalkLawsBesides
import Derived.BigGuardPart
import Derived.BigQuiet
import Derived.Laws.EntriesVeiled
import Derived.Lib.Hide
namespace Go.Proofs.Ythopdfikikdcbaa
open Go.RowKit Wd

theorem ret_i {k : IntKind} {a b : Int} (h : a = b) : Ending.returned (.int k a) = .returned (.int k b) := by rw [h]
theorem ret_b {a b : Bool} (h : a = b) : Ending.returned (.bool a) = .returned (.bool b) := by rw [h]

theorem isWidth_any (n : Int) (w : World) : Calls Try.prog 79 #[.int .i64 n] w fun e w' => e = .returned (.bool (isW n)) ∧ w = w' := by
  by_cases h1 : 1 ≤ n <;> by_cases h2 : n ≤ 32
  all_goals
    go_enter Try.func79, Try.ntmps79
    go_wp2
    go_ret
    exact ⟨ret_b (by simp [isW, h1, h2]), rfl⟩

theorem rIsWidth_any (n : Int) (w : World) : Calls Try.prog 107 #[.int .i64 n] w fun e w' => e = .returned (.bool (isW n)) ∧ w = w' := by
  by_cases h1 : 1 ≤ n <;> by_cases h2 : n ≤ 32
  all_goals
    go_enter Try.func107, Try.ntmps107
    go_wp2
    go_ret
    exact ⟨ret_b (by simp [isW, h1, h2]), rfl⟩

theorem mask_any (n : Int) (w : World) (h1 : 1 ≤ n) (h2 : n ≤ 32) : Calls Try.prog 80 #[.int .i64 n] w fun e w' => e = .returned (.int .u32 (pw n - 1)) ∧ w = w' := by
  have hp := pw_le32 h2
  have hp0 := pw_pos n
  have e1 : IntKind.u64.wrap (2 ^ n.toNat) = pw n := by
    show IntKind.u64.wrap (pw n) = pw n
    exact IntWalk.u64_in _ (by omega)
  go_enter Try.func80, Try.ntmps80
  go_wp2
  go_ret
  exact ⟨rfl, rfl⟩
theorem size_any (n : Int) (w : World) (h1 : 0 ≤ n) (h2 : n ≤ 32) : Calls Try.prog 108 #[.int .i64 n] w fun e w' => e = .returned (.int .i64 (pw n)) ∧ w = w' := by
  have hp := pw_le32 h2
  have hp0 := pw_pos n
  go_enter Try.func108, Try.ntmps108
  go_wp2
  go_ret
  exact ⟨ret_i (IntWalk.wrap64_in (pw n) (by omega)), rfl⟩

theorem signed_any (n x : Int) (w : World) (h1 : 1 ≤ n) (h2 : n ≤ 32) (h3 : 0 ≤ x) (h4 : x < pw n) : Calls Try.prog 105 #[.int .i64 n, .int .u32 x] w fun e w' => e = .returned (.int .i64 (sgn n x)) ∧ w = w' := by
  have hp := pw_le32 h2
  have hp0 := pw_pos n
  have e1 : wrap64 (2 ^ n.toNat) = pw n := by
    show wrap64 (pw n) = pw n
    exact IntWalk.wrap64_in _ (by omega)
  have e2 := hi_bit n x h1 h3 h4
  by_cases hc : pw (n - 1) ≤ x
  · rw [if_pos hc] at e2
    go_enter Try.func105, Try.ntmps105
    go_wp2
    go_ret
    exact ⟨ret_i (sgn_hi hc).symm, rfl⟩
  · rw [if_neg hc] at e2
    go_enter Try.func105, Try.ntmps105
    go_wp2
    go_ret
    exact ⟨ret_i (sgn_lo (by omega)).symm, rfl⟩
theorem rSign_any (n x : Int) (w : World) (h1 : 1 ≤ n) (h2 : n ≤ 32) (h3 : 0 ≤ x) (h4 : x ≤ 4294967295) : Calls Try.prog 111 #[.int .i64 n, .int .u32 x] w fun e w' => e = .returned (.int .i64 (sgn n x)) ∧ w = w' := by
  have hp := pw_le32 h2
  have hp0 := pw_pos n
  by_cases hc : pw (n - 1) ≤ x
  · go_enter Try.func111, Try.ntmps111
    go_wp2_with (first | (go_at_call 108; refine (size_any _ _ (by omega) (by omega)).mono ?_; rintro e w' ⟨rfl, rfl⟩))
    go_ret
    exact ⟨ret_i (sgn_hi hc).symm, rfl⟩
  · go_enter Try.func111, Try.ntmps111
    go_wp2_with (first | (go_at_call 108; refine (size_any _ _ (by omega) (by omega)).mono ?_; rintro e w' ⟨rfl, rfl⟩))
    go_ret
    exact ⟨ret_i (sgn_lo (by omega)).symm, rfl⟩
theorem rWrap_any (n x : Int) (w : World) (h1 : 1 ≤ n) (h2 : n ≤ 32) (_h3 : -9223372036854775808 ≤ x) (_h4 : x ≤ 9223372036854775807) : Calls Try.prog 112 #[.int .i64 n, .int .i64 x] w fun e w' => e = .returned (.int .u32 (wr n x)) ∧ w = w' := by
  have hp := pw_le32 h2
  have hp0 := pw_pos n
  have t1 := tmod_wr n x
  have t2 := wr_lo n x
  have t3 := wr_hi n x
  by_cases hc : x.tmod (pw n) < 0
  · rw [if_pos hc] at t1
    go_enter Try.func112, Try.ntmps112
    go_wp2_with (first | (go_at_call 108; refine (size_any _ _ (by omega) (by omega)).mono ?_; rintro e w' ⟨rfl, rfl⟩))
    go_ret
    exact ⟨ret_i t1.symm, rfl⟩
  · rw [if_neg hc] at t1
    go_enter Try.func112, Try.ntmps112
    go_wp2_with (first | (go_at_call 108; refine (size_any _ _ (by omega) (by omega)).mono ?_; rintro e w' ⟨rfl, rfl⟩))
    go_ret
    exact ⟨ret_i t1.symm, rfl⟩
theorem rIsWord_any (n x : Int) (w : World) (h3 : 0 ≤ x) (h4 : x ≤ 4294967295) : Calls Try.prog 85 #[.int .i64 n, .int .u32 x] w fun e w' => e = .returned (.bool (isW n && fit n x)) ∧ w = w' := by
  by_cases hw : isW n = true
  · have h12 : 1 ≤ n ∧ n ≤ 32 := by simpa [isW] using hw
    obtain ⟨h1, h2⟩ := h12
    have hp := pw_le32 h2
    go_enter Try.func85, Try.ntmps85
    go_wp2_with (first | (go_at_call 108; refine (size_any _ _ (by omega) (by omega)).mono ?_; rintro e w' ⟨rfl, rfl⟩) | (go_at_call 107; refine (rIsWidth_any _ _).mono ?_; rintro e w' ⟨rfl, rfl⟩))
    go_ret
    exact ⟨ret_b (by simp [hw, fit]), rfl⟩
  · have hw : isW n = false := by simpa using hw
    go_enter Try.func85, Try.ntmps85
    go_wp2_with (first | (go_at_call 108; refine (size_any _ _ (by omega) (by omega)).mono ?_; rintro e w' ⟨rfl, rfl⟩) | (go_at_call 107; refine (rIsWidth_any _ _).mono ?_; rintro e w' ⟨rfl, rfl⟩))
    go_ret
    exact ⟨ret_b (by simp [hw]), rfl⟩

theorem fits1 (n a : Int) (b : Nat) (w : World) (g0 : w.cell? ⟨b, 0, none⟩ = some (.int .u32 a))  : Calls Try.prog 104 #[.int .i64 n, .slice (some ⟨b, 0, none⟩) 1 1] w fun e w' => e = .returned (.bool (isW n && fit n a)) ∧ w = w' := by
  by_cases hw : isW n = true
  · have h12 : 1 ≤ n ∧ n ≤ 32 := by simpa [isW] using hw
    obtain ⟨h1, h2⟩ := h12
    rcases Int.lt_or_le a (pw n) with f0 | f0
    · go_enter Try.func104, Try.ntmps104
      go_wp2_with (first | (rw [rounds_succ]) | (go_at_call 79; refine (isWidth_any _ _).mono ?_; rintro e w' ⟨rfl, rfl⟩) | (go_at_call 80; refine (mask_any _ _ (by assumption) (by assumption)).mono ?_; rintro e w' ⟨rfl, rfl⟩))
      refine wp_loop_rounds 2 ?_
      go_wp2_with (first | (rw [rounds_succ]) | (go_at_call 79; refine (isWidth_any _ _).mono ?_; rintro e w' ⟨rfl, rfl⟩) | (go_at_call 80; refine (mask_any _ _ (by assumption) (by assumption)).mono ?_; rintro e w' ⟨rfl, rfl⟩))
      go_ret
      exact ⟨ret_b (by simp [hw, fit, f0]), rfl⟩
    · go_enter Try.func104, Try.ntmps104
      go_wp2_with (first | (rw [rounds_succ]) | (go_at_call 79; refine (isWidth_any _ _).mono ?_; rintro e w' ⟨rfl, rfl⟩) | (go_at_call 80; refine (mask_any _ _ (by assumption) (by assumption)).mono ?_; rintro e w' ⟨rfl, rfl⟩))
      refine wp_loop_rounds 1 ?_
      go_wp2_with (first | (rw [rounds_succ]) | (go_at_call 79; refine (isWidth_any _ _).mono ?_; rintro e w' ⟨rfl, rfl⟩) | (go_at_call 80; refine (mask_any _ _ (by assumption) (by assumption)).mono ?_; rintro e w' ⟨rfl, rfl⟩))
      go_ret
      exact ⟨ret_b (by simp [hw, fit, Int.not_lt.2 f0]), rfl⟩
  · have hw : isW n = false := by simpa using hw
    go_enter Try.func104, Try.ntmps104
    go_wp2_with (first | (rw [rounds_succ]) | (go_at_call 79; refine (isWidth_any _ _).mono ?_; rintro e w' ⟨rfl, rfl⟩) | (go_at_call 80; refine (mask_any _ _ (by assumption) (by assumption)).mono ?_; rintro e w' ⟨rfl, rfl⟩))
    go_ret
    exact ⟨ret_b (by simp [hw]), rfl⟩

theorem fits2 (n a c : Int) (b : Nat) (w : World) (g0 : w.cell? ⟨b, 0, none⟩ = some (.int .u32 a)) (g1 : w.cell? ⟨b, 1, none⟩ = some (.int .u32 c))  : Calls Try.prog 104 #[.int .i64 n, .slice (some ⟨b, 0, none⟩) 2 2] w fun e w' => e = .returned (.bool (isW n && fit n a && fit n c)) ∧ w = w' := by
  by_cases hw : isW n = true
  · have h12 : 1 ≤ n ∧ n ≤ 32 := by simpa [isW] using hw
    obtain ⟨h1, h2⟩ := h12
    rcases Int.lt_or_le a (pw n) with f0 | f0
    · rcases Int.lt_or_le c (pw n) with f1 | f1
      · go_enter Try.func104, Try.ntmps104
        go_wp2_with (first | (rw [rounds_succ]) | (go_at_call 79; refine (isWidth_any _ _).mono ?_; rintro e w' ⟨rfl, rfl⟩) | (go_at_call 80; refine (mask_any _ _ (by assumption) (by assumption)).mono ?_; rintro e w' ⟨rfl, rfl⟩))
        refine wp_loop_rounds 3 ?_
        go_wp2_with (first | (rw [rounds_succ]) | (go_at_call 79; refine (isWidth_any _ _).mono ?_; rintro e w' ⟨rfl, rfl⟩) | (go_at_call 80; refine (mask_any _ _ (by assumption) (by assumption)).mono ?_; rintro e w' ⟨rfl, rfl⟩))
        go_ret
        exact ⟨ret_b (by simp [hw, fit, f0, f1]), rfl⟩
      · go_enter Try.func104, Try.ntmps104
        go_wp2_with (first | (rw [rounds_succ]) | (go_at_call 79; refine (isWidth_any _ _).mono ?_; rintro e w' ⟨rfl, rfl⟩) | (go_at_call 80; refine (mask_any _ _ (by assumption) (by assumption)).mono ?_; rintro e w' ⟨rfl, rfl⟩))
        refine wp_loop_rounds 2 ?_
        go_wp2_with (first | (rw [rounds_succ]) | (go_at_call 79; refine (isWidth_any _ _).mono ?_; rintro e w' ⟨rfl, rfl⟩) | (go_at_call 80; refine (mask_any _ _ (by assumption) (by assumption)).mono ?_; rintro e w' ⟨rfl, rfl⟩))
        go_ret
        exact ⟨ret_b (by simp [hw, fit, f0, Int.not_lt.2 f1]), rfl⟩
    · go_enter Try.func104, Try.ntmps104
      go_wp2_with (first | (rw [rounds_succ]) | (go_at_call 79; refine (isWidth_any _ _).mono ?_; rintro e w' ⟨rfl, rfl⟩) | (go_at_call 80; refine (mask_any _ _ (by assumption) (by assumption)).mono ?_; rintro e w' ⟨rfl, rfl⟩))
      refine wp_loop_rounds 1 ?_
      go_wp2_with (first | (rw [rounds_succ]) | (go_at_call 79; refine (isWidth_any _ _).mono ?_; rintro e w' ⟨rfl, rfl⟩) | (go_at_call 80; refine (mask_any _ _ (by assumption) (by assumption)).mono ?_; rintro e w' ⟨rfl, rfl⟩))
      go_ret
      exact ⟨ret_b (by simp [hw, fit, Int.not_lt.2 f0]), rfl⟩
  · have hw : isW n = false := by simpa using hw
    go_enter Try.func104, Try.ntmps104
    go_wp2_with (first | (rw [rounds_succ]) | (go_at_call 79; refine (isWidth_any _ _).mono ?_; rintro e w' ⟨rfl, rfl⟩) | (go_at_call 80; refine (mask_any _ _ (by assumption) (by assumption)).mono ?_; rintro e w' ⟨rfl, rfl⟩))
    go_ret
    exact ⟨ret_b (by simp [hw]), rfl⟩

end Go.Proofs.Ythopdfikikdcbaa
