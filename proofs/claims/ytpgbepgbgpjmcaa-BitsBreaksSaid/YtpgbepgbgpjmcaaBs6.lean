/- Breaks of the answer. -/
import Derived.Test.YtpgbepgbgpjmcaaBs1
import Derived.Test.YtpgbepgbgpjmcaaBd
import Derived.Test.YtpgbepgbgpjmcaaBf
import Derived.Test.YtpgbepgbgpjmcaaBrk
namespace Go.Proofs.Ytpgbepgbgpjmcaa
open Go.RowKit Wd
set_option linter.unusedVariables false
set_option linter.unusedSimpArgs false
set_option maxRecDepth 100000 in
set_option maxHeartbeats 16000000 in
theorem rBreaks_5 (fl n a b : Int) (w : World) (g : good 5 n a b = true) (h3 : 0 ≤ a) (h5 : 0 ≤ b) (f7 : 0 ≤ fl) (f8 : fl ≤ 7) : Calls Try.prog 29 #[.int .i64 5, .int .i64 fl, .int .i64 n, .int .u32 a, .int .u32 b] w fun e w' => e = .returned (.tuple #[.bool (has 5 n a b && brk 5 fl n a b), .int .i64 0]) ∧ Dr w w' := by
  obtain ⟨_, _, h1, h2, h4, h6⟩ := (good_iff _ _ _ _).1 g
  obtain ⟨m, rfl⟩ := Int.eq_ofNat_of_zero_le (show 0 ≤ n by omega)
  have hp := @pw_le32 (m : Int) (by omega)
  have hp0 := pw_pos (m : Int)
  have x1 := sgn_lo32 (n := m) (a := a) (by omega) (by omega) h3
  have x2 := sgn_hi32 (n := m) (a := a) (by omega) (by omega) h4
  have y1 := sgn_lo32 (n := m) (a := b) (by omega) (by omega) h5
  have y2 := sgn_hi32 (n := m) (a := b) (by omega) (by omega) h6
  have hp3 := @pw_le31 ((m : Int) - 1) (by omega)
  have hp4 := pw_pos ((m : Int) - 1)
  have hz := sgn_zero (n := m) (b := b) (by omega) h6
  have hpw : wrap64 ((2 : Int) ^ (m - 1)) = pw ((m : Int) - 1) := by
    have e : ((m : Int) - 1).toNat = m - 1 := by omega
    rw [← e]; exact IntWalk.wrap64_in (pw ((m : Int) - 1)) (by omega)
  have u1 : decide (fl < 0) = false := by simp; omega
  have u2 : decide (7 < fl) = false := by simp; omega
  clear hz
  have hB : brk 5 fl m a b = false := rfl
  have hv : (has 5 m a b && brk 5 fl m a b) = false := by rw [hB, Bool.and_false]
  rw [hv]
  clear hv hB
  rcases (Bool.eq_false_or_eq_true (has 5 m a b)).symm with hh | hh
  · go_enter Try.func29, Try.ntmps29
    go_wp2_with (first | (go_at_call 37; refine (rtwo_ok _ _ _ _ _ (by assumption) (by omega) (by omega) (by omega) (by omega)).mono ?_; rintro e w' ⟨rfl, rfl⟩) | (go_at_call 38; refine (rdo_yes _ _ _ _ _ (by assumption) (by omega) (by omega) (by assumption)).mono ?_; rintro e w' ⟨rfl, hd1⟩) | (go_at_call 38; refine (rdo_nope _ _ _ _ _ (by assumption) (by omega) (by omega) (by assumption)).mono ?_; rintro e w' ⟨rfl, hd1⟩) | (go_at_call 40; refine (rSign_any _ _ _ (by omega) (by omega) (by omega) (by omega)).mono ?_; rintro e w' ⟨rfl, rfl⟩) | (go_at_call 39; refine (size_any _ _ (by omega) (by omega)).mono ?_; rintro e w' ⟨rfl, rfl⟩) | (go_at_call 47; refine (beyond_any _ _ _ _ (by omega) (by omega) (by omega) (by omega) (by omega) (by omega)).mono ?_; rintro e w' ⟨rfl, rfl⟩))
    go_ret2
    exact ⟨rfl, hd1⟩
  · go_enter Try.func29, Try.ntmps29
    go_wp2_with (first | (go_at_call 37; refine (rtwo_ok _ _ _ _ _ (by assumption) (by omega) (by omega) (by omega) (by omega)).mono ?_; rintro e w' ⟨rfl, rfl⟩) | (go_at_call 38; refine (rdo_yes _ _ _ _ _ (by assumption) (by omega) (by omega) (by assumption)).mono ?_; rintro e w' ⟨rfl, hd1⟩) | (go_at_call 38; refine (rdo_nope _ _ _ _ _ (by assumption) (by omega) (by omega) (by assumption)).mono ?_; rintro e w' ⟨rfl, hd1⟩) | (go_at_call 40; refine (rSign_any _ _ _ (by omega) (by omega) (by omega) (by omega)).mono ?_; rintro e w' ⟨rfl, rfl⟩) | (go_at_call 39; refine (size_any _ _ (by omega) (by omega)).mono ?_; rintro e w' ⟨rfl, rfl⟩) | (go_at_call 47; refine (beyond_any _ _ _ _ (by omega) (by omega) (by omega) (by omega) (by omega) (by omega)).mono ?_; rintro e w' ⟨rfl, rfl⟩))
    go_ret2
    exact ⟨rfl, hd1⟩

set_option maxRecDepth 100000 in
set_option maxHeartbeats 16000000 in
theorem rBreaks_7 (fl n a b : Int) (w : World) (g : good 7 n a b = true) (h3 : 0 ≤ a) (h5 : 0 ≤ b) (f7 : 0 ≤ fl) (f8 : fl ≤ 7) : Calls Try.prog 29 #[.int .i64 7, .int .i64 fl, .int .i64 n, .int .u32 a, .int .u32 b] w fun e w' => e = .returned (.tuple #[.bool (has 7 n a b && brk 7 fl n a b), .int .i64 0]) ∧ Dr w w' := by
  obtain ⟨_, _, h1, h2, h4, h6⟩ := (good_iff _ _ _ _).1 g
  obtain ⟨m, rfl⟩ := Int.eq_ofNat_of_zero_le (show 0 ≤ n by omega)
  have hp := @pw_le32 (m : Int) (by omega)
  have hp0 := pw_pos (m : Int)
  have x1 := sgn_lo32 (n := m) (a := a) (by omega) (by omega) h3
  have x2 := sgn_hi32 (n := m) (a := a) (by omega) (by omega) h4
  have y1 := sgn_lo32 (n := m) (a := b) (by omega) (by omega) h5
  have y2 := sgn_hi32 (n := m) (a := b) (by omega) (by omega) h6
  have hp3 := @pw_le31 ((m : Int) - 1) (by omega)
  have hp4 := pw_pos ((m : Int) - 1)
  have hz := sgn_zero (n := m) (b := b) (by omega) h6
  have hpw : wrap64 ((2 : Int) ^ (m - 1)) = pw ((m : Int) - 1) := by
    have e : ((m : Int) - 1).toNat = m - 1 := by omega
    rw [← e]; exact IntWalk.wrap64_in (pw ((m : Int) - 1)) (by omega)
  have u1 : decide (fl < 0) = false := by simp; omega
  have u2 : decide (7 < fl) = false := by simp; omega
  clear hz
  have hB : brk 7 fl m a b = false := rfl
  have hv : (has 7 m a b && brk 7 fl m a b) = false := by rw [hB, Bool.and_false]
  rw [hv]
  clear hv hB
  rcases (Bool.eq_false_or_eq_true (has 7 m a b)).symm with hh | hh
  · go_enter Try.func29, Try.ntmps29
    go_wp2_with (first | (go_at_call 37; refine (rtwo_ok _ _ _ _ _ (by assumption) (by omega) (by omega) (by omega) (by omega)).mono ?_; rintro e w' ⟨rfl, rfl⟩) | (go_at_call 38; refine (rdo_yes _ _ _ _ _ (by assumption) (by omega) (by omega) (by assumption)).mono ?_; rintro e w' ⟨rfl, hd1⟩) | (go_at_call 38; refine (rdo_nope _ _ _ _ _ (by assumption) (by omega) (by omega) (by assumption)).mono ?_; rintro e w' ⟨rfl, hd1⟩) | (go_at_call 40; refine (rSign_any _ _ _ (by omega) (by omega) (by omega) (by omega)).mono ?_; rintro e w' ⟨rfl, rfl⟩) | (go_at_call 39; refine (size_any _ _ (by omega) (by omega)).mono ?_; rintro e w' ⟨rfl, rfl⟩) | (go_at_call 47; refine (beyond_any _ _ _ _ (by omega) (by omega) (by omega) (by omega) (by omega) (by omega)).mono ?_; rintro e w' ⟨rfl, rfl⟩))
    go_ret2
    exact ⟨rfl, hd1⟩
  · go_enter Try.func29, Try.ntmps29
    go_wp2_with (first | (go_at_call 37; refine (rtwo_ok _ _ _ _ _ (by assumption) (by omega) (by omega) (by omega) (by omega)).mono ?_; rintro e w' ⟨rfl, rfl⟩) | (go_at_call 38; refine (rdo_yes _ _ _ _ _ (by assumption) (by omega) (by omega) (by assumption)).mono ?_; rintro e w' ⟨rfl, hd1⟩) | (go_at_call 38; refine (rdo_nope _ _ _ _ _ (by assumption) (by omega) (by omega) (by assumption)).mono ?_; rintro e w' ⟨rfl, hd1⟩) | (go_at_call 40; refine (rSign_any _ _ _ (by omega) (by omega) (by omega) (by omega)).mono ?_; rintro e w' ⟨rfl, rfl⟩) | (go_at_call 39; refine (size_any _ _ (by omega) (by omega)).mono ?_; rintro e w' ⟨rfl, rfl⟩) | (go_at_call 47; refine (beyond_any _ _ _ _ (by omega) (by omega) (by omega) (by omega) (by omega) (by omega)).mono ?_; rintro e w' ⟨rfl, rfl⟩))
    go_ret2
    exact ⟨rfl, hd1⟩

set_option maxRecDepth 100000 in
set_option maxHeartbeats 16000000 in
theorem rBreaks_9 (fl n a b : Int) (w : World) (g : good 9 n a b = true) (h3 : 0 ≤ a) (h5 : 0 ≤ b) (f7 : 0 ≤ fl) (f8 : fl ≤ 7) : Calls Try.prog 29 #[.int .i64 9, .int .i64 fl, .int .i64 n, .int .u32 a, .int .u32 b] w fun e w' => e = .returned (.tuple #[.bool (has 9 n a b && brk 9 fl n a b), .int .i64 0]) ∧ Dr w w' := by
  obtain ⟨_, _, h1, h2, h4, h6⟩ := (good_iff _ _ _ _).1 g
  obtain ⟨m, rfl⟩ := Int.eq_ofNat_of_zero_le (show 0 ≤ n by omega)
  have hp := @pw_le32 (m : Int) (by omega)
  have hp0 := pw_pos (m : Int)
  have x1 := sgn_lo32 (n := m) (a := a) (by omega) (by omega) h3
  have x2 := sgn_hi32 (n := m) (a := a) (by omega) (by omega) h4
  have y1 := sgn_lo32 (n := m) (a := b) (by omega) (by omega) h5
  have y2 := sgn_hi32 (n := m) (a := b) (by omega) (by omega) h6
  have hp3 := @pw_le31 ((m : Int) - 1) (by omega)
  have hp4 := pw_pos ((m : Int) - 1)
  have hz := sgn_zero (n := m) (b := b) (by omega) h6
  have hpw : wrap64 ((2 : Int) ^ (m - 1)) = pw ((m : Int) - 1) := by
    have e : ((m : Int) - 1).toNat = m - 1 := by omega
    rw [← e]; exact IntWalk.wrap64_in (pw ((m : Int) - 1)) (by omega)
  have u1 : decide (fl < 0) = false := by simp; omega
  have u2 : decide (7 < fl) = false := by simp; omega
  clear hz
  have hB : brk 9 fl m a b = false := rfl
  have hv : (has 9 m a b && brk 9 fl m a b) = false := by rw [hB, Bool.and_false]
  rw [hv]
  clear hv hB
  have hh : has 9 m a b = true := rfl
  go_enter Try.func29, Try.ntmps29
  go_wp2_with (first | (go_at_call 37; refine (rtwo_ok _ _ _ _ _ (by assumption) (by omega) (by omega) (by omega) (by omega)).mono ?_; rintro e w' ⟨rfl, rfl⟩) | (go_at_call 38; refine (rdo_yes _ _ _ _ _ (by assumption) (by omega) (by omega) (by assumption)).mono ?_; rintro e w' ⟨rfl, hd1⟩) | (go_at_call 38; refine (rdo_nope _ _ _ _ _ (by assumption) (by omega) (by omega) (by assumption)).mono ?_; rintro e w' ⟨rfl, hd1⟩) | (go_at_call 40; refine (rSign_any _ _ _ (by omega) (by omega) (by omega) (by omega)).mono ?_; rintro e w' ⟨rfl, rfl⟩) | (go_at_call 39; refine (size_any _ _ (by omega) (by omega)).mono ?_; rintro e w' ⟨rfl, rfl⟩) | (go_at_call 47; refine (beyond_any _ _ _ _ (by omega) (by omega) (by omega) (by omega) (by omega) (by omega)).mono ?_; rintro e w' ⟨rfl, rfl⟩))
  go_ret2
  exact ⟨rfl, hd1⟩

set_option maxRecDepth 100000 in
set_option maxHeartbeats 16000000 in
theorem rBreaks_10 (fl n a b : Int) (w : World) (g : good 10 n a b = true) (h3 : 0 ≤ a) (h5 : 0 ≤ b) (f7 : 0 ≤ fl) (f8 : fl ≤ 7) : Calls Try.prog 29 #[.int .i64 10, .int .i64 fl, .int .i64 n, .int .u32 a, .int .u32 b] w fun e w' => e = .returned (.tuple #[.bool (has 10 n a b && brk 10 fl n a b), .int .i64 0]) ∧ Dr w w' := by
  obtain ⟨_, _, h1, h2, h4, h6⟩ := (good_iff _ _ _ _).1 g
  obtain ⟨m, rfl⟩ := Int.eq_ofNat_of_zero_le (show 0 ≤ n by omega)
  have hp := @pw_le32 (m : Int) (by omega)
  have hp0 := pw_pos (m : Int)
  have x1 := sgn_lo32 (n := m) (a := a) (by omega) (by omega) h3
  have x2 := sgn_hi32 (n := m) (a := a) (by omega) (by omega) h4
  have y1 := sgn_lo32 (n := m) (a := b) (by omega) (by omega) h5
  have y2 := sgn_hi32 (n := m) (a := b) (by omega) (by omega) h6
  have hp3 := @pw_le31 ((m : Int) - 1) (by omega)
  have hp4 := pw_pos ((m : Int) - 1)
  have hz := sgn_zero (n := m) (b := b) (by omega) h6
  have hpw : wrap64 ((2 : Int) ^ (m - 1)) = pw ((m : Int) - 1) := by
    have e : ((m : Int) - 1).toNat = m - 1 := by omega
    rw [← e]; exact IntWalk.wrap64_in (pw ((m : Int) - 1)) (by omega)
  have u1 : decide (fl < 0) = false := by simp; omega
  have u2 : decide (7 < fl) = false := by simp; omega
  clear hz
  have hB : brk 10 fl m a b = false := rfl
  have hv : (has 10 m a b && brk 10 fl m a b) = false := by rw [hB, Bool.and_false]
  rw [hv]
  clear hv hB
  have hh : has 10 m a b = true := rfl
  go_enter Try.func29, Try.ntmps29
  go_wp2_with (first | (go_at_call 37; refine (rtwo_ok _ _ _ _ _ (by assumption) (by omega) (by omega) (by omega) (by omega)).mono ?_; rintro e w' ⟨rfl, rfl⟩) | (go_at_call 38; refine (rdo_yes _ _ _ _ _ (by assumption) (by omega) (by omega) (by assumption)).mono ?_; rintro e w' ⟨rfl, hd1⟩) | (go_at_call 38; refine (rdo_nope _ _ _ _ _ (by assumption) (by omega) (by omega) (by assumption)).mono ?_; rintro e w' ⟨rfl, hd1⟩) | (go_at_call 40; refine (rSign_any _ _ _ (by omega) (by omega) (by omega) (by omega)).mono ?_; rintro e w' ⟨rfl, rfl⟩) | (go_at_call 39; refine (size_any _ _ (by omega) (by omega)).mono ?_; rintro e w' ⟨rfl, rfl⟩) | (go_at_call 47; refine (beyond_any _ _ _ _ (by omega) (by omega) (by omega) (by omega) (by omega) (by omega)).mono ?_; rintro e w' ⟨rfl, rfl⟩))
  go_ret2
  exact ⟨rfl, hd1⟩

set_option maxRecDepth 100000 in
set_option maxHeartbeats 16000000 in
theorem rBreaks_4 (fl n a b : Int) (w : World) (g : good 4 n a b = true) (h3 : 0 ≤ a) (h5 : 0 ≤ b) (f7 : 0 ≤ fl) (f8 : fl ≤ 7) : Calls Try.prog 29 #[.int .i64 4, .int .i64 fl, .int .i64 n, .int .u32 a, .int .u32 b] w fun e w' => e = .returned (.tuple #[.bool (has 4 n a b && brk 4 fl n a b), .int .i64 0]) ∧ Dr w w' := by
  obtain ⟨_, _, h1, h2, h4, h6⟩ := (good_iff _ _ _ _).1 g
  obtain ⟨m, rfl⟩ := Int.eq_ofNat_of_zero_le (show 0 ≤ n by omega)
  have hp := @pw_le32 (m : Int) (by omega)
  have hp0 := pw_pos (m : Int)
  have x1 := sgn_lo32 (n := m) (a := a) (by omega) (by omega) h3
  have x2 := sgn_hi32 (n := m) (a := a) (by omega) (by omega) h4
  have y1 := sgn_lo32 (n := m) (a := b) (by omega) (by omega) h5
  have y2 := sgn_hi32 (n := m) (a := b) (by omega) (by omega) h6
  have hp3 := @pw_le31 ((m : Int) - 1) (by omega)
  have hp4 := pw_pos ((m : Int) - 1)
  have hz := sgn_zero (n := m) (b := b) (by omega) h6
  have hpw : wrap64 ((2 : Int) ^ (m - 1)) = pw ((m : Int) - 1) := by
    have e : ((m : Int) - 1).toNat = m - 1 := by omega
    rw [← e]; exact IntWalk.wrap64_in (pw ((m : Int) - 1)) (by omega)
  have u1 : decide (fl < 0) = false := by simp; omega
  have u2 : decide (7 < fl) = false := by simp; omega
  clear hz
  have hB : brk 4 fl m a b = (f2 fl && brL 4 m a b) := rfl
  rcases (Bool.eq_false_or_eq_true (has 4 m a b)).symm with hh | hh
  · have hv : (has 4 m a b && brk 4 fl m a b) = false := by rw [hh] <;> rfl
    rw [hv]
    clear hv hB
    go_enter Try.func29, Try.ntmps29
    go_wp2_with (first | (go_at_call 37; refine (rtwo_ok _ _ _ _ _ (by assumption) (by omega) (by omega) (by omega) (by omega)).mono ?_; rintro e w' ⟨rfl, rfl⟩) | (go_at_call 38; refine (rdo_yes _ _ _ _ _ (by assumption) (by omega) (by omega) (by assumption)).mono ?_; rintro e w' ⟨rfl, hd1⟩) | (go_at_call 38; refine (rdo_nope _ _ _ _ _ (by assumption) (by omega) (by omega) (by assumption)).mono ?_; rintro e w' ⟨rfl, hd1⟩) | (go_at_call 40; refine (rSign_any _ _ _ (by omega) (by omega) (by omega) (by omega)).mono ?_; rintro e w' ⟨rfl, rfl⟩) | (go_at_call 39; refine (size_any _ _ (by omega) (by omega)).mono ?_; rintro e w' ⟨rfl, rfl⟩) | (go_at_call 47; refine (beyond_any _ _ _ _ (by omega) (by omega) (by omega) (by omega) (by omega) (by omega)).mono ?_; rintro e w' ⟨rfl, rfl⟩))
    go_ret2
    exact ⟨rfl, hd1⟩
  · have hL : brL 4 m a b = (a % b != 0) := rfl
    rw [hL] at hB
    clear hL
    have hb : b ≠ 0 := by simpa [has] using hh
    have hb1 : (b == 0) = false := by simpa using hb
    have hb2 : 1 ≤ b := by omega
    clear hb
    cases e2 : f2 fl
    · have j2 : (fl / 4 % 2 == 1) = false := by rw [← e2]; rfl
      have hv : (has 4 m a b && brk 4 fl m a b) = false := by rw [hh, hB, e2] <;> rfl
      rw [hv]
      clear hv hB
      go_enter Try.func29, Try.ntmps29
      go_wp2_with (first | (go_at_call 37; refine (rtwo_ok _ _ _ _ _ (by assumption) (by omega) (by omega) (by omega) (by omega)).mono ?_; rintro e w' ⟨rfl, rfl⟩) | (go_at_call 38; refine (rdo_yes _ _ _ _ _ (by assumption) (by omega) (by omega) (by assumption)).mono ?_; rintro e w' ⟨rfl, hd1⟩) | (go_at_call 38; refine (rdo_nope _ _ _ _ _ (by assumption) (by omega) (by omega) (by assumption)).mono ?_; rintro e w' ⟨rfl, hd1⟩) | (go_at_call 40; refine (rSign_any _ _ _ (by omega) (by omega) (by omega) (by omega)).mono ?_; rintro e w' ⟨rfl, rfl⟩) | (go_at_call 39; refine (size_any _ _ (by omega) (by omega)).mono ?_; rintro e w' ⟨rfl, rfl⟩) | (go_at_call 47; refine (beyond_any _ _ _ _ (by omega) (by omega) (by omega) (by omega) (by omega) (by omega)).mono ?_; rintro e w' ⟨rfl, rfl⟩))
      go_ret2
      exact ⟨rfl, hd1⟩
    · have j2 : (fl / 4 % 2 == 1) = true := by rw [← e2]; rfl
      cases hl : (a % b != 0)
      · have hv : (has 4 m a b && brk 4 fl m a b) = false := by rw [hh, hB, e2, hl] <;> rfl
        rw [hv]
        clear hv hB
        go_enter Try.func29, Try.ntmps29
        go_wp2_with (first | (go_at_call 37; refine (rtwo_ok _ _ _ _ _ (by assumption) (by omega) (by omega) (by omega) (by omega)).mono ?_; rintro e w' ⟨rfl, rfl⟩) | (go_at_call 38; refine (rdo_yes _ _ _ _ _ (by assumption) (by omega) (by omega) (by assumption)).mono ?_; rintro e w' ⟨rfl, hd1⟩) | (go_at_call 38; refine (rdo_nope _ _ _ _ _ (by assumption) (by omega) (by omega) (by assumption)).mono ?_; rintro e w' ⟨rfl, hd1⟩) | (go_at_call 40; refine (rSign_any _ _ _ (by omega) (by omega) (by omega) (by omega)).mono ?_; rintro e w' ⟨rfl, rfl⟩) | (go_at_call 39; refine (size_any _ _ (by omega) (by omega)).mono ?_; rintro e w' ⟨rfl, rfl⟩) | (go_at_call 47; refine (beyond_any _ _ _ _ (by omega) (by omega) (by omega) (by omega) (by omega) (by omega)).mono ?_; rintro e w' ⟨rfl, rfl⟩))
        go_ret2
        exact ⟨rfl, hd1⟩
      · have hv : (has 4 m a b && brk 4 fl m a b) = true := by rw [hh, hB, e2, hl] <;> rfl
        rw [hv]
        clear hv hB
        go_enter Try.func29, Try.ntmps29
        go_wp2_with (first | (go_at_call 37; refine (rtwo_ok _ _ _ _ _ (by assumption) (by omega) (by omega) (by omega) (by omega)).mono ?_; rintro e w' ⟨rfl, rfl⟩) | (go_at_call 38; refine (rdo_yes _ _ _ _ _ (by assumption) (by omega) (by omega) (by assumption)).mono ?_; rintro e w' ⟨rfl, hd1⟩) | (go_at_call 38; refine (rdo_nope _ _ _ _ _ (by assumption) (by omega) (by omega) (by assumption)).mono ?_; rintro e w' ⟨rfl, hd1⟩) | (go_at_call 40; refine (rSign_any _ _ _ (by omega) (by omega) (by omega) (by omega)).mono ?_; rintro e w' ⟨rfl, rfl⟩) | (go_at_call 39; refine (size_any _ _ (by omega) (by omega)).mono ?_; rintro e w' ⟨rfl, rfl⟩) | (go_at_call 47; refine (beyond_any _ _ _ _ (by omega) (by omega) (by omega) (by omega) (by omega) (by omega)).mono ?_; rintro e w' ⟨rfl, rfl⟩))
        go_ret2
        exact ⟨rfl, hd1⟩

set_option maxRecDepth 100000 in
set_option maxHeartbeats 16000000 in
theorem rBreaks_12 (fl n a b : Int) (w : World) (g : good 12 n a b = true) (h3 : 0 ≤ a) (h5 : 0 ≤ b) (f7 : 0 ≤ fl) (f8 : fl ≤ 7) : Calls Try.prog 29 #[.int .i64 12, .int .i64 fl, .int .i64 n, .int .u32 a, .int .u32 b] w fun e w' => e = .returned (.tuple #[.bool (has 12 n a b && brk 12 fl n a b), .int .i64 0]) ∧ Dr w w' := by
  obtain ⟨_, _, h1, h2, h4, h6⟩ := (good_iff _ _ _ _).1 g
  obtain ⟨m, rfl⟩ := Int.eq_ofNat_of_zero_le (show 0 ≤ n by omega)
  have hp := @pw_le32 (m : Int) (by omega)
  have hp0 := pw_pos (m : Int)
  have x1 := sgn_lo32 (n := m) (a := a) (by omega) (by omega) h3
  have x2 := sgn_hi32 (n := m) (a := a) (by omega) (by omega) h4
  have y1 := sgn_lo32 (n := m) (a := b) (by omega) (by omega) h5
  have y2 := sgn_hi32 (n := m) (a := b) (by omega) (by omega) h6
  have hp3 := @pw_le31 ((m : Int) - 1) (by omega)
  have hp4 := pw_pos ((m : Int) - 1)
  have hz := sgn_zero (n := m) (b := b) (by omega) h6
  have hpw : wrap64 ((2 : Int) ^ (m - 1)) = pw ((m : Int) - 1) := by
    have e : ((m : Int) - 1).toNat = m - 1 := by omega
    rw [← e]; exact IntWalk.wrap64_in (pw ((m : Int) - 1)) (by omega)
  have u1 : decide (fl < 0) = false := by simp; omega
  have u2 : decide (7 < fl) = false := by simp; omega
  clear hz
  have hB : brk 12 fl m a b = (f2 fl && brL 12 m a b) := rfl
  rcases (Bool.eq_false_or_eq_true (has 12 m a b)).symm with hh | hh
  · have hv : (has 12 m a b && brk 12 fl m a b) = false := by rw [hh] <;> rfl
    rw [hv]
    clear hv hB
    go_enter Try.func29, Try.ntmps29
    go_wp2_with (first | (go_at_call 37; refine (rtwo_ok _ _ _ _ _ (by assumption) (by omega) (by omega) (by omega) (by omega)).mono ?_; rintro e w' ⟨rfl, rfl⟩) | (go_at_call 38; refine (rdo_yes _ _ _ _ _ (by assumption) (by omega) (by omega) (by assumption)).mono ?_; rintro e w' ⟨rfl, hd1⟩) | (go_at_call 38; refine (rdo_nope _ _ _ _ _ (by assumption) (by omega) (by omega) (by assumption)).mono ?_; rintro e w' ⟨rfl, hd1⟩) | (go_at_call 40; refine (rSign_any _ _ _ (by omega) (by omega) (by omega) (by omega)).mono ?_; rintro e w' ⟨rfl, rfl⟩) | (go_at_call 39; refine (size_any _ _ (by omega) (by omega)).mono ?_; rintro e w' ⟨rfl, rfl⟩) | (go_at_call 47; refine (beyond_any _ _ _ _ (by omega) (by omega) (by omega) (by omega) (by omega) (by omega)).mono ?_; rintro e w' ⟨rfl, rfl⟩))
    go_ret2
    exact ⟨rfl, hd1⟩
  · have hL : brL 12 m a b = (a % pw b != 0) := rfl
    rw [hL] at hB
    clear hL
    have hb : b < m := by simpa [has] using hh
    have hb3 : b ≤ 31 := by omega
    have hp7 := pw_le31 (n := b) hb3
    have hp8 := pw_pos b
    have hp9 : (pw b == 0) = false := by simp; omega
    clear hb
    cases e2 : f2 fl
    · have j2 : (fl / 4 % 2 == 1) = false := by rw [← e2]; rfl
      have hv : (has 12 m a b && brk 12 fl m a b) = false := by rw [hh, hB, e2] <;> rfl
      rw [hv]
      clear hv hB
      go_enter Try.func29, Try.ntmps29
      go_wp2_with (first | (go_at_call 37; refine (rtwo_ok _ _ _ _ _ (by assumption) (by omega) (by omega) (by omega) (by omega)).mono ?_; rintro e w' ⟨rfl, rfl⟩) | (go_at_call 38; refine (rdo_yes _ _ _ _ _ (by assumption) (by omega) (by omega) (by assumption)).mono ?_; rintro e w' ⟨rfl, hd1⟩) | (go_at_call 38; refine (rdo_nope _ _ _ _ _ (by assumption) (by omega) (by omega) (by assumption)).mono ?_; rintro e w' ⟨rfl, hd1⟩) | (go_at_call 40; refine (rSign_any _ _ _ (by omega) (by omega) (by omega) (by omega)).mono ?_; rintro e w' ⟨rfl, rfl⟩) | (go_at_call 39; refine (size_any _ _ (by omega) (by omega)).mono ?_; rintro e w' ⟨rfl, rfl⟩) | (go_at_call 47; refine (beyond_any _ _ _ _ (by omega) (by omega) (by omega) (by omega) (by omega) (by omega)).mono ?_; rintro e w' ⟨rfl, rfl⟩))
      go_ret2
      exact ⟨rfl, hd1⟩
    · have j2 : (fl / 4 % 2 == 1) = true := by rw [← e2]; rfl
      cases hl : (a % pw b != 0)
      · have hv : (has 12 m a b && brk 12 fl m a b) = false := by rw [hh, hB, e2, hl] <;> rfl
        rw [hv]
        clear hv hB
        go_enter Try.func29, Try.ntmps29
        go_wp2_with (first | (go_at_call 37; refine (rtwo_ok _ _ _ _ _ (by assumption) (by omega) (by omega) (by omega) (by omega)).mono ?_; rintro e w' ⟨rfl, rfl⟩) | (go_at_call 38; refine (rdo_yes _ _ _ _ _ (by assumption) (by omega) (by omega) (by assumption)).mono ?_; rintro e w' ⟨rfl, hd1⟩) | (go_at_call 38; refine (rdo_nope _ _ _ _ _ (by assumption) (by omega) (by omega) (by assumption)).mono ?_; rintro e w' ⟨rfl, hd1⟩) | (go_at_call 40; refine (rSign_any _ _ _ (by omega) (by omega) (by omega) (by omega)).mono ?_; rintro e w' ⟨rfl, rfl⟩) | (go_at_call 39; refine (size_any _ _ (by omega) (by omega)).mono ?_; rintro e w' ⟨rfl, rfl⟩) | (go_at_call 47; refine (beyond_any _ _ _ _ (by omega) (by omega) (by omega) (by omega) (by omega) (by omega)).mono ?_; rintro e w' ⟨rfl, rfl⟩))
        go_ret2
        exact ⟨rfl, hd1⟩
      · have hv : (has 12 m a b && brk 12 fl m a b) = true := by rw [hh, hB, e2, hl] <;> rfl
        rw [hv]
        clear hv hB
        go_enter Try.func29, Try.ntmps29
        go_wp2_with (first | (go_at_call 37; refine (rtwo_ok _ _ _ _ _ (by assumption) (by omega) (by omega) (by omega) (by omega)).mono ?_; rintro e w' ⟨rfl, rfl⟩) | (go_at_call 38; refine (rdo_yes _ _ _ _ _ (by assumption) (by omega) (by omega) (by assumption)).mono ?_; rintro e w' ⟨rfl, hd1⟩) | (go_at_call 38; refine (rdo_nope _ _ _ _ _ (by assumption) (by omega) (by omega) (by assumption)).mono ?_; rintro e w' ⟨rfl, hd1⟩) | (go_at_call 40; refine (rSign_any _ _ _ (by omega) (by omega) (by omega) (by omega)).mono ?_; rintro e w' ⟨rfl, rfl⟩) | (go_at_call 39; refine (size_any _ _ (by omega) (by omega)).mono ?_; rintro e w' ⟨rfl, rfl⟩) | (go_at_call 47; refine (beyond_any _ _ _ _ (by omega) (by omega) (by omega) (by omega) (by omega) (by omega)).mono ?_; rintro e w' ⟨rfl, rfl⟩))
        go_ret2
        exact ⟨rfl, hd1⟩

end Go.Proofs.Ytpgbepgbgpjmcaa
