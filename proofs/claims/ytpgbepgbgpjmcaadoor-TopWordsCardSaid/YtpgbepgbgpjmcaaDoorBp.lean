/- Walks for Breaks: the results without a limit, and what is left over. -/
import Derived.Test.YtpgbepgbgpjmcaaDoorBf
import Derived.Test.YtpgbepgbgpjmcaaDoorBrk
namespace Go.Proofs.YtpgbepgbgpjmcaaDoor
open Go.RowKit Wd
set_option linter.unusedVariables false
set_option linter.unusedSimpArgs false

theorem and32 {x : Int} (h1 : 0 ≤ x) (h2 : x ≤ 4294967295) : bits .and .u64 x 4294967295 = x := by
  rw [u64_and x _ h1 (by omega) (by omega) (by omega)]
  have : (4294967295 : Int).toNat = 2 ^ 32 - 1 := rfl
  rw [this, Nat.and_two_pow_sub_one_eq_mod]
  have : ((x.toNat % 2 ^ 32 : Nat) : Int) = (x.toNat : Int) % 4294967296 := by simp
  omega

theorem wh1 (a b : Int) (w : World) (a1 : -4294967295 ≤ a) (a2 : a ≤ 4294967295) (b1 : -4294967295 ≤ b) (b2 : b ≤ 4294967295) : Calls Tryd.prog 34 #[.int .i64 a, .int .i64 b] w fun e w' => e = .returned (.int .i64 (a + b)) ∧ w = w' := by
  go_enter Tryd.func34, Tryd.ntmps34
  go_wp2
  go_ret
  exact ⟨rfl, rfl⟩

theorem wh3 (a b : Int) (w : World) (a1 : -4294967295 ≤ a) (a2 : a ≤ 4294967295) (b1 : -4294967295 ≤ b) (b2 : b ≤ 4294967295) : Calls Tryd.prog 36 #[.int .i64 a, .int .i64 b] w fun e w' => e = .returned (.int .i64 (a - b)) ∧ w = w' := by
  go_enter Tryd.func36, Tryd.ntmps36
  go_wp2
  go_ret
  exact ⟨rfl, rfl⟩

theorem wh17 (a : Int) (k : Nat) (w : World) (a1 : -4294967295 ≤ a) (a2 : a ≤ 4294967295) (hk : k ≤ 31) : Calls Tryd.prog 53 #[.int .i64 a, .int .i64 k] w fun e w' => e = .returned (.int .i64 (a * 2 ^ k)) ∧ w = w' := by
  have h := shl_bd a1 a2 hk
  obtain ⟨s1, s2⟩ := h
  have hw : wrap64 (a * 2 ^ k) = a * 2 ^ k := IntWalk.wrap64_in _ ⟨s1, s2⟩
  go_enter Tryd.func53, Tryd.ntmps53
  go_wp2
  go_ret
  exact ⟨by first | rfl | (rw [← hw]; rfl), rfl⟩

theorem mul64_small (x y : Int) (w : World) (x1 : 0 ≤ x) (x2 : x ≤ 4294967295) (y1 : 0 ≤ y) (y2 : y ≤ 4294967295) : Calls Tryd.prog 39 #[.int .u64 x, .int .u64 y] w fun e w' => e = .returned (.tuple #[.int .u64 0, .int .u64 (x * y)]) ∧ w = w' := by
  have h0 : 0 ≤ x * y := Int.mul_nonneg x1 y1
  have h1 : x * y ≤ 18446744065119617025 := by
    have := mul_bd (m := 4294967295) (x := x) (y := y) (by omega) x2 (by omega) y2
    omega
  have e1 := and32 (x := x) x1 x2
  have e2 := and32 (x := y) y1 y2
  have e3 := and32 (x := x * y / 4294967296) (by omega) (by omega)
  have e4 : x * y / 4294967296 / 4294967296 = 0 := by omega
  have e5 : IntKind.u64.wrap (x * y) = x * y := by simp [IntKind.wrap, IntKind.bits, IntKind.signed]; omega
  have s1 : x / 4294967296 = 0 := Int.ediv_eq_zero_of_lt x1 (by omega)
  have s2 : y / 4294967296 = 0 := Int.ediv_eq_zero_of_lt y1 (by omega)
  go_enter Tryd.func39, Tryd.ntmps39
  go_wp2
  go_ret2
  exact ⟨rfl, rfl⟩

theorem wh5 (a b : Int) (w : World) (a1 : -4294967295 ≤ a) (a2 : a ≤ 4294967295) (b1 : -4294967295 ≤ b) (b2 : b ≤ 4294967295) : Calls Tryd.prog 38 #[.int .i64 a, .int .i64 b] w fun e w' => e = .returned (.int .i64 (mulW a b)) ∧ w = w' := by
  have hm := mul_bd (m := 4294967295) (x := a) (y := b) a1 a2 b1 b2
  have hle : max a (-a) * max b (-b) = ((a * b).natAbs : Int) := by rw [max_abs, max_abs, Int.natAbs_mul]; simp
  clear hm
  rcases Int.lt_or_le a 0 with ha | ha <;> rcases Int.lt_or_le b 0 with hb | hb
  · have da : decide (a < -a) = true := by simp; omega
    have db : decide (b < -b) = true := by simp; omega
    have ea : max a (-a) = -a := by omega
    have eb : max b (-b) = -b := by omega
    rw [ea, eb] at hle
    unfold mulW
    rw [ea, eb]
    by_cases hc : 4611686018427387904 ≤ -a * -b
    · rw [if_pos hc]
      have hd : decide (4611686018427387904 ≤ -a * -b) = true := by simpa using hc
      clear hle hc ea eb
      go_enter Tryd.func38, Tryd.ntmps38
      go_wp2_with (first | (go_at_call 39; refine (mul64_small _ _ _ (by omega) (by omega) (by omega) (by omega)).mono ?_; rintro e w' ⟨rfl, rfl⟩))
      all_goals go_ret
      all_goals exact ⟨rfl, rfl⟩
    · rw [if_neg hc]
      have hd : decide (4611686018427387904 ≤ -a * -b) = false := by simpa using hc
      have hw : wrap64 (a * b) = a * b := IntWalk.wrap64_in _ (by omega)
      clear hle hc ea eb
      go_enter Tryd.func38, Tryd.ntmps38
      go_wp2_with (first | (go_at_call 39; refine (mul64_small _ _ _ (by omega) (by omega) (by omega) (by omega)).mono ?_; rintro e w' ⟨rfl, rfl⟩))
      all_goals go_ret
      all_goals exact ⟨ret_i hw, rfl⟩
  · have da : decide (a < -a) = true := by simp; omega
    have db : decide (b < -b) = false := by simp; omega
    have ea : max a (-a) = -a := by omega
    have eb : max b (-b) = b := by omega
    rw [ea, eb] at hle
    unfold mulW
    rw [ea, eb]
    by_cases hc : 4611686018427387904 ≤ -a * b
    · rw [if_pos hc]
      have hd : decide (4611686018427387904 ≤ -a * b) = true := by simpa using hc
      clear hle hc ea eb
      go_enter Tryd.func38, Tryd.ntmps38
      go_wp2_with (first | (go_at_call 39; refine (mul64_small _ _ _ (by omega) (by omega) (by omega) (by omega)).mono ?_; rintro e w' ⟨rfl, rfl⟩))
      all_goals go_ret
      all_goals exact ⟨rfl, rfl⟩
    · rw [if_neg hc]
      have hd : decide (4611686018427387904 ≤ -a * b) = false := by simpa using hc
      have hw : wrap64 (a * b) = a * b := IntWalk.wrap64_in _ (by omega)
      clear hle hc ea eb
      go_enter Tryd.func38, Tryd.ntmps38
      go_wp2_with (first | (go_at_call 39; refine (mul64_small _ _ _ (by omega) (by omega) (by omega) (by omega)).mono ?_; rintro e w' ⟨rfl, rfl⟩))
      all_goals go_ret
      all_goals exact ⟨ret_i hw, rfl⟩
  · have da : decide (a < -a) = false := by simp; omega
    have db : decide (b < -b) = true := by simp; omega
    have ea : max a (-a) = a := by omega
    have eb : max b (-b) = -b := by omega
    rw [ea, eb] at hle
    unfold mulW
    rw [ea, eb]
    by_cases hc : 4611686018427387904 ≤ a * -b
    · rw [if_pos hc]
      have hd : decide (4611686018427387904 ≤ a * -b) = true := by simpa using hc
      clear hle hc ea eb
      go_enter Tryd.func38, Tryd.ntmps38
      go_wp2_with (first | (go_at_call 39; refine (mul64_small _ _ _ (by omega) (by omega) (by omega) (by omega)).mono ?_; rintro e w' ⟨rfl, rfl⟩))
      all_goals go_ret
      all_goals exact ⟨rfl, rfl⟩
    · rw [if_neg hc]
      have hd : decide (4611686018427387904 ≤ a * -b) = false := by simpa using hc
      have hw : wrap64 (a * b) = a * b := IntWalk.wrap64_in _ (by omega)
      clear hle hc ea eb
      go_enter Tryd.func38, Tryd.ntmps38
      go_wp2_with (first | (go_at_call 39; refine (mul64_small _ _ _ (by omega) (by omega) (by omega) (by omega)).mono ?_; rintro e w' ⟨rfl, rfl⟩))
      all_goals go_ret
      all_goals exact ⟨ret_i hw, rfl⟩
  · have da : decide (a < -a) = false := by simp; omega
    have db : decide (b < -b) = false := by simp; omega
    have ea : max a (-a) = a := by omega
    have eb : max b (-b) = b := by omega
    rw [ea, eb] at hle
    unfold mulW
    rw [ea, eb]
    by_cases hc : 4611686018427387904 ≤ a * b
    · rw [if_pos hc]
      have hd : decide (4611686018427387904 ≤ a * b) = true := by simpa using hc
      clear hle hc ea eb
      go_enter Tryd.func38, Tryd.ntmps38
      go_wp2_with (first | (go_at_call 39; refine (mul64_small _ _ _ (by omega) (by omega) (by omega) (by omega)).mono ?_; rintro e w' ⟨rfl, rfl⟩))
      all_goals go_ret
      all_goals exact ⟨rfl, rfl⟩
    · rw [if_neg hc]
      have hd : decide (4611686018427387904 ≤ a * b) = false := by simpa using hc
      have hw : wrap64 (a * b) = a * b := IntWalk.wrap64_in _ (by omega)
      clear hle hc ea eb
      go_enter Tryd.func38, Tryd.ntmps38
      go_wp2_with (first | (go_at_call 39; refine (mul64_small _ _ _ (by omega) (by omega) (by omega) (by omega)).mono ?_; rintro e w' ⟨rfl, rfl⟩))
      all_goals go_ret
      all_goals exact ⟨ret_i hw, rfl⟩

theorem lf8 (n a b : Int) (w : World) (h1 : 1 ≤ n) (h2 : n ≤ 32) (h3 : 0 ≤ a) (h4 : a < pw n) (h5 : 0 ≤ b) (h6 : b < pw n) (hh : has 4 n a b = true) : Calls Tryd.prog 42 #[.int .i64 n, .int .u32 a, .int .u32 b] w fun e w' => e = .returned (.bool (brL 4 n a b)) ∧ Dr w w' := by
  have hb : b ≠ 0 := by simpa [has] using hh
  have hb1 : (b == 0) = false := by simpa using hb
  have hb2 : 1 ≤ b := by omega
  have hv : brL 4 n a b = (a % b != 0) := by simp [brL]
  rw [hv]
  clear hv hb
  go_enter Tryd.func42, Tryd.ntmps42
  go_wp2
  go_ret
  exact ⟨rfl, Dr.refl _⟩

theorem lf11 (n a b : Int) (w : World) (h1 : 1 ≤ n) (h2 : n ≤ 32) (h3 : 0 ≤ a) (h4 : a < pw n) (h5 : 0 ≤ b) (h6 : b < pw n) (hh : has 6 n a b = true) : Calls Tryd.prog 46 #[.int .i64 n, .int .u32 a, .int .u32 b] w fun e w' => e = .returned (.bool (brL 6 n a b)) ∧ Dr w w' := by
  have hv : brL 6 n a b = ((sgn n a).tmod (sgn n b) != 0) := by simp [brL]
  rw [hv]
  clear hv
  go_enter Tryd.func46, Tryd.ntmps46
  go_wp2_with (first | (go_at_call 45; refine (quotient_some _ _ _ _ (by omega) (by omega) (by omega) (by omega) (by omega) (by omega) (by assumption)).mono ?_; rintro e w' ⟨rfl, hd1⟩))
  go_ret
  exact ⟨rfl, hd1⟩

theorem lf19 (n a b : Int) (w : World) (h1 : 1 ≤ n) (h2 : n ≤ 32) (h3 : 0 ≤ a) (h4 : a < pw n) (h5 : 0 ≤ b) (h6 : b < pw n) (hh : has 12 n a b = true) : Calls Tryd.prog 55 #[.int .i64 n, .int .u32 a, .int .u32 b] w fun e w' => e = .returned (.bool (brL 12 n a b)) ∧ Dr w w' := by
  have hb : b < n := by simpa [has] using hh
  have hp := pw_le32 h2
  obtain ⟨k, rfl⟩ := Int.eq_ofNat_of_zero_le (show 0 ≤ b by omega)
  have hv : brL 12 n a k = (a / 2 ^ k * 2 ^ k % 4294967296 != a) := by
    rw [shl_shr h3 (by omega)]
    simp [brL, pw_cast]
  have hk : k ≤ 31 := by omega
  rw [hv]
  clear hv hb hh
  go_enter Tryd.func55, Tryd.ntmps55
  go_wp2
  go_ret
  exact ⟨rfl, Dr.refl _⟩

theorem lf21 (n a b : Int) (w : World) (h1 : 1 ≤ n) (h2 : n ≤ 32) (h3 : 0 ≤ a) (h4 : a < pw n) (h5 : 0 ≤ b) (h6 : b < pw n) (hh : has 13 n a b = true) : Calls Tryd.prog 58 #[.int .i64 n, .int .u32 a, .int .u32 b] w fun e w' => e = .returned (.bool (brL 13 n a b)) ∧ Dr w w' := by
  have hb : b < n := by simpa [has] using hh
  have hp := pw_le32 h2
  obtain ⟨k, rfl⟩ := Int.eq_ofNat_of_zero_le (show 0 ≤ b by omega)
  have hv : brL 13 n a k = (a / 2 ^ k * 2 ^ k % 4294967296 != a) := by
    rw [shl_shr h3 (by omega)]
    simp [brL, pw_cast]
  have hk : k ≤ 31 := by omega
  rw [hv]
  clear hv hb hh
  go_enter Tryd.func58, Tryd.ntmps58
  go_wp2
  go_ret
  exact ⟨rfl, Dr.refl _⟩

end Go.Proofs.YtpgbepgbgpjmcaaDoor
