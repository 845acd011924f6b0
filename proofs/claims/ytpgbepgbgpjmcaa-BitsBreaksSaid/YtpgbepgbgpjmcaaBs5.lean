/- Breaks of the answer. -/
import Derived.Test.YtpgbepgbgpjmcaaBs1
import Derived.Test.YtpgbepgbgpjmcaaBd
import Derived.Test.YtpgbepgbgpjmcaaBf
import Derived.Test.YtpgbepgbgpjmcaaBrk
namespace Go.Proofs.Ytpgbepgbgpjmcaa
open Go.RowKit Wd
set_option linter.unusedVariables false
set_option linter.unusedSimpArgs false
set_option maxRecDepth 100000 in
set_option maxHeartbeats 16000000 in
theorem rBreaks_11 (fl n a b : Int) (w : World) (g : good 11 n a b = true) (h3 : 0 ≤ a) (h5 : 0 ≤ b) (f7 : 0 ≤ fl) (f8 : fl ≤ 7) : Calls Try.prog 29 #[.int .i64 11, .int .i64 fl, .int .i64 n, .int .u32 a, .int .u32 b] w fun e w' => e = .returned (.tuple #[.bool (has 11 n a b && brk 11 fl n a b), .int .i64 0]) ∧ Dr w w' := by
  obtain ⟨_, _, h1, h2, h4, h6⟩ := (good_iff _ _ _ _).1 g
  obtain ⟨m, rfl⟩ := Int.eq_ofNat_of_zero_le (show 0 ≤ n by omega)
  have hp := @pw_le32 (m : Int) (by omega)
  have hp0 := pw_pos (m : Int)
  have x1 := sgn_lo32 (n := m) (a := a) (by omega) (by omega) h3
  have x2 := sgn_hi32 (n := m) (a := a) (by omega) (by omega) h4
  have y1 := sgn_lo32 (n := m) (a := b) (by omega) (by omega) h5
  have y2 := sgn_hi32 (n := m) (a := b) (by omega) (by omega) h6
  have hp3 := @pw_le31 ((m : Int) - 1) (by omega)
  have hp4 := pw_pos ((m : Int) - 1)
  have hz := sgn_zero (n := m) (b := b) (by omega) h6
  have hpw : wrap64 ((2 : Int) ^ (m - 1)) = pw ((m : Int) - 1) := by
    have e : ((m : Int) - 1).toNat = m - 1 := by omega
    rw [← e]; exact IntWalk.wrap64_in (pw ((m : Int) - 1)) (by omega)
  have u1 : decide (fl < 0) = false := by simp; omega
  have u2 : decide (7 < fl) = false := by simp; omega
  clear hz
  obtain ⟨c, rfl⟩ := Int.eq_ofNat_of_zero_le h5
  have hU : brU 11 m a c = bey a (pw c) (pw m - 1) := by rw [brU_11 _ _ _ h3]; unfold bey; rw [decide_eq_decide]; omega
  have hS : brS 11 m a c = (decide (sgn m a * pw c < -pw ((m : Int) - 1)) || decide (pw ((m : Int) - 1) - 1 < sgn m a * pw c)) := by show (decide (sgn m a * pw c < -pw ((m : Int) - 1)) || decide (pw ((m : Int) - 1) ≤ sgn m a * pw c)) = _; rw [decide_eq_decide.2 (show pw ((m : Int) - 1) ≤ sgn m a * pw c ↔ pw ((m : Int) - 1) - 1 < sgn m a * pw c by omega)]
  have hB : brk 11 fl m a c = ((f0 fl && bey a (pw c) (pw m - 1)) || (f1 fl && (decide (sgn m a * pw c < -pw ((m : Int) - 1)) || decide (pw ((m : Int) - 1) - 1 < sgn m a * pw c)))) := by rw [← hU, ← hS]; rfl
  clear hU hS
  have hcm : has 11 m a c = decide ((c : Int) < m) := rfl
  rcases (Bool.eq_false_or_eq_true (has 11 m a c)).symm with hh | hh
  · have hv : (has 11 m a c && brk 11 fl m a c) = false := by rw [hh] <;> rfl
    rw [hv]
    clear hv hB hcm
    go_enter Try.func29, Try.ntmps29
    go_wp2_with (first | (go_at_call 37; refine (rtwo_ok _ _ _ _ _ (by assumption) (by omega) (by omega) (by omega) (by omega)).mono ?_; rintro e w' ⟨rfl, rfl⟩) | (go_at_call 38; refine (rdo_yes _ _ _ _ _ (by assumption) (by omega) (by omega) (by assumption)).mono ?_; rintro e w' ⟨rfl, hd1⟩) | (go_at_call 38; refine (rdo_nope _ _ _ _ _ (by assumption) (by omega) (by omega) (by assumption)).mono ?_; rintro e w' ⟨rfl, hd1⟩) | (go_at_call 40; refine (rSign_any _ _ _ (by omega) (by omega) (by omega) (by omega)).mono ?_; rintro e w' ⟨rfl, rfl⟩) | (go_at_call 39; refine (size_any _ _ (by omega) (by omega)).mono ?_; rintro e w' ⟨rfl, rfl⟩) | (go_at_call 47; refine (beyond_any _ _ _ _ (by omega) (by omega) (by omega) (by omega) (by omega) (by omega)).mono ?_; rintro e w' ⟨rfl, rfl⟩))
    go_ret2
    exact ⟨rfl, hd1⟩
  · have hc31 : c ≤ 31 := by rw [hh] at hcm; have := of_decide_eq_true hcm.symm; omega
    have hs := shl_bd (a := sgn m a) (k := c) (by omega) (by omega) hc31
    rw [← pw_cast] at hs
    have hc0 := pw_le31 (n := (c : Int)) (by omega)
    have hc1 := pw_pos (c : Int)
    clear hcm
    cases e0 : f0 fl
    · cases e1 : f1 fl
      · cases e2 : f2 fl
        · have j0 : (fl % 2 == 1) = false := by rw [← e0]; rfl
          have j1 : (fl / 2 % 2 == 1) = false := by rw [← e1]; rfl
          have j2 : (fl / 4 % 2 == 1) = false := by rw [← e2]; rfl
          have hv : (has 11 m a c && brk 11 fl m a c) = false := by rw [hh, hB, e0, e1] <;> rfl
          rw [hv]
          clear hv hB
          go_enter Try.func29, Try.ntmps29
          go_wp2_with (first | (go_at_call 37; refine (rtwo_ok _ _ _ _ _ (by assumption) (by omega) (by omega) (by omega) (by omega)).mono ?_; rintro e w' ⟨rfl, rfl⟩) | (go_at_call 38; refine (rdo_yes _ _ _ _ _ (by assumption) (by omega) (by omega) (by assumption)).mono ?_; rintro e w' ⟨rfl, hd1⟩) | (go_at_call 38; refine (rdo_nope _ _ _ _ _ (by assumption) (by omega) (by omega) (by assumption)).mono ?_; rintro e w' ⟨rfl, hd1⟩) | (go_at_call 40; refine (rSign_any _ _ _ (by omega) (by omega) (by omega) (by omega)).mono ?_; rintro e w' ⟨rfl, rfl⟩) | (go_at_call 39; refine (size_any _ _ (by omega) (by omega)).mono ?_; rintro e w' ⟨rfl, rfl⟩) | (go_at_call 47; refine (beyond_any _ _ _ _ (by omega) (by omega) (by omega) (by omega) (by omega) (by omega)).mono ?_; rintro e w' ⟨rfl, rfl⟩))
          go_ret2
          exact ⟨rfl, hd1⟩
        · have j0 : (fl % 2 == 1) = false := by rw [← e0]; rfl
          have j1 : (fl / 2 % 2 == 1) = false := by rw [← e1]; rfl
          have j2 : (fl / 4 % 2 == 1) = true := by rw [← e2]; rfl
          have hv : (has 11 m a c && brk 11 fl m a c) = false := by rw [hh, hB, e0, e1] <;> rfl
          rw [hv]
          clear hv hB
          go_enter Try.func29, Try.ntmps29
          go_wp2_with (first | (go_at_call 37; refine (rtwo_ok _ _ _ _ _ (by assumption) (by omega) (by omega) (by omega) (by omega)).mono ?_; rintro e w' ⟨rfl, rfl⟩) | (go_at_call 38; refine (rdo_yes _ _ _ _ _ (by assumption) (by omega) (by omega) (by assumption)).mono ?_; rintro e w' ⟨rfl, hd1⟩) | (go_at_call 38; refine (rdo_nope _ _ _ _ _ (by assumption) (by omega) (by omega) (by assumption)).mono ?_; rintro e w' ⟨rfl, hd1⟩) | (go_at_call 40; refine (rSign_any _ _ _ (by omega) (by omega) (by omega) (by omega)).mono ?_; rintro e w' ⟨rfl, rfl⟩) | (go_at_call 39; refine (size_any _ _ (by omega) (by omega)).mono ?_; rintro e w' ⟨rfl, rfl⟩) | (go_at_call 47; refine (beyond_any _ _ _ _ (by omega) (by omega) (by omega) (by omega) (by omega) (by omega)).mono ?_; rintro e w' ⟨rfl, rfl⟩))
          go_ret2
          exact ⟨rfl, hd1⟩
      · cases e2 : f2 fl
        · have j0 : (fl % 2 == 1) = false := by rw [← e0]; rfl
          have j1 : (fl / 2 % 2 == 1) = true := by rw [← e1]; rfl
          have j2 : (fl / 4 % 2 == 1) = false := by rw [← e2]; rfl
          cases q3 : decide (sgn m a * pw c < -pw ((m : Int) - 1))
          · cases q4 : decide (pw ((m : Int) - 1) - 1 < sgn m a * pw c)
            · have hv : (has 11 m a c && brk 11 fl m a c) = false := by rw [hh, hB, e0, e1, q3, q4] <;> rfl
              rw [hv]
              clear hv hB
              go_enter Try.func29, Try.ntmps29
              go_wp2_with (first | (go_at_call 37; refine (rtwo_ok _ _ _ _ _ (by assumption) (by omega) (by omega) (by omega) (by omega)).mono ?_; rintro e w' ⟨rfl, rfl⟩) | (go_at_call 38; refine (rdo_yes _ _ _ _ _ (by assumption) (by omega) (by omega) (by assumption)).mono ?_; rintro e w' ⟨rfl, hd1⟩) | (go_at_call 38; refine (rdo_nope _ _ _ _ _ (by assumption) (by omega) (by omega) (by assumption)).mono ?_; rintro e w' ⟨rfl, hd1⟩) | (go_at_call 40; refine (rSign_any _ _ _ (by omega) (by omega) (by omega) (by omega)).mono ?_; rintro e w' ⟨rfl, rfl⟩) | (go_at_call 39; refine (size_any _ _ (by omega) (by omega)).mono ?_; rintro e w' ⟨rfl, rfl⟩) | (go_at_call 47; refine (beyond_any _ _ _ _ (by omega) (by omega) (by omega) (by omega) (by omega) (by omega)).mono ?_; rintro e w' ⟨rfl, rfl⟩))
              go_ret2
              exact ⟨rfl, hd1⟩
            · have hv : (has 11 m a c && brk 11 fl m a c) = true := by rw [hh, hB, e0, e1, q3, q4] <;> rfl
              rw [hv]
              clear hv hB
              go_enter Try.func29, Try.ntmps29
              go_wp2_with (first | (go_at_call 37; refine (rtwo_ok _ _ _ _ _ (by assumption) (by omega) (by omega) (by omega) (by omega)).mono ?_; rintro e w' ⟨rfl, rfl⟩) | (go_at_call 38; refine (rdo_yes _ _ _ _ _ (by assumption) (by omega) (by omega) (by assumption)).mono ?_; rintro e w' ⟨rfl, hd1⟩) | (go_at_call 38; refine (rdo_nope _ _ _ _ _ (by assumption) (by omega) (by omega) (by assumption)).mono ?_; rintro e w' ⟨rfl, hd1⟩) | (go_at_call 40; refine (rSign_any _ _ _ (by omega) (by omega) (by omega) (by omega)).mono ?_; rintro e w' ⟨rfl, rfl⟩) | (go_at_call 39; refine (size_any _ _ (by omega) (by omega)).mono ?_; rintro e w' ⟨rfl, rfl⟩) | (go_at_call 47; refine (beyond_any _ _ _ _ (by omega) (by omega) (by omega) (by omega) (by omega) (by omega)).mono ?_; rintro e w' ⟨rfl, rfl⟩))
              go_ret2
              exact ⟨rfl, hd1⟩
          · have hv : (has 11 m a c && brk 11 fl m a c) = true := by rw [hh, hB, e0, e1, q3] <;> rfl
            rw [hv]
            clear hv hB
            go_enter Try.func29, Try.ntmps29
            go_wp2_with (first | (go_at_call 37; refine (rtwo_ok _ _ _ _ _ (by assumption) (by omega) (by omega) (by omega) (by omega)).mono ?_; rintro e w' ⟨rfl, rfl⟩) | (go_at_call 38; refine (rdo_yes _ _ _ _ _ (by assumption) (by omega) (by omega) (by assumption)).mono ?_; rintro e w' ⟨rfl, hd1⟩) | (go_at_call 38; refine (rdo_nope _ _ _ _ _ (by assumption) (by omega) (by omega) (by assumption)).mono ?_; rintro e w' ⟨rfl, hd1⟩) | (go_at_call 40; refine (rSign_any _ _ _ (by omega) (by omega) (by omega) (by omega)).mono ?_; rintro e w' ⟨rfl, rfl⟩) | (go_at_call 39; refine (size_any _ _ (by omega) (by omega)).mono ?_; rintro e w' ⟨rfl, rfl⟩) | (go_at_call 47; refine (beyond_any _ _ _ _ (by omega) (by omega) (by omega) (by omega) (by omega) (by omega)).mono ?_; rintro e w' ⟨rfl, rfl⟩))
            go_ret2
            exact ⟨rfl, hd1⟩
        · have j0 : (fl % 2 == 1) = false := by rw [← e0]; rfl
          have j1 : (fl / 2 % 2 == 1) = true := by rw [← e1]; rfl
          have j2 : (fl / 4 % 2 == 1) = true := by rw [← e2]; rfl
          cases q3 : decide (sgn m a * pw c < -pw ((m : Int) - 1))
          · cases q4 : decide (pw ((m : Int) - 1) - 1 < sgn m a * pw c)
            · have hv : (has 11 m a c && brk 11 fl m a c) = false := by rw [hh, hB, e0, e1, q3, q4] <;> rfl
              rw [hv]
              clear hv hB
              go_enter Try.func29, Try.ntmps29
              go_wp2_with (first | (go_at_call 37; refine (rtwo_ok _ _ _ _ _ (by assumption) (by omega) (by omega) (by omega) (by omega)).mono ?_; rintro e w' ⟨rfl, rfl⟩) | (go_at_call 38; refine (rdo_yes _ _ _ _ _ (by assumption) (by omega) (by omega) (by assumption)).mono ?_; rintro e w' ⟨rfl, hd1⟩) | (go_at_call 38; refine (rdo_nope _ _ _ _ _ (by assumption) (by omega) (by omega) (by assumption)).mono ?_; rintro e w' ⟨rfl, hd1⟩) | (go_at_call 40; refine (rSign_any _ _ _ (by omega) (by omega) (by omega) (by omega)).mono ?_; rintro e w' ⟨rfl, rfl⟩) | (go_at_call 39; refine (size_any _ _ (by omega) (by omega)).mono ?_; rintro e w' ⟨rfl, rfl⟩) | (go_at_call 47; refine (beyond_any _ _ _ _ (by omega) (by omega) (by omega) (by omega) (by omega) (by omega)).mono ?_; rintro e w' ⟨rfl, rfl⟩))
              go_ret2
              exact ⟨rfl, hd1⟩
            · have hv : (has 11 m a c && brk 11 fl m a c) = true := by rw [hh, hB, e0, e1, q3, q4] <;> rfl
              rw [hv]
              clear hv hB
              go_enter Try.func29, Try.ntmps29
              go_wp2_with (first | (go_at_call 37; refine (rtwo_ok _ _ _ _ _ (by assumption) (by omega) (by omega) (by omega) (by omega)).mono ?_; rintro e w' ⟨rfl, rfl⟩) | (go_at_call 38; refine (rdo_yes _ _ _ _ _ (by assumption) (by omega) (by omega) (by assumption)).mono ?_; rintro e w' ⟨rfl, hd1⟩) | (go_at_call 38; refine (rdo_nope _ _ _ _ _ (by assumption) (by omega) (by omega) (by assumption)).mono ?_; rintro e w' ⟨rfl, hd1⟩) | (go_at_call 40; refine (rSign_any _ _ _ (by omega) (by omega) (by omega) (by omega)).mono ?_; rintro e w' ⟨rfl, rfl⟩) | (go_at_call 39; refine (size_any _ _ (by omega) (by omega)).mono ?_; rintro e w' ⟨rfl, rfl⟩) | (go_at_call 47; refine (beyond_any _ _ _ _ (by omega) (by omega) (by omega) (by omega) (by omega) (by omega)).mono ?_; rintro e w' ⟨rfl, rfl⟩))
              go_ret2
              exact ⟨rfl, hd1⟩
          · have hv : (has 11 m a c && brk 11 fl m a c) = true := by rw [hh, hB, e0, e1, q3] <;> rfl
            rw [hv]
            clear hv hB
            go_enter Try.func29, Try.ntmps29
            go_wp2_with (first | (go_at_call 37; refine (rtwo_ok _ _ _ _ _ (by assumption) (by omega) (by omega) (by omega) (by omega)).mono ?_; rintro e w' ⟨rfl, rfl⟩) | (go_at_call 38; refine (rdo_yes _ _ _ _ _ (by assumption) (by omega) (by omega) (by assumption)).mono ?_; rintro e w' ⟨rfl, hd1⟩) | (go_at_call 38; refine (rdo_nope _ _ _ _ _ (by assumption) (by omega) (by omega) (by assumption)).mono ?_; rintro e w' ⟨rfl, hd1⟩) | (go_at_call 40; refine (rSign_any _ _ _ (by omega) (by omega) (by omega) (by omega)).mono ?_; rintro e w' ⟨rfl, rfl⟩) | (go_at_call 39; refine (size_any _ _ (by omega) (by omega)).mono ?_; rintro e w' ⟨rfl, rfl⟩) | (go_at_call 47; refine (beyond_any _ _ _ _ (by omega) (by omega) (by omega) (by omega) (by omega) (by omega)).mono ?_; rintro e w' ⟨rfl, rfl⟩))
            go_ret2
            exact ⟨rfl, hd1⟩
    · cases e1 : f1 fl
      · cases e2 : f2 fl
        · have j0 : (fl % 2 == 1) = true := by rw [← e0]; rfl
          have j1 : (fl / 2 % 2 == 1) = false := by rw [← e1]; rfl
          have j2 : (fl / 4 % 2 == 1) = false := by rw [← e2]; rfl
          cases q1 : bey a (pw c) (pw m - 1)
          · have hv : (has 11 m a c && brk 11 fl m a c) = false := by rw [hh, hB, e0, e1, q1] <;> rfl
            rw [hv]
            clear hv hB
            go_enter Try.func29, Try.ntmps29
            go_wp2_with (first | (go_at_call 37; refine (rtwo_ok _ _ _ _ _ (by assumption) (by omega) (by omega) (by omega) (by omega)).mono ?_; rintro e w' ⟨rfl, rfl⟩) | (go_at_call 38; refine (rdo_yes _ _ _ _ _ (by assumption) (by omega) (by omega) (by assumption)).mono ?_; rintro e w' ⟨rfl, hd1⟩) | (go_at_call 38; refine (rdo_nope _ _ _ _ _ (by assumption) (by omega) (by omega) (by assumption)).mono ?_; rintro e w' ⟨rfl, hd1⟩) | (go_at_call 40; refine (rSign_any _ _ _ (by omega) (by omega) (by omega) (by omega)).mono ?_; rintro e w' ⟨rfl, rfl⟩) | (go_at_call 39; refine (size_any _ _ (by omega) (by omega)).mono ?_; rintro e w' ⟨rfl, rfl⟩) | (go_at_call 47; refine (beyond_any _ _ _ _ (by omega) (by omega) (by omega) (by omega) (by omega) (by omega)).mono ?_; rintro e w' ⟨rfl, rfl⟩))
            go_ret2
            exact ⟨rfl, hd1⟩
          · have hv : (has 11 m a c && brk 11 fl m a c) = true := by rw [hh, hB, e0, e1, q1] <;> rfl
            rw [hv]
            clear hv hB
            go_enter Try.func29, Try.ntmps29
            go_wp2_with (first | (go_at_call 37; refine (rtwo_ok _ _ _ _ _ (by assumption) (by omega) (by omega) (by omega) (by omega)).mono ?_; rintro e w' ⟨rfl, rfl⟩) | (go_at_call 38; refine (rdo_yes _ _ _ _ _ (by assumption) (by omega) (by omega) (by assumption)).mono ?_; rintro e w' ⟨rfl, hd1⟩) | (go_at_call 38; refine (rdo_nope _ _ _ _ _ (by assumption) (by omega) (by omega) (by assumption)).mono ?_; rintro e w' ⟨rfl, hd1⟩) | (go_at_call 40; refine (rSign_any _ _ _ (by omega) (by omega) (by omega) (by omega)).mono ?_; rintro e w' ⟨rfl, rfl⟩) | (go_at_call 39; refine (size_any _ _ (by omega) (by omega)).mono ?_; rintro e w' ⟨rfl, rfl⟩) | (go_at_call 47; refine (beyond_any _ _ _ _ (by omega) (by omega) (by omega) (by omega) (by omega) (by omega)).mono ?_; rintro e w' ⟨rfl, rfl⟩))
            go_ret2
            exact ⟨rfl, hd1⟩
        · have j0 : (fl % 2 == 1) = true := by rw [← e0]; rfl
          have j1 : (fl / 2 % 2 == 1) = false := by rw [← e1]; rfl
          have j2 : (fl / 4 % 2 == 1) = true := by rw [← e2]; rfl
          cases q1 : bey a (pw c) (pw m - 1)
          · have hv : (has 11 m a c && brk 11 fl m a c) = false := by rw [hh, hB, e0, e1, q1] <;> rfl
            rw [hv]
            clear hv hB
            go_enter Try.func29, Try.ntmps29
            go_wp2_with (first | (go_at_call 37; refine (rtwo_ok _ _ _ _ _ (by assumption) (by omega) (by omega) (by omega) (by omega)).mono ?_; rintro e w' ⟨rfl, rfl⟩) | (go_at_call 38; refine (rdo_yes _ _ _ _ _ (by assumption) (by omega) (by omega) (by assumption)).mono ?_; rintro e w' ⟨rfl, hd1⟩) | (go_at_call 38; refine (rdo_nope _ _ _ _ _ (by assumption) (by omega) (by omega) (by assumption)).mono ?_; rintro e w' ⟨rfl, hd1⟩) | (go_at_call 40; refine (rSign_any _ _ _ (by omega) (by omega) (by omega) (by omega)).mono ?_; rintro e w' ⟨rfl, rfl⟩) | (go_at_call 39; refine (size_any _ _ (by omega) (by omega)).mono ?_; rintro e w' ⟨rfl, rfl⟩) | (go_at_call 47; refine (beyond_any _ _ _ _ (by omega) (by omega) (by omega) (by omega) (by omega) (by omega)).mono ?_; rintro e w' ⟨rfl, rfl⟩))
            go_ret2
            exact ⟨rfl, hd1⟩
          · have hv : (has 11 m a c && brk 11 fl m a c) = true := by rw [hh, hB, e0, e1, q1] <;> rfl
            rw [hv]
            clear hv hB
            go_enter Try.func29, Try.ntmps29
            go_wp2_with (first | (go_at_call 37; refine (rtwo_ok _ _ _ _ _ (by assumption) (by omega) (by omega) (by omega) (by omega)).mono ?_; rintro e w' ⟨rfl, rfl⟩) | (go_at_call 38; refine (rdo_yes _ _ _ _ _ (by assumption) (by omega) (by omega) (by assumption)).mono ?_; rintro e w' ⟨rfl, hd1⟩) | (go_at_call 38; refine (rdo_nope _ _ _ _ _ (by assumption) (by omega) (by omega) (by assumption)).mono ?_; rintro e w' ⟨rfl, hd1⟩) | (go_at_call 40; refine (rSign_any _ _ _ (by omega) (by omega) (by omega) (by omega)).mono ?_; rintro e w' ⟨rfl, rfl⟩) | (go_at_call 39; refine (size_any _ _ (by omega) (by omega)).mono ?_; rintro e w' ⟨rfl, rfl⟩) | (go_at_call 47; refine (beyond_any _ _ _ _ (by omega) (by omega) (by omega) (by omega) (by omega) (by omega)).mono ?_; rintro e w' ⟨rfl, rfl⟩))
            go_ret2
            exact ⟨rfl, hd1⟩
      · cases e2 : f2 fl
        · have j0 : (fl % 2 == 1) = true := by rw [← e0]; rfl
          have j1 : (fl / 2 % 2 == 1) = true := by rw [← e1]; rfl
          have j2 : (fl / 4 % 2 == 1) = false := by rw [← e2]; rfl
          cases q1 : bey a (pw c) (pw m - 1)
          · cases q3 : decide (sgn m a * pw c < -pw ((m : Int) - 1))
            · cases q4 : decide (pw ((m : Int) - 1) - 1 < sgn m a * pw c)
              · have hv : (has 11 m a c && brk 11 fl m a c) = false := by rw [hh, hB, e0, e1, q1, q3, q4] <;> rfl
                rw [hv]
                clear hv hB
                go_enter Try.func29, Try.ntmps29
                go_wp2_with (first | (go_at_call 37; refine (rtwo_ok _ _ _ _ _ (by assumption) (by omega) (by omega) (by omega) (by omega)).mono ?_; rintro e w' ⟨rfl, rfl⟩) | (go_at_call 38; refine (rdo_yes _ _ _ _ _ (by assumption) (by omega) (by omega) (by assumption)).mono ?_; rintro e w' ⟨rfl, hd1⟩) | (go_at_call 38; refine (rdo_nope _ _ _ _ _ (by assumption) (by omega) (by omega) (by assumption)).mono ?_; rintro e w' ⟨rfl, hd1⟩) | (go_at_call 40; refine (rSign_any _ _ _ (by omega) (by omega) (by omega) (by omega)).mono ?_; rintro e w' ⟨rfl, rfl⟩) | (go_at_call 39; refine (size_any _ _ (by omega) (by omega)).mono ?_; rintro e w' ⟨rfl, rfl⟩) | (go_at_call 47; refine (beyond_any _ _ _ _ (by omega) (by omega) (by omega) (by omega) (by omega) (by omega)).mono ?_; rintro e w' ⟨rfl, rfl⟩))
                go_ret2
                exact ⟨rfl, hd1⟩
              · have hv : (has 11 m a c && brk 11 fl m a c) = true := by rw [hh, hB, e0, e1, q1, q3, q4] <;> rfl
                rw [hv]
                clear hv hB
                go_enter Try.func29, Try.ntmps29
                go_wp2_with (first | (go_at_call 37; refine (rtwo_ok _ _ _ _ _ (by assumption) (by omega) (by omega) (by omega) (by omega)).mono ?_; rintro e w' ⟨rfl, rfl⟩) | (go_at_call 38; refine (rdo_yes _ _ _ _ _ (by assumption) (by omega) (by omega) (by assumption)).mono ?_; rintro e w' ⟨rfl, hd1⟩) | (go_at_call 38; refine (rdo_nope _ _ _ _ _ (by assumption) (by omega) (by omega) (by assumption)).mono ?_; rintro e w' ⟨rfl, hd1⟩) | (go_at_call 40; refine (rSign_any _ _ _ (by omega) (by omega) (by omega) (by omega)).mono ?_; rintro e w' ⟨rfl, rfl⟩) | (go_at_call 39; refine (size_any _ _ (by omega) (by omega)).mono ?_; rintro e w' ⟨rfl, rfl⟩) | (go_at_call 47; refine (beyond_any _ _ _ _ (by omega) (by omega) (by omega) (by omega) (by omega) (by omega)).mono ?_; rintro e w' ⟨rfl, rfl⟩))
                go_ret2
                exact ⟨rfl, hd1⟩
            · have hv : (has 11 m a c && brk 11 fl m a c) = true := by rw [hh, hB, e0, e1, q1, q3] <;> rfl
              rw [hv]
              clear hv hB
              go_enter Try.func29, Try.ntmps29
              go_wp2_with (first | (go_at_call 37; refine (rtwo_ok _ _ _ _ _ (by assumption) (by omega) (by omega) (by omega) (by omega)).mono ?_; rintro e w' ⟨rfl, rfl⟩) | (go_at_call 38; refine (rdo_yes _ _ _ _ _ (by assumption) (by omega) (by omega) (by assumption)).mono ?_; rintro e w' ⟨rfl, hd1⟩) | (go_at_call 38; refine (rdo_nope _ _ _ _ _ (by assumption) (by omega) (by omega) (by assumption)).mono ?_; rintro e w' ⟨rfl, hd1⟩) | (go_at_call 40; refine (rSign_any _ _ _ (by omega) (by omega) (by omega) (by omega)).mono ?_; rintro e w' ⟨rfl, rfl⟩) | (go_at_call 39; refine (size_any _ _ (by omega) (by omega)).mono ?_; rintro e w' ⟨rfl, rfl⟩) | (go_at_call 47; refine (beyond_any _ _ _ _ (by omega) (by omega) (by omega) (by omega) (by omega) (by omega)).mono ?_; rintro e w' ⟨rfl, rfl⟩))
              go_ret2
              exact ⟨rfl, hd1⟩
          · have hv : (has 11 m a c && brk 11 fl m a c) = true := by rw [hh, hB, e0, e1, q1] <;> rfl
            rw [hv]
            clear hv hB
            go_enter Try.func29, Try.ntmps29
            go_wp2_with (first | (go_at_call 37; refine (rtwo_ok _ _ _ _ _ (by assumption) (by omega) (by omega) (by omega) (by omega)).mono ?_; rintro e w' ⟨rfl, rfl⟩) | (go_at_call 38; refine (rdo_yes _ _ _ _ _ (by assumption) (by omega) (by omega) (by assumption)).mono ?_; rintro e w' ⟨rfl, hd1⟩) | (go_at_call 38; refine (rdo_nope _ _ _ _ _ (by assumption) (by omega) (by omega) (by assumption)).mono ?_; rintro e w' ⟨rfl, hd1⟩) | (go_at_call 40; refine (rSign_any _ _ _ (by omega) (by omega) (by omega) (by omega)).mono ?_; rintro e w' ⟨rfl, rfl⟩) | (go_at_call 39; refine (size_any _ _ (by omega) (by omega)).mono ?_; rintro e w' ⟨rfl, rfl⟩) | (go_at_call 47; refine (beyond_any _ _ _ _ (by omega) (by omega) (by omega) (by omega) (by omega) (by omega)).mono ?_; rintro e w' ⟨rfl, rfl⟩))
            go_ret2
            exact ⟨rfl, hd1⟩
        · have j0 : (fl % 2 == 1) = true := by rw [← e0]; rfl
          have j1 : (fl / 2 % 2 == 1) = true := by rw [← e1]; rfl
          have j2 : (fl / 4 % 2 == 1) = true := by rw [← e2]; rfl
          cases q1 : bey a (pw c) (pw m - 1)
          · cases q3 : decide (sgn m a * pw c < -pw ((m : Int) - 1))
            · cases q4 : decide (pw ((m : Int) - 1) - 1 < sgn m a * pw c)
              · have hv : (has 11 m a c && brk 11 fl m a c) = false := by rw [hh, hB, e0, e1, q1, q3, q4] <;> rfl
                rw [hv]
                clear hv hB
                go_enter Try.func29, Try.ntmps29
                go_wp2_with (first | (go_at_call 37; refine (rtwo_ok _ _ _ _ _ (by assumption) (by omega) (by omega) (by omega) (by omega)).mono ?_; rintro e w' ⟨rfl, rfl⟩) | (go_at_call 38; refine (rdo_yes _ _ _ _ _ (by assumption) (by omega) (by omega) (by assumption)).mono ?_; rintro e w' ⟨rfl, hd1⟩) | (go_at_call 38; refine (rdo_nope _ _ _ _ _ (by assumption) (by omega) (by omega) (by assumption)).mono ?_; rintro e w' ⟨rfl, hd1⟩) | (go_at_call 40; refine (rSign_any _ _ _ (by omega) (by omega) (by omega) (by omega)).mono ?_; rintro e w' ⟨rfl, rfl⟩) | (go_at_call 39; refine (size_any _ _ (by omega) (by omega)).mono ?_; rintro e w' ⟨rfl, rfl⟩) | (go_at_call 47; refine (beyond_any _ _ _ _ (by omega) (by omega) (by omega) (by omega) (by omega) (by omega)).mono ?_; rintro e w' ⟨rfl, rfl⟩))
                go_ret2
                exact ⟨rfl, hd1⟩
              · have hv : (has 11 m a c && brk 11 fl m a c) = true := by rw [hh, hB, e0, e1, q1, q3, q4] <;> rfl
                rw [hv]
                clear hv hB
                go_enter Try.func29, Try.ntmps29
                go_wp2_with (first | (go_at_call 37; refine (rtwo_ok _ _ _ _ _ (by assumption) (by omega) (by omega) (by omega) (by omega)).mono ?_; rintro e w' ⟨rfl, rfl⟩) | (go_at_call 38; refine (rdo_yes _ _ _ _ _ (by assumption) (by omega) (by omega) (by assumption)).mono ?_; rintro e w' ⟨rfl, hd1⟩) | (go_at_call 38; refine (rdo_nope _ _ _ _ _ (by assumption) (by omega) (by omega) (by assumption)).mono ?_; rintro e w' ⟨rfl, hd1⟩) | (go_at_call 40; refine (rSign_any _ _ _ (by omega) (by omega) (by omega) (by omega)).mono ?_; rintro e w' ⟨rfl, rfl⟩) | (go_at_call 39; refine (size_any _ _ (by omega) (by omega)).mono ?_; rintro e w' ⟨rfl, rfl⟩) | (go_at_call 47; refine (beyond_any _ _ _ _ (by omega) (by omega) (by omega) (by omega) (by omega) (by omega)).mono ?_; rintro e w' ⟨rfl, rfl⟩))
                go_ret2
                exact ⟨rfl, hd1⟩
            · have hv : (has 11 m a c && brk 11 fl m a c) = true := by rw [hh, hB, e0, e1, q1, q3] <;> rfl
              rw [hv]
              clear hv hB
              go_enter Try.func29, Try.ntmps29
              go_wp2_with (first | (go_at_call 37; refine (rtwo_ok _ _ _ _ _ (by assumption) (by omega) (by omega) (by omega) (by omega)).mono ?_; rintro e w' ⟨rfl, rfl⟩) | (go_at_call 38; refine (rdo_yes _ _ _ _ _ (by assumption) (by omega) (by omega) (by assumption)).mono ?_; rintro e w' ⟨rfl, hd1⟩) | (go_at_call 38; refine (rdo_nope _ _ _ _ _ (by assumption) (by omega) (by omega) (by assumption)).mono ?_; rintro e w' ⟨rfl, hd1⟩) | (go_at_call 40; refine (rSign_any _ _ _ (by omega) (by omega) (by omega) (by omega)).mono ?_; rintro e w' ⟨rfl, rfl⟩) | (go_at_call 39; refine (size_any _ _ (by omega) (by omega)).mono ?_; rintro e w' ⟨rfl, rfl⟩) | (go_at_call 47; refine (beyond_any _ _ _ _ (by omega) (by omega) (by omega) (by omega) (by omega) (by omega)).mono ?_; rintro e w' ⟨rfl, rfl⟩))
              go_ret2
              exact ⟨rfl, hd1⟩
          · have hv : (has 11 m a c && brk 11 fl m a c) = true := by rw [hh, hB, e0, e1, q1] <;> rfl
            rw [hv]
            clear hv hB
            go_enter Try.func29, Try.ntmps29
            go_wp2_with (first | (go_at_call 37; refine (rtwo_ok _ _ _ _ _ (by assumption) (by omega) (by omega) (by omega) (by omega)).mono ?_; rintro e w' ⟨rfl, rfl⟩) | (go_at_call 38; refine (rdo_yes _ _ _ _ _ (by assumption) (by omega) (by omega) (by assumption)).mono ?_; rintro e w' ⟨rfl, hd1⟩) | (go_at_call 38; refine (rdo_nope _ _ _ _ _ (by assumption) (by omega) (by omega) (by assumption)).mono ?_; rintro e w' ⟨rfl, hd1⟩) | (go_at_call 40; refine (rSign_any _ _ _ (by omega) (by omega) (by omega) (by omega)).mono ?_; rintro e w' ⟨rfl, rfl⟩) | (go_at_call 39; refine (size_any _ _ (by omega) (by omega)).mono ?_; rintro e w' ⟨rfl, rfl⟩) | (go_at_call 47; refine (beyond_any _ _ _ _ (by omega) (by omega) (by omega) (by omega) (by omega) (by omega)).mono ?_; rintro e w' ⟨rfl, rfl⟩))
            go_ret2
            exact ⟨rfl, hd1⟩

end Go.Proofs.Ytpgbepgbgpjmcaa
