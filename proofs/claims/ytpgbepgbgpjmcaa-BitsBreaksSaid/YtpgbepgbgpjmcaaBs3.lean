/- Breaks of the answer. -/
import Derived.Test.YtpgbepgbgpjmcaaBs1
import Derived.Test.YtpgbepgbgpjmcaaBd
import Derived.Test.YtpgbepgbgpjmcaaBf
import Derived.Test.YtpgbepgbgpjmcaaBrk
namespace Go.Proofs.Ytpgbepgbgpjmcaa
open Go.RowKit Wd
set_option linter.unusedVariables false
set_option linter.unusedSimpArgs false
set_option maxRecDepth 100000 in
set_option maxHeartbeats 16000000 in
theorem rBreaks_2 (fl n a b : Int) (w : World) (g : good 2 n a b = true) (h3 : 0 ≤ a) (h5 : 0 ≤ b) (f7 : 0 ≤ fl) (f8 : fl ≤ 7) : Calls Try.prog 29 #[.int .i64 2, .int .i64 fl, .int .i64 n, .int .u32 a, .int .u32 b] w fun e w' => e = .returned (.tuple #[.bool (has 2 n a b && brk 2 fl n a b), .int .i64 0]) ∧ Dr w w' := by
  obtain ⟨_, _, h1, h2, h4, h6⟩ := (good_iff _ _ _ _).1 g
  obtain ⟨m, rfl⟩ := Int.eq_ofNat_of_zero_le (show 0 ≤ n by omega)
  have hp := @pw_le32 (m : Int) (by omega)
  have hp0 := pw_pos (m : Int)
  have x1 := sgn_lo32 (n := m) (a := a) (by omega) (by omega) h3
  have x2 := sgn_hi32 (n := m) (a := a) (by omega) (by omega) h4
  have y1 := sgn_lo32 (n := m) (a := b) (by omega) (by omega) h5
  have y2 := sgn_hi32 (n := m) (a := b) (by omega) (by omega) h6
  have hp3 := @pw_le31 ((m : Int) - 1) (by omega)
  have hp4 := pw_pos ((m : Int) - 1)
  have hz := sgn_zero (n := m) (b := b) (by omega) h6
  have hpw : wrap64 ((2 : Int) ^ (m - 1)) = pw ((m : Int) - 1) := by
    have e : ((m : Int) - 1).toNat = m - 1 := by omega
    rw [← e]; exact IntWalk.wrap64_in (pw ((m : Int) - 1)) (by omega)
  have u1 : decide (fl < 0) = false := by simp; omega
  have u2 : decide (7 < fl) = false := by simp; omega
  clear hz
  have hU : brU 2 m a b = decide (a < b) := brU_2 _ _ _ h3 h4 h5
  have hS : brS 2 m a b = (decide (sgn m a - sgn m b < -pw ((m : Int) - 1)) || decide (pw ((m : Int) - 1) - 1 < sgn m a - sgn m b)) := by show (decide (sgn m a - sgn m b < -pw ((m : Int) - 1)) || decide (pw ((m : Int) - 1) ≤ sgn m a - sgn m b)) = _; rw [decide_eq_decide.2 (show pw ((m : Int) - 1) ≤ sgn m a - sgn m b ↔ pw ((m : Int) - 1) - 1 < sgn m a - sgn m b by omega)]
  have hB : brk 2 fl m a b = ((f0 fl && decide (a < b)) || (f1 fl && (decide (sgn m a - sgn m b < -pw ((m : Int) - 1)) || decide (pw ((m : Int) - 1) - 1 < sgn m a - sgn m b)))) := by rw [← hU, ← hS]; rfl
  clear hU hS
  have hh : has 2 m a b = true := rfl
  cases e0 : f0 fl
  · cases e1 : f1 fl
    · cases e2 : f2 fl
      · have j0 : (fl % 2 == 1) = false := by rw [← e0]; rfl
        have j1 : (fl / 2 % 2 == 1) = false := by rw [← e1]; rfl
        have j2 : (fl / 4 % 2 == 1) = false := by rw [← e2]; rfl
        have hv : (has 2 m a b && brk 2 fl m a b) = false := by rw [hh, hB, e0, e1] <;> rfl
        rw [hv]
        clear hv hB
        go_enter Try.func29, Try.ntmps29
        go_wp2_with (first | (go_at_call 37; refine (rtwo_ok _ _ _ _ _ (by assumption) (by omega) (by omega) (by omega) (by omega)).mono ?_; rintro e w' ⟨rfl, rfl⟩) | (go_at_call 38; refine (rdo_yes _ _ _ _ _ (by assumption) (by omega) (by omega) (by assumption)).mono ?_; rintro e w' ⟨rfl, hd1⟩) | (go_at_call 38; refine (rdo_nope _ _ _ _ _ (by assumption) (by omega) (by omega) (by assumption)).mono ?_; rintro e w' ⟨rfl, hd1⟩) | (go_at_call 40; refine (rSign_any _ _ _ (by omega) (by omega) (by omega) (by omega)).mono ?_; rintro e w' ⟨rfl, rfl⟩) | (go_at_call 39; refine (size_any _ _ (by omega) (by omega)).mono ?_; rintro e w' ⟨rfl, rfl⟩) | (go_at_call 47; refine (beyond_any _ _ _ _ (by omega) (by omega) (by omega) (by omega) (by omega) (by omega)).mono ?_; rintro e w' ⟨rfl, rfl⟩))
        go_ret2
        exact ⟨rfl, hd1⟩
      · have j0 : (fl % 2 == 1) = false := by rw [← e0]; rfl
        have j1 : (fl / 2 % 2 == 1) = false := by rw [← e1]; rfl
        have j2 : (fl / 4 % 2 == 1) = true := by rw [← e2]; rfl
        have hv : (has 2 m a b && brk 2 fl m a b) = false := by rw [hh, hB, e0, e1] <;> rfl
        rw [hv]
        clear hv hB
        go_enter Try.func29, Try.ntmps29
        go_wp2_with (first | (go_at_call 37; refine (rtwo_ok _ _ _ _ _ (by assumption) (by omega) (by omega) (by omega) (by omega)).mono ?_; rintro e w' ⟨rfl, rfl⟩) | (go_at_call 38; refine (rdo_yes _ _ _ _ _ (by assumption) (by omega) (by omega) (by assumption)).mono ?_; rintro e w' ⟨rfl, hd1⟩) | (go_at_call 38; refine (rdo_nope _ _ _ _ _ (by assumption) (by omega) (by omega) (by assumption)).mono ?_; rintro e w' ⟨rfl, hd1⟩) | (go_at_call 40; refine (rSign_any _ _ _ (by omega) (by omega) (by omega) (by omega)).mono ?_; rintro e w' ⟨rfl, rfl⟩) | (go_at_call 39; refine (size_any _ _ (by omega) (by omega)).mono ?_; rintro e w' ⟨rfl, rfl⟩) | (go_at_call 47; refine (beyond_any _ _ _ _ (by omega) (by omega) (by omega) (by omega) (by omega) (by omega)).mono ?_; rintro e w' ⟨rfl, rfl⟩))
        go_ret2
        exact ⟨rfl, hd1⟩
    · cases e2 : f2 fl
      · have j0 : (fl % 2 == 1) = false := by rw [← e0]; rfl
        have j1 : (fl / 2 % 2 == 1) = true := by rw [← e1]; rfl
        have j2 : (fl / 4 % 2 == 1) = false := by rw [← e2]; rfl
        cases q3 : decide (sgn m a - sgn m b < -pw ((m : Int) - 1))
        · cases q4 : decide (pw ((m : Int) - 1) - 1 < sgn m a - sgn m b)
          · have hv : (has 2 m a b && brk 2 fl m a b) = false := by rw [hh, hB, e0, e1, q3, q4] <;> rfl
            rw [hv]
            clear hv hB
            go_enter Try.func29, Try.ntmps29
            go_wp2_with (first | (go_at_call 37; refine (rtwo_ok _ _ _ _ _ (by assumption) (by omega) (by omega) (by omega) (by omega)).mono ?_; rintro e w' ⟨rfl, rfl⟩) | (go_at_call 38; refine (rdo_yes _ _ _ _ _ (by assumption) (by omega) (by omega) (by assumption)).mono ?_; rintro e w' ⟨rfl, hd1⟩) | (go_at_call 38; refine (rdo_nope _ _ _ _ _ (by assumption) (by omega) (by omega) (by assumption)).mono ?_; rintro e w' ⟨rfl, hd1⟩) | (go_at_call 40; refine (rSign_any _ _ _ (by omega) (by omega) (by omega) (by omega)).mono ?_; rintro e w' ⟨rfl, rfl⟩) | (go_at_call 39; refine (size_any _ _ (by omega) (by omega)).mono ?_; rintro e w' ⟨rfl, rfl⟩) | (go_at_call 47; refine (beyond_any _ _ _ _ (by omega) (by omega) (by omega) (by omega) (by omega) (by omega)).mono ?_; rintro e w' ⟨rfl, rfl⟩))
            go_ret2
            exact ⟨rfl, hd1⟩
          · have hv : (has 2 m a b && brk 2 fl m a b) = true := by rw [hh, hB, e0, e1, q3, q4] <;> rfl
            rw [hv]
            clear hv hB
            go_enter Try.func29, Try.ntmps29
            go_wp2_with (first | (go_at_call 37; refine (rtwo_ok _ _ _ _ _ (by assumption) (by omega) (by omega) (by omega) (by omega)).mono ?_; rintro e w' ⟨rfl, rfl⟩) | (go_at_call 38; refine (rdo_yes _ _ _ _ _ (by assumption) (by omega) (by omega) (by assumption)).mono ?_; rintro e w' ⟨rfl, hd1⟩) | (go_at_call 38; refine (rdo_nope _ _ _ _ _ (by assumption) (by omega) (by omega) (by assumption)).mono ?_; rintro e w' ⟨rfl, hd1⟩) | (go_at_call 40; refine (rSign_any _ _ _ (by omega) (by omega) (by omega) (by omega)).mono ?_; rintro e w' ⟨rfl, rfl⟩) | (go_at_call 39; refine (size_any _ _ (by omega) (by omega)).mono ?_; rintro e w' ⟨rfl, rfl⟩) | (go_at_call 47; refine (beyond_any _ _ _ _ (by omega) (by omega) (by omega) (by omega) (by omega) (by omega)).mono ?_; rintro e w' ⟨rfl, rfl⟩))
            go_ret2
            exact ⟨rfl, hd1⟩
        · have hv : (has 2 m a b && brk 2 fl m a b) = true := by rw [hh, hB, e0, e1, q3] <;> rfl
          rw [hv]
          clear hv hB
          go_enter Try.func29, Try.ntmps29
          go_wp2_with (first | (go_at_call 37; refine (rtwo_ok _ _ _ _ _ (by assumption) (by omega) (by omega) (by omega) (by omega)).mono ?_; rintro e w' ⟨rfl, rfl⟩) | (go_at_call 38; refine (rdo_yes _ _ _ _ _ (by assumption) (by omega) (by omega) (by assumption)).mono ?_; rintro e w' ⟨rfl, hd1⟩) | (go_at_call 38; refine (rdo_nope _ _ _ _ _ (by assumption) (by omega) (by omega) (by assumption)).mono ?_; rintro e w' ⟨rfl, hd1⟩) | (go_at_call 40; refine (rSign_any _ _ _ (by omega) (by omega) (by omega) (by omega)).mono ?_; rintro e w' ⟨rfl, rfl⟩) | (go_at_call 39; refine (size_any _ _ (by omega) (by omega)).mono ?_; rintro e w' ⟨rfl, rfl⟩) | (go_at_call 47; refine (beyond_any _ _ _ _ (by omega) (by omega) (by omega) (by omega) (by omega) (by omega)).mono ?_; rintro e w' ⟨rfl, rfl⟩))
          go_ret2
          exact ⟨rfl, hd1⟩
      · have j0 : (fl % 2 == 1) = false := by rw [← e0]; rfl
        have j1 : (fl / 2 % 2 == 1) = true := by rw [← e1]; rfl
        have j2 : (fl / 4 % 2 == 1) = true := by rw [← e2]; rfl
        cases q3 : decide (sgn m a - sgn m b < -pw ((m : Int) - 1))
        · cases q4 : decide (pw ((m : Int) - 1) - 1 < sgn m a - sgn m b)
          · have hv : (has 2 m a b && brk 2 fl m a b) = false := by rw [hh, hB, e0, e1, q3, q4] <;> rfl
            rw [hv]
            clear hv hB
            go_enter Try.func29, Try.ntmps29
            go_wp2_with (first | (go_at_call 37; refine (rtwo_ok _ _ _ _ _ (by assumption) (by omega) (by omega) (by omega) (by omega)).mono ?_; rintro e w' ⟨rfl, rfl⟩) | (go_at_call 38; refine (rdo_yes _ _ _ _ _ (by assumption) (by omega) (by omega) (by assumption)).mono ?_; rintro e w' ⟨rfl, hd1⟩) | (go_at_call 38; refine (rdo_nope _ _ _ _ _ (by assumption) (by omega) (by omega) (by assumption)).mono ?_; rintro e w' ⟨rfl, hd1⟩) | (go_at_call 40; refine (rSign_any _ _ _ (by omega) (by omega) (by omega) (by omega)).mono ?_; rintro e w' ⟨rfl, rfl⟩) | (go_at_call 39; refine (size_any _ _ (by omega) (by omega)).mono ?_; rintro e w' ⟨rfl, rfl⟩) | (go_at_call 47; refine (beyond_any _ _ _ _ (by omega) (by omega) (by omega) (by omega) (by omega) (by omega)).mono ?_; rintro e w' ⟨rfl, rfl⟩))
            go_ret2
            exact ⟨rfl, hd1⟩
          · have hv : (has 2 m a b && brk 2 fl m a b) = true := by rw [hh, hB, e0, e1, q3, q4] <;> rfl
            rw [hv]
            clear hv hB
            go_enter Try.func29, Try.ntmps29
            go_wp2_with (first | (go_at_call 37; refine (rtwo_ok _ _ _ _ _ (by assumption) (by omega) (by omega) (by omega) (by omega)).mono ?_; rintro e w' ⟨rfl, rfl⟩) | (go_at_call 38; refine (rdo_yes _ _ _ _ _ (by assumption) (by omega) (by omega) (by assumption)).mono ?_; rintro e w' ⟨rfl, hd1⟩) | (go_at_call 38; refine (rdo_nope _ _ _ _ _ (by assumption) (by omega) (by omega) (by assumption)).mono ?_; rintro e w' ⟨rfl, hd1⟩) | (go_at_call 40; refine (rSign_any _ _ _ (by omega) (by omega) (by omega) (by omega)).mono ?_; rintro e w' ⟨rfl, rfl⟩) | (go_at_call 39; refine (size_any _ _ (by omega) (by omega)).mono ?_; rintro e w' ⟨rfl, rfl⟩) | (go_at_call 47; refine (beyond_any _ _ _ _ (by omega) (by omega) (by omega) (by omega) (by omega) (by omega)).mono ?_; rintro e w' ⟨rfl, rfl⟩))
            go_ret2
            exact ⟨rfl, hd1⟩
        · have hv : (has 2 m a b && brk 2 fl m a b) = true := by rw [hh, hB, e0, e1, q3] <;> rfl
          rw [hv]
          clear hv hB
          go_enter Try.func29, Try.ntmps29
          go_wp2_with (first | (go_at_call 37; refine (rtwo_ok _ _ _ _ _ (by assumption) (by omega) (by omega) (by omega) (by omega)).mono ?_; rintro e w' ⟨rfl, rfl⟩) | (go_at_call 38; refine (rdo_yes _ _ _ _ _ (by assumption) (by omega) (by omega) (by assumption)).mono ?_; rintro e w' ⟨rfl, hd1⟩) | (go_at_call 38; refine (rdo_nope _ _ _ _ _ (by assumption) (by omega) (by omega) (by assumption)).mono ?_; rintro e w' ⟨rfl, hd1⟩) | (go_at_call 40; refine (rSign_any _ _ _ (by omega) (by omega) (by omega) (by omega)).mono ?_; rintro e w' ⟨rfl, rfl⟩) | (go_at_call 39; refine (size_any _ _ (by omega) (by omega)).mono ?_; rintro e w' ⟨rfl, rfl⟩) | (go_at_call 47; refine (beyond_any _ _ _ _ (by omega) (by omega) (by omega) (by omega) (by omega) (by omega)).mono ?_; rintro e w' ⟨rfl, rfl⟩))
          go_ret2
          exact ⟨rfl, hd1⟩
  · cases e1 : f1 fl
    · cases e2 : f2 fl
      · have j0 : (fl % 2 == 1) = true := by rw [← e0]; rfl
        have j1 : (fl / 2 % 2 == 1) = false := by rw [← e1]; rfl
        have j2 : (fl / 4 % 2 == 1) = false := by rw [← e2]; rfl
        cases q1 : decide (a < b)
        · have hv : (has 2 m a b && brk 2 fl m a b) = false := by rw [hh, hB, e0, e1, q1] <;> rfl
          rw [hv]
          clear hv hB
          go_enter Try.func29, Try.ntmps29
          go_wp2_with (first | (go_at_call 37; refine (rtwo_ok _ _ _ _ _ (by assumption) (by omega) (by omega) (by omega) (by omega)).mono ?_; rintro e w' ⟨rfl, rfl⟩) | (go_at_call 38; refine (rdo_yes _ _ _ _ _ (by assumption) (by omega) (by omega) (by assumption)).mono ?_; rintro e w' ⟨rfl, hd1⟩) | (go_at_call 38; refine (rdo_nope _ _ _ _ _ (by assumption) (by omega) (by omega) (by assumption)).mono ?_; rintro e w' ⟨rfl, hd1⟩) | (go_at_call 40; refine (rSign_any _ _ _ (by omega) (by omega) (by omega) (by omega)).mono ?_; rintro e w' ⟨rfl, rfl⟩) | (go_at_call 39; refine (size_any _ _ (by omega) (by omega)).mono ?_; rintro e w' ⟨rfl, rfl⟩) | (go_at_call 47; refine (beyond_any _ _ _ _ (by omega) (by omega) (by omega) (by omega) (by omega) (by omega)).mono ?_; rintro e w' ⟨rfl, rfl⟩))
          go_ret2
          exact ⟨rfl, hd1⟩
        · have hv : (has 2 m a b && brk 2 fl m a b) = true := by rw [hh, hB, e0, e1, q1] <;> rfl
          rw [hv]
          clear hv hB
          go_enter Try.func29, Try.ntmps29
          go_wp2_with (first | (go_at_call 37; refine (rtwo_ok _ _ _ _ _ (by assumption) (by omega) (by omega) (by omega) (by omega)).mono ?_; rintro e w' ⟨rfl, rfl⟩) | (go_at_call 38; refine (rdo_yes _ _ _ _ _ (by assumption) (by omega) (by omega) (by assumption)).mono ?_; rintro e w' ⟨rfl, hd1⟩) | (go_at_call 38; refine (rdo_nope _ _ _ _ _ (by assumption) (by omega) (by omega) (by assumption)).mono ?_; rintro e w' ⟨rfl, hd1⟩) | (go_at_call 40; refine (rSign_any _ _ _ (by omega) (by omega) (by omega) (by omega)).mono ?_; rintro e w' ⟨rfl, rfl⟩) | (go_at_call 39; refine (size_any _ _ (by omega) (by omega)).mono ?_; rintro e w' ⟨rfl, rfl⟩) | (go_at_call 47; refine (beyond_any _ _ _ _ (by omega) (by omega) (by omega) (by omega) (by omega) (by omega)).mono ?_; rintro e w' ⟨rfl, rfl⟩))
          go_ret2
          exact ⟨rfl, hd1⟩
      · have j0 : (fl % 2 == 1) = true := by rw [← e0]; rfl
        have j1 : (fl / 2 % 2 == 1) = false := by rw [← e1]; rfl
        have j2 : (fl / 4 % 2 == 1) = true := by rw [← e2]; rfl
        cases q1 : decide (a < b)
        · have hv : (has 2 m a b && brk 2 fl m a b) = false := by rw [hh, hB, e0, e1, q1] <;> rfl
          rw [hv]
          clear hv hB
          go_enter Try.func29, Try.ntmps29
          go_wp2_with (first | (go_at_call 37; refine (rtwo_ok _ _ _ _ _ (by assumption) (by omega) (by omega) (by omega) (by omega)).mono ?_; rintro e w' ⟨rfl, rfl⟩) | (go_at_call 38; refine (rdo_yes _ _ _ _ _ (by assumption) (by omega) (by omega) (by assumption)).mono ?_; rintro e w' ⟨rfl, hd1⟩) | (go_at_call 38; refine (rdo_nope _ _ _ _ _ (by assumption) (by omega) (by omega) (by assumption)).mono ?_; rintro e w' ⟨rfl, hd1⟩) | (go_at_call 40; refine (rSign_any _ _ _ (by omega) (by omega) (by omega) (by omega)).mono ?_; rintro e w' ⟨rfl, rfl⟩) | (go_at_call 39; refine (size_any _ _ (by omega) (by omega)).mono ?_; rintro e w' ⟨rfl, rfl⟩) | (go_at_call 47; refine (beyond_any _ _ _ _ (by omega) (by omega) (by omega) (by omega) (by omega) (by omega)).mono ?_; rintro e w' ⟨rfl, rfl⟩))
          go_ret2
          exact ⟨rfl, hd1⟩
        · have hv : (has 2 m a b && brk 2 fl m a b) = true := by rw [hh, hB, e0, e1, q1] <;> rfl
          rw [hv]
          clear hv hB
          go_enter Try.func29, Try.ntmps29
          go_wp2_with (first | (go_at_call 37; refine (rtwo_ok _ _ _ _ _ (by assumption) (by omega) (by omega) (by omega) (by omega)).mono ?_; rintro e w' ⟨rfl, rfl⟩) | (go_at_call 38; refine (rdo_yes _ _ _ _ _ (by assumption) (by omega) (by omega) (by assumption)).mono ?_; rintro e w' ⟨rfl, hd1⟩) | (go_at_call 38; refine (rdo_nope _ _ _ _ _ (by assumption) (by omega) (by omega) (by assumption)).mono ?_; rintro e w' ⟨rfl, hd1⟩) | (go_at_call 40; refine (rSign_any _ _ _ (by omega) (by omega) (by omega) (by omega)).mono ?_; rintro e w' ⟨rfl, rfl⟩) | (go_at_call 39; refine (size_any _ _ (by omega) (by omega)).mono ?_; rintro e w' ⟨rfl, rfl⟩) | (go_at_call 47; refine (beyond_any _ _ _ _ (by omega) (by omega) (by omega) (by omega) (by omega) (by omega)).mono ?_; rintro e w' ⟨rfl, rfl⟩))
          go_ret2
          exact ⟨rfl, hd1⟩
    · cases e2 : f2 fl
      · have j0 : (fl % 2 == 1) = true := by rw [← e0]; rfl
        have j1 : (fl / 2 % 2 == 1) = true := by rw [← e1]; rfl
        have j2 : (fl / 4 % 2 == 1) = false := by rw [← e2]; rfl
        cases q1 : decide (a < b)
        · cases q3 : decide (sgn m a - sgn m b < -pw ((m : Int) - 1))
          · cases q4 : decide (pw ((m : Int) - 1) - 1 < sgn m a - sgn m b)
            · have hv : (has 2 m a b && brk 2 fl m a b) = false := by rw [hh, hB, e0, e1, q1, q3, q4] <;> rfl
              rw [hv]
              clear hv hB
              go_enter Try.func29, Try.ntmps29
              go_wp2_with (first | (go_at_call 37; refine (rtwo_ok _ _ _ _ _ (by assumption) (by omega) (by omega) (by omega) (by omega)).mono ?_; rintro e w' ⟨rfl, rfl⟩) | (go_at_call 38; refine (rdo_yes _ _ _ _ _ (by assumption) (by omega) (by omega) (by assumption)).mono ?_; rintro e w' ⟨rfl, hd1⟩) | (go_at_call 38; refine (rdo_nope _ _ _ _ _ (by assumption) (by omega) (by omega) (by assumption)).mono ?_; rintro e w' ⟨rfl, hd1⟩) | (go_at_call 40; refine (rSign_any _ _ _ (by omega) (by omega) (by omega) (by omega)).mono ?_; rintro e w' ⟨rfl, rfl⟩) | (go_at_call 39; refine (size_any _ _ (by omega) (by omega)).mono ?_; rintro e w' ⟨rfl, rfl⟩) | (go_at_call 47; refine (beyond_any _ _ _ _ (by omega) (by omega) (by omega) (by omega) (by omega) (by omega)).mono ?_; rintro e w' ⟨rfl, rfl⟩))
              go_ret2
              exact ⟨rfl, hd1⟩
            · have hv : (has 2 m a b && brk 2 fl m a b) = true := by rw [hh, hB, e0, e1, q1, q3, q4] <;> rfl
              rw [hv]
              clear hv hB
              go_enter Try.func29, Try.ntmps29
              go_wp2_with (first | (go_at_call 37; refine (rtwo_ok _ _ _ _ _ (by assumption) (by omega) (by omega) (by omega) (by omega)).mono ?_; rintro e w' ⟨rfl, rfl⟩) | (go_at_call 38; refine (rdo_yes _ _ _ _ _ (by assumption) (by omega) (by omega) (by assumption)).mono ?_; rintro e w' ⟨rfl, hd1⟩) | (go_at_call 38; refine (rdo_nope _ _ _ _ _ (by assumption) (by omega) (by omega) (by assumption)).mono ?_; rintro e w' ⟨rfl, hd1⟩) | (go_at_call 40; refine (rSign_any _ _ _ (by omega) (by omega) (by omega) (by omega)).mono ?_; rintro e w' ⟨rfl, rfl⟩) | (go_at_call 39; refine (size_any _ _ (by omega) (by omega)).mono ?_; rintro e w' ⟨rfl, rfl⟩) | (go_at_call 47; refine (beyond_any _ _ _ _ (by omega) (by omega) (by omega) (by omega) (by omega) (by omega)).mono ?_; rintro e w' ⟨rfl, rfl⟩))
              go_ret2
              exact ⟨rfl, hd1⟩
          · have hv : (has 2 m a b && brk 2 fl m a b) = true := by rw [hh, hB, e0, e1, q1, q3] <;> rfl
            rw [hv]
            clear hv hB
            go_enter Try.func29, Try.ntmps29
            go_wp2_with (first | (go_at_call 37; refine (rtwo_ok _ _ _ _ _ (by assumption) (by omega) (by omega) (by omega) (by omega)).mono ?_; rintro e w' ⟨rfl, rfl⟩) | (go_at_call 38; refine (rdo_yes _ _ _ _ _ (by assumption) (by omega) (by omega) (by assumption)).mono ?_; rintro e w' ⟨rfl, hd1⟩) | (go_at_call 38; refine (rdo_nope _ _ _ _ _ (by assumption) (by omega) (by omega) (by assumption)).mono ?_; rintro e w' ⟨rfl, hd1⟩) | (go_at_call 40; refine (rSign_any _ _ _ (by omega) (by omega) (by omega) (by omega)).mono ?_; rintro e w' ⟨rfl, rfl⟩) | (go_at_call 39; refine (size_any _ _ (by omega) (by omega)).mono ?_; rintro e w' ⟨rfl, rfl⟩) | (go_at_call 47; refine (beyond_any _ _ _ _ (by omega) (by omega) (by omega) (by omega) (by omega) (by omega)).mono ?_; rintro e w' ⟨rfl, rfl⟩))
            go_ret2
            exact ⟨rfl, hd1⟩
        · have hv : (has 2 m a b && brk 2 fl m a b) = true := by rw [hh, hB, e0, e1, q1] <;> rfl
          rw [hv]
          clear hv hB
          go_enter Try.func29, Try.ntmps29
          go_wp2_with (first | (go_at_call 37; refine (rtwo_ok _ _ _ _ _ (by assumption) (by omega) (by omega) (by omega) (by omega)).mono ?_; rintro e w' ⟨rfl, rfl⟩) | (go_at_call 38; refine (rdo_yes _ _ _ _ _ (by assumption) (by omega) (by omega) (by assumption)).mono ?_; rintro e w' ⟨rfl, hd1⟩) | (go_at_call 38; refine (rdo_nope _ _ _ _ _ (by assumption) (by omega) (by omega) (by assumption)).mono ?_; rintro e w' ⟨rfl, hd1⟩) | (go_at_call 40; refine (rSign_any _ _ _ (by omega) (by omega) (by omega) (by omega)).mono ?_; rintro e w' ⟨rfl, rfl⟩) | (go_at_call 39; refine (size_any _ _ (by omega) (by omega)).mono ?_; rintro e w' ⟨rfl, rfl⟩) | (go_at_call 47; refine (beyond_any _ _ _ _ (by omega) (by omega) (by omega) (by omega) (by omega) (by omega)).mono ?_; rintro e w' ⟨rfl, rfl⟩))
          go_ret2
          exact ⟨rfl, hd1⟩
      · have j0 : (fl % 2 == 1) = true := by rw [← e0]; rfl
        have j1 : (fl / 2 % 2 == 1) = true := by rw [← e1]; rfl
        have j2 : (fl / 4 % 2 == 1) = true := by rw [← e2]; rfl
        cases q1 : decide (a < b)
        · cases q3 : decide (sgn m a - sgn m b < -pw ((m : Int) - 1))
          · cases q4 : decide (pw ((m : Int) - 1) - 1 < sgn m a - sgn m b)
            · have hv : (has 2 m a b && brk 2 fl m a b) = false := by rw [hh, hB, e0, e1, q1, q3, q4] <;> rfl
              rw [hv]
              clear hv hB
              go_enter Try.func29, Try.ntmps29
              go_wp2_with (first | (go_at_call 37; refine (rtwo_ok _ _ _ _ _ (by assumption) (by omega) (by omega) (by omega) (by omega)).mono ?_; rintro e w' ⟨rfl, rfl⟩) | (go_at_call 38; refine (rdo_yes _ _ _ _ _ (by assumption) (by omega) (by omega) (by assumption)).mono ?_; rintro e w' ⟨rfl, hd1⟩) | (go_at_call 38; refine (rdo_nope _ _ _ _ _ (by assumption) (by omega) (by omega) (by assumption)).mono ?_; rintro e w' ⟨rfl, hd1⟩) | (go_at_call 40; refine (rSign_any _ _ _ (by omega) (by omega) (by omega) (by omega)).mono ?_; rintro e w' ⟨rfl, rfl⟩) | (go_at_call 39; refine (size_any _ _ (by omega) (by omega)).mono ?_; rintro e w' ⟨rfl, rfl⟩) | (go_at_call 47; refine (beyond_any _ _ _ _ (by omega) (by omega) (by omega) (by omega) (by omega) (by omega)).mono ?_; rintro e w' ⟨rfl, rfl⟩))
              go_ret2
              exact ⟨rfl, hd1⟩
            · have hv : (has 2 m a b && brk 2 fl m a b) = true := by rw [hh, hB, e0, e1, q1, q3, q4] <;> rfl
              rw [hv]
              clear hv hB
              go_enter Try.func29, Try.ntmps29
              go_wp2_with (first | (go_at_call 37; refine (rtwo_ok _ _ _ _ _ (by assumption) (by omega) (by omega) (by omega) (by omega)).mono ?_; rintro e w' ⟨rfl, rfl⟩) | (go_at_call 38; refine (rdo_yes _ _ _ _ _ (by assumption) (by omega) (by omega) (by assumption)).mono ?_; rintro e w' ⟨rfl, hd1⟩) | (go_at_call 38; refine (rdo_nope _ _ _ _ _ (by assumption) (by omega) (by omega) (by assumption)).mono ?_; rintro e w' ⟨rfl, hd1⟩) | (go_at_call 40; refine (rSign_any _ _ _ (by omega) (by omega) (by omega) (by omega)).mono ?_; rintro e w' ⟨rfl, rfl⟩) | (go_at_call 39; refine (size_any _ _ (by omega) (by omega)).mono ?_; rintro e w' ⟨rfl, rfl⟩) | (go_at_call 47; refine (beyond_any _ _ _ _ (by omega) (by omega) (by omega) (by omega) (by omega) (by omega)).mono ?_; rintro e w' ⟨rfl, rfl⟩))
              go_ret2
              exact ⟨rfl, hd1⟩
          · have hv : (has 2 m a b && brk 2 fl m a b) = true := by rw [hh, hB, e0, e1, q1, q3] <;> rfl
            rw [hv]
            clear hv hB
            go_enter Try.func29, Try.ntmps29
            go_wp2_with (first | (go_at_call 37; refine (rtwo_ok _ _ _ _ _ (by assumption) (by omega) (by omega) (by omega) (by omega)).mono ?_; rintro e w' ⟨rfl, rfl⟩) | (go_at_call 38; refine (rdo_yes _ _ _ _ _ (by assumption) (by omega) (by omega) (by assumption)).mono ?_; rintro e w' ⟨rfl, hd1⟩) | (go_at_call 38; refine (rdo_nope _ _ _ _ _ (by assumption) (by omega) (by omega) (by assumption)).mono ?_; rintro e w' ⟨rfl, hd1⟩) | (go_at_call 40; refine (rSign_any _ _ _ (by omega) (by omega) (by omega) (by omega)).mono ?_; rintro e w' ⟨rfl, rfl⟩) | (go_at_call 39; refine (size_any _ _ (by omega) (by omega)).mono ?_; rintro e w' ⟨rfl, rfl⟩) | (go_at_call 47; refine (beyond_any _ _ _ _ (by omega) (by omega) (by omega) (by omega) (by omega) (by omega)).mono ?_; rintro e w' ⟨rfl, rfl⟩))
            go_ret2
            exact ⟨rfl, hd1⟩
        · have hv : (has 2 m a b && brk 2 fl m a b) = true := by rw [hh, hB, e0, e1, q1] <;> rfl
          rw [hv]
          clear hv hB
          go_enter Try.func29, Try.ntmps29
          go_wp2_with (first | (go_at_call 37; refine (rtwo_ok _ _ _ _ _ (by assumption) (by omega) (by omega) (by omega) (by omega)).mono ?_; rintro e w' ⟨rfl, rfl⟩) | (go_at_call 38; refine (rdo_yes _ _ _ _ _ (by assumption) (by omega) (by omega) (by assumption)).mono ?_; rintro e w' ⟨rfl, hd1⟩) | (go_at_call 38; refine (rdo_nope _ _ _ _ _ (by assumption) (by omega) (by omega) (by assumption)).mono ?_; rintro e w' ⟨rfl, hd1⟩) | (go_at_call 40; refine (rSign_any _ _ _ (by omega) (by omega) (by omega) (by omega)).mono ?_; rintro e w' ⟨rfl, rfl⟩) | (go_at_call 39; refine (size_any _ _ (by omega) (by omega)).mono ?_; rintro e w' ⟨rfl, rfl⟩) | (go_at_call 47; refine (beyond_any _ _ _ _ (by omega) (by omega) (by omega) (by omega) (by omega) (by omega)).mono ?_; rintro e w' ⟨rfl, rfl⟩))
          go_ret2
          exact ⟨rfl, hd1⟩

end Go.Proofs.Ytpgbepgbgpjmcaa
