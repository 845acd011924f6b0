/- Walks of backstayref01.two, do, Do, Total: what each returns, said of numbers. -/
import Derived.Test.YthopdfikikdcbaaBb
namespace Go.Proofs.Ythopdfikikdcbaa
open Go.RowKit Wd
/-- What do returns of right operands. -/
def DoIs (op n a b : Int) (w : World) (e : Ending) (w' : World) : Prop := e = .returned (.tuple #[.int .u32 (if has op n a b then tot op n a b else 0), .bool (has op n a b)]) ∧ Dr w w'
theorem do_is {op n a b x : Int} {w w' : World} (h : has op n a b = true) (e : tot op n a b = x) (d : Dr w w') : DoIs op n a b w (.returned (.tuple #[.int .u32 x, .bool true])) w' := ⟨by rw [h, ← e]; rfl, d⟩
theorem do_not {op n a b : Int} {w w' : World} (h : has op n a b = false) (d : Dr w w') : DoIs op n a b w (.returned (.tuple #[.int .u32 0, .bool false])) w' := ⟨by rw [h]; rfl, d⟩

set_option maxHeartbeats 1000000 in
theorem rdo_1 (n a b : Int) (w : World) (h1 : 1 ≤ n) (h2 : n ≤ 32) (h3 : 0 ≤ a) (h4 : a < pw n) (h5 : 0 ≤ b) (h6 : b < pw n) : Calls Try.prog 114 #[.int .i64 1, .int .i64 n, .int .u32 a, .int .u32 b] w (DoIs 1 n a b w) := by
  obtain ⟨m, rfl⟩ := Int.eq_ofNat_of_zero_le (show 0 ≤ n by omega)
  have hp := @pw_le32 (m : Int) (by omega)
  have x1 := sgn_lo32 (n := m) (a := a) (by omega) (by omega) h3
  have x2 := sgn_hi32 (n := m) (a := a) (by omega) (by omega) h4
  have y1 := sgn_lo32 (n := m) (a := b) (by omega) (by omega) h5
  have y2 := sgn_hi32 (n := m) (a := b) (by omega) (by omega) h6
  go_enter Try.func114, Try.ntmps114
  go_wp2_with (first | (go_at_call 111; refine (rSign_any _ _ _ (by omega) (by omega) (by omega) (by omega)).mono ?_; rintro e w' ⟨rfl, rfl⟩) | (go_at_call 112; refine (rWrap_any _ _ _ (by omega) (by omega) (by omega) (by omega)).mono ?_; rintro e w' ⟨rfl, rfl⟩) | (go_at_call 108; refine (size_any _ _ (by omega) (by omega)).mono ?_; rintro e w' ⟨rfl, rfl⟩))
  go_ret2
  exact do_is (by simp [has]) (by simp [tot]) (Dr.refl _)

set_option maxHeartbeats 1000000 in
theorem rdo_2 (n a b : Int) (w : World) (h1 : 1 ≤ n) (h2 : n ≤ 32) (h3 : 0 ≤ a) (h4 : a < pw n) (h5 : 0 ≤ b) (h6 : b < pw n) : Calls Try.prog 114 #[.int .i64 2, .int .i64 n, .int .u32 a, .int .u32 b] w (DoIs 2 n a b w) := by
  obtain ⟨m, rfl⟩ := Int.eq_ofNat_of_zero_le (show 0 ≤ n by omega)
  have hp := @pw_le32 (m : Int) (by omega)
  have x1 := sgn_lo32 (n := m) (a := a) (by omega) (by omega) h3
  have x2 := sgn_hi32 (n := m) (a := a) (by omega) (by omega) h4
  have y1 := sgn_lo32 (n := m) (a := b) (by omega) (by omega) h5
  have y2 := sgn_hi32 (n := m) (a := b) (by omega) (by omega) h6
  go_enter Try.func114, Try.ntmps114
  go_wp2_with (first | (go_at_call 111; refine (rSign_any _ _ _ (by omega) (by omega) (by omega) (by omega)).mono ?_; rintro e w' ⟨rfl, rfl⟩) | (go_at_call 112; refine (rWrap_any _ _ _ (by omega) (by omega) (by omega) (by omega)).mono ?_; rintro e w' ⟨rfl, rfl⟩) | (go_at_call 108; refine (size_any _ _ (by omega) (by omega)).mono ?_; rintro e w' ⟨rfl, rfl⟩))
  go_ret2
  exact do_is (by simp [has]) (by simp [tot]) (Dr.refl _)

set_option maxHeartbeats 1000000 in
theorem rdo_3 (n a b : Int) (w : World) (h1 : 1 ≤ n) (h2 : n ≤ 32) (h3 : 0 ≤ a) (h4 : a < pw n) (h5 : 0 ≤ b) (h6 : b < pw n) : Calls Try.prog 114 #[.int .i64 3, .int .i64 n, .int .u32 a, .int .u32 b] w (DoIs 3 n a b w) := by
  obtain ⟨m, rfl⟩ := Int.eq_ofNat_of_zero_le (show 0 ≤ n by omega)
  have hp := @pw_le32 (m : Int) (by omega)
  have x1 := sgn_lo32 (n := m) (a := a) (by omega) (by omega) h3
  have x2 := sgn_hi32 (n := m) (a := a) (by omega) (by omega) h4
  have y1 := sgn_lo32 (n := m) (a := b) (by omega) (by omega) h5
  have y2 := sgn_hi32 (n := m) (a := b) (by omega) (by omega) h6
  have z := mul_lo32 x1 x2 y1 y2
  obtain ⟨z1, z2⟩ := z
  go_enter Try.func114, Try.ntmps114
  go_wp2_with (first | (go_at_call 111; refine (rSign_any _ _ _ (by omega) (by omega) (by omega) (by omega)).mono ?_; rintro e w' ⟨rfl, rfl⟩) | (go_at_call 112; refine (rWrap_any _ _ _ (by omega) (by omega) (by omega) (by omega)).mono ?_; rintro e w' ⟨rfl, rfl⟩) | (go_at_call 108; refine (size_any _ _ (by omega) (by omega)).mono ?_; rintro e w' ⟨rfl, rfl⟩))
  go_ret2
  exact do_is (by simp [has]) (by simp [tot, wr_mul]) (Dr.refl _)

set_option maxHeartbeats 1000000 in
theorem rdo_4 (n a b : Int) (w : World) (h1 : 1 ≤ n) (h2 : n ≤ 32) (h3 : 0 ≤ a) (h4 : a < pw n) (h5 : 0 ≤ b) (h6 : b < pw n) : Calls Try.prog 114 #[.int .i64 4, .int .i64 n, .int .u32 a, .int .u32 b] w (DoIs 4 n a b w) := by
  obtain ⟨m, rfl⟩ := Int.eq_ofNat_of_zero_le (show 0 ≤ n by omega)
  have hp := @pw_le32 (m : Int) (by omega)
  have x1 := sgn_lo32 (n := m) (a := a) (by omega) (by omega) h3
  have x2 := sgn_hi32 (n := m) (a := a) (by omega) (by omega) h4
  have y1 := sgn_lo32 (n := m) (a := b) (by omega) (by omega) h5
  have y2 := sgn_hi32 (n := m) (a := b) (by omega) (by omega) h6
  by_cases hb : b = 0
  · subst hb
    go_enter Try.func114, Try.ntmps114
    go_wp2_with (first | (go_at_call 111; refine (rSign_any _ _ _ (by omega) (by omega) (by omega) (by omega)).mono ?_; rintro e w' ⟨rfl, rfl⟩) | (go_at_call 112; refine (rWrap_any _ _ _ (by omega) (by omega) (by omega) (by omega)).mono ?_; rintro e w' ⟨rfl, rfl⟩) | (go_at_call 108; refine (size_any _ _ (by omega) (by omega)).mono ?_; rintro e w' ⟨rfl, rfl⟩))
    go_ret2
    exact do_not (by simp [has]) (Dr.refl _)
  · have hb1 : 1 ≤ b := by omega
    have hb2 : (b == 0) = false := by simpa using hb
    go_enter Try.func114, Try.ntmps114
    go_wp2_with (first | (go_at_call 111; refine (rSign_any _ _ _ (by omega) (by omega) (by omega) (by omega)).mono ?_; rintro e w' ⟨rfl, rfl⟩) | (go_at_call 112; refine (rWrap_any _ _ _ (by omega) (by omega) (by omega) (by omega)).mono ?_; rintro e w' ⟨rfl, rfl⟩) | (go_at_call 108; refine (size_any _ _ (by omega) (by omega)).mono ?_; rintro e w' ⟨rfl, rfl⟩))
    go_ret2
    exact do_is (by simp [has, hb]) (by simp [tot, hb]) (Dr.refl _)

set_option maxHeartbeats 1000000 in
theorem rdo_5 (n a b : Int) (w : World) (h1 : 1 ≤ n) (h2 : n ≤ 32) (h3 : 0 ≤ a) (h4 : a < pw n) (h5 : 0 ≤ b) (h6 : b < pw n) : Calls Try.prog 114 #[.int .i64 5, .int .i64 n, .int .u32 a, .int .u32 b] w (DoIs 5 n a b w) := by
  obtain ⟨m, rfl⟩ := Int.eq_ofNat_of_zero_le (show 0 ≤ n by omega)
  have hp := @pw_le32 (m : Int) (by omega)
  have x1 := sgn_lo32 (n := m) (a := a) (by omega) (by omega) h3
  have x2 := sgn_hi32 (n := m) (a := a) (by omega) (by omega) h4
  have y1 := sgn_lo32 (n := m) (a := b) (by omega) (by omega) h5
  have y2 := sgn_hi32 (n := m) (a := b) (by omega) (by omega) h6
  by_cases hb : b = 0
  · subst hb
    go_enter Try.func114, Try.ntmps114
    go_wp2_with (first | (go_at_call 111; refine (rSign_any _ _ _ (by omega) (by omega) (by omega) (by omega)).mono ?_; rintro e w' ⟨rfl, rfl⟩) | (go_at_call 112; refine (rWrap_any _ _ _ (by omega) (by omega) (by omega) (by omega)).mono ?_; rintro e w' ⟨rfl, rfl⟩) | (go_at_call 108; refine (size_any _ _ (by omega) (by omega)).mono ?_; rintro e w' ⟨rfl, rfl⟩))
    go_ret2
    exact do_not (by simp [has]) (Dr.refl _)
  · have hb1 : 1 ≤ b := by omega
    have hb2 : (b == 0) = false := by simpa using hb
    have u1 : 0 ≤ a / b := Int.ediv_nonneg h3 h5
    have u2 : 0 ≤ a / b * b := Int.mul_nonneg u1 h5
    have u3 : a / b * b ≤ a := Int.ediv_mul_le a hb
    have u4 : a % b = a - a / b * b := by rw [Int.emod_def, Int.mul_comm]
    have U4 := Lib.hid u4
    clear u4
    go_enter Try.func114, Try.ntmps114
    go_wp2_with (first | (go_at_call 111; refine (rSign_any _ _ _ (by omega) (by omega) (by omega) (by omega)).mono ?_; rintro e w' ⟨rfl, rfl⟩) | (go_at_call 112; refine (rWrap_any _ _ _ (by omega) (by omega) (by omega) (by omega)).mono ?_; rintro e w' ⟨rfl, rfl⟩) | (go_at_call 108; refine (size_any _ _ (by omega) (by omega)).mono ?_; rintro e w' ⟨rfl, rfl⟩))
    go_ret2
    exact do_is (by simp [has, hb]) (by simp [tot, hb]; exact U4.out) (Dr.refl _)

set_option maxHeartbeats 1000000 in
theorem rdo_6 (n a b : Int) (w : World) (h1 : 1 ≤ n) (h2 : n ≤ 32) (h3 : 0 ≤ a) (h4 : a < pw n) (h5 : 0 ≤ b) (h6 : b < pw n) : Calls Try.prog 114 #[.int .i64 6, .int .i64 n, .int .u32 a, .int .u32 b] w (DoIs 6 n a b w) := by
  obtain ⟨m, rfl⟩ := Int.eq_ofNat_of_zero_le (show 0 ≤ n by omega)
  have hp := @pw_le32 (m : Int) (by omega)
  have x1 := sgn_lo32 (n := m) (a := a) (by omega) (by omega) h3
  have x2 := sgn_hi32 (n := m) (a := a) (by omega) (by omega) h4
  have y1 := sgn_lo32 (n := m) (a := b) (by omega) (by omega) h5
  have y2 := sgn_hi32 (n := m) (a := b) (by omega) (by omega) h6
  have hp3 := @pw_le31 ((m : Int) - 1) (by omega)
  have hp4 := pw_pos ((m : Int) - 1)
  by_cases hb : b = 0
  · subst hb
    go_enter Try.func114, Try.ntmps114
    go_wp2_with (first | (go_at_call 111; refine (rSign_any _ _ _ (by omega) (by omega) (by omega) (by omega)).mono ?_; rintro e w' ⟨rfl, rfl⟩) | (go_at_call 112; refine (rWrap_any _ _ _ (by omega) (by omega) (by omega) (by omega)).mono ?_; rintro e w' ⟨rfl, rfl⟩) | (go_at_call 108; refine (size_any _ _ (by omega) (by omega)).mono ?_; rintro e w' ⟨rfl, rfl⟩))
    go_ret2
    exact do_not (by simp [has]) (Dr.refl _)
  have hb1 : (b == 0) = false := by simpa using hb
  by_cases hx : sgn m a = -pw (m - 1)
  · have hx1 : (sgn m a == -pw (m - 1)) = true := by simpa using hx
    by_cases hy : sgn m b = -1
    · have hy1 : (sgn m b == -1) = true := by simpa using hy
      have hc : has 6 m a b = false := by simp [has, hx, hy]
      clear hx hy hb
      go_enter Try.func114, Try.ntmps114
      go_wp2_with (first | (go_at_call 111; refine (rSign_any _ _ _ (by omega) (by omega) (by omega) (by omega)).mono ?_; rintro e w' ⟨rfl, rfl⟩) | (go_at_call 112; refine (rWrap_any _ _ _ (by omega) (by omega) (by omega) (by omega)).mono ?_; rintro e w' ⟨rfl, rfl⟩) | (go_at_call 108; refine (size_any _ _ (by omega) (by omega)).mono ?_; rintro e w' ⟨rfl, rfl⟩))
      go_ret2
      exact do_not hc (Dr.refl _)
    · have hy1 : (sgn m b == -1) = false := by simpa using hy
      have hc : has 6 m a b = true := by simp [has, hb, hx, hy]
      have ht : tot 6 m a b = wr m ((sgn m a).tdiv (sgn m b)) := by simp [tot, hb, hx, hy]
      have HT := Lib.hid ht
      clear ht hx hy
      have hz := sgn_zero (n := m) (b := b) (by omega) h6
      have hy0 : ¬ sgn m b = 0 := by omega
      clear hz
      have q := @tdiv_bd (sgn m a) (sgn m b) x1 (by omega)
      have r := @tmod_bd (sgn m a) (sgn m b) x1 (by omega)
      obtain ⟨q1, q2⟩ := q
      obtain ⟨r1, r2⟩ := r
      have e0 : wrap64 ((sgn m a).tdiv (sgn m b)) = (sgn m a).tdiv (sgn m b) := IntWalk.wrap64_in _ (by omega)
      have e1 := tmod_q (sgn m a) (sgn m b)
      clear hb
      go_enter Try.func114, Try.ntmps114
      go_wp2_with (first | (go_at_call 111; refine (rSign_any _ _ _ (by omega) (by omega) (by omega) (by omega)).mono ?_; rintro e w' ⟨rfl, rfl⟩) | (go_at_call 112; refine (rWrap_any _ _ _ (by omega) (by omega) (by omega) (by omega)).mono ?_; rintro e w' ⟨rfl, rfl⟩) | (go_at_call 108; refine (size_any _ _ (by omega) (by omega)).mono ?_; rintro e w' ⟨rfl, rfl⟩))
      go_ret2
      exact do_is hc HT.out (Dr.refl _)
  · have hx1 : (sgn m a == -pw (m - 1)) = false := by simpa using hx
    have hc : has 6 m a b = true := by simp [has, hb, hx]
    have ht : tot 6 m a b = wr m ((sgn m a).tdiv (sgn m b)) := by simp [tot, hb, hx]
    have HT := Lib.hid ht
    clear ht hx
    have hz := sgn_zero (n := m) (b := b) (by omega) h6
    have hy0 : ¬ sgn m b = 0 := by omega
    clear hz
    have q := @tdiv_bd (sgn m a) (sgn m b) x1 (by omega)
    have r := @tmod_bd (sgn m a) (sgn m b) x1 (by omega)
    obtain ⟨q1, q2⟩ := q
    obtain ⟨r1, r2⟩ := r
    have e0 : wrap64 ((sgn m a).tdiv (sgn m b)) = (sgn m a).tdiv (sgn m b) := IntWalk.wrap64_in _ (by omega)
    have e1 := tmod_q (sgn m a) (sgn m b)
    by_cases hy : sgn m b = -1
    · have hy1 : (sgn m b == -1) = true := by simpa using hy
      clear hy hb
      go_enter Try.func114, Try.ntmps114
      go_wp2_with (first | (go_at_call 111; refine (rSign_any _ _ _ (by omega) (by omega) (by omega) (by omega)).mono ?_; rintro e w' ⟨rfl, rfl⟩) | (go_at_call 112; refine (rWrap_any _ _ _ (by omega) (by omega) (by omega) (by omega)).mono ?_; rintro e w' ⟨rfl, rfl⟩) | (go_at_call 108; refine (size_any _ _ (by omega) (by omega)).mono ?_; rintro e w' ⟨rfl, rfl⟩))
      go_ret2
      exact do_is hc HT.out (Dr.refl _)
    · have hy1 : (sgn m b == -1) = false := by simpa using hy
      clear hy hb
      go_enter Try.func114, Try.ntmps114
      go_wp2_with (first | (go_at_call 111; refine (rSign_any _ _ _ (by omega) (by omega) (by omega) (by omega)).mono ?_; rintro e w' ⟨rfl, rfl⟩) | (go_at_call 112; refine (rWrap_any _ _ _ (by omega) (by omega) (by omega) (by omega)).mono ?_; rintro e w' ⟨rfl, rfl⟩) | (go_at_call 108; refine (size_any _ _ (by omega) (by omega)).mono ?_; rintro e w' ⟨rfl, rfl⟩))
      go_ret2
      exact do_is hc HT.out (Dr.refl _)

set_option maxHeartbeats 1000000 in
theorem rdo_7 (n a b : Int) (w : World) (h1 : 1 ≤ n) (h2 : n ≤ 32) (h3 : 0 ≤ a) (h4 : a < pw n) (h5 : 0 ≤ b) (h6 : b < pw n) : Calls Try.prog 114 #[.int .i64 7, .int .i64 n, .int .u32 a, .int .u32 b] w (DoIs 7 n a b w) := by
  obtain ⟨m, rfl⟩ := Int.eq_ofNat_of_zero_le (show 0 ≤ n by omega)
  have hp := @pw_le32 (m : Int) (by omega)
  have x1 := sgn_lo32 (n := m) (a := a) (by omega) (by omega) h3
  have x2 := sgn_hi32 (n := m) (a := a) (by omega) (by omega) h4
  have y1 := sgn_lo32 (n := m) (a := b) (by omega) (by omega) h5
  have y2 := sgn_hi32 (n := m) (a := b) (by omega) (by omega) h6
  have hp3 := @pw_le31 ((m : Int) - 1) (by omega)
  have hp4 := pw_pos ((m : Int) - 1)
  by_cases hb : b = 0
  · subst hb
    go_enter Try.func114, Try.ntmps114
    go_wp2_with (first | (go_at_call 111; refine (rSign_any _ _ _ (by omega) (by omega) (by omega) (by omega)).mono ?_; rintro e w' ⟨rfl, rfl⟩) | (go_at_call 112; refine (rWrap_any _ _ _ (by omega) (by omega) (by omega) (by omega)).mono ?_; rintro e w' ⟨rfl, rfl⟩) | (go_at_call 108; refine (size_any _ _ (by omega) (by omega)).mono ?_; rintro e w' ⟨rfl, rfl⟩))
    go_ret2
    exact do_not (by simp [has]) (Dr.refl _)
  have hb1 : (b == 0) = false := by simpa using hb
  by_cases hx : sgn m a = -pw (m - 1)
  · have hx1 : (sgn m a == -pw (m - 1)) = true := by simpa using hx
    by_cases hy : sgn m b = -1
    · have hy1 : (sgn m b == -1) = true := by simpa using hy
      have hc : has 7 m a b = false := by simp [has, hx, hy]
      clear hx hy hb
      go_enter Try.func114, Try.ntmps114
      go_wp2_with (first | (go_at_call 111; refine (rSign_any _ _ _ (by omega) (by omega) (by omega) (by omega)).mono ?_; rintro e w' ⟨rfl, rfl⟩) | (go_at_call 112; refine (rWrap_any _ _ _ (by omega) (by omega) (by omega) (by omega)).mono ?_; rintro e w' ⟨rfl, rfl⟩) | (go_at_call 108; refine (size_any _ _ (by omega) (by omega)).mono ?_; rintro e w' ⟨rfl, rfl⟩))
      go_ret2
      exact do_not hc (Dr.refl _)
    · have hy1 : (sgn m b == -1) = false := by simpa using hy
      have hc : has 7 m a b = true := by simp [has, hb, hx, hy]
      have ht : tot 7 m a b = wr m ((sgn m a).tmod (sgn m b)) := by simp [tot, hb, hx, hy]
      have HT := Lib.hid ht
      clear ht hx hy
      have hz := sgn_zero (n := m) (b := b) (by omega) h6
      have hy0 : ¬ sgn m b = 0 := by omega
      clear hz
      have q := @tdiv_bd (sgn m a) (sgn m b) x1 (by omega)
      have r := @tmod_bd (sgn m a) (sgn m b) x1 (by omega)
      obtain ⟨q1, q2⟩ := q
      obtain ⟨r1, r2⟩ := r
      have e0 : wrap64 ((sgn m a).tdiv (sgn m b)) = (sgn m a).tdiv (sgn m b) := IntWalk.wrap64_in _ (by omega)
      have e1 := tmod_q (sgn m a) (sgn m b)
      clear hb
      go_enter Try.func114, Try.ntmps114
      go_wp2_with (first | (go_at_call 111; refine (rSign_any _ _ _ (by omega) (by omega) (by omega) (by omega)).mono ?_; rintro e w' ⟨rfl, rfl⟩) | (go_at_call 112; refine (rWrap_any _ _ _ (by omega) (by omega) (by omega) (by omega)).mono ?_; rintro e w' ⟨rfl, rfl⟩) | (go_at_call 108; refine (size_any _ _ (by omega) (by omega)).mono ?_; rintro e w' ⟨rfl, rfl⟩))
      go_ret2
      exact do_is hc (HT.out.trans (congrArg (wr m) (by omega))) (Dr.refl _)
  · have hx1 : (sgn m a == -pw (m - 1)) = false := by simpa using hx
    have hc : has 7 m a b = true := by simp [has, hb, hx]
    have ht : tot 7 m a b = wr m ((sgn m a).tmod (sgn m b)) := by simp [tot, hb, hx]
    have HT := Lib.hid ht
    clear ht hx
    have hz := sgn_zero (n := m) (b := b) (by omega) h6
    have hy0 : ¬ sgn m b = 0 := by omega
    clear hz
    have q := @tdiv_bd (sgn m a) (sgn m b) x1 (by omega)
    have r := @tmod_bd (sgn m a) (sgn m b) x1 (by omega)
    obtain ⟨q1, q2⟩ := q
    obtain ⟨r1, r2⟩ := r
    have e0 : wrap64 ((sgn m a).tdiv (sgn m b)) = (sgn m a).tdiv (sgn m b) := IntWalk.wrap64_in _ (by omega)
    have e1 := tmod_q (sgn m a) (sgn m b)
    by_cases hy : sgn m b = -1
    · have hy1 : (sgn m b == -1) = true := by simpa using hy
      clear hy hb
      go_enter Try.func114, Try.ntmps114
      go_wp2_with (first | (go_at_call 111; refine (rSign_any _ _ _ (by omega) (by omega) (by omega) (by omega)).mono ?_; rintro e w' ⟨rfl, rfl⟩) | (go_at_call 112; refine (rWrap_any _ _ _ (by omega) (by omega) (by omega) (by omega)).mono ?_; rintro e w' ⟨rfl, rfl⟩) | (go_at_call 108; refine (size_any _ _ (by omega) (by omega)).mono ?_; rintro e w' ⟨rfl, rfl⟩))
      go_ret2
      exact do_is hc (HT.out.trans (congrArg (wr m) (by omega))) (Dr.refl _)
    · have hy1 : (sgn m b == -1) = false := by simpa using hy
      clear hy hb
      go_enter Try.func114, Try.ntmps114
      go_wp2_with (first | (go_at_call 111; refine (rSign_any _ _ _ (by omega) (by omega) (by omega) (by omega)).mono ?_; rintro e w' ⟨rfl, rfl⟩) | (go_at_call 112; refine (rWrap_any _ _ _ (by omega) (by omega) (by omega) (by omega)).mono ?_; rintro e w' ⟨rfl, rfl⟩) | (go_at_call 108; refine (size_any _ _ (by omega) (by omega)).mono ?_; rintro e w' ⟨rfl, rfl⟩))
      go_ret2
      exact do_is hc (HT.out.trans (congrArg (wr m) (by omega))) (Dr.refl _)

set_option maxHeartbeats 1000000 in
theorem rdo_8 (n a b : Int) (w : World) (h1 : 1 ≤ n) (h2 : n ≤ 32) (h3 : 0 ≤ a) (h4 : a < pw n) (h5 : 0 ≤ b) (h6 : b < pw n) : Calls Try.prog 114 #[.int .i64 8, .int .i64 n, .int .u32 a, .int .u32 b] w (DoIs 8 n a b w) := by
  obtain ⟨m, rfl⟩ := Int.eq_ofNat_of_zero_le (show 0 ≤ n by omega)
  have hp := @pw_le32 (m : Int) (by omega)
  have x1 := sgn_lo32 (n := m) (a := a) (by omega) (by omega) h3
  have x2 := sgn_hi32 (n := m) (a := a) (by omega) (by omega) h4
  have y1 := sgn_lo32 (n := m) (a := b) (by omega) (by omega) h5
  have y2 := sgn_hi32 (n := m) (a := b) (by omega) (by omega) h6
  go_enter Try.func114, Try.ntmps114
  go_wp2_with (first | (go_at_call 111; refine (rSign_any _ _ _ (by omega) (by omega) (by omega) (by omega)).mono ?_; rintro e w' ⟨rfl, rfl⟩) | (go_at_call 112; refine (rWrap_any _ _ _ (by omega) (by omega) (by omega) (by omega)).mono ?_; rintro e w' ⟨rfl, rfl⟩) | (go_at_call 108; refine (size_any _ _ (by omega) (by omega)).mono ?_; rintro e w' ⟨rfl, rfl⟩) | (go_at_call 128; refine (bitwise_and _ _ _ _ (by omega) (by omega) (by omega) (by omega) (by omega) (by omega)).mono ?_; rintro e w' ⟨rfl, hd1⟩))
  go_ret2
  exact do_is (by simp [has]) (by simp [tot]) hd1

set_option maxHeartbeats 1000000 in
theorem rdo_9 (n a b : Int) (w : World) (h1 : 1 ≤ n) (h2 : n ≤ 32) (h3 : 0 ≤ a) (h4 : a < pw n) (h5 : 0 ≤ b) (h6 : b < pw n) : Calls Try.prog 114 #[.int .i64 9, .int .i64 n, .int .u32 a, .int .u32 b] w (DoIs 9 n a b w) := by
  obtain ⟨m, rfl⟩ := Int.eq_ofNat_of_zero_le (show 0 ≤ n by omega)
  have hp := @pw_le32 (m : Int) (by omega)
  have x1 := sgn_lo32 (n := m) (a := a) (by omega) (by omega) h3
  have x2 := sgn_hi32 (n := m) (a := a) (by omega) (by omega) h4
  have y1 := sgn_lo32 (n := m) (a := b) (by omega) (by omega) h5
  have y2 := sgn_hi32 (n := m) (a := b) (by omega) (by omega) h6
  go_enter Try.func114, Try.ntmps114
  go_wp2_with (first | (go_at_call 111; refine (rSign_any _ _ _ (by omega) (by omega) (by omega) (by omega)).mono ?_; rintro e w' ⟨rfl, rfl⟩) | (go_at_call 112; refine (rWrap_any _ _ _ (by omega) (by omega) (by omega) (by omega)).mono ?_; rintro e w' ⟨rfl, rfl⟩) | (go_at_call 108; refine (size_any _ _ (by omega) (by omega)).mono ?_; rintro e w' ⟨rfl, rfl⟩) | (go_at_call 128; refine (bitwise_or _ _ _ _ (by omega) (by omega) (by omega) (by omega) (by omega) (by omega)).mono ?_; rintro e w' ⟨rfl, hd1⟩))
  go_ret2
  exact do_is (by simp [has]) (by simp [tot]) hd1

set_option maxHeartbeats 1000000 in
theorem rdo_10 (n a b : Int) (w : World) (h1 : 1 ≤ n) (h2 : n ≤ 32) (h3 : 0 ≤ a) (h4 : a < pw n) (h5 : 0 ≤ b) (h6 : b < pw n) : Calls Try.prog 114 #[.int .i64 10, .int .i64 n, .int .u32 a, .int .u32 b] w (DoIs 10 n a b w) := by
  obtain ⟨m, rfl⟩ := Int.eq_ofNat_of_zero_le (show 0 ≤ n by omega)
  have hp := @pw_le32 (m : Int) (by omega)
  have x1 := sgn_lo32 (n := m) (a := a) (by omega) (by omega) h3
  have x2 := sgn_hi32 (n := m) (a := a) (by omega) (by omega) h4
  have y1 := sgn_lo32 (n := m) (a := b) (by omega) (by omega) h5
  have y2 := sgn_hi32 (n := m) (a := b) (by omega) (by omega) h6
  go_enter Try.func114, Try.ntmps114
  go_wp2_with (first | (go_at_call 111; refine (rSign_any _ _ _ (by omega) (by omega) (by omega) (by omega)).mono ?_; rintro e w' ⟨rfl, rfl⟩) | (go_at_call 112; refine (rWrap_any _ _ _ (by omega) (by omega) (by omega) (by omega)).mono ?_; rintro e w' ⟨rfl, rfl⟩) | (go_at_call 108; refine (size_any _ _ (by omega) (by omega)).mono ?_; rintro e w' ⟨rfl, rfl⟩) | (go_at_call 128; refine (bitwise_xor _ _ _ _ (by omega) (by omega) (by omega) (by omega) (by omega) (by omega)).mono ?_; rintro e w' ⟨rfl, hd1⟩))
  go_ret2
  exact do_is (by simp [has]) (by simp [tot]) hd1

set_option maxHeartbeats 1000000 in
theorem rdo_11 (n a b : Int) (w : World) (h1 : 1 ≤ n) (h2 : n ≤ 32) (h3 : 0 ≤ a) (h4 : a < pw n) (h5 : 0 ≤ b) (h6 : b < pw n) : Calls Try.prog 114 #[.int .i64 11, .int .i64 n, .int .u32 a, .int .u32 b] w (DoIs 11 n a b w) := by
  obtain ⟨m, rfl⟩ := Int.eq_ofNat_of_zero_le (show 0 ≤ n by omega)
  have hp := @pw_le32 (m : Int) (by omega)
  have x1 := sgn_lo32 (n := m) (a := a) (by omega) (by omega) h3
  have x2 := sgn_hi32 (n := m) (a := a) (by omega) (by omega) h4
  have y1 := sgn_lo32 (n := m) (a := b) (by omega) (by omega) h5
  have y2 := sgn_hi32 (n := m) (a := b) (by omega) (by omega) h6
  by_cases hb : (m : Int) ≤ b
  · have hc : has 11 m a b = false := by simp [has, hb]
    go_enter Try.func114, Try.ntmps114
    go_wp2_with (first | (go_at_call 111; refine (rSign_any _ _ _ (by omega) (by omega) (by omega) (by omega)).mono ?_; rintro e w' ⟨rfl, rfl⟩) | (go_at_call 112; refine (rWrap_any _ _ _ (by omega) (by omega) (by omega) (by omega)).mono ?_; rintro e w' ⟨rfl, rfl⟩) | (go_at_call 108; refine (size_any _ _ (by omega) (by omega)).mono ?_; rintro e w' ⟨rfl, rfl⟩) | (go_at_call 128; refine (bitwise_none _ _ _ _ _ (by omega) (by omega) (by omega) (by omega) (by omega)).mono ?_; rintro e w' ⟨rfl, hd1⟩))
    go_ret2
    exact do_not hc hd1
  · obtain ⟨k, rfl⟩ := Int.eq_ofNat_of_zero_le h5
    have hc : has 11 m a k = true := by simp [has]; omega
    go_enter Try.func114, Try.ntmps114
    go_wp2_with (first | (go_at_call 111; refine (rSign_any _ _ _ (by omega) (by omega) (by omega) (by omega)).mono ?_; rintro e w' ⟨rfl, rfl⟩) | (go_at_call 112; refine (rWrap_any _ _ _ (by omega) (by omega) (by omega) (by omega)).mono ?_; rintro e w' ⟨rfl, rfl⟩) | (go_at_call 108; refine (size_any _ _ (by omega) (by omega)).mono ?_; rintro e w' ⟨rfl, rfl⟩) | (go_at_call 128; refine (bitwise_shl _ _ _ _ (by omega) (by omega) (by omega) (by omega) (by omega)).mono ?_; rintro e w' ⟨rfl, hd1⟩))
    go_ret2
    exact do_is hc (by simp [tot, pw_nat]; intro h; exact absurd h (by omega)) hd1

set_option maxHeartbeats 1000000 in
theorem rdo_12 (n a b : Int) (w : World) (h1 : 1 ≤ n) (h2 : n ≤ 32) (h3 : 0 ≤ a) (h4 : a < pw n) (h5 : 0 ≤ b) (h6 : b < pw n) : Calls Try.prog 114 #[.int .i64 12, .int .i64 n, .int .u32 a, .int .u32 b] w (DoIs 12 n a b w) := by
  obtain ⟨m, rfl⟩ := Int.eq_ofNat_of_zero_le (show 0 ≤ n by omega)
  have hp := @pw_le32 (m : Int) (by omega)
  have x1 := sgn_lo32 (n := m) (a := a) (by omega) (by omega) h3
  have x2 := sgn_hi32 (n := m) (a := a) (by omega) (by omega) h4
  have y1 := sgn_lo32 (n := m) (a := b) (by omega) (by omega) h5
  have y2 := sgn_hi32 (n := m) (a := b) (by omega) (by omega) h6
  by_cases hb : (m : Int) ≤ b
  · have hc : has 12 m a b = false := by simp [has, hb]
    go_enter Try.func114, Try.ntmps114
    go_wp2_with (first | (go_at_call 111; refine (rSign_any _ _ _ (by omega) (by omega) (by omega) (by omega)).mono ?_; rintro e w' ⟨rfl, rfl⟩) | (go_at_call 112; refine (rWrap_any _ _ _ (by omega) (by omega) (by omega) (by omega)).mono ?_; rintro e w' ⟨rfl, rfl⟩) | (go_at_call 108; refine (size_any _ _ (by omega) (by omega)).mono ?_; rintro e w' ⟨rfl, rfl⟩) | (go_at_call 128; refine (bitwise_none _ _ _ _ _ (by omega) (by omega) (by omega) (by omega) (by omega)).mono ?_; rintro e w' ⟨rfl, hd1⟩))
    go_ret2
    exact do_not hc hd1
  · obtain ⟨k, rfl⟩ := Int.eq_ofNat_of_zero_le h5
    have hc : has 12 m a k = true := by simp [has]; omega
    go_enter Try.func114, Try.ntmps114
    go_wp2_with (first | (go_at_call 111; refine (rSign_any _ _ _ (by omega) (by omega) (by omega) (by omega)).mono ?_; rintro e w' ⟨rfl, rfl⟩) | (go_at_call 112; refine (rWrap_any _ _ _ (by omega) (by omega) (by omega) (by omega)).mono ?_; rintro e w' ⟨rfl, rfl⟩) | (go_at_call 108; refine (size_any _ _ (by omega) (by omega)).mono ?_; rintro e w' ⟨rfl, rfl⟩) | (go_at_call 128; refine (bitwise_lshr _ _ _ _ (by omega) (by omega) (by omega) (by omega) (by omega)).mono ?_; rintro e w' ⟨rfl, hd1⟩))
    go_ret2
    exact do_is hc (by simp [tot, pw_nat]; intro h; exact absurd h (by omega)) hd1

set_option maxHeartbeats 1000000 in
theorem rdo_13 (n a b : Int) (w : World) (h1 : 1 ≤ n) (h2 : n ≤ 32) (h3 : 0 ≤ a) (h4 : a < pw n) (h5 : 0 ≤ b) (h6 : b < pw n) : Calls Try.prog 114 #[.int .i64 13, .int .i64 n, .int .u32 a, .int .u32 b] w (DoIs 13 n a b w) := by
  obtain ⟨m, rfl⟩ := Int.eq_ofNat_of_zero_le (show 0 ≤ n by omega)
  have hp := @pw_le32 (m : Int) (by omega)
  have x1 := sgn_lo32 (n := m) (a := a) (by omega) (by omega) h3
  have x2 := sgn_hi32 (n := m) (a := a) (by omega) (by omega) h4
  have y1 := sgn_lo32 (n := m) (a := b) (by omega) (by omega) h5
  have y2 := sgn_hi32 (n := m) (a := b) (by omega) (by omega) h6
  by_cases hb : (m : Int) ≤ b
  · have hc : has 13 m a b = false := by simp [has, hb]
    go_enter Try.func114, Try.ntmps114
    go_wp2_with (first | (go_at_call 111; refine (rSign_any _ _ _ (by omega) (by omega) (by omega) (by omega)).mono ?_; rintro e w' ⟨rfl, rfl⟩) | (go_at_call 112; refine (rWrap_any _ _ _ (by omega) (by omega) (by omega) (by omega)).mono ?_; rintro e w' ⟨rfl, rfl⟩) | (go_at_call 108; refine (size_any _ _ (by omega) (by omega)).mono ?_; rintro e w' ⟨rfl, rfl⟩) | (go_at_call 128; refine (bitwise_none _ _ _ _ _ (by omega) (by omega) (by omega) (by omega) (by omega)).mono ?_; rintro e w' ⟨rfl, hd1⟩))
    go_ret2
    exact do_not hc hd1
  · obtain ⟨k, rfl⟩ := Int.eq_ofNat_of_zero_le h5
    have hc : has 13 m a k = true := by simp [has]; omega
    go_enter Try.func114, Try.ntmps114
    go_wp2_with (first | (go_at_call 111; refine (rSign_any _ _ _ (by omega) (by omega) (by omega) (by omega)).mono ?_; rintro e w' ⟨rfl, rfl⟩) | (go_at_call 112; refine (rWrap_any _ _ _ (by omega) (by omega) (by omega) (by omega)).mono ?_; rintro e w' ⟨rfl, rfl⟩) | (go_at_call 108; refine (size_any _ _ (by omega) (by omega)).mono ?_; rintro e w' ⟨rfl, rfl⟩) | (go_at_call 128; refine (bitwise_ashr _ _ _ _ (by omega) (by omega) (by omega) (by omega) (by omega)).mono ?_; rintro e w' ⟨rfl, hd1⟩))
    go_ret2
    exact do_is hc (by simp [tot, pw_nat]; intro h; exact absurd h (by omega)) hd1

end Go.Proofs.Ythopdfikikdcbaa
