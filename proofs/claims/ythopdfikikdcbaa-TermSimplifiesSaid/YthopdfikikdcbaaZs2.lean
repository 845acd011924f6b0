/- Walks of backstayref01.two, do, Do, Total: what each returns, said of numbers. -/
import Derived.Deep.RegionWith
import Derived.Test.YthopdfikikdcbaaZs1
namespace Go.Proofs.Ythopdfikikdcbaa
open Go.RowKit Wd
/-- What do returns of right operands. -/
def DoIs (op n a b : Int) (w : World) (e : Ending) (w' : World) : Prop := e = .returned (.tuple #[.int .u32 (if has op n a b then tot op n a b else 0), .bool (has op n a b)]) ∧ Dr w w'
theorem do_is {op n a b x : Int} {w w' : World} (h : has op n a b = true) (e : tot op n a b = x) (d : Dr w w') : DoIs op n a b w (.returned (.tuple #[.int .u32 x, .bool true])) w' := ⟨by rw [h, ← e]; rfl, d⟩
theorem do_not {op n a b : Int} {w w' : World} (h : has op n a b = false) (d : Dr w w') : DoIs op n a b w (.returned (.tuple #[.int .u32 0, .bool false])) w' := ⟨by rw [h]; rfl, d⟩

set_option maxHeartbeats 1000000 in
theorem rdo_1 (n a b : Int) (w : World) (h1 : 1 ≤ n) (h2 : n ≤ 32) (h3 : 0 ≤ a) (h4 : a < pw n) (h5 : 0 ≤ b) (h6 : b < pw n) : Calls Try.prog 114 #[.int .i64 1, .int .i64 n, .int .u32 a, .int .u32 b] w (DoIs 1 n a b w) := by
  obtain ⟨m, rfl⟩ := Int.eq_ofNat_of_zero_le (show 0 ≤ n by omega)
  have hp := @pw_le32 (m : Int) (by omega)
  have x1 := sgn_lo32 (n := m) (a := a) (by omega) (by omega) h3
  have x2 := sgn_hi32 (n := m) (a := a) (by omega) (by omega) h4
  have y1 := sgn_lo32 (n := m) (a := b) (by omega) (by omega) h5
  have y2 := sgn_hi32 (n := m) (a := b) (by omega) (by omega) h6
  go_enter Try.func114, Try.ntmps114
  go_wp2_with (first | (go_at_call 111; refine (rSign_any _ _ _ (by omega) (by omega) (by omega) (by omega)).mono ?_; rintro e w' ⟨rfl, rfl⟩) | (go_at_call 112; refine (rWrap_any _ _ _ (by omega) (by omega) (by omega) (by omega)).mono ?_; rintro e w' ⟨rfl, rfl⟩) | (go_at_call 108; refine (size_any _ _ (by omega) (by omega)).mono ?_; rintro e w' ⟨rfl, rfl⟩))
  go_ret2
  exact do_is (by simp [has]) (by simp [tot]) (Dr.refl _)

set_option maxHeartbeats 1000000 in
theorem rdo_2 (n a b : Int) (w : World) (h1 : 1 ≤ n) (h2 : n ≤ 32) (h3 : 0 ≤ a) (h4 : a < pw n) (h5 : 0 ≤ b) (h6 : b < pw n) : Calls Try.prog 114 #[.int .i64 2, .int .i64 n, .int .u32 a, .int .u32 b] w (DoIs 2 n a b w) := by
  obtain ⟨m, rfl⟩ := Int.eq_ofNat_of_zero_le (show 0 ≤ n by omega)
  have hp := @pw_le32 (m : Int) (by omega)
  have x1 := sgn_lo32 (n := m) (a := a) (by omega) (by omega) h3
  have x2 := sgn_hi32 (n := m) (a := a) (by omega) (by omega) h4
  have y1 := sgn_lo32 (n := m) (a := b) (by omega) (by omega) h5
  have y2 := sgn_hi32 (n := m) (a := b) (by omega) (by omega) h6
  go_enter Try.func114, Try.ntmps114
  go_wp2_with (first | (go_at_call 111; refine (rSign_any _ _ _ (by omega) (by omega) (by omega) (by omega)).mono ?_; rintro e w' ⟨rfl, rfl⟩) | (go_at_call 112; refine (rWrap_any _ _ _ (by omega) (by omega) (by omega) (by omega)).mono ?_; rintro e w' ⟨rfl, rfl⟩) | (go_at_call 108; refine (size_any _ _ (by omega) (by omega)).mono ?_; rintro e w' ⟨rfl, rfl⟩))
  go_ret2
  exact do_is (by simp [has]) (by simp [tot]) (Dr.refl _)

set_option maxHeartbeats 1000000 in
theorem rdo_3 (n a b : Int) (w : World) (h1 : 1 ≤ n) (h2 : n ≤ 32) (h3 : 0 ≤ a) (h4 : a < pw n) (h5 : 0 ≤ b) (h6 : b < pw n) : Calls Try.prog 114 #[.int .i64 3, .int .i64 n, .int .u32 a, .int .u32 b] w (DoIs 3 n a b w) := by
  obtain ⟨m, rfl⟩ := Int.eq_ofNat_of_zero_le (show 0 ≤ n by omega)
  have hp := @pw_le32 (m : Int) (by omega)
  have x1 := sgn_lo32 (n := m) (a := a) (by omega) (by omega) h3
  have x2 := sgn_hi32 (n := m) (a := a) (by omega) (by omega) h4
  have y1 := sgn_lo32 (n := m) (a := b) (by omega) (by omega) h5
  have y2 := sgn_hi32 (n := m) (a := b) (by omega) (by omega) h6
  have z := mul_lo32 x1 x2 y1 y2
  obtain ⟨z1, z2⟩ := z
  go_enter Try.func114, Try.ntmps114
  go_wp2_with (first | (go_at_call 111; refine (rSign_any _ _ _ (by omega) (by omega) (by omega) (by omega)).mono ?_; rintro e w' ⟨rfl, rfl⟩) | (go_at_call 112; refine (rWrap_any _ _ _ (by omega) (by omega) (by omega) (by omega)).mono ?_; rintro e w' ⟨rfl, rfl⟩) | (go_at_call 108; refine (size_any _ _ (by omega) (by omega)).mono ?_; rintro e w' ⟨rfl, rfl⟩))
  go_ret2
  exact do_is (by simp [has]) (by simp [tot, wr_mul]) (Dr.refl _)

set_option maxHeartbeats 1000000 in
theorem rdo_4 (n a b : Int) (w : World) (h1 : 1 ≤ n) (h2 : n ≤ 32) (h3 : 0 ≤ a) (h4 : a < pw n) (h5 : 0 ≤ b) (h6 : b < pw n) : Calls Try.prog 114 #[.int .i64 4, .int .i64 n, .int .u32 a, .int .u32 b] w (DoIs 4 n a b w) := by
  obtain ⟨m, rfl⟩ := Int.eq_ofNat_of_zero_le (show 0 ≤ n by omega)
  have hp := @pw_le32 (m : Int) (by omega)
  have x1 := sgn_lo32 (n := m) (a := a) (by omega) (by omega) h3
  have x2 := sgn_hi32 (n := m) (a := a) (by omega) (by omega) h4
  have y1 := sgn_lo32 (n := m) (a := b) (by omega) (by omega) h5
  have y2 := sgn_hi32 (n := m) (a := b) (by omega) (by omega) h6
  by_cases hb : b = 0
  · subst hb
    go_enter Try.func114, Try.ntmps114
    go_wp2_with (first | (go_at_call 111; refine (rSign_any _ _ _ (by omega) (by omega) (by omega) (by omega)).mono ?_; rintro e w' ⟨rfl, rfl⟩) | (go_at_call 112; refine (rWrap_any _ _ _ (by omega) (by omega) (by omega) (by omega)).mono ?_; rintro e w' ⟨rfl, rfl⟩) | (go_at_call 108; refine (size_any _ _ (by omega) (by omega)).mono ?_; rintro e w' ⟨rfl, rfl⟩))
    go_ret2
    exact do_not (by simp [has]) (Dr.refl _)
  · have hb1 : 1 ≤ b := by omega
    have hb2 : (b == 0) = false := by simpa using hb
    go_enter Try.func114, Try.ntmps114
    go_wp2_with (first | (go_at_call 111; refine (rSign_any _ _ _ (by omega) (by omega) (by omega) (by omega)).mono ?_; rintro e w' ⟨rfl, rfl⟩) | (go_at_call 112; refine (rWrap_any _ _ _ (by omega) (by omega) (by omega) (by omega)).mono ?_; rintro e w' ⟨rfl, rfl⟩) | (go_at_call 108; refine (size_any _ _ (by omega) (by omega)).mono ?_; rintro e w' ⟨rfl, rfl⟩))
    go_ret2
    exact do_is (by simp [has, hb]) (by simp [tot, hb]) (Dr.refl _)

set_option maxHeartbeats 1000000 in
theorem rdo_5 (n a b : Int) (w : World) (h1 : 1 ≤ n) (h2 : n ≤ 32) (h3 : 0 ≤ a) (h4 : a < pw n) (h5 : 0 ≤ b) (h6 : b < pw n) : Calls Try.prog 114 #[.int .i64 5, .int .i64 n, .int .u32 a, .int .u32 b] w (DoIs 5 n a b w) := by
  obtain ⟨m, rfl⟩ := Int.eq_ofNat_of_zero_le (show 0 ≤ n by omega)
  have hp := @pw_le32 (m : Int) (by omega)
  have x1 := sgn_lo32 (n := m) (a := a) (by omega) (by omega) h3
  have x2 := sgn_hi32 (n := m) (a := a) (by omega) (by omega) h4
  have y1 := sgn_lo32 (n := m) (a := b) (by omega) (by omega) h5
  have y2 := sgn_hi32 (n := m) (a := b) (by omega) (by omega) h6
  by_cases hb : b = 0
  · subst hb
    go_enter Try.func114, Try.ntmps114
    go_wp2_with (first | (go_at_call 111; refine (rSign_any _ _ _ (by omega) (by omega) (by omega) (by omega)).mono ?_; rintro e w' ⟨rfl, rfl⟩) | (go_at_call 112; refine (rWrap_any _ _ _ (by omega) (by omega) (by omega) (by omega)).mono ?_; rintro e w' ⟨rfl, rfl⟩) | (go_at_call 108; refine (size_any _ _ (by omega) (by omega)).mono ?_; rintro e w' ⟨rfl, rfl⟩))
    go_ret2
    exact do_not (by simp [has]) (Dr.refl _)
  · have hb1 : 1 ≤ b := by omega
    have hb2 : (b == 0) = false := by simpa using hb
    have u1 : 0 ≤ a / b := Int.ediv_nonneg h3 h5
    have u2 : 0 ≤ a / b * b := Int.mul_nonneg u1 h5
    have u3 : a / b * b ≤ a := Int.ediv_mul_le a hb
    have u4 : a % b = a - a / b * b := by rw [Int.emod_def, Int.mul_comm]
    have U4 := Lib.hid u4
    clear u4
    go_enter Try.func114, Try.ntmps114
    go_wp2_with (first | (go_at_call 111; refine (rSign_any _ _ _ (by omega) (by omega) (by omega) (by omega)).mono ?_; rintro e w' ⟨rfl, rfl⟩) | (go_at_call 112; refine (rWrap_any _ _ _ (by omega) (by omega) (by omega) (by omega)).mono ?_; rintro e w' ⟨rfl, rfl⟩) | (go_at_call 108; refine (size_any _ _ (by omega) (by omega)).mono ?_; rintro e w' ⟨rfl, rfl⟩))
    go_ret2
    exact do_is (by simp [has, hb]) (by simp [tot, hb]; exact U4.out) (Dr.refl _)

set_option maxHeartbeats 1000000 in
theorem rdo_6 (n a b : Int) (w : World) (h1 : 1 ≤ n) (h2 : n ≤ 32) (h3 : 0 ≤ a) (h4 : a < pw n) (h5 : 0 ≤ b) (h6 : b < pw n) : Calls Try.prog 114 #[.int .i64 6, .int .i64 n, .int .u32 a, .int .u32 b] w (DoIs 6 n a b w) := by
  obtain ⟨m, rfl⟩ := Int.eq_ofNat_of_zero_le (show 0 ≤ n by omega)
  have hp := @pw_le32 (m : Int) (by omega)
  have x1 := sgn_lo32 (n := m) (a := a) (by omega) (by omega) h3
  have x2 := sgn_hi32 (n := m) (a := a) (by omega) (by omega) h4
  have y1 := sgn_lo32 (n := m) (a := b) (by omega) (by omega) h5
  have y2 := sgn_hi32 (n := m) (a := b) (by omega) (by omega) h6
  have hp3 := @pw_le31 ((m : Int) - 1) (by omega)
  have hp4 := pw_pos ((m : Int) - 1)
  by_cases hb : b = 0
  · subst hb
    go_enter Try.func114, Try.ntmps114
    go_wp2_with (first | (go_at_call 111; refine (rSign_any _ _ _ (by omega) (by omega) (by omega) (by omega)).mono ?_; rintro e w' ⟨rfl, rfl⟩) | (go_at_call 112; refine (rWrap_any _ _ _ (by omega) (by omega) (by omega) (by omega)).mono ?_; rintro e w' ⟨rfl, rfl⟩) | (go_at_call 108; refine (size_any _ _ (by omega) (by omega)).mono ?_; rintro e w' ⟨rfl, rfl⟩))
    go_ret2
    exact do_not (by simp [has]) (Dr.refl _)
  have hb1 : (b == 0) = false := by simpa using hb
  by_cases hx : sgn m a = -pw (m - 1)
  · have hx1 : (sgn m a == -pw (m - 1)) = true := by simpa using hx
    by_cases hy : sgn m b = -1
    · have hy1 : (sgn m b == -1) = true := by simpa using hy
      have hc : has 6 m a b = false := by simp [has, hx, hy]
      clear hx hy hb
      go_enter Try.func114, Try.ntmps114
      go_wp2_with (first | (go_at_call 111; refine (rSign_any _ _ _ (by omega) (by omega) (by omega) (by omega)).mono ?_; rintro e w' ⟨rfl, rfl⟩) | (go_at_call 112; refine (rWrap_any _ _ _ (by omega) (by omega) (by omega) (by omega)).mono ?_; rintro e w' ⟨rfl, rfl⟩) | (go_at_call 108; refine (size_any _ _ (by omega) (by omega)).mono ?_; rintro e w' ⟨rfl, rfl⟩))
      go_ret2
      exact do_not hc (Dr.refl _)
    · have hy1 : (sgn m b == -1) = false := by simpa using hy
      have hc : has 6 m a b = true := by simp [has, hb, hx, hy]
      have ht : tot 6 m a b = wr m ((sgn m a).tdiv (sgn m b)) := by simp [tot, hb, hx, hy]
      have HT := Lib.hid ht
      clear ht hx hy
      have hz := sgn_zero (n := m) (b := b) (by omega) h6
      have hy0 : ¬ sgn m b = 0 := by omega
      clear hz
      have q := @tdiv_bd (sgn m a) (sgn m b) x1 (by omega)
      have r := @tmod_bd (sgn m a) (sgn m b) x1 (by omega)
      obtain ⟨q1, q2⟩ := q
      obtain ⟨r1, r2⟩ := r
      have e0 : wrap64 ((sgn m a).tdiv (sgn m b)) = (sgn m a).tdiv (sgn m b) := IntWalk.wrap64_in _ (by omega)
      have e1 := tmod_q (sgn m a) (sgn m b)
      clear hb
      go_enter Try.func114, Try.ntmps114
      go_wp2_with (first | (go_at_call 111; refine (rSign_any _ _ _ (by omega) (by omega) (by omega) (by omega)).mono ?_; rintro e w' ⟨rfl, rfl⟩) | (go_at_call 112; refine (rWrap_any _ _ _ (by omega) (by omega) (by omega) (by omega)).mono ?_; rintro e w' ⟨rfl, rfl⟩) | (go_at_call 108; refine (size_any _ _ (by omega) (by omega)).mono ?_; rintro e w' ⟨rfl, rfl⟩))
      go_ret2
      exact do_is hc HT.out (Dr.refl _)
  · have hx1 : (sgn m a == -pw (m - 1)) = false := by simpa using hx
    have hc : has 6 m a b = true := by simp [has, hb, hx]
    have ht : tot 6 m a b = wr m ((sgn m a).tdiv (sgn m b)) := by simp [tot, hb, hx]
    have HT := Lib.hid ht
    clear ht hx
    have hz := sgn_zero (n := m) (b := b) (by omega) h6
    have hy0 : ¬ sgn m b = 0 := by omega
    clear hz
    have q := @tdiv_bd (sgn m a) (sgn m b) x1 (by omega)
    have r := @tmod_bd (sgn m a) (sgn m b) x1 (by omega)
    obtain ⟨q1, q2⟩ := q
    obtain ⟨r1, r2⟩ := r
    have e0 : wrap64 ((sgn m a).tdiv (sgn m b)) = (sgn m a).tdiv (sgn m b) := IntWalk.wrap64_in _ (by omega)
    have e1 := tmod_q (sgn m a) (sgn m b)
    by_cases hy : sgn m b = -1
    · have hy1 : (sgn m b == -1) = true := by simpa using hy
      clear hy hb
      go_enter Try.func114, Try.ntmps114
      go_wp2_with (first | (go_at_call 111; refine (rSign_any _ _ _ (by omega) (by omega) (by omega) (by omega)).mono ?_; rintro e w' ⟨rfl, rfl⟩) | (go_at_call 112; refine (rWrap_any _ _ _ (by omega) (by omega) (by omega) (by omega)).mono ?_; rintro e w' ⟨rfl, rfl⟩) | (go_at_call 108; refine (size_any _ _ (by omega) (by omega)).mono ?_; rintro e w' ⟨rfl, rfl⟩))
      go_ret2
      exact do_is hc HT.out (Dr.refl _)
    · have hy1 : (sgn m b == -1) = false := by simpa using hy
      clear hy hb
      go_enter Try.func114, Try.ntmps114
      go_wp2_with (first | (go_at_call 111; refine (rSign_any _ _ _ (by omega) (by omega) (by omega) (by omega)).mono ?_; rintro e w' ⟨rfl, rfl⟩) | (go_at_call 112; refine (rWrap_any _ _ _ (by omega) (by omega) (by omega) (by omega)).mono ?_; rintro e w' ⟨rfl, rfl⟩) | (go_at_call 108; refine (size_any _ _ (by omega) (by omega)).mono ?_; rintro e w' ⟨rfl, rfl⟩))
      go_ret2
      exact do_is hc HT.out (Dr.refl _)

set_option maxHeartbeats 1000000 in
theorem rdo_7 (n a b : Int) (w : World) (h1 : 1 ≤ n) (h2 : n ≤ 32) (h3 : 0 ≤ a) (h4 : a < pw n) (h5 : 0 ≤ b) (h6 : b < pw n) : Calls Try.prog 114 #[.int .i64 7, .int .i64 n, .int .u32 a, .int .u32 b] w (DoIs 7 n a b w) := by
  obtain ⟨m, rfl⟩ := Int.eq_ofNat_of_zero_le (show 0 ≤ n by omega)
  have hp := @pw_le32 (m : Int) (by omega)
  have x1 := sgn_lo32 (n := m) (a := a) (by omega) (by omega) h3
  have x2 := sgn_hi32 (n := m) (a := a) (by omega) (by omega) h4
  have y1 := sgn_lo32 (n := m) (a := b) (by omega) (by omega) h5
  have y2 := sgn_hi32 (n := m) (a := b) (by omega) (by omega) h6
  have hp3 := @pw_le31 ((m : Int) - 1) (by omega)
  have hp4 := pw_pos ((m : Int) - 1)
  by_cases hb : b = 0
  · subst hb
    go_enter Try.func114, Try.ntmps114
    go_wp2_with (first | (go_at_call 111; refine (rSign_any _ _ _ (by omega) (by omega) (by omega) (by omega)).mono ?_; rintro e w' ⟨rfl, rfl⟩) | (go_at_call 112; refine (rWrap_any _ _ _ (by omega) (by omega) (by omega) (by omega)).mono ?_; rintro e w' ⟨rfl, rfl⟩) | (go_at_call 108; refine (size_any _ _ (by omega) (by omega)).mono ?_; rintro e w' ⟨rfl, rfl⟩))
    go_ret2
    exact do_not (by simp [has]) (Dr.refl _)
  have hb1 : (b == 0) = false := by simpa using hb
  by_cases hx : sgn m a = -pw (m - 1)
  · have hx1 : (sgn m a == -pw (m - 1)) = true := by simpa using hx
    by_cases hy : sgn m b = -1
    · have hy1 : (sgn m b == -1) = true := by simpa using hy
      have hc : has 7 m a b = false := by simp [has, hx, hy]
      clear hx hy hb
      go_enter Try.func114, Try.ntmps114
      go_wp2_with (first | (go_at_call 111; refine (rSign_any _ _ _ (by omega) (by omega) (by omega) (by omega)).mono ?_; rintro e w' ⟨rfl, rfl⟩) | (go_at_call 112; refine (rWrap_any _ _ _ (by omega) (by omega) (by omega) (by omega)).mono ?_; rintro e w' ⟨rfl, rfl⟩) | (go_at_call 108; refine (size_any _ _ (by omega) (by omega)).mono ?_; rintro e w' ⟨rfl, rfl⟩))
      go_ret2
      exact do_not hc (Dr.refl _)
    · have hy1 : (sgn m b == -1) = false := by simpa using hy
      have hc : has 7 m a b = true := by simp [has, hb, hx, hy]
      have ht : tot 7 m a b = wr m ((sgn m a).tmod (sgn m b)) := by simp [tot, hb, hx, hy]
      have HT := Lib.hid ht
      clear ht hx hy
      have hz := sgn_zero (n := m) (b := b) (by omega) h6
      have hy0 : ¬ sgn m b = 0 := by omega
      clear hz
      have q := @tdiv_bd (sgn m a) (sgn m b) x1 (by omega)
      have r := @tmod_bd (sgn m a) (sgn m b) x1 (by omega)
      obtain ⟨q1, q2⟩ := q
      obtain ⟨r1, r2⟩ := r
      have e0 : wrap64 ((sgn m a).tdiv (sgn m b)) = (sgn m a).tdiv (sgn m b) := IntWalk.wrap64_in _ (by omega)
      have e1 := tmod_q (sgn m a) (sgn m b)
      clear hb
      go_enter Try.func114, Try.ntmps114
      go_wp2_with (first | (go_at_call 111; refine (rSign_any _ _ _ (by omega) (by omega) (by omega) (by omega)).mono ?_; rintro e w' ⟨rfl, rfl⟩) | (go_at_call 112; refine (rWrap_any _ _ _ (by omega) (by omega) (by omega) (by omega)).mono ?_; rintro e w' ⟨rfl, rfl⟩) | (go_at_call 108; refine (size_any _ _ (by omega) (by omega)).mono ?_; rintro e w' ⟨rfl, rfl⟩))
      go_ret2
      exact do_is hc (HT.out.trans (congrArg (wr m) (by omega))) (Dr.refl _)
  · have hx1 : (sgn m a == -pw (m - 1)) = false := by simpa using hx
    have hc : has 7 m a b = true := by simp [has, hb, hx]
    have ht : tot 7 m a b = wr m ((sgn m a).tmod (sgn m b)) := by simp [tot, hb, hx]
    have HT := Lib.hid ht
    clear ht hx
    have hz := sgn_zero (n := m) (b := b) (by omega) h6
    have hy0 : ¬ sgn m b = 0 := by omega
    clear hz
    have q := @tdiv_bd (sgn m a) (sgn m b) x1 (by omega)
    have r := @tmod_bd (sgn m a) (sgn m b) x1 (by omega)
    obtain ⟨q1, q2⟩ := q
    obtain ⟨r1, r2⟩ := r
    have e0 : wrap64 ((sgn m a).tdiv (sgn m b)) = (sgn m a).tdiv (sgn m b) := IntWalk.wrap64_in _ (by omega)
    have e1 := tmod_q (sgn m a) (sgn m b)
    by_cases hy : sgn m b = -1
    · have hy1 : (sgn m b == -1) = true := by simpa using hy
      clear hy hb
      go_enter Try.func114, Try.ntmps114
      go_wp2_with (first | (go_at_call 111; refine (rSign_any _ _ _ (by omega) (by omega) (by omega) (by omega)).mono ?_; rintro e w' ⟨rfl, rfl⟩) | (go_at_call 112; refine (rWrap_any _ _ _ (by omega) (by omega) (by omega) (by omega)).mono ?_; rintro e w' ⟨rfl, rfl⟩) | (go_at_call 108; refine (size_any _ _ (by omega) (by omega)).mono ?_; rintro e w' ⟨rfl, rfl⟩))
      go_ret2
      exact do_is hc (HT.out.trans (congrArg (wr m) (by omega))) (Dr.refl _)
    · have hy1 : (sgn m b == -1) = false := by simpa using hy
      clear hy hb
      go_enter Try.func114, Try.ntmps114
      go_wp2_with (first | (go_at_call 111; refine (rSign_any _ _ _ (by omega) (by omega) (by omega) (by omega)).mono ?_; rintro e w' ⟨rfl, rfl⟩) | (go_at_call 112; refine (rWrap_any _ _ _ (by omega) (by omega) (by omega) (by omega)).mono ?_; rintro e w' ⟨rfl, rfl⟩) | (go_at_call 108; refine (size_any _ _ (by omega) (by omega)).mono ?_; rintro e w' ⟨rfl, rfl⟩))
      go_ret2
      exact do_is hc (HT.out.trans (congrArg (wr m) (by omega))) (Dr.refl _)

set_option maxHeartbeats 1000000 in
theorem rdo_8 (n a b : Int) (w : World) (h1 : 1 ≤ n) (h2 : n ≤ 32) (h3 : 0 ≤ a) (h4 : a < pw n) (h5 : 0 ≤ b) (h6 : b < pw n) : Calls Try.prog 114 #[.int .i64 8, .int .i64 n, .int .u32 a, .int .u32 b] w (DoIs 8 n a b w) := by
  obtain ⟨m, rfl⟩ := Int.eq_ofNat_of_zero_le (show 0 ≤ n by omega)
  have hp := @pw_le32 (m : Int) (by omega)
  have x1 := sgn_lo32 (n := m) (a := a) (by omega) (by omega) h3
  have x2 := sgn_hi32 (n := m) (a := a) (by omega) (by omega) h4
  have y1 := sgn_lo32 (n := m) (a := b) (by omega) (by omega) h5
  have y2 := sgn_hi32 (n := m) (a := b) (by omega) (by omega) h6
  go_enter Try.func114, Try.ntmps114
  go_wp2_with (first | (go_at_call 111; refine (rSign_any _ _ _ (by omega) (by omega) (by omega) (by omega)).mono ?_; rintro e w' ⟨rfl, rfl⟩) | (go_at_call 112; refine (rWrap_any _ _ _ (by omega) (by omega) (by omega) (by omega)).mono ?_; rintro e w' ⟨rfl, rfl⟩) | (go_at_call 108; refine (size_any _ _ (by omega) (by omega)).mono ?_; rintro e w' ⟨rfl, rfl⟩) | (go_at_call 128; refine (bitwise_and _ _ _ _ (by omega) (by omega) (by omega) (by omega) (by omega) (by omega)).mono ?_; rintro e w' ⟨rfl, hd1⟩))
  go_ret2
  exact do_is (by simp [has]) (by simp [tot]) hd1

set_option maxHeartbeats 1000000 in
theorem rdo_9 (n a b : Int) (w : World) (h1 : 1 ≤ n) (h2 : n ≤ 32) (h3 : 0 ≤ a) (h4 : a < pw n) (h5 : 0 ≤ b) (h6 : b < pw n) : Calls Try.prog 114 #[.int .i64 9, .int .i64 n, .int .u32 a, .int .u32 b] w (DoIs 9 n a b w) := by
  obtain ⟨m, rfl⟩ := Int.eq_ofNat_of_zero_le (show 0 ≤ n by omega)
  have hp := @pw_le32 (m : Int) (by omega)
  have x1 := sgn_lo32 (n := m) (a := a) (by omega) (by omega) h3
  have x2 := sgn_hi32 (n := m) (a := a) (by omega) (by omega) h4
  have y1 := sgn_lo32 (n := m) (a := b) (by omega) (by omega) h5
  have y2 := sgn_hi32 (n := m) (a := b) (by omega) (by omega) h6
  go_enter Try.func114, Try.ntmps114
  go_wp2_with (first | (go_at_call 111; refine (rSign_any _ _ _ (by omega) (by omega) (by omega) (by omega)).mono ?_; rintro e w' ⟨rfl, rfl⟩) | (go_at_call 112; refine (rWrap_any _ _ _ (by omega) (by omega) (by omega) (by omega)).mono ?_; rintro e w' ⟨rfl, rfl⟩) | (go_at_call 108; refine (size_any _ _ (by omega) (by omega)).mono ?_; rintro e w' ⟨rfl, rfl⟩) | (go_at_call 128; refine (bitwise_or _ _ _ _ (by omega) (by omega) (by omega) (by omega) (by omega) (by omega)).mono ?_; rintro e w' ⟨rfl, hd1⟩))
  go_ret2
  exact do_is (by simp [has]) (by simp [tot]) hd1

set_option maxHeartbeats 1000000 in
theorem rdo_10 (n a b : Int) (w : World) (h1 : 1 ≤ n) (h2 : n ≤ 32) (h3 : 0 ≤ a) (h4 : a < pw n) (h5 : 0 ≤ b) (h6 : b < pw n) : Calls Try.prog 114 #[.int .i64 10, .int .i64 n, .int .u32 a, .int .u32 b] w (DoIs 10 n a b w) := by
  obtain ⟨m, rfl⟩ := Int.eq_ofNat_of_zero_le (show 0 ≤ n by omega)
  have hp := @pw_le32 (m : Int) (by omega)
  have x1 := sgn_lo32 (n := m) (a := a) (by omega) (by omega) h3
  have x2 := sgn_hi32 (n := m) (a := a) (by omega) (by omega) h4
  have y1 := sgn_lo32 (n := m) (a := b) (by omega) (by omega) h5
  have y2 := sgn_hi32 (n := m) (a := b) (by omega) (by omega) h6
  go_enter Try.func114, Try.ntmps114
  go_wp2_with (first | (go_at_call 111; refine (rSign_any _ _ _ (by omega) (by omega) (by omega) (by omega)).mono ?_; rintro e w' ⟨rfl, rfl⟩) | (go_at_call 112; refine (rWrap_any _ _ _ (by omega) (by omega) (by omega) (by omega)).mono ?_; rintro e w' ⟨rfl, rfl⟩) | (go_at_call 108; refine (size_any _ _ (by omega) (by omega)).mono ?_; rintro e w' ⟨rfl, rfl⟩) | (go_at_call 128; refine (bitwise_xor _ _ _ _ (by omega) (by omega) (by omega) (by omega) (by omega) (by omega)).mono ?_; rintro e w' ⟨rfl, hd1⟩))
  go_ret2
  exact do_is (by simp [has]) (by simp [tot]) hd1

set_option maxHeartbeats 1000000 in
theorem rdo_11 (n a b : Int) (w : World) (h1 : 1 ≤ n) (h2 : n ≤ 32) (h3 : 0 ≤ a) (h4 : a < pw n) (h5 : 0 ≤ b) (h6 : b < pw n) : Calls Try.prog 114 #[.int .i64 11, .int .i64 n, .int .u32 a, .int .u32 b] w (DoIs 11 n a b w) := by
  obtain ⟨m, rfl⟩ := Int.eq_ofNat_of_zero_le (show 0 ≤ n by omega)
  have hp := @pw_le32 (m : Int) (by omega)
  have x1 := sgn_lo32 (n := m) (a := a) (by omega) (by omega) h3
  have x2 := sgn_hi32 (n := m) (a := a) (by omega) (by omega) h4
  have y1 := sgn_lo32 (n := m) (a := b) (by omega) (by omega) h5
  have y2 := sgn_hi32 (n := m) (a := b) (by omega) (by omega) h6
  by_cases hb : (m : Int) ≤ b
  · have hc : has 11 m a b = false := by simp [has, hb]
    go_enter Try.func114, Try.ntmps114
    go_wp2_with (first | (go_at_call 111; refine (rSign_any _ _ _ (by omega) (by omega) (by omega) (by omega)).mono ?_; rintro e w' ⟨rfl, rfl⟩) | (go_at_call 112; refine (rWrap_any _ _ _ (by omega) (by omega) (by omega) (by omega)).mono ?_; rintro e w' ⟨rfl, rfl⟩) | (go_at_call 108; refine (size_any _ _ (by omega) (by omega)).mono ?_; rintro e w' ⟨rfl, rfl⟩) | (go_at_call 128; refine (bitwise_none _ _ _ _ _ (by omega) (by omega) (by omega) (by omega) (by omega)).mono ?_; rintro e w' ⟨rfl, hd1⟩))
    go_ret2
    exact do_not hc hd1
  · obtain ⟨k, rfl⟩ := Int.eq_ofNat_of_zero_le h5
    have hc : has 11 m a k = true := by simp [has]; omega
    go_enter Try.func114, Try.ntmps114
    go_wp2_with (first | (go_at_call 111; refine (rSign_any _ _ _ (by omega) (by omega) (by omega) (by omega)).mono ?_; rintro e w' ⟨rfl, rfl⟩) | (go_at_call 112; refine (rWrap_any _ _ _ (by omega) (by omega) (by omega) (by omega)).mono ?_; rintro e w' ⟨rfl, rfl⟩) | (go_at_call 108; refine (size_any _ _ (by omega) (by omega)).mono ?_; rintro e w' ⟨rfl, rfl⟩) | (go_at_call 128; refine (bitwise_shl _ _ _ _ (by omega) (by omega) (by omega) (by omega) (by omega)).mono ?_; rintro e w' ⟨rfl, hd1⟩))
    go_ret2
    exact do_is hc (by simp [tot, pw_nat]; intro h; exact absurd h (by omega)) hd1

set_option maxHeartbeats 1000000 in
theorem rdo_12 (n a b : Int) (w : World) (h1 : 1 ≤ n) (h2 : n ≤ 32) (h3 : 0 ≤ a) (h4 : a < pw n) (h5 : 0 ≤ b) (h6 : b < pw n) : Calls Try.prog 114 #[.int .i64 12, .int .i64 n, .int .u32 a, .int .u32 b] w (DoIs 12 n a b w) := by
  obtain ⟨m, rfl⟩ := Int.eq_ofNat_of_zero_le (show 0 ≤ n by omega)
  have hp := @pw_le32 (m : Int) (by omega)
  have x1 := sgn_lo32 (n := m) (a := a) (by omega) (by omega) h3
  have x2 := sgn_hi32 (n := m) (a := a) (by omega) (by omega) h4
  have y1 := sgn_lo32 (n := m) (a := b) (by omega) (by omega) h5
  have y2 := sgn_hi32 (n := m) (a := b) (by omega) (by omega) h6
  by_cases hb : (m : Int) ≤ b
  · have hc : has 12 m a b = false := by simp [has, hb]
    go_enter Try.func114, Try.ntmps114
    go_wp2_with (first | (go_at_call 111; refine (rSign_any _ _ _ (by omega) (by omega) (by omega) (by omega)).mono ?_; rintro e w' ⟨rfl, rfl⟩) | (go_at_call 112; refine (rWrap_any _ _ _ (by omega) (by omega) (by omega) (by omega)).mono ?_; rintro e w' ⟨rfl, rfl⟩) | (go_at_call 108; refine (size_any _ _ (by omega) (by omega)).mono ?_; rintro e w' ⟨rfl, rfl⟩) | (go_at_call 128; refine (bitwise_none _ _ _ _ _ (by omega) (by omega) (by omega) (by omega) (by omega)).mono ?_; rintro e w' ⟨rfl, hd1⟩))
    go_ret2
    exact do_not hc hd1
  · obtain ⟨k, rfl⟩ := Int.eq_ofNat_of_zero_le h5
    have hc : has 12 m a k = true := by simp [has]; omega
    go_enter Try.func114, Try.ntmps114
    go_wp2_with (first | (go_at_call 111; refine (rSign_any _ _ _ (by omega) (by omega) (by omega) (by omega)).mono ?_; rintro e w' ⟨rfl, rfl⟩) | (go_at_call 112; refine (rWrap_any _ _ _ (by omega) (by omega) (by omega) (by omega)).mono ?_; rintro e w' ⟨rfl, rfl⟩) | (go_at_call 108; refine (size_any _ _ (by omega) (by omega)).mono ?_; rintro e w' ⟨rfl, rfl⟩) | (go_at_call 128; refine (bitwise_lshr _ _ _ _ (by omega) (by omega) (by omega) (by omega) (by omega)).mono ?_; rintro e w' ⟨rfl, hd1⟩))
    go_ret2
    exact do_is hc (by simp [tot, pw_nat]; intro h; exact absurd h (by omega)) hd1

set_option maxHeartbeats 1000000 in
theorem rdo_13 (n a b : Int) (w : World) (h1 : 1 ≤ n) (h2 : n ≤ 32) (h3 : 0 ≤ a) (h4 : a < pw n) (h5 : 0 ≤ b) (h6 : b < pw n) : Calls Try.prog 114 #[.int .i64 13, .int .i64 n, .int .u32 a, .int .u32 b] w (DoIs 13 n a b w) := by
  obtain ⟨m, rfl⟩ := Int.eq_ofNat_of_zero_le (show 0 ≤ n by omega)
  have hp := @pw_le32 (m : Int) (by omega)
  have x1 := sgn_lo32 (n := m) (a := a) (by omega) (by omega) h3
  have x2 := sgn_hi32 (n := m) (a := a) (by omega) (by omega) h4
  have y1 := sgn_lo32 (n := m) (a := b) (by omega) (by omega) h5
  have y2 := sgn_hi32 (n := m) (a := b) (by omega) (by omega) h6
  by_cases hb : (m : Int) ≤ b
  · have hc : has 13 m a b = false := by simp [has, hb]
    go_enter Try.func114, Try.ntmps114
    go_wp2_with (first | (go_at_call 111; refine (rSign_any _ _ _ (by omega) (by omega) (by omega) (by omega)).mono ?_; rintro e w' ⟨rfl, rfl⟩) | (go_at_call 112; refine (rWrap_any _ _ _ (by omega) (by omega) (by omega) (by omega)).mono ?_; rintro e w' ⟨rfl, rfl⟩) | (go_at_call 108; refine (size_any _ _ (by omega) (by omega)).mono ?_; rintro e w' ⟨rfl, rfl⟩) | (go_at_call 128; refine (bitwise_none _ _ _ _ _ (by omega) (by omega) (by omega) (by omega) (by omega)).mono ?_; rintro e w' ⟨rfl, hd1⟩))
    go_ret2
    exact do_not hc hd1
  · obtain ⟨k, rfl⟩ := Int.eq_ofNat_of_zero_le h5
    have hc : has 13 m a k = true := by simp [has]; omega
    go_enter Try.func114, Try.ntmps114
    go_wp2_with (first | (go_at_call 111; refine (rSign_any _ _ _ (by omega) (by omega) (by omega) (by omega)).mono ?_; rintro e w' ⟨rfl, rfl⟩) | (go_at_call 112; refine (rWrap_any _ _ _ (by omega) (by omega) (by omega) (by omega)).mono ?_; rintro e w' ⟨rfl, rfl⟩) | (go_at_call 108; refine (size_any _ _ (by omega) (by omega)).mono ?_; rintro e w' ⟨rfl, rfl⟩) | (go_at_call 128; refine (bitwise_ashr _ _ _ _ (by omega) (by omega) (by omega) (by omega) (by omega)).mono ?_; rintro e w' ⟨rfl, hd1⟩))
    go_ret2
    exact do_is hc (by simp [tot, pw_nat]; intro h; exact absurd h (by omega)) hd1

end Go.Proofs.Ythopdfikikdcbaa
/- Walks of backstayref01.two, do, Do, Total: what each returns, said of numbers. -/
namespace Go.Proofs.Ythopdfikikdcbaa
open Go.RowKit Wd

theorem rtwo_ok (op n a b : Int) (w : World) (g : good op n a b = true) (h3 : 0 ≤ a) (h4 : a ≤ 4294967295) (h5 : 0 ≤ b) (h6 : b ≤ 4294967295) : Calls Try.prog 113 #[.int .i64 op, .int .i64 n, .int .u32 a, .int .u32 b] w fun e w' => e = .returned (.int .i64 0) ∧ w = w' := by
  obtain ⟨g1, g2, g3, g4, g5, g6⟩ := (good_iff _ _ _ _).1 g
  have hw : isW n = true := by simp [isW, g3, g4]
  have fa : fit n a = true := by simp [fit, g5]
  have fb : fit n b = true := by simp [fit, g6]
  go_enter Try.func113, Try.ntmps113
  go_wp2_with (first | (go_at_call 107; refine (rIsWidth_any _ _).mono ?_; rintro e w' ⟨rfl, rfl⟩) | (go_at_call 85; refine (rIsWord_any _ _ _ (by omega) (by omega)).mono ?_; rintro e w' ⟨rfl, rfl⟩))
  go_ret
  exact ⟨rfl, rfl⟩

theorem rtwo_no (op n a b : Int) (w : World) (g : good op n a b = false) (h3 : 0 ≤ a) (h4 : a ≤ 4294967295) (h5 : 0 ≤ b) (h6 : b ≤ 4294967295) : Calls Try.prog 113 #[.int .i64 op, .int .i64 n, .int .u32 a, .int .u32 b] w fun e w' => e = .returned (.int .i64 1) ∧ w = w' := by
  by_cases hw : isW n = true
  · by_cases o1 : op < 1
    · clear g
      go_enter Try.func113, Try.ntmps113
      go_wp2_with (first | (go_at_call 107; refine (rIsWidth_any _ _).mono ?_; rintro e w' ⟨rfl, rfl⟩) | (go_at_call 85; refine (rIsWord_any _ _ _ (by omega) (by omega)).mono ?_; rintro e w' ⟨rfl, rfl⟩))
      go_ret
      exact ⟨rfl, rfl⟩
    · by_cases o2 : 13 < op
      · clear g
        go_enter Try.func113, Try.ntmps113
        go_wp2_with (first | (go_at_call 107; refine (rIsWidth_any _ _).mono ?_; rintro e w' ⟨rfl, rfl⟩) | (go_at_call 85; refine (rIsWord_any _ _ _ (by omega) (by omega)).mono ?_; rintro e w' ⟨rfl, rfl⟩))
        go_ret
        exact ⟨rfl, rfl⟩
      · by_cases fa : fit n a = true
        · have fb : fit n b = false := by
            have h12 : 1 ≤ n ∧ n ≤ 32 := by simpa [isW] using hw
            have g5 : a < pw n := by simpa [fit] using fa
            rcases Bool.eq_false_or_eq_true (fit n b) with g6 | g6
            · have g6 : b < pw n := by simpa [fit] using g6
              have := (good_iff op n a b).2 ⟨by omega, by omega, h12.1, h12.2, g5, g6⟩
              rw [g] at this; cases this
            · exact g6
          clear g
          have d1 : decide (op < 1) = false := by simpa using o1
          have d2 : decide (13 < op) = false := by simpa using o2
          clear o1 o2
          go_enter Try.func113, Try.ntmps113
          go_wp2_with (first | (go_at_call 107; refine (rIsWidth_any _ _).mono ?_; rintro e w' ⟨rfl, rfl⟩) | (go_at_call 85; refine (rIsWord_any _ _ _ (by omega) (by omega)).mono ?_; rintro e w' ⟨rfl, rfl⟩))
          go_ret
          exact ⟨rfl, rfl⟩
        · have fa : fit n a = false := by simpa using fa
          clear g
          have d1 : decide (op < 1) = false := by simpa using o1
          have d2 : decide (13 < op) = false := by simpa using o2
          clear o1 o2
          go_enter Try.func113, Try.ntmps113
          go_wp2_with (first | (go_at_call 107; refine (rIsWidth_any _ _).mono ?_; rintro e w' ⟨rfl, rfl⟩) | (go_at_call 85; refine (rIsWord_any _ _ _ (by omega) (by omega)).mono ?_; rintro e w' ⟨rfl, rfl⟩))
          go_ret
          exact ⟨rfl, rfl⟩
  · have hw : isW n = false := by simpa using hw
    clear g
    go_enter Try.func113, Try.ntmps113
    go_wp2_with (first | (go_at_call 107; refine (rIsWidth_any _ _).mono ?_; rintro e w' ⟨rfl, rfl⟩) | (go_at_call 85; refine (rIsWord_any _ _ _ (by omega) (by omega)).mono ?_; rintro e w' ⟨rfl, rfl⟩))
    go_ret
    exact ⟨rfl, rfl⟩

theorem rdo_all (op n a b : Int) (w : World) (g : good op n a b = true) (h3 : 0 ≤ a) (h5 : 0 ≤ b) : Calls Try.prog 114 #[.int .i64 op, .int .i64 n, .int .u32 a, .int .u32 b] w (DoIs op n a b w) := by
  obtain ⟨g1, g2, g3, g4, g5, g6⟩ := (good_iff _ _ _ _).1 g
  have h : op = 1 ∨ op = 2 ∨ op = 3 ∨ op = 4 ∨ op = 5 ∨ op = 6 ∨ op = 7 ∨ op = 8 ∨ op = 9 ∨ op = 10 ∨ op = 11 ∨ op = 12 ∨ op = 13 := by omega
  rcases h with rfl | rfl | rfl | rfl | rfl | rfl | rfl | rfl | rfl | rfl | rfl | rfl | rfl
  · exact rdo_1 n a b w g3 g4 h3 g5 h5 g6
  · exact rdo_2 n a b w g3 g4 h3 g5 h5 g6
  · exact rdo_3 n a b w g3 g4 h3 g5 h5 g6
  · exact rdo_4 n a b w g3 g4 h3 g5 h5 g6
  · exact rdo_5 n a b w g3 g4 h3 g5 h5 g6
  · exact rdo_6 n a b w g3 g4 h3 g5 h5 g6
  · exact rdo_7 n a b w g3 g4 h3 g5 h5 g6
  · exact rdo_8 n a b w g3 g4 h3 g5 h5 g6
  · exact rdo_9 n a b w g3 g4 h3 g5 h5 g6
  · exact rdo_10 n a b w g3 g4 h3 g5 h5 g6
  · exact rdo_11 n a b w g3 g4 h3 g5 h5 g6
  · exact rdo_12 n a b w g3 g4 h3 g5 h5 g6
  · exact rdo_13 n a b w g3 g4 h3 g5 h5 g6
theorem rdo_yes (op n a b : Int) (w : World) (g : good op n a b = true) (h3 : 0 ≤ a) (h5 : 0 ≤ b) (h : has op n a b = true) : Calls Try.prog 114 #[.int .i64 op, .int .i64 n, .int .u32 a, .int .u32 b] w fun e w' => e = .returned (.tuple #[.int .u32 (tot op n a b), .bool true]) ∧ Dr w w' :=
  (rdo_all op n a b w g h3 h5).mono fun e w' hh => ⟨by rw [hh.1, h]; rfl, hh.2⟩
theorem rdo_nope (op n a b : Int) (w : World) (g : good op n a b = true) (h3 : 0 ≤ a) (h5 : 0 ≤ b) (h : has op n a b = false) : Calls Try.prog 114 #[.int .i64 op, .int .i64 n, .int .u32 a, .int .u32 b] w fun e w' => e = .returned (.tuple #[.int .u32 0, .bool false]) ∧ Dr w w' :=
  (rdo_all op n a b w g h3 h5).mono fun e w' hh => ⟨by rw [hh.1, h]; rfl, hh.2⟩

/-- What Do returns. -/
def doV (op n a b : Int) : Value := if good op n a b = true then (if has op n a b = true then .tuple #[.int .u32 (tot op n a b), .bool true, .int .i64 0] else .tuple #[.int .u32 0, .bool false, .int .i64 0]) else .tuple #[.int .u32 0, .bool false, .int .i64 1]
/-- What Total returns. -/
def totV (op n a b : Int) : Value := if good op n a b = true then .tuple #[.int .u32 (tot op n a b), .int .i64 0] else .tuple #[.int .u32 0, .int .i64 1]

theorem ret_t {x y : Int} {v : Value} (h : y = x) : Ending.returned (.tuple #[.int .u32 x, v]) = .returned (.tuple #[.int .u32 y, v]) := by rw [h]
set_option maxHeartbeats 1000000 in
theorem rTotal_nope (op n a b : Int) (w : World) (g : good op n a b = true) (h3 : 0 ≤ a) (h5 : 0 ≤ b) (h : has op n a b = false) : Calls Try.prog 88 #[.int .i64 op, .int .i64 n, .int .u32 a, .int .u32 b] w fun e w' => e = .returned (.tuple #[.int .u32 (tot op n a b), .int .i64 0]) ∧ Dr w w' := by
  obtain ⟨g1, g2, g3, g4, g5, g6⟩ := (good_iff _ _ _ _).1 g
  have hp := pw_le32 g4
  have hp0 := pw_pos n
  have o : op = 4 ∨ op = 5 ∨ op = 6 ∨ op = 7 ∨ op = 11 ∨ op = 12 ∨ op = 13 := by
    by_cases o1 : op = 4 ∨ op = 5
    · omega
    by_cases o2 : op = 6 ∨ op = 7
    · omega
    by_cases o3 : op = 11 ∨ op = 12 ∨ op = 13
    · omega
    simp [has, o1, o2, o3] at h
  rcases o with rfl | rfl | rfl | rfl | rfl | rfl | rfl
  · have hb : b = 0 := by simpa [has] using h
    have hv : tot 4 n a b = pw n - 1 := by simp [tot, hb]
    rw [hv]
    clear hv hb
    go_enter Try.func88, Try.ntmps88
    go_wp2_with (first | (go_at_call 113; refine (rtwo_ok _ _ _ _ _ (by assumption) (by omega) (by omega) (by omega) (by omega)).mono ?_; rintro e w' ⟨rfl, rfl⟩) | (go_at_call 114; refine (rdo_nope _ _ _ _ _ (by assumption) (by omega) (by omega) (by assumption)).mono ?_; rintro e w' ⟨rfl, hd1⟩) | (go_at_call 108; refine (size_any _ _ (by omega) (by omega)).mono ?_; rintro e w' ⟨rfl, rfl⟩) | (go_at_call 111; refine (rSign_any _ _ _ (by omega) (by omega) (by omega) (by omega)).mono ?_; rintro e w' ⟨rfl, rfl⟩))
    go_ret2
    exact ⟨rfl, hd1⟩
  · have hb : b = 0 := by simpa [has] using h
    have hv : tot 5 n a b = a := by simp [tot, hb]
    rw [hv]
    clear hv hb
    go_enter Try.func88, Try.ntmps88
    go_wp2_with (first | (go_at_call 113; refine (rtwo_ok _ _ _ _ _ (by assumption) (by omega) (by omega) (by omega) (by omega)).mono ?_; rintro e w' ⟨rfl, rfl⟩) | (go_at_call 114; refine (rdo_nope _ _ _ _ _ (by assumption) (by omega) (by omega) (by assumption)).mono ?_; rintro e w' ⟨rfl, hd1⟩) | (go_at_call 108; refine (size_any _ _ (by omega) (by omega)).mono ?_; rintro e w' ⟨rfl, rfl⟩) | (go_at_call 111; refine (rSign_any _ _ _ (by omega) (by omega) (by omega) (by omega)).mono ?_; rintro e w' ⟨rfl, rfl⟩))
    go_ret2
    exact ⟨rfl, hd1⟩
  · by_cases hb : b = 0
    · have hb2 : (b != 0) = false := by simpa using hb
      rcases Int.lt_or_le (sgn n a) 0 with hs | hs
      · have hv : tot 6 n a b = 1 := by simp [tot, hb, hs]
        rw [hv]
        clear hv hb
        go_enter Try.func88, Try.ntmps88
        go_wp2_with (first | (go_at_call 113; refine (rtwo_ok _ _ _ _ _ (by assumption) (by omega) (by omega) (by omega) (by omega)).mono ?_; rintro e w' ⟨rfl, rfl⟩) | (go_at_call 114; refine (rdo_nope _ _ _ _ _ (by assumption) (by omega) (by omega) (by assumption)).mono ?_; rintro e w' ⟨rfl, hd1⟩) | (go_at_call 108; refine (size_any _ _ (by omega) (by omega)).mono ?_; rintro e w' ⟨rfl, rfl⟩) | (go_at_call 111; refine (rSign_any _ _ _ (by omega) (by omega) (by omega) (by omega)).mono ?_; rintro e w' ⟨rfl, rfl⟩))
        go_ret2
        exact ⟨rfl, hd1⟩
      · have hv : tot 6 n a b = pw n - 1 := by simp [tot, hb]; intro; omega
        rw [hv]
        clear hv hb
        go_enter Try.func88, Try.ntmps88
        go_wp2_with (first | (go_at_call 113; refine (rtwo_ok _ _ _ _ _ (by assumption) (by omega) (by omega) (by omega) (by omega)).mono ?_; rintro e w' ⟨rfl, rfl⟩) | (go_at_call 114; refine (rdo_nope _ _ _ _ _ (by assumption) (by omega) (by omega) (by assumption)).mono ?_; rintro e w' ⟨rfl, hd1⟩) | (go_at_call 108; refine (size_any _ _ (by omega) (by omega)).mono ?_; rintro e w' ⟨rfl, rfl⟩) | (go_at_call 111; refine (rSign_any _ _ _ (by omega) (by omega) (by omega) (by omega)).mono ?_; rintro e w' ⟨rfl, rfl⟩))
        go_ret2
        exact ⟨rfl, hd1⟩
    · have hb2 : (b != 0) = true := by simpa using hb
      have hx : sgn n a = -pw (n - 1) ∧ sgn n b = -1 := by simpa [has, hb] using h
      have hv : tot 6 n a b = a := by simp [tot, hb, hx]
      rw [hv]
      clear hv hb hx
      go_enter Try.func88, Try.ntmps88
      go_wp2_with (first | (go_at_call 113; refine (rtwo_ok _ _ _ _ _ (by assumption) (by omega) (by omega) (by omega) (by omega)).mono ?_; rintro e w' ⟨rfl, rfl⟩) | (go_at_call 114; refine (rdo_nope _ _ _ _ _ (by assumption) (by omega) (by omega) (by assumption)).mono ?_; rintro e w' ⟨rfl, hd1⟩) | (go_at_call 108; refine (size_any _ _ (by omega) (by omega)).mono ?_; rintro e w' ⟨rfl, rfl⟩) | (go_at_call 111; refine (rSign_any _ _ _ (by omega) (by omega) (by omega) (by omega)).mono ?_; rintro e w' ⟨rfl, rfl⟩))
      go_ret2
      exact ⟨rfl, hd1⟩
  · by_cases hb : b = 0
    · have hb2 : (b != 0) = false := by simpa using hb
      have hv : tot 7 n a b = a := by simp [tot, hb]
      rw [hv]
      clear hv hb
      go_enter Try.func88, Try.ntmps88
      go_wp2_with (first | (go_at_call 113; refine (rtwo_ok _ _ _ _ _ (by assumption) (by omega) (by omega) (by omega) (by omega)).mono ?_; rintro e w' ⟨rfl, rfl⟩) | (go_at_call 114; refine (rdo_nope _ _ _ _ _ (by assumption) (by omega) (by omega) (by assumption)).mono ?_; rintro e w' ⟨rfl, hd1⟩) | (go_at_call 108; refine (size_any _ _ (by omega) (by omega)).mono ?_; rintro e w' ⟨rfl, rfl⟩) | (go_at_call 111; refine (rSign_any _ _ _ (by omega) (by omega) (by omega) (by omega)).mono ?_; rintro e w' ⟨rfl, rfl⟩))
      go_ret2
      exact ⟨rfl, hd1⟩
    · have hb2 : (b != 0) = true := by simpa using hb
      have hx : sgn n a = -pw (n - 1) ∧ sgn n b = -1 := by simpa [has, hb] using h
      have hv : tot 7 n a b = 0 := by simp [tot, hb, hx]
      rw [hv]
      clear hv hb hx
      go_enter Try.func88, Try.ntmps88
      go_wp2_with (first | (go_at_call 113; refine (rtwo_ok _ _ _ _ _ (by assumption) (by omega) (by omega) (by omega) (by omega)).mono ?_; rintro e w' ⟨rfl, rfl⟩) | (go_at_call 114; refine (rdo_nope _ _ _ _ _ (by assumption) (by omega) (by omega) (by assumption)).mono ?_; rintro e w' ⟨rfl, hd1⟩) | (go_at_call 108; refine (size_any _ _ (by omega) (by omega)).mono ?_; rintro e w' ⟨rfl, rfl⟩) | (go_at_call 111; refine (rSign_any _ _ _ (by omega) (by omega) (by omega) (by omega)).mono ?_; rintro e w' ⟨rfl, rfl⟩))
      go_ret2
      exact ⟨rfl, hd1⟩
  · have hb : n ≤ b := by simpa [has] using h
    have hv : tot 11 n a b = 0 := by simp [tot, hb]
    rw [hv]
    clear hv
    go_enter Try.func88, Try.ntmps88
    go_wp2_with (first | (go_at_call 113; refine (rtwo_ok _ _ _ _ _ (by assumption) (by omega) (by omega) (by omega) (by omega)).mono ?_; rintro e w' ⟨rfl, rfl⟩) | (go_at_call 114; refine (rdo_nope _ _ _ _ _ (by assumption) (by omega) (by omega) (by assumption)).mono ?_; rintro e w' ⟨rfl, hd1⟩) | (go_at_call 108; refine (size_any _ _ (by omega) (by omega)).mono ?_; rintro e w' ⟨rfl, rfl⟩) | (go_at_call 111; refine (rSign_any _ _ _ (by omega) (by omega) (by omega) (by omega)).mono ?_; rintro e w' ⟨rfl, rfl⟩))
    go_ret2
    exact ⟨rfl, hd1⟩
  · have hb : n ≤ b := by simpa [has] using h
    have hv : tot 12 n a b = 0 := by simp [tot, hb]
    rw [hv]
    clear hv
    go_enter Try.func88, Try.ntmps88
    go_wp2_with (first | (go_at_call 113; refine (rtwo_ok _ _ _ _ _ (by assumption) (by omega) (by omega) (by omega) (by omega)).mono ?_; rintro e w' ⟨rfl, rfl⟩) | (go_at_call 114; refine (rdo_nope _ _ _ _ _ (by assumption) (by omega) (by omega) (by assumption)).mono ?_; rintro e w' ⟨rfl, hd1⟩) | (go_at_call 108; refine (size_any _ _ (by omega) (by omega)).mono ?_; rintro e w' ⟨rfl, rfl⟩) | (go_at_call 111; refine (rSign_any _ _ _ (by omega) (by omega) (by omega) (by omega)).mono ?_; rintro e w' ⟨rfl, rfl⟩))
    go_ret2
    exact ⟨rfl, hd1⟩
  · have hb : n ≤ b := by simpa [has] using h
    rcases Int.lt_or_le (sgn n a) 0 with hs | hs
    · have hv : tot 13 n a b = pw n - 1 := by simp [tot, hb, hs]
      rw [hv]
      clear hv hb
      go_enter Try.func88, Try.ntmps88
      go_wp2_with (first | (go_at_call 113; refine (rtwo_ok _ _ _ _ _ (by assumption) (by omega) (by omega) (by omega) (by omega)).mono ?_; rintro e w' ⟨rfl, rfl⟩) | (go_at_call 114; refine (rdo_nope _ _ _ _ _ (by assumption) (by omega) (by omega) (by assumption)).mono ?_; rintro e w' ⟨rfl, hd1⟩) | (go_at_call 108; refine (size_any _ _ (by omega) (by omega)).mono ?_; rintro e w' ⟨rfl, rfl⟩) | (go_at_call 111; refine (rSign_any _ _ _ (by omega) (by omega) (by omega) (by omega)).mono ?_; rintro e w' ⟨rfl, rfl⟩))
      go_ret2
      exact ⟨rfl, hd1⟩
    · have hv : tot 13 n a b = 0 := by simp [tot, hb]; intro; omega
      rw [hv]
      clear hv hb
      go_enter Try.func88, Try.ntmps88
      go_wp2_with (first | (go_at_call 113; refine (rtwo_ok _ _ _ _ _ (by assumption) (by omega) (by omega) (by omega) (by omega)).mono ?_; rintro e w' ⟨rfl, rfl⟩) | (go_at_call 114; refine (rdo_nope _ _ _ _ _ (by assumption) (by omega) (by omega) (by assumption)).mono ?_; rintro e w' ⟨rfl, hd1⟩) | (go_at_call 108; refine (size_any _ _ (by omega) (by omega)).mono ?_; rintro e w' ⟨rfl, rfl⟩) | (go_at_call 111; refine (rSign_any _ _ _ (by omega) (by omega) (by omega) (by omega)).mono ?_; rintro e w' ⟨rfl, rfl⟩))
      go_ret2
      exact ⟨rfl, hd1⟩

theorem rTotal_any (op n a b : Int) (w : World) (h3 : 0 ≤ a) (h4 : a ≤ 4294967295) (h5 : 0 ≤ b) (h6 : b ≤ 4294967295) : Calls Try.prog 88 #[.int .i64 op, .int .i64 n, .int .u32 a, .int .u32 b] w fun e w' => e = .returned (totV op n a b) ∧ Dr w w' := by
  by_cases g : good op n a b = true
  · have hv : totV op n a b = .tuple #[.int .u32 (tot op n a b), .int .i64 0] := by simp [totV, g]
    rw [hv]
    clear hv
    by_cases h : has op n a b = true
    · go_enter Try.func88, Try.ntmps88
      go_wp2_with (first | (go_at_call 113; refine (rtwo_ok _ _ _ _ _ (by assumption) (by omega) (by omega) (by omega) (by omega)).mono ?_; rintro e w' ⟨rfl, rfl⟩) | (go_at_call 114; refine (rdo_yes _ _ _ _ _ (by assumption) (by omega) (by omega) (by assumption)).mono ?_; rintro e w' ⟨rfl, hd1⟩))
      go_ret2
      exact ⟨rfl, hd1⟩
    · exact rTotal_nope op n a b w g h3 h5 (by simpa using h)
  · have g : good op n a b = false := by simpa using g
    have hv : totV op n a b = .tuple #[.int .u32 0, .int .i64 1] := by simp [totV, g]
    rw [hv]
    clear hv
    go_enter Try.func88, Try.ntmps88
    go_wp2_with (first | (go_at_call 113; refine (rtwo_no _ _ _ _ _ (by assumption) (by omega) (by omega) (by omega) (by omega)).mono ?_; rintro e w' ⟨rfl, rfl⟩))
    go_ret2
    exact ⟨rfl, Dr.refl _⟩

end Go.Proofs.Ythopdfikikdcbaa
/- Walks of package bits: the table of operations, and its functions. -/
namespace Go.Proofs.Ythopdfikikdcbaa
open Go.RowKit Wd

theorem wraps_any (f g : Nat) (w : World) : Calls Try.prog 134 #[.func (.func f) #[] #[], .func (.func g) #[] #[]] w fun e w' => e = .returned (.agg #[.func (.func 162) #[] #[.pointer (some ⟨w.heap.size, 0, none⟩)], .func (.func f) #[] #[], .nilFunc]) ∧ w' = (w.alloc (.cells #[.func (.func g) #[] #[]] 169)).alloc (.cells #[.func (.func 162) #[] #[.pointer (some ⟨w.heap.size, 0, none⟩)], .func (.func f) #[] #[], .nilFunc] 144) := by
  go_enter Try.func134, Try.ntmps134
  go_wp2
  exact bodyPost_ret (v := .agg #[.func (.func 162) #[] #[.pointer (some ⟨w.heap.size, 0, none⟩)], .func (.func f) #[] #[], .nilFunc]) (by simp [results, Try.results134, go_sem]) rfl ⟨rfl, rfl⟩
theorem plain_any (g : Nat) (w : World) : Calls Try.prog 149 #[.func (.func g) #[] #[]] w fun e w' => e = .returned (.agg #[.func (.func 163) #[] #[.pointer (some ⟨w.heap.size, 0, none⟩)], .nilFunc, .nilFunc]) ∧ w' = (w.alloc (.cells #[.func (.func g) #[] #[]] 169)).alloc (.cells #[.func (.func 163) #[] #[.pointer (some ⟨w.heap.size, 0, none⟩)], .nilFunc, .nilFunc] 144) := by
  go_enter Try.func149, Try.ntmps149
  go_wp2
  exact bodyPost_ret (v := .agg #[.func (.func 163) #[] #[.pointer (some ⟨w.heap.size, 0, none⟩)], .nilFunc, .nilFunc]) (by simp [results, Try.results149, go_sem]) rfl ⟨rfl, rfl⟩

/-- The entries of the table of operations; h: a block number. -/
def opEntries (h : Nat) : Array MapEntry := #[⟨.int .i64 1, .agg #[.func (.func 162) #[] #[.pointer (some ⟨h + 1, 0, none⟩)], .func (.func 135) #[] #[], .nilFunc], 0⟩,
  ⟨.int .i64 2, .agg #[.func (.func 162) #[] #[.pointer (some ⟨h + 3, 0, none⟩)], .func (.func 137) #[] #[], .nilFunc], 1⟩,
  ⟨.int .i64 3, .agg #[.func (.func 162) #[] #[.pointer (some ⟨h + 5, 0, none⟩)], .func (.func 139) #[] #[], .nilFunc], 2⟩,
  ⟨.int .i64 4, .agg #[.func (.func 142) #[] #[], .nilFunc, .func (.func 143) #[] #[]], 3⟩,
  ⟨.int .i64 5, .agg #[.func (.func 144) #[] #[], .nilFunc, .nilFunc], 4⟩,
  ⟨.int .i64 6, .agg #[.func (.func 145) #[] #[], .nilFunc, .func (.func 147) #[] #[]], 5⟩,
  ⟨.int .i64 7, .agg #[.func (.func 148) #[] #[], .nilFunc, .nilFunc], 6⟩,
  ⟨.int .i64 8, .agg #[.func (.func 163) #[] #[.pointer (some ⟨h + 7, 0, none⟩)], .nilFunc, .nilFunc], 7⟩,
  ⟨.int .i64 9, .agg #[.func (.func 163) #[] #[.pointer (some ⟨h + 9, 0, none⟩)], .nilFunc, .nilFunc], 8⟩,
  ⟨.int .i64 10, .agg #[.func (.func 163) #[] #[.pointer (some ⟨h + 11, 0, none⟩)], .nilFunc, .nilFunc], 9⟩,
  ⟨.int .i64 11, .agg #[.func (.func 153) #[] #[], .func (.func 154) #[] #[], .nilFunc], 10⟩,
  ⟨.int .i64 12, .agg #[.func (.func 155) #[] #[], .nilFunc, .func (.func 156) #[] #[]], 11⟩,
  ⟨.int .i64 13, .agg #[.func (.func 157) #[] #[], .nilFunc, .func (.func 159) #[] #[]], 12⟩]
/-- The functions that the table has captured lie behind block h. -/
def Boxes (B h : Nat) (w : World) : Prop := B ≤ h ∧ h + 11 < w.heap.size ∧ w.cell? ⟨h + 1, 0, none⟩ = some (.func (.func 136) #[] #[]) ∧ w.cell? ⟨h + 3, 0, none⟩ = some (.func (.func 138) #[] #[]) ∧ w.cell? ⟨h + 5, 0, none⟩ = some (.func (.func 141) #[] #[]) ∧ w.cell? ⟨h + 7, 0, none⟩ = some (.func (.func 150) #[] #[]) ∧ w.cell? ⟨h + 9, 0, none⟩ = some (.func (.func 151) #[] #[]) ∧ w.cell? ⟨h + 11, 0, none⟩ = some (.func (.func 152) #[] #[])
/-- The table of operations lies in block r, and the functions that it has captured behind block h. -/
def Ops (B r h : Nat) (w : World) : Prop := mapAt w r = some (opEntries h, 13) ∧ B ≤ r ∧ r < w.heap.size ∧ B ≤ h ∧ h + 11 < w.heap.size ∧ w.cell? ⟨h + 1, 0, none⟩ = some (.func (.func 136) #[] #[]) ∧ w.cell? ⟨h + 3, 0, none⟩ = some (.func (.func 138) #[] #[]) ∧ w.cell? ⟨h + 5, 0, none⟩ = some (.func (.func 141) #[] #[]) ∧ w.cell? ⟨h + 7, 0, none⟩ = some (.func (.func 150) #[] #[]) ∧ w.cell? ⟨h + 9, 0, none⟩ = some (.func (.func 151) #[] #[]) ∧ w.cell? ⟨h + 11, 0, none⟩ = some (.func (.func 152) #[] #[])
set_option maxHeartbeats 1000000 in
theorem operations_any (w : World) : Calls Try.prog 127 #[] w fun e w' => ∃ r h, e = .returned (.map (some r)) ∧ Ops w.heap.size r h w' ∧ Below w.heap.size w w' := by
  have hmm := @run_makeMap Try.prog
  have hins := run_insert_int Try.prog 160 3 144 .i64 Try.underlying160 Try.underlying3
  go_enter Try.func127, Try.ntmps127
  go_wp2_with (first | (go_at_call 134; refine (wraps_any _ _ _).mono ?_; rintro e w' ⟨rfl, rfl⟩) | (go_at_call 149; refine (plain_any _ _).mono ?_; rintro e w' ⟨rfl, rfl⟩))
  go_ret
  refine ⟨w.heap.size, w.heap.size, rfl, ⟨?_, Nat.le_refl _, ?_, Nat.le_refl _, ?_, ?_, ?_, ?_, ?_, ?_, ?_⟩, ?_⟩
  · simp [go_sem, opEntries]
  · simp; omega
  · simp
  · simp [go_sem]
  · simp [go_sem]
  · simp [go_sem]
  · simp [go_sem]
  · simp [go_sem]
  · simp [go_sem]
  · repeat (first | exact Below.refl _ _ | refine Below.alloc ?_ (by simp; try omega) _)

set_option maxHeartbeats 2000000 in
theorem asked_w (op n a b : Int) (i fd fw : Nat) (cd : Nat → Array Value) (w : World) (hf : ∀ h, Instr.findNow (.int .i64) (.int .i64 op) (opEntries h).toList 0 = some (some (i, .agg #[.func (.func fd) #[] (cd h), .func (.func fw) #[] #[], .nilFunc]))) : Calls Try.prog 106 #[.int .i64 op, .int .i64 n, .int .u32 a, .int .u32 b] w fun e w' => ∃ h, e = .returned (.tuple #[.agg #[.func (.func fd) #[] (cd h), .func (.func fw) #[] #[], .nilFunc], .bool (isW n && fit n a && fit n b)]) ∧ Boxes w.heap.size h w' ∧ Below w.heap.size w w' := by
  have hlk := run_lookup_int Try.prog 160 3 144 .i64 (.agg #[.nilFunc, .nilFunc, .nilFunc]) Try.underlying160 Try.underlying3 (fun w => by kernel_rfl)
  go_enter Try.func106, Try.ntmps106
  go_wp2_with (first | (go_at_call 127; refine (operations_any _).mono ?_; rintro e w1 ⟨r, h, rfl, ⟨m0, m1, m2, m3, m4, c1, c2, c3, c8, c9, c10⟩, hb1⟩))
  have hc := bcell hb1
  have z0 : w1.cell? ⟨w.heap.size, 0, none⟩ = some .nilFunc := by rw [hc.1 _ _ (by simp)]; simp [go_sem]
  have z1 : w1.cell? ⟨w.heap.size, 1, none⟩ = some .nilFunc := by rw [hc.1 _ _ (by simp)]; simp [go_sem]
  have z2 : w1.cell? ⟨w.heap.size, 2, none⟩ = some .nilFunc := by rw [hc.1 _ _ (by simp)]; simp [go_sem]
  have f0 : w1.frozen? ⟨w.heap.size, 0, none⟩ = false := by rw [hc.2 _ _ (by simp)]; simp [go_sem]
  have f1 : w1.frozen? ⟨w.heap.size, 1, none⟩ = false := by rw [hc.2 _ _ (by simp)]; simp [go_sem]
  have f2 : w1.frozen? ⟨w.heap.size, 2, none⟩ = false := by rw [hc.2 _ _ (by simp)]; simp [go_sem]
  have hz : w.heap.size < w1.heap.size := by have := hb1.size; simp at this; omega
  have hh : w.heap.size < h := by simp at m3; omega
  have HB : Hid (Below w.heap.size w w1) := ((Below.refl _ _).alloc (Nat.le_refl _) _).trans (hb1.mono (by simp))
  have C1 := Lib.hid c1
  have C2 := Lib.hid c2
  have C3 := Lib.hid c3
  have C8 := Lib.hid c8
  have C9 := Lib.hid c9
  have C10 := Lib.hid c10
  clear hlk hf m0 c1 c2 c3 c8 c9 c10 hc hb1 m1 m2 m3
  go_region_with (first | (go_at_call 104; refine (fits2 n a b _ _ (by simp [go_sem]) (by simp [go_sem])).mono ?_; rintro e w' ⟨rfl, rfl⟩))
  all_goals
    go_wp2
    refine bodyPost_ret (v := .tuple #[.agg #[.func (.func fd) #[] (cd h), .func (.func fw) #[] #[], .nilFunc], .bool (isW n && fit n a && fit n b)]) (by simp [results, Try.results106, go_sem, z0, z1, z2, hz]) rfl ⟨h, rfl, ⟨by omega, by simp; omega, ?_, ?_, ?_, ?_, ?_, ?_⟩, ?_⟩
    · exact (Only.cell (w := w1) (b := w.heap.size) (by repeat (first | with_reducible exact Only.refl _ _ | with_reducible refine Only.drew ?_ | with_reducible refine Only.alloc ?_ _ | with_reducible refine Only.at ?_ _ _)) (by omega) (by omega)).trans C1.out
    · exact (Only.cell (w := w1) (b := w.heap.size) (by repeat (first | with_reducible exact Only.refl _ _ | with_reducible refine Only.drew ?_ | with_reducible refine Only.alloc ?_ _ | with_reducible refine Only.at ?_ _ _)) (by omega) (by omega)).trans C2.out
    · exact (Only.cell (w := w1) (b := w.heap.size) (by repeat (first | with_reducible exact Only.refl _ _ | with_reducible refine Only.drew ?_ | with_reducible refine Only.alloc ?_ _ | with_reducible refine Only.at ?_ _ _)) (by omega) (by omega)).trans C3.out
    · exact (Only.cell (w := w1) (b := w.heap.size) (by repeat (first | with_reducible exact Only.refl _ _ | with_reducible refine Only.drew ?_ | with_reducible refine Only.alloc ?_ _ | with_reducible refine Only.at ?_ _ _)) (by omega) (by omega)).trans C8.out
    · exact (Only.cell (w := w1) (b := w.heap.size) (by repeat (first | with_reducible exact Only.refl _ _ | with_reducible refine Only.drew ?_ | with_reducible refine Only.alloc ?_ _ | with_reducible refine Only.at ?_ _ _)) (by omega) (by omega)).trans C9.out
    · exact (Only.cell (w := w1) (b := w.heap.size) (by repeat (first | with_reducible exact Only.refl _ _ | with_reducible refine Only.drew ?_ | with_reducible refine Only.alloc ?_ _ | with_reducible refine Only.at ?_ _ _)) (by omega) (by omega)).trans C10.out
    · exact HB.out.trans (by repeat (first | with_reducible exact Below.refl _ _ | with_reducible refine Below.drew ?_ | with_reducible refine Below.alloc ?_ (by simp; try omega) _ | with_reducible refine below_at ?_ (Nat.le_refl _) _ _))

set_option maxHeartbeats 2000000 in
theorem asked_l (op n a b : Int) (i fd fl : Nat) (cd : Nat → Array Value) (w : World) (hf : ∀ h, Instr.findNow (.int .i64) (.int .i64 op) (opEntries h).toList 0 = some (some (i, .agg #[.func (.func fd) #[] (cd h), .nilFunc, .func (.func fl) #[] #[]]))) : Calls Try.prog 106 #[.int .i64 op, .int .i64 n, .int .u32 a, .int .u32 b] w fun e w' => ∃ h, e = .returned (.tuple #[.agg #[.func (.func fd) #[] (cd h), .nilFunc, .func (.func fl) #[] #[]], .bool (isW n && fit n a && fit n b)]) ∧ Boxes w.heap.size h w' ∧ Below w.heap.size w w' := by
  have hlk := run_lookup_int Try.prog 160 3 144 .i64 (.agg #[.nilFunc, .nilFunc, .nilFunc]) Try.underlying160 Try.underlying3 (fun w => by kernel_rfl)
  go_enter Try.func106, Try.ntmps106
  go_wp2_with (first | (go_at_call 127; refine (operations_any _).mono ?_; rintro e w1 ⟨r, h, rfl, ⟨m0, m1, m2, m3, m4, c1, c2, c3, c8, c9, c10⟩, hb1⟩))
  have hc := bcell hb1
  have z0 : w1.cell? ⟨w.heap.size, 0, none⟩ = some .nilFunc := by rw [hc.1 _ _ (by simp)]; simp [go_sem]
  have z1 : w1.cell? ⟨w.heap.size, 1, none⟩ = some .nilFunc := by rw [hc.1 _ _ (by simp)]; simp [go_sem]
  have z2 : w1.cell? ⟨w.heap.size, 2, none⟩ = some .nilFunc := by rw [hc.1 _ _ (by simp)]; simp [go_sem]
  have f0 : w1.frozen? ⟨w.heap.size, 0, none⟩ = false := by rw [hc.2 _ _ (by simp)]; simp [go_sem]
  have f1 : w1.frozen? ⟨w.heap.size, 1, none⟩ = false := by rw [hc.2 _ _ (by simp)]; simp [go_sem]
  have f2 : w1.frozen? ⟨w.heap.size, 2, none⟩ = false := by rw [hc.2 _ _ (by simp)]; simp [go_sem]
  have hz : w.heap.size < w1.heap.size := by have := hb1.size; simp at this; omega
  have hh : w.heap.size < h := by simp at m3; omega
  have HB : Hid (Below w.heap.size w w1) := ((Below.refl _ _).alloc (Nat.le_refl _) _).trans (hb1.mono (by simp))
  have C1 := Lib.hid c1
  have C2 := Lib.hid c2
  have C3 := Lib.hid c3
  have C8 := Lib.hid c8
  have C9 := Lib.hid c9
  have C10 := Lib.hid c10
  clear hlk hf m0 c1 c2 c3 c8 c9 c10 hc hb1 m1 m2 m3
  go_region_with (first | (go_at_call 104; refine (fits2 n a b _ _ (by simp [go_sem]) (by simp [go_sem])).mono ?_; rintro e w' ⟨rfl, rfl⟩))
  all_goals
    go_wp2
    refine bodyPost_ret (v := .tuple #[.agg #[.func (.func fd) #[] (cd h), .nilFunc, .func (.func fl) #[] #[]], .bool (isW n && fit n a && fit n b)]) (by simp [results, Try.results106, go_sem, z0, z1, z2, hz]) rfl ⟨h, rfl, ⟨by omega, by simp; omega, ?_, ?_, ?_, ?_, ?_, ?_⟩, ?_⟩
    · exact (Only.cell (w := w1) (b := w.heap.size) (by repeat (first | with_reducible exact Only.refl _ _ | with_reducible refine Only.drew ?_ | with_reducible refine Only.alloc ?_ _ | with_reducible refine Only.at ?_ _ _)) (by omega) (by omega)).trans C1.out
    · exact (Only.cell (w := w1) (b := w.heap.size) (by repeat (first | with_reducible exact Only.refl _ _ | with_reducible refine Only.drew ?_ | with_reducible refine Only.alloc ?_ _ | with_reducible refine Only.at ?_ _ _)) (by omega) (by omega)).trans C2.out
    · exact (Only.cell (w := w1) (b := w.heap.size) (by repeat (first | with_reducible exact Only.refl _ _ | with_reducible refine Only.drew ?_ | with_reducible refine Only.alloc ?_ _ | with_reducible refine Only.at ?_ _ _)) (by omega) (by omega)).trans C3.out
    · exact (Only.cell (w := w1) (b := w.heap.size) (by repeat (first | with_reducible exact Only.refl _ _ | with_reducible refine Only.drew ?_ | with_reducible refine Only.alloc ?_ _ | with_reducible refine Only.at ?_ _ _)) (by omega) (by omega)).trans C8.out
    · exact (Only.cell (w := w1) (b := w.heap.size) (by repeat (first | with_reducible exact Only.refl _ _ | with_reducible refine Only.drew ?_ | with_reducible refine Only.alloc ?_ _ | with_reducible refine Only.at ?_ _ _)) (by omega) (by omega)).trans C9.out
    · exact (Only.cell (w := w1) (b := w.heap.size) (by repeat (first | with_reducible exact Only.refl _ _ | with_reducible refine Only.drew ?_ | with_reducible refine Only.alloc ?_ _ | with_reducible refine Only.at ?_ _ _)) (by omega) (by omega)).trans C10.out
    · exact HB.out.trans (by repeat (first | with_reducible exact Below.refl _ _ | with_reducible refine Below.drew ?_ | with_reducible refine Below.alloc ?_ (by simp; try omega) _ | with_reducible refine below_at ?_ (Nat.le_refl _) _ _))

set_option maxHeartbeats 2000000 in
theorem asked_n (op n a b : Int) (i fd : Nat) (cd : Nat → Array Value) (w : World) (hf : ∀ h, Instr.findNow (.int .i64) (.int .i64 op) (opEntries h).toList 0 = some (some (i, .agg #[.func (.func fd) #[] (cd h), .nilFunc, .nilFunc]))) : Calls Try.prog 106 #[.int .i64 op, .int .i64 n, .int .u32 a, .int .u32 b] w fun e w' => ∃ h, e = .returned (.tuple #[.agg #[.func (.func fd) #[] (cd h), .nilFunc, .nilFunc], .bool (isW n && fit n a && fit n b)]) ∧ Boxes w.heap.size h w' ∧ Below w.heap.size w w' := by
  have hlk := run_lookup_int Try.prog 160 3 144 .i64 (.agg #[.nilFunc, .nilFunc, .nilFunc]) Try.underlying160 Try.underlying3 (fun w => by kernel_rfl)
  go_enter Try.func106, Try.ntmps106
  go_wp2_with (first | (go_at_call 127; refine (operations_any _).mono ?_; rintro e w1 ⟨r, h, rfl, ⟨m0, m1, m2, m3, m4, c1, c2, c3, c8, c9, c10⟩, hb1⟩))
  have hc := bcell hb1
  have z0 : w1.cell? ⟨w.heap.size, 0, none⟩ = some .nilFunc := by rw [hc.1 _ _ (by simp)]; simp [go_sem]
  have z1 : w1.cell? ⟨w.heap.size, 1, none⟩ = some .nilFunc := by rw [hc.1 _ _ (by simp)]; simp [go_sem]
  have z2 : w1.cell? ⟨w.heap.size, 2, none⟩ = some .nilFunc := by rw [hc.1 _ _ (by simp)]; simp [go_sem]
  have f0 : w1.frozen? ⟨w.heap.size, 0, none⟩ = false := by rw [hc.2 _ _ (by simp)]; simp [go_sem]
  have f1 : w1.frozen? ⟨w.heap.size, 1, none⟩ = false := by rw [hc.2 _ _ (by simp)]; simp [go_sem]
  have f2 : w1.frozen? ⟨w.heap.size, 2, none⟩ = false := by rw [hc.2 _ _ (by simp)]; simp [go_sem]
  have hz : w.heap.size < w1.heap.size := by have := hb1.size; simp at this; omega
  have hh : w.heap.size < h := by simp at m3; omega
  have HB : Hid (Below w.heap.size w w1) := ((Below.refl _ _).alloc (Nat.le_refl _) _).trans (hb1.mono (by simp))
  have C1 := Lib.hid c1
  have C2 := Lib.hid c2
  have C3 := Lib.hid c3
  have C8 := Lib.hid c8
  have C9 := Lib.hid c9
  have C10 := Lib.hid c10
  clear hlk hf m0 c1 c2 c3 c8 c9 c10 hc hb1 m1 m2 m3
  go_region_with (first | (go_at_call 104; refine (fits2 n a b _ _ (by simp [go_sem]) (by simp [go_sem])).mono ?_; rintro e w' ⟨rfl, rfl⟩))
  all_goals
    go_wp2
    refine bodyPost_ret (v := .tuple #[.agg #[.func (.func fd) #[] (cd h), .nilFunc, .nilFunc], .bool (isW n && fit n a && fit n b)]) (by simp [results, Try.results106, go_sem, z0, z1, z2, hz]) rfl ⟨h, rfl, ⟨by omega, by simp; omega, ?_, ?_, ?_, ?_, ?_, ?_⟩, ?_⟩
    · exact (Only.cell (w := w1) (b := w.heap.size) (by repeat (first | with_reducible exact Only.refl _ _ | with_reducible refine Only.drew ?_ | with_reducible refine Only.alloc ?_ _ | with_reducible refine Only.at ?_ _ _)) (by omega) (by omega)).trans C1.out
    · exact (Only.cell (w := w1) (b := w.heap.size) (by repeat (first | with_reducible exact Only.refl _ _ | with_reducible refine Only.drew ?_ | with_reducible refine Only.alloc ?_ _ | with_reducible refine Only.at ?_ _ _)) (by omega) (by omega)).trans C2.out
    · exact (Only.cell (w := w1) (b := w.heap.size) (by repeat (first | with_reducible exact Only.refl _ _ | with_reducible refine Only.drew ?_ | with_reducible refine Only.alloc ?_ _ | with_reducible refine Only.at ?_ _ _)) (by omega) (by omega)).trans C3.out
    · exact (Only.cell (w := w1) (b := w.heap.size) (by repeat (first | with_reducible exact Only.refl _ _ | with_reducible refine Only.drew ?_ | with_reducible refine Only.alloc ?_ _ | with_reducible refine Only.at ?_ _ _)) (by omega) (by omega)).trans C8.out
    · exact (Only.cell (w := w1) (b := w.heap.size) (by repeat (first | with_reducible exact Only.refl _ _ | with_reducible refine Only.drew ?_ | with_reducible refine Only.alloc ?_ _ | with_reducible refine Only.at ?_ _ _)) (by omega) (by omega)).trans C9.out
    · exact (Only.cell (w := w1) (b := w.heap.size) (by repeat (first | with_reducible exact Only.refl _ _ | with_reducible refine Only.drew ?_ | with_reducible refine Only.alloc ?_ _ | with_reducible refine Only.at ?_ _ _)) (by omega) (by omega)).trans C10.out
    · exact HB.out.trans (by repeat (first | with_reducible exact Below.refl _ _ | with_reducible refine Below.drew ?_ | with_reducible refine Below.alloc ?_ (by simp; try omega) _ | with_reducible refine below_at ?_ (Nat.le_refl _) _ _))

set_option maxHeartbeats 2000000 in
theorem asked_none (op n a b : Int) (w : World) (hf : ∀ h, Instr.findNow (.int .i64) (.int .i64 op) (opEntries h).toList 0 = some none) : Calls Try.prog 106 #[.int .i64 op, .int .i64 n, .int .u32 a, .int .u32 b] w fun e w' => e = .returned (.tuple #[.agg #[.nilFunc, .nilFunc, .nilFunc], .bool false]) ∧ Below w.heap.size w w' := by
  have hlk := run_lookup_int Try.prog 160 3 144 .i64 (.agg #[.nilFunc, .nilFunc, .nilFunc]) Try.underlying160 Try.underlying3 (fun w => by kernel_rfl)
  go_enter Try.func106, Try.ntmps106
  go_wp2_with (first | (go_at_call 127; refine (operations_any _).mono ?_; rintro e w1 ⟨r, h, rfl, ⟨m0, m1, m2, m3, m4, c1, c2, c3, c8, c9, c10⟩, hb1⟩))
  have hc := bcell hb1
  have z0 : w1.cell? ⟨w.heap.size, 0, none⟩ = some .nilFunc := by rw [hc.1 _ _ (by simp)]; simp [go_sem]
  have z1 : w1.cell? ⟨w.heap.size, 1, none⟩ = some .nilFunc := by rw [hc.1 _ _ (by simp)]; simp [go_sem]
  have z2 : w1.cell? ⟨w.heap.size, 2, none⟩ = some .nilFunc := by rw [hc.1 _ _ (by simp)]; simp [go_sem]
  have f0 : w1.frozen? ⟨w.heap.size, 0, none⟩ = false := by rw [hc.2 _ _ (by simp)]; simp [go_sem]
  have f1 : w1.frozen? ⟨w.heap.size, 1, none⟩ = false := by rw [hc.2 _ _ (by simp)]; simp [go_sem]
  have f2 : w1.frozen? ⟨w.heap.size, 2, none⟩ = false := by rw [hc.2 _ _ (by simp)]; simp [go_sem]
  have hz : w.heap.size < w1.heap.size := by have := hb1.size; simp at this; omega
  have hh : w.heap.size < h := by simp at m3; omega
  have HB : Hid (Below w.heap.size w w1) := ((Below.refl _ _).alloc (Nat.le_refl _) _).trans (hb1.mono (by simp))
  have C1 := Lib.hid c1
  have C2 := Lib.hid c2
  have C3 := Lib.hid c3
  have C8 := Lib.hid c8
  have C9 := Lib.hid c9
  have C10 := Lib.hid c10
  clear hlk hf m0 c1 c2 c3 c8 c9 c10 hc hb1 m1 m2 m3
  clear C1 C2 C3 C8 C9 C10 hh m4
  go_region
  all_goals
    go_wp2
    refine bodyPost_ret (v := .tuple #[.agg #[.nilFunc, .nilFunc, .nilFunc], .bool false]) (by simp [results, Try.results106, go_sem, z0, z1, z2, hz]) rfl ⟨rfl, ?_⟩
    exact HB.out.trans (by repeat (first | with_reducible exact Below.refl _ _ | with_reducible refine Below.drew ?_ | with_reducible refine Below.alloc ?_ (by simp; try omega) _ | with_reducible refine below_at ?_ (Nat.le_refl _) _ _))

end Go.Proofs.Ythopdfikikdcbaa
/- Walks of package bits: what the functions in the table of operations make. -/
namespace Go.Proofs.Ythopdfikikdcbaa
open Go.RowKit Wd
set_option linter.unusedVariables false
set_option linter.unusedSimpArgs false

theorem fn2 (a b : Int) (w : World) : Calls Try.prog 136 #[.int .u32 a, .int .u32 b] w fun e w' => e = .returned (.int .u32 ((a + b) % 4294967296)) ∧ w = w' := by
  go_enter Try.func136, Try.ntmps136
  go_wp2
  go_ret
  exact ⟨rfl, rfl⟩
theorem fn4 (a b : Int) (w : World) : Calls Try.prog 138 #[.int .u32 a, .int .u32 b] w fun e w' => e = .returned (.int .u32 ((a - b) % 4294967296)) ∧ w = w' := by
  go_enter Try.func138, Try.ntmps138
  go_wp2
  go_ret
  exact ⟨rfl, rfl⟩
theorem fn6 (a b : Int) (w : World) : Calls Try.prog 141 #[.int .u32 a, .int .u32 b] w fun e w' => e = .returned (.int .u32 (a * b % 4294967296)) ∧ w = w' := by
  go_enter Try.func141, Try.ntmps141
  go_wp2
  go_ret
  exact ⟨rfl, rfl⟩
theorem fn13 (a b : Int) (w : World) (h3 : 0 ≤ a) (h4 : a ≤ 4294967295) (h5 : 0 ≤ b) (h6 : b ≤ 4294967295) : Calls Try.prog 150 #[.int .u32 a, .int .u32 b] w fun e w' => e = .returned (.int .u32 (((a.toNat &&& b.toNat : Nat) : Int))) ∧ w = w' := by
  go_enter Try.func150, Try.ntmps150
  go_wp2
  go_ret
  exact ⟨ret_i (u32_and a b h3 (by omega) h5 (by omega)), rfl⟩
theorem fn14 (a b : Int) (w : World) (h3 : 0 ≤ a) (h4 : a ≤ 4294967295) (h5 : 0 ≤ b) (h6 : b ≤ 4294967295) : Calls Try.prog 151 #[.int .u32 a, .int .u32 b] w fun e w' => e = .returned (.int .u32 (((a.toNat ||| b.toNat : Nat) : Int))) ∧ w = w' := by
  go_enter Try.func151, Try.ntmps151
  go_wp2
  go_ret
  exact ⟨ret_i (u32_or a b h3 (by omega) h5 (by omega)), rfl⟩
theorem fn15 (a b : Int) (w : World) (h3 : 0 ≤ a) (h4 : a ≤ 4294967295) (h5 : 0 ≤ b) (h6 : b ≤ 4294967295) : Calls Try.prog 152 #[.int .u32 a, .int .u32 b] w fun e w' => e = .returned (.int .u32 (((a.toNat ^^^ b.toNat : Nat) : Int))) ∧ w = w' := by
  go_enter Try.func152, Try.ntmps152
  go_wp2
  go_ret
  exact ⟨ret_i (u32_xor a b h3 (by omega) h5 (by omega)), rfl⟩
theorem quotient_none (n a b : Int) (w : World) (h1 : 1 ≤ n) (h2 : n ≤ 32) (h3 : 0 ≤ a) (h4 : a < pw n) (h5 : 0 ≤ b) (h6 : b < pw n) (h : has 6 n a b = false) : Calls Try.prog 146 #[.int .i64 n, .int .u32 a, .int .u32 b] w fun e w' => e = .returned (.tuple #[.int .i64 0, .int .i64 0, .bool false]) ∧ Dr w w' := by
  obtain ⟨m, rfl⟩ := Int.eq_ofNat_of_zero_le (show 0 ≤ n by omega)
  have hp := @pw_le32 (m : Int) (by omega)
  have hp0 := pw_pos (m : Int)
  have x1 := sgn_lo32 (n := m) (a := a) (by omega) (by omega) h3
  have x2 := sgn_hi32 (n := m) (a := a) (by omega) (by omega) h4
  have y1 := sgn_lo32 (n := m) (a := b) (by omega) (by omega) h5
  have y2 := sgn_hi32 (n := m) (a := b) (by omega) (by omega) h6
  have hp3 := @pw_le31 ((m : Int) - 1) (by omega)
  have hp4 := pw_pos ((m : Int) - 1)
  have hz := sgn_zero (n := m) (b := b) (by omega) h6
  have hpw : wrap64 ((2 : Int) ^ (m - 1)) = pw ((m : Int) - 1) := by
    have e : ((m : Int) - 1).toNat = m - 1 := by omega
    rw [← e]; exact IntWalk.wrap64_in (pw ((m : Int) - 1)) (by omega)
  by_cases hb : b = 0
  · have hb0 : (sgn m b == 0) = true := by simpa using hz.2 hb
    clear hz h hb
    go_enter Try.func146, Try.ntmps146
    go_wp2_with (first | (go_at_call 105; refine (signed_any _ _ _ (by omega) (by omega) (by omega) (by omega)).mono ?_; rintro e w' ⟨rfl, rfl⟩))
    go_ret3
    exact ⟨rfl, Dr.refl _⟩
  · have hxy : sgn m a = -pw (m - 1) ∧ sgn m b = -1 := by simpa [has, hb] using h
    have hx : (sgn m a == -pw (m - 1)) = true := by simpa using hxy.1
    have hy : (sgn m b == -1) = true := by simpa using hxy.2
    have hb0 : (sgn m b == 0) = false := by simp [hxy.2]
    clear hz h hxy hb
    go_enter Try.func146, Try.ntmps146
    go_wp2_with (first | (go_at_call 105; refine (signed_any _ _ _ (by omega) (by omega) (by omega) (by omega)).mono ?_; rintro e w' ⟨rfl, rfl⟩))
    go_ret3
    exact ⟨rfl, Dr.refl _⟩

set_option maxHeartbeats 1000000 in
theorem quotient_some (n a b : Int) (w : World) (h1 : 1 ≤ n) (h2 : n ≤ 32) (h3 : 0 ≤ a) (h4 : a < pw n) (h5 : 0 ≤ b) (h6 : b < pw n) (h : has 6 n a b = true) : Calls Try.prog 146 #[.int .i64 n, .int .u32 a, .int .u32 b] w fun e w' => e = .returned (.tuple #[.int .i64 ((sgn n a).tdiv (sgn n b)), .int .i64 ((sgn n a).tmod (sgn n b)), .bool true]) ∧ Dr w w' := by
  obtain ⟨m, rfl⟩ := Int.eq_ofNat_of_zero_le (show 0 ≤ n by omega)
  have hp := @pw_le32 (m : Int) (by omega)
  have hp0 := pw_pos (m : Int)
  have x1 := sgn_lo32 (n := m) (a := a) (by omega) (by omega) h3
  have x2 := sgn_hi32 (n := m) (a := a) (by omega) (by omega) h4
  have y1 := sgn_lo32 (n := m) (a := b) (by omega) (by omega) h5
  have y2 := sgn_hi32 (n := m) (a := b) (by omega) (by omega) h6
  have hp3 := @pw_le31 ((m : Int) - 1) (by omega)
  have hp4 := pw_pos ((m : Int) - 1)
  have hz := sgn_zero (n := m) (b := b) (by omega) h6
  have hpw : wrap64 ((2 : Int) ^ (m - 1)) = pw ((m : Int) - 1) := by
    have e : ((m : Int) - 1).toNat = m - 1 := by omega
    rw [← e]; exact IntWalk.wrap64_in (pw ((m : Int) - 1)) (by omega)
  have hb : b ≠ 0 := by
    intro hb; simp [has, hb] at h
  have hxy : ¬ (sgn m a = -pw (m - 1) ∧ sgn m b = -1) := by
    intro hb; simp [has, hb] at h
  have hy0 : ¬ sgn m b = 0 := by omega
  have hb0 : (sgn m b == 0) = false := by simpa using hy0
  clear hz h hb
  have q := @tdiv_bd (sgn m a) (sgn m b) x1 (by omega)
  obtain ⟨q1, q2⟩ := q
  have e0 : wrap64 ((sgn m a).tdiv (sgn m b)) = (sgn m a).tdiv (sgn m b) := IntWalk.wrap64_in _ (by omega)
  by_cases hy : sgn m b = -1
  · have hx : (sgn m a == -pw (m - 1)) = false := by
      have : ¬ sgn m a = -pw (m - 1) := fun e => hxy ⟨e, hy⟩
      simpa using this
    have hy1 : (sgn m b == -1) = true := by simpa using hy
    clear hy hxy
    go_enter Try.func146, Try.ntmps146
    go_wp2_with (first | (go_at_call 105; refine (signed_any _ _ _ (by omega) (by omega) (by omega) (by omega)).mono ?_; rintro e w' ⟨rfl, rfl⟩))
    go_quiet (fail)
    go_wp2
    go_ret3
    exact ⟨rfl, (Dr.refl _).drew _⟩
  · have hy1 : (sgn m b == -1) = false := by simpa using hy
    clear hy hxy
    go_enter Try.func146, Try.ntmps146
    go_wp2_with (first | (go_at_call 105; refine (signed_any _ _ _ (by omega) (by omega) (by omega) (by omega)).mono ?_; rintro e w' ⟨rfl, rfl⟩))
    go_quiet (fail)
    go_wp2
    go_ret3
    exact ⟨rfl, (Dr.refl _).drew _⟩

set_option maxHeartbeats 1000000 in
theorem pdo_1 (n a b : Int) (w : World) (h1 : 1 ≤ n) (h2 : n ≤ 32) (h3 : 0 ≤ a) (h4 : a < pw n) (h5 : 0 ≤ b) (h6 : b < pw n) (h : Nat) (hc : w.cell? ⟨h, 0, none⟩ = some (.func (.func 136) #[] #[])) : Calls Try.prog 162 #[.int .i64 n, .int .u32 a, .int .u32 b, .pointer (some ⟨h, 0, none⟩)] w fun e w' => e = .returned (.tuple #[.int .u32 (tot 1 n a b), .bool (has 1 n a b)]) ∧ Dr w w' := by
  obtain ⟨m, rfl⟩ := Int.eq_ofNat_of_zero_le (show 0 ≤ n by omega)
  have hp := @pw_le32 (m : Int) (by omega)
  have hp0 := pw_pos (m : Int)
  have hm := mask_wr (n := m) (by omega) (a + b)
  have hv : tot 1 m a b = wr m (a + b) := by simp [tot, has]
  have hh : has 1 m a b = true := by simp [tot, has]
  rw [hv, hh]
  clear hv hh
  go_enter Try.func162, Try.ntmps162
  go_wp2_with (first | (go_at_call 80; refine (mask_any _ _ (by assumption) (by assumption)).mono ?_; rintro e w' ⟨rfl, rfl⟩) | (go_at_call 136; refine (fn2 _ _ _).mono ?_; rintro e w' ⟨rfl, rfl⟩))
  go_ret2
  exact ⟨rfl, Dr.refl _⟩

set_option maxHeartbeats 1000000 in
theorem pdo_2 (n a b : Int) (w : World) (h1 : 1 ≤ n) (h2 : n ≤ 32) (h3 : 0 ≤ a) (h4 : a < pw n) (h5 : 0 ≤ b) (h6 : b < pw n) (h : Nat) (hc : w.cell? ⟨h, 0, none⟩ = some (.func (.func 138) #[] #[])) : Calls Try.prog 162 #[.int .i64 n, .int .u32 a, .int .u32 b, .pointer (some ⟨h, 0, none⟩)] w fun e w' => e = .returned (.tuple #[.int .u32 (tot 2 n a b), .bool (has 2 n a b)]) ∧ Dr w w' := by
  obtain ⟨m, rfl⟩ := Int.eq_ofNat_of_zero_le (show 0 ≤ n by omega)
  have hp := @pw_le32 (m : Int) (by omega)
  have hp0 := pw_pos (m : Int)
  have hm := mask_wr (n := m) (by omega) (a - b)
  have hv : tot 2 m a b = wr m (a - b) := by simp [tot, has]
  have hh : has 2 m a b = true := by simp [tot, has]
  rw [hv, hh]
  clear hv hh
  go_enter Try.func162, Try.ntmps162
  go_wp2_with (first | (go_at_call 80; refine (mask_any _ _ (by assumption) (by assumption)).mono ?_; rintro e w' ⟨rfl, rfl⟩) | (go_at_call 138; refine (fn4 _ _ _).mono ?_; rintro e w' ⟨rfl, rfl⟩))
  go_ret2
  exact ⟨rfl, Dr.refl _⟩

set_option maxHeartbeats 1000000 in
theorem pdo_3 (n a b : Int) (w : World) (h1 : 1 ≤ n) (h2 : n ≤ 32) (h3 : 0 ≤ a) (h4 : a < pw n) (h5 : 0 ≤ b) (h6 : b < pw n) (h : Nat) (hc : w.cell? ⟨h, 0, none⟩ = some (.func (.func 141) #[] #[])) : Calls Try.prog 162 #[.int .i64 n, .int .u32 a, .int .u32 b, .pointer (some ⟨h, 0, none⟩)] w fun e w' => e = .returned (.tuple #[.int .u32 (tot 3 n a b), .bool (has 3 n a b)]) ∧ Dr w w' := by
  obtain ⟨m, rfl⟩ := Int.eq_ofNat_of_zero_le (show 0 ≤ n by omega)
  have hp := @pw_le32 (m : Int) (by omega)
  have hp0 := pw_pos (m : Int)
  have hm := mask_wr (n := m) (by omega) (a * b)
  have hv : tot 3 m a b = wr m (a * b) := by simp [tot, has]
  have hh : has 3 m a b = true := by simp [tot, has]
  rw [hv, hh]
  clear hv hh
  go_enter Try.func162, Try.ntmps162
  go_wp2_with (first | (go_at_call 80; refine (mask_any _ _ (by assumption) (by assumption)).mono ?_; rintro e w' ⟨rfl, rfl⟩) | (go_at_call 141; refine (fn6 _ _ _).mono ?_; rintro e w' ⟨rfl, rfl⟩))
  go_ret2
  exact ⟨rfl, Dr.refl _⟩

set_option maxHeartbeats 1000000 in
theorem pdo_8 (n a b : Int) (w : World) (h1 : 1 ≤ n) (h2 : n ≤ 32) (h3 : 0 ≤ a) (h4 : a < pw n) (h5 : 0 ≤ b) (h6 : b < pw n) (h : Nat) (hc : w.cell? ⟨h, 0, none⟩ = some (.func (.func 150) #[] #[])) : Calls Try.prog 163 #[.int .i64 n, .int .u32 a, .int .u32 b, .pointer (some ⟨h, 0, none⟩)] w fun e w' => e = .returned (.tuple #[.int .u32 (tot 8 n a b), .bool (has 8 n a b)]) ∧ Dr w w' := by
  obtain ⟨m, rfl⟩ := Int.eq_ofNat_of_zero_le (show 0 ≤ n by omega)
  have hp := @pw_le32 (m : Int) (by omega)
  have hp0 := pw_pos (m : Int)
  have hv : tot 8 m a b = ((a.toNat &&& b.toNat : Nat) : Int) := by simp [tot, has]
  have hh : has 8 m a b = true := by simp [tot, has]
  rw [hv, hh]
  clear hv hh
  go_enter Try.func163, Try.ntmps163
  go_wp2_with (first | (go_at_call 80; refine (mask_any _ _ (by assumption) (by assumption)).mono ?_; rintro e w' ⟨rfl, rfl⟩) | (go_at_call 150; refine (fn13 _ _ _ (by omega) (by omega) (by omega) (by omega)).mono ?_; rintro e w' ⟨rfl, rfl⟩))
  go_ret2
  exact ⟨rfl, Dr.refl _⟩

set_option maxHeartbeats 1000000 in
theorem pdo_9 (n a b : Int) (w : World) (h1 : 1 ≤ n) (h2 : n ≤ 32) (h3 : 0 ≤ a) (h4 : a < pw n) (h5 : 0 ≤ b) (h6 : b < pw n) (h : Nat) (hc : w.cell? ⟨h, 0, none⟩ = some (.func (.func 151) #[] #[])) : Calls Try.prog 163 #[.int .i64 n, .int .u32 a, .int .u32 b, .pointer (some ⟨h, 0, none⟩)] w fun e w' => e = .returned (.tuple #[.int .u32 (tot 9 n a b), .bool (has 9 n a b)]) ∧ Dr w w' := by
  obtain ⟨m, rfl⟩ := Int.eq_ofNat_of_zero_le (show 0 ≤ n by omega)
  have hp := @pw_le32 (m : Int) (by omega)
  have hp0 := pw_pos (m : Int)
  have hv : tot 9 m a b = ((a.toNat ||| b.toNat : Nat) : Int) := by simp [tot, has]
  have hh : has 9 m a b = true := by simp [tot, has]
  rw [hv, hh]
  clear hv hh
  go_enter Try.func163, Try.ntmps163
  go_wp2_with (first | (go_at_call 80; refine (mask_any _ _ (by assumption) (by assumption)).mono ?_; rintro e w' ⟨rfl, rfl⟩) | (go_at_call 151; refine (fn14 _ _ _ (by omega) (by omega) (by omega) (by omega)).mono ?_; rintro e w' ⟨rfl, rfl⟩))
  go_ret2
  exact ⟨rfl, Dr.refl _⟩

set_option maxHeartbeats 1000000 in
theorem pdo_10 (n a b : Int) (w : World) (h1 : 1 ≤ n) (h2 : n ≤ 32) (h3 : 0 ≤ a) (h4 : a < pw n) (h5 : 0 ≤ b) (h6 : b < pw n) (h : Nat) (hc : w.cell? ⟨h, 0, none⟩ = some (.func (.func 152) #[] #[])) : Calls Try.prog 163 #[.int .i64 n, .int .u32 a, .int .u32 b, .pointer (some ⟨h, 0, none⟩)] w fun e w' => e = .returned (.tuple #[.int .u32 (tot 10 n a b), .bool (has 10 n a b)]) ∧ Dr w w' := by
  obtain ⟨m, rfl⟩ := Int.eq_ofNat_of_zero_le (show 0 ≤ n by omega)
  have hp := @pw_le32 (m : Int) (by omega)
  have hp0 := pw_pos (m : Int)
  have hv : tot 10 m a b = ((a.toNat ^^^ b.toNat : Nat) : Int) := by simp [tot, has]
  have hh : has 10 m a b = true := by simp [tot, has]
  rw [hv, hh]
  clear hv hh
  go_enter Try.func163, Try.ntmps163
  go_wp2_with (first | (go_at_call 80; refine (mask_any _ _ (by assumption) (by assumption)).mono ?_; rintro e w' ⟨rfl, rfl⟩) | (go_at_call 152; refine (fn15 _ _ _ (by omega) (by omega) (by omega) (by omega)).mono ?_; rintro e w' ⟨rfl, rfl⟩))
  go_ret2
  exact ⟨rfl, Dr.refl _⟩

set_option maxHeartbeats 1000000 in
theorem pdo_4 (n a b : Int) (w : World) (h1 : 1 ≤ n) (h2 : n ≤ 32) (h3 : 0 ≤ a) (h4 : a < pw n) (h5 : 0 ≤ b) (h6 : b < pw n) : Calls Try.prog 142 #[.int .i64 n, .int .u32 a, .int .u32 b] w fun e w' => e = .returned (.tuple #[.int .u32 (tot 4 n a b), .bool (has 4 n a b)]) ∧ Dr w w' := by
  obtain ⟨m, rfl⟩ := Int.eq_ofNat_of_zero_le (show 0 ≤ n by omega)
  have hp := @pw_le32 (m : Int) (by omega)
  have hp0 := pw_pos (m : Int)
  by_cases hb : b = 0
  · have hb1 : (b == 0) = true := by simpa using hb
    have hv : tot 4 m a b = pw m - 1 := by simp [tot, has, hb]
    have hh : has 4 m a b = false := by simp [tot, has, hb]
    rw [hv, hh]
    clear hv hh
    clear hb
    go_enter Try.func142, Try.ntmps142
    go_wp2_with (first | (go_at_call 80; refine (mask_any _ _ (by assumption) (by assumption)).mono ?_; rintro e w' ⟨rfl, rfl⟩))
    go_ret2
    exact ⟨rfl, Dr.refl _⟩
  · have hb1 : (b == 0) = false := by simpa using hb
    have hb2 : 1 ≤ b := by omega
    have hv : tot 4 m a b = a / b := by simp [tot, has, hb]
    have hh : has 4 m a b = true := by simp [tot, has, hb]
    rw [hv, hh]
    clear hv hh
    clear hb
    go_enter Try.func142, Try.ntmps142
    go_wp2_with (first | (go_at_call 80; refine (mask_any _ _ (by assumption) (by assumption)).mono ?_; rintro e w' ⟨rfl, rfl⟩))
    go_ret2
    exact ⟨rfl, Dr.refl _⟩

set_option maxHeartbeats 1000000 in
theorem pdo_5 (n a b : Int) (w : World) (h1 : 1 ≤ n) (h2 : n ≤ 32) (h3 : 0 ≤ a) (h4 : a < pw n) (h5 : 0 ≤ b) (h6 : b < pw n) : Calls Try.prog 144 #[.int .i64 n, .int .u32 a, .int .u32 b] w fun e w' => e = .returned (.tuple #[.int .u32 (tot 5 n a b), .bool (has 5 n a b)]) ∧ Dr w w' := by
  obtain ⟨m, rfl⟩ := Int.eq_ofNat_of_zero_le (show 0 ≤ n by omega)
  have hp := @pw_le32 (m : Int) (by omega)
  have hp0 := pw_pos (m : Int)
  by_cases hb : b = 0
  · have hb1 : (b == 0) = true := by simpa using hb
    have hv : tot 5 m a b = a := by simp [tot, has, hb]
    have hh : has 5 m a b = false := by simp [tot, has, hb]
    rw [hv, hh]
    clear hv hh
    clear hb
    go_enter Try.func144, Try.ntmps144
    go_wp2_with (first | (go_at_call 80; refine (mask_any _ _ (by assumption) (by assumption)).mono ?_; rintro e w' ⟨rfl, rfl⟩))
    go_ret2
    exact ⟨rfl, Dr.refl _⟩
  · have hb1 : (b == 0) = false := by simpa using hb
    have hb2 : 1 ≤ b := by omega
    have hv : tot 5 m a b = a % b := by simp [tot, has, hb]
    have hh : has 5 m a b = true := by simp [tot, has, hb]
    rw [hv, hh]
    clear hv hh
    clear hb
    go_enter Try.func144, Try.ntmps144
    go_wp2_with (first | (go_at_call 80; refine (mask_any _ _ (by assumption) (by assumption)).mono ?_; rintro e w' ⟨rfl, rfl⟩))
    go_ret2
    exact ⟨rfl, Dr.refl _⟩

set_option maxHeartbeats 1000000 in
theorem pdo_6 (n a b : Int) (w : World) (h1 : 1 ≤ n) (h2 : n ≤ 32) (h3 : 0 ≤ a) (h4 : a < pw n) (h5 : 0 ≤ b) (h6 : b < pw n) : Calls Try.prog 145 #[.int .i64 n, .int .u32 a, .int .u32 b] w fun e w' => e = .returned (.tuple #[.int .u32 (tot 6 n a b), .bool (has 6 n a b)]) ∧ Dr w w' := by
  obtain ⟨m, rfl⟩ := Int.eq_ofNat_of_zero_le (show 0 ≤ n by omega)
  have hp := @pw_le32 (m : Int) (by omega)
  have hp0 := pw_pos (m : Int)
  have x1 := sgn_lo32 (n := m) (a := a) (by omega) (by omega) h3
  have x2 := sgn_hi32 (n := m) (a := a) (by omega) (by omega) h4
  have y1 := sgn_lo32 (n := m) (a := b) (by omega) (by omega) h5
  have y2 := sgn_hi32 (n := m) (a := b) (by omega) (by omega) h6
  have hp3 := @pw_le31 ((m : Int) - 1) (by omega)
  have hp4 := pw_pos ((m : Int) - 1)
  have hpw : wrap64 ((2 : Int) ^ (m - 1)) = pw ((m : Int) - 1) := by
    have e : ((m : Int) - 1).toNat = m - 1 := by omega
    rw [← e]; exact IntWalk.wrap64_in (pw ((m : Int) - 1)) (by omega)
  by_cases hh : has 6 m a b = true
  · have hq : has 6 m a b = true := by simpa [has] using hh
    have hv : tot 6 m a b = wr m ((sgn m a).tdiv (sgn m b)) := by
      have hb : b ≠ 0 := by
        intro hb; simp [has, hb] at hh
      have hxy : ¬ (sgn m a = -pw (m - 1) ∧ sgn m b = -1) := by
        intro hb; simp [has, hb] at hh
      simp [tot, hb, hxy]
    rw [hv, hh]
    clear hv hh
    have hm := mask_wr (n := m) (by omega) ((sgn m a).tdiv (sgn m b))
    go_enter Try.func145, Try.ntmps145
    go_wp2_with (first | (go_at_call 80; refine (mask_any _ _ (by assumption) (by assumption)).mono ?_; rintro e w' ⟨rfl, rfl⟩) | (go_at_call 146; refine (quotient_some _ _ _ _ (by omega) (by omega) (by omega) (by omega) (by omega) (by omega) (by assumption)).mono ?_; rintro e w' ⟨rfl, hd1⟩))
    go_ret2
    exact ⟨rfl, hd1⟩
  · have hh : has 6 m a b = false := by simpa using hh
    have hq : has 6 m a b = false := by simpa [has] using hh
    rw [hh]
    clear hh
    by_cases hb : b = 0
    · have hb1 : (b != 0) = false := by simpa using hb
      rcases Int.lt_or_le (sgn m a) 0 with hs | hs
      · have hv : tot 6 m a b = 1 := by simp [tot, hb, hs]
        rw [hv]
        clear hv hb
        go_enter Try.func145, Try.ntmps145
        go_wp2_with (first | (go_at_call 80; refine (mask_any _ _ (by assumption) (by assumption)).mono ?_; rintro e w' ⟨rfl, rfl⟩) | (go_at_call 146; refine (quotient_none _ _ _ _ (by omega) (by omega) (by omega) (by omega) (by omega) (by omega) (by assumption)).mono ?_; rintro e w' ⟨rfl, hd1⟩) | (go_at_call 105; refine (signed_any _ _ _ (by omega) (by omega) (by omega) (by omega)).mono ?_; rintro e w' ⟨rfl, rfl⟩))
        go_ret2
        exact ⟨rfl, hd1⟩
      · have hv : tot 6 m a b = pw m - 1 := by simp [tot, hb]; intro; omega
        rw [hv]
        clear hv hb
        go_enter Try.func145, Try.ntmps145
        go_wp2_with (first | (go_at_call 80; refine (mask_any _ _ (by assumption) (by assumption)).mono ?_; rintro e w' ⟨rfl, rfl⟩) | (go_at_call 146; refine (quotient_none _ _ _ _ (by omega) (by omega) (by omega) (by omega) (by omega) (by omega) (by assumption)).mono ?_; rintro e w' ⟨rfl, hd1⟩) | (go_at_call 105; refine (signed_any _ _ _ (by omega) (by omega) (by omega) (by omega)).mono ?_; rintro e w' ⟨rfl, rfl⟩))
        go_ret2
        exact ⟨rfl, hd1⟩
    · have hb1 : (b != 0) = true := by simpa using hb
      have hv : tot 6 m a b = a := by
        have hx : sgn m a = -pw (m - 1) ∧ sgn m b = -1 := by simpa [has, hb] using hq
        simp [tot, hb, hx]
      rw [hv]
      clear hv hb
      go_enter Try.func145, Try.ntmps145
      go_wp2_with (first | (go_at_call 80; refine (mask_any _ _ (by assumption) (by assumption)).mono ?_; rintro e w' ⟨rfl, rfl⟩) | (go_at_call 146; refine (quotient_none _ _ _ _ (by omega) (by omega) (by omega) (by omega) (by omega) (by omega) (by assumption)).mono ?_; rintro e w' ⟨rfl, hd1⟩) | (go_at_call 105; refine (signed_any _ _ _ (by omega) (by omega) (by omega) (by omega)).mono ?_; rintro e w' ⟨rfl, rfl⟩))
      go_ret2
      exact ⟨rfl, hd1⟩

set_option maxHeartbeats 1000000 in
theorem pdo_7 (n a b : Int) (w : World) (h1 : 1 ≤ n) (h2 : n ≤ 32) (h3 : 0 ≤ a) (h4 : a < pw n) (h5 : 0 ≤ b) (h6 : b < pw n) : Calls Try.prog 148 #[.int .i64 n, .int .u32 a, .int .u32 b] w fun e w' => e = .returned (.tuple #[.int .u32 (tot 7 n a b), .bool (has 7 n a b)]) ∧ Dr w w' := by
  obtain ⟨m, rfl⟩ := Int.eq_ofNat_of_zero_le (show 0 ≤ n by omega)
  have hp := @pw_le32 (m : Int) (by omega)
  have hp0 := pw_pos (m : Int)
  have x1 := sgn_lo32 (n := m) (a := a) (by omega) (by omega) h3
  have x2 := sgn_hi32 (n := m) (a := a) (by omega) (by omega) h4
  have y1 := sgn_lo32 (n := m) (a := b) (by omega) (by omega) h5
  have y2 := sgn_hi32 (n := m) (a := b) (by omega) (by omega) h6
  have hp3 := @pw_le31 ((m : Int) - 1) (by omega)
  have hp4 := pw_pos ((m : Int) - 1)
  have hpw : wrap64 ((2 : Int) ^ (m - 1)) = pw ((m : Int) - 1) := by
    have e : ((m : Int) - 1).toNat = m - 1 := by omega
    rw [← e]; exact IntWalk.wrap64_in (pw ((m : Int) - 1)) (by omega)
  by_cases hh : has 7 m a b = true
  · have hq : has 6 m a b = true := by simpa [has] using hh
    have hv : tot 7 m a b = wr m ((sgn m a).tmod (sgn m b)) := by
      have hb : b ≠ 0 := by
        intro hb; simp [has, hb] at hh
      have hxy : ¬ (sgn m a = -pw (m - 1) ∧ sgn m b = -1) := by
        intro hb; simp [has, hb] at hh
      simp [tot, hb, hxy]
    rw [hv, hh]
    clear hv hh
    have hm := mask_wr (n := m) (by omega) ((sgn m a).tmod (sgn m b))
    go_enter Try.func148, Try.ntmps148
    go_wp2_with (first | (go_at_call 80; refine (mask_any _ _ (by assumption) (by assumption)).mono ?_; rintro e w' ⟨rfl, rfl⟩) | (go_at_call 146; refine (quotient_some _ _ _ _ (by omega) (by omega) (by omega) (by omega) (by omega) (by omega) (by assumption)).mono ?_; rintro e w' ⟨rfl, hd1⟩))
    go_ret2
    exact ⟨rfl, hd1⟩
  · have hh : has 7 m a b = false := by simpa using hh
    have hq : has 6 m a b = false := by simpa [has] using hh
    rw [hh]
    clear hh
    by_cases hb : b = 0
    · have hb1 : (b == 0) = true := by simpa using hb
      have hv : tot 7 m a b = a := by simp [tot, hb]
      rw [hv]
      clear hv hb
      go_enter Try.func148, Try.ntmps148
      go_wp2_with (first | (go_at_call 80; refine (mask_any _ _ (by assumption) (by assumption)).mono ?_; rintro e w' ⟨rfl, rfl⟩) | (go_at_call 146; refine (quotient_none _ _ _ _ (by omega) (by omega) (by omega) (by omega) (by omega) (by omega) (by assumption)).mono ?_; rintro e w' ⟨rfl, hd1⟩))
      go_ret2
      exact ⟨rfl, hd1⟩
    · have hb1 : (b == 0) = false := by simpa using hb
      have hv : tot 7 m a b = 0 := by
        have hx : sgn m a = -pw (m - 1) ∧ sgn m b = -1 := by simpa [has, hb] using hq
        simp [tot, hb, hx]
      have hm : bits .and .u32 0 (pw m - 1) = 0 := by rw [mask_fit (by omega) (by omega) (by omega)]; exact Int.zero_emod _
      rw [hv]
      clear hv hb
      go_enter Try.func148, Try.ntmps148
      go_wp2_with (first | (go_at_call 80; refine (mask_any _ _ (by assumption) (by assumption)).mono ?_; rintro e w' ⟨rfl, rfl⟩) | (go_at_call 146; refine (quotient_none _ _ _ _ (by omega) (by omega) (by omega) (by omega) (by omega) (by omega) (by assumption)).mono ?_; rintro e w' ⟨rfl, hd1⟩))
      go_ret2
      exact ⟨rfl, hd1⟩

theorem sign_any (n a : Int) (w : World) (h1 : 1 ≤ n) (h2 : n ≤ 32) (h3 : 0 ≤ a) (h4 : a < pw n) : Calls Try.prog 158 #[.int .i64 n, .int .u32 a] w fun e w' => e = .returned (.int .u32 (signV n a)) ∧ w = w' := by
  rcases Int.lt_or_le (sgn n a) 0 with hs | hs
  · have hv : signV n a = pw n - 1 := by simp [signV, hs]
    rw [hv]
    clear hv
    go_enter Try.func158, Try.ntmps158
    go_wp2_with (first | (go_at_call 80; refine (mask_any _ _ (by assumption) (by assumption)).mono ?_; rintro e w' ⟨rfl, rfl⟩) | (go_at_call 105; refine (signed_any _ _ _ (by omega) (by omega) (by omega) (by omega)).mono ?_; rintro e w' ⟨rfl, rfl⟩))
    go_ret
    exact ⟨rfl, rfl⟩
  · have hv : signV n a = 0 := by simp [signV]; omega
    rw [hv]
    clear hv
    go_enter Try.func158, Try.ntmps158
    go_wp2_with (first | (go_at_call 80; refine (mask_any _ _ (by assumption) (by assumption)).mono ?_; rintro e w' ⟨rfl, rfl⟩) | (go_at_call 105; refine (signed_any _ _ _ (by omega) (by omega) (by omega) (by omega)).mono ?_; rintro e w' ⟨rfl, rfl⟩))
    go_ret
    exact ⟨rfl, rfl⟩

set_option maxHeartbeats 1000000 in
theorem pdo_11 (n a b : Int) (w : World) (h1 : 1 ≤ n) (h2 : n ≤ 32) (h3 : 0 ≤ a) (h4 : a < pw n) (h5 : 0 ≤ b) (h6 : b < pw n) : Calls Try.prog 153 #[.int .i64 n, .int .u32 a, .int .u32 b] w fun e w' => e = .returned (.tuple #[.int .u32 (tot 11 n a b), .bool (has 11 n a b)]) ∧ Dr w w' := by
  obtain ⟨m, rfl⟩ := Int.eq_ofNat_of_zero_le (show 0 ≤ n by omega)
  have hp := @pw_le32 (m : Int) (by omega)
  have hp0 := pw_pos (m : Int)
  by_cases hb : (m : Int) ≤ b
  · have hv : tot 11 m a b = 0 := by simp [tot, has, hb]
    have hh : has 11 m a b = false := by simp [tot, has, hb]
    rw [hv, hh]
    clear hv hh
    go_enter Try.func153, Try.ntmps153
    go_wp2_with (first | (go_at_call 80; refine (mask_any _ _ (by assumption) (by assumption)).mono ?_; rintro e w' ⟨rfl, rfl⟩) | (go_at_call 158; refine (sign_any _ _ _ (by omega) (by omega) (by omega) (by omega)).mono ?_; rintro e w' ⟨rfl, rfl⟩))
    go_ret2
    exact ⟨rfl, Dr.refl _⟩
  · obtain ⟨k, rfl⟩ := Int.eq_ofNat_of_zero_le h5
    have hk : k < m := by omega
    have hd : decide (m ≤ k) = false := by simpa using hk
    have hv : tot 11 m a k = wr m (a * pw k) := by first | (simp [tot, has, hb]; done) | (simp [tot, has]; omega)
    have hh : has 11 m a k = true := by first | (simp [tot, has, hb]; done) | (simp [tot, has]; omega)
    rw [hv, hh]
    clear hv hh
    have hm := mask_wr (n := m) (by omega) (a * pw k)
    rw [pw_cast] at hm ⊢
    go_enter Try.func153, Try.ntmps153
    go_wp2_with (first | (go_at_call 80; refine (mask_any _ _ (by assumption) (by assumption)).mono ?_; rintro e w' ⟨rfl, rfl⟩) | (go_at_call 158; refine (sign_any _ _ _ (by omega) (by omega) (by omega) (by omega)).mono ?_; rintro e w' ⟨rfl, rfl⟩) | (go_at_call 105; refine (signed_any _ _ _ (by omega) (by omega) (by omega) (by omega)).mono ?_; rintro e w' ⟨rfl, rfl⟩))
    go_ret2
    exact ⟨rfl, Dr.refl _⟩

set_option maxHeartbeats 1000000 in
theorem pdo_12 (n a b : Int) (w : World) (h1 : 1 ≤ n) (h2 : n ≤ 32) (h3 : 0 ≤ a) (h4 : a < pw n) (h5 : 0 ≤ b) (h6 : b < pw n) : Calls Try.prog 155 #[.int .i64 n, .int .u32 a, .int .u32 b] w fun e w' => e = .returned (.tuple #[.int .u32 (tot 12 n a b), .bool (has 12 n a b)]) ∧ Dr w w' := by
  obtain ⟨m, rfl⟩ := Int.eq_ofNat_of_zero_le (show 0 ≤ n by omega)
  have hp := @pw_le32 (m : Int) (by omega)
  have hp0 := pw_pos (m : Int)
  by_cases hb : (m : Int) ≤ b
  · have hv : tot 12 m a b = 0 := by simp [tot, has, hb]
    have hh : has 12 m a b = false := by simp [tot, has, hb]
    rw [hv, hh]
    clear hv hh
    go_enter Try.func155, Try.ntmps155
    go_wp2_with (first | (go_at_call 80; refine (mask_any _ _ (by assumption) (by assumption)).mono ?_; rintro e w' ⟨rfl, rfl⟩) | (go_at_call 158; refine (sign_any _ _ _ (by omega) (by omega) (by omega) (by omega)).mono ?_; rintro e w' ⟨rfl, rfl⟩))
    go_ret2
    exact ⟨rfl, Dr.refl _⟩
  · obtain ⟨k, rfl⟩ := Int.eq_ofNat_of_zero_le h5
    have hk : k < m := by omega
    have hd : decide (m ≤ k) = false := by simpa using hk
    have hv : tot 12 m a k = a / pw k := by first | (simp [tot, has, hb]; done) | (simp [tot, has]; omega)
    have hh : has 12 m a k = true := by first | (simp [tot, has, hb]; done) | (simp [tot, has]; omega)
    rw [hv, hh]
    clear hv hh
    rw [pw_cast]
    go_enter Try.func155, Try.ntmps155
    go_wp2_with (first | (go_at_call 80; refine (mask_any _ _ (by assumption) (by assumption)).mono ?_; rintro e w' ⟨rfl, rfl⟩) | (go_at_call 158; refine (sign_any _ _ _ (by omega) (by omega) (by omega) (by omega)).mono ?_; rintro e w' ⟨rfl, rfl⟩) | (go_at_call 105; refine (signed_any _ _ _ (by omega) (by omega) (by omega) (by omega)).mono ?_; rintro e w' ⟨rfl, rfl⟩))
    go_ret2
    exact ⟨rfl, Dr.refl _⟩

set_option maxHeartbeats 1000000 in
theorem pdo_13 (n a b : Int) (w : World) (h1 : 1 ≤ n) (h2 : n ≤ 32) (h3 : 0 ≤ a) (h4 : a < pw n) (h5 : 0 ≤ b) (h6 : b < pw n) : Calls Try.prog 157 #[.int .i64 n, .int .u32 a, .int .u32 b] w fun e w' => e = .returned (.tuple #[.int .u32 (tot 13 n a b), .bool (has 13 n a b)]) ∧ Dr w w' := by
  obtain ⟨m, rfl⟩ := Int.eq_ofNat_of_zero_le (show 0 ≤ n by omega)
  have hp := @pw_le32 (m : Int) (by omega)
  have hp0 := pw_pos (m : Int)
  by_cases hb : (m : Int) ≤ b
  · have hv : tot 13 m a b = signV m a := by simp [tot, has, hb, signV]
    have hh : has 13 m a b = false := by simp [tot, has, hb, signV]
    rw [hv, hh]
    clear hv hh
    go_enter Try.func157, Try.ntmps157
    go_wp2_with (first | (go_at_call 80; refine (mask_any _ _ (by assumption) (by assumption)).mono ?_; rintro e w' ⟨rfl, rfl⟩) | (go_at_call 158; refine (sign_any _ _ _ (by omega) (by omega) (by omega) (by omega)).mono ?_; rintro e w' ⟨rfl, rfl⟩))
    go_ret2
    exact ⟨rfl, Dr.refl _⟩
  · obtain ⟨k, rfl⟩ := Int.eq_ofNat_of_zero_le h5
    have hk : k < m := by omega
    have hd : decide (m ≤ k) = false := by simpa using hk
    have hv : tot 13 m a k = wr m (sgn m a / pw k) := by first | (simp [tot, has, hb]; done) | (simp [tot, has]; omega)
    have hh : has 13 m a k = true := by first | (simp [tot, has, hb]; done) | (simp [tot, has]; omega)
    rw [hv, hh]
    clear hv hh
    have hm := mask_wr (n := m) (by omega) (sgn m a / pw k)
    rw [pw_cast] at hm ⊢
    go_enter Try.func157, Try.ntmps157
    go_wp2_with (first | (go_at_call 80; refine (mask_any _ _ (by assumption) (by assumption)).mono ?_; rintro e w' ⟨rfl, rfl⟩) | (go_at_call 158; refine (sign_any _ _ _ (by omega) (by omega) (by omega) (by omega)).mono ?_; rintro e w' ⟨rfl, rfl⟩) | (go_at_call 105; refine (signed_any _ _ _ (by omega) (by omega) (by omega) (by omega)).mono ?_; rintro e w' ⟨rfl, rfl⟩))
    go_ret2
    exact ⟨rfl, Dr.refl _⟩

end Go.Proofs.Ythopdfikikdcbaa
/- Walks of bits.Do and bits.Total. -/
namespace Go.Proofs.Ythopdfikikdcbaa
open Go.RowKit Wd

/-- What asked tells of a row, whatever the words. -/
def Shape (v : Value) : Prop := (∃ (fd fw : Nat) (cd : Array Value), v = .agg #[.func (.func fd) #[] cd, .func (.func fw) #[] #[], .nilFunc]) ∨ (∃ (fd fl : Nat) (cd : Array Value), v = .agg #[.func (.func fd) #[] cd, .nilFunc, .func (.func fl) #[] #[]]) ∨ (∃ (fd : Nat) (cd : Array Value), v = .agg #[.func (.func fd) #[] cd, .nilFunc, .nilFunc]) ∨ v = .agg #[.nilFunc, .nilFunc, .nilFunc]
theorem asked_bad (op n a b : Int) (w : World) (g : good op n a b = false) : Calls Try.prog 106 #[.int .i64 op, .int .i64 n, .int .u32 a, .int .u32 b] w fun e w' => ∃ v, e = .returned (.tuple #[v, .bool false]) ∧ Shape v ∧ Below w.heap.size w w' := by
  by_cases ho : 1 ≤ op ∧ op ≤ 13
  · have hx : (isW n && fit n a && fit n b) = false := by
      rw [Bool.eq_false_iff]
      intro h
      have := (good_iff op n a b).2 (by simp [isW, fit] at h; omega)
      rw [g] at this; cases this
    have h : op = 1 ∨ op = 2 ∨ op = 3 ∨ op = 4 ∨ op = 5 ∨ op = 6 ∨ op = 7 ∨ op = 8 ∨ op = 9 ∨ op = 10 ∨ op = 11 ∨ op = 12 ∨ op = 13 := by omega
    rcases h with rfl | rfl | rfl | rfl | rfl | rfl | rfl | rfl | rfl | rfl | rfl | rfl | rfl
    · refine (asked_w 1 n a b 0 162 135 (fun h => #[.pointer (some ⟨h + 1, 0, none⟩)]) _ (fun _ => rfl)).mono ?_
      rintro e w1 ⟨h, rfl, _, hb1⟩
      exact ⟨_, by rw [hx], .inl ⟨_, _, _, rfl⟩, hb1⟩
    · refine (asked_w 2 n a b 1 162 137 (fun h => #[.pointer (some ⟨h + 3, 0, none⟩)]) _ (fun _ => rfl)).mono ?_
      rintro e w1 ⟨h, rfl, _, hb1⟩
      exact ⟨_, by rw [hx], .inl ⟨_, _, _, rfl⟩, hb1⟩
    · refine (asked_w 3 n a b 2 162 139 (fun h => #[.pointer (some ⟨h + 5, 0, none⟩)]) _ (fun _ => rfl)).mono ?_
      rintro e w1 ⟨h, rfl, _, hb1⟩
      exact ⟨_, by rw [hx], .inl ⟨_, _, _, rfl⟩, hb1⟩
    · refine (asked_l 4 n a b 3 142 143 (fun _ => #[]) _ (fun _ => rfl)).mono ?_
      rintro e w1 ⟨h, rfl, _, hb1⟩
      exact ⟨_, by rw [hx], .inr (.inl ⟨_, _, _, rfl⟩), hb1⟩
    · refine (asked_n 5 n a b 4 144 (fun _ => #[]) _ (fun _ => rfl)).mono ?_
      rintro e w1 ⟨h, rfl, _, hb1⟩
      exact ⟨_, by rw [hx], .inr (.inr (.inl ⟨_, _, rfl⟩)), hb1⟩
    · refine (asked_l 6 n a b 5 145 147 (fun _ => #[]) _ (fun _ => rfl)).mono ?_
      rintro e w1 ⟨h, rfl, _, hb1⟩
      exact ⟨_, by rw [hx], .inr (.inl ⟨_, _, _, rfl⟩), hb1⟩
    · refine (asked_n 7 n a b 6 148 (fun _ => #[]) _ (fun _ => rfl)).mono ?_
      rintro e w1 ⟨h, rfl, _, hb1⟩
      exact ⟨_, by rw [hx], .inr (.inr (.inl ⟨_, _, rfl⟩)), hb1⟩
    · refine (asked_n 8 n a b 7 163 (fun h => #[.pointer (some ⟨h + 7, 0, none⟩)]) _ (fun _ => rfl)).mono ?_
      rintro e w1 ⟨h, rfl, _, hb1⟩
      exact ⟨_, by rw [hx], .inr (.inr (.inl ⟨_, _, rfl⟩)), hb1⟩
    · refine (asked_n 9 n a b 8 163 (fun h => #[.pointer (some ⟨h + 9, 0, none⟩)]) _ (fun _ => rfl)).mono ?_
      rintro e w1 ⟨h, rfl, _, hb1⟩
      exact ⟨_, by rw [hx], .inr (.inr (.inl ⟨_, _, rfl⟩)), hb1⟩
    · refine (asked_n 10 n a b 9 163 (fun h => #[.pointer (some ⟨h + 11, 0, none⟩)]) _ (fun _ => rfl)).mono ?_
      rintro e w1 ⟨h, rfl, _, hb1⟩
      exact ⟨_, by rw [hx], .inr (.inr (.inl ⟨_, _, rfl⟩)), hb1⟩
    · refine (asked_w 11 n a b 10 153 154 (fun _ => #[]) _ (fun _ => rfl)).mono ?_
      rintro e w1 ⟨h, rfl, _, hb1⟩
      exact ⟨_, by rw [hx], .inl ⟨_, _, _, rfl⟩, hb1⟩
    · refine (asked_l 12 n a b 11 155 156 (fun _ => #[]) _ (fun _ => rfl)).mono ?_
      rintro e w1 ⟨h, rfl, _, hb1⟩
      exact ⟨_, by rw [hx], .inr (.inl ⟨_, _, _, rfl⟩), hb1⟩
    · refine (asked_l 13 n a b 12 157 159 (fun _ => #[]) _ (fun _ => rfl)).mono ?_
      rintro e w1 ⟨h, rfl, _, hb1⟩
      exact ⟨_, by rw [hx], .inr (.inl ⟨_, _, _, rfl⟩), hb1⟩
  · refine (asked_none op n a b w (fun h => ?_)).mono ?_
    · unfold opEntries
      simp only [findNow_int, findNow_nil]
      repeat rw [if_neg (by omega)]
    · rintro e w1 ⟨rfl, hb1⟩
      exact ⟨_, rfl, .inr (.inr (.inr rfl)), hb1⟩

set_option maxHeartbeats 1000000 in
theorem pTotal_1 (n a b : Int) (w : World) (g : good 1 n a b = true) (h3 : 0 ≤ a) (h5 : 0 ≤ b) : Calls Try.prog 84 #[.int .i64 1, .int .i64 n, .int .u32 a, .int .u32 b] w fun e w' => e = .returned (.tuple #[.int .u32 (tot 1 n a b), .int .i64 0]) ∧ Below w.heap.size w w' := by
  obtain ⟨_, _, g3, g4, g5, g6⟩ := (good_iff _ _ _ _).1 g
  have hw : isW n = true := by simp [isW, g3, g4]
  have fa : fit n a = true := by simp [fit, g5]
  have fb : fit n b = true := by simp [fit, g6]
  go_enter Try.func84, Try.ntmps84
  go_wp2_with (first | (go_at_call 106; refine (asked_w 1 n a b 0 162 135 (fun h => #[.pointer (some ⟨h + 1, 0, none⟩)]) _ (fun _ => rfl)).mono ?_; rintro e w1 ⟨h, rfl, ⟨m3, m4, c1, c2, c3, c8, c9, c10⟩, hb1⟩) | (go_at_call 162; refine (pdo_1 n a b _ (by assumption) (by assumption) (by assumption) (by assumption) (by assumption) (by assumption) (h + 1) (by have q : h + 1 < w1.heap.size := (by omega); simp [go_sem, *])).mono ?_; rintro e w2 ⟨rfl, hd1⟩))
  go_ret2
  exact ⟨rfl, ((hb1.trans ((Below.refl _ _).alloc hb1.size _)).trans (hd1.below _))⟩

set_option maxHeartbeats 1000000 in
theorem pTotal_2 (n a b : Int) (w : World) (g : good 2 n a b = true) (h3 : 0 ≤ a) (h5 : 0 ≤ b) : Calls Try.prog 84 #[.int .i64 2, .int .i64 n, .int .u32 a, .int .u32 b] w fun e w' => e = .returned (.tuple #[.int .u32 (tot 2 n a b), .int .i64 0]) ∧ Below w.heap.size w w' := by
  obtain ⟨_, _, g3, g4, g5, g6⟩ := (good_iff _ _ _ _).1 g
  have hw : isW n = true := by simp [isW, g3, g4]
  have fa : fit n a = true := by simp [fit, g5]
  have fb : fit n b = true := by simp [fit, g6]
  go_enter Try.func84, Try.ntmps84
  go_wp2_with (first | (go_at_call 106; refine (asked_w 2 n a b 1 162 137 (fun h => #[.pointer (some ⟨h + 3, 0, none⟩)]) _ (fun _ => rfl)).mono ?_; rintro e w1 ⟨h, rfl, ⟨m3, m4, c1, c2, c3, c8, c9, c10⟩, hb1⟩) | (go_at_call 162; refine (pdo_2 n a b _ (by assumption) (by assumption) (by assumption) (by assumption) (by assumption) (by assumption) (h + 3) (by have q : h + 3 < w1.heap.size := (by omega); simp [go_sem, *])).mono ?_; rintro e w2 ⟨rfl, hd1⟩))
  go_ret2
  exact ⟨rfl, ((hb1.trans ((Below.refl _ _).alloc hb1.size _)).trans (hd1.below _))⟩

set_option maxHeartbeats 1000000 in
theorem pTotal_3 (n a b : Int) (w : World) (g : good 3 n a b = true) (h3 : 0 ≤ a) (h5 : 0 ≤ b) : Calls Try.prog 84 #[.int .i64 3, .int .i64 n, .int .u32 a, .int .u32 b] w fun e w' => e = .returned (.tuple #[.int .u32 (tot 3 n a b), .int .i64 0]) ∧ Below w.heap.size w w' := by
  obtain ⟨_, _, g3, g4, g5, g6⟩ := (good_iff _ _ _ _).1 g
  have hw : isW n = true := by simp [isW, g3, g4]
  have fa : fit n a = true := by simp [fit, g5]
  have fb : fit n b = true := by simp [fit, g6]
  go_enter Try.func84, Try.ntmps84
  go_wp2_with (first | (go_at_call 106; refine (asked_w 3 n a b 2 162 139 (fun h => #[.pointer (some ⟨h + 5, 0, none⟩)]) _ (fun _ => rfl)).mono ?_; rintro e w1 ⟨h, rfl, ⟨m3, m4, c1, c2, c3, c8, c9, c10⟩, hb1⟩) | (go_at_call 162; refine (pdo_3 n a b _ (by assumption) (by assumption) (by assumption) (by assumption) (by assumption) (by assumption) (h + 5) (by have q : h + 5 < w1.heap.size := (by omega); simp [go_sem, *])).mono ?_; rintro e w2 ⟨rfl, hd1⟩))
  go_ret2
  exact ⟨rfl, ((hb1.trans ((Below.refl _ _).alloc hb1.size _)).trans (hd1.below _))⟩

set_option maxHeartbeats 1000000 in
theorem pTotal_4 (n a b : Int) (w : World) (g : good 4 n a b = true) (h3 : 0 ≤ a) (h5 : 0 ≤ b) : Calls Try.prog 84 #[.int .i64 4, .int .i64 n, .int .u32 a, .int .u32 b] w fun e w' => e = .returned (.tuple #[.int .u32 (tot 4 n a b), .int .i64 0]) ∧ Below w.heap.size w w' := by
  obtain ⟨_, _, g3, g4, g5, g6⟩ := (good_iff _ _ _ _).1 g
  have hw : isW n = true := by simp [isW, g3, g4]
  have fa : fit n a = true := by simp [fit, g5]
  have fb : fit n b = true := by simp [fit, g6]
  go_enter Try.func84, Try.ntmps84
  go_wp2_with (first | (go_at_call 106; refine (asked_l 4 n a b 3 142 143 (fun _ => #[]) _ (fun _ => rfl)).mono ?_; rintro e w1 ⟨h, rfl, ⟨m3, m4, c1, c2, c3, c8, c9, c10⟩, hb1⟩) | (go_at_call 142; refine (pdo_4 n a b _ (by assumption) (by assumption) (by assumption) (by assumption) (by assumption) (by assumption)).mono ?_; rintro e w2 ⟨rfl, hd1⟩))
  go_ret2
  exact ⟨rfl, ((hb1.trans ((Below.refl _ _).alloc hb1.size _)).trans (hd1.below _))⟩

set_option maxHeartbeats 1000000 in
theorem pTotal_5 (n a b : Int) (w : World) (g : good 5 n a b = true) (h3 : 0 ≤ a) (h5 : 0 ≤ b) : Calls Try.prog 84 #[.int .i64 5, .int .i64 n, .int .u32 a, .int .u32 b] w fun e w' => e = .returned (.tuple #[.int .u32 (tot 5 n a b), .int .i64 0]) ∧ Below w.heap.size w w' := by
  obtain ⟨_, _, g3, g4, g5, g6⟩ := (good_iff _ _ _ _).1 g
  have hw : isW n = true := by simp [isW, g3, g4]
  have fa : fit n a = true := by simp [fit, g5]
  have fb : fit n b = true := by simp [fit, g6]
  go_enter Try.func84, Try.ntmps84
  go_wp2_with (first | (go_at_call 106; refine (asked_n 5 n a b 4 144 (fun _ => #[]) _ (fun _ => rfl)).mono ?_; rintro e w1 ⟨h, rfl, ⟨m3, m4, c1, c2, c3, c8, c9, c10⟩, hb1⟩) | (go_at_call 144; refine (pdo_5 n a b _ (by assumption) (by assumption) (by assumption) (by assumption) (by assumption) (by assumption)).mono ?_; rintro e w2 ⟨rfl, hd1⟩))
  go_ret2
  exact ⟨rfl, ((hb1.trans ((Below.refl _ _).alloc hb1.size _)).trans (hd1.below _))⟩

set_option maxHeartbeats 1000000 in
theorem pTotal_6 (n a b : Int) (w : World) (g : good 6 n a b = true) (h3 : 0 ≤ a) (h5 : 0 ≤ b) : Calls Try.prog 84 #[.int .i64 6, .int .i64 n, .int .u32 a, .int .u32 b] w fun e w' => e = .returned (.tuple #[.int .u32 (tot 6 n a b), .int .i64 0]) ∧ Below w.heap.size w w' := by
  obtain ⟨_, _, g3, g4, g5, g6⟩ := (good_iff _ _ _ _).1 g
  have hw : isW n = true := by simp [isW, g3, g4]
  have fa : fit n a = true := by simp [fit, g5]
  have fb : fit n b = true := by simp [fit, g6]
  go_enter Try.func84, Try.ntmps84
  go_wp2_with (first | (go_at_call 106; refine (asked_l 6 n a b 5 145 147 (fun _ => #[]) _ (fun _ => rfl)).mono ?_; rintro e w1 ⟨h, rfl, ⟨m3, m4, c1, c2, c3, c8, c9, c10⟩, hb1⟩) | (go_at_call 145; refine (pdo_6 n a b _ (by assumption) (by assumption) (by assumption) (by assumption) (by assumption) (by assumption)).mono ?_; rintro e w2 ⟨rfl, hd1⟩))
  go_ret2
  exact ⟨rfl, ((hb1.trans ((Below.refl _ _).alloc hb1.size _)).trans (hd1.below _))⟩

set_option maxHeartbeats 1000000 in
theorem pTotal_7 (n a b : Int) (w : World) (g : good 7 n a b = true) (h3 : 0 ≤ a) (h5 : 0 ≤ b) : Calls Try.prog 84 #[.int .i64 7, .int .i64 n, .int .u32 a, .int .u32 b] w fun e w' => e = .returned (.tuple #[.int .u32 (tot 7 n a b), .int .i64 0]) ∧ Below w.heap.size w w' := by
  obtain ⟨_, _, g3, g4, g5, g6⟩ := (good_iff _ _ _ _).1 g
  have hw : isW n = true := by simp [isW, g3, g4]
  have fa : fit n a = true := by simp [fit, g5]
  have fb : fit n b = true := by simp [fit, g6]
  go_enter Try.func84, Try.ntmps84
  go_wp2_with (first | (go_at_call 106; refine (asked_n 7 n a b 6 148 (fun _ => #[]) _ (fun _ => rfl)).mono ?_; rintro e w1 ⟨h, rfl, ⟨m3, m4, c1, c2, c3, c8, c9, c10⟩, hb1⟩) | (go_at_call 148; refine (pdo_7 n a b _ (by assumption) (by assumption) (by assumption) (by assumption) (by assumption) (by assumption)).mono ?_; rintro e w2 ⟨rfl, hd1⟩))
  go_ret2
  exact ⟨rfl, ((hb1.trans ((Below.refl _ _).alloc hb1.size _)).trans (hd1.below _))⟩

set_option maxHeartbeats 1000000 in
theorem pTotal_8 (n a b : Int) (w : World) (g : good 8 n a b = true) (h3 : 0 ≤ a) (h5 : 0 ≤ b) : Calls Try.prog 84 #[.int .i64 8, .int .i64 n, .int .u32 a, .int .u32 b] w fun e w' => e = .returned (.tuple #[.int .u32 (tot 8 n a b), .int .i64 0]) ∧ Below w.heap.size w w' := by
  obtain ⟨_, _, g3, g4, g5, g6⟩ := (good_iff _ _ _ _).1 g
  have hw : isW n = true := by simp [isW, g3, g4]
  have fa : fit n a = true := by simp [fit, g5]
  have fb : fit n b = true := by simp [fit, g6]
  go_enter Try.func84, Try.ntmps84
  go_wp2_with (first | (go_at_call 106; refine (asked_n 8 n a b 7 163 (fun h => #[.pointer (some ⟨h + 7, 0, none⟩)]) _ (fun _ => rfl)).mono ?_; rintro e w1 ⟨h, rfl, ⟨m3, m4, c1, c2, c3, c8, c9, c10⟩, hb1⟩) | (go_at_call 163; refine (pdo_8 n a b _ (by assumption) (by assumption) (by assumption) (by assumption) (by assumption) (by assumption) (h + 7) (by have q : h + 7 < w1.heap.size := (by omega); simp [go_sem, *])).mono ?_; rintro e w2 ⟨rfl, hd1⟩))
  go_ret2
  exact ⟨rfl, ((hb1.trans ((Below.refl _ _).alloc hb1.size _)).trans (hd1.below _))⟩

set_option maxHeartbeats 1000000 in
theorem pTotal_9 (n a b : Int) (w : World) (g : good 9 n a b = true) (h3 : 0 ≤ a) (h5 : 0 ≤ b) : Calls Try.prog 84 #[.int .i64 9, .int .i64 n, .int .u32 a, .int .u32 b] w fun e w' => e = .returned (.tuple #[.int .u32 (tot 9 n a b), .int .i64 0]) ∧ Below w.heap.size w w' := by
  obtain ⟨_, _, g3, g4, g5, g6⟩ := (good_iff _ _ _ _).1 g
  have hw : isW n = true := by simp [isW, g3, g4]
  have fa : fit n a = true := by simp [fit, g5]
  have fb : fit n b = true := by simp [fit, g6]
  go_enter Try.func84, Try.ntmps84
  go_wp2_with (first | (go_at_call 106; refine (asked_n 9 n a b 8 163 (fun h => #[.pointer (some ⟨h + 9, 0, none⟩)]) _ (fun _ => rfl)).mono ?_; rintro e w1 ⟨h, rfl, ⟨m3, m4, c1, c2, c3, c8, c9, c10⟩, hb1⟩) | (go_at_call 163; refine (pdo_9 n a b _ (by assumption) (by assumption) (by assumption) (by assumption) (by assumption) (by assumption) (h + 9) (by have q : h + 9 < w1.heap.size := (by omega); simp [go_sem, *])).mono ?_; rintro e w2 ⟨rfl, hd1⟩))
  go_ret2
  exact ⟨rfl, ((hb1.trans ((Below.refl _ _).alloc hb1.size _)).trans (hd1.below _))⟩

set_option maxHeartbeats 1000000 in
theorem pTotal_10 (n a b : Int) (w : World) (g : good 10 n a b = true) (h3 : 0 ≤ a) (h5 : 0 ≤ b) : Calls Try.prog 84 #[.int .i64 10, .int .i64 n, .int .u32 a, .int .u32 b] w fun e w' => e = .returned (.tuple #[.int .u32 (tot 10 n a b), .int .i64 0]) ∧ Below w.heap.size w w' := by
  obtain ⟨_, _, g3, g4, g5, g6⟩ := (good_iff _ _ _ _).1 g
  have hw : isW n = true := by simp [isW, g3, g4]
  have fa : fit n a = true := by simp [fit, g5]
  have fb : fit n b = true := by simp [fit, g6]
  go_enter Try.func84, Try.ntmps84
  go_wp2_with (first | (go_at_call 106; refine (asked_n 10 n a b 9 163 (fun h => #[.pointer (some ⟨h + 11, 0, none⟩)]) _ (fun _ => rfl)).mono ?_; rintro e w1 ⟨h, rfl, ⟨m3, m4, c1, c2, c3, c8, c9, c10⟩, hb1⟩) | (go_at_call 163; refine (pdo_10 n a b _ (by assumption) (by assumption) (by assumption) (by assumption) (by assumption) (by assumption) (h + 11) (by have q : h + 11 < w1.heap.size := (by omega); simp [go_sem, *])).mono ?_; rintro e w2 ⟨rfl, hd1⟩))
  go_ret2
  exact ⟨rfl, ((hb1.trans ((Below.refl _ _).alloc hb1.size _)).trans (hd1.below _))⟩

set_option maxHeartbeats 1000000 in
theorem pTotal_11 (n a b : Int) (w : World) (g : good 11 n a b = true) (h3 : 0 ≤ a) (h5 : 0 ≤ b) : Calls Try.prog 84 #[.int .i64 11, .int .i64 n, .int .u32 a, .int .u32 b] w fun e w' => e = .returned (.tuple #[.int .u32 (tot 11 n a b), .int .i64 0]) ∧ Below w.heap.size w w' := by
  obtain ⟨_, _, g3, g4, g5, g6⟩ := (good_iff _ _ _ _).1 g
  have hw : isW n = true := by simp [isW, g3, g4]
  have fa : fit n a = true := by simp [fit, g5]
  have fb : fit n b = true := by simp [fit, g6]
  go_enter Try.func84, Try.ntmps84
  go_wp2_with (first | (go_at_call 106; refine (asked_w 11 n a b 10 153 154 (fun _ => #[]) _ (fun _ => rfl)).mono ?_; rintro e w1 ⟨h, rfl, ⟨m3, m4, c1, c2, c3, c8, c9, c10⟩, hb1⟩) | (go_at_call 153; refine (pdo_11 n a b _ (by assumption) (by assumption) (by assumption) (by assumption) (by assumption) (by assumption)).mono ?_; rintro e w2 ⟨rfl, hd1⟩))
  go_ret2
  exact ⟨rfl, ((hb1.trans ((Below.refl _ _).alloc hb1.size _)).trans (hd1.below _))⟩

set_option maxHeartbeats 1000000 in
theorem pTotal_12 (n a b : Int) (w : World) (g : good 12 n a b = true) (h3 : 0 ≤ a) (h5 : 0 ≤ b) : Calls Try.prog 84 #[.int .i64 12, .int .i64 n, .int .u32 a, .int .u32 b] w fun e w' => e = .returned (.tuple #[.int .u32 (tot 12 n a b), .int .i64 0]) ∧ Below w.heap.size w w' := by
  obtain ⟨_, _, g3, g4, g5, g6⟩ := (good_iff _ _ _ _).1 g
  have hw : isW n = true := by simp [isW, g3, g4]
  have fa : fit n a = true := by simp [fit, g5]
  have fb : fit n b = true := by simp [fit, g6]
  go_enter Try.func84, Try.ntmps84
  go_wp2_with (first | (go_at_call 106; refine (asked_l 12 n a b 11 155 156 (fun _ => #[]) _ (fun _ => rfl)).mono ?_; rintro e w1 ⟨h, rfl, ⟨m3, m4, c1, c2, c3, c8, c9, c10⟩, hb1⟩) | (go_at_call 155; refine (pdo_12 n a b _ (by assumption) (by assumption) (by assumption) (by assumption) (by assumption) (by assumption)).mono ?_; rintro e w2 ⟨rfl, hd1⟩))
  go_ret2
  exact ⟨rfl, ((hb1.trans ((Below.refl _ _).alloc hb1.size _)).trans (hd1.below _))⟩

set_option maxHeartbeats 1000000 in
theorem pTotal_13 (n a b : Int) (w : World) (g : good 13 n a b = true) (h3 : 0 ≤ a) (h5 : 0 ≤ b) : Calls Try.prog 84 #[.int .i64 13, .int .i64 n, .int .u32 a, .int .u32 b] w fun e w' => e = .returned (.tuple #[.int .u32 (tot 13 n a b), .int .i64 0]) ∧ Below w.heap.size w w' := by
  obtain ⟨_, _, g3, g4, g5, g6⟩ := (good_iff _ _ _ _).1 g
  have hw : isW n = true := by simp [isW, g3, g4]
  have fa : fit n a = true := by simp [fit, g5]
  have fb : fit n b = true := by simp [fit, g6]
  go_enter Try.func84, Try.ntmps84
  go_wp2_with (first | (go_at_call 106; refine (asked_l 13 n a b 12 157 159 (fun _ => #[]) _ (fun _ => rfl)).mono ?_; rintro e w1 ⟨h, rfl, ⟨m3, m4, c1, c2, c3, c8, c9, c10⟩, hb1⟩) | (go_at_call 157; refine (pdo_13 n a b _ (by assumption) (by assumption) (by assumption) (by assumption) (by assumption) (by assumption)).mono ?_; rintro e w2 ⟨rfl, hd1⟩))
  go_ret2
  exact ⟨rfl, ((hb1.trans ((Below.refl _ _).alloc hb1.size _)).trans (hd1.below _))⟩

theorem pTotal_any (op n a b : Int) (w : World) (h3 : 0 ≤ a) (h5 : 0 ≤ b) : Calls Try.prog 84 #[.int .i64 op, .int .i64 n, .int .u32 a, .int .u32 b] w fun e w' => e = .returned (totV op n a b) ∧ Below w.heap.size w w' := by
  by_cases g : good op n a b = true
  · have hv : totV op n a b = .tuple #[.int .u32 (tot op n a b), .int .i64 0] := by simp [totV, g]
    rw [hv]
    obtain ⟨g1, g2, g3, g4, g5, g6⟩ := (good_iff _ _ _ _).1 g
    have h : op = 1 ∨ op = 2 ∨ op = 3 ∨ op = 4 ∨ op = 5 ∨ op = 6 ∨ op = 7 ∨ op = 8 ∨ op = 9 ∨ op = 10 ∨ op = 11 ∨ op = 12 ∨ op = 13 := by omega
    rcases h with rfl | rfl | rfl | rfl | rfl | rfl | rfl | rfl | rfl | rfl | rfl | rfl | rfl
    · exact pTotal_1 n a b w g h3 h5
    · exact pTotal_2 n a b w g h3 h5
    · exact pTotal_3 n a b w g h3 h5
    · exact pTotal_4 n a b w g h3 h5
    · exact pTotal_5 n a b w g h3 h5
    · exact pTotal_6 n a b w g h3 h5
    · exact pTotal_7 n a b w g h3 h5
    · exact pTotal_8 n a b w g h3 h5
    · exact pTotal_9 n a b w g h3 h5
    · exact pTotal_10 n a b w g h3 h5
    · exact pTotal_11 n a b w g h3 h5
    · exact pTotal_12 n a b w g h3 h5
    · exact pTotal_13 n a b w g h3 h5
  · have g : good op n a b = false := by simpa using g
    have hv : totV op n a b = .tuple #[.int .u32 0, .int .i64 1] := by simp [totV, g]
    rw [hv]
    clear hv
    go_enter Try.func84, Try.ntmps84
    go_wp2_with (first | (go_at_call 106; refine (asked_bad _ _ _ _ _ (by assumption)).mono ?_; rintro e w1 ⟨v, rfl, (⟨fd, fw, cd, rfl⟩ | ⟨fd, fl, cd, rfl⟩ | ⟨fd, cd, rfl⟩ | rfl), hb1⟩))
    all_goals
      go_ret2
      exact ⟨rfl, hb1.trans ((Below.refl _ _).alloc hb1.size _)⟩

end Go.Proofs.Ythopdfikikdcbaa
/- Walks of bits.Lanes and backstayref01.Lanes. -/
namespace Go.Proofs.Ythopdfikikdcbaa
open Go.RowKit Wd
set_option linter.unusedVariables false
set_option linter.unusedSimpArgs false

theorem fits2_no (n a c : Int) (b : Nat) (w : World) (g0 : w.cell? ⟨b, 0, none⟩ = some (.int .u32 a)) (g1 : w.cell? ⟨b, 1, none⟩ = some (.int .u32 c)) (h : (isW n && fit n a && fit n c) = false) : Calls Try.prog 104 #[.int .i64 n, .slice (some ⟨b, 0, none⟩) 2 2] w fun e w' => e = .returned (.bool false) ∧ w = w' := by rw [← h]; exact fits2 n a c b w g0 g1
theorem fits2_yes (n a c : Int) (b : Nat) (w : World) (g0 : w.cell? ⟨b, 0, none⟩ = some (.int .u32 a)) (g1 : w.cell? ⟨b, 1, none⟩ = some (.int .u32 c)) (h : (isW n && fit n a && fit n c) = true) : Calls Try.prog 104 #[.int .i64 n, .slice (some ⟨b, 0, none⟩) 2 2] w fun e w' => e = .returned (.bool true) ∧ w = w' := by rw [← h]; exact fits2 n a c b w g0 g1
end Go.Proofs.Ythopdfikikdcbaa
/- Do, Total and Lanes of both sides in one form; known; the walks of the statements BitsDoes, BitsTotals, BitsLanes. -/
namespace Go.Proofs.Ythopdfikikdcbaa
open Go.RowKit Wd
set_option linter.unusedVariables false
set_option linter.unusedSimpArgs false
def doX (op n a b : Int) : Int := if good op n a b = true then (if has op n a b = true then tot op n a b else 0) else 0
def doY (op n a b : Int) : Bool := good op n a b && has op n a b
def doE (op n a b : Int) : Int := if good op n a b = true then 0 else 1
def toX (op n a b : Int) : Int := if good op n a b = true then tot op n a b else 0
def laX (op n l a b : Int) : Int := if goodL op n l a b = true then lanes op n l a b else 0
def laE (op n l a b : Int) : Int := if goodL op n l a b = true then 0 else 1
theorem doV_eq (op n a b : Int) : doV op n a b = .tuple #[.int .u32 (doX op n a b), .bool (doY op n a b), .int .i64 (doE op n a b)] := by
  unfold doV doX doY doE
  cases good op n a b <;> cases has op n a b <;> rfl
theorem totV_eq (op n a b : Int) : totV op n a b = .tuple #[.int .u32 (toX op n a b), .int .i64 (doE op n a b)] := by
  unfold totV toX doE
  cases good op n a b <;> rfl

theorem pTotal (op n a b : Int) (w : World) (h3 : 0 ≤ a) (h4 : a ≤ 4294967295) (h5 : 0 ≤ b) (h6 : b ≤ 4294967295) : Calls Try.prog 84 #[.int .i64 op, .int .i64 n, .int .u32 a, .int .u32 b] w fun e w' => e = .returned (.tuple #[.int .u32 (toX op n a b), .int .i64 (doE op n a b)]) ∧ Below w.heap.size w w' := by rw [← totV_eq]; exact pTotal_any op n a b w h3 h5
theorem rTotal (op n a b : Int) (w : World) (h3 : 0 ≤ a) (h4 : a ≤ 4294967295) (h5 : 0 ≤ b) (h6 : b ≤ 4294967295) : Calls Try.prog 88 #[.int .i64 op, .int .i64 n, .int .u32 a, .int .u32 b] w fun e w' => e = .returned (.tuple #[.int .u32 (toX op n a b), .int .i64 (doE op n a b)]) ∧ Dr w w' := by rw [← totV_eq]; exact rTotal_any op n a b w h3 h4 h5 h6
end Go.Proofs.Ythopdfikikdcbaa
