/- Walks of package bits: what the functions in the table of operations make. -/
import Derived.Test.YthopdfikikdcbaaZj1
import Derived.Test.YthopdfikikdcbaaZj2
namespace Go.Proofs.Ythopdfikikdcbaa
open Go.RowKit Wd
set_option linter.unusedVariables false
set_option linter.unusedSimpArgs false

theorem fn2 (a b : Int) (w : World) : Calls Try.prog 136 #[.int .u32 a, .int .u32 b] w fun e w' => e = .returned (.int .u32 ((a + b) % 4294967296)) ∧ w = w' := by
  go_enter Try.func136, Try.ntmps136
  go_wp2
  go_ret
  exact ⟨rfl, rfl⟩
theorem fn4 (a b : Int) (w : World) : Calls Try.prog 138 #[.int .u32 a, .int .u32 b] w fun e w' => e = .returned (.int .u32 ((a - b) % 4294967296)) ∧ w = w' := by
  go_enter Try.func138, Try.ntmps138
  go_wp2
  go_ret
  exact ⟨rfl, rfl⟩
theorem fn6 (a b : Int) (w : World) : Calls Try.prog 141 #[.int .u32 a, .int .u32 b] w fun e w' => e = .returned (.int .u32 (a * b % 4294967296)) ∧ w = w' := by
  go_enter Try.func141, Try.ntmps141
  go_wp2
  go_ret
  exact ⟨rfl, rfl⟩
theorem fn13 (a b : Int) (w : World) (h3 : 0 ≤ a) (h4 : a ≤ 4294967295) (h5 : 0 ≤ b) (h6 : b ≤ 4294967295) : Calls Try.prog 150 #[.int .u32 a, .int .u32 b] w fun e w' => e = .returned (.int .u32 (((a.toNat &&& b.toNat : Nat) : Int))) ∧ w = w' := by
  go_enter Try.func150, Try.ntmps150
  go_wp2
  go_ret
  exact ⟨ret_i (u32_and a b h3 (by omega) h5 (by omega)), rfl⟩
theorem fn14 (a b : Int) (w : World) (h3 : 0 ≤ a) (h4 : a ≤ 4294967295) (h5 : 0 ≤ b) (h6 : b ≤ 4294967295) : Calls Try.prog 151 #[.int .u32 a, .int .u32 b] w fun e w' => e = .returned (.int .u32 (((a.toNat ||| b.toNat : Nat) : Int))) ∧ w = w' := by
  go_enter Try.func151, Try.ntmps151
  go_wp2
  go_ret
  exact ⟨ret_i (u32_or a b h3 (by omega) h5 (by omega)), rfl⟩
theorem fn15 (a b : Int) (w : World) (h3 : 0 ≤ a) (h4 : a ≤ 4294967295) (h5 : 0 ≤ b) (h6 : b ≤ 4294967295) : Calls Try.prog 152 #[.int .u32 a, .int .u32 b] w fun e w' => e = .returned (.int .u32 (((a.toNat ^^^ b.toNat : Nat) : Int))) ∧ w = w' := by
  go_enter Try.func152, Try.ntmps152
  go_wp2
  go_ret
  exact ⟨ret_i (u32_xor a b h3 (by omega) h5 (by omega)), rfl⟩
theorem quotient_none (n a b : Int) (w : World) (h1 : 1 ≤ n) (h2 : n ≤ 32) (h3 : 0 ≤ a) (h4 : a < pw n) (h5 : 0 ≤ b) (h6 : b < pw n) (h : has 6 n a b = false) : Calls Try.prog 146 #[.int .i64 n, .int .u32 a, .int .u32 b] w fun e w' => e = .returned (.tuple #[.int .i64 0, .int .i64 0, .bool false]) ∧ Dr w w' := by
  obtain ⟨m, rfl⟩ := Int.eq_ofNat_of_zero_le (show 0 ≤ n by omega)
  have hp := @pw_le32 (m : Int) (by omega)
  have hp0 := pw_pos (m : Int)
  have x1 := sgn_lo32 (n := m) (a := a) (by omega) (by omega) h3
  have x2 := sgn_hi32 (n := m) (a := a) (by omega) (by omega) h4
  have y1 := sgn_lo32 (n := m) (a := b) (by omega) (by omega) h5
  have y2 := sgn_hi32 (n := m) (a := b) (by omega) (by omega) h6
  have hp3 := @pw_le31 ((m : Int) - 1) (by omega)
  have hp4 := pw_pos ((m : Int) - 1)
  have hz := sgn_zero (n := m) (b := b) (by omega) h6
  have hpw : wrap64 ((2 : Int) ^ (m - 1)) = pw ((m : Int) - 1) := by
    have e : ((m : Int) - 1).toNat = m - 1 := by omega
    rw [← e]; exact IntWalk.wrap64_in (pw ((m : Int) - 1)) (by omega)
  by_cases hb : b = 0
  · have hb0 : (sgn m b == 0) = true := by simpa using hz.2 hb
    clear hz h hb
    go_enter Try.func146, Try.ntmps146
    go_wp2_with (first | (go_at_call 105; refine (signed_any _ _ _ (by omega) (by omega) (by omega) (by omega)).mono ?_; rintro e w' ⟨rfl, rfl⟩))
    go_ret3
    exact ⟨rfl, Dr.refl _⟩
  · have hxy : sgn m a = -pw (m - 1) ∧ sgn m b = -1 := by simpa [has, hb] using h
    have hx : (sgn m a == -pw (m - 1)) = true := by simpa using hxy.1
    have hy : (sgn m b == -1) = true := by simpa using hxy.2
    have hb0 : (sgn m b == 0) = false := by simp [hxy.2]
    clear hz h hxy hb
    go_enter Try.func146, Try.ntmps146
    go_wp2_with (first | (go_at_call 105; refine (signed_any _ _ _ (by omega) (by omega) (by omega) (by omega)).mono ?_; rintro e w' ⟨rfl, rfl⟩))
    go_ret3
    exact ⟨rfl, Dr.refl _⟩

set_option maxHeartbeats 1000000 in
theorem quotient_some (n a b : Int) (w : World) (h1 : 1 ≤ n) (h2 : n ≤ 32) (h3 : 0 ≤ a) (h4 : a < pw n) (h5 : 0 ≤ b) (h6 : b < pw n) (h : has 6 n a b = true) : Calls Try.prog 146 #[.int .i64 n, .int .u32 a, .int .u32 b] w fun e w' => e = .returned (.tuple #[.int .i64 ((sgn n a).tdiv (sgn n b)), .int .i64 ((sgn n a).tmod (sgn n b)), .bool true]) ∧ Dr w w' := by
  obtain ⟨m, rfl⟩ := Int.eq_ofNat_of_zero_le (show 0 ≤ n by omega)
  have hp := @pw_le32 (m : Int) (by omega)
  have hp0 := pw_pos (m : Int)
  have x1 := sgn_lo32 (n := m) (a := a) (by omega) (by omega) h3
  have x2 := sgn_hi32 (n := m) (a := a) (by omega) (by omega) h4
  have y1 := sgn_lo32 (n := m) (a := b) (by omega) (by omega) h5
  have y2 := sgn_hi32 (n := m) (a := b) (by omega) (by omega) h6
  have hp3 := @pw_le31 ((m : Int) - 1) (by omega)
  have hp4 := pw_pos ((m : Int) - 1)
  have hz := sgn_zero (n := m) (b := b) (by omega) h6
  have hpw : wrap64 ((2 : Int) ^ (m - 1)) = pw ((m : Int) - 1) := by
    have e : ((m : Int) - 1).toNat = m - 1 := by omega
    rw [← e]; exact IntWalk.wrap64_in (pw ((m : Int) - 1)) (by omega)
  have hb : b ≠ 0 := by
    intro hb; simp [has, hb] at h
  have hxy : ¬ (sgn m a = -pw (m - 1) ∧ sgn m b = -1) := by
    intro hb; simp [has, hb] at h
  have hy0 : ¬ sgn m b = 0 := by omega
  have hb0 : (sgn m b == 0) = false := by simpa using hy0
  clear hz h hb
  have q := @tdiv_bd (sgn m a) (sgn m b) x1 (by omega)
  obtain ⟨q1, q2⟩ := q
  have e0 : wrap64 ((sgn m a).tdiv (sgn m b)) = (sgn m a).tdiv (sgn m b) := IntWalk.wrap64_in _ (by omega)
  by_cases hy : sgn m b = -1
  · have hx : (sgn m a == -pw (m - 1)) = false := by
      have : ¬ sgn m a = -pw (m - 1) := fun e => hxy ⟨e, hy⟩
      simpa using this
    have hy1 : (sgn m b == -1) = true := by simpa using hy
    clear hy hxy
    go_enter Try.func146, Try.ntmps146
    go_wp2_with (first | (go_at_call 105; refine (signed_any _ _ _ (by omega) (by omega) (by omega) (by omega)).mono ?_; rintro e w' ⟨rfl, rfl⟩))
    go_quiet (fail)
    go_wp2
    go_ret3
    exact ⟨rfl, (Dr.refl _).drew _⟩
  · have hy1 : (sgn m b == -1) = false := by simpa using hy
    clear hy hxy
    go_enter Try.func146, Try.ntmps146
    go_wp2_with (first | (go_at_call 105; refine (signed_any _ _ _ (by omega) (by omega) (by omega) (by omega)).mono ?_; rintro e w' ⟨rfl, rfl⟩))
    go_quiet (fail)
    go_wp2
    go_ret3
    exact ⟨rfl, (Dr.refl _).drew _⟩

set_option maxHeartbeats 1000000 in
theorem pdo_1 (n a b : Int) (w : World) (h1 : 1 ≤ n) (h2 : n ≤ 32) (h3 : 0 ≤ a) (h4 : a < pw n) (h5 : 0 ≤ b) (h6 : b < pw n) (h : Nat) (hc : w.cell? ⟨h, 0, none⟩ = some (.func (.func 136) #[] #[])) : Calls Try.prog 162 #[.int .i64 n, .int .u32 a, .int .u32 b, .pointer (some ⟨h, 0, none⟩)] w fun e w' => e = .returned (.tuple #[.int .u32 (tot 1 n a b), .bool (has 1 n a b)]) ∧ Dr w w' := by
  obtain ⟨m, rfl⟩ := Int.eq_ofNat_of_zero_le (show 0 ≤ n by omega)
  have hp := @pw_le32 (m : Int) (by omega)
  have hp0 := pw_pos (m : Int)
  have hm := mask_wr (n := m) (by omega) (a + b)
  have hv : tot 1 m a b = wr m (a + b) := by simp [tot, has]
  have hh : has 1 m a b = true := by simp [tot, has]
  rw [hv, hh]
  clear hv hh
  go_enter Try.func162, Try.ntmps162
  go_wp2_with (first | (go_at_call 80; refine (mask_any _ _ (by assumption) (by assumption)).mono ?_; rintro e w' ⟨rfl, rfl⟩) | (go_at_call 136; refine (fn2 _ _ _).mono ?_; rintro e w' ⟨rfl, rfl⟩))
  go_ret2
  exact ⟨rfl, Dr.refl _⟩

set_option maxHeartbeats 1000000 in
theorem pdo_2 (n a b : Int) (w : World) (h1 : 1 ≤ n) (h2 : n ≤ 32) (h3 : 0 ≤ a) (h4 : a < pw n) (h5 : 0 ≤ b) (h6 : b < pw n) (h : Nat) (hc : w.cell? ⟨h, 0, none⟩ = some (.func (.func 138) #[] #[])) : Calls Try.prog 162 #[.int .i64 n, .int .u32 a, .int .u32 b, .pointer (some ⟨h, 0, none⟩)] w fun e w' => e = .returned (.tuple #[.int .u32 (tot 2 n a b), .bool (has 2 n a b)]) ∧ Dr w w' := by
  obtain ⟨m, rfl⟩ := Int.eq_ofNat_of_zero_le (show 0 ≤ n by omega)
  have hp := @pw_le32 (m : Int) (by omega)
  have hp0 := pw_pos (m : Int)
  have hm := mask_wr (n := m) (by omega) (a - b)
  have hv : tot 2 m a b = wr m (a - b) := by simp [tot, has]
  have hh : has 2 m a b = true := by simp [tot, has]
  rw [hv, hh]
  clear hv hh
  go_enter Try.func162, Try.ntmps162
  go_wp2_with (first | (go_at_call 80; refine (mask_any _ _ (by assumption) (by assumption)).mono ?_; rintro e w' ⟨rfl, rfl⟩) | (go_at_call 138; refine (fn4 _ _ _).mono ?_; rintro e w' ⟨rfl, rfl⟩))
  go_ret2
  exact ⟨rfl, Dr.refl _⟩

set_option maxHeartbeats 1000000 in
theorem pdo_3 (n a b : Int) (w : World) (h1 : 1 ≤ n) (h2 : n ≤ 32) (h3 : 0 ≤ a) (h4 : a < pw n) (h5 : 0 ≤ b) (h6 : b < pw n) (h : Nat) (hc : w.cell? ⟨h, 0, none⟩ = some (.func (.func 141) #[] #[])) : Calls Try.prog 162 #[.int .i64 n, .int .u32 a, .int .u32 b, .pointer (some ⟨h, 0, none⟩)] w fun e w' => e = .returned (.tuple #[.int .u32 (tot 3 n a b), .bool (has 3 n a b)]) ∧ Dr w w' := by
  obtain ⟨m, rfl⟩ := Int.eq_ofNat_of_zero_le (show 0 ≤ n by omega)
  have hp := @pw_le32 (m : Int) (by omega)
  have hp0 := pw_pos (m : Int)
  have hm := mask_wr (n := m) (by omega) (a * b)
  have hv : tot 3 m a b = wr m (a * b) := by simp [tot, has]
  have hh : has 3 m a b = true := by simp [tot, has]
  rw [hv, hh]
  clear hv hh
  go_enter Try.func162, Try.ntmps162
  go_wp2_with (first | (go_at_call 80; refine (mask_any _ _ (by assumption) (by assumption)).mono ?_; rintro e w' ⟨rfl, rfl⟩) | (go_at_call 141; refine (fn6 _ _ _).mono ?_; rintro e w' ⟨rfl, rfl⟩))
  go_ret2
  exact ⟨rfl, Dr.refl _⟩

set_option maxHeartbeats 1000000 in
theorem pdo_8 (n a b : Int) (w : World) (h1 : 1 ≤ n) (h2 : n ≤ 32) (h3 : 0 ≤ a) (h4 : a < pw n) (h5 : 0 ≤ b) (h6 : b < pw n) (h : Nat) (hc : w.cell? ⟨h, 0, none⟩ = some (.func (.func 150) #[] #[])) : Calls Try.prog 163 #[.int .i64 n, .int .u32 a, .int .u32 b, .pointer (some ⟨h, 0, none⟩)] w fun e w' => e = .returned (.tuple #[.int .u32 (tot 8 n a b), .bool (has 8 n a b)]) ∧ Dr w w' := by
  obtain ⟨m, rfl⟩ := Int.eq_ofNat_of_zero_le (show 0 ≤ n by omega)
  have hp := @pw_le32 (m : Int) (by omega)
  have hp0 := pw_pos (m : Int)
  have hv : tot 8 m a b = ((a.toNat &&& b.toNat : Nat) : Int) := by simp [tot, has]
  have hh : has 8 m a b = true := by simp [tot, has]
  rw [hv, hh]
  clear hv hh
  go_enter Try.func163, Try.ntmps163
  go_wp2_with (first | (go_at_call 80; refine (mask_any _ _ (by assumption) (by assumption)).mono ?_; rintro e w' ⟨rfl, rfl⟩) | (go_at_call 150; refine (fn13 _ _ _ (by omega) (by omega) (by omega) (by omega)).mono ?_; rintro e w' ⟨rfl, rfl⟩))
  go_ret2
  exact ⟨rfl, Dr.refl _⟩

set_option maxHeartbeats 1000000 in
theorem pdo_9 (n a b : Int) (w : World) (h1 : 1 ≤ n) (h2 : n ≤ 32) (h3 : 0 ≤ a) (h4 : a < pw n) (h5 : 0 ≤ b) (h6 : b < pw n) (h : Nat) (hc : w.cell? ⟨h, 0, none⟩ = some (.func (.func 151) #[] #[])) : Calls Try.prog 163 #[.int .i64 n, .int .u32 a, .int .u32 b, .pointer (some ⟨h, 0, none⟩)] w fun e w' => e = .returned (.tuple #[.int .u32 (tot 9 n a b), .bool (has 9 n a b)]) ∧ Dr w w' := by
  obtain ⟨m, rfl⟩ := Int.eq_ofNat_of_zero_le (show 0 ≤ n by omega)
  have hp := @pw_le32 (m : Int) (by omega)
  have hp0 := pw_pos (m : Int)
  have hv : tot 9 m a b = ((a.toNat ||| b.toNat : Nat) : Int) := by simp [tot, has]
  have hh : has 9 m a b = true := by simp [tot, has]
  rw [hv, hh]
  clear hv hh
  go_enter Try.func163, Try.ntmps163
  go_wp2_with (first | (go_at_call 80; refine (mask_any _ _ (by assumption) (by assumption)).mono ?_; rintro e w' ⟨rfl, rfl⟩) | (go_at_call 151; refine (fn14 _ _ _ (by omega) (by omega) (by omega) (by omega)).mono ?_; rintro e w' ⟨rfl, rfl⟩))
  go_ret2
  exact ⟨rfl, Dr.refl _⟩

set_option maxHeartbeats 1000000 in
theorem pdo_10 (n a b : Int) (w : World) (h1 : 1 ≤ n) (h2 : n ≤ 32) (h3 : 0 ≤ a) (h4 : a < pw n) (h5 : 0 ≤ b) (h6 : b < pw n) (h : Nat) (hc : w.cell? ⟨h, 0, none⟩ = some (.func (.func 152) #[] #[])) : Calls Try.prog 163 #[.int .i64 n, .int .u32 a, .int .u32 b, .pointer (some ⟨h, 0, none⟩)] w fun e w' => e = .returned (.tuple #[.int .u32 (tot 10 n a b), .bool (has 10 n a b)]) ∧ Dr w w' := by
  obtain ⟨m, rfl⟩ := Int.eq_ofNat_of_zero_le (show 0 ≤ n by omega)
  have hp := @pw_le32 (m : Int) (by omega)
  have hp0 := pw_pos (m : Int)
  have hv : tot 10 m a b = ((a.toNat ^^^ b.toNat : Nat) : Int) := by simp [tot, has]
  have hh : has 10 m a b = true := by simp [tot, has]
  rw [hv, hh]
  clear hv hh
  go_enter Try.func163, Try.ntmps163
  go_wp2_with (first | (go_at_call 80; refine (mask_any _ _ (by assumption) (by assumption)).mono ?_; rintro e w' ⟨rfl, rfl⟩) | (go_at_call 152; refine (fn15 _ _ _ (by omega) (by omega) (by omega) (by omega)).mono ?_; rintro e w' ⟨rfl, rfl⟩))
  go_ret2
  exact ⟨rfl, Dr.refl _⟩

set_option maxHeartbeats 1000000 in
theorem pdo_4 (n a b : Int) (w : World) (h1 : 1 ≤ n) (h2 : n ≤ 32) (h3 : 0 ≤ a) (h4 : a < pw n) (h5 : 0 ≤ b) (h6 : b < pw n) : Calls Try.prog 142 #[.int .i64 n, .int .u32 a, .int .u32 b] w fun e w' => e = .returned (.tuple #[.int .u32 (tot 4 n a b), .bool (has 4 n a b)]) ∧ Dr w w' := by
  obtain ⟨m, rfl⟩ := Int.eq_ofNat_of_zero_le (show 0 ≤ n by omega)
  have hp := @pw_le32 (m : Int) (by omega)
  have hp0 := pw_pos (m : Int)
  by_cases hb : b = 0
  · have hb1 : (b == 0) = true := by simpa using hb
    have hv : tot 4 m a b = pw m - 1 := by simp [tot, has, hb]
    have hh : has 4 m a b = false := by simp [tot, has, hb]
    rw [hv, hh]
    clear hv hh
    clear hb
    go_enter Try.func142, Try.ntmps142
    go_wp2_with (first | (go_at_call 80; refine (mask_any _ _ (by assumption) (by assumption)).mono ?_; rintro e w' ⟨rfl, rfl⟩))
    go_ret2
    exact ⟨rfl, Dr.refl _⟩
  · have hb1 : (b == 0) = false := by simpa using hb
    have hb2 : 1 ≤ b := by omega
    have hv : tot 4 m a b = a / b := by simp [tot, has, hb]
    have hh : has 4 m a b = true := by simp [tot, has, hb]
    rw [hv, hh]
    clear hv hh
    clear hb
    go_enter Try.func142, Try.ntmps142
    go_wp2_with (first | (go_at_call 80; refine (mask_any _ _ (by assumption) (by assumption)).mono ?_; rintro e w' ⟨rfl, rfl⟩))
    go_ret2
    exact ⟨rfl, Dr.refl _⟩

set_option maxHeartbeats 1000000 in
theorem pdo_5 (n a b : Int) (w : World) (h1 : 1 ≤ n) (h2 : n ≤ 32) (h3 : 0 ≤ a) (h4 : a < pw n) (h5 : 0 ≤ b) (h6 : b < pw n) : Calls Try.prog 144 #[.int .i64 n, .int .u32 a, .int .u32 b] w fun e w' => e = .returned (.tuple #[.int .u32 (tot 5 n a b), .bool (has 5 n a b)]) ∧ Dr w w' := by
  obtain ⟨m, rfl⟩ := Int.eq_ofNat_of_zero_le (show 0 ≤ n by omega)
  have hp := @pw_le32 (m : Int) (by omega)
  have hp0 := pw_pos (m : Int)
  by_cases hb : b = 0
  · have hb1 : (b == 0) = true := by simpa using hb
    have hv : tot 5 m a b = a := by simp [tot, has, hb]
    have hh : has 5 m a b = false := by simp [tot, has, hb]
    rw [hv, hh]
    clear hv hh
    clear hb
    go_enter Try.func144, Try.ntmps144
    go_wp2_with (first | (go_at_call 80; refine (mask_any _ _ (by assumption) (by assumption)).mono ?_; rintro e w' ⟨rfl, rfl⟩))
    go_ret2
    exact ⟨rfl, Dr.refl _⟩
  · have hb1 : (b == 0) = false := by simpa using hb
    have hb2 : 1 ≤ b := by omega
    have hv : tot 5 m a b = a % b := by simp [tot, has, hb]
    have hh : has 5 m a b = true := by simp [tot, has, hb]
    rw [hv, hh]
    clear hv hh
    clear hb
    go_enter Try.func144, Try.ntmps144
    go_wp2_with (first | (go_at_call 80; refine (mask_any _ _ (by assumption) (by assumption)).mono ?_; rintro e w' ⟨rfl, rfl⟩))
    go_ret2
    exact ⟨rfl, Dr.refl _⟩

set_option maxHeartbeats 1000000 in
theorem pdo_6 (n a b : Int) (w : World) (h1 : 1 ≤ n) (h2 : n ≤ 32) (h3 : 0 ≤ a) (h4 : a < pw n) (h5 : 0 ≤ b) (h6 : b < pw n) : Calls Try.prog 145 #[.int .i64 n, .int .u32 a, .int .u32 b] w fun e w' => e = .returned (.tuple #[.int .u32 (tot 6 n a b), .bool (has 6 n a b)]) ∧ Dr w w' := by
  obtain ⟨m, rfl⟩ := Int.eq_ofNat_of_zero_le (show 0 ≤ n by omega)
  have hp := @pw_le32 (m : Int) (by omega)
  have hp0 := pw_pos (m : Int)
  have x1 := sgn_lo32 (n := m) (a := a) (by omega) (by omega) h3
  have x2 := sgn_hi32 (n := m) (a := a) (by omega) (by omega) h4
  have y1 := sgn_lo32 (n := m) (a := b) (by omega) (by omega) h5
  have y2 := sgn_hi32 (n := m) (a := b) (by omega) (by omega) h6
  have hp3 := @pw_le31 ((m : Int) - 1) (by omega)
  have hp4 := pw_pos ((m : Int) - 1)
  have hpw : wrap64 ((2 : Int) ^ (m - 1)) = pw ((m : Int) - 1) := by
    have e : ((m : Int) - 1).toNat = m - 1 := by omega
    rw [← e]; exact IntWalk.wrap64_in (pw ((m : Int) - 1)) (by omega)
  by_cases hh : has 6 m a b = true
  · have hq : has 6 m a b = true := by simpa [has] using hh
    have hv : tot 6 m a b = wr m ((sgn m a).tdiv (sgn m b)) := by
      have hb : b ≠ 0 := by
        intro hb; simp [has, hb] at hh
      have hxy : ¬ (sgn m a = -pw (m - 1) ∧ sgn m b = -1) := by
        intro hb; simp [has, hb] at hh
      simp [tot, hb, hxy]
    rw [hv, hh]
    clear hv hh
    have hm := mask_wr (n := m) (by omega) ((sgn m a).tdiv (sgn m b))
    go_enter Try.func145, Try.ntmps145
    go_wp2_with (first | (go_at_call 80; refine (mask_any _ _ (by assumption) (by assumption)).mono ?_; rintro e w' ⟨rfl, rfl⟩) | (go_at_call 146; refine (quotient_some _ _ _ _ (by omega) (by omega) (by omega) (by omega) (by omega) (by omega) (by assumption)).mono ?_; rintro e w' ⟨rfl, hd1⟩))
    go_ret2
    exact ⟨rfl, hd1⟩
  · have hh : has 6 m a b = false := by simpa using hh
    have hq : has 6 m a b = false := by simpa [has] using hh
    rw [hh]
    clear hh
    by_cases hb : b = 0
    · have hb1 : (b != 0) = false := by simpa using hb
      rcases Int.lt_or_le (sgn m a) 0 with hs | hs
      · have hv : tot 6 m a b = 1 := by simp [tot, hb, hs]
        rw [hv]
        clear hv hb
        go_enter Try.func145, Try.ntmps145
        go_wp2_with (first | (go_at_call 80; refine (mask_any _ _ (by assumption) (by assumption)).mono ?_; rintro e w' ⟨rfl, rfl⟩) | (go_at_call 146; refine (quotient_none _ _ _ _ (by omega) (by omega) (by omega) (by omega) (by omega) (by omega) (by assumption)).mono ?_; rintro e w' ⟨rfl, hd1⟩) | (go_at_call 105; refine (signed_any _ _ _ (by omega) (by omega) (by omega) (by omega)).mono ?_; rintro e w' ⟨rfl, rfl⟩))
        go_ret2
        exact ⟨rfl, hd1⟩
      · have hv : tot 6 m a b = pw m - 1 := by simp [tot, hb]; intro; omega
        rw [hv]
        clear hv hb
        go_enter Try.func145, Try.ntmps145
        go_wp2_with (first | (go_at_call 80; refine (mask_any _ _ (by assumption) (by assumption)).mono ?_; rintro e w' ⟨rfl, rfl⟩) | (go_at_call 146; refine (quotient_none _ _ _ _ (by omega) (by omega) (by omega) (by omega) (by omega) (by omega) (by assumption)).mono ?_; rintro e w' ⟨rfl, hd1⟩) | (go_at_call 105; refine (signed_any _ _ _ (by omega) (by omega) (by omega) (by omega)).mono ?_; rintro e w' ⟨rfl, rfl⟩))
        go_ret2
        exact ⟨rfl, hd1⟩
    · have hb1 : (b != 0) = true := by simpa using hb
      have hv : tot 6 m a b = a := by
        have hx : sgn m a = -pw (m - 1) ∧ sgn m b = -1 := by simpa [has, hb] using hq
        simp [tot, hb, hx]
      rw [hv]
      clear hv hb
      go_enter Try.func145, Try.ntmps145
      go_wp2_with (first | (go_at_call 80; refine (mask_any _ _ (by assumption) (by assumption)).mono ?_; rintro e w' ⟨rfl, rfl⟩) | (go_at_call 146; refine (quotient_none _ _ _ _ (by omega) (by omega) (by omega) (by omega) (by omega) (by omega) (by assumption)).mono ?_; rintro e w' ⟨rfl, hd1⟩) | (go_at_call 105; refine (signed_any _ _ _ (by omega) (by omega) (by omega) (by omega)).mono ?_; rintro e w' ⟨rfl, rfl⟩))
      go_ret2
      exact ⟨rfl, hd1⟩

set_option maxHeartbeats 1000000 in
theorem pdo_7 (n a b : Int) (w : World) (h1 : 1 ≤ n) (h2 : n ≤ 32) (h3 : 0 ≤ a) (h4 : a < pw n) (h5 : 0 ≤ b) (h6 : b < pw n) : Calls Try.prog 148 #[.int .i64 n, .int .u32 a, .int .u32 b] w fun e w' => e = .returned (.tuple #[.int .u32 (tot 7 n a b), .bool (has 7 n a b)]) ∧ Dr w w' := by
  obtain ⟨m, rfl⟩ := Int.eq_ofNat_of_zero_le (show 0 ≤ n by omega)
  have hp := @pw_le32 (m : Int) (by omega)
  have hp0 := pw_pos (m : Int)
  have x1 := sgn_lo32 (n := m) (a := a) (by omega) (by omega) h3
  have x2 := sgn_hi32 (n := m) (a := a) (by omega) (by omega) h4
  have y1 := sgn_lo32 (n := m) (a := b) (by omega) (by omega) h5
  have y2 := sgn_hi32 (n := m) (a := b) (by omega) (by omega) h6
  have hp3 := @pw_le31 ((m : Int) - 1) (by omega)
  have hp4 := pw_pos ((m : Int) - 1)
  have hpw : wrap64 ((2 : Int) ^ (m - 1)) = pw ((m : Int) - 1) := by
    have e : ((m : Int) - 1).toNat = m - 1 := by omega
    rw [← e]; exact IntWalk.wrap64_in (pw ((m : Int) - 1)) (by omega)
  by_cases hh : has 7 m a b = true
  · have hq : has 6 m a b = true := by simpa [has] using hh
    have hv : tot 7 m a b = wr m ((sgn m a).tmod (sgn m b)) := by
      have hb : b ≠ 0 := by
        intro hb; simp [has, hb] at hh
      have hxy : ¬ (sgn m a = -pw (m - 1) ∧ sgn m b = -1) := by
        intro hb; simp [has, hb] at hh
      simp [tot, hb, hxy]
    rw [hv, hh]
    clear hv hh
    have hm := mask_wr (n := m) (by omega) ((sgn m a).tmod (sgn m b))
    go_enter Try.func148, Try.ntmps148
    go_wp2_with (first | (go_at_call 80; refine (mask_any _ _ (by assumption) (by assumption)).mono ?_; rintro e w' ⟨rfl, rfl⟩) | (go_at_call 146; refine (quotient_some _ _ _ _ (by omega) (by omega) (by omega) (by omega) (by omega) (by omega) (by assumption)).mono ?_; rintro e w' ⟨rfl, hd1⟩))
    go_ret2
    exact ⟨rfl, hd1⟩
  · have hh : has 7 m a b = false := by simpa using hh
    have hq : has 6 m a b = false := by simpa [has] using hh
    rw [hh]
    clear hh
    by_cases hb : b = 0
    · have hb1 : (b == 0) = true := by simpa using hb
      have hv : tot 7 m a b = a := by simp [tot, hb]
      rw [hv]
      clear hv hb
      go_enter Try.func148, Try.ntmps148
      go_wp2_with (first | (go_at_call 80; refine (mask_any _ _ (by assumption) (by assumption)).mono ?_; rintro e w' ⟨rfl, rfl⟩) | (go_at_call 146; refine (quotient_none _ _ _ _ (by omega) (by omega) (by omega) (by omega) (by omega) (by omega) (by assumption)).mono ?_; rintro e w' ⟨rfl, hd1⟩))
      go_ret2
      exact ⟨rfl, hd1⟩
    · have hb1 : (b == 0) = false := by simpa using hb
      have hv : tot 7 m a b = 0 := by
        have hx : sgn m a = -pw (m - 1) ∧ sgn m b = -1 := by simpa [has, hb] using hq
        simp [tot, hb, hx]
      have hm : bits .and .u32 0 (pw m - 1) = 0 := by rw [mask_fit (by omega) (by omega) (by omega)]; exact Int.zero_emod _
      rw [hv]
      clear hv hb
      go_enter Try.func148, Try.ntmps148
      go_wp2_with (first | (go_at_call 80; refine (mask_any _ _ (by assumption) (by assumption)).mono ?_; rintro e w' ⟨rfl, rfl⟩) | (go_at_call 146; refine (quotient_none _ _ _ _ (by omega) (by omega) (by omega) (by omega) (by omega) (by omega) (by assumption)).mono ?_; rintro e w' ⟨rfl, hd1⟩))
      go_ret2
      exact ⟨rfl, hd1⟩

theorem sign_any (n a : Int) (w : World) (h1 : 1 ≤ n) (h2 : n ≤ 32) (h3 : 0 ≤ a) (h4 : a < pw n) : Calls Try.prog 158 #[.int .i64 n, .int .u32 a] w fun e w' => e = .returned (.int .u32 (signV n a)) ∧ w = w' := by
  rcases Int.lt_or_le (sgn n a) 0 with hs | hs
  · have hv : signV n a = pw n - 1 := by simp [signV, hs]
    rw [hv]
    clear hv
    go_enter Try.func158, Try.ntmps158
    go_wp2_with (first | (go_at_call 80; refine (mask_any _ _ (by assumption) (by assumption)).mono ?_; rintro e w' ⟨rfl, rfl⟩) | (go_at_call 105; refine (signed_any _ _ _ (by omega) (by omega) (by omega) (by omega)).mono ?_; rintro e w' ⟨rfl, rfl⟩))
    go_ret
    exact ⟨rfl, rfl⟩
  · have hv : signV n a = 0 := by simp [signV]; omega
    rw [hv]
    clear hv
    go_enter Try.func158, Try.ntmps158
    go_wp2_with (first | (go_at_call 80; refine (mask_any _ _ (by assumption) (by assumption)).mono ?_; rintro e w' ⟨rfl, rfl⟩) | (go_at_call 105; refine (signed_any _ _ _ (by omega) (by omega) (by omega) (by omega)).mono ?_; rintro e w' ⟨rfl, rfl⟩))
    go_ret
    exact ⟨rfl, rfl⟩

set_option maxHeartbeats 1000000 in
theorem pdo_11 (n a b : Int) (w : World) (h1 : 1 ≤ n) (h2 : n ≤ 32) (h3 : 0 ≤ a) (h4 : a < pw n) (h5 : 0 ≤ b) (h6 : b < pw n) : Calls Try.prog 153 #[.int .i64 n, .int .u32 a, .int .u32 b] w fun e w' => e = .returned (.tuple #[.int .u32 (tot 11 n a b), .bool (has 11 n a b)]) ∧ Dr w w' := by
  obtain ⟨m, rfl⟩ := Int.eq_ofNat_of_zero_le (show 0 ≤ n by omega)
  have hp := @pw_le32 (m : Int) (by omega)
  have hp0 := pw_pos (m : Int)
  by_cases hb : (m : Int) ≤ b
  · have hv : tot 11 m a b = 0 := by simp [tot, has, hb]
    have hh : has 11 m a b = false := by simp [tot, has, hb]
    rw [hv, hh]
    clear hv hh
    go_enter Try.func153, Try.ntmps153
    go_wp2_with (first | (go_at_call 80; refine (mask_any _ _ (by assumption) (by assumption)).mono ?_; rintro e w' ⟨rfl, rfl⟩) | (go_at_call 158; refine (sign_any _ _ _ (by omega) (by omega) (by omega) (by omega)).mono ?_; rintro e w' ⟨rfl, rfl⟩))
    go_ret2
    exact ⟨rfl, Dr.refl _⟩
  · obtain ⟨k, rfl⟩ := Int.eq_ofNat_of_zero_le h5
    have hk : k < m := by omega
    have hd : decide (m ≤ k) = false := by simpa using hk
    have hv : tot 11 m a k = wr m (a * pw k) := by first | (simp [tot, has, hb]; done) | (simp [tot, has]; omega)
    have hh : has 11 m a k = true := by first | (simp [tot, has, hb]; done) | (simp [tot, has]; omega)
    rw [hv, hh]
    clear hv hh
    have hm := mask_wr (n := m) (by omega) (a * pw k)
    rw [pw_cast] at hm ⊢
    go_enter Try.func153, Try.ntmps153
    go_wp2_with (first | (go_at_call 80; refine (mask_any _ _ (by assumption) (by assumption)).mono ?_; rintro e w' ⟨rfl, rfl⟩) | (go_at_call 158; refine (sign_any _ _ _ (by omega) (by omega) (by omega) (by omega)).mono ?_; rintro e w' ⟨rfl, rfl⟩) | (go_at_call 105; refine (signed_any _ _ _ (by omega) (by omega) (by omega) (by omega)).mono ?_; rintro e w' ⟨rfl, rfl⟩))
    go_ret2
    exact ⟨rfl, Dr.refl _⟩

set_option maxHeartbeats 1000000 in
theorem pdo_12 (n a b : Int) (w : World) (h1 : 1 ≤ n) (h2 : n ≤ 32) (h3 : 0 ≤ a) (h4 : a < pw n) (h5 : 0 ≤ b) (h6 : b < pw n) : Calls Try.prog 155 #[.int .i64 n, .int .u32 a, .int .u32 b] w fun e w' => e = .returned (.tuple #[.int .u32 (tot 12 n a b), .bool (has 12 n a b)]) ∧ Dr w w' := by
  obtain ⟨m, rfl⟩ := Int.eq_ofNat_of_zero_le (show 0 ≤ n by omega)
  have hp := @pw_le32 (m : Int) (by omega)
  have hp0 := pw_pos (m : Int)
  by_cases hb : (m : Int) ≤ b
  · have hv : tot 12 m a b = 0 := by simp [tot, has, hb]
    have hh : has 12 m a b = false := by simp [tot, has, hb]
    rw [hv, hh]
    clear hv hh
    go_enter Try.func155, Try.ntmps155
    go_wp2_with (first | (go_at_call 80; refine (mask_any _ _ (by assumption) (by assumption)).mono ?_; rintro e w' ⟨rfl, rfl⟩) | (go_at_call 158; refine (sign_any _ _ _ (by omega) (by omega) (by omega) (by omega)).mono ?_; rintro e w' ⟨rfl, rfl⟩))
    go_ret2
    exact ⟨rfl, Dr.refl _⟩
  · obtain ⟨k, rfl⟩ := Int.eq_ofNat_of_zero_le h5
    have hk : k < m := by omega
    have hd : decide (m ≤ k) = false := by simpa using hk
    have hv : tot 12 m a k = a / pw k := by first | (simp [tot, has, hb]; done) | (simp [tot, has]; omega)
    have hh : has 12 m a k = true := by first | (simp [tot, has, hb]; done) | (simp [tot, has]; omega)
    rw [hv, hh]
    clear hv hh
    rw [pw_cast]
    go_enter Try.func155, Try.ntmps155
    go_wp2_with (first | (go_at_call 80; refine (mask_any _ _ (by assumption) (by assumption)).mono ?_; rintro e w' ⟨rfl, rfl⟩) | (go_at_call 158; refine (sign_any _ _ _ (by omega) (by omega) (by omega) (by omega)).mono ?_; rintro e w' ⟨rfl, rfl⟩) | (go_at_call 105; refine (signed_any _ _ _ (by omega) (by omega) (by omega) (by omega)).mono ?_; rintro e w' ⟨rfl, rfl⟩))
    go_ret2
    exact ⟨rfl, Dr.refl _⟩

set_option maxHeartbeats 1000000 in
theorem pdo_13 (n a b : Int) (w : World) (h1 : 1 ≤ n) (h2 : n ≤ 32) (h3 : 0 ≤ a) (h4 : a < pw n) (h5 : 0 ≤ b) (h6 : b < pw n) : Calls Try.prog 157 #[.int .i64 n, .int .u32 a, .int .u32 b] w fun e w' => e = .returned (.tuple #[.int .u32 (tot 13 n a b), .bool (has 13 n a b)]) ∧ Dr w w' := by
  obtain ⟨m, rfl⟩ := Int.eq_ofNat_of_zero_le (show 0 ≤ n by omega)
  have hp := @pw_le32 (m : Int) (by omega)
  have hp0 := pw_pos (m : Int)
  by_cases hb : (m : Int) ≤ b
  · have hv : tot 13 m a b = signV m a := by simp [tot, has, hb, signV]
    have hh : has 13 m a b = false := by simp [tot, has, hb, signV]
    rw [hv, hh]
    clear hv hh
    go_enter Try.func157, Try.ntmps157
    go_wp2_with (first | (go_at_call 80; refine (mask_any _ _ (by assumption) (by assumption)).mono ?_; rintro e w' ⟨rfl, rfl⟩) | (go_at_call 158; refine (sign_any _ _ _ (by omega) (by omega) (by omega) (by omega)).mono ?_; rintro e w' ⟨rfl, rfl⟩))
    go_ret2
    exact ⟨rfl, Dr.refl _⟩
  · obtain ⟨k, rfl⟩ := Int.eq_ofNat_of_zero_le h5
    have hk : k < m := by omega
    have hd : decide (m ≤ k) = false := by simpa using hk
    have hv : tot 13 m a k = wr m (sgn m a / pw k) := by first | (simp [tot, has, hb]; done) | (simp [tot, has]; omega)
    have hh : has 13 m a k = true := by first | (simp [tot, has, hb]; done) | (simp [tot, has]; omega)
    rw [hv, hh]
    clear hv hh
    have hm := mask_wr (n := m) (by omega) (sgn m a / pw k)
    rw [pw_cast] at hm ⊢
    go_enter Try.func157, Try.ntmps157
    go_wp2_with (first | (go_at_call 80; refine (mask_any _ _ (by assumption) (by assumption)).mono ?_; rintro e w' ⟨rfl, rfl⟩) | (go_at_call 158; refine (sign_any _ _ _ (by omega) (by omega) (by omega) (by omega)).mono ?_; rintro e w' ⟨rfl, rfl⟩) | (go_at_call 105; refine (signed_any _ _ _ (by omega) (by omega) (by omega) (by omega)).mono ?_; rintro e w' ⟨rfl, rfl⟩))
    go_ret2
    exact ⟨rfl, Dr.refl _⟩

end Go.Proofs.Ythopdfikikdcbaa
/- Walks of bits.Do and bits.Total. -/
namespace Go.Proofs.Ythopdfikikdcbaa
open Go.RowKit Wd

/-- What asked tells of a row, whatever the words. -/
def Shape (v : Value) : Prop := (∃ (fd fw : Nat) (cd : Array Value), v = .agg #[.func (.func fd) #[] cd, .func (.func fw) #[] #[], .nilFunc]) ∨ (∃ (fd fl : Nat) (cd : Array Value), v = .agg #[.func (.func fd) #[] cd, .nilFunc, .func (.func fl) #[] #[]]) ∨ (∃ (fd : Nat) (cd : Array Value), v = .agg #[.func (.func fd) #[] cd, .nilFunc, .nilFunc]) ∨ v = .agg #[.nilFunc, .nilFunc, .nilFunc]
theorem asked_bad (op n a b : Int) (w : World) (g : good op n a b = false) : Calls Try.prog 106 #[.int .i64 op, .int .i64 n, .int .u32 a, .int .u32 b] w fun e w' => ∃ v, e = .returned (.tuple #[v, .bool false]) ∧ Shape v ∧ Below w.heap.size w w' := by
  by_cases ho : 1 ≤ op ∧ op ≤ 13
  · have hx : (isW n && fit n a && fit n b) = false := by
      rw [Bool.eq_false_iff]
      intro h
      have := (good_iff op n a b).2 (by simp [isW, fit] at h; omega)
      rw [g] at this; cases this
    have h : op = 1 ∨ op = 2 ∨ op = 3 ∨ op = 4 ∨ op = 5 ∨ op = 6 ∨ op = 7 ∨ op = 8 ∨ op = 9 ∨ op = 10 ∨ op = 11 ∨ op = 12 ∨ op = 13 := by omega
    rcases h with rfl | rfl | rfl | rfl | rfl | rfl | rfl | rfl | rfl | rfl | rfl | rfl | rfl
    · refine (asked_w 1 n a b 0 162 135 (fun h => #[.pointer (some ⟨h + 1, 0, none⟩)]) _ (fun _ => rfl)).mono ?_
      rintro e w1 ⟨h, rfl, _, hb1⟩
      exact ⟨_, by rw [hx], .inl ⟨_, _, _, rfl⟩, hb1⟩
    · refine (asked_w 2 n a b 1 162 137 (fun h => #[.pointer (some ⟨h + 3, 0, none⟩)]) _ (fun _ => rfl)).mono ?_
      rintro e w1 ⟨h, rfl, _, hb1⟩
      exact ⟨_, by rw [hx], .inl ⟨_, _, _, rfl⟩, hb1⟩
    · refine (asked_w 3 n a b 2 162 139 (fun h => #[.pointer (some ⟨h + 5, 0, none⟩)]) _ (fun _ => rfl)).mono ?_
      rintro e w1 ⟨h, rfl, _, hb1⟩
      exact ⟨_, by rw [hx], .inl ⟨_, _, _, rfl⟩, hb1⟩
    · refine (asked_l 4 n a b 3 142 143 (fun _ => #[]) _ (fun _ => rfl)).mono ?_
      rintro e w1 ⟨h, rfl, _, hb1⟩
      exact ⟨_, by rw [hx], .inr (.inl ⟨_, _, _, rfl⟩), hb1⟩
    · refine (asked_n 5 n a b 4 144 (fun _ => #[]) _ (fun _ => rfl)).mono ?_
      rintro e w1 ⟨h, rfl, _, hb1⟩
      exact ⟨_, by rw [hx], .inr (.inr (.inl ⟨_, _, rfl⟩)), hb1⟩
    · refine (asked_l 6 n a b 5 145 147 (fun _ => #[]) _ (fun _ => rfl)).mono ?_
      rintro e w1 ⟨h, rfl, _, hb1⟩
      exact ⟨_, by rw [hx], .inr (.inl ⟨_, _, _, rfl⟩), hb1⟩
    · refine (asked_n 7 n a b 6 148 (fun _ => #[]) _ (fun _ => rfl)).mono ?_
      rintro e w1 ⟨h, rfl, _, hb1⟩
      exact ⟨_, by rw [hx], .inr (.inr (.inl ⟨_, _, rfl⟩)), hb1⟩
    · refine (asked_n 8 n a b 7 163 (fun h => #[.pointer (some ⟨h + 7, 0, none⟩)]) _ (fun _ => rfl)).mono ?_
      rintro e w1 ⟨h, rfl, _, hb1⟩
      exact ⟨_, by rw [hx], .inr (.inr (.inl ⟨_, _, rfl⟩)), hb1⟩
    · refine (asked_n 9 n a b 8 163 (fun h => #[.pointer (some ⟨h + 9, 0, none⟩)]) _ (fun _ => rfl)).mono ?_
      rintro e w1 ⟨h, rfl, _, hb1⟩
      exact ⟨_, by rw [hx], .inr (.inr (.inl ⟨_, _, rfl⟩)), hb1⟩
    · refine (asked_n 10 n a b 9 163 (fun h => #[.pointer (some ⟨h + 11, 0, none⟩)]) _ (fun _ => rfl)).mono ?_
      rintro e w1 ⟨h, rfl, _, hb1⟩
      exact ⟨_, by rw [hx], .inr (.inr (.inl ⟨_, _, rfl⟩)), hb1⟩
    · refine (asked_w 11 n a b 10 153 154 (fun _ => #[]) _ (fun _ => rfl)).mono ?_
      rintro e w1 ⟨h, rfl, _, hb1⟩
      exact ⟨_, by rw [hx], .inl ⟨_, _, _, rfl⟩, hb1⟩
    · refine (asked_l 12 n a b 11 155 156 (fun _ => #[]) _ (fun _ => rfl)).mono ?_
      rintro e w1 ⟨h, rfl, _, hb1⟩
      exact ⟨_, by rw [hx], .inr (.inl ⟨_, _, _, rfl⟩), hb1⟩
    · refine (asked_l 13 n a b 12 157 159 (fun _ => #[]) _ (fun _ => rfl)).mono ?_
      rintro e w1 ⟨h, rfl, _, hb1⟩
      exact ⟨_, by rw [hx], .inr (.inl ⟨_, _, _, rfl⟩), hb1⟩
  · refine (asked_none op n a b w (fun h => ?_)).mono ?_
    · unfold opEntries
      simp only [findNow_int, findNow_nil]
      repeat rw [if_neg (by omega)]
    · rintro e w1 ⟨rfl, hb1⟩
      exact ⟨_, rfl, .inr (.inr (.inr rfl)), hb1⟩

set_option maxHeartbeats 1000000 in
theorem pTotal_1 (n a b : Int) (w : World) (g : good 1 n a b = true) (h3 : 0 ≤ a) (h5 : 0 ≤ b) : Calls Try.prog 84 #[.int .i64 1, .int .i64 n, .int .u32 a, .int .u32 b] w fun e w' => e = .returned (.tuple #[.int .u32 (tot 1 n a b), .int .i64 0]) ∧ Below w.heap.size w w' := by
  obtain ⟨_, _, g3, g4, g5, g6⟩ := (good_iff _ _ _ _).1 g
  have hw : isW n = true := by simp [isW, g3, g4]
  have fa : fit n a = true := by simp [fit, g5]
  have fb : fit n b = true := by simp [fit, g6]
  go_enter Try.func84, Try.ntmps84
  go_wp2_with (first | (go_at_call 106; refine (asked_w 1 n a b 0 162 135 (fun h => #[.pointer (some ⟨h + 1, 0, none⟩)]) _ (fun _ => rfl)).mono ?_; rintro e w1 ⟨h, rfl, ⟨m3, m4, c1, c2, c3, c8, c9, c10⟩, hb1⟩) | (go_at_call 162; refine (pdo_1 n a b _ (by assumption) (by assumption) (by assumption) (by assumption) (by assumption) (by assumption) (h + 1) (by have q : h + 1 < w1.heap.size := (by omega); simp [go_sem, *])).mono ?_; rintro e w2 ⟨rfl, hd1⟩))
  go_ret2
  exact ⟨rfl, ((hb1.trans ((Below.refl _ _).alloc hb1.size _)).trans (hd1.below _))⟩

set_option maxHeartbeats 1000000 in
theorem pTotal_2 (n a b : Int) (w : World) (g : good 2 n a b = true) (h3 : 0 ≤ a) (h5 : 0 ≤ b) : Calls Try.prog 84 #[.int .i64 2, .int .i64 n, .int .u32 a, .int .u32 b] w fun e w' => e = .returned (.tuple #[.int .u32 (tot 2 n a b), .int .i64 0]) ∧ Below w.heap.size w w' := by
  obtain ⟨_, _, g3, g4, g5, g6⟩ := (good_iff _ _ _ _).1 g
  have hw : isW n = true := by simp [isW, g3, g4]
  have fa : fit n a = true := by simp [fit, g5]
  have fb : fit n b = true := by simp [fit, g6]
  go_enter Try.func84, Try.ntmps84
  go_wp2_with (first | (go_at_call 106; refine (asked_w 2 n a b 1 162 137 (fun h => #[.pointer (some ⟨h + 3, 0, none⟩)]) _ (fun _ => rfl)).mono ?_; rintro e w1 ⟨h, rfl, ⟨m3, m4, c1, c2, c3, c8, c9, c10⟩, hb1⟩) | (go_at_call 162; refine (pdo_2 n a b _ (by assumption) (by assumption) (by assumption) (by assumption) (by assumption) (by assumption) (h + 3) (by have q : h + 3 < w1.heap.size := (by omega); simp [go_sem, *])).mono ?_; rintro e w2 ⟨rfl, hd1⟩))
  go_ret2
  exact ⟨rfl, ((hb1.trans ((Below.refl _ _).alloc hb1.size _)).trans (hd1.below _))⟩

set_option maxHeartbeats 1000000 in
theorem pTotal_3 (n a b : Int) (w : World) (g : good 3 n a b = true) (h3 : 0 ≤ a) (h5 : 0 ≤ b) : Calls Try.prog 84 #[.int .i64 3, .int .i64 n, .int .u32 a, .int .u32 b] w fun e w' => e = .returned (.tuple #[.int .u32 (tot 3 n a b), .int .i64 0]) ∧ Below w.heap.size w w' := by
  obtain ⟨_, _, g3, g4, g5, g6⟩ := (good_iff _ _ _ _).1 g
  have hw : isW n = true := by simp [isW, g3, g4]
  have fa : fit n a = true := by simp [fit, g5]
  have fb : fit n b = true := by simp [fit, g6]
  go_enter Try.func84, Try.ntmps84
  go_wp2_with (first | (go_at_call 106; refine (asked_w 3 n a b 2 162 139 (fun h => #[.pointer (some ⟨h + 5, 0, none⟩)]) _ (fun _ => rfl)).mono ?_; rintro e w1 ⟨h, rfl, ⟨m3, m4, c1, c2, c3, c8, c9, c10⟩, hb1⟩) | (go_at_call 162; refine (pdo_3 n a b _ (by assumption) (by assumption) (by assumption) (by assumption) (by assumption) (by assumption) (h + 5) (by have q : h + 5 < w1.heap.size := (by omega); simp [go_sem, *])).mono ?_; rintro e w2 ⟨rfl, hd1⟩))
  go_ret2
  exact ⟨rfl, ((hb1.trans ((Below.refl _ _).alloc hb1.size _)).trans (hd1.below _))⟩

set_option maxHeartbeats 1000000 in
theorem pTotal_4 (n a b : Int) (w : World) (g : good 4 n a b = true) (h3 : 0 ≤ a) (h5 : 0 ≤ b) : Calls Try.prog 84 #[.int .i64 4, .int .i64 n, .int .u32 a, .int .u32 b] w fun e w' => e = .returned (.tuple #[.int .u32 (tot 4 n a b), .int .i64 0]) ∧ Below w.heap.size w w' := by
  obtain ⟨_, _, g3, g4, g5, g6⟩ := (good_iff _ _ _ _).1 g
  have hw : isW n = true := by simp [isW, g3, g4]
  have fa : fit n a = true := by simp [fit, g5]
  have fb : fit n b = true := by simp [fit, g6]
  go_enter Try.func84, Try.ntmps84
  go_wp2_with (first | (go_at_call 106; refine (asked_l 4 n a b 3 142 143 (fun _ => #[]) _ (fun _ => rfl)).mono ?_; rintro e w1 ⟨h, rfl, ⟨m3, m4, c1, c2, c3, c8, c9, c10⟩, hb1⟩) | (go_at_call 142; refine (pdo_4 n a b _ (by assumption) (by assumption) (by assumption) (by assumption) (by assumption) (by assumption)).mono ?_; rintro e w2 ⟨rfl, hd1⟩))
  go_ret2
  exact ⟨rfl, ((hb1.trans ((Below.refl _ _).alloc hb1.size _)).trans (hd1.below _))⟩

set_option maxHeartbeats 1000000 in
theorem pTotal_5 (n a b : Int) (w : World) (g : good 5 n a b = true) (h3 : 0 ≤ a) (h5 : 0 ≤ b) : Calls Try.prog 84 #[.int .i64 5, .int .i64 n, .int .u32 a, .int .u32 b] w fun e w' => e = .returned (.tuple #[.int .u32 (tot 5 n a b), .int .i64 0]) ∧ Below w.heap.size w w' := by
  obtain ⟨_, _, g3, g4, g5, g6⟩ := (good_iff _ _ _ _).1 g
  have hw : isW n = true := by simp [isW, g3, g4]
  have fa : fit n a = true := by simp [fit, g5]
  have fb : fit n b = true := by simp [fit, g6]
  go_enter Try.func84, Try.ntmps84
  go_wp2_with (first | (go_at_call 106; refine (asked_n 5 n a b 4 144 (fun _ => #[]) _ (fun _ => rfl)).mono ?_; rintro e w1 ⟨h, rfl, ⟨m3, m4, c1, c2, c3, c8, c9, c10⟩, hb1⟩) | (go_at_call 144; refine (pdo_5 n a b _ (by assumption) (by assumption) (by assumption) (by assumption) (by assumption) (by assumption)).mono ?_; rintro e w2 ⟨rfl, hd1⟩))
  go_ret2
  exact ⟨rfl, ((hb1.trans ((Below.refl _ _).alloc hb1.size _)).trans (hd1.below _))⟩

set_option maxHeartbeats 1000000 in
theorem pTotal_6 (n a b : Int) (w : World) (g : good 6 n a b = true) (h3 : 0 ≤ a) (h5 : 0 ≤ b) : Calls Try.prog 84 #[.int .i64 6, .int .i64 n, .int .u32 a, .int .u32 b] w fun e w' => e = .returned (.tuple #[.int .u32 (tot 6 n a b), .int .i64 0]) ∧ Below w.heap.size w w' := by
  obtain ⟨_, _, g3, g4, g5, g6⟩ := (good_iff _ _ _ _).1 g
  have hw : isW n = true := by simp [isW, g3, g4]
  have fa : fit n a = true := by simp [fit, g5]
  have fb : fit n b = true := by simp [fit, g6]
  go_enter Try.func84, Try.ntmps84
  go_wp2_with (first | (go_at_call 106; refine (asked_l 6 n a b 5 145 147 (fun _ => #[]) _ (fun _ => rfl)).mono ?_; rintro e w1 ⟨h, rfl, ⟨m3, m4, c1, c2, c3, c8, c9, c10⟩, hb1⟩) | (go_at_call 145; refine (pdo_6 n a b _ (by assumption) (by assumption) (by assumption) (by assumption) (by assumption) (by assumption)).mono ?_; rintro e w2 ⟨rfl, hd1⟩))
  go_ret2
  exact ⟨rfl, ((hb1.trans ((Below.refl _ _).alloc hb1.size _)).trans (hd1.below _))⟩

set_option maxHeartbeats 1000000 in
theorem pTotal_7 (n a b : Int) (w : World) (g : good 7 n a b = true) (h3 : 0 ≤ a) (h5 : 0 ≤ b) : Calls Try.prog 84 #[.int .i64 7, .int .i64 n, .int .u32 a, .int .u32 b] w fun e w' => e = .returned (.tuple #[.int .u32 (tot 7 n a b), .int .i64 0]) ∧ Below w.heap.size w w' := by
  obtain ⟨_, _, g3, g4, g5, g6⟩ := (good_iff _ _ _ _).1 g
  have hw : isW n = true := by simp [isW, g3, g4]
  have fa : fit n a = true := by simp [fit, g5]
  have fb : fit n b = true := by simp [fit, g6]
  go_enter Try.func84, Try.ntmps84
  go_wp2_with (first | (go_at_call 106; refine (asked_n 7 n a b 6 148 (fun _ => #[]) _ (fun _ => rfl)).mono ?_; rintro e w1 ⟨h, rfl, ⟨m3, m4, c1, c2, c3, c8, c9, c10⟩, hb1⟩) | (go_at_call 148; refine (pdo_7 n a b _ (by assumption) (by assumption) (by assumption) (by assumption) (by assumption) (by assumption)).mono ?_; rintro e w2 ⟨rfl, hd1⟩))
  go_ret2
  exact ⟨rfl, ((hb1.trans ((Below.refl _ _).alloc hb1.size _)).trans (hd1.below _))⟩

set_option maxHeartbeats 1000000 in
theorem pTotal_8 (n a b : Int) (w : World) (g : good 8 n a b = true) (h3 : 0 ≤ a) (h5 : 0 ≤ b) : Calls Try.prog 84 #[.int .i64 8, .int .i64 n, .int .u32 a, .int .u32 b] w fun e w' => e = .returned (.tuple #[.int .u32 (tot 8 n a b), .int .i64 0]) ∧ Below w.heap.size w w' := by
  obtain ⟨_, _, g3, g4, g5, g6⟩ := (good_iff _ _ _ _).1 g
  have hw : isW n = true := by simp [isW, g3, g4]
  have fa : fit n a = true := by simp [fit, g5]
  have fb : fit n b = true := by simp [fit, g6]
  go_enter Try.func84, Try.ntmps84
  go_wp2_with (first | (go_at_call 106; refine (asked_n 8 n a b 7 163 (fun h => #[.pointer (some ⟨h + 7, 0, none⟩)]) _ (fun _ => rfl)).mono ?_; rintro e w1 ⟨h, rfl, ⟨m3, m4, c1, c2, c3, c8, c9, c10⟩, hb1⟩) | (go_at_call 163; refine (pdo_8 n a b _ (by assumption) (by assumption) (by assumption) (by assumption) (by assumption) (by assumption) (h + 7) (by have q : h + 7 < w1.heap.size := (by omega); simp [go_sem, *])).mono ?_; rintro e w2 ⟨rfl, hd1⟩))
  go_ret2
  exact ⟨rfl, ((hb1.trans ((Below.refl _ _).alloc hb1.size _)).trans (hd1.below _))⟩

set_option maxHeartbeats 1000000 in
theorem pTotal_9 (n a b : Int) (w : World) (g : good 9 n a b = true) (h3 : 0 ≤ a) (h5 : 0 ≤ b) : Calls Try.prog 84 #[.int .i64 9, .int .i64 n, .int .u32 a, .int .u32 b] w fun e w' => e = .returned (.tuple #[.int .u32 (tot 9 n a b), .int .i64 0]) ∧ Below w.heap.size w w' := by
  obtain ⟨_, _, g3, g4, g5, g6⟩ := (good_iff _ _ _ _).1 g
  have hw : isW n = true := by simp [isW, g3, g4]
  have fa : fit n a = true := by simp [fit, g5]
  have fb : fit n b = true := by simp [fit, g6]
  go_enter Try.func84, Try.ntmps84
  go_wp2_with (first | (go_at_call 106; refine (asked_n 9 n a b 8 163 (fun h => #[.pointer (some ⟨h + 9, 0, none⟩)]) _ (fun _ => rfl)).mono ?_; rintro e w1 ⟨h, rfl, ⟨m3, m4, c1, c2, c3, c8, c9, c10⟩, hb1⟩) | (go_at_call 163; refine (pdo_9 n a b _ (by assumption) (by assumption) (by assumption) (by assumption) (by assumption) (by assumption) (h + 9) (by have q : h + 9 < w1.heap.size := (by omega); simp [go_sem, *])).mono ?_; rintro e w2 ⟨rfl, hd1⟩))
  go_ret2
  exact ⟨rfl, ((hb1.trans ((Below.refl _ _).alloc hb1.size _)).trans (hd1.below _))⟩

set_option maxHeartbeats 1000000 in
theorem pTotal_10 (n a b : Int) (w : World) (g : good 10 n a b = true) (h3 : 0 ≤ a) (h5 : 0 ≤ b) : Calls Try.prog 84 #[.int .i64 10, .int .i64 n, .int .u32 a, .int .u32 b] w fun e w' => e = .returned (.tuple #[.int .u32 (tot 10 n a b), .int .i64 0]) ∧ Below w.heap.size w w' := by
  obtain ⟨_, _, g3, g4, g5, g6⟩ := (good_iff _ _ _ _).1 g
  have hw : isW n = true := by simp [isW, g3, g4]
  have fa : fit n a = true := by simp [fit, g5]
  have fb : fit n b = true := by simp [fit, g6]
  go_enter Try.func84, Try.ntmps84
  go_wp2_with (first | (go_at_call 106; refine (asked_n 10 n a b 9 163 (fun h => #[.pointer (some ⟨h + 11, 0, none⟩)]) _ (fun _ => rfl)).mono ?_; rintro e w1 ⟨h, rfl, ⟨m3, m4, c1, c2, c3, c8, c9, c10⟩, hb1⟩) | (go_at_call 163; refine (pdo_10 n a b _ (by assumption) (by assumption) (by assumption) (by assumption) (by assumption) (by assumption) (h + 11) (by have q : h + 11 < w1.heap.size := (by omega); simp [go_sem, *])).mono ?_; rintro e w2 ⟨rfl, hd1⟩))
  go_ret2
  exact ⟨rfl, ((hb1.trans ((Below.refl _ _).alloc hb1.size _)).trans (hd1.below _))⟩

set_option maxHeartbeats 1000000 in
theorem pTotal_11 (n a b : Int) (w : World) (g : good 11 n a b = true) (h3 : 0 ≤ a) (h5 : 0 ≤ b) : Calls Try.prog 84 #[.int .i64 11, .int .i64 n, .int .u32 a, .int .u32 b] w fun e w' => e = .returned (.tuple #[.int .u32 (tot 11 n a b), .int .i64 0]) ∧ Below w.heap.size w w' := by
  obtain ⟨_, _, g3, g4, g5, g6⟩ := (good_iff _ _ _ _).1 g
  have hw : isW n = true := by simp [isW, g3, g4]
  have fa : fit n a = true := by simp [fit, g5]
  have fb : fit n b = true := by simp [fit, g6]
  go_enter Try.func84, Try.ntmps84
  go_wp2_with (first | (go_at_call 106; refine (asked_w 11 n a b 10 153 154 (fun _ => #[]) _ (fun _ => rfl)).mono ?_; rintro e w1 ⟨h, rfl, ⟨m3, m4, c1, c2, c3, c8, c9, c10⟩, hb1⟩) | (go_at_call 153; refine (pdo_11 n a b _ (by assumption) (by assumption) (by assumption) (by assumption) (by assumption) (by assumption)).mono ?_; rintro e w2 ⟨rfl, hd1⟩))
  go_ret2
  exact ⟨rfl, ((hb1.trans ((Below.refl _ _).alloc hb1.size _)).trans (hd1.below _))⟩

set_option maxHeartbeats 1000000 in
theorem pTotal_12 (n a b : Int) (w : World) (g : good 12 n a b = true) (h3 : 0 ≤ a) (h5 : 0 ≤ b) : Calls Try.prog 84 #[.int .i64 12, .int .i64 n, .int .u32 a, .int .u32 b] w fun e w' => e = .returned (.tuple #[.int .u32 (tot 12 n a b), .int .i64 0]) ∧ Below w.heap.size w w' := by
  obtain ⟨_, _, g3, g4, g5, g6⟩ := (good_iff _ _ _ _).1 g
  have hw : isW n = true := by simp [isW, g3, g4]
  have fa : fit n a = true := by simp [fit, g5]
  have fb : fit n b = true := by simp [fit, g6]
  go_enter Try.func84, Try.ntmps84
  go_wp2_with (first | (go_at_call 106; refine (asked_l 12 n a b 11 155 156 (fun _ => #[]) _ (fun _ => rfl)).mono ?_; rintro e w1 ⟨h, rfl, ⟨m3, m4, c1, c2, c3, c8, c9, c10⟩, hb1⟩) | (go_at_call 155; refine (pdo_12 n a b _ (by assumption) (by assumption) (by assumption) (by assumption) (by assumption) (by assumption)).mono ?_; rintro e w2 ⟨rfl, hd1⟩))
  go_ret2
  exact ⟨rfl, ((hb1.trans ((Below.refl _ _).alloc hb1.size _)).trans (hd1.below _))⟩

set_option maxHeartbeats 1000000 in
theorem pTotal_13 (n a b : Int) (w : World) (g : good 13 n a b = true) (h3 : 0 ≤ a) (h5 : 0 ≤ b) : Calls Try.prog 84 #[.int .i64 13, .int .i64 n, .int .u32 a, .int .u32 b] w fun e w' => e = .returned (.tuple #[.int .u32 (tot 13 n a b), .int .i64 0]) ∧ Below w.heap.size w w' := by
  obtain ⟨_, _, g3, g4, g5, g6⟩ := (good_iff _ _ _ _).1 g
  have hw : isW n = true := by simp [isW, g3, g4]
  have fa : fit n a = true := by simp [fit, g5]
  have fb : fit n b = true := by simp [fit, g6]
  go_enter Try.func84, Try.ntmps84
  go_wp2_with (first | (go_at_call 106; refine (asked_l 13 n a b 12 157 159 (fun _ => #[]) _ (fun _ => rfl)).mono ?_; rintro e w1 ⟨h, rfl, ⟨m3, m4, c1, c2, c3, c8, c9, c10⟩, hb1⟩) | (go_at_call 157; refine (pdo_13 n a b _ (by assumption) (by assumption) (by assumption) (by assumption) (by assumption) (by assumption)).mono ?_; rintro e w2 ⟨rfl, hd1⟩))
  go_ret2
  exact ⟨rfl, ((hb1.trans ((Below.refl _ _).alloc hb1.size _)).trans (hd1.below _))⟩

theorem pTotal_any (op n a b : Int) (w : World) (h3 : 0 ≤ a) (h5 : 0 ≤ b) : Calls Try.prog 84 #[.int .i64 op, .int .i64 n, .int .u32 a, .int .u32 b] w fun e w' => e = .returned (totV op n a b) ∧ Below w.heap.size w w' := by
  by_cases g : good op n a b = true
  · have hv : totV op n a b = .tuple #[.int .u32 (tot op n a b), .int .i64 0] := by simp [totV, g]
    rw [hv]
    obtain ⟨g1, g2, g3, g4, g5, g6⟩ := (good_iff _ _ _ _).1 g
    have h : op = 1 ∨ op = 2 ∨ op = 3 ∨ op = 4 ∨ op = 5 ∨ op = 6 ∨ op = 7 ∨ op = 8 ∨ op = 9 ∨ op = 10 ∨ op = 11 ∨ op = 12 ∨ op = 13 := by omega
    rcases h with rfl | rfl | rfl | rfl | rfl | rfl | rfl | rfl | rfl | rfl | rfl | rfl | rfl
    · exact pTotal_1 n a b w g h3 h5
    · exact pTotal_2 n a b w g h3 h5
    · exact pTotal_3 n a b w g h3 h5
    · exact pTotal_4 n a b w g h3 h5
    · exact pTotal_5 n a b w g h3 h5
    · exact pTotal_6 n a b w g h3 h5
    · exact pTotal_7 n a b w g h3 h5
    · exact pTotal_8 n a b w g h3 h5
    · exact pTotal_9 n a b w g h3 h5
    · exact pTotal_10 n a b w g h3 h5
    · exact pTotal_11 n a b w g h3 h5
    · exact pTotal_12 n a b w g h3 h5
    · exact pTotal_13 n a b w g h3 h5
  · have g : good op n a b = false := by simpa using g
    have hv : totV op n a b = .tuple #[.int .u32 0, .int .i64 1] := by simp [totV, g]
    rw [hv]
    clear hv
    go_enter Try.func84, Try.ntmps84
    go_wp2_with (first | (go_at_call 106; refine (asked_bad _ _ _ _ _ (by assumption)).mono ?_; rintro e w1 ⟨v, rfl, (⟨fd, fw, cd, rfl⟩ | ⟨fd, fl, cd, rfl⟩ | ⟨fd, cd, rfl⟩ | rfl), hb1⟩))
    all_goals
      go_ret2
      exact ⟨rfl, hb1.trans ((Below.refl _ _).alloc hb1.size _)⟩

end Go.Proofs.Ythopdfikikdcbaa
/- Walks of bits.Lanes and backstayref01.Lanes. -/
namespace Go.Proofs.Ythopdfikikdcbaa
open Go.RowKit Wd
set_option linter.unusedVariables false
set_option linter.unusedSimpArgs false

theorem fits2_no (n a c : Int) (b : Nat) (w : World) (g0 : w.cell? ⟨b, 0, none⟩ = some (.int .u32 a)) (g1 : w.cell? ⟨b, 1, none⟩ = some (.int .u32 c)) (h : (isW n && fit n a && fit n c) = false) : Calls Try.prog 104 #[.int .i64 n, .slice (some ⟨b, 0, none⟩) 2 2] w fun e w' => e = .returned (.bool false) ∧ w = w' := by rw [← h]; exact fits2 n a c b w g0 g1
theorem fits2_yes (n a c : Int) (b : Nat) (w : World) (g0 : w.cell? ⟨b, 0, none⟩ = some (.int .u32 a)) (g1 : w.cell? ⟨b, 1, none⟩ = some (.int .u32 c)) (h : (isW n && fit n a && fit n c) = true) : Calls Try.prog 104 #[.int .i64 n, .slice (some ⟨b, 0, none⟩) 2 2] w fun e w' => e = .returned (.bool true) ∧ w = w' := by rw [← h]; exact fits2 n a c b w g0 g1
end Go.Proofs.Ythopdfikikdcbaa
/- Do, Total and Lanes of both sides in one form; known; the walks of the statements BitsDoes, BitsTotals, BitsLanes. -/
namespace Go.Proofs.Ythopdfikikdcbaa
open Go.RowKit Wd
set_option linter.unusedVariables false
set_option linter.unusedSimpArgs false
def doX (op n a b : Int) : Int := if good op n a b = true then (if has op n a b = true then tot op n a b else 0) else 0
def doY (op n a b : Int) : Bool := good op n a b && has op n a b
def doE (op n a b : Int) : Int := if good op n a b = true then 0 else 1
def toX (op n a b : Int) : Int := if good op n a b = true then tot op n a b else 0
def laX (op n l a b : Int) : Int := if goodL op n l a b = true then lanes op n l a b else 0
def laE (op n l a b : Int) : Int := if goodL op n l a b = true then 0 else 1
theorem doV_eq (op n a b : Int) : doV op n a b = .tuple #[.int .u32 (doX op n a b), .bool (doY op n a b), .int .i64 (doE op n a b)] := by
  unfold doV doX doY doE
  cases good op n a b <;> cases has op n a b <;> rfl
theorem totV_eq (op n a b : Int) : totV op n a b = .tuple #[.int .u32 (toX op n a b), .int .i64 (doE op n a b)] := by
  unfold totV toX doE
  cases good op n a b <;> rfl

theorem pTotal (op n a b : Int) (w : World) (h3 : 0 ≤ a) (h4 : a ≤ 4294967295) (h5 : 0 ≤ b) (h6 : b ≤ 4294967295) : Calls Try.prog 84 #[.int .i64 op, .int .i64 n, .int .u32 a, .int .u32 b] w fun e w' => e = .returned (.tuple #[.int .u32 (toX op n a b), .int .i64 (doE op n a b)]) ∧ Below w.heap.size w w' := by rw [← totV_eq]; exact pTotal_any op n a b w h3 h5
theorem rTotal (op n a b : Int) (w : World) (h3 : 0 ≤ a) (h4 : a ≤ 4294967295) (h5 : 0 ≤ b) (h6 : b ≤ 4294967295) : Calls Try.prog 88 #[.int .i64 op, .int .i64 n, .int .u32 a, .int .u32 b] w fun e w' => e = .returned (.tuple #[.int .u32 (toX op n a b), .int .i64 (doE op n a b)]) ∧ Dr w w' := by rw [← totV_eq]; exact rTotal_any op n a b w h3 h4 h5 h6
end Go.Proofs.Ythopdfikikdcbaa
/- The walks of the statements BitsTotals and BitsLanes. -/
namespace Go.Proofs.Ythopdfikikdcbaa
open Go.RowKit Wd
set_option linter.unusedVariables false
set_option linter.unusedSimpArgs false
/-- What lay there in the world w0 lies there in w, as it was. -/
def Since (w0 w : World) : Prop := Below w0.heap.size w0 w
theorem Since.refl (w : World) : Since w w := Below.refl _ _
theorem Since.drewN {w0 w : World} (h : Since w0 w) (n : Nat) : Since w0 (w.drewN n) := below_drewN h n
theorem acc_p {P : Program} {f : FuncId} {args : Array Value} {w : World} {v : Value} (h : Calls P f args w fun e w' => e = .returned v ∧ Below w.heap.size w w') {w0 : World} (h0 : Since w0 w) :
    Calls P f args w fun e w' => e = .returned v ∧ Since w0 w' := h.mono fun _ _ hh => ⟨hh.1, below_hop h0 hh.2⟩
theorem acc_e {P : Program} {f : FuncId} {args : Array Value} {w : World} {v : Value} (h : Calls P f args w fun e w' => e = .returned v ∧ w = w') {w0 : World} (h0 : Since w0 w) :
    Calls P f args w fun e w' => e = .returned v ∧ Since w0 w' := h.mono fun _ _ hh => ⟨hh.1, hh.2 ▸ h0⟩
theorem acc_d {P : Program} {f : FuncId} {args : Array Value} {w : World} {v : Value} (h : Calls P f args w fun e w' => e = .returned v ∧ Dr w w') {w0 : World} (h0 : Since w0 w) :
    Calls P f args w fun e w' => e = .returned v ∧ Since w0 w' := h.mono fun _ _ hh => ⟨hh.1, below_hop h0 (hh.2.below _)⟩
theorem since_box {w wk : World} {cs : Array Value} {T : TypeId} (i : Nat) (hb : Since (w.alloc (.cells cs T)) wk) : wk.cell? ⟨w.heap.size, i, none⟩ = cs[i]? := box_kept hb i

end Go.Proofs.Ythopdfikikdcbaa
/- The ring of words, widening and narrowing, comparisons: plain arithmetic; no program in sight. -/
namespace Go.Proofs.Ythopdfikikdcbaa.Wd
set_option linter.unusedVariables false
set_option linter.unusedSimpArgs false

/-! ### the ring of words -/
theorem wr_self {n a : Int} (h : Word n a) : wr n a = a := wr_small h.1 h.2
theorem wr_add_l (n x y : Int) : wr n (wr n x + y) = wr n (x + y) := Int.emod_add_emod ..
theorem wr_add_r (n x y : Int) : wr n (x + wr n y) = wr n (x + y) := by rw [Int.add_comm, wr_add_l, Int.add_comm]
theorem wr_mul_l (n x y : Int) : wr n (wr n x * y) = wr n (x * y) := by
  unfold wr; rw [Int.mul_emod, Int.emod_emod_of_dvd _ (Int.dvd_refl _), ← Int.mul_emod]
theorem wr_mul_r (n x y : Int) : wr n (x * wr n y) = wr n (x * y) := by rw [Int.mul_comm, wr_mul_l, Int.mul_comm]
theorem wr_sub_l (n x y : Int) : wr n (wr n x - y) = wr n (x - y) := Int.emod_sub_emod ..
theorem wr_congr {n x y k : Int} (h : x = y + k * pw n) : wr n x = wr n y := by unfold wr; rw [h, Int.add_mul_emod_self_right]
theorem wr_sgn (n a : Int) : wr n (sgn n a) = wr n a := by
  obtain ⟨k, h⟩ := sgn_wr n a
  exact wr_congr h
theorem and_add_or (a b : Nat) : (a &&& b) + (a ||| b) = a + b := by
  have h : ∀ n a b : Nat, a < 2 ^ n → (a &&& b) + (a ||| b) = a + b := by
    intro n
    induction n with
    | zero => intro a b h; have : a = 0 := by simpa using h
              subst this; simp
    | succ n ih =>
      intro a b h
      have h1 := ih (a / 2) (b / 2) (by rw [Nat.pow_succ] at h; omega)
      have e1 : (a &&& b) / 2 = a / 2 &&& b / 2 := Nat.and_div_two
      have e2 : (a ||| b) / 2 = a / 2 ||| b / 2 := Nat.or_div_two
      have e3 : (a &&& b) % 2 = a % 2 &&& b % 2 := Nat.and_mod_two_pow (n := 1)
      have e4 : (a ||| b) % 2 = a % 2 ||| b % 2 := Nat.or_mod_two_pow (n := 1)
      rw [← e1, ← e2] at h1
      have ha : a % 2 = 0 ∨ a % 2 = 1 := by omega
      have hb : b % 2 = 0 ∨ b % 2 = 1 := by omega
      generalize (a &&& b) = p at *
      generalize (a ||| b) = q at *
      rcases ha with ha | ha <;> rcases hb with hb | hb <;> rw [ha, hb] at e3 e4 <;> simp at e3 e4 <;> omega
  exact h a a b Nat.lt_two_pow_self
theorem xor_xor (a b : Nat) : (a ^^^ b) ^^^ b = a := by rw [Nat.xor_assoc, Nat.xor_self, Nat.xor_zero]
section
variable {n a b c : Int} (g : 1 ≤ n ∧ n ≤ 32) (ha : Word n a) (hb : Word n b) (hc : Word n c)
include ha
theorem ring_sub : tot 2 n (tot 1 n a b) b = a := by
  show wr n (wr n (a + b) - b) = a
  rw [wr_sub_l, show a + b - b = a by omega, wr_self ha]
omit ha in
theorem ring_add : tot 1 n b a = tot 1 n a b := by show wr n (b + a) = wr n (a + b); rw [Int.add_comm]
omit ha in
theorem ring_mul : tot 3 n b a = tot 3 n a b := by show wr n (b * a) = wr n (a * b); rw [Int.mul_comm]
omit ha in
theorem ring_dist : tot 3 n a (tot 1 n b c) = tot 1 n (tot 3 n a b) (tot 3 n a c) := by
  show wr n (a * wr n (b + c)) = wr n (wr n (a * b) + wr n (a * c))
  rw [wr_mul_r, wr_add_l, wr_add_r, Int.mul_add]
include hb in
theorem ring_andor : tot 1 n (tot 8 n a b) (tot 9 n a b) = tot 1 n a b := by
  show wr n (((a.toNat &&& b.toNat : Nat) : Int) + ((a.toNat ||| b.toNat : Nat) : Int)) = wr n (a + b)
  have h := and_add_or a.toNat b.toNat
  have h1 := ha.1
  have h2 := hb.1
  congr 1
  omega
theorem ring_xor : tot 10 n (tot 10 n a b) b = a := by
  show (((((a.toNat ^^^ b.toNat : Nat) : Int)).toNat ^^^ b.toNat : Nat) : Int) = a
  rw [Int.toNat_natCast, xor_xor]
  exact Int.toNat_of_nonneg ha.1
theorem ring_udiv (h : b ≠ 0) : tot 1 n (tot 3 n (tot 4 n a b) b) (tot 5 n a b) = a := by
  have e1 : tot 4 n a b = a / b := by simp [tot, h]
  have e2 : tot 5 n a b = a % b := by simp [tot, h]
  rw [e1, e2]
  show wr n (wr n (a / b * b) + a % b) = a
  rw [wr_add_l, Int.ediv_mul_add_emod, wr_self ha]
theorem ring_sdiv (h : has 6 n a b = true) : tot 1 n (tot 3 n (tot 6 n a b) b) (tot 7 n a b) = a := by
  have h0 : b ≠ 0 := by intro hb; simp [has, hb] at h
  have hxy : ¬ (sgn n a = -pw (n - 1) ∧ sgn n b = -1) := by intro hb; simp [has, hb] at h
  have e1 : tot 6 n a b = wr n ((sgn n a).tdiv (sgn n b)) := by simp [tot, h0, hxy]
  have e2 : tot 7 n a b = wr n ((sgn n a).tmod (sgn n b)) := by simp [tot, h0, hxy]
  rw [e1, e2]
  show wr n (wr n (wr n ((sgn n a).tdiv (sgn n b)) * b) + wr n ((sgn n a).tmod (sgn n b))) = a
  rw [wr_mul_l, wr_add_l, wr_add_r]
  obtain ⟨k, hk⟩ := sgn_wr n b
  have e4 := tmod_q (sgn n a) (sgn n b)
  generalize (sgn n a).tdiv (sgn n b) = q at *
  generalize (sgn n a).tmod (sgn n b) = m at *
  have e3 : q * b + m = sgn n a + (-(q * k)) * pw n := by
    have e5 : q * sgn n b = q * b + q * k * pw n := by rw [hk, Int.mul_add, Int.mul_assoc]
    rw [Int.neg_mul]
    omega
  rw [wr_congr e3, wr_sgn, wr_self ha]
end

/-! ### wider and narrower -/
def goodX (op m n x : Int) : Bool := decide (1 ≤ m ∧ m ≤ 32 ∧ x < pw m ∧ 1 ≤ n ∧ n ≤ 32 ∧ ((op = 16 ∨ op = 17) ∧ m < n ∨ op = 18 ∧ n < m))
theorem goodX_iff (op m n x : Int) : goodX op m n x = true ↔ 1 ≤ m ∧ m ≤ 32 ∧ x < pw m ∧ 1 ≤ n ∧ n ≤ 32 ∧ ((op = 16 ∨ op = 17) ∧ m < n ∨ op = 18 ∧ n < m) := by simp only [goodX, decide_eq_true_eq]
def extV (op m n x : Int) : Int := if op = 17 then wr n (sgn m x) else wr n x
theorem wr_trans {m n : Int} (h : m ≤ n) (x : Int) : wr m (wr n x) = wr m x := Int.emod_emod_of_dvd x (pw_dvd h)
theorem ext_back {op m n x : Int} (g : goodX op m n x = true) (h : op ≠ 18) (h0 : 0 ≤ x) : extV 18 n m (extV op m n x) = x := by
  obtain ⟨g1, g2, g3, g4, g5, g6⟩ := (goodX_iff _ _ _ _).1 g
  show wr m (extV op m n x) = x
  unfold extV
  split
  · rw [wr_trans (by omega), wr_sgn, wr_small h0 g3]
  · rw [wr_trans (by omega), wr_small h0 g3]

/-! ### comparisons -/
/-- Whether a predicate holds of two numbers. -/
def cmp2 (p x y : Int) : Bool :=
  if p = 0 then x == y else if p = 1 then x != y else if p = 2 ∨ p = 6 then decide (x < y) else if p = 3 ∨ p = 7 then decide (x ≤ y) else if p = 4 ∨ p = 8 then decide (y < x) else decide (y ≤ x)
/-- Whether a predicate holds of two words. -/
def cmpV (p n a b : Int) : Bool := if 6 ≤ p then cmp2 p (sgn n a) (sgn n b) else cmp2 p a b
def goodC (p n a b : Int) : Bool := decide (0 ≤ p ∧ p ≤ 9 ∧ 1 ≤ n ∧ n ≤ 32 ∧ a < pw n ∧ b < pw n)
theorem goodC_iff (p n a b : Int) : goodC p n a b = true ↔ 0 ≤ p ∧ p ≤ 9 ∧ 1 ≤ n ∧ n ≤ 32 ∧ a < pw n ∧ b < pw n := by simp only [goodC, decide_eq_true_eq]
def oppV (p : Int) : Int := if p = 0 then 1 else if p = 1 then 0 else if p = 2 then 5 else if p = 3 then 4 else if p = 4 then 3 else if p = 5 then 2 else if p = 6 then 9 else if p = 7 then 8 else if p = 8 then 7 else 6
def mirV (p : Int) : Int := if p = 0 then 0 else if p = 1 then 1 else if p = 2 then 4 else if p = 3 then 5 else if p = 4 then 2 else if p = 5 then 3 else if p = 6 then 8 else if p = 7 then 9 else if p = 8 then 6 else 7
theorem opp_cmp {p n a b : Int} (g : goodC p n a b = true) : cmpV (oppV p) n a b = !cmpV p n a b ∧ goodC (oppV p) n a b = true := by
  obtain ⟨g1, g2, g3⟩ := (goodC_iff _ _ _ _).1 g
  have h : p = 0 ∨ p = 1 ∨ p = 2 ∨ p = 3 ∨ p = 4 ∨ p = 5 ∨ p = 6 ∨ p = 7 ∨ p = 8 ∨ p = 9 := by omega
  rw [goodC_iff]
  rcases h with rfl | rfl | rfl | rfl | rfl | rfl | rfl | rfl | rfl | rfl
  all_goals refine ⟨?_, by decide, by decide, g3⟩
  all_goals simp [cmpV, cmp2, oppV]
  all_goals first | rfl | (rw [Bool.eq_iff_iff]; simp)
theorem mir_cmp {p n a b : Int} (g : goodC p n a b = true) : cmpV (mirV p) n b a = cmpV p n a b ∧ goodC (mirV p) n b a = true := by
  obtain ⟨g1, g2, g3, g4, g5, g6⟩ := (goodC_iff _ _ _ _).1 g
  have h : p = 0 ∨ p = 1 ∨ p = 2 ∨ p = 3 ∨ p = 4 ∨ p = 5 ∨ p = 6 ∨ p = 7 ∨ p = 8 ∨ p = 9 := by omega
  rw [goodC_iff]
  rcases h with rfl | rfl | rfl | rfl | rfl | rfl | rfl | rfl | rfl | rfl
  all_goals refine ⟨?_, by decide, by decide, g3, g4, g6, g5⟩
  all_goals simp [cmpV, cmp2, mirV]
  all_goals first | rfl | (rw [Bool.eq_iff_iff]; simp; exact eq_comm) | (rw [Bool.eq_iff_iff]; simp; rw [eq_comm])
end Go.Proofs.Ythopdfikikdcbaa.Wd
/- Mask, Signed, Of, Extend of both sides, and the walks of the statements BitsWords and BitsExtends. -/
namespace Go.Proofs.Ythopdfikikdcbaa
open Go.RowKit Wd
set_option linter.unusedVariables false
set_option linter.unusedSimpArgs false
def mkX (n : Int) : Int := if isW n = true then pw n - 1 else 0
def mkE (n : Int) : Int := if isW n = true then 0 else 1
def sgX (n x : Int) : Int := if (isW n && fit n x) = true then sgn n x else 0
def sgE (n x : Int) : Int := if (isW n && fit n x) = true then 0 else 1
def ofX (n x : Int) : Int := if isW n = true then wr n x else 0
def exX (op m n x : Int) : Int := if goodX op m n x = true then extV op m n x else 0
def exE (op m n x : Int) : Int := if goodX op m n x = true then 0 else 1

theorem pMask (n : Int) (w : World) : Calls Try.prog 49 #[.int .i64 n] w fun e w' => e = .returned (.tuple #[.int .u32 (mkX n), .int .i64 (mkE n)]) ∧ w = w' := by
  by_cases hw : isW n = true
  · have hv : mkX n = pw n - 1 := by simp [mkX, hw]
    rw [hv]
    clear hv
    have hv : mkE n = 0 := by simp [mkE, hw]
    rw [hv]
    clear hv
    have h12 : 1 ≤ n ∧ n ≤ 32 := by simpa [isW] using hw
    obtain ⟨h1, h2⟩ := h12
    have hp := pw_le32 h2
    have hp0 := pw_pos n
    go_enter Try.func49, Try.ntmps49
    go_wp2_with (first | (go_at_call 79; refine (isWidth_any _ _).mono ?_; rintro e w' ⟨rfl, rfl⟩) | (go_at_call 80; refine (mask_any _ _ (by assumption) (by assumption)).mono ?_; rintro e w' ⟨rfl, rfl⟩))
    go_ret2
    exact ⟨rfl, rfl⟩
  · have hw : isW n = false := by simpa using hw
    have hv : mkX n = 0 := by simp [mkX, hw]
    rw [hv]
    clear hv
    have hv : mkE n = 1 := by simp [mkE, hw]
    rw [hv]
    clear hv
    go_enter Try.func49, Try.ntmps49
    go_wp2_with (first | (go_at_call 79; refine (isWidth_any _ _).mono ?_; rintro e w' ⟨rfl, rfl⟩) | (go_at_call 80; refine (mask_any _ _ (by assumption) (by assumption)).mono ?_; rintro e w' ⟨rfl, rfl⟩))
    go_ret2
    exact ⟨rfl, rfl⟩

set_option maxHeartbeats 1000000 in
theorem pExtend (op m n x : Int) (h0 : 0 ≤ x) (h4 : x ≤ 4294967295) (w : World) : Calls Try.prog 83 #[.int .i64 op, .int .i64 m, .int .i64 n, .int .u32 x] w fun e w' => e = .returned (.tuple #[.int .u32 (exX op m n x), .int .i64 (exE op m n x)]) ∧ Below w.heap.size w w' := by
  by_cases g : goodX op m n x = true
  · obtain ⟨g1, g2, g3, g4, g5, g6⟩ := (goodX_iff _ _ _ _).1 g
    have e2 : exE op m n x = 0 := by simp [exE, g]
    have e1 : exX op m n x = extV op m n x := by simp [exX, g]
    rw [e1, e2]
    have hm : isW m = true := by simp [isW, g1, g2]
    have hn : isW n = true := by simp [isW, g4, g5]
    have fx : fit m x = true := by simp [fit, g3]
    have q1 := sgn_lo32 (n := m) (a := x) g1 g2 h0
    have q2 := sgn_hi32 (n := m) (a := x) g1 g2 g3
    have k1 := mask_wr g5 (sgn m x)
    have k2 := mask_fit g5 h0 h4
    have pn := pw_le32 g5
    rcases g6 with ⟨rfl | rfl, g7⟩ | ⟨rfl, g7⟩
    · have e3 : extV 16 m n x = x := by
        show wr n x = x
        exact wr_small h0 (by have := pw_mono (m := m) (n := n) (by omega); omega)
      have e4 : wr n x = x := e3
      rw [e3]
      clear e1 e2 e3 g k2
      go_enter Try.func83, Try.ntmps83
      go_wp2_with (first | (go_at_call 104; refine (fits1 m x _ _ (by simp [go_sem])).mono ?_; rintro e w' ⟨rfl, rfl⟩) | (go_at_call 79; refine (isWidth_any _ _).mono ?_; rintro e w' ⟨rfl, rfl⟩) | (go_at_call 80; refine (mask_any _ _ (by assumption) (by assumption)).mono ?_; rintro e w' ⟨rfl, rfl⟩) | (go_at_call 105; refine (signed_any _ _ _ (by omega) (by omega) (by omega) (by omega)).mono ?_; rintro e w' ⟨rfl, rfl⟩))
      all_goals go_ret2
      all_goals exact ⟨rfl, (Below.refl _ _).alloc (Nat.le_refl _) _⟩
    · have e3 : extV 17 m n x = wr n (sgn m x) := rfl
      rw [e3]
      clear e1 e2 e3 g
      go_enter Try.func83, Try.ntmps83
      go_wp2_with (first | (go_at_call 104; refine (fits1 m x _ _ (by simp [go_sem])).mono ?_; rintro e w' ⟨rfl, rfl⟩) | (go_at_call 79; refine (isWidth_any _ _).mono ?_; rintro e w' ⟨rfl, rfl⟩) | (go_at_call 80; refine (mask_any _ _ (by assumption) (by assumption)).mono ?_; rintro e w' ⟨rfl, rfl⟩) | (go_at_call 105; refine (signed_any _ _ _ (by omega) (by omega) (by omega) (by omega)).mono ?_; rintro e w' ⟨rfl, rfl⟩))
      all_goals go_ret2
      all_goals exact ⟨rfl, (Below.refl _ _).alloc (Nat.le_refl _) _⟩
    · have e3 : extV 18 m n x = wr n x := rfl
      rw [e3]
      clear e1 e2 e3 g
      go_enter Try.func83, Try.ntmps83
      go_wp2_with (first | (go_at_call 104; refine (fits1 m x _ _ (by simp [go_sem])).mono ?_; rintro e w' ⟨rfl, rfl⟩) | (go_at_call 79; refine (isWidth_any _ _).mono ?_; rintro e w' ⟨rfl, rfl⟩) | (go_at_call 80; refine (mask_any _ _ (by assumption) (by assumption)).mono ?_; rintro e w' ⟨rfl, rfl⟩) | (go_at_call 105; refine (signed_any _ _ _ (by omega) (by omega) (by omega) (by omega)).mono ?_; rintro e w' ⟨rfl, rfl⟩))
      all_goals go_ret2
      all_goals exact ⟨rfl, (Below.refl _ _).alloc (Nat.le_refl _) _⟩
  · have e2 : exE op m n x = 1 := by simp [exE, g]
    have e1 : exX op m n x = 0 := by simp [exX, g]
    rw [e1, e2]
    clear e1 e2
    cases hm : isW m
    · clear g
      go_enter Try.func83, Try.ntmps83
      go_wp2_with (first | (go_at_call 104; refine (fits1 m x _ _ (by simp [go_sem])).mono ?_; rintro e w' ⟨rfl, rfl⟩) | (go_at_call 79; refine (isWidth_any _ _).mono ?_; rintro e w' ⟨rfl, rfl⟩) | (go_at_call 80; refine (mask_any _ _ (by assumption) (by assumption)).mono ?_; rintro e w' ⟨rfl, rfl⟩) | (go_at_call 105; refine (signed_any _ _ _ (by omega) (by omega) (by omega) (by omega)).mono ?_; rintro e w' ⟨rfl, rfl⟩))
      all_goals go_ret2
      all_goals exact ⟨rfl, (Below.refl _ _).alloc (Nat.le_refl _) _⟩
    · cases fx : fit m x
      · clear g
        go_enter Try.func83, Try.ntmps83
        go_wp2_with (first | (go_at_call 104; refine (fits1 m x _ _ (by simp [go_sem])).mono ?_; rintro e w' ⟨rfl, rfl⟩) | (go_at_call 79; refine (isWidth_any _ _).mono ?_; rintro e w' ⟨rfl, rfl⟩) | (go_at_call 80; refine (mask_any _ _ (by assumption) (by assumption)).mono ?_; rintro e w' ⟨rfl, rfl⟩) | (go_at_call 105; refine (signed_any _ _ _ (by omega) (by omega) (by omega) (by omega)).mono ?_; rintro e w' ⟨rfl, rfl⟩))
        all_goals go_ret2
        all_goals exact ⟨rfl, (Below.refl _ _).alloc (Nat.le_refl _) _⟩
      · cases hn : isW n
        · clear g
          go_enter Try.func83, Try.ntmps83
          go_wp2_with (first | (go_at_call 104; refine (fits1 m x _ _ (by simp [go_sem])).mono ?_; rintro e w' ⟨rfl, rfl⟩) | (go_at_call 79; refine (isWidth_any _ _).mono ?_; rintro e w' ⟨rfl, rfl⟩) | (go_at_call 80; refine (mask_any _ _ (by assumption) (by assumption)).mono ?_; rintro e w' ⟨rfl, rfl⟩) | (go_at_call 105; refine (signed_any _ _ _ (by omega) (by omega) (by omega) (by omega)).mono ?_; rintro e w' ⟨rfl, rfl⟩))
          all_goals go_ret2
          all_goals exact ⟨rfl, (Below.refl _ _).alloc (Nat.le_refl _) _⟩
        · have hg : ¬ ((op = 16 ∨ op = 17) ∧ m < n ∨ op = 18 ∧ n < m) := by
            intro h
            apply g
            simp only [isW, fit, decide_eq_true_eq] at hm fx hn
            exact (goodX_iff _ _ _ _).2 ⟨hm.1, hm.2, fx, hn.1, hn.2, h⟩
          clear g
          by_cases o1 : op = 16
          · have c : decide (m < n) = false := by simp; omega
            have c2 : decide (n ≤ m) = true := by simp; omega
            subst o1
            clear hg
            go_enter Try.func83, Try.ntmps83
            go_wp2_with (first | (go_at_call 104; refine (fits1 m x _ _ (by simp [go_sem])).mono ?_; rintro e w' ⟨rfl, rfl⟩) | (go_at_call 79; refine (isWidth_any _ _).mono ?_; rintro e w' ⟨rfl, rfl⟩) | (go_at_call 80; refine (mask_any _ _ (by assumption) (by assumption)).mono ?_; rintro e w' ⟨rfl, rfl⟩) | (go_at_call 105; refine (signed_any _ _ _ (by omega) (by omega) (by omega) (by omega)).mono ?_; rintro e w' ⟨rfl, rfl⟩))
            all_goals go_ret2
            all_goals exact ⟨rfl, (Below.refl _ _).alloc (Nat.le_refl _) _⟩
          · by_cases o2 : op = 17
            · have c : decide (m < n) = false := by simp; omega
              have c2 : decide (n ≤ m) = true := by simp; omega
              subst o2
              clear hg
              go_enter Try.func83, Try.ntmps83
              go_wp2_with (first | (go_at_call 104; refine (fits1 m x _ _ (by simp [go_sem])).mono ?_; rintro e w' ⟨rfl, rfl⟩) | (go_at_call 79; refine (isWidth_any _ _).mono ?_; rintro e w' ⟨rfl, rfl⟩) | (go_at_call 80; refine (mask_any _ _ (by assumption) (by assumption)).mono ?_; rintro e w' ⟨rfl, rfl⟩) | (go_at_call 105; refine (signed_any _ _ _ (by omega) (by omega) (by omega) (by omega)).mono ?_; rintro e w' ⟨rfl, rfl⟩))
              all_goals go_ret2
              all_goals exact ⟨rfl, (Below.refl _ _).alloc (Nat.le_refl _) _⟩
            · by_cases o3 : op = 18
              · have c : decide (n < m) = false := by simp; omega
                have c2 : decide (m ≤ n) = true := by simp; omega
                subst o3
                clear hg
                go_enter Try.func83, Try.ntmps83
                go_wp2_with (first | (go_at_call 104; refine (fits1 m x _ _ (by simp [go_sem])).mono ?_; rintro e w' ⟨rfl, rfl⟩) | (go_at_call 79; refine (isWidth_any _ _).mono ?_; rintro e w' ⟨rfl, rfl⟩) | (go_at_call 80; refine (mask_any _ _ (by assumption) (by assumption)).mono ?_; rintro e w' ⟨rfl, rfl⟩) | (go_at_call 105; refine (signed_any _ _ _ (by omega) (by omega) (by omega) (by omega)).mono ?_; rintro e w' ⟨rfl, rfl⟩))
                all_goals go_ret2
                all_goals exact ⟨rfl, (Below.refl _ _).alloc (Nat.le_refl _) _⟩
              · have b1 : (op == 16) = false := by simpa using o1
                have b2 : (op == 17) = false := by simpa using o2
                have b3 : (op == 18) = false := by simpa using o3
                have b4 : decide (op < 16) = true ∨ decide (18 < op) = true := by simp; omega
                clear hg o1 o2 o3
                rcases b4 with b4 | b4
                · go_enter Try.func83, Try.ntmps83
                  go_wp2_with (first | (go_at_call 104; refine (fits1 m x _ _ (by simp [go_sem])).mono ?_; rintro e w' ⟨rfl, rfl⟩) | (go_at_call 79; refine (isWidth_any _ _).mono ?_; rintro e w' ⟨rfl, rfl⟩) | (go_at_call 80; refine (mask_any _ _ (by assumption) (by assumption)).mono ?_; rintro e w' ⟨rfl, rfl⟩) | (go_at_call 105; refine (signed_any _ _ _ (by omega) (by omega) (by omega) (by omega)).mono ?_; rintro e w' ⟨rfl, rfl⟩))
                  all_goals go_ret2
                  all_goals exact ⟨rfl, (Below.refl _ _).alloc (Nat.le_refl _) _⟩
                · go_enter Try.func83, Try.ntmps83
                  go_wp2_with (first | (go_at_call 104; refine (fits1 m x _ _ (by simp [go_sem])).mono ?_; rintro e w' ⟨rfl, rfl⟩) | (go_at_call 79; refine (isWidth_any _ _).mono ?_; rintro e w' ⟨rfl, rfl⟩) | (go_at_call 80; refine (mask_any _ _ (by assumption) (by assumption)).mono ?_; rintro e w' ⟨rfl, rfl⟩) | (go_at_call 105; refine (signed_any _ _ _ (by omega) (by omega) (by omega) (by omega)).mono ?_; rintro e w' ⟨rfl, rfl⟩))
                  all_goals go_ret2
                  all_goals exact ⟨rfl, (Below.refl _ _).alloc (Nat.le_refl _) _⟩

set_option maxHeartbeats 1000000 in
theorem rExtend (op m n x : Int) (h0 : 0 ≤ x) (h4 : x ≤ 4294967295) (w : World) : Calls Try.prog 87 #[.int .i64 op, .int .i64 m, .int .i64 n, .int .u32 x] w fun e w' => e = .returned (.tuple #[.int .u32 (exX op m n x), .int .i64 (exE op m n x)]) ∧ w = w' := by
  by_cases g : goodX op m n x = true
  · obtain ⟨g1, g2, g3, g4, g5, g6⟩ := (goodX_iff _ _ _ _).1 g
    have e2 : exE op m n x = 0 := by simp [exE, g]
    have e1 : exX op m n x = extV op m n x := by simp [exX, g]
    rw [e1, e2]
    have hm : isW m = true := by simp [isW, g1, g2]
    have hn : isW n = true := by simp [isW, g4, g5]
    have fx : fit m x = true := by simp [fit, g3]
    have q1 := sgn_lo32 (n := m) (a := x) g1 g2 h0
    have q2 := sgn_hi32 (n := m) (a := x) g1 g2 g3
    have k1 := mask_wr g5 (sgn m x)
    have k2 := mask_fit g5 h0 h4
    have pn := pw_le32 g5
    rcases g6 with ⟨rfl | rfl, g7⟩ | ⟨rfl, g7⟩
    · have e3 : extV 16 m n x = x := by
        show wr n x = x
        exact wr_small h0 (by have := pw_mono (m := m) (n := n) (by omega); omega)
      have e4 : wr n x = x := e3
      rw [e3]
      clear e1 e2 e3 g k2
      go_enter Try.func87, Try.ntmps87
      go_wp2_with (first | (go_at_call 107; refine (rIsWidth_any _ _).mono ?_; rintro e w' ⟨rfl, rfl⟩) | (go_at_call 85; refine (rIsWord_any _ _ _ (by omega) (by omega)).mono ?_; rintro e w' ⟨rfl, rfl⟩) | (go_at_call 111; refine (rSign_any _ _ _ (by omega) (by omega) (by omega) (by omega)).mono ?_; rintro e w' ⟨rfl, rfl⟩) | (go_at_call 112; refine (rWrap_any _ _ _ (by omega) (by omega) (by omega) (by omega)).mono ?_; rintro e w' ⟨rfl, rfl⟩))
      all_goals go_ret2
      all_goals exact ⟨rfl, rfl⟩
    · have e3 : extV 17 m n x = wr n (sgn m x) := rfl
      rw [e3]
      clear e1 e2 e3 g
      go_enter Try.func87, Try.ntmps87
      go_wp2_with (first | (go_at_call 107; refine (rIsWidth_any _ _).mono ?_; rintro e w' ⟨rfl, rfl⟩) | (go_at_call 85; refine (rIsWord_any _ _ _ (by omega) (by omega)).mono ?_; rintro e w' ⟨rfl, rfl⟩) | (go_at_call 111; refine (rSign_any _ _ _ (by omega) (by omega) (by omega) (by omega)).mono ?_; rintro e w' ⟨rfl, rfl⟩) | (go_at_call 112; refine (rWrap_any _ _ _ (by omega) (by omega) (by omega) (by omega)).mono ?_; rintro e w' ⟨rfl, rfl⟩))
      all_goals go_ret2
      all_goals exact ⟨rfl, rfl⟩
    · have e3 : extV 18 m n x = wr n x := rfl
      rw [e3]
      clear e1 e2 e3 g
      go_enter Try.func87, Try.ntmps87
      go_wp2_with (first | (go_at_call 107; refine (rIsWidth_any _ _).mono ?_; rintro e w' ⟨rfl, rfl⟩) | (go_at_call 85; refine (rIsWord_any _ _ _ (by omega) (by omega)).mono ?_; rintro e w' ⟨rfl, rfl⟩) | (go_at_call 111; refine (rSign_any _ _ _ (by omega) (by omega) (by omega) (by omega)).mono ?_; rintro e w' ⟨rfl, rfl⟩) | (go_at_call 112; refine (rWrap_any _ _ _ (by omega) (by omega) (by omega) (by omega)).mono ?_; rintro e w' ⟨rfl, rfl⟩))
      all_goals go_ret2
      all_goals exact ⟨rfl, rfl⟩
  · have e2 : exE op m n x = 1 := by simp [exE, g]
    have e1 : exX op m n x = 0 := by simp [exX, g]
    rw [e1, e2]
    clear e1 e2
    cases hm : isW m
    · clear g
      go_enter Try.func87, Try.ntmps87
      go_wp2_with (first | (go_at_call 107; refine (rIsWidth_any _ _).mono ?_; rintro e w' ⟨rfl, rfl⟩) | (go_at_call 85; refine (rIsWord_any _ _ _ (by omega) (by omega)).mono ?_; rintro e w' ⟨rfl, rfl⟩) | (go_at_call 111; refine (rSign_any _ _ _ (by omega) (by omega) (by omega) (by omega)).mono ?_; rintro e w' ⟨rfl, rfl⟩) | (go_at_call 112; refine (rWrap_any _ _ _ (by omega) (by omega) (by omega) (by omega)).mono ?_; rintro e w' ⟨rfl, rfl⟩))
      all_goals go_ret2
      all_goals exact ⟨rfl, rfl⟩
    · cases fx : fit m x
      · clear g
        go_enter Try.func87, Try.ntmps87
        go_wp2_with (first | (go_at_call 107; refine (rIsWidth_any _ _).mono ?_; rintro e w' ⟨rfl, rfl⟩) | (go_at_call 85; refine (rIsWord_any _ _ _ (by omega) (by omega)).mono ?_; rintro e w' ⟨rfl, rfl⟩) | (go_at_call 111; refine (rSign_any _ _ _ (by omega) (by omega) (by omega) (by omega)).mono ?_; rintro e w' ⟨rfl, rfl⟩) | (go_at_call 112; refine (rWrap_any _ _ _ (by omega) (by omega) (by omega) (by omega)).mono ?_; rintro e w' ⟨rfl, rfl⟩))
        all_goals go_ret2
        all_goals exact ⟨rfl, rfl⟩
      · cases hn : isW n
        · clear g
          go_enter Try.func87, Try.ntmps87
          go_wp2_with (first | (go_at_call 107; refine (rIsWidth_any _ _).mono ?_; rintro e w' ⟨rfl, rfl⟩) | (go_at_call 85; refine (rIsWord_any _ _ _ (by omega) (by omega)).mono ?_; rintro e w' ⟨rfl, rfl⟩) | (go_at_call 111; refine (rSign_any _ _ _ (by omega) (by omega) (by omega) (by omega)).mono ?_; rintro e w' ⟨rfl, rfl⟩) | (go_at_call 112; refine (rWrap_any _ _ _ (by omega) (by omega) (by omega) (by omega)).mono ?_; rintro e w' ⟨rfl, rfl⟩))
          all_goals go_ret2
          all_goals exact ⟨rfl, rfl⟩
        · have hg : ¬ ((op = 16 ∨ op = 17) ∧ m < n ∨ op = 18 ∧ n < m) := by
            intro h
            apply g
            simp only [isW, fit, decide_eq_true_eq] at hm fx hn
            exact (goodX_iff _ _ _ _).2 ⟨hm.1, hm.2, fx, hn.1, hn.2, h⟩
          clear g
          by_cases o1 : op = 16
          · have c : decide (m < n) = false := by simp; omega
            have c2 : decide (n ≤ m) = true := by simp; omega
            subst o1
            clear hg
            go_enter Try.func87, Try.ntmps87
            go_wp2_with (first | (go_at_call 107; refine (rIsWidth_any _ _).mono ?_; rintro e w' ⟨rfl, rfl⟩) | (go_at_call 85; refine (rIsWord_any _ _ _ (by omega) (by omega)).mono ?_; rintro e w' ⟨rfl, rfl⟩) | (go_at_call 111; refine (rSign_any _ _ _ (by omega) (by omega) (by omega) (by omega)).mono ?_; rintro e w' ⟨rfl, rfl⟩) | (go_at_call 112; refine (rWrap_any _ _ _ (by omega) (by omega) (by omega) (by omega)).mono ?_; rintro e w' ⟨rfl, rfl⟩))
            all_goals go_ret2
            all_goals exact ⟨rfl, rfl⟩
          · by_cases o2 : op = 17
            · have c : decide (m < n) = false := by simp; omega
              have c2 : decide (n ≤ m) = true := by simp; omega
              subst o2
              clear hg
              go_enter Try.func87, Try.ntmps87
              go_wp2_with (first | (go_at_call 107; refine (rIsWidth_any _ _).mono ?_; rintro e w' ⟨rfl, rfl⟩) | (go_at_call 85; refine (rIsWord_any _ _ _ (by omega) (by omega)).mono ?_; rintro e w' ⟨rfl, rfl⟩) | (go_at_call 111; refine (rSign_any _ _ _ (by omega) (by omega) (by omega) (by omega)).mono ?_; rintro e w' ⟨rfl, rfl⟩) | (go_at_call 112; refine (rWrap_any _ _ _ (by omega) (by omega) (by omega) (by omega)).mono ?_; rintro e w' ⟨rfl, rfl⟩))
              all_goals go_ret2
              all_goals exact ⟨rfl, rfl⟩
            · by_cases o3 : op = 18
              · have c : decide (n < m) = false := by simp; omega
                have c2 : decide (m ≤ n) = true := by simp; omega
                subst o3
                clear hg
                go_enter Try.func87, Try.ntmps87
                go_wp2_with (first | (go_at_call 107; refine (rIsWidth_any _ _).mono ?_; rintro e w' ⟨rfl, rfl⟩) | (go_at_call 85; refine (rIsWord_any _ _ _ (by omega) (by omega)).mono ?_; rintro e w' ⟨rfl, rfl⟩) | (go_at_call 111; refine (rSign_any _ _ _ (by omega) (by omega) (by omega) (by omega)).mono ?_; rintro e w' ⟨rfl, rfl⟩) | (go_at_call 112; refine (rWrap_any _ _ _ (by omega) (by omega) (by omega) (by omega)).mono ?_; rintro e w' ⟨rfl, rfl⟩))
                all_goals go_ret2
                all_goals exact ⟨rfl, rfl⟩
              · have b1 : (op == 16) = false := by simpa using o1
                have b2 : (op == 17) = false := by simpa using o2
                have b3 : (op == 18) = false := by simpa using o3
                have b4 : decide (op < 16) = true ∨ decide (18 < op) = true := by simp; omega
                clear hg o1 o2 o3
                rcases b4 with b4 | b4
                · go_enter Try.func87, Try.ntmps87
                  go_wp2_with (first | (go_at_call 107; refine (rIsWidth_any _ _).mono ?_; rintro e w' ⟨rfl, rfl⟩) | (go_at_call 85; refine (rIsWord_any _ _ _ (by omega) (by omega)).mono ?_; rintro e w' ⟨rfl, rfl⟩) | (go_at_call 111; refine (rSign_any _ _ _ (by omega) (by omega) (by omega) (by omega)).mono ?_; rintro e w' ⟨rfl, rfl⟩) | (go_at_call 112; refine (rWrap_any _ _ _ (by omega) (by omega) (by omega) (by omega)).mono ?_; rintro e w' ⟨rfl, rfl⟩))
                  all_goals go_ret2
                  all_goals exact ⟨rfl, rfl⟩
                · go_enter Try.func87, Try.ntmps87
                  go_wp2_with (first | (go_at_call 107; refine (rIsWidth_any _ _).mono ?_; rintro e w' ⟨rfl, rfl⟩) | (go_at_call 85; refine (rIsWord_any _ _ _ (by omega) (by omega)).mono ?_; rintro e w' ⟨rfl, rfl⟩) | (go_at_call 111; refine (rSign_any _ _ _ (by omega) (by omega) (by omega) (by omega)).mono ?_; rintro e w' ⟨rfl, rfl⟩) | (go_at_call 112; refine (rWrap_any _ _ _ (by omega) (by omega) (by omega) (by omega)).mono ?_; rintro e w' ⟨rfl, rfl⟩))
                  all_goals go_ret2
                  all_goals exact ⟨rfl, rfl⟩

end Go.Proofs.Ythopdfikikdcbaa
/- Walks of package term: which nodes are right. -/
namespace Go.Proofs.Ythopdfikikdcbaa
open Go.RowKit Wd
set_option linter.unusedVariables false
set_option linter.unusedSimpArgs false
/-- A node as a value; v: its Args. -/
def Nd.val (x : Nd) (v : Value) : Value := .agg #[.int .i64 x.op, .int .i64 x.width, .int .i64 x.flags, v, .int .u32 x.imm]
/-- The numbers of a node fit their types. -/
structure Nd.Wf (x : Nd) : Prop where
  op : -9223372036854775808 ≤ x.op ∧ x.op ≤ 9223372036854775807
  width : -9223372036854775808 ≤ x.width ∧ x.width ≤ 9223372036854775807
  flags : -9223372036854775808 ≤ x.flags ∧ x.flags ≤ 9223372036854775807
  imm : 0 ≤ x.imm ∧ x.imm ≤ 4294967295
  args : ∀ a ∈ x.args, -9223372036854775808 ≤ a ∧ a ≤ 9223372036854775807
  len : x.args.length ≤ 4611686018427387904
/-- How many Args an operation has; -1 if it is none of terms. -/
def arV (op : Int) : Int := if op = 0 ∨ op = 33 then 0 else if 1 ≤ op ∧ op ≤ 14 then 2 else if op = 15 then 3 else if 16 ≤ op ∧ op ≤ 18 then 1 else -1
def immOk (x : Nd) : Bool :=
  if x.op = 0 then isW x.width && fit x.width x.imm else if x.op = 33 then decide (x.imm < 4) else if x.op = 14 then decide (x.imm ≤ 9) else x.imm == 0

theorem arV_cases (op : Int) : (op = 0 ∨ op = 33) ∧ arV op = 0 ∨ (1 ≤ op ∧ op ≤ 14) ∧ arV op = 2 ∨ op = 15 ∧ arV op = 3 ∨ (16 ≤ op ∧ op ≤ 18) ∧ arV op = 1 ∨ (op < 0 ∨ 18 < op ∧ op < 33 ∨ 33 < op) ∧ arV op = -1 := by
  unfold arV
  repeat' split
  all_goals omega

theorem arity_any (op : Int) (w : World) : Calls Try.prog 65 #[.int .i64 op] w fun e w' => e = .returned (.tuple #[.int .i64 (if arV op = -1 then 0 else arV op), .bool (arV op != -1)]) ∧ w = w' := by
  rcases arV_cases op with ⟨rfl | rfl, e⟩ | ⟨⟨h1, h2⟩, e⟩ | ⟨rfl, e⟩ | ⟨⟨h1, h2⟩, e⟩ | ⟨h, e⟩
  · rw [e]
    clear e
    go_enter Try.func65, Try.ntmps65
    go_wp2
    go_ret2
    exact ⟨rfl, rfl⟩
  · rw [e]
    clear e
    go_enter Try.func65, Try.ntmps65
    go_wp2
    go_ret2
    exact ⟨rfl, rfl⟩
  · rw [e]
    clear e
    have q0 : (op == 0) = false := by simp; omega
    have q1 : (op == 33) = false := by simp; omega
    have q2 : decide (1 ≤ op) = true := by simp; omega
    have q3 : decide (op ≤ 14) = true := by simp; omega
    go_enter Try.func65, Try.ntmps65
    go_wp2
    go_ret2
    exact ⟨rfl, rfl⟩
  · rw [e]
    clear e
    go_enter Try.func65, Try.ntmps65
    go_wp2
    go_ret2
    exact ⟨rfl, rfl⟩
  · rw [e]
    clear e
    have q0 : (op == 0) = false := by simp; omega
    have q1 : (op == 33) = false := by simp; omega
    have q2 : (op == 15) = false := by simp; omega
    have q3 : decide (1 ≤ op) = true := by simp; omega
    have q4 : decide (op ≤ 14) = false := by simp; omega
    have q5 : decide (16 ≤ op) = true := by simp; omega
    have q6 : decide (op ≤ 18) = true := by simp; omega
    go_enter Try.func65, Try.ntmps65
    go_wp2
    go_ret2
    exact ⟨rfl, rfl⟩
  · rcases h with h | ⟨h1, h2⟩ | h
    · rw [e]
      clear e
      have q0 : (op == 0) = false := by simp; omega
      have q1 : (op == 33) = false := by simp; omega
      have q2 : (op == 15) = false := by simp; omega
      have q3 : decide (1 ≤ op) = false := by simp; omega
      have q4 : decide (16 ≤ op) = false := by simp; omega
      go_enter Try.func65, Try.ntmps65
      go_wp2
      go_ret2
      exact ⟨rfl, rfl⟩
    · rw [e]
      clear e
      have q0 : (op == 0) = false := by simp; omega
      have q1 : (op == 33) = false := by simp; omega
      have q2 : (op == 15) = false := by simp; omega
      have q3 : decide (1 ≤ op) = true := by simp; omega
      have q4 : decide (op ≤ 14) = false := by simp; omega
      have q5 : decide (16 ≤ op) = true := by simp; omega
      have q6 : decide (op ≤ 18) = false := by simp; omega
      go_enter Try.func65, Try.ntmps65
      go_wp2
      go_ret2
      exact ⟨rfl, rfl⟩
    · rw [e]
      clear e
      have q0 : (op == 0) = false := by simp; omega
      have q1 : (op == 33) = false := by simp; omega
      have q2 : (op == 15) = false := by simp; omega
      have q3 : decide (1 ≤ op) = true := by simp; omega
      have q4 : decide (op ≤ 14) = false := by simp; omega
      have q5 : decide (16 ≤ op) = true := by simp; omega
      have q6 : decide (op ≤ 18) = false := by simp; omega
      go_enter Try.func65, Try.ntmps65
      go_wp2
      go_ret2
      exact ⟨rfl, rfl⟩

theorem rArity_any (op : Int) (w : World) : Calls Try.prog 68 #[.int .i64 op] w fun e w' => e = .returned (.int .i64 (arV op)) ∧ w = w' := by
  rcases arV_cases op with ⟨rfl | rfl, e⟩ | ⟨⟨h1, h2⟩, e⟩ | ⟨rfl, e⟩ | ⟨⟨h1, h2⟩, e⟩ | ⟨h, e⟩
  · rw [e]
    clear e
    go_enter Try.func68, Try.ntmps68
    go_wp2
    go_ret
    exact ⟨rfl, rfl⟩
  · rw [e]
    clear e
    go_enter Try.func68, Try.ntmps68
    go_wp2
    go_ret
    exact ⟨rfl, rfl⟩
  · rw [e]
    clear e
    have q0 : (op == 0) = false := by simp; omega
    have q1 : (op == 33) = false := by simp; omega
    have q2 : decide (1 ≤ op) = true := by simp; omega
    have q3 : decide (op ≤ 14) = true := by simp; omega
    go_enter Try.func68, Try.ntmps68
    go_wp2
    go_ret
    exact ⟨rfl, rfl⟩
  · rw [e]
    clear e
    go_enter Try.func68, Try.ntmps68
    go_wp2
    go_ret
    exact ⟨rfl, rfl⟩
  · rw [e]
    clear e
    have q0 : (op == 0) = false := by simp; omega
    have q1 : (op == 33) = false := by simp; omega
    have q2 : (op == 15) = false := by simp; omega
    have q3 : decide (1 ≤ op) = true := by simp; omega
    have q4 : decide (op ≤ 14) = false := by simp; omega
    have q5 : decide (16 ≤ op) = true := by simp; omega
    have q6 : decide (op ≤ 18) = true := by simp; omega
    go_enter Try.func68, Try.ntmps68
    go_wp2
    go_ret
    exact ⟨rfl, rfl⟩
  · rcases h with h | ⟨h1, h2⟩ | h
    · rw [e]
      clear e
      have q0 : (op == 0) = false := by simp; omega
      have q1 : (op == 33) = false := by simp; omega
      have q2 : (op == 15) = false := by simp; omega
      have q3 : decide (1 ≤ op) = false := by simp; omega
      have q4 : decide (16 ≤ op) = false := by simp; omega
      go_enter Try.func68, Try.ntmps68
      go_wp2
      go_ret
      exact ⟨rfl, rfl⟩
    · rw [e]
      clear e
      have q0 : (op == 0) = false := by simp; omega
      have q1 : (op == 33) = false := by simp; omega
      have q2 : (op == 15) = false := by simp; omega
      have q3 : decide (1 ≤ op) = true := by simp; omega
      have q4 : decide (op ≤ 14) = false := by simp; omega
      have q5 : decide (16 ≤ op) = true := by simp; omega
      have q6 : decide (op ≤ 18) = false := by simp; omega
      go_enter Try.func68, Try.ntmps68
      go_wp2
      go_ret
      exact ⟨rfl, rfl⟩
    · rw [e]
      clear e
      have q0 : (op == 0) = false := by simp; omega
      have q1 : (op == 33) = false := by simp; omega
      have q2 : (op == 15) = false := by simp; omega
      have q3 : decide (1 ≤ op) = true := by simp; omega
      have q4 : decide (op ≤ 14) = false := by simp; omega
      have q5 : decide (16 ≤ op) = true := by simp; omega
      have q6 : decide (op ≤ 18) = false := by simp; omega
      go_enter Try.func68, Try.ntmps68
      go_wp2
      go_ret
      exact ⟨rfl, rfl⟩

theorem arity_yes (op : Int) (w : World) (h : (arV op != -1) = true) : Calls Try.prog 65 #[.int .i64 op] w fun e w' => e = .returned (.tuple #[.int .i64 (arV op), .bool true]) ∧ w = w' := by
  have h2 : arV op ≠ -1 := by simpa using h
  have := arity_any op w
  rw [if_neg h2, h] at this
  exact this
theorem arity_no (op : Int) (w : World) (h : (arV op != -1) = false) : Calls Try.prog 65 #[.int .i64 op] w fun e w' => e = .returned (.tuple #[.int .i64 0, .bool false]) ∧ w = w' := by
  have h2 : arV op = -1 := by simpa using h
  have := arity_any op w
  rw [if_pos h2, h] at this
  exact this

theorem isImm_any (x : Nd) (v : Value) (w : World) (hv : ∃ a n c, v = .slice a n c) (i1 : 0 ≤ x.imm) (i2 : x.imm ≤ 4294967295) : Calls Try.prog 73 #[.agg #[.int .i64 x.op, .int .i64 x.width, .int .i64 x.flags, v, .int .u32 x.imm]] w fun e w' => e = .returned (.bool (immOk x)) ∧ Below w.heap.size w w' := by
  obtain ⟨a, n, c, rfl⟩ := hv
  obtain ⟨op, width, flags, args, imm⟩ := x
  simp only at i1 i2 ⊢
  by_cases o0 : op = 0
  · subst o0
    cases hw : isW width
    · have e : immOk ⟨0, width, flags, args, imm⟩ = false := by simp [immOk, hw]
      have m1 : mkE width = 1 := by simp [mkE, hw]
      rw [e]
      clear e
      go_enter Try.func73, Try.ntmps73
      go_wp2_with (first | (go_at_call 49; refine (pMask _ _).mono ?_; rintro e w' ⟨rfl, rfl⟩))
      go_ret
      exact ⟨rfl, by repeat (first | with_reducible exact Below.refl _ _ | with_reducible refine Below.drew ?_ | with_reducible refine below_drewN ?_ _ | with_reducible refine Below.alloc ?_ (by simp; try omega) _)⟩
    · have m1 : mkE width = 0 := by simp [mkE, hw]
      have m2 : mkX width = pw width - 1 := by simp [mkX, hw]
      have e : immOk ⟨0, width, flags, args, imm⟩ = decide (imm ≤ pw width - 1) := by
        simp [immOk, hw, fit]; omega
      rw [e]
      clear e
      go_enter Try.func73, Try.ntmps73
      go_wp2_with (first | (go_at_call 49; refine (pMask _ _).mono ?_; rintro e w' ⟨rfl, rfl⟩))
      go_ret
      exact ⟨rfl, by repeat (first | with_reducible exact Below.refl _ _ | with_reducible refine Below.drew ?_ | with_reducible refine below_drewN ?_ _ | with_reducible refine Below.alloc ?_ (by simp; try omega) _)⟩
  · by_cases o1 : op = 33
    · subst o1
      have e : immOk ⟨33, width, flags, args, imm⟩ = decide (imm < 4) := rfl
      rw [e]
      clear e o0
      go_enter Try.func73, Try.ntmps73
      go_wp2_with (first | (go_at_call 49; refine (pMask _ _).mono ?_; rintro e w' ⟨rfl, rfl⟩))
      go_ret
      exact ⟨rfl, by repeat (first | with_reducible exact Below.refl _ _ | with_reducible refine Below.drew ?_ | with_reducible refine below_drewN ?_ _ | with_reducible refine Below.alloc ?_ (by simp; try omega) _)⟩
    · by_cases o2 : op = 14
      · subst o2
        have e : immOk ⟨14, width, flags, args, imm⟩ = decide (imm ≤ 9) := rfl
        rw [e]
        clear e o0 o1
        go_enter Try.func73, Try.ntmps73
        go_wp2_with (first | (go_at_call 49; refine (pMask _ _).mono ?_; rintro e w' ⟨rfl, rfl⟩))
        go_ret
        exact ⟨rfl, by repeat (first | with_reducible exact Below.refl _ _ | with_reducible refine Below.drew ?_ | with_reducible refine below_drewN ?_ _ | with_reducible refine Below.alloc ?_ (by simp; try omega) _)⟩
      · have e : immOk ⟨op, width, flags, args, imm⟩ = (imm == 0) := by simp [immOk, o0, o1, o2]
        have c0 : (op == 0) = false := by simpa using o0
        have c1 : (op == 33) = false := by simpa using o1
        have c2 : (op == 14) = false := by simpa using o2
        rw [e]
        clear e o0 o1 o2
        go_enter Try.func73, Try.ntmps73
        go_wp2_with (first | (go_at_call 49; refine (pMask _ _).mono ?_; rintro e w' ⟨rfl, rfl⟩))
        go_ret
        exact ⟨rfl, by repeat (first | with_reducible exact Below.refl _ _ | with_reducible refine Below.drew ?_ | with_reducible refine below_drewN ?_ _ | with_reducible refine Below.alloc ?_ (by simp; try omega) _)⟩

end Go.Proofs.Ythopdfikikdcbaa
