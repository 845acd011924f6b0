/- Walks of package bits: what the functions in the table of operations make. -/
import Derived.Test.YtpgbepgbgpjmcaaDoorBd
import Derived.Test.YtpgbepgbgpjmcaaDoorMem
namespace Go.Proofs.YtpgbepgbgpjmcaaDoor
open Go.RowKit Wd
set_option linter.unusedVariables false
set_option linter.unusedSimpArgs false

theorem fn2 (a b : Int) (w : World) : Calls Tryd.prog 35 #[.int .u32 a, .int .u32 b] w fun e w' => e = .returned (.int .u32 ((a + b) % 4294967296)) ∧ w = w' := by
  go_enter Tryd.func35, Tryd.ntmps35
  go_wp2
  go_ret
  exact ⟨rfl, rfl⟩
theorem fn4 (a b : Int) (w : World) : Calls Tryd.prog 37 #[.int .u32 a, .int .u32 b] w fun e w' => e = .returned (.int .u32 ((a - b) % 4294967296)) ∧ w = w' := by
  go_enter Tryd.func37, Tryd.ntmps37
  go_wp2
  go_ret
  exact ⟨rfl, rfl⟩
theorem fn6 (a b : Int) (w : World) : Calls Tryd.prog 40 #[.int .u32 a, .int .u32 b] w fun e w' => e = .returned (.int .u32 (a * b % 4294967296)) ∧ w = w' := by
  go_enter Tryd.func40, Tryd.ntmps40
  go_wp2
  go_ret
  exact ⟨rfl, rfl⟩
theorem fn13 (a b : Int) (w : World) (h3 : 0 ≤ a) (h4 : a ≤ 4294967295) (h5 : 0 ≤ b) (h6 : b ≤ 4294967295) : Calls Tryd.prog 49 #[.int .u32 a, .int .u32 b] w fun e w' => e = .returned (.int .u32 (((a.toNat &&& b.toNat : Nat) : Int))) ∧ w = w' := by
  go_enter Tryd.func49, Tryd.ntmps49
  go_wp2
  go_ret
  exact ⟨ret_i (u32_and a b h3 (by omega) h5 (by omega)), rfl⟩
theorem fn14 (a b : Int) (w : World) (h3 : 0 ≤ a) (h4 : a ≤ 4294967295) (h5 : 0 ≤ b) (h6 : b ≤ 4294967295) : Calls Tryd.prog 50 #[.int .u32 a, .int .u32 b] w fun e w' => e = .returned (.int .u32 (((a.toNat ||| b.toNat : Nat) : Int))) ∧ w = w' := by
  go_enter Tryd.func50, Tryd.ntmps50
  go_wp2
  go_ret
  exact ⟨ret_i (u32_or a b h3 (by omega) h5 (by omega)), rfl⟩
theorem fn15 (a b : Int) (w : World) (h3 : 0 ≤ a) (h4 : a ≤ 4294967295) (h5 : 0 ≤ b) (h6 : b ≤ 4294967295) : Calls Tryd.prog 51 #[.int .u32 a, .int .u32 b] w fun e w' => e = .returned (.int .u32 (((a.toNat ^^^ b.toNat : Nat) : Int))) ∧ w = w' := by
  go_enter Tryd.func51, Tryd.ntmps51
  go_wp2
  go_ret
  exact ⟨ret_i (u32_xor a b h3 (by omega) h5 (by omega)), rfl⟩
theorem quotient_none (n a b : Int) (w : World) (h1 : 1 ≤ n) (h2 : n ≤ 32) (h3 : 0 ≤ a) (h4 : a < pw n) (h5 : 0 ≤ b) (h6 : b < pw n) (h : has 6 n a b = false) : Calls Tryd.prog 45 #[.int .i64 n, .int .u32 a, .int .u32 b] w fun e w' => e = .returned (.tuple #[.int .i64 0, .int .i64 0, .bool false]) ∧ Dr w w' := by
  obtain ⟨m, rfl⟩ := Int.eq_ofNat_of_zero_le (show 0 ≤ n by omega)
  have hp := @pw_le32 (m : Int) (by omega)
  have hp0 := pw_pos (m : Int)
  have x1 := sgn_lo32 (n := m) (a := a) (by omega) (by omega) h3
  have x2 := sgn_hi32 (n := m) (a := a) (by omega) (by omega) h4
  have y1 := sgn_lo32 (n := m) (a := b) (by omega) (by omega) h5
  have y2 := sgn_hi32 (n := m) (a := b) (by omega) (by omega) h6
  have hp3 := @pw_le31 ((m : Int) - 1) (by omega)
  have hp4 := pw_pos ((m : Int) - 1)
  have hz := sgn_zero (n := m) (b := b) (by omega) h6
  have hpw : wrap64 ((2 : Int) ^ (m - 1)) = pw ((m : Int) - 1) := by
    have e : ((m : Int) - 1).toNat = m - 1 := by omega
    rw [← e]; exact IntWalk.wrap64_in (pw ((m : Int) - 1)) (by omega)
  by_cases hb : b = 0
  · have hb0 : (sgn m b == 0) = true := by simpa using hz.2 hb
    clear hz h hb
    go_enter Tryd.func45, Tryd.ntmps45
    go_wp2_with (first | (go_at_call 29; refine (signed_any _ _ _ (by omega) (by omega) (by omega) (by omega)).mono ?_; rintro e w' ⟨rfl, rfl⟩))
    go_ret3
    exact ⟨rfl, Dr.refl _⟩
  · have hxy : sgn m a = -pw (m - 1) ∧ sgn m b = -1 := by simpa [has, hb] using h
    have hx : (sgn m a == -pw (m - 1)) = true := by simpa using hxy.1
    have hy : (sgn m b == -1) = true := by simpa using hxy.2
    have hb0 : (sgn m b == 0) = false := by simp [hxy.2]
    clear hz h hxy hb
    go_enter Tryd.func45, Tryd.ntmps45
    go_wp2_with (first | (go_at_call 29; refine (signed_any _ _ _ (by omega) (by omega) (by omega) (by omega)).mono ?_; rintro e w' ⟨rfl, rfl⟩))
    go_ret3
    exact ⟨rfl, Dr.refl _⟩

set_option maxHeartbeats 1000000 in
theorem quotient_some (n a b : Int) (w : World) (h1 : 1 ≤ n) (h2 : n ≤ 32) (h3 : 0 ≤ a) (h4 : a < pw n) (h5 : 0 ≤ b) (h6 : b < pw n) (h : has 6 n a b = true) : Calls Tryd.prog 45 #[.int .i64 n, .int .u32 a, .int .u32 b] w fun e w' => e = .returned (.tuple #[.int .i64 ((sgn n a).tdiv (sgn n b)), .int .i64 ((sgn n a).tmod (sgn n b)), .bool true]) ∧ Dr w w' := by
  obtain ⟨m, rfl⟩ := Int.eq_ofNat_of_zero_le (show 0 ≤ n by omega)
  have hp := @pw_le32 (m : Int) (by omega)
  have hp0 := pw_pos (m : Int)
  have x1 := sgn_lo32 (n := m) (a := a) (by omega) (by omega) h3
  have x2 := sgn_hi32 (n := m) (a := a) (by omega) (by omega) h4
  have y1 := sgn_lo32 (n := m) (a := b) (by omega) (by omega) h5
  have y2 := sgn_hi32 (n := m) (a := b) (by omega) (by omega) h6
  have hp3 := @pw_le31 ((m : Int) - 1) (by omega)
  have hp4 := pw_pos ((m : Int) - 1)
  have hz := sgn_zero (n := m) (b := b) (by omega) h6
  have hpw : wrap64 ((2 : Int) ^ (m - 1)) = pw ((m : Int) - 1) := by
    have e : ((m : Int) - 1).toNat = m - 1 := by omega
    rw [← e]; exact IntWalk.wrap64_in (pw ((m : Int) - 1)) (by omega)
  have hb : b ≠ 0 := by
    intro hb; simp [has, hb] at h
  have hxy : ¬ (sgn m a = -pw (m - 1) ∧ sgn m b = -1) := by
    intro hb; simp [has, hb] at h
  have hy0 : ¬ sgn m b = 0 := by omega
  have hb0 : (sgn m b == 0) = false := by simpa using hy0
  clear hz h hb
  have q := @tdiv_bd (sgn m a) (sgn m b) x1 (by omega)
  obtain ⟨q1, q2⟩ := q
  have e0 : wrap64 ((sgn m a).tdiv (sgn m b)) = (sgn m a).tdiv (sgn m b) := IntWalk.wrap64_in _ (by omega)
  by_cases hy : sgn m b = -1
  · have hx : (sgn m a == -pw (m - 1)) = false := by
      have : ¬ sgn m a = -pw (m - 1) := fun e => hxy ⟨e, hy⟩
      simpa using this
    have hy1 : (sgn m b == -1) = true := by simpa using hy
    clear hy hxy
    go_enter Tryd.func45, Tryd.ntmps45
    go_wp2_with (first | (go_at_call 29; refine (signed_any _ _ _ (by omega) (by omega) (by omega) (by omega)).mono ?_; rintro e w' ⟨rfl, rfl⟩))
    go_quiet (fail)
    go_wp2
    go_ret3
    exact ⟨rfl, (Dr.refl _).drew _⟩
  · have hy1 : (sgn m b == -1) = false := by simpa using hy
    clear hy hxy
    go_enter Tryd.func45, Tryd.ntmps45
    go_wp2_with (first | (go_at_call 29; refine (signed_any _ _ _ (by omega) (by omega) (by omega) (by omega)).mono ?_; rintro e w' ⟨rfl, rfl⟩))
    go_quiet (fail)
    go_wp2
    go_ret3
    exact ⟨rfl, (Dr.refl _).drew _⟩

set_option maxHeartbeats 1000000 in
theorem pdo_1 (n a b : Int) (w : World) (h1 : 1 ≤ n) (h2 : n ≤ 32) (h3 : 0 ≤ a) (h4 : a < pw n) (h5 : 0 ≤ b) (h6 : b < pw n) (h : Nat) (hc : w.cell? ⟨h, 0, none⟩ = some (.func (.func 35) #[] #[])) : Calls Tryd.prog 59 #[.int .i64 n, .int .u32 a, .int .u32 b, .pointer (some ⟨h, 0, none⟩)] w fun e w' => e = .returned (.tuple #[.int .u32 (tot 1 n a b), .bool (has 1 n a b)]) ∧ Dr w w' := by
  obtain ⟨m, rfl⟩ := Int.eq_ofNat_of_zero_le (show 0 ≤ n by omega)
  have hp := @pw_le32 (m : Int) (by omega)
  have hp0 := pw_pos (m : Int)
  have hm := mask_wr (n := m) (by omega) (a + b)
  have hv : tot 1 m a b = wr m (a + b) := by simp [tot, has]
  have hh : has 1 m a b = true := by simp [tot, has]
  rw [hv, hh]
  clear hv hh
  go_enter Tryd.func59, Tryd.ntmps59
  go_wp2_with (first | (go_at_call 30; refine (mask_any _ _ (by assumption) (by assumption)).mono ?_; rintro e w' ⟨rfl, rfl⟩) | (go_at_call 35; refine (fn2 _ _ _).mono ?_; rintro e w' ⟨rfl, rfl⟩))
  go_ret2
  exact ⟨rfl, Dr.refl _⟩

set_option maxHeartbeats 1000000 in
theorem pdo_2 (n a b : Int) (w : World) (h1 : 1 ≤ n) (h2 : n ≤ 32) (h3 : 0 ≤ a) (h4 : a < pw n) (h5 : 0 ≤ b) (h6 : b < pw n) (h : Nat) (hc : w.cell? ⟨h, 0, none⟩ = some (.func (.func 37) #[] #[])) : Calls Tryd.prog 59 #[.int .i64 n, .int .u32 a, .int .u32 b, .pointer (some ⟨h, 0, none⟩)] w fun e w' => e = .returned (.tuple #[.int .u32 (tot 2 n a b), .bool (has 2 n a b)]) ∧ Dr w w' := by
  obtain ⟨m, rfl⟩ := Int.eq_ofNat_of_zero_le (show 0 ≤ n by omega)
  have hp := @pw_le32 (m : Int) (by omega)
  have hp0 := pw_pos (m : Int)
  have hm := mask_wr (n := m) (by omega) (a - b)
  have hv : tot 2 m a b = wr m (a - b) := by simp [tot, has]
  have hh : has 2 m a b = true := by simp [tot, has]
  rw [hv, hh]
  clear hv hh
  go_enter Tryd.func59, Tryd.ntmps59
  go_wp2_with (first | (go_at_call 30; refine (mask_any _ _ (by assumption) (by assumption)).mono ?_; rintro e w' ⟨rfl, rfl⟩) | (go_at_call 37; refine (fn4 _ _ _).mono ?_; rintro e w' ⟨rfl, rfl⟩))
  go_ret2
  exact ⟨rfl, Dr.refl _⟩

set_option maxHeartbeats 1000000 in
theorem pdo_3 (n a b : Int) (w : World) (h1 : 1 ≤ n) (h2 : n ≤ 32) (h3 : 0 ≤ a) (h4 : a < pw n) (h5 : 0 ≤ b) (h6 : b < pw n) (h : Nat) (hc : w.cell? ⟨h, 0, none⟩ = some (.func (.func 40) #[] #[])) : Calls Tryd.prog 59 #[.int .i64 n, .int .u32 a, .int .u32 b, .pointer (some ⟨h, 0, none⟩)] w fun e w' => e = .returned (.tuple #[.int .u32 (tot 3 n a b), .bool (has 3 n a b)]) ∧ Dr w w' := by
  obtain ⟨m, rfl⟩ := Int.eq_ofNat_of_zero_le (show 0 ≤ n by omega)
  have hp := @pw_le32 (m : Int) (by omega)
  have hp0 := pw_pos (m : Int)
  have hm := mask_wr (n := m) (by omega) (a * b)
  have hv : tot 3 m a b = wr m (a * b) := by simp [tot, has]
  have hh : has 3 m a b = true := by simp [tot, has]
  rw [hv, hh]
  clear hv hh
  go_enter Tryd.func59, Tryd.ntmps59
  go_wp2_with (first | (go_at_call 30; refine (mask_any _ _ (by assumption) (by assumption)).mono ?_; rintro e w' ⟨rfl, rfl⟩) | (go_at_call 40; refine (fn6 _ _ _).mono ?_; rintro e w' ⟨rfl, rfl⟩))
  go_ret2
  exact ⟨rfl, Dr.refl _⟩

set_option maxHeartbeats 1000000 in
theorem pdo_8 (n a b : Int) (w : World) (h1 : 1 ≤ n) (h2 : n ≤ 32) (h3 : 0 ≤ a) (h4 : a < pw n) (h5 : 0 ≤ b) (h6 : b < pw n) (h : Nat) (hc : w.cell? ⟨h, 0, none⟩ = some (.func (.func 49) #[] #[])) : Calls Tryd.prog 60 #[.int .i64 n, .int .u32 a, .int .u32 b, .pointer (some ⟨h, 0, none⟩)] w fun e w' => e = .returned (.tuple #[.int .u32 (tot 8 n a b), .bool (has 8 n a b)]) ∧ Dr w w' := by
  obtain ⟨m, rfl⟩ := Int.eq_ofNat_of_zero_le (show 0 ≤ n by omega)
  have hp := @pw_le32 (m : Int) (by omega)
  have hp0 := pw_pos (m : Int)
  have hv : tot 8 m a b = ((a.toNat &&& b.toNat : Nat) : Int) := by simp [tot, has]
  have hh : has 8 m a b = true := by simp [tot, has]
  rw [hv, hh]
  clear hv hh
  go_enter Tryd.func60, Tryd.ntmps60
  go_wp2_with (first | (go_at_call 30; refine (mask_any _ _ (by assumption) (by assumption)).mono ?_; rintro e w' ⟨rfl, rfl⟩) | (go_at_call 49; refine (fn13 _ _ _ (by omega) (by omega) (by omega) (by omega)).mono ?_; rintro e w' ⟨rfl, rfl⟩))
  go_ret2
  exact ⟨rfl, Dr.refl _⟩

set_option maxHeartbeats 1000000 in
theorem pdo_9 (n a b : Int) (w : World) (h1 : 1 ≤ n) (h2 : n ≤ 32) (h3 : 0 ≤ a) (h4 : a < pw n) (h5 : 0 ≤ b) (h6 : b < pw n) (h : Nat) (hc : w.cell? ⟨h, 0, none⟩ = some (.func (.func 50) #[] #[])) : Calls Tryd.prog 60 #[.int .i64 n, .int .u32 a, .int .u32 b, .pointer (some ⟨h, 0, none⟩)] w fun e w' => e = .returned (.tuple #[.int .u32 (tot 9 n a b), .bool (has 9 n a b)]) ∧ Dr w w' := by
  obtain ⟨m, rfl⟩ := Int.eq_ofNat_of_zero_le (show 0 ≤ n by omega)
  have hp := @pw_le32 (m : Int) (by omega)
  have hp0 := pw_pos (m : Int)
  have hv : tot 9 m a b = ((a.toNat ||| b.toNat : Nat) : Int) := by simp [tot, has]
  have hh : has 9 m a b = true := by simp [tot, has]
  rw [hv, hh]
  clear hv hh
  go_enter Tryd.func60, Tryd.ntmps60
  go_wp2_with (first | (go_at_call 30; refine (mask_any _ _ (by assumption) (by assumption)).mono ?_; rintro e w' ⟨rfl, rfl⟩) | (go_at_call 50; refine (fn14 _ _ _ (by omega) (by omega) (by omega) (by omega)).mono ?_; rintro e w' ⟨rfl, rfl⟩))
  go_ret2
  exact ⟨rfl, Dr.refl _⟩

set_option maxHeartbeats 1000000 in
theorem pdo_10 (n a b : Int) (w : World) (h1 : 1 ≤ n) (h2 : n ≤ 32) (h3 : 0 ≤ a) (h4 : a < pw n) (h5 : 0 ≤ b) (h6 : b < pw n) (h : Nat) (hc : w.cell? ⟨h, 0, none⟩ = some (.func (.func 51) #[] #[])) : Calls Tryd.prog 60 #[.int .i64 n, .int .u32 a, .int .u32 b, .pointer (some ⟨h, 0, none⟩)] w fun e w' => e = .returned (.tuple #[.int .u32 (tot 10 n a b), .bool (has 10 n a b)]) ∧ Dr w w' := by
  obtain ⟨m, rfl⟩ := Int.eq_ofNat_of_zero_le (show 0 ≤ n by omega)
  have hp := @pw_le32 (m : Int) (by omega)
  have hp0 := pw_pos (m : Int)
  have hv : tot 10 m a b = ((a.toNat ^^^ b.toNat : Nat) : Int) := by simp [tot, has]
  have hh : has 10 m a b = true := by simp [tot, has]
  rw [hv, hh]
  clear hv hh
  go_enter Tryd.func60, Tryd.ntmps60
  go_wp2_with (first | (go_at_call 30; refine (mask_any _ _ (by assumption) (by assumption)).mono ?_; rintro e w' ⟨rfl, rfl⟩) | (go_at_call 51; refine (fn15 _ _ _ (by omega) (by omega) (by omega) (by omega)).mono ?_; rintro e w' ⟨rfl, rfl⟩))
  go_ret2
  exact ⟨rfl, Dr.refl _⟩

set_option maxHeartbeats 1000000 in
theorem pdo_4 (n a b : Int) (w : World) (h1 : 1 ≤ n) (h2 : n ≤ 32) (h3 : 0 ≤ a) (h4 : a < pw n) (h5 : 0 ≤ b) (h6 : b < pw n) : Calls Tryd.prog 41 #[.int .i64 n, .int .u32 a, .int .u32 b] w fun e w' => e = .returned (.tuple #[.int .u32 (tot 4 n a b), .bool (has 4 n a b)]) ∧ Dr w w' := by
  obtain ⟨m, rfl⟩ := Int.eq_ofNat_of_zero_le (show 0 ≤ n by omega)
  have hp := @pw_le32 (m : Int) (by omega)
  have hp0 := pw_pos (m : Int)
  by_cases hb : b = 0
  · have hb1 : (b == 0) = true := by simpa using hb
    have hv : tot 4 m a b = pw m - 1 := by simp [tot, has, hb]
    have hh : has 4 m a b = false := by simp [tot, has, hb]
    rw [hv, hh]
    clear hv hh
    clear hb
    go_enter Tryd.func41, Tryd.ntmps41
    go_wp2_with (first | (go_at_call 30; refine (mask_any _ _ (by assumption) (by assumption)).mono ?_; rintro e w' ⟨rfl, rfl⟩))
    go_ret2
    exact ⟨rfl, Dr.refl _⟩
  · have hb1 : (b == 0) = false := by simpa using hb
    have hb2 : 1 ≤ b := by omega
    have hv : tot 4 m a b = a / b := by simp [tot, has, hb]
    have hh : has 4 m a b = true := by simp [tot, has, hb]
    rw [hv, hh]
    clear hv hh
    clear hb
    go_enter Tryd.func41, Tryd.ntmps41
    go_wp2_with (first | (go_at_call 30; refine (mask_any _ _ (by assumption) (by assumption)).mono ?_; rintro e w' ⟨rfl, rfl⟩))
    go_ret2
    exact ⟨rfl, Dr.refl _⟩

set_option maxHeartbeats 1000000 in
theorem pdo_5 (n a b : Int) (w : World) (h1 : 1 ≤ n) (h2 : n ≤ 32) (h3 : 0 ≤ a) (h4 : a < pw n) (h5 : 0 ≤ b) (h6 : b < pw n) : Calls Tryd.prog 43 #[.int .i64 n, .int .u32 a, .int .u32 b] w fun e w' => e = .returned (.tuple #[.int .u32 (tot 5 n a b), .bool (has 5 n a b)]) ∧ Dr w w' := by
  obtain ⟨m, rfl⟩ := Int.eq_ofNat_of_zero_le (show 0 ≤ n by omega)
  have hp := @pw_le32 (m : Int) (by omega)
  have hp0 := pw_pos (m : Int)
  by_cases hb : b = 0
  · have hb1 : (b == 0) = true := by simpa using hb
    have hv : tot 5 m a b = a := by simp [tot, has, hb]
    have hh : has 5 m a b = false := by simp [tot, has, hb]
    rw [hv, hh]
    clear hv hh
    clear hb
    go_enter Tryd.func43, Tryd.ntmps43
    go_wp2_with (first | (go_at_call 30; refine (mask_any _ _ (by assumption) (by assumption)).mono ?_; rintro e w' ⟨rfl, rfl⟩))
    go_ret2
    exact ⟨rfl, Dr.refl _⟩
  · have hb1 : (b == 0) = false := by simpa using hb
    have hb2 : 1 ≤ b := by omega
    have hv : tot 5 m a b = a % b := by simp [tot, has, hb]
    have hh : has 5 m a b = true := by simp [tot, has, hb]
    rw [hv, hh]
    clear hv hh
    clear hb
    go_enter Tryd.func43, Tryd.ntmps43
    go_wp2_with (first | (go_at_call 30; refine (mask_any _ _ (by assumption) (by assumption)).mono ?_; rintro e w' ⟨rfl, rfl⟩))
    go_ret2
    exact ⟨rfl, Dr.refl _⟩

set_option maxHeartbeats 1000000 in
theorem pdo_6 (n a b : Int) (w : World) (h1 : 1 ≤ n) (h2 : n ≤ 32) (h3 : 0 ≤ a) (h4 : a < pw n) (h5 : 0 ≤ b) (h6 : b < pw n) : Calls Tryd.prog 44 #[.int .i64 n, .int .u32 a, .int .u32 b] w fun e w' => e = .returned (.tuple #[.int .u32 (tot 6 n a b), .bool (has 6 n a b)]) ∧ Dr w w' := by
  obtain ⟨m, rfl⟩ := Int.eq_ofNat_of_zero_le (show 0 ≤ n by omega)
  have hp := @pw_le32 (m : Int) (by omega)
  have hp0 := pw_pos (m : Int)
  have x1 := sgn_lo32 (n := m) (a := a) (by omega) (by omega) h3
  have x2 := sgn_hi32 (n := m) (a := a) (by omega) (by omega) h4
  have y1 := sgn_lo32 (n := m) (a := b) (by omega) (by omega) h5
  have y2 := sgn_hi32 (n := m) (a := b) (by omega) (by omega) h6
  have hp3 := @pw_le31 ((m : Int) - 1) (by omega)
  have hp4 := pw_pos ((m : Int) - 1)
  have hpw : wrap64 ((2 : Int) ^ (m - 1)) = pw ((m : Int) - 1) := by
    have e : ((m : Int) - 1).toNat = m - 1 := by omega
    rw [← e]; exact IntWalk.wrap64_in (pw ((m : Int) - 1)) (by omega)
  by_cases hh : has 6 m a b = true
  · have hq : has 6 m a b = true := by simpa [has] using hh
    have hv : tot 6 m a b = wr m ((sgn m a).tdiv (sgn m b)) := by
      have hb : b ≠ 0 := by
        intro hb; simp [has, hb] at hh
      have hxy : ¬ (sgn m a = -pw (m - 1) ∧ sgn m b = -1) := by
        intro hb; simp [has, hb] at hh
      simp [tot, hb, hxy]
    rw [hv, hh]
    clear hv hh
    have hm := mask_wr (n := m) (by omega) ((sgn m a).tdiv (sgn m b))
    go_enter Tryd.func44, Tryd.ntmps44
    go_wp2_with (first | (go_at_call 30; refine (mask_any _ _ (by assumption) (by assumption)).mono ?_; rintro e w' ⟨rfl, rfl⟩) | (go_at_call 45; refine (quotient_some _ _ _ _ (by omega) (by omega) (by omega) (by omega) (by omega) (by omega) (by assumption)).mono ?_; rintro e w' ⟨rfl, hd1⟩))
    go_ret2
    exact ⟨rfl, hd1⟩
  · have hh : has 6 m a b = false := by simpa using hh
    have hq : has 6 m a b = false := by simpa [has] using hh
    rw [hh]
    clear hh
    by_cases hb : b = 0
    · have hb1 : (b != 0) = false := by simpa using hb
      rcases Int.lt_or_le (sgn m a) 0 with hs | hs
      · have hv : tot 6 m a b = 1 := by simp [tot, hb, hs]
        rw [hv]
        clear hv hb
        go_enter Tryd.func44, Tryd.ntmps44
        go_wp2_with (first | (go_at_call 30; refine (mask_any _ _ (by assumption) (by assumption)).mono ?_; rintro e w' ⟨rfl, rfl⟩) | (go_at_call 45; refine (quotient_none _ _ _ _ (by omega) (by omega) (by omega) (by omega) (by omega) (by omega) (by assumption)).mono ?_; rintro e w' ⟨rfl, hd1⟩) | (go_at_call 29; refine (signed_any _ _ _ (by omega) (by omega) (by omega) (by omega)).mono ?_; rintro e w' ⟨rfl, rfl⟩))
        go_ret2
        exact ⟨rfl, hd1⟩
      · have hv : tot 6 m a b = pw m - 1 := by simp [tot, hb]; intro; omega
        rw [hv]
        clear hv hb
        go_enter Tryd.func44, Tryd.ntmps44
        go_wp2_with (first | (go_at_call 30; refine (mask_any _ _ (by assumption) (by assumption)).mono ?_; rintro e w' ⟨rfl, rfl⟩) | (go_at_call 45; refine (quotient_none _ _ _ _ (by omega) (by omega) (by omega) (by omega) (by omega) (by omega) (by assumption)).mono ?_; rintro e w' ⟨rfl, hd1⟩) | (go_at_call 29; refine (signed_any _ _ _ (by omega) (by omega) (by omega) (by omega)).mono ?_; rintro e w' ⟨rfl, rfl⟩))
        go_ret2
        exact ⟨rfl, hd1⟩
    · have hb1 : (b != 0) = true := by simpa using hb
      have hv : tot 6 m a b = a := by
        have hx : sgn m a = -pw (m - 1) ∧ sgn m b = -1 := by simpa [has, hb] using hq
        simp [tot, hb, hx]
      rw [hv]
      clear hv hb
      go_enter Tryd.func44, Tryd.ntmps44
      go_wp2_with (first | (go_at_call 30; refine (mask_any _ _ (by assumption) (by assumption)).mono ?_; rintro e w' ⟨rfl, rfl⟩) | (go_at_call 45; refine (quotient_none _ _ _ _ (by omega) (by omega) (by omega) (by omega) (by omega) (by omega) (by assumption)).mono ?_; rintro e w' ⟨rfl, hd1⟩) | (go_at_call 29; refine (signed_any _ _ _ (by omega) (by omega) (by omega) (by omega)).mono ?_; rintro e w' ⟨rfl, rfl⟩))
      go_ret2
      exact ⟨rfl, hd1⟩

set_option maxHeartbeats 1000000 in
theorem pdo_7 (n a b : Int) (w : World) (h1 : 1 ≤ n) (h2 : n ≤ 32) (h3 : 0 ≤ a) (h4 : a < pw n) (h5 : 0 ≤ b) (h6 : b < pw n) : Calls Tryd.prog 47 #[.int .i64 n, .int .u32 a, .int .u32 b] w fun e w' => e = .returned (.tuple #[.int .u32 (tot 7 n a b), .bool (has 7 n a b)]) ∧ Dr w w' := by
  obtain ⟨m, rfl⟩ := Int.eq_ofNat_of_zero_le (show 0 ≤ n by omega)
  have hp := @pw_le32 (m : Int) (by omega)
  have hp0 := pw_pos (m : Int)
  have x1 := sgn_lo32 (n := m) (a := a) (by omega) (by omega) h3
  have x2 := sgn_hi32 (n := m) (a := a) (by omega) (by omega) h4
  have y1 := sgn_lo32 (n := m) (a := b) (by omega) (by omega) h5
  have y2 := sgn_hi32 (n := m) (a := b) (by omega) (by omega) h6
  have hp3 := @pw_le31 ((m : Int) - 1) (by omega)
  have hp4 := pw_pos ((m : Int) - 1)
  have hpw : wrap64 ((2 : Int) ^ (m - 1)) = pw ((m : Int) - 1) := by
    have e : ((m : Int) - 1).toNat = m - 1 := by omega
    rw [← e]; exact IntWalk.wrap64_in (pw ((m : Int) - 1)) (by omega)
  by_cases hh : has 7 m a b = true
  · have hq : has 6 m a b = true := by simpa [has] using hh
    have hv : tot 7 m a b = wr m ((sgn m a).tmod (sgn m b)) := by
      have hb : b ≠ 0 := by
        intro hb; simp [has, hb] at hh
      have hxy : ¬ (sgn m a = -pw (m - 1) ∧ sgn m b = -1) := by
        intro hb; simp [has, hb] at hh
      simp [tot, hb, hxy]
    rw [hv, hh]
    clear hv hh
    have hm := mask_wr (n := m) (by omega) ((sgn m a).tmod (sgn m b))
    go_enter Tryd.func47, Tryd.ntmps47
    go_wp2_with (first | (go_at_call 30; refine (mask_any _ _ (by assumption) (by assumption)).mono ?_; rintro e w' ⟨rfl, rfl⟩) | (go_at_call 45; refine (quotient_some _ _ _ _ (by omega) (by omega) (by omega) (by omega) (by omega) (by omega) (by assumption)).mono ?_; rintro e w' ⟨rfl, hd1⟩))
    go_ret2
    exact ⟨rfl, hd1⟩
  · have hh : has 7 m a b = false := by simpa using hh
    have hq : has 6 m a b = false := by simpa [has] using hh
    rw [hh]
    clear hh
    by_cases hb : b = 0
    · have hb1 : (b == 0) = true := by simpa using hb
      have hv : tot 7 m a b = a := by simp [tot, hb]
      rw [hv]
      clear hv hb
      go_enter Tryd.func47, Tryd.ntmps47
      go_wp2_with (first | (go_at_call 30; refine (mask_any _ _ (by assumption) (by assumption)).mono ?_; rintro e w' ⟨rfl, rfl⟩) | (go_at_call 45; refine (quotient_none _ _ _ _ (by omega) (by omega) (by omega) (by omega) (by omega) (by omega) (by assumption)).mono ?_; rintro e w' ⟨rfl, hd1⟩))
      go_ret2
      exact ⟨rfl, hd1⟩
    · have hb1 : (b == 0) = false := by simpa using hb
      have hv : tot 7 m a b = 0 := by
        have hx : sgn m a = -pw (m - 1) ∧ sgn m b = -1 := by simpa [has, hb] using hq
        simp [tot, hb, hx]
      have hm : bits .and .u32 0 (pw m - 1) = 0 := by rw [mask_fit (by omega) (by omega) (by omega)]; exact Int.zero_emod _
      rw [hv]
      clear hv hb
      go_enter Tryd.func47, Tryd.ntmps47
      go_wp2_with (first | (go_at_call 30; refine (mask_any _ _ (by assumption) (by assumption)).mono ?_; rintro e w' ⟨rfl, rfl⟩) | (go_at_call 45; refine (quotient_none _ _ _ _ (by omega) (by omega) (by omega) (by omega) (by omega) (by omega) (by assumption)).mono ?_; rintro e w' ⟨rfl, hd1⟩))
      go_ret2
      exact ⟨rfl, hd1⟩

theorem sign_any (n a : Int) (w : World) (h1 : 1 ≤ n) (h2 : n ≤ 32) (h3 : 0 ≤ a) (h4 : a < pw n) : Calls Tryd.prog 57 #[.int .i64 n, .int .u32 a] w fun e w' => e = .returned (.int .u32 (signV n a)) ∧ w = w' := by
  rcases Int.lt_or_le (sgn n a) 0 with hs | hs
  · have hv : signV n a = pw n - 1 := by simp [signV, hs]
    rw [hv]
    clear hv
    go_enter Tryd.func57, Tryd.ntmps57
    go_wp2_with (first | (go_at_call 30; refine (mask_any _ _ (by assumption) (by assumption)).mono ?_; rintro e w' ⟨rfl, rfl⟩) | (go_at_call 29; refine (signed_any _ _ _ (by omega) (by omega) (by omega) (by omega)).mono ?_; rintro e w' ⟨rfl, rfl⟩))
    go_ret
    exact ⟨rfl, rfl⟩
  · have hv : signV n a = 0 := by simp [signV]; omega
    rw [hv]
    clear hv
    go_enter Tryd.func57, Tryd.ntmps57
    go_wp2_with (first | (go_at_call 30; refine (mask_any _ _ (by assumption) (by assumption)).mono ?_; rintro e w' ⟨rfl, rfl⟩) | (go_at_call 29; refine (signed_any _ _ _ (by omega) (by omega) (by omega) (by omega)).mono ?_; rintro e w' ⟨rfl, rfl⟩))
    go_ret
    exact ⟨rfl, rfl⟩

set_option maxHeartbeats 1000000 in
theorem pdo_11 (n a b : Int) (w : World) (h1 : 1 ≤ n) (h2 : n ≤ 32) (h3 : 0 ≤ a) (h4 : a < pw n) (h5 : 0 ≤ b) (h6 : b < pw n) : Calls Tryd.prog 52 #[.int .i64 n, .int .u32 a, .int .u32 b] w fun e w' => e = .returned (.tuple #[.int .u32 (tot 11 n a b), .bool (has 11 n a b)]) ∧ Dr w w' := by
  obtain ⟨m, rfl⟩ := Int.eq_ofNat_of_zero_le (show 0 ≤ n by omega)
  have hp := @pw_le32 (m : Int) (by omega)
  have hp0 := pw_pos (m : Int)
  by_cases hb : (m : Int) ≤ b
  · have hv : tot 11 m a b = 0 := by simp [tot, has, hb]
    have hh : has 11 m a b = false := by simp [tot, has, hb]
    rw [hv, hh]
    clear hv hh
    go_enter Tryd.func52, Tryd.ntmps52
    go_wp2_with (first | (go_at_call 30; refine (mask_any _ _ (by assumption) (by assumption)).mono ?_; rintro e w' ⟨rfl, rfl⟩) | (go_at_call 57; refine (sign_any _ _ _ (by omega) (by omega) (by omega) (by omega)).mono ?_; rintro e w' ⟨rfl, rfl⟩))
    go_ret2
    exact ⟨rfl, Dr.refl _⟩
  · obtain ⟨k, rfl⟩ := Int.eq_ofNat_of_zero_le h5
    have hk : k < m := by omega
    have hd : decide (m ≤ k) = false := by simpa using hk
    have hv : tot 11 m a k = wr m (a * pw k) := by first | (simp [tot, has, hb]; done) | (simp [tot, has]; omega)
    have hh : has 11 m a k = true := by first | (simp [tot, has, hb]; done) | (simp [tot, has]; omega)
    rw [hv, hh]
    clear hv hh
    have hm := mask_wr (n := m) (by omega) (a * pw k)
    rw [pw_cast] at hm ⊢
    go_enter Tryd.func52, Tryd.ntmps52
    go_wp2_with (first | (go_at_call 30; refine (mask_any _ _ (by assumption) (by assumption)).mono ?_; rintro e w' ⟨rfl, rfl⟩) | (go_at_call 57; refine (sign_any _ _ _ (by omega) (by omega) (by omega) (by omega)).mono ?_; rintro e w' ⟨rfl, rfl⟩) | (go_at_call 29; refine (signed_any _ _ _ (by omega) (by omega) (by omega) (by omega)).mono ?_; rintro e w' ⟨rfl, rfl⟩))
    go_ret2
    exact ⟨rfl, Dr.refl _⟩

set_option maxHeartbeats 1000000 in
theorem pdo_12 (n a b : Int) (w : World) (h1 : 1 ≤ n) (h2 : n ≤ 32) (h3 : 0 ≤ a) (h4 : a < pw n) (h5 : 0 ≤ b) (h6 : b < pw n) : Calls Tryd.prog 54 #[.int .i64 n, .int .u32 a, .int .u32 b] w fun e w' => e = .returned (.tuple #[.int .u32 (tot 12 n a b), .bool (has 12 n a b)]) ∧ Dr w w' := by
  obtain ⟨m, rfl⟩ := Int.eq_ofNat_of_zero_le (show 0 ≤ n by omega)
  have hp := @pw_le32 (m : Int) (by omega)
  have hp0 := pw_pos (m : Int)
  by_cases hb : (m : Int) ≤ b
  · have hv : tot 12 m a b = 0 := by simp [tot, has, hb]
    have hh : has 12 m a b = false := by simp [tot, has, hb]
    rw [hv, hh]
    clear hv hh
    go_enter Tryd.func54, Tryd.ntmps54
    go_wp2_with (first | (go_at_call 30; refine (mask_any _ _ (by assumption) (by assumption)).mono ?_; rintro e w' ⟨rfl, rfl⟩) | (go_at_call 57; refine (sign_any _ _ _ (by omega) (by omega) (by omega) (by omega)).mono ?_; rintro e w' ⟨rfl, rfl⟩))
    go_ret2
    exact ⟨rfl, Dr.refl _⟩
  · obtain ⟨k, rfl⟩ := Int.eq_ofNat_of_zero_le h5
    have hk : k < m := by omega
    have hd : decide (m ≤ k) = false := by simpa using hk
    have hv : tot 12 m a k = a / pw k := by first | (simp [tot, has, hb]; done) | (simp [tot, has]; omega)
    have hh : has 12 m a k = true := by first | (simp [tot, has, hb]; done) | (simp [tot, has]; omega)
    rw [hv, hh]
    clear hv hh
    rw [pw_cast]
    go_enter Tryd.func54, Tryd.ntmps54
    go_wp2_with (first | (go_at_call 30; refine (mask_any _ _ (by assumption) (by assumption)).mono ?_; rintro e w' ⟨rfl, rfl⟩) | (go_at_call 57; refine (sign_any _ _ _ (by omega) (by omega) (by omega) (by omega)).mono ?_; rintro e w' ⟨rfl, rfl⟩) | (go_at_call 29; refine (signed_any _ _ _ (by omega) (by omega) (by omega) (by omega)).mono ?_; rintro e w' ⟨rfl, rfl⟩))
    go_ret2
    exact ⟨rfl, Dr.refl _⟩

set_option maxHeartbeats 1000000 in
theorem pdo_13 (n a b : Int) (w : World) (h1 : 1 ≤ n) (h2 : n ≤ 32) (h3 : 0 ≤ a) (h4 : a < pw n) (h5 : 0 ≤ b) (h6 : b < pw n) : Calls Tryd.prog 56 #[.int .i64 n, .int .u32 a, .int .u32 b] w fun e w' => e = .returned (.tuple #[.int .u32 (tot 13 n a b), .bool (has 13 n a b)]) ∧ Dr w w' := by
  obtain ⟨m, rfl⟩ := Int.eq_ofNat_of_zero_le (show 0 ≤ n by omega)
  have hp := @pw_le32 (m : Int) (by omega)
  have hp0 := pw_pos (m : Int)
  by_cases hb : (m : Int) ≤ b
  · have hv : tot 13 m a b = signV m a := by simp [tot, has, hb, signV]
    have hh : has 13 m a b = false := by simp [tot, has, hb, signV]
    rw [hv, hh]
    clear hv hh
    go_enter Tryd.func56, Tryd.ntmps56
    go_wp2_with (first | (go_at_call 30; refine (mask_any _ _ (by assumption) (by assumption)).mono ?_; rintro e w' ⟨rfl, rfl⟩) | (go_at_call 57; refine (sign_any _ _ _ (by omega) (by omega) (by omega) (by omega)).mono ?_; rintro e w' ⟨rfl, rfl⟩))
    go_ret2
    exact ⟨rfl, Dr.refl _⟩
  · obtain ⟨k, rfl⟩ := Int.eq_ofNat_of_zero_le h5
    have hk : k < m := by omega
    have hd : decide (m ≤ k) = false := by simpa using hk
    have hv : tot 13 m a k = wr m (sgn m a / pw k) := by first | (simp [tot, has, hb]; done) | (simp [tot, has]; omega)
    have hh : has 13 m a k = true := by first | (simp [tot, has, hb]; done) | (simp [tot, has]; omega)
    rw [hv, hh]
    clear hv hh
    have hm := mask_wr (n := m) (by omega) (sgn m a / pw k)
    rw [pw_cast] at hm ⊢
    go_enter Tryd.func56, Tryd.ntmps56
    go_wp2_with (first | (go_at_call 30; refine (mask_any _ _ (by assumption) (by assumption)).mono ?_; rintro e w' ⟨rfl, rfl⟩) | (go_at_call 57; refine (sign_any _ _ _ (by omega) (by omega) (by omega) (by omega)).mono ?_; rintro e w' ⟨rfl, rfl⟩) | (go_at_call 29; refine (signed_any _ _ _ (by omega) (by omega) (by omega) (by omega)).mono ?_; rintro e w' ⟨rfl, rfl⟩))
    go_ret2
    exact ⟨rfl, Dr.refl _⟩

end Go.Proofs.YtpgbepgbgpjmcaaDoor
