/- Walks of bits.Lanes and backstayref01.Lanes. -/
import Derived.Test.YtpgbepgbgpjmcaaDoorBd
import Derived.Test.YtpgbepgbgpjmcaaDoorMem
namespace Go.Proofs.YtpgbepgbgpjmcaaDoor
open Go.RowKit Wd
set_option linter.unusedVariables false
set_option linter.unusedSimpArgs false

set_option maxHeartbeats 1000000 in
theorem pLanes_19 (n l a b : Int) (w : World) (g : goodL 19 n l a b = true) (h3 : 0 ≤ a) (h5 : 0 ≤ b) : Calls Tryd.prog 17 #[.int .i64 19, .int .i64 n, .int .i64 l, .int .u32 a, .int .u32 b] w fun e w' => e = .returned (.tuple #[.int .u32 (lanes 19 n l a b), .int .i64 0]) ∧ Below w.heap.size w w' := by
  obtain ⟨g0, g1, g2, g3, g4, g5, g6, g7⟩ := (goodL_iff _ _ _ _ _).1 g
  have hw : isW n = true := by simp [isW, g1, g2]
  have fa : fit n a = true := by simp [fit, g3]
  have fb : fit n b = true := by simp [fit, g4]
  have hp := pw_le32 g2
  have hc := lanes_count g5 g7 g1
  have d1 : decide (l < 1) = false := by simpa using g5
  have d2 : decide (n ≤ l) = false := by simpa using g6
  have d3 : (n % l != 0) = false := by simpa using g7
  obtain ⟨k, rfl⟩ := Int.eq_ofNat_of_zero_le (show 0 ≤ l by omega)
  obtain ⟨m, rfl⟩ := Int.eq_ofNat_of_zero_le (show 0 ≤ n by omega)
  generalize hcc : (((m : Int) / (k : Int)).toNat) = c at *
  have d4 : decide (m ≤ k) = false := by simp; omega
  have HCC := Lib.hid hcc
  clear hcc
  have hc2 : c * k = m := by exact_mod_cast hc
  have HC := Lib.hid hc2
  clear hc hc2 g0 g7
  have hv : lanes 19 m k a b = sumTo (pw k) (lane 19 k a b) c := by unfold lanes; rw [HCC.out]
  rw [hv]
  clear hv
  go_enter Tryd.func17, Tryd.ntmps17
  go_wp2_with (first | (go_at_call 18; refine (fits2 _ a b _ _ (by simp [go_sem]) (by simp [go_sem])).mono ?_; rintro e w' ⟨rfl, rfl⟩) | (go_at_call 30; refine (mask_any _ _ (by assumption) (by assumption)).mono ?_; rintro e w' ⟨rfl, rfl⟩))
  go_loopw [12, 13] (fun v i wr => ∃ j t : Nat, Hid (t = j * k) ∧ j ≤ c ∧ i = .int .i64 t ∧ v = .int .u32 (sumTo (pw k) (lane 19 k a b) j) ∧ Below w.heap.size w wr) (fun _ i _ => m - (intOf i).toNat)
  case atStart => exact ⟨0, 0, by simp [Hid], Nat.zero_le _, rfl, rfl, (Below.refl _ _).alloc (Nat.le_refl _) _⟩
  case round =>
    obtain ⟨j, t, ht, hj, rfl, rfl, hb⟩ := hrel
    have s := sumTo_bd (pw_pos k) (lane_bd 19 k a b) j
    obtain ⟨s1, s2⟩ := s
    have s3 : pw (k : Int) ^ j = 2 ^ t := by rw [pw_mul, ht.out]
    by_cases hlt : j < c
    · have htm : t + k ≤ m := by
        have : (j + 1) * k ≤ c * k := Nat.mul_le_mul_right k hlt
        rw [HC.out, Nat.succ_mul, ← ht.out] at this
        omega
      have u1 : 0 ≤ a / 2 ^ t := Int.ediv_nonneg h3 (Int.pow_nonneg (by decide))
      have u2 : a / 2 ^ t ≤ a := Int.ediv_le_self _ h3
      have u3 : 0 ≤ b / 2 ^ t := Int.ediv_nonneg h5 (Int.pow_nonneg (by decide))
      have u4 : b / 2 ^ t ≤ b := Int.ediv_le_self _ h5
      have q := @pw_le31 (k : Int) (by omega)
      have m1 := mask_fit (n := k) (x := a / 2 ^ t) (by omega) u1 (by omega)
      have m2 := mask_fit (n := k) (x := b / 2 ^ t) (by omega) u3 (by omega)
      have x1 := wr_lo k (a / 2 ^ t)
      have x2 := wr_hi k (a / 2 ^ t)
      have y1 := wr_lo k (b / 2 ^ t)
      have y2 := wr_hi k (b / 2 ^ t)
      have hl : lane 19 k a b j = Wd.wr k (Wd.wr k (a / 2 ^ t) + Wd.wr k (b / 2 ^ t)) := by unfold lane; rw [s3]; rfl
      generalize hx : Wd.wr (k : Int) (a / 2 ^ t) = x at *
      generalize hy : Wd.wr (k : Int) (b / 2 ^ t) = y at *
      have m3 := mask_fit (n := k) (x := x + y) (by omega) (by omega) (by omega)
      have z1 := wr_lo k (x + y)
      have z2 := wr_hi k (x + y)
      generalize hz : Wd.wr (k : Int) (x + y) = z at *
      generalize ho : sumTo (pw k) (lane 19 k a b) j = out at *
      have v1 : 0 ≤ z * 2 ^ t := Int.mul_nonneg z1 (Int.pow_nonneg (by decide))
      have v2 : out + z * 2 ^ t < pw m := lane_fit s2 s3 z2 htm
      have m4 := or_join (t := t) s1 (by rw [s3] at s2; exact s2) z1 (by omega : z * 2 ^ t ≤ 4294967295) (by omega)
      have hnew : sumTo (pw k) (lane 19 k a b) (j + 1) = out + z * 2 ^ t := by simp only [sumTo]; rw [ho, hl, s3]
      have HN := Lib.hid hnew
      have HB := Lib.hid hb
      have hlt2 : t < m := by omega
      clear hx hy hz ho hl hnew s3 s2 hb u1 u2 u3 u4
      go_wp2_with fail
      go_quiet ((go_at_call 30; exact quiet_same (mask_any _ _ (by omega) (by omega))))
      go_wp2_with (first | (go_at_call 30; refine (mask_any _ _ (by omega) (by omega)).mono ?_; rintro e w' ⟨rfl, rfl⟩))
      go_roundw
      case rel => exact ⟨j + 1, t + k, by show t + k = (j + 1) * k; rw [ht.out, Nat.succ_mul], hlt, by go_num, by rw [HN.out], below_drewN HB.out _⟩
      case measure => simp [intOf]; omega
    · obtain rfl : j = c := by omega
      obtain rfl : t = m := by rw [ht.out, HC.out]
      generalize ho : sumTo (pw k) (lane 19 k a b) j = out at *
      have HO := Lib.hid ho
      have HB := Lib.hid hb
      clear ho s3 s2 hb
      go_wp2
      go_ret2
      exact ⟨by rw [HO.out]; rfl, HB.out⟩

set_option maxHeartbeats 1000000 in
theorem pLanes_20 (n l a b : Int) (w : World) (g : goodL 20 n l a b = true) (h3 : 0 ≤ a) (h5 : 0 ≤ b) : Calls Tryd.prog 17 #[.int .i64 20, .int .i64 n, .int .i64 l, .int .u32 a, .int .u32 b] w fun e w' => e = .returned (.tuple #[.int .u32 (lanes 20 n l a b), .int .i64 0]) ∧ Below w.heap.size w w' := by
  obtain ⟨g0, g1, g2, g3, g4, g5, g6, g7⟩ := (goodL_iff _ _ _ _ _).1 g
  have hw : isW n = true := by simp [isW, g1, g2]
  have fa : fit n a = true := by simp [fit, g3]
  have fb : fit n b = true := by simp [fit, g4]
  have hp := pw_le32 g2
  have hc := lanes_count g5 g7 g1
  have d1 : decide (l < 1) = false := by simpa using g5
  have d2 : decide (n ≤ l) = false := by simpa using g6
  have d3 : (n % l != 0) = false := by simpa using g7
  obtain ⟨k, rfl⟩ := Int.eq_ofNat_of_zero_le (show 0 ≤ l by omega)
  obtain ⟨m, rfl⟩ := Int.eq_ofNat_of_zero_le (show 0 ≤ n by omega)
  generalize hcc : (((m : Int) / (k : Int)).toNat) = c at *
  have d4 : decide (m ≤ k) = false := by simp; omega
  have HCC := Lib.hid hcc
  clear hcc
  have hc2 : c * k = m := by exact_mod_cast hc
  have HC := Lib.hid hc2
  clear hc hc2 g0 g7
  have hv : lanes 20 m k a b = sumTo (pw k) (lane 20 k a b) c := by unfold lanes; rw [HCC.out]
  rw [hv]
  clear hv
  go_enter Tryd.func17, Tryd.ntmps17
  go_wp2_with (first | (go_at_call 18; refine (fits2 _ a b _ _ (by simp [go_sem]) (by simp [go_sem])).mono ?_; rintro e w' ⟨rfl, rfl⟩) | (go_at_call 30; refine (mask_any _ _ (by assumption) (by assumption)).mono ?_; rintro e w' ⟨rfl, rfl⟩))
  go_loopw [12, 13] (fun v i wr => ∃ j t : Nat, Hid (t = j * k) ∧ j ≤ c ∧ i = .int .i64 t ∧ v = .int .u32 (sumTo (pw k) (lane 20 k a b) j) ∧ Below w.heap.size w wr) (fun _ i _ => m - (intOf i).toNat)
  case atStart => exact ⟨0, 0, by simp [Hid], Nat.zero_le _, rfl, rfl, (Below.refl _ _).alloc (Nat.le_refl _) _⟩
  case round =>
    obtain ⟨j, t, ht, hj, rfl, rfl, hb⟩ := hrel
    have s := sumTo_bd (pw_pos k) (lane_bd 20 k a b) j
    obtain ⟨s1, s2⟩ := s
    have s3 : pw (k : Int) ^ j = 2 ^ t := by rw [pw_mul, ht.out]
    by_cases hlt : j < c
    · have htm : t + k ≤ m := by
        have : (j + 1) * k ≤ c * k := Nat.mul_le_mul_right k hlt
        rw [HC.out, Nat.succ_mul, ← ht.out] at this
        omega
      have u1 : 0 ≤ a / 2 ^ t := Int.ediv_nonneg h3 (Int.pow_nonneg (by decide))
      have u2 : a / 2 ^ t ≤ a := Int.ediv_le_self _ h3
      have u3 : 0 ≤ b / 2 ^ t := Int.ediv_nonneg h5 (Int.pow_nonneg (by decide))
      have u4 : b / 2 ^ t ≤ b := Int.ediv_le_self _ h5
      have q := @pw_le31 (k : Int) (by omega)
      have m1 := mask_fit (n := k) (x := a / 2 ^ t) (by omega) u1 (by omega)
      have m2 := mask_fit (n := k) (x := b / 2 ^ t) (by omega) u3 (by omega)
      have x1 := wr_lo k (a / 2 ^ t)
      have x2 := wr_hi k (a / 2 ^ t)
      have y1 := wr_lo k (b / 2 ^ t)
      have y2 := wr_hi k (b / 2 ^ t)
      have hl : lane 20 k a b j = Wd.wr k (Wd.wr k (a / 2 ^ t) + -Wd.wr k (b / 2 ^ t)) := by unfold lane; rw [s3, ← Int.sub_eq_add_neg]; rfl
      generalize hx : Wd.wr (k : Int) (a / 2 ^ t) = x at *
      generalize hy : Wd.wr (k : Int) (b / 2 ^ t) = y at *
      have m3 := mask_wr (n := k) (by omega) (x + -y)
      have z1 := wr_lo k (x + -y)
      have z2 := wr_hi k (x + -y)
      generalize hz : Wd.wr (k : Int) (x + -y) = z at *
      generalize ho : sumTo (pw k) (lane 20 k a b) j = out at *
      have v1 : 0 ≤ z * 2 ^ t := Int.mul_nonneg z1 (Int.pow_nonneg (by decide))
      have v2 : out + z * 2 ^ t < pw m := lane_fit s2 s3 z2 htm
      have m4 := or_join (t := t) s1 (by rw [s3] at s2; exact s2) z1 (by omega : z * 2 ^ t ≤ 4294967295) (by omega)
      have hnew : sumTo (pw k) (lane 20 k a b) (j + 1) = out + z * 2 ^ t := by simp only [sumTo]; rw [ho, hl, s3]
      have HN := Lib.hid hnew
      have HB := Lib.hid hb
      have hlt2 : t < m := by omega
      clear hx hy hz ho hl hnew s3 s2 hb u1 u2 u3 u4
      go_wp2_with fail
      go_quiet ((go_at_call 30; exact quiet_same (mask_any _ _ (by omega) (by omega))))
      go_wp2_with (first | (go_at_call 30; refine (mask_any _ _ (by omega) (by omega)).mono ?_; rintro e w' ⟨rfl, rfl⟩))
      go_roundw
      case rel => exact ⟨j + 1, t + k, by show t + k = (j + 1) * k; rw [ht.out, Nat.succ_mul], hlt, by go_num, by rw [HN.out], below_drewN HB.out _⟩
      case measure => simp [intOf]; omega
    · obtain rfl : j = c := by omega
      obtain rfl : t = m := by rw [ht.out, HC.out]
      generalize ho : sumTo (pw k) (lane 20 k a b) j = out at *
      have HO := Lib.hid ho
      have HB := Lib.hid hb
      clear ho s3 s2 hb
      go_wp2
      go_ret2
      exact ⟨by rw [HO.out]; rfl, HB.out⟩

theorem fits2_no (n a c : Int) (b : Nat) (w : World) (g0 : w.cell? ⟨b, 0, none⟩ = some (.int .u32 a)) (g1 : w.cell? ⟨b, 1, none⟩ = some (.int .u32 c)) (h : (isW n && fit n a && fit n c) = false) : Calls Tryd.prog 18 #[.int .i64 n, .slice (some ⟨b, 0, none⟩) 2 2] w fun e w' => e = .returned (.bool false) ∧ w = w' := by rw [← h]; exact fits2 n a c b w g0 g1
theorem fits2_yes (n a c : Int) (b : Nat) (w : World) (g0 : w.cell? ⟨b, 0, none⟩ = some (.int .u32 a)) (g1 : w.cell? ⟨b, 1, none⟩ = some (.int .u32 c)) (h : (isW n && fit n a && fit n c) = true) : Calls Tryd.prog 18 #[.int .i64 n, .slice (some ⟨b, 0, none⟩) 2 2] w fun e w' => e = .returned (.bool true) ∧ w = w' := by rw [← h]; exact fits2 n a c b w g0 g1
set_option maxHeartbeats 1000000 in
theorem pLanes_bad (op n l a b : Int) (w : World) (g : goodL op n l a b = false) (h3 : 0 ≤ a) (h4 : a ≤ 4294967295) (h5 : 0 ≤ b) (h6 : b ≤ 4294967295) : Calls Tryd.prog 17 #[.int .i64 op, .int .i64 n, .int .i64 l, .int .u32 a, .int .u32 b] w fun e w' => e = .returned (.tuple #[.int .u32 0, .int .i64 1]) ∧ Below w.heap.size w w' := by
  by_cases ho : op = 19 ∨ op = 20
  · by_cases hx : (isW n && fit n a && fit n b) = true
    · have hx2 : (1 ≤ n ∧ n ≤ 32) ∧ a < pw n ∧ b < pw n := by simp [isW, fit] at hx; omega
      obtain ⟨⟨h1, h2⟩, ha, hb⟩ := hx2
      have HX := Lib.hid hx
      clear hx
      by_cases c1 : l < 1
      · have d1 : decide (l < 1) = true := by simpa using c1
        clear g
        rcases ho with rfl | rfl
        · go_enter Tryd.func17, Tryd.ntmps17
          go_wp2_with (first | (go_at_call 18; refine (fits2_yes _ a b _ _ (by simp [go_sem]) (by simp [go_sem]) (by exact HX.out)).mono ?_; rintro e w' ⟨rfl, rfl⟩))
          go_ret2
          exact ⟨rfl, (Below.refl _ _).alloc (Nat.le_refl _) _⟩
        · go_enter Tryd.func17, Tryd.ntmps17
          go_wp2_with (first | (go_at_call 18; refine (fits2_yes _ a b _ _ (by simp [go_sem]) (by simp [go_sem]) (by exact HX.out)).mono ?_; rintro e w' ⟨rfl, rfl⟩))
          go_ret2
          exact ⟨rfl, (Below.refl _ _).alloc (Nat.le_refl _) _⟩
      · have d1 : decide (l < 1) = false := by simpa using c1
        by_cases c2 : n ≤ l
        · have d2 : decide (n ≤ l) = true := by simpa using c2
          clear g
          rcases ho with rfl | rfl
          · go_enter Tryd.func17, Tryd.ntmps17
            go_wp2_with (first | (go_at_call 18; refine (fits2_yes _ a b _ _ (by simp [go_sem]) (by simp [go_sem]) (by exact HX.out)).mono ?_; rintro e w' ⟨rfl, rfl⟩))
            go_ret2
            exact ⟨rfl, (Below.refl _ _).alloc (Nat.le_refl _) _⟩
          · go_enter Tryd.func17, Tryd.ntmps17
            go_wp2_with (first | (go_at_call 18; refine (fits2_yes _ a b _ _ (by simp [go_sem]) (by simp [go_sem]) (by exact HX.out)).mono ?_; rintro e w' ⟨rfl, rfl⟩))
            go_ret2
            exact ⟨rfl, (Below.refl _ _).alloc (Nat.le_refl _) _⟩
        · have d2 : decide (n ≤ l) = false := by simpa using c2
          have c3 : ¬ n % l = 0 := by
            intro h
            have := (goodL_iff op n l a b).2 ⟨ho, h1, h2, ha, hb, by omega, by omega, h⟩
            rw [g] at this; cases this
          have d3 : (n % l != 0) = true := by simpa using c3
          clear g c3
          have c4 : 1 ≤ l := by omega
          clear c1 c2
          rcases ho with rfl | rfl
          · go_enter Tryd.func17, Tryd.ntmps17
            go_wp2_with (first | (go_at_call 18; refine (fits2_yes _ a b _ _ (by simp [go_sem]) (by simp [go_sem]) (by exact HX.out)).mono ?_; rintro e w' ⟨rfl, rfl⟩))
            go_ret2
            exact ⟨rfl, (Below.refl _ _).alloc (Nat.le_refl _) _⟩
          · go_enter Tryd.func17, Tryd.ntmps17
            go_wp2_with (first | (go_at_call 18; refine (fits2_yes _ a b _ _ (by simp [go_sem]) (by simp [go_sem]) (by exact HX.out)).mono ?_; rintro e w' ⟨rfl, rfl⟩))
            go_ret2
            exact ⟨rfl, (Below.refl _ _).alloc (Nat.le_refl _) _⟩
    · have hx : (isW n && fit n a && fit n b) = false := by simpa using hx
      have HX := Lib.hid hx
      clear hx g
      rcases ho with rfl | rfl
      · go_enter Tryd.func17, Tryd.ntmps17
        go_wp2_with (first | (go_at_call 18; refine (fits2_no _ a b _ _ (by simp [go_sem]) (by simp [go_sem]) (by exact HX.out)).mono ?_; rintro e w' ⟨rfl, rfl⟩))
        go_ret2
        exact ⟨rfl, (Below.refl _ _).alloc (Nat.le_refl _) _⟩
      · go_enter Tryd.func17, Tryd.ntmps17
        go_wp2_with (first | (go_at_call 18; refine (fits2_no _ a b _ _ (by simp [go_sem]) (by simp [go_sem]) (by exact HX.out)).mono ?_; rintro e w' ⟨rfl, rfl⟩))
        go_ret2
        exact ⟨rfl, (Below.refl _ _).alloc (Nat.le_refl _) _⟩
  · have o1 : (op != 19) = true := by simp; omega
    have o2 : (op != 20) = true := by simp; omega
    clear g ho
    go_enter Tryd.func17, Tryd.ntmps17
    go_wp2
    go_ret2
    exact ⟨rfl, Below.refl _ _⟩

end Go.Proofs.YtpgbepgbgpjmcaaDoor
