/- Walks of backstayref01.down, bitwise, two, do, Do, Total: what each returns, said of numbers. -/
import Derived.Test.YthopdfikikdcbaaBa
namespace Go.Proofs.Ythopdfikikdcbaa
open Go.RowKit Wd

set_option maxHeartbeats 400000 in
theorem down_any (x : Int) (k : Nat) (w : World) (h1 : -4294967296 ≤ x) (h2 : x ≤ 4294967296) (hk : k ≤ 32) : Calls Try.prog 160 #[.int .i64 x, .int .i64 k] w fun e w' => e = .returned (.int .i64 (x / 2 ^ k)) ∧ w = w' := by
  go_enter Try.func160, Try.ntmps160
  go_wp2
  go_loop [0, 5] (fun v i => ∃ j : Nat, j ≤ k ∧ i = .int .i64 j ∧ v = .int .i64 (x / 2 ^ j)) (fun _ i => k - (intOf i).toNat)
  case atStart => exact ⟨0, Nat.zero_le _, rfl, by simp⟩
  case round =>
    obtain ⟨j, hj, rfl, rfl⟩ := hrel
    have b1 := dn_lo x j h1
    have b2 := dn_hi x j h2
    have hs := dn_succ x j
    generalize hy : x / 2 ^ j = y at *
    have HY := Lib.hid hy
    clear hy
    by_cases hlt : j < k
    · have HS : Hid (x / 2 ^ (j + 1) = y / 2) := hs
      clear hs
      rcases Int.lt_or_le y 0 with hn | hn
      · go_wp2
        go_round
        case rel => exact ⟨j + 1, by omega, by go_num, by rw [HS.out]; exact congrArg (Value.int _) (by omega)⟩
        case measure => simp [intOf]; omega
      · go_wp2
        go_round
        case rel => exact ⟨j + 1, by omega, by go_num, by rw [HS.out]⟩
        case measure => simp [intOf]; omega
    · obtain rfl : j = k := by omega
      clear hs
      go_wp2
      go_ret
      exact ⟨ret_i HY.out.symm, rfl⟩

/-- Nothing but the count of draws has moved. -/
def Dr (w w' : World) : Prop := ∃ n, w' = w.drewN n
theorem Dr.refl (w : World) : Dr w w := ⟨0, rfl⟩
theorem Dr.drew {w w' : World} (h : Dr w w') (n : Nat) : Dr w (w'.drewN n) := by
  obtain ⟨m, rfl⟩ := h
  exact ⟨m + n, World.drewN_drewN _ _ _⟩
theorem Dr.below {w w' : World} (h : Dr w w') (B : Nat) : Below B w w' := by
  obtain ⟨n, rfl⟩ := h
  exact ⟨rfl, rfl, rfl, Nat.le_refl _, fun _ _ => rfl⟩
theorem Dr.trans {w w' w'' : World} (h : Dr w w') (h' : Dr w' w'') : Dr w w'' := by
  obtain ⟨m, rfl⟩ := h'
  exact h.drew m
theorem quiet_same {P : Program} {f : FuncId} {args : Array Value} {w : World} {n : Nat} {v : Value} (h : Calls P f args (w.drewN n) fun e w' => e = .returned v ∧ w.drewN n = w') :
    Calls P f args (w.drewN n) fun e w'' => e = .returned v ∧ ∃ m, w'' = w.drewN m := h.mono fun _ _ ⟨he, hm⟩ => ⟨he, n, hm.symm⟩

set_option maxHeartbeats 1000000 in
theorem bitwise_and (n : Nat) (a b : Int) (w : World) (h1 : 1 ≤ n) (h2 : n ≤ 32) (h3 : 0 ≤ a) (h4 : a < pw n) (h5 : 0 ≤ b) (h6 : b < pw n) : Calls Try.prog 128 #[.int .i64 8, .int .i64 n, .int .u32 a, .int .u32 b] w fun e w' => e = .returned (.tuple #[.int .u32 ((a.toNat &&& b.toNat : Nat) : Int), .bool true]) ∧ Dr w w' := by
  have hp := @pw_le32 (n : Int) (by omega)
  have hfin := and_lt a b n h3 h4
  go_enter Try.func128, Try.ntmps128
  go_wp2
  go_loopw [10, 11] (fun v i wr => ∃ j : Nat, j ≤ n ∧ i = .int .i64 j ∧ v = .int .i64 (lo (a.toNat &&& b.toNat) j) ∧ Dr w wr) (fun _ i _ => n - (intOf i).toNat)
  case atStart => exact ⟨0, Nat.zero_le _, rfl, congrArg (Value.int _) (lo_zero _).symm, Dr.refl w⟩
  case round =>
    obtain ⟨j, hj, rfl, rfl, hd⟩ := hrel
    by_cases hlt : j < n
    · have hq0 := pw_pos (j : Int)
      have hq1 := @pw_le32 (j : Int) (by omega)
      have hl0 := lo_nn (a.toNat &&& b.toNat) j
      have hl1 := lo_lt (a.toNat &&& b.toNat) j
      cases ea : a.toNat.testBit j <;> cases eb : b.toNat.testBit j
      all_goals
        have e3 := Nat.testBit_and a.toNat b.toNat j
        rw [ea, eb] at e3
        first | have e1 := bit_1 a j h3 ea | have e1 := bit_0 a j h3 ea
        first | have e2 := bit_1 b j h5 eb | have e2 := bit_0 b j h5 eb
        first | have e4 := lo_1 _ j e3 | have e4 := lo_0 _ j e3
        have E4 := Lib.hid e4
        clear ea eb e3 e4
        generalize lo (a.toNat &&& b.toNat) j = l at *
        go_wp2_with fail
        go_quiet ((go_at_call 108; exact quiet_same (size_any _ _ (by omega) (by omega))))
        go_wp2_with (first | (go_at_call 108; refine (size_any _ _ (by omega) (by omega)).mono ?_; rintro e w' ⟨rfl, rfl⟩))
        go_roundw
        case rel => exact ⟨j + 1, by omega, by go_num, by rw [E4.out], hd.drew _⟩
        case measure => simp [intOf]; omega
    · obtain rfl : j = n := by omega
      have e5 := lo_all (a.toNat &&& b.toNat) j hfin
      generalize lo (a.toNat &&& b.toNat) j = l at *
      have e6 : 0 ≤ l := by rw [e5]; exact Int.natCast_nonneg _
      have E5 := Lib.hid e5
      rw [← e5] at hfin
      clear e5
      go_wp2
      go_ret2
      exact ⟨by rw [← E5.out]; rfl, hd⟩

set_option maxHeartbeats 1000000 in
theorem bitwise_or (n : Nat) (a b : Int) (w : World) (h1 : 1 ≤ n) (h2 : n ≤ 32) (h3 : 0 ≤ a) (h4 : a < pw n) (h5 : 0 ≤ b) (h6 : b < pw n) : Calls Try.prog 128 #[.int .i64 9, .int .i64 n, .int .u32 a, .int .u32 b] w fun e w' => e = .returned (.tuple #[.int .u32 ((a.toNat ||| b.toNat : Nat) : Int), .bool true]) ∧ Dr w w' := by
  have hp := @pw_le32 (n : Int) (by omega)
  have hfin := or_lt a b n h4 h6
  go_enter Try.func128, Try.ntmps128
  go_wp2
  go_loopw [10, 11] (fun v i wr => ∃ j : Nat, j ≤ n ∧ i = .int .i64 j ∧ v = .int .i64 (lo (a.toNat ||| b.toNat) j) ∧ Dr w wr) (fun _ i _ => n - (intOf i).toNat)
  case atStart => exact ⟨0, Nat.zero_le _, rfl, congrArg (Value.int _) (lo_zero _).symm, Dr.refl w⟩
  case round =>
    obtain ⟨j, hj, rfl, rfl, hd⟩ := hrel
    by_cases hlt : j < n
    · have hq0 := pw_pos (j : Int)
      have hq1 := @pw_le32 (j : Int) (by omega)
      have hl0 := lo_nn (a.toNat ||| b.toNat) j
      have hl1 := lo_lt (a.toNat ||| b.toNat) j
      cases ea : a.toNat.testBit j <;> cases eb : b.toNat.testBit j
      all_goals
        have e3 := Nat.testBit_or a.toNat b.toNat j
        rw [ea, eb] at e3
        first | have e1 := bit_1 a j h3 ea | have e1 := bit_0 a j h3 ea
        first | have e2 := bit_1 b j h5 eb | have e2 := bit_0 b j h5 eb
        first | have e4 := lo_1 _ j e3 | have e4 := lo_0 _ j e3
        have E4 := Lib.hid e4
        clear ea eb e3 e4
        generalize lo (a.toNat ||| b.toNat) j = l at *
        go_wp2_with fail
        go_quiet ((go_at_call 108; exact quiet_same (size_any _ _ (by omega) (by omega))))
        go_wp2_with (first | (go_at_call 108; refine (size_any _ _ (by omega) (by omega)).mono ?_; rintro e w' ⟨rfl, rfl⟩))
        go_roundw
        case rel => exact ⟨j + 1, by omega, by go_num, by rw [E4.out], hd.drew _⟩
        case measure => simp [intOf]; omega
    · obtain rfl : j = n := by omega
      have e5 := lo_all (a.toNat ||| b.toNat) j hfin
      generalize lo (a.toNat ||| b.toNat) j = l at *
      have e6 : 0 ≤ l := by rw [e5]; exact Int.natCast_nonneg _
      have E5 := Lib.hid e5
      rw [← e5] at hfin
      clear e5
      go_wp2
      go_ret2
      exact ⟨by rw [← E5.out]; rfl, hd⟩

set_option maxHeartbeats 1000000 in
theorem bitwise_xor (n : Nat) (a b : Int) (w : World) (h1 : 1 ≤ n) (h2 : n ≤ 32) (h3 : 0 ≤ a) (h4 : a < pw n) (h5 : 0 ≤ b) (h6 : b < pw n) : Calls Try.prog 128 #[.int .i64 10, .int .i64 n, .int .u32 a, .int .u32 b] w fun e w' => e = .returned (.tuple #[.int .u32 ((a.toNat ^^^ b.toNat : Nat) : Int), .bool true]) ∧ Dr w w' := by
  have hp := @pw_le32 (n : Int) (by omega)
  have hfin := xor_lt a b n h4 h6
  go_enter Try.func128, Try.ntmps128
  go_wp2
  go_loopw [10, 11] (fun v i wr => ∃ j : Nat, j ≤ n ∧ i = .int .i64 j ∧ v = .int .i64 (lo (a.toNat ^^^ b.toNat) j) ∧ Dr w wr) (fun _ i _ => n - (intOf i).toNat)
  case atStart => exact ⟨0, Nat.zero_le _, rfl, congrArg (Value.int _) (lo_zero _).symm, Dr.refl w⟩
  case round =>
    obtain ⟨j, hj, rfl, rfl, hd⟩ := hrel
    by_cases hlt : j < n
    · have hq0 := pw_pos (j : Int)
      have hq1 := @pw_le32 (j : Int) (by omega)
      have hl0 := lo_nn (a.toNat ^^^ b.toNat) j
      have hl1 := lo_lt (a.toNat ^^^ b.toNat) j
      cases ea : a.toNat.testBit j <;> cases eb : b.toNat.testBit j
      all_goals
        have e3 := Nat.testBit_xor a.toNat b.toNat j
        rw [ea, eb] at e3
        first | have e1 := bit_1 a j h3 ea | have e1 := bit_0 a j h3 ea
        first | have e2 := bit_1 b j h5 eb | have e2 := bit_0 b j h5 eb
        first | have e4 := lo_1 _ j e3 | have e4 := lo_0 _ j e3
        have E4 := Lib.hid e4
        clear ea eb e3 e4
        generalize lo (a.toNat ^^^ b.toNat) j = l at *
        go_wp2_with fail
        go_quiet ((go_at_call 108; exact quiet_same (size_any _ _ (by omega) (by omega))))
        go_wp2_with (first | (go_at_call 108; refine (size_any _ _ (by omega) (by omega)).mono ?_; rintro e w' ⟨rfl, rfl⟩))
        go_roundw
        case rel => exact ⟨j + 1, by omega, by go_num, by rw [E4.out], hd.drew _⟩
        case measure => simp [intOf]; omega
    · obtain rfl : j = n := by omega
      have e5 := lo_all (a.toNat ^^^ b.toNat) j hfin
      generalize lo (a.toNat ^^^ b.toNat) j = l at *
      have e6 : 0 ≤ l := by rw [e5]; exact Int.natCast_nonneg _
      have E5 := Lib.hid e5
      rw [← e5] at hfin
      clear e5
      go_wp2
      go_ret2
      exact ⟨by rw [← E5.out]; rfl, hd⟩

set_option maxHeartbeats 1000000 in
theorem bitwise_shl (n k : Nat) (a : Int) (w : World) (h1 : 1 ≤ n) (h2 : n ≤ 32) (h3 : 0 ≤ a) (h4 : a < pw n) (hk : k < n) : Calls Try.prog 128 #[.int .i64 11, .int .i64 n, .int .u32 a, .int .u32 k] w fun e w' => e = .returned (.tuple #[.int .u32 (wr n (a * pw k)), .bool true]) ∧ Dr w w' := by
  have hp := @pw_le32 (n : Int) (by omega)
  have hp0 := pw_pos (n : Int)
  have t0 : wr n (a * pw ((0 : Nat) : Int)) = a := by rw [pw_nat]; simpa using wr_small h3 h4
  have t1 := wr_lo n (a * pw k)
  have t2 := wr_hi n (a * pw k)
  have T0 := Lib.hid t0
  clear t0
  have hd : decide (n ≤ k) = false := by simpa using hk
  go_enter Try.func128, Try.ntmps128
  go_wp2
  go_loop [16, 17] (fun v i => ∃ j : Nat, j ≤ k ∧ i = .int .i64 j ∧ v = .int .i64 (wr n (a * pw j))) (fun _ i => k - (intOf i).toNat)
  case atStart => exact ⟨0, Nat.zero_le _, rfl, by rw [T0.out]⟩
  case round =>
    obtain ⟨j, hj, rfl, rfl⟩ := hrel
    by_cases hlt : j < k
    · have s1 := wr_lo n (a * pw j)
      have s2 := wr_hi n (a * pw j)
      have s3 := Lib.hid (wr_shl n a j)
      go_wp2_with (first | (go_at_call 108; refine (size_any _ _ (by omega) (by omega)).mono ?_; rintro e w' ⟨rfl, rfl⟩))
      go_round
      case rel => exact ⟨j + 1, by omega, by go_num, by rw [s3.out]⟩
      case measure => simp [intOf]; omega
    · obtain rfl : j = k := by omega
      generalize hl : wr n (a * pw j) = l at *
      have HL := Lib.hid hl
      clear hl
      go_wp2
      go_ret2
      exact ⟨by rw [HL.out]; rfl, Dr.refl _⟩
set_option maxHeartbeats 1000000 in
theorem bitwise_lshr (n k : Nat) (a : Int) (w : World) (h1 : 1 ≤ n) (h2 : n ≤ 32) (h3 : 0 ≤ a) (h4 : a < pw n) (hk : k < n) : Calls Try.prog 128 #[.int .i64 12, .int .i64 n, .int .u32 a, .int .u32 k] w fun e w' => e = .returned (.tuple #[.int .u32 (a / 2 ^ k), .bool true]) ∧ Dr w w' := by
  have hp := @pw_le32 (n : Int) (by omega)
  have t1 := dn_lo a k (by omega)
  have t2 := dn_hi a k (by omega)
  have t3 : 0 ≤ a / 2 ^ k := Int.ediv_nonneg h3 (Int.pow_nonneg (by decide))
  have t4 : a / 2 ^ k ≤ a := Int.ediv_le_self _ h3
  go_enter Try.func128, Try.ntmps128
  go_wp2_with (first | (go_at_call 160; refine (down_any _ _ _ (by omega) (by omega) (by omega)).mono ?_; rintro e w' ⟨rfl, rfl⟩))
  go_ret2
  exact ⟨rfl, Dr.refl _⟩
set_option maxHeartbeats 1000000 in
theorem bitwise_ashr (n k : Nat) (a : Int) (w : World) (h1 : 1 ≤ n) (h2 : n ≤ 32) (h3 : 0 ≤ a) (h4 : a < pw n) (hk : k < n) : Calls Try.prog 128 #[.int .i64 13, .int .i64 n, .int .u32 a, .int .u32 k] w fun e w' => e = .returned (.tuple #[.int .u32 (wr n (sgn n a / 2 ^ k)), .bool true]) ∧ Dr w w' := by
  have hp := @pw_le32 (n : Int) (by omega)
  have s1 := sgn_lo32 (n := n) (a := a) (by omega) (by omega) h3
  have s2 := sgn_hi32 (n := n) (a := a) (by omega) (by omega) h4
  have t1 := dn_lo (sgn n a) k (by omega)
  have t2 := dn_hi (sgn n a) k (by omega)
  go_enter Try.func128, Try.ntmps128
  go_wp2_with (first | (go_at_call 160; refine (down_any _ _ _ (by omega) (by omega) (by omega)).mono ?_; rintro e w' ⟨rfl, rfl⟩) | (go_at_call 111; refine (rSign_any _ _ _ (by omega) (by omega) (by omega) (by omega)).mono ?_; rintro e w' ⟨rfl, rfl⟩) | (go_at_call 112; refine (rWrap_any _ _ _ (by omega) (by omega) (by omega) (by omega)).mono ?_; rintro e w' ⟨rfl, rfl⟩))
  go_ret2
  exact ⟨rfl, Dr.refl _⟩
theorem bitwise_none (op n a b : Int) (w : World) (h0 : 11 ≤ op) (h1 : 1 ≤ n) (h2 : n ≤ 32) (h5 : b ≤ 4294967295) (hb : n ≤ b) : Calls Try.prog 128 #[.int .i64 op, .int .i64 n, .int .u32 a, .int .u32 b] w fun e w' => e = .returned (.tuple #[.int .u32 0, .bool false]) ∧ Dr w w' := by
  go_enter Try.func128, Try.ntmps128
  go_wp2
  go_ret2
  exact ⟨rfl, Dr.refl _⟩

end Go.Proofs.Ythopdfikikdcbaa
