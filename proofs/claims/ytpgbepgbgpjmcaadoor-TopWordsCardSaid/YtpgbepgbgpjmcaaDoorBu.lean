/- Trailing and Ones of both sides, and the walk of the statement BitsCounts. -/
import Derived.Test.YtpgbepgbgpjmcaaDoorBj
import Derived.Test.YtpgbepgbgpjmcaaDoorCnt
import Derived.Laws.Bits64b
import Derived.Lib.Tables
import Derived.Deep.QuietTactic
import Derived.BigQuiet
namespace Go.Proofs.YtpgbepgbgpjmcaaDoor
open Go.RowKit Wd
set_option linter.unusedVariables false
set_option linter.unusedSimpArgs false
/-- The library's table lies in its variable. -/
def Tab (w : World) : Prop := ∀ j, j < 32 → w.cell? ⟨0, j, none⟩ = some (.int .u8 (Lib.deBruijn32tab.getD j 0)) ∧ 0 < w.heap.size
theorem Tab.since {w w' : World} (h : Tab w) (hb : Below w.heap.size w w') : Tab w' := fun j hj => ⟨by rw [← (h j hj).1]; exact hb.cell (p := ⟨_, j, none⟩) (h j hj).2, Nat.lt_of_lt_of_le (h j hj).2 hb.size⟩
def trX (n x : Int) : Int := if (isW n && fit n x) = true then trl n x else 0
def onX (n x : Int) : Int := if (isW n && fit n x) = true then on n x else 0
def ctE (n x : Int) : Int := if (isW n && fit n x) = true then 0 else 1
theorem bits_and_u32_nat (a b : Nat) (ha : a < 4294967296) (hb : b < 4294967296) : bits .and .u32 (a : Int) (b : Int) = ((a &&& b : Nat) : Int) := by
  rw [u32_and _ _ (by omega) (by omega) (by omega) (by omega)]; simp
theorem tz_key (x a : Nat) (hx : x < 4294967296) (hx0 : x ≠ 0) (hlow : x &&& (4294967296 - x) = a) :
    bits BinOp.and IntKind.u32 (x : Int) (-(x : Int) % 4294967296) * 125613361 % 4294967296 / 134217728 = ((a * 125613361 % 4294967296 / 134217728 : Nat) : Int) := by
  have e1 : -(x : Int) % 4294967296 = ((4294967296 - x : Nat) : Int) := by omega
  rw [e1, bits_and_u32_nat x _ hx (by omega), hlow]
  omega
theorem tz_core (x k idx : Nat) (w : World) (hx0 : ((x : Int) == 0) = false)
    (key : bits BinOp.and IntKind.u32 (x : Int) (-(x : Int) % 4294967296) * 125613361 % 4294967296 / 134217728 = (idx : Int))
    (hi : idx < 32) (hk : k < 32) (hcell : w.cell? ⟨0, idx, none⟩ = some (.int .u8 k)) :
    Calls Tryd.prog 19 #[.int .u32 x] w fun e w' => e = .returned (.int .i64 k) ∧ w = w' := by
  go_enter Tryd.func19, Tryd.ntmps19
  go_wp2_with (simp only [key])
  go_ret
  exact ⟨rfl, rfl⟩
theorem tz_any (x : Int) (w : World) (hT : Tab w) (h0 : 0 ≤ x) (h1 : x ≤ 4294967295) : Calls Tryd.prog 19 #[.int .u32 x] w fun e w' => e = .returned (.int .i64 (Lib.ctz 32 x.toNat)) ∧ w = w' := by
  obtain ⟨x, rfl⟩ := Int.eq_ofNat_of_zero_le h0
  rw [Int.toNat_natCast]
  by_cases hx0 : x = 0
  · subst hx0
    go_enter Tryd.func19, Tryd.ntmps19
    go_wp2
    go_ret
    exact ⟨rfl, rfl⟩
  · obtain ⟨hlow, hk⟩ := Lib.lowest_bit 32 x hx0 (by omega)
    obtain ⟨hi, htab⟩ := Lib.deBruijn32_at _ hk
    have hcell := (hT _ hi).1
    rw [htab] at hcell
    exact tz_core x _ _ w (by simp; omega) (tz_key x _ (by omega) hx0 hlow) hi hk hcell

theorem pTrailing (n x : Int) (h0 : 0 ≤ x) (h4 : x ≤ 4294967295) (w : World) (hT : Tab w) : Calls Tryd.prog 5 #[.int .i64 n, .int .u32 x] w fun e w' => e = .returned (.tuple #[.int .i64 (trX n x), .int .i64 (ctE n x)]) ∧ Below w.heap.size w w' := by
  by_cases hw : (isW n && fit n x) = true
  · have hv : trX n x = min n (Lib.ctz 32 x.toNat : Int) := by simp [trX, trl, hw]
    rw [hv]
    clear hv
    have hv : ctE n x = 0 := by simp [ctE, hw]
    rw [hv]
    clear hv
    have h12 : (1 ≤ n ∧ n ≤ 32) ∧ x < pw n := by simpa [isW, fit] using hw
    obtain ⟨⟨h1, h2⟩, h3⟩ := h12
    go_enter Tryd.func5, Tryd.ntmps5
    go_wp2_with (first | (go_at_call 18; refine (fits1 n x _ _ (by simp [go_sem])).mono ?_; rintro e w' ⟨rfl, rfl⟩) | (go_at_call 19; refine (tz_any _ _ (hT.since ((Below.refl _ _).alloc (Nat.le_refl _) _)) (by omega) (by omega)).mono ?_; rintro e w' ⟨rfl, rfl⟩))
    all_goals go_ret2
    all_goals exact ⟨by first | (rw [Int.min_eq_left (by omega)] <;> rfl) | (rw [Int.min_eq_right (by omega)] <;> rfl), (Below.refl _ _).alloc (Nat.le_refl _) _⟩
  · have hw : (isW n && fit n x) = false := by simpa using hw
    have hv : trX n x = 0 := by simp [trX, trl, hw]
    rw [hv]
    clear hv
    have hv : ctE n x = 1 := by simp [ctE, hw]
    rw [hv]
    clear hv
    go_enter Tryd.func5, Tryd.ntmps5
    go_wp2_with (first | (go_at_call 18; refine (fits1 n x _ _ (by simp [go_sem])).mono ?_; rintro e w' ⟨rfl, rfl⟩) | (go_at_call 19; refine (tz_any _ _ (hT.since ((Below.refl _ _).alloc (Nat.le_refl _) _)) (by omega) (by omega)).mono ?_; rintro e w' ⟨rfl, rfl⟩))
    go_ret2
    exact ⟨rfl, (Below.refl _ _).alloc (Nat.le_refl _) _⟩

theorem rTrailing (n x : Int) (h0 : 0 ≤ x) (h4 : x ≤ 4294967295) (w : World) : Calls Tryd.prog 6 #[.int .i64 n, .int .u32 x] w fun e w' => e = .returned (.tuple #[.int .i64 (trX n x), .int .i64 (ctE n x)]) ∧ Dr w w' := by
  by_cases hw : (isW n && fit n x) = true
  · have hv : trX n x = min n (Lib.ctz 32 x.toNat : Int) := by simp [trX, trl, hw]
    rw [hv]
    clear hv
    have hv : ctE n x = 0 := by simp [ctE, hw]
    rw [hv]
    clear hv
    have h12 : (1 ≤ n ∧ n ≤ 32) ∧ x < pw n := by simpa [isW, fit] using hw
    obtain ⟨⟨h1, h2⟩, h3⟩ := h12
    have hp := pw_le32 h2
    obtain ⟨m, rfl⟩ := Int.eq_ofNat_of_zero_le (show 0 ≤ n by omega)
    have hlo := Lib.hid (fun i => @ctz_low x.toNat i (by omega))
    have hat := Lib.hid (@ctz_at x.toNat (by omega))
    have hc := @ctz_hi x.toNat (by omega)
    generalize Lib.ctz 32 x.toNat = c at *
    go_enter Tryd.func6, Tryd.ntmps6
    go_wp2_with (first | (go_at_call 11; refine (rIsWord_any _ _ _ (by omega) (by omega)).mono ?_; rintro e w' ⟨rfl, rfl⟩))
    go_loopw [6] (fun i wr => ∃ k : Nat, k ≤ m ∧ k ≤ c ∧ i = .int .i64 k ∧ Dr w wr) (fun i _ => m - (intOf i).toNat)
    case atStart => exact ⟨0, Nat.zero_le _, Nat.zero_le _, rfl, Dr.refl w⟩
    case round =>
      obtain ⟨k, hk, hkc, rfl, hd⟩ := hrel
      have hb := @bitI x k h0
      have hp0 := pw_pos (k : Int)
      have hp1 := @pw_le32 (k : Int) (by omega)
      by_cases hlt : k < m
      · by_cases hc1 : k < c
        · have hz : ((x / pw k).tmod 2 == 0) = true := by rw [hb, hlo.out k hc1]; rfl
          have hz2 : (x / pw k % 2 == 0) = true := by rw [← Int.tmod_eq_emod_of_nonneg (Int.ediv_nonneg h0 (Int.le_of_lt hp0))]; exact hz
          clear hb
          go_wp2_with (first | (go_at_call 20; refine (size_any _ _ (by omega) (by omega)).mono ?_; rintro e w' ⟨rfl, rfl⟩) | (go_at_call 11; refine (rIsWord_any _ _ _ (by omega) (by omega)).mono ?_; rintro e w' ⟨rfl, rfl⟩))
          go_roundw
          case rel => exact ⟨k + 1, by omega, by omega, by go_num, hd⟩
          case measure => simp [intOf]; omega
        · obtain rfl : k = c := by omega
          have hz : ((x / pw k).tmod 2 == 0) = false := by rw [hb, hat.out (by omega)]; rfl
          have hz2 : (x / pw k % 2 == 0) = false := by rw [← Int.tmod_eq_emod_of_nonneg (Int.ediv_nonneg h0 (Int.le_of_lt hp0))]; exact hz
          clear hb
          go_wp2_with (first | (go_at_call 20; refine (size_any _ _ (by omega) (by omega)).mono ?_; rintro e w' ⟨rfl, rfl⟩) | (go_at_call 11; refine (rIsWord_any _ _ _ (by omega) (by omega)).mono ?_; rintro e w' ⟨rfl, rfl⟩))
          go_ret2
          exact ⟨by rw [Int.min_eq_right (by omega)] <;> rfl, hd⟩
      · obtain rfl : k = m := by omega
        clear hb
        go_wp2_with (first | (go_at_call 20; refine (size_any _ _ (by omega) (by omega)).mono ?_; rintro e w' ⟨rfl, rfl⟩) | (go_at_call 11; refine (rIsWord_any _ _ _ (by omega) (by omega)).mono ?_; rintro e w' ⟨rfl, rfl⟩))
        go_ret2
        exact ⟨by rw [Int.min_eq_left (by omega)] <;> rfl, hd⟩
  · have hw : (isW n && fit n x) = false := by simpa using hw
    have hv : trX n x = 0 := by simp [trX, hw]
    rw [hv]
    clear hv
    have hv : ctE n x = 1 := by simp [ctE, hw]
    rw [hv]
    clear hv
    go_enter Tryd.func6, Tryd.ntmps6
    go_wp2_with (first | (go_at_call 20; refine (size_any _ _ (by omega) (by omega)).mono ?_; rintro e w' ⟨rfl, rfl⟩) | (go_at_call 11; refine (rIsWord_any _ _ _ (by omega) (by omega)).mono ?_; rintro e w' ⟨rfl, rfl⟩))
    go_ret2
    exact ⟨rfl, Dr.refl w⟩

set_option maxRecDepth 100000 in
set_option maxHeartbeats 4000000 in
theorem oc_any (n x : Int) (w : World) (h0 : 0 ≤ x) (h1 : x ≤ 4294967295) (n1 : 1 ≤ n) (n2 : n ≤ 32) (hx : x < pw n) : Calls Tryd.prog 21 #[.int .u32 x] w fun e w' => e = .returned (.int .i64 (on n x)) ∧ Dr w w' := by
  have hs := pop_all h0 h1 n1 n2 hx
  have a1 := pop8_of (b := x / 16777216) (by omega) (by omega)
  have a2 := pop8_of (b := x / 65536 % 256) (by omega) (by omega)
  have a3 := pop8_of (b := x / 256 % 256) (by omega) (by omega)
  have a4 := pop8_of (b := x % 256) (by omega) (by omega)
  rw [← hs]
  clear hs
  have m4 : bits .and .u32 x 255 = x % 256 := mask_fit (n := 8) (by omega) h0 h1
  have m3 : bits .and .u32 (x / 256) 255 = x / 256 % 256 := mask_fit (n := 8) (by omega) (by omega) (by omega)
  have m2 : bits .and .u32 (x / 65536) 255 = x / 65536 % 256 := mask_fit (n := 8) (by omega) (by omega) (by omega)
  have us := Tryd.underlying9
  have k1 : 0 ≤ x / 16777216 := by omega
  have k2 : x / 16777216 ≤ 255 := by omega
  have k3 : 0 ≤ x / 65536 % 256 := by omega
  have k4 : x / 65536 % 256 ≤ 255 := by omega
  have k5 : 0 ≤ x / 256 % 256 := by omega
  have k6 : x / 256 % 256 ≤ 255 := by omega
  have k7 : 0 ≤ x % 256 := by omega
  have k8 : x % 256 ≤ 255 := by omega
  obtain ⟨hq, b1, b2⟩ := a1
  clear hq
  obtain ⟨hq, c1, c2⟩ := a2
  clear hq
  obtain ⟨hq, d1, d2⟩ := a3
  clear hq
  obtain ⟨hq, e1, e2⟩ := a4
  clear hq
  go_enter Tryd.func21, Tryd.ntmps21
  go_wp2
  go_region
  all_goals go_wp2
  go_ret
  exact ⟨rfl, _, rfl⟩

theorem pOnes (n x : Int) (h0 : 0 ≤ x) (h4 : x ≤ 4294967295) (w : World) : Calls Tryd.prog 7 #[.int .i64 n, .int .u32 x] w fun e w' => e = .returned (.tuple #[.int .i64 (onX n x), .int .i64 (ctE n x)]) ∧ Below w.heap.size w w' := by
  by_cases hw : (isW n && fit n x) = true
  · have hv : onX n x = on n x := by simp [onX, hw]
    rw [hv]
    clear hv
    have hv : ctE n x = 0 := by simp [ctE, hw]
    rw [hv]
    clear hv
    have h12 : (1 ≤ n ∧ n ≤ 32) ∧ x < pw n := by simpa [isW, fit] using hw
    obtain ⟨⟨h1, h2⟩, h3⟩ := h12
    go_enter Tryd.func7, Tryd.ntmps7
    go_wp2_with (first | (go_at_call 18; refine (fits1 n x _ _ (by simp [go_sem])).mono ?_; rintro e w' ⟨rfl, rfl⟩) | (go_at_call 21; refine (oc_any n _ _ (by omega) (by omega) (by omega) (by omega) (by assumption)).mono ?_; rintro e w' ⟨rfl, hd1⟩))
    go_ret2
    exact ⟨rfl, (((Below.refl _ _).alloc (Nat.le_refl _) _).trans (hd1.below _))⟩
  · have hw : (isW n && fit n x) = false := by simpa using hw
    have hv : onX n x = 0 := by simp [onX, hw]
    rw [hv]
    clear hv
    have hv : ctE n x = 1 := by simp [ctE, hw]
    rw [hv]
    clear hv
    go_enter Tryd.func7, Tryd.ntmps7
    go_wp2_with (first | (go_at_call 18; refine (fits1 n x _ _ (by simp [go_sem])).mono ?_; rintro e w' ⟨rfl, rfl⟩) | (go_at_call 21; refine (oc_any n _ _ (by omega) (by omega) (by omega) (by omega) (by assumption)).mono ?_; rintro e w' ⟨rfl, hd1⟩))
    go_ret2
    exact ⟨rfl, (Below.refl _ _).alloc (Nat.le_refl _) _⟩

theorem rOnes (n x : Int) (h0 : 0 ≤ x) (h4 : x ≤ 4294967295) (w : World) : Calls Tryd.prog 8 #[.int .i64 n, .int .u32 x] w fun e w' => e = .returned (.tuple #[.int .i64 (onX n x), .int .i64 (ctE n x)]) ∧ Dr w w' := by
  by_cases hw : (isW n && fit n x) = true
  · have hv : onX n x = on n x := by simp [onX, hw]
    rw [hv]
    clear hv
    have hv : ctE n x = 0 := by simp [ctE, hw]
    rw [hv]
    clear hv
    have h12 : (1 ≤ n ∧ n ≤ 32) ∧ x < pw n := by simpa [isW, fit] using hw
    obtain ⟨⟨h1, h2⟩, h3⟩ := h12
    have hp := pw_le32 h2
    obtain ⟨m, rfl⟩ := Int.eq_ofNat_of_zero_le (show 0 ≤ n by omega)
    go_enter Tryd.func8, Tryd.ntmps8
    go_wp2_with (first | (go_at_call 20; refine (size_any _ _ (by omega) (by omega)).mono ?_; rintro e w' ⟨rfl, rfl⟩) | (go_at_call 11; refine (rIsWord_any _ _ _ (by omega) (by omega)).mono ?_; rintro e w' ⟨rfl, rfl⟩))
    go_loopw [6, 7] (fun s i wr => ∃ k : Nat, k ≤ m ∧ i = .int .i64 k ∧ s = .int .i64 (ones x.toNat k : Nat) ∧ Dr w wr) (fun _ i _ => m - (intOf i).toNat)
    case atStart => exact ⟨0, Nat.zero_le _, rfl, rfl, Dr.refl w⟩
    case round =>
      obtain ⟨k, hk, rfl, rfl, hd⟩ := hrel
      have hb := @bitI x k h0
      have hp0 := pw_pos (k : Int)
      have hp1 := @pw_le32 (k : Int) (by omega)
      have ho := ones_le x.toNat k
      have HS : Hid (ones x.toNat (k + 1) = ones x.toNat k + x.toNat / 2 ^ k % 2) := rfl
      have hz2 : x / pw k % 2 = ((x.toNat / 2 ^ k % 2 : Nat) : Int) := by rw [← hb, Int.tmod_eq_emod_of_nonneg (Int.ediv_nonneg h0 (Int.le_of_lt hp0))]
      have hm : x.toNat / 2 ^ k % 2 ≤ 1 := by omega
      generalize x.toNat / 2 ^ k % 2 = bit at *
      by_cases hlt : k < m
      · generalize ones x.toNat k = c at *
        go_wp2_with (first | (go_at_call 20; refine (size_any _ _ (by omega) (by omega)).mono ?_; rintro e w' ⟨rfl, rfl⟩) | (go_at_call 11; refine (rIsWord_any _ _ _ (by omega) (by omega)).mono ?_; rintro e w' ⟨rfl, rfl⟩))
        go_roundw
        case rel => exact ⟨k + 1, by omega, by go_num, by rw [HS.out]; go_num, hd⟩
        case measure => simp [intOf]; omega
      · obtain rfl : k = m := by omega
        clear hb hz2
        go_wp2_with (first | (go_at_call 20; refine (size_any _ _ (by omega) (by omega)).mono ?_; rintro e w' ⟨rfl, rfl⟩) | (go_at_call 11; refine (rIsWord_any _ _ _ (by omega) (by omega)).mono ?_; rintro e w' ⟨rfl, rfl⟩))
        go_ret2
        exact ⟨rfl, hd⟩
  · have hw : (isW n && fit n x) = false := by simpa using hw
    have hv : onX n x = 0 := by simp [onX, hw]
    rw [hv]
    clear hv
    have hv : ctE n x = 1 := by simp [ctE, hw]
    rw [hv]
    clear hv
    go_enter Tryd.func8, Tryd.ntmps8
    go_wp2_with (first | (go_at_call 20; refine (size_any _ _ (by omega) (by omega)).mono ?_; rintro e w' ⟨rfl, rfl⟩) | (go_at_call 11; refine (rIsWord_any _ _ _ (by omega) (by omega)).mono ?_; rintro e w' ⟨rfl, rfl⟩))
    go_ret2
    exact ⟨rfl, Dr.refl w⟩

theorem wCounts (n x : Int) (w : World) (hT : Tab w) (h3 : 0 ≤ x) (h4 : x ≤ 4294967295) : Calls Tryd.prog 3 #[.int .i64 n, .int .u32 x] w fun e w' => e = .returned (.bool true) ∧ Below w.heap.size w w' := by
  have h00 := Since.refl w
  have hTs : ∀ wk, Since w wk → Tab wk := fun wk h => hT.since h
  go_enter Tryd.func3, Tryd.ntmps3
  go_wp2_with (first | (go_at_call 5; refine (acc_p (pTrailing _ _ (by omega) (by omega) _ (hTs _ (by assumption))) (by assumption)).mono ?_; rintro e w' ⟨rfl, hb⟩) | (go_at_call 6; refine (acc_d (rTrailing _ _ (by omega) (by omega) _) (by assumption)).mono ?_; rintro e w' ⟨rfl, hb⟩) | (go_at_call 7; refine (acc_p (pOnes _ _ (by omega) (by omega) _) (by assumption)).mono ?_; rintro e w' ⟨rfl, hb⟩) | (go_at_call 8; refine (acc_d (rOnes _ _ (by omega) (by omega) _) (by assumption)).mono ?_; rintro e w' ⟨rfl, hb⟩) | (go_at_call 9; refine (acc_p (known_any _) (by assumption)).mono ?_; rintro e w' ⟨rfl, hb⟩))
  go_ret
  exact ⟨rfl, ‹_›⟩

end Go.Proofs.YtpgbepgbgpjmcaaDoor
