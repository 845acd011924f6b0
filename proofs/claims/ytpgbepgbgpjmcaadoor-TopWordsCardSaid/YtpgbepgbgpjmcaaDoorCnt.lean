/- How many zeros a word ends with, how many ones it has: plain arithmetic; no program in sight. -/
import Derived.Test.YtpgbepgbgpjmcaaDoorMath
import Derived.Lib.TrailingZeros
import Derived.Lib.BitFns
namespace Go.Proofs.YtpgbepgbgpjmcaaDoor.Wd
theorem ctz_hi {x : Nat} (h : x < 4294967296) : Lib.ctz 32 x ≤ 32 := by
  by_cases h0 : x = 0
  · simp [Lib.ctz, h0]
  · exact Nat.le_of_lt (Lib.lowest_bit 32 x h0 h).2
theorem ctz_low {x i : Nat} (h : x < 4294967296) (hi : i < Lib.ctz 32 x) : x / 2 ^ i % 2 = 0 := by
  by_cases h0 : x = 0
  · simp [h0]
  · obtain ⟨m, hm, hk⟩ := Lib.ctzFrom_spec 32 x (by omega) h
    have e : Lib.ctz 32 x = Lib.ctzFrom 32 x := by simp [Lib.ctz, h0]
    rw [e] at hi
    obtain ⟨d, hd⟩ : ∃ d, Lib.ctzFrom 32 x = i + (d + 1) := ⟨Lib.ctzFrom 32 x - i - 1, by omega⟩
    rw [hd, Nat.pow_add, Nat.mul_assoc] at hm
    rw [hm, Nat.mul_div_cancel_left _ (Nat.two_pow_pos i), Nat.pow_succ, Nat.mul_comm (2 ^ d) 2, Nat.mul_assoc]
    omega
theorem ctz_at {x : Nat} (h : x < 4294967296) (h2 : Lib.ctz 32 x < 32) : x / 2 ^ Lib.ctz 32 x % 2 = 1 := by
  by_cases h0 : x = 0
  · simp [Lib.ctz, h0] at h2
  · obtain ⟨m, hm, hk⟩ := Lib.ctzFrom_spec 32 x (by omega) h
    have e : Lib.ctz 32 x = Lib.ctzFrom 32 x := by simp [Lib.ctz, h0]
    rw [e]
    generalize Lib.ctzFrom 32 x = k at *
    rw [hm, Nat.mul_div_cancel_left _ (Nat.two_pow_pos k)]
    omega
/-- How many zeros a word of n bits ends with. -/
def trl (n x : Int) : Int := min n (Lib.ctz 32 x.toNat : Int)
theorem bitI {x : Int} {k : Nat} (h : 0 ≤ x) : (x / pw k).tmod 2 = ((x.toNat / 2 ^ k % 2 : Nat) : Int) := by
  rw [Int.tmod_eq_emod_of_nonneg (Int.ediv_nonneg h (Int.le_of_lt (pw_pos k)))]
  have h3 : x = (x.toNat : Int) := by omega
  rw [h3, pw_nat, ← Int.natCast_ediv, show (2 : Int) = ((2 : Nat) : Int) from rfl, ← Int.natCast_emod]
  simp
/-- How many of the lowest k bits are ones. -/
def ones (x : Nat) : Nat → Nat
  | 0 => 0
  | k + 1 => ones x k + x / 2 ^ k % 2
theorem ones_le (x : Nat) : ∀ k, ones x k ≤ k
  | 0 => Nat.le_refl _
  | k + 1 => by have := ones_le x k; simp only [ones]; omega
theorem ones_add (x j : Nat) : ∀ k, ones x (j + k) = ones x j + ones (x / 2 ^ j) k
  | 0 => rfl
  | k + 1 => by
    have := ones_add x j k
    rw [← Nat.add_assoc]
    simp only [ones]
    rw [this, Nat.div_div_eq_div_mul, ← Nat.pow_add]; omega
theorem ones_mod (x j : Nat) : ∀ k, k ≤ j → ones (x % 2 ^ j) k = ones x k
  | 0, _ => rfl
  | k + 1, h => by
    simp only [ones]
    rw [ones_mod x j k (by omega)]
    congr 1
    have e : j = k + 1 + (j - k - 1) := by omega
    have h1 := Nat.testBit_mod_two_pow x j k
    have h2 : decide (k < j) = true := by simp; omega
    rw [h2, Bool.true_and] at h1
    rw [Nat.testBit_eq_decide_div_mod_eq, Nat.testBit_eq_decide_div_mod_eq] at h1
    have h3 := decide_eq_decide.1 h1
    omega
theorem ones_top {x j : Nat} (h : x < 2 ^ j) : ∀ k, ones x (j + k) = ones x j
  | 0 => rfl
  | k + 1 => by
    rw [← Nat.add_assoc]
    simp only [ones]
    rw [ones_top h k, Nat.div_eq_of_lt (Nat.lt_of_lt_of_le h (Nat.pow_le_pow_right (by decide) (by omega)))]
    simp
theorem pop8_ones : ∀ n : Fin 256, Lib.pop8 (n.val : Int) = (ones n.val 8 : Int) := by decide +kernel
theorem pop8_le : ∀ n : Fin 256, 0 ≤ Lib.pop8 (n.val : Int) ∧ Lib.pop8 (n.val : Int) ≤ 8 := by decide +kernel
theorem pop8_of {b : Int} (h0 : 0 ≤ b) (h1 : b ≤ 255) : Lib.pop8 b = (ones b.toNat 8 : Int) ∧ 0 ≤ Lib.pop8 b ∧ Lib.pop8 b ≤ 8 := by
  have e := pop8_ones ⟨b.toNat, by omega⟩
  have l := pop8_le ⟨b.toNat, by omega⟩
  simp only [Int.toNat_of_nonneg h0] at e l
  exact ⟨e, l⟩
def on (n x : Int) : Int := (ones x.toNat n.toNat : Int)
/-- The ones of the four bytes are those of the word. -/
theorem pop_all {n x : Int} (h0 : 0 ≤ x) (h1 : x ≤ 4294967295) (n1 : 1 ≤ n) (n2 : n ≤ 32) (hx : x < pw n) :
    Lib.pop8 (x / 16777216) + Lib.pop8 (x / 65536 % 256) + Lib.pop8 (x / 256 % 256) + Lib.pop8 (x % 256) = on n x := by
  have a1 := pop8_of (b := x / 16777216) (by omega) (by omega)
  have a2 := pop8_of (b := x / 65536 % 256) (by omega) (by omega)
  have a3 := pop8_of (b := x / 256 % 256) (by omega) (by omega)
  have a4 := pop8_of (b := x % 256) (by omega) (by omega)
  rw [a1.1, a2.1, a3.1, a4.1]
  have e1 : (x / 16777216).toNat = x.toNat / 2 ^ 24 := by omega
  have e2 : (x / 65536 % 256).toNat = x.toNat / 2 ^ 16 % 2 ^ 8 := by omega
  have e3 : (x / 256 % 256).toNat = x.toNat / 2 ^ 8 % 2 ^ 8 := by omega
  have e4 : (x % 256).toNat = x.toNat % 2 ^ 8 := by omega
  rw [e1, e2, e3, e4]
  generalize hy : x.toNat = y
  have hxn : y < 2 ^ n.toNat := by rw [← hy]; exact to_lt hx
  rw [ones_mod _ 8 8 (by omega), ones_mod _ 8 8 (by omega), ones_mod _ 8 8 (by omega)]
  have s1 : ones y 32 = ones y 8 + ones (y / 2 ^ 8) 24 := ones_add y 8 24
  have s2 : ones (y / 2 ^ 8) 24 = ones (y / 2 ^ 8) 8 + ones (y / 2 ^ 16) 16 := by
    have := ones_add (y / 2 ^ 8) 8 16
    rw [Nat.div_div_eq_div_mul, ← Nat.pow_add] at this
    exact this
  have s3 : ones (y / 2 ^ 16) 16 = ones (y / 2 ^ 16) 8 + ones (y / 2 ^ 24) 8 := by
    have := ones_add (y / 2 ^ 16) 8 8
    rw [Nat.div_div_eq_div_mul, ← Nat.pow_add] at this
    exact this
  have s4 := ones_top hxn (32 - n.toNat)
  have e5 : n.toNat + (32 - n.toNat) = 32 := by omega
  rw [e5] at s4
  unfold on
  rw [hy]
  omega
theorem on_bd {n x : Int} (n2 : n ≤ 32) : 0 ≤ on n x ∧ on n x ≤ 32 := by
  have := ones_le x.toNat n.toNat
  unfold on
  omega
end Go.Proofs.YtpgbepgbgpjmcaaDoor.Wd
