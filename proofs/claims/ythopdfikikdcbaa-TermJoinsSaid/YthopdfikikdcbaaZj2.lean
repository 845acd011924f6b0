/- The words of chapter 1 as numbers: what each operation makes, in plain arithmetic; no program in sight. -/
import Derived.Laws.BitsAllLaws
import Derived.Laws.Entries
import Derived.Test.YthopdfikikdcbaaRows
import Derived.WalkKit
import Derived.WalkSpells
import Derived.WalkLawsBesides
import Derived.BigGuardPart
import Derived.BigQuiet
import Derived.Laws.EntriesVeiled
import Derived.Lib.Hide
import Derived.Deep.RegionWith
import Derived.Test.YthopdfikikdcbaaZj1
namespace Go.Proofs.Ythopdfikikdcbaa.Wd

/-- 2 to the n. -/
def pw (n : Int) : Int := 2 ^ n.toNat
/-- n is a width. -/
def isW (n : Int) : Bool := decide (1 ≤ n ∧ n ≤ 32)
/-- a is a word of n bits (a is not negative). -/
def fit (n a : Int) : Bool := decide (a < pw n)
def sgn (n a : Int) : Int := if pw (n - 1) ≤ a then a - pw n else a
def wr (n x : Int) : Int := x % pw n

theorem pw_pos (n : Int) : 0 < pw n := by unfold pw; exact Int.pow_pos (by decide)
theorem pw_succ (n : Int) (h : 1 ≤ n) : pw n = 2 * pw (n - 1) := by
  unfold pw
  have : n.toNat = (n - 1).toNat + 1 := by omega
  rw [this, Int.pow_succ]; omega
theorem pw_mono {m n : Int} (h : m ≤ n) : pw m ≤ pw n := by
  unfold pw
  have h2 := Nat.pow_le_pow_right (n := 2) (by decide) (Int.toNat_le_toNat h)
  have := Int.ofNat_le.2 h2
  simpa using this
theorem pw_32 : pw 32 = 4294967296 := by decide
theorem pw_31 : pw 31 = 2147483648 := by decide
theorem pw_le32 {n : Int} (h : n ≤ 32) : pw n ≤ 4294967296 := by rw [← pw_32]; exact pw_mono h
theorem pw_le31 {n : Int} (h : n ≤ 31) : pw n ≤ 2147483648 := by rw [← pw_31]; exact pw_mono h
/-- The word of which each bit is the sign of a word. -/
def signV (n a : Int) : Int := if sgn n a < 0 then pw n - 1 else 0
theorem pw_cast (k : Nat) : pw (k : Int) = 2 ^ k := by simp [pw]
theorem pw_nat (k : Nat) : pw (k : Int) = ((2 ^ k : Nat) : Int) := by unfold pw; simp
theorem wr_lo (n x : Int) : 0 ≤ wr n x := Int.emod_nonneg _ (by have := pw_pos n; omega)
theorem wr_hi (n x : Int) : wr n x < pw n := Int.emod_lt_of_pos _ (pw_pos n)

theorem sgn_hi {n a : Int} (h : pw (n - 1) ≤ a) : sgn n a = a - pw n := if_pos h
theorem sgn_lo {n a : Int} (h : a < pw (n - 1)) : sgn n a = a := if_neg (by omega)

theorem hi_bit (n x : Int) (h1 : 1 ≤ n) (h3 : 0 ≤ x) (h4 : x < pw n) : x / 2 ^ (n.toNat - 1) = if pw (n - 1) ≤ x then 1 else 0 := by
  have e : n.toNat - 1 = (n - 1).toNat := by omega
  rw [e]
  have hp := pw_succ n h1
  have hp0 := pw_pos (n - 1)
  show x / pw (n - 1) = _
  split
  · have : x = (x - pw (n - 1)) + 1 * pw (n - 1) := by omega
    rw [this, Int.add_mul_ediv_right _ _ (by omega), Int.ediv_eq_zero_of_lt (by omega) (by omega)]; rfl
  · exact Int.ediv_eq_zero_of_lt h3 (by omega)
theorem tmod_wr (n x : Int) : wr n x = if x.tmod (pw n) < 0 then x.tmod (pw n) + pw n else x.tmod (pw n) := by
  have hp := pw_pos n
  unfold wr
  rw [Int.tmod_eq_emod]
  have h1 := Int.emod_nonneg x (show pw n ≠ 0 by omega)
  have h2 := Int.emod_lt_of_pos x hp
  split <;> split <;> omega

theorem dn_succ (x : Int) (j : Nat) : x / 2 ^ (j + 1) = x / 2 ^ j / 2 := by
  rw [Int.pow_succ, Int.ediv_ediv_of_nonneg (Int.pow_nonneg (by decide))]
theorem dn_lo (x : Int) (j : Nat) (h : -4294967296 ≤ x) : -4294967296 ≤ x / 2 ^ j := by
  induction j with
  | zero => simpa using h
  | succ j ih => rw [dn_succ]; omega
theorem dn_hi (x : Int) (j : Nat) (h : x ≤ 4294967296) : x / 2 ^ j ≤ 4294967296 := by
  induction j with
  | zero => simpa using h
  | succ j ih => rw [dn_succ]; omega

/-- The lowest j bits of x, as a number. -/
def lo (x j : Nat) : Int := ((x % 2 ^ j : Nat) : Int)
theorem lo_zero (x : Nat) : lo x 0 = 0 := by simp [lo, Nat.mod_one]
theorem lo_nn (x j : Nat) : 0 ≤ lo x j := Int.natCast_nonneg _
theorem lo_lt (x j : Nat) : lo x j < pw j := by
  rw [pw_nat]; exact Int.ofNat_lt.2 (Nat.mod_lt _ (Nat.two_pow_pos j))
theorem lo_1 (x j : Nat) (h : x.testBit j = true) : lo x (j + 1) = lo x j + pw j := by
  rw [pw_nat]; unfold lo
  rw [Nat.mod_pow_succ]
  have : x / 2 ^ j % 2 = 1 := by simpa [Nat.testBit_eq_decide_div_mod_eq] using h
  rw [this]; simp
theorem lo_0 (x j : Nat) (h : x.testBit j = false) : lo x (j + 1) = lo x j := by
  unfold lo
  rw [Nat.mod_pow_succ]
  have : x / 2 ^ j % 2 = 0 := by
    have h2 : ¬ x / 2 ^ j % 2 = 1 := by simpa [Nat.testBit_eq_decide_div_mod_eq] using h
    omega
  rw [this]; simp
theorem lo_all (x j : Nat) (h : (x : Int) < pw j) : lo x j = x := by
  unfold lo
  rw [pw_nat] at h
  rw [Nat.mod_eq_of_lt (Int.ofNat_lt.1 h)]
theorem bit_1 (a : Int) (j : Nat) (h : 0 ≤ a) (e : a.toNat.testBit j = true) : (a / pw j).tmod 2 = 1 := by
  rw [Int.tmod_eq_emod_of_nonneg (Int.ediv_nonneg h (Int.le_of_lt (pw_pos j)))]
  have h2 : a.toNat / 2 ^ j % 2 = 1 := by simpa [Nat.testBit_eq_decide_div_mod_eq] using e
  have h3 : a = (a.toNat : Int) := by omega
  rw [h3, pw_nat, ← Int.natCast_ediv, show (2 : Int) = ((2 : Nat) : Int) from rfl, ← Int.natCast_emod, h2]; rfl
theorem bit_0 (a : Int) (j : Nat) (h : 0 ≤ a) (e : a.toNat.testBit j = false) : (a / pw j).tmod 2 = 0 := by
  rw [Int.tmod_eq_emod_of_nonneg (Int.ediv_nonneg h (Int.le_of_lt (pw_pos j)))]
  have h2 : a.toNat / 2 ^ j % 2 = 0 := by
    have h2 : ¬ a.toNat / 2 ^ j % 2 = 1 := by simpa [Nat.testBit_eq_decide_div_mod_eq] using e
    omega
  have h3 : a = (a.toNat : Int) := by omega
  rw [h3, pw_nat, ← Int.natCast_ediv, show (2 : Int) = ((2 : Nat) : Int) from rfl, ← Int.natCast_emod, h2]; rfl
theorem and_lt (a b n : Int) (_h1 : 0 ≤ a) (h2 : a < pw n) : ((a.toNat &&& b.toNat : Nat) : Int) < pw n := by
  have := @Nat.and_le_left a.toNat b.toNat
  omega
theorem to_lt {a n : Int} (h2 : a < pw n) : a.toNat < 2 ^ n.toNat := by
  have := pw_pos n
  have e : ((2 ^ n.toNat : Nat) : Int) = pw n := by unfold pw; simp
  omega
theorem or_lt (a b n : Int) (h2 : a < pw n) (h4 : b < pw n) : ((a.toNat ||| b.toNat : Nat) : Int) < pw n := by
  have := Nat.or_lt_two_pow (to_lt h2) (to_lt h4)
  have e : ((2 ^ n.toNat : Nat) : Int) = pw n := by unfold pw; simp
  omega
theorem xor_lt (a b n : Int) (h2 : a < pw n) (h4 : b < pw n) : ((a.toNat ^^^ b.toNat : Nat) : Int) < pw n := by
  have := Nat.xor_lt_two_pow (to_lt h2) (to_lt h4)
  have e : ((2 ^ n.toNat : Nat) : Int) = pw n := by unfold pw; simp
  omega

theorem wr_shl (n a : Int) (j : Nat) : wr n (a * pw (j + 1 : Nat)) = 2 * wr n (a * pw j) % pw n := by
  unfold wr
  have : pw (j + 1 : Nat) = 2 * pw j := by rw [pw_nat, pw_nat, Nat.pow_succ]; omega
  rw [this, Int.mul_emod 2 (a * pw j % pw n), Int.emod_emod_of_dvd _ (Int.dvd_refl _), ← Int.mul_emod]
  congr 1
  rw [← Int.mul_assoc, Int.mul_comm a 2, Int.mul_assoc]
theorem wr_small {n a : Int} (h1 : 0 ≤ a) (h2 : a < pw n) : wr n a = a := Int.emod_eq_of_lt h1 h2

theorem sgn_ge {n a : Int} (h1 : 1 ≤ n) (_h2 : n ≤ 32) (h3 : 0 ≤ a) : -pw (n - 1) ≤ sgn n a := by
  have := pw_succ n h1
  have := pw_pos (n - 1)
  unfold sgn; split <;> omega
theorem sgn_le {n a : Int} (h1 : 1 ≤ n) (h4 : a < pw n) : sgn n a < pw (n - 1) := by
  have := pw_succ n h1
  have := pw_pos (n - 1)
  unfold sgn; split <;> omega
theorem sgn_lo32 {n a : Int} (h1 : 1 ≤ n) (h2 : n ≤ 32) (h3 : 0 ≤ a) : -2147483648 ≤ sgn n a := by
  have := sgn_ge h1 h2 h3
  have := @pw_le31 (n - 1) (by omega)
  omega
theorem sgn_hi32 {n a : Int} (h1 : 1 ≤ n) (h2 : n ≤ 32) (h4 : a < pw n) : sgn n a ≤ 2147483647 := by
  have := sgn_le h1 h4
  have := @pw_le31 (n - 1) (by omega)
  omega

/-- What an operation makes of two words; where there is none, what the solver takes. -/
def tot (op n a b : Int) : Int :=
  if op = 1 then wr n (a + b) else
  if op = 2 then wr n (a - b) else
  if op = 3 then wr n (a * b) else
  if op = 4 then (if b = 0 then pw n - 1 else a / b) else
  if op = 5 then (if b = 0 then a else a % b) else
  if op = 6 then (if b = 0 then (if sgn n a < 0 then 1 else pw n - 1) else if sgn n a = -pw (n - 1) ∧ sgn n b = -1 then a else wr n ((sgn n a).tdiv (sgn n b))) else
  if op = 7 then (if b = 0 then a else if sgn n a = -pw (n - 1) ∧ sgn n b = -1 then 0 else wr n ((sgn n a).tmod (sgn n b))) else
  if op = 8 then ((a.toNat &&& b.toNat : Nat) : Int) else
  if op = 9 then ((a.toNat ||| b.toNat : Nat) : Int) else
  if op = 10 then ((a.toNat ^^^ b.toNat : Nat) : Int) else
  if op = 11 then (if n ≤ b then 0 else wr n (a * pw b)) else
  if op = 12 then (if n ≤ b then 0 else a / pw b) else
  (if n ≤ b then (if sgn n a < 0 then pw n - 1 else 0) else wr n (sgn n a / pw b))
/-- Whether there is a word. -/
def has (op n a b : Int) : Bool :=
  if op = 4 ∨ op = 5 then decide (b ≠ 0) else
  if op = 6 ∨ op = 7 then decide (b ≠ 0 ∧ ¬ (sgn n a = -pw (n - 1) ∧ sgn n b = -1)) else
  if op = 11 ∨ op = 12 ∨ op = 13 then decide (b < n) else true
/-- The operation and its words are right. -/
def good (op n a b : Int) : Bool := decide (1 ≤ op ∧ op ≤ 13 ∧ 1 ≤ n ∧ n ≤ 32 ∧ a < pw n ∧ b < pw n)

theorem sgn_wr (n a : Int) : ∃ k, sgn n a = a + k * pw n := by
  unfold sgn
  split
  · exact ⟨-1, by omega⟩
  · exact ⟨0, by omega⟩
theorem wr_mul (n a b : Int) : wr n (sgn n a * sgn n b) = wr n (a * b) := by
  obtain ⟨k, hk⟩ := sgn_wr n a
  obtain ⟨l, hl⟩ := sgn_wr n b
  unfold wr
  rw [hk, hl]
  have : (a + k * pw n) * (b + l * pw n) = a * b + (a * l + k * b + k * l * pw n) * pw n := by
    simp only [Int.add_mul, Int.mul_add, Int.mul_assoc, Int.mul_comm, Int.mul_left_comm]; omega
  rw [this, Int.add_mul_emod_self_right]
theorem mul_bd {x y m : Int} (h1 : -m ≤ x) (h2 : x ≤ m) (h3 : -m ≤ y) (h4 : y ≤ m) : -(m * m) ≤ x * y ∧ x * y ≤ m * m := by
  have hx : x.natAbs ≤ m.natAbs := by omega
  have hy : y.natAbs ≤ m.natAbs := by omega
  have h : (x * y).natAbs ≤ (m * m).natAbs := by
    rw [Int.natAbs_mul, Int.natAbs_mul]; exact Nat.mul_le_mul hx hy
  have hm : 0 ≤ m * m := Int.mul_nonneg (by omega) (by omega)
  omega
theorem mul_lo32 {x y : Int} (h1 : -2147483648 ≤ x) (h2 : x ≤ 2147483647) (h3 : -2147483648 ≤ y) (h4 : y ≤ 2147483647) : -4611686018427387904 ≤ x * y ∧ x * y ≤ 4611686018427387904 := by
  have := mul_bd (m := 2147483648) h1 (by omega) h3 (by omega)
  omega
theorem tdiv_bd {x y : Int} (h1 : -2147483648 ≤ x) (h2 : x ≤ 2147483647) : -2147483648 ≤ x.tdiv y ∧ x.tdiv y ≤ 2147483648 := by
  have h := Int.natAbs_tdiv_le_natAbs x y
  omega
theorem tmod_bd {x y : Int} (h1 : -2147483648 ≤ x) (h2 : x ≤ 2147483647) : -2147483648 ≤ x.tmod y ∧ x.tmod y ≤ 2147483648 := by
  have h : (x.tmod y).natAbs ≤ x.natAbs := by rw [Int.natAbs_tmod]; exact Nat.mod_le _ _
  omega
theorem tmod_q (x y : Int) : x.tdiv y * y = x - x.tmod y := by
  have := Int.tmod_add_mul_tdiv x y
  rw [Int.mul_comm] at this
  omega
theorem sgn_zero {n b : Int} (h1 : 1 ≤ n) (h4 : b < pw n) : sgn n b = 0 ↔ b = 0 := by
  have := pw_succ n h1
  have := pw_pos (n - 1)
  unfold sgn; split <;> omega
theorem good_iff (op n a b : Int) : good op n a b = true ↔ 1 ≤ op ∧ op ≤ 13 ∧ 1 ≤ n ∧ n ≤ 32 ∧ a < pw n ∧ b < pw n := by simp [good]
/-- v is a word of n bits. -/
def Word (n v : Int) : Prop := 0 ≤ v ∧ v < pw n
theorem word_ite {n x y : Int} {c : Prop} [Decidable c] (h1 : c → Word n x) (h2 : ¬c → Word n y) : Word n (if c then x else y) := by
  by_cases h : c
  · rw [if_pos h]; exact h1 h
  · rw [if_neg h]; exact h2 h
theorem word_wr (n x : Int) : Word n (wr n x) := ⟨wr_lo n x, wr_hi n x⟩
theorem tot_word {op n a b : Int} (g : good op n a b = true) (ha : 0 ≤ a) (hb : 0 ≤ b) : Word n (tot op n a b) := by
  obtain ⟨g1, g2, g3, g4, g5, g6⟩ := (good_iff _ _ _ _).1 g
  have hp := pw_pos n
  have hp2 := pw_succ n g3
  have hp3 := pw_pos (n - 1)
  have hd : a / b ≤ a := Int.ediv_le_self b ha
  have hd2 : a / pw b ≤ a := Int.ediv_le_self _ ha
  have hd3 : 0 ≤ a / b := Int.ediv_nonneg ha hb
  have hd4 : 0 ≤ a / pw b := Int.ediv_nonneg ha (Int.le_of_lt (pw_pos _))
  have hm : b ≠ 0 → Word n (a % b) := fun h => ⟨Int.emod_nonneg _ h, by have := Int.emod_lt_of_pos a (show 0 < b by omega); omega⟩
  have wa : Word n (((a.toNat &&& b.toNat : Nat) : Int)) := ⟨Int.natCast_nonneg _, and_lt a b n ha g5⟩
  have wo : Word n (((a.toNat ||| b.toNat : Nat) : Int)) := ⟨Int.natCast_nonneg _, or_lt a b n g5 g6⟩
  have wx : Word n (((a.toNat ^^^ b.toNat : Nat) : Int)) := ⟨Int.natCast_nonneg _, xor_lt a b n g5 g6⟩
  unfold tot
  repeat' (refine word_ite (fun _ => ?_) (fun _ => ?_))
  all_goals first | exact word_wr _ _ | assumption | exact hm ‹_› | exact ⟨by omega, by omega⟩
theorem tot_lo {op n a b : Int} (g : good op n a b = true) (ha : 0 ≤ a) (hb : 0 ≤ b) : 0 ≤ tot op n a b := (tot_word g ha hb).1
theorem tot_hi {op n a b : Int} (g : good op n a b = true) (ha : 0 ≤ a) (hb : 0 ≤ b) : tot op n a b < pw n := (tot_word g ha hb).2
theorem tot_32 {op n a b : Int} (g : good op n a b = true) (ha : 0 ≤ a) (hb : 0 ≤ b) : tot op n a b ≤ 4294967295 := by
  have h1 := tot_hi g ha hb
  have h2 := @pw_le32 n (by have := (good_iff _ _ _ _).1 g; omega)
  omega
theorem pw_dvd {m n : Int} (h : m ≤ n) : pw m ∣ pw n := by
  have e : n.toNat = m.toNat + (n.toNat - m.toNat) := by have := Int.toNat_le_toNat h; omega
  unfold pw
  rw [e, Int.pow_add]
  exact Int.dvd_mul_right _ _
theorem pw_toNat (n : Int) : (pw n - 1).toNat = 2 ^ n.toNat - 1 := by
  have e : ((2 ^ n.toNat : Nat) : Int) = pw n := by unfold pw; simp
  have := Nat.two_pow_pos n.toNat
  omega
theorem mask_fit {n x : Int} (h1 : n ≤ 32) (h3 : 0 ≤ x) (h4 : x ≤ 4294967295) : bits .and .u32 x (pw n - 1) = wr n x := by
  have hp := pw_pos n
  have hp2 := pw_le32 h1
  rw [u32_and x _ h3 (by omega) (by omega) (by omega), pw_toNat, Nat.and_two_pow_sub_one_eq_mod]
  unfold wr
  have e : ((2 ^ n.toNat : Nat) : Int) = pw n := by unfold pw; simp
  rw [Int.natCast_emod, e]
  congr 1
  omega
theorem wr_mod {n : Int} (h1 : n ≤ 32) (x : Int) : wr n (x % 4294967296) = wr n x := by
  unfold wr
  rw [← pw_32]
  exact Int.emod_emod_of_dvd x (pw_dvd h1)
theorem mask_wr {n : Int} (h1 : n ≤ 32) (x : Int) : bits .and .u32 (x % 4294967296) (pw n - 1) = wr n x := by
  rw [mask_fit h1 (by omega) (by omega), wr_mod h1]

/-! ### lanes: digits of the base L -/
/-- The number with the digits d 0 .. d (j - 1). -/
def sumTo (L : Int) (d : Nat → Int) : Nat → Int
  | 0 => 0
  | j + 1 => sumTo L d j + d j * L ^ j
theorem sumTo_bd {L : Int} {d : Nat → Int} (hL : 0 < L) (hd : ∀ i, 0 ≤ d i ∧ d i < L) : ∀ j, 0 ≤ sumTo L d j ∧ sumTo L d j < L ^ j
  | 0 => by simp [sumTo]
  | j + 1 => by
    have ih := sumTo_bd hL hd j
    have hp : 0 < L ^ j := Int.pow_pos hL
    obtain ⟨h1, h2⟩ := hd j
    have h3 : 0 ≤ d j * L ^ j := Int.mul_nonneg h1 (Int.le_of_lt hp)
    have h4 : d j * L ^ j ≤ (L - 1) * L ^ j := Int.mul_le_mul_of_nonneg_right (by omega) (Int.le_of_lt hp)
    have h5 : (L - 1) * L ^ j = L ^ (j + 1) - L ^ j := by rw [Int.sub_mul, Int.pow_succ, Int.mul_comm L, Int.one_mul]
    simp only [sumTo]
    omega
theorem sumTo_digit {L : Int} {d : Nat → Int} (hL : 0 < L) (hd : ∀ i, 0 ≤ d i ∧ d i < L) : ∀ j i, i < j → sumTo L d j / L ^ i % L = d i
  | 0, i, h => absurd h (by omega)
  | j + 1, i, h => by
    have hp : 0 < L ^ i := Int.pow_pos hL
    simp only [sumTo]
    by_cases e : i = j
    · subst e
      have hb := sumTo_bd hL hd i
      rw [Int.add_mul_ediv_right _ _ (by omega), Int.ediv_eq_zero_of_lt hb.1 hb.2, Int.zero_add]
      exact Int.emod_eq_of_lt (hd i).1 (hd i).2
    · have ih := sumTo_digit hL hd j i (by omega)
      have e2 : d j * L ^ j = d j * L ^ (j - i - 1) * L * L ^ i := by
        have : j = (j - i - 1) + 1 + i := by omega
        rw [this, Int.pow_add, Int.pow_succ]
        have e3 : j - i - 1 + 1 + i - i - 1 = j - i - 1 := by omega
        simp only [← this, Int.mul_assoc]
      rw [e2, Int.add_mul_ediv_right _ _ (by omega), Int.add_mul_emod_self_right]
      exact ih
theorem emod_split {a P L : Int} (hP : 0 < P) : a % (P * L) = a % P + a / P % L * P := by
  rw [Int.emod_def a (P * L), Int.emod_def a P, Int.emod_def (a / P) L, Int.ediv_ediv_of_nonneg (Int.le_of_lt hP), Int.sub_mul]
  have e1 : L * (a / (P * L)) * P = P * L * (a / (P * L)) := by rw [Int.mul_comm, ← Int.mul_assoc]
  have e2 : a / P * P = P * (a / P) := Int.mul_comm _ _
  rw [e1, e2]
  omega
theorem sumTo_self {L : Int} (hL : 0 < L) (a : Int) : ∀ j, sumTo L (fun i => a / L ^ i % L) j = a % L ^ j
  | 0 => by simp [sumTo, Int.emod_one]
  | j + 1 => by
    have hp : 0 < L ^ j := Int.pow_pos hL
    simp only [sumTo]
    rw [sumTo_self hL a j, Int.pow_succ, emod_split hp]
theorem sumTo_congr {L : Int} {d e : Nat → Int} : ∀ j, (∀ i, i < j → d i = e i) → sumTo L d j = sumTo L e j
  | 0, _ => rfl
  | j + 1, h => by
    simp only [sumTo]
    rw [sumTo_congr j (fun i hi => h i (by omega)), h j (by omega)]

/-- The lane number j of two words, what the operation makes of it. -/
def lane (op l a b : Int) (j : Nat) : Int := wr l (if op = 20 then wr l (a / pw l ^ j) - wr l (b / pw l ^ j) else wr l (a / pw l ^ j) + wr l (b / pw l ^ j))
/-- What Lanes makes. -/
def lanes (op n l a b : Int) : Int := sumTo (pw l) (lane op l a b) (n / l).toNat
def goodL (op n l a b : Int) : Bool := decide ((op = 19 ∨ op = 20) ∧ 1 ≤ n ∧ n ≤ 32 ∧ a < pw n ∧ b < pw n ∧ 1 ≤ l ∧ l < n ∧ n % l = 0)
theorem goodL_iff (op n l a b : Int) : goodL op n l a b = true ↔ (op = 19 ∨ op = 20) ∧ 1 ≤ n ∧ n ≤ 32 ∧ a < pw n ∧ b < pw n ∧ 1 ≤ l ∧ l < n ∧ n % l = 0 := by simp only [goodL, decide_eq_true_eq]
theorem lane_bd (op l a b : Int) (j : Nat) : 0 ≤ lane op l a b j ∧ lane op l a b j < pw l := ⟨wr_lo _ _, wr_hi _ _⟩
theorem pw_mul (l : Nat) (j : Nat) : pw (l : Int) ^ j = 2 ^ (j * l) := by rw [pw_cast, ← Int.pow_mul, Nat.mul_comm]
theorem lanes_count {n l : Int} (h1 : 1 ≤ l) (h2 : n % l = 0) (h3 : 1 ≤ n) : ((n / l).toNat : Int) * l = n := by
  have h4 : 0 ≤ n / l := Int.ediv_nonneg (by omega) (by omega)
  rw [Int.toNat_of_nonneg h4]
  have := Int.ediv_mul_add_emod n l
  omega
theorem lanes_bd {op n l a b : Int} (h1 : 1 ≤ l) (h2 : n % l = 0) (h3 : 1 ≤ n) : 0 ≤ lanes op n l a b ∧ lanes op n l a b < pw n := by
  have h := sumTo_bd (pw_pos l) (lane_bd op l a b) (n / l).toNat
  have hc := lanes_count h1 h2 h3
  obtain ⟨m, rfl⟩ := Int.eq_ofNat_of_zero_le (show 0 ≤ l by omega)
  obtain ⟨k, rfl⟩ := Int.eq_ofNat_of_zero_le (show 0 ≤ n by omega)
  have e : pw (m : Int) ^ ((k : Int) / (m : Int)).toNat = pw k := by
    rw [pw_mul, pw_cast]
    congr 1
    exact_mod_cast hc
  rw [e] at h
  exact h
/-- A difference takes back a sum, and a sum a difference. -/
theorem lanes_back {op n l a b : Int} (g : goodL op n l a b = true) (ha : 0 ≤ a) : lanes (39 - op) n l (lanes op n l a b) b = a := by
  obtain ⟨g0, g1, g2, g3, g4, g5, g6, g7⟩ := (goodL_iff _ _ _ _ _).1 g
  have hc := lanes_count g5 g7 g1
  have hL := pw_pos l
  have h1 : ∀ i, i < (n / l).toNat → lane (39 - op) l (lanes op n l a b) b i = a / pw l ^ i % pw l := by
    intro i hi
    have hd := sumTo_digit hL (lane_bd op l a b) _ i hi
    have e : wr l (lanes op n l a b / pw l ^ i) = lane op l a b i := hd
    show wr l (if 39 - op = 20 then wr l (lanes op n l a b / pw l ^ i) - wr l (b / pw l ^ i) else wr l (lanes op n l a b / pw l ^ i) + wr l (b / pw l ^ i)) = _
    rw [e]
    unfold lane
    generalize wr l (b / pw l ^ i) = q
    generalize a / pw l ^ i = p
    rcases g0 with rfl | rfl
    · rw [if_pos (by decide), if_neg (by decide)]
      unfold wr
      rw [Int.emod_sub_emod, show p % pw l + q - q = p % pw l by omega, Int.emod_emod_of_dvd _ (Int.dvd_refl _)]
    · rw [if_neg (by decide), if_pos (by decide)]
      unfold wr
      rw [Int.emod_add_emod, show p % pw l - q + q = p % pw l by omega, Int.emod_emod_of_dvd _ (Int.dvd_refl _)]
  show sumTo (pw l) (lane (39 - op) l (lanes op n l a b) b) (n / l).toNat = a
  rw [sumTo_congr _ h1, sumTo_self hL]
  obtain ⟨m, rfl⟩ := Int.eq_ofNat_of_zero_le (show 0 ≤ l by omega)
  obtain ⟨k, rfl⟩ := Int.eq_ofNat_of_zero_le (show 0 ≤ n by omega)
  have e : pw (m : Int) ^ ((k : Int) / (m : Int)).toNat = pw k := by
    rw [pw_mul, pw_cast]
    congr 1
    exact_mod_cast hc
  rw [e]
  exact Int.emod_eq_of_lt ha g3
theorem lane_fit {k t m : Nat} {j : Nat} {out z : Int} (h1 : out < pw k ^ j) (h2 : pw (k : Int) ^ j = 2 ^ t) (h3 : z < pw k) (h4 : t + k ≤ m) : out + z * 2 ^ t < pw m := by
  rw [h2] at h1
  have hp : (0 : Int) < 2 ^ t := Int.pow_pos (by decide)
  have e1 : z * 2 ^ t ≤ (pw k - 1) * 2 ^ t := Int.mul_le_mul_of_nonneg_right (by omega) (Int.le_of_lt hp)
  have e2 : (pw (k : Int) - 1) * 2 ^ t = pw ((t + k : Nat) : Int) - 2 ^ t := by rw [Int.sub_mul, Int.one_mul, pw_cast, pw_cast, Int.pow_add, Int.mul_comm]
  have e3 : pw ((t + k : Nat) : Int) ≤ pw m := pw_mono (by omega)
  omega
theorem or_join {t : Nat} {out z : Int} (h1 : 0 ≤ out) (h2 : out < 2 ^ t) (h3 : 0 ≤ z) (h4 : z * 2 ^ t ≤ 4294967295) (h5 : out ≤ 4294967295) : bits .or .u32 out (z * 2 ^ t) = out + z * 2 ^ t := by
  obtain ⟨o, rfl⟩ := Int.eq_ofNat_of_zero_le h1
  obtain ⟨y, rfl⟩ := Int.eq_ofNat_of_zero_le h3
  have e : (y : Int) * 2 ^ t = ((y * 2 ^ t : Nat) : Int) := by rw [Int.natCast_mul, Int.natCast_pow]; rfl
  have ho : o < 2 ^ t := by
    have e3 : ((2 ^ t : Nat) : Int) = 2 ^ t := by rw [Int.natCast_pow]; rfl
    omega
  rw [e] at h4 ⊢
  have hy : y * 2 ^ t ≤ 4294967295 := Int.ofNat_le.1 h4
  by_cases hy0 : y = 0
  · subst hy0
    rw [u32_or _ _ (by omega) (by omega) (by omega) (by omega)]; simp
  · have : 2 ^ t ≤ y * 2 ^ t := Nat.le_mul_of_pos_left _ (by omega)
    rw [u32_or _ _ (by omega) (by omega) (by omega) (by omega)]
    simp only [Int.toNat_natCast]
    rw [Nat.or_comm, nat_join t _ _ (Nat.mul_mod_left _ _) ho]
    omega
end Go.Proofs.Ythopdfikikdcbaa.Wd
/- Walks of the small functions of packages bits and backstayref01: what each returns, said of numbers. -/
namespace Go.Proofs.Ythopdfikikdcbaa
open Go.RowKit Wd

theorem ret_i {k : IntKind} {a b : Int} (h : a = b) : Ending.returned (.int k a) = .returned (.int k b) := by rw [h]
theorem ret_b {a b : Bool} (h : a = b) : Ending.returned (.bool a) = .returned (.bool b) := by rw [h]

theorem isWidth_any (n : Int) (w : World) : Calls Try.prog 79 #[.int .i64 n] w fun e w' => e = .returned (.bool (isW n)) ∧ w = w' := by
  by_cases h1 : 1 ≤ n <;> by_cases h2 : n ≤ 32
  all_goals
    go_enter Try.func79, Try.ntmps79
    go_wp2
    go_ret
    exact ⟨ret_b (by simp [isW, h1, h2]), rfl⟩

theorem rIsWidth_any (n : Int) (w : World) : Calls Try.prog 107 #[.int .i64 n] w fun e w' => e = .returned (.bool (isW n)) ∧ w = w' := by
  by_cases h1 : 1 ≤ n <;> by_cases h2 : n ≤ 32
  all_goals
    go_enter Try.func107, Try.ntmps107
    go_wp2
    go_ret
    exact ⟨ret_b (by simp [isW, h1, h2]), rfl⟩

theorem mask_any (n : Int) (w : World) (h1 : 1 ≤ n) (h2 : n ≤ 32) : Calls Try.prog 80 #[.int .i64 n] w fun e w' => e = .returned (.int .u32 (pw n - 1)) ∧ w = w' := by
  have hp := pw_le32 h2
  have hp0 := pw_pos n
  have e1 : IntKind.u64.wrap (2 ^ n.toNat) = pw n := by
    show IntKind.u64.wrap (pw n) = pw n
    exact IntWalk.u64_in _ (by omega)
  go_enter Try.func80, Try.ntmps80
  go_wp2
  go_ret
  exact ⟨rfl, rfl⟩
theorem size_any (n : Int) (w : World) (h1 : 0 ≤ n) (h2 : n ≤ 32) : Calls Try.prog 108 #[.int .i64 n] w fun e w' => e = .returned (.int .i64 (pw n)) ∧ w = w' := by
  have hp := pw_le32 h2
  have hp0 := pw_pos n
  go_enter Try.func108, Try.ntmps108
  go_wp2
  go_ret
  exact ⟨ret_i (IntWalk.wrap64_in (pw n) (by omega)), rfl⟩

theorem signed_any (n x : Int) (w : World) (h1 : 1 ≤ n) (h2 : n ≤ 32) (h3 : 0 ≤ x) (h4 : x < pw n) : Calls Try.prog 105 #[.int .i64 n, .int .u32 x] w fun e w' => e = .returned (.int .i64 (sgn n x)) ∧ w = w' := by
  have hp := pw_le32 h2
  have hp0 := pw_pos n
  have e1 : wrap64 (2 ^ n.toNat) = pw n := by
    show wrap64 (pw n) = pw n
    exact IntWalk.wrap64_in _ (by omega)
  have e2 := hi_bit n x h1 h3 h4
  by_cases hc : pw (n - 1) ≤ x
  · rw [if_pos hc] at e2
    go_enter Try.func105, Try.ntmps105
    go_wp2
    go_ret
    exact ⟨ret_i (sgn_hi hc).symm, rfl⟩
  · rw [if_neg hc] at e2
    go_enter Try.func105, Try.ntmps105
    go_wp2
    go_ret
    exact ⟨ret_i (sgn_lo (by omega)).symm, rfl⟩
theorem rSign_any (n x : Int) (w : World) (h1 : 1 ≤ n) (h2 : n ≤ 32) (h3 : 0 ≤ x) (h4 : x ≤ 4294967295) : Calls Try.prog 111 #[.int .i64 n, .int .u32 x] w fun e w' => e = .returned (.int .i64 (sgn n x)) ∧ w = w' := by
  have hp := pw_le32 h2
  have hp0 := pw_pos n
  by_cases hc : pw (n - 1) ≤ x
  · go_enter Try.func111, Try.ntmps111
    go_wp2_with (first | (go_at_call 108; refine (size_any _ _ (by omega) (by omega)).mono ?_; rintro e w' ⟨rfl, rfl⟩))
    go_ret
    exact ⟨ret_i (sgn_hi hc).symm, rfl⟩
  · go_enter Try.func111, Try.ntmps111
    go_wp2_with (first | (go_at_call 108; refine (size_any _ _ (by omega) (by omega)).mono ?_; rintro e w' ⟨rfl, rfl⟩))
    go_ret
    exact ⟨ret_i (sgn_lo (by omega)).symm, rfl⟩
theorem rWrap_any (n x : Int) (w : World) (h1 : 1 ≤ n) (h2 : n ≤ 32) (_h3 : -9223372036854775808 ≤ x) (_h4 : x ≤ 9223372036854775807) : Calls Try.prog 112 #[.int .i64 n, .int .i64 x] w fun e w' => e = .returned (.int .u32 (wr n x)) ∧ w = w' := by
  have hp := pw_le32 h2
  have hp0 := pw_pos n
  have t1 := tmod_wr n x
  have t2 := wr_lo n x
  have t3 := wr_hi n x
  by_cases hc : x.tmod (pw n) < 0
  · rw [if_pos hc] at t1
    go_enter Try.func112, Try.ntmps112
    go_wp2_with (first | (go_at_call 108; refine (size_any _ _ (by omega) (by omega)).mono ?_; rintro e w' ⟨rfl, rfl⟩))
    go_ret
    exact ⟨ret_i t1.symm, rfl⟩
  · rw [if_neg hc] at t1
    go_enter Try.func112, Try.ntmps112
    go_wp2_with (first | (go_at_call 108; refine (size_any _ _ (by omega) (by omega)).mono ?_; rintro e w' ⟨rfl, rfl⟩))
    go_ret
    exact ⟨ret_i t1.symm, rfl⟩
theorem rIsWord_any (n x : Int) (w : World) (h3 : 0 ≤ x) (h4 : x ≤ 4294967295) : Calls Try.prog 85 #[.int .i64 n, .int .u32 x] w fun e w' => e = .returned (.bool (isW n && fit n x)) ∧ w = w' := by
  by_cases hw : isW n = true
  · have h12 : 1 ≤ n ∧ n ≤ 32 := by simpa [isW] using hw
    obtain ⟨h1, h2⟩ := h12
    have hp := pw_le32 h2
    go_enter Try.func85, Try.ntmps85
    go_wp2_with (first | (go_at_call 108; refine (size_any _ _ (by omega) (by omega)).mono ?_; rintro e w' ⟨rfl, rfl⟩) | (go_at_call 107; refine (rIsWidth_any _ _).mono ?_; rintro e w' ⟨rfl, rfl⟩))
    go_ret
    exact ⟨ret_b (by simp [hw, fit]), rfl⟩
  · have hw : isW n = false := by simpa using hw
    go_enter Try.func85, Try.ntmps85
    go_wp2_with (first | (go_at_call 108; refine (size_any _ _ (by omega) (by omega)).mono ?_; rintro e w' ⟨rfl, rfl⟩) | (go_at_call 107; refine (rIsWidth_any _ _).mono ?_; rintro e w' ⟨rfl, rfl⟩))
    go_ret
    exact ⟨ret_b (by simp [hw]), rfl⟩

theorem fits1 (n a : Int) (b : Nat) (w : World) (g0 : w.cell? ⟨b, 0, none⟩ = some (.int .u32 a))  : Calls Try.prog 104 #[.int .i64 n, .slice (some ⟨b, 0, none⟩) 1 1] w fun e w' => e = .returned (.bool (isW n && fit n a)) ∧ w = w' := by
  by_cases hw : isW n = true
  · have h12 : 1 ≤ n ∧ n ≤ 32 := by simpa [isW] using hw
    obtain ⟨h1, h2⟩ := h12
    rcases Int.lt_or_le a (pw n) with f0 | f0
    · go_enter Try.func104, Try.ntmps104
      go_wp2_with (first | (rw [rounds_succ]) | (go_at_call 79; refine (isWidth_any _ _).mono ?_; rintro e w' ⟨rfl, rfl⟩) | (go_at_call 80; refine (mask_any _ _ (by assumption) (by assumption)).mono ?_; rintro e w' ⟨rfl, rfl⟩))
      refine wp_loop_rounds 2 ?_
      go_wp2_with (first | (rw [rounds_succ]) | (go_at_call 79; refine (isWidth_any _ _).mono ?_; rintro e w' ⟨rfl, rfl⟩) | (go_at_call 80; refine (mask_any _ _ (by assumption) (by assumption)).mono ?_; rintro e w' ⟨rfl, rfl⟩))
      go_ret
      exact ⟨ret_b (by simp [hw, fit, f0]), rfl⟩
    · go_enter Try.func104, Try.ntmps104
      go_wp2_with (first | (rw [rounds_succ]) | (go_at_call 79; refine (isWidth_any _ _).mono ?_; rintro e w' ⟨rfl, rfl⟩) | (go_at_call 80; refine (mask_any _ _ (by assumption) (by assumption)).mono ?_; rintro e w' ⟨rfl, rfl⟩))
      refine wp_loop_rounds 1 ?_
      go_wp2_with (first | (rw [rounds_succ]) | (go_at_call 79; refine (isWidth_any _ _).mono ?_; rintro e w' ⟨rfl, rfl⟩) | (go_at_call 80; refine (mask_any _ _ (by assumption) (by assumption)).mono ?_; rintro e w' ⟨rfl, rfl⟩))
      go_ret
      exact ⟨ret_b (by simp [hw, fit, Int.not_lt.2 f0]), rfl⟩
  · have hw : isW n = false := by simpa using hw
    go_enter Try.func104, Try.ntmps104
    go_wp2_with (first | (rw [rounds_succ]) | (go_at_call 79; refine (isWidth_any _ _).mono ?_; rintro e w' ⟨rfl, rfl⟩) | (go_at_call 80; refine (mask_any _ _ (by assumption) (by assumption)).mono ?_; rintro e w' ⟨rfl, rfl⟩))
    go_ret
    exact ⟨ret_b (by simp [hw]), rfl⟩

theorem fits2 (n a c : Int) (b : Nat) (w : World) (g0 : w.cell? ⟨b, 0, none⟩ = some (.int .u32 a)) (g1 : w.cell? ⟨b, 1, none⟩ = some (.int .u32 c))  : Calls Try.prog 104 #[.int .i64 n, .slice (some ⟨b, 0, none⟩) 2 2] w fun e w' => e = .returned (.bool (isW n && fit n a && fit n c)) ∧ w = w' := by
  by_cases hw : isW n = true
  · have h12 : 1 ≤ n ∧ n ≤ 32 := by simpa [isW] using hw
    obtain ⟨h1, h2⟩ := h12
    rcases Int.lt_or_le a (pw n) with f0 | f0
    · rcases Int.lt_or_le c (pw n) with f1 | f1
      · go_enter Try.func104, Try.ntmps104
        go_wp2_with (first | (rw [rounds_succ]) | (go_at_call 79; refine (isWidth_any _ _).mono ?_; rintro e w' ⟨rfl, rfl⟩) | (go_at_call 80; refine (mask_any _ _ (by assumption) (by assumption)).mono ?_; rintro e w' ⟨rfl, rfl⟩))
        refine wp_loop_rounds 3 ?_
        go_wp2_with (first | (rw [rounds_succ]) | (go_at_call 79; refine (isWidth_any _ _).mono ?_; rintro e w' ⟨rfl, rfl⟩) | (go_at_call 80; refine (mask_any _ _ (by assumption) (by assumption)).mono ?_; rintro e w' ⟨rfl, rfl⟩))
        go_ret
        exact ⟨ret_b (by simp [hw, fit, f0, f1]), rfl⟩
      · go_enter Try.func104, Try.ntmps104
        go_wp2_with (first | (rw [rounds_succ]) | (go_at_call 79; refine (isWidth_any _ _).mono ?_; rintro e w' ⟨rfl, rfl⟩) | (go_at_call 80; refine (mask_any _ _ (by assumption) (by assumption)).mono ?_; rintro e w' ⟨rfl, rfl⟩))
        refine wp_loop_rounds 2 ?_
        go_wp2_with (first | (rw [rounds_succ]) | (go_at_call 79; refine (isWidth_any _ _).mono ?_; rintro e w' ⟨rfl, rfl⟩) | (go_at_call 80; refine (mask_any _ _ (by assumption) (by assumption)).mono ?_; rintro e w' ⟨rfl, rfl⟩))
        go_ret
        exact ⟨ret_b (by simp [hw, fit, f0, Int.not_lt.2 f1]), rfl⟩
    · go_enter Try.func104, Try.ntmps104
      go_wp2_with (first | (rw [rounds_succ]) | (go_at_call 79; refine (isWidth_any _ _).mono ?_; rintro e w' ⟨rfl, rfl⟩) | (go_at_call 80; refine (mask_any _ _ (by assumption) (by assumption)).mono ?_; rintro e w' ⟨rfl, rfl⟩))
      refine wp_loop_rounds 1 ?_
      go_wp2_with (first | (rw [rounds_succ]) | (go_at_call 79; refine (isWidth_any _ _).mono ?_; rintro e w' ⟨rfl, rfl⟩) | (go_at_call 80; refine (mask_any _ _ (by assumption) (by assumption)).mono ?_; rintro e w' ⟨rfl, rfl⟩))
      go_ret
      exact ⟨ret_b (by simp [hw, fit, Int.not_lt.2 f0]), rfl⟩
  · have hw : isW n = false := by simpa using hw
    go_enter Try.func104, Try.ntmps104
    go_wp2_with (first | (rw [rounds_succ]) | (go_at_call 79; refine (isWidth_any _ _).mono ?_; rintro e w' ⟨rfl, rfl⟩) | (go_at_call 80; refine (mask_any _ _ (by assumption) (by assumption)).mono ?_; rintro e w' ⟨rfl, rfl⟩))
    go_ret
    exact ⟨ret_b (by simp [hw]), rfl⟩

end Go.Proofs.Ythopdfikikdcbaa
/- Walks of backstayref01.down, bitwise, two, do, Do, Total: what each returns, said of numbers. -/
namespace Go.Proofs.Ythopdfikikdcbaa
open Go.RowKit Wd

set_option maxHeartbeats 400000 in
theorem down_any (x : Int) (k : Nat) (w : World) (h1 : -4294967296 ≤ x) (h2 : x ≤ 4294967296) (hk : k ≤ 32) : Calls Try.prog 160 #[.int .i64 x, .int .i64 k] w fun e w' => e = .returned (.int .i64 (x / 2 ^ k)) ∧ w = w' := by
  go_enter Try.func160, Try.ntmps160
  go_wp2
  go_loop [0, 5] (fun v i => ∃ j : Nat, j ≤ k ∧ i = .int .i64 j ∧ v = .int .i64 (x / 2 ^ j)) (fun _ i => k - (intOf i).toNat)
  case atStart => exact ⟨0, Nat.zero_le _, rfl, by simp⟩
  case round =>
    obtain ⟨j, hj, rfl, rfl⟩ := hrel
    have b1 := dn_lo x j h1
    have b2 := dn_hi x j h2
    have hs := dn_succ x j
    generalize hy : x / 2 ^ j = y at *
    have HY := Lib.hid hy
    clear hy
    by_cases hlt : j < k
    · have HS : Hid (x / 2 ^ (j + 1) = y / 2) := hs
      clear hs
      rcases Int.lt_or_le y 0 with hn | hn
      · go_wp2
        go_round
        case rel => exact ⟨j + 1, by omega, by go_num, by rw [HS.out]; exact congrArg (Value.int _) (by omega)⟩
        case measure => simp [intOf]; omega
      · go_wp2
        go_round
        case rel => exact ⟨j + 1, by omega, by go_num, by rw [HS.out]⟩
        case measure => simp [intOf]; omega
    · obtain rfl : j = k := by omega
      clear hs
      go_wp2
      go_ret
      exact ⟨ret_i HY.out.symm, rfl⟩

/-- Nothing but the count of draws has moved. -/
def Dr (w w' : World) : Prop := ∃ n, w' = w.drewN n
theorem Dr.refl (w : World) : Dr w w := ⟨0, rfl⟩
theorem Dr.drew {w w' : World} (h : Dr w w') (n : Nat) : Dr w (w'.drewN n) := by
  obtain ⟨m, rfl⟩ := h
  exact ⟨m + n, World.drewN_drewN _ _ _⟩
theorem Dr.below {w w' : World} (h : Dr w w') (B : Nat) : Below B w w' := by
  obtain ⟨n, rfl⟩ := h
  exact ⟨rfl, rfl, rfl, Nat.le_refl _, fun _ _ => rfl⟩
theorem Dr.trans {w w' w'' : World} (h : Dr w w') (h' : Dr w' w'') : Dr w w'' := by
  obtain ⟨m, rfl⟩ := h'
  exact h.drew m
theorem quiet_same {P : Program} {f : FuncId} {args : Array Value} {w : World} {n : Nat} {v : Value} (h : Calls P f args (w.drewN n) fun e w' => e = .returned v ∧ w.drewN n = w') :
    Calls P f args (w.drewN n) fun e w'' => e = .returned v ∧ ∃ m, w'' = w.drewN m := h.mono fun _ _ ⟨he, hm⟩ => ⟨he, n, hm.symm⟩

set_option maxHeartbeats 1000000 in
theorem bitwise_and (n : Nat) (a b : Int) (w : World) (h1 : 1 ≤ n) (h2 : n ≤ 32) (h3 : 0 ≤ a) (h4 : a < pw n) (h5 : 0 ≤ b) (h6 : b < pw n) : Calls Try.prog 128 #[.int .i64 8, .int .i64 n, .int .u32 a, .int .u32 b] w fun e w' => e = .returned (.tuple #[.int .u32 ((a.toNat &&& b.toNat : Nat) : Int), .bool true]) ∧ Dr w w' := by
  have hp := @pw_le32 (n : Int) (by omega)
  have hfin := and_lt a b n h3 h4
  go_enter Try.func128, Try.ntmps128
  go_wp2
  go_loopw [10, 11] (fun v i wr => ∃ j : Nat, j ≤ n ∧ i = .int .i64 j ∧ v = .int .i64 (lo (a.toNat &&& b.toNat) j) ∧ Dr w wr) (fun _ i _ => n - (intOf i).toNat)
  case atStart => exact ⟨0, Nat.zero_le _, rfl, congrArg (Value.int _) (lo_zero _).symm, Dr.refl w⟩
  case round =>
    obtain ⟨j, hj, rfl, rfl, hd⟩ := hrel
    by_cases hlt : j < n
    · have hq0 := pw_pos (j : Int)
      have hq1 := @pw_le32 (j : Int) (by omega)
      have hl0 := lo_nn (a.toNat &&& b.toNat) j
      have hl1 := lo_lt (a.toNat &&& b.toNat) j
      cases ea : a.toNat.testBit j <;> cases eb : b.toNat.testBit j
      all_goals
        have e3 := Nat.testBit_and a.toNat b.toNat j
        rw [ea, eb] at e3
        first | have e1 := bit_1 a j h3 ea | have e1 := bit_0 a j h3 ea
        first | have e2 := bit_1 b j h5 eb | have e2 := bit_0 b j h5 eb
        first | have e4 := lo_1 _ j e3 | have e4 := lo_0 _ j e3
        have E4 := Lib.hid e4
        clear ea eb e3 e4
        generalize lo (a.toNat &&& b.toNat) j = l at *
        go_wp2_with fail
        go_quiet ((go_at_call 108; exact quiet_same (size_any _ _ (by omega) (by omega))))
        go_wp2_with (first | (go_at_call 108; refine (size_any _ _ (by omega) (by omega)).mono ?_; rintro e w' ⟨rfl, rfl⟩))
        go_roundw
        case rel => exact ⟨j + 1, by omega, by go_num, by rw [E4.out], hd.drew _⟩
        case measure => simp [intOf]; omega
    · obtain rfl : j = n := by omega
      have e5 := lo_all (a.toNat &&& b.toNat) j hfin
      generalize lo (a.toNat &&& b.toNat) j = l at *
      have e6 : 0 ≤ l := by rw [e5]; exact Int.natCast_nonneg _
      have E5 := Lib.hid e5
      rw [← e5] at hfin
      clear e5
      go_wp2
      go_ret2
      exact ⟨by rw [← E5.out]; rfl, hd⟩

set_option maxHeartbeats 1000000 in
theorem bitwise_or (n : Nat) (a b : Int) (w : World) (h1 : 1 ≤ n) (h2 : n ≤ 32) (h3 : 0 ≤ a) (h4 : a < pw n) (h5 : 0 ≤ b) (h6 : b < pw n) : Calls Try.prog 128 #[.int .i64 9, .int .i64 n, .int .u32 a, .int .u32 b] w fun e w' => e = .returned (.tuple #[.int .u32 ((a.toNat ||| b.toNat : Nat) : Int), .bool true]) ∧ Dr w w' := by
  have hp := @pw_le32 (n : Int) (by omega)
  have hfin := or_lt a b n h4 h6
  go_enter Try.func128, Try.ntmps128
  go_wp2
  go_loopw [10, 11] (fun v i wr => ∃ j : Nat, j ≤ n ∧ i = .int .i64 j ∧ v = .int .i64 (lo (a.toNat ||| b.toNat) j) ∧ Dr w wr) (fun _ i _ => n - (intOf i).toNat)
  case atStart => exact ⟨0, Nat.zero_le _, rfl, congrArg (Value.int _) (lo_zero _).symm, Dr.refl w⟩
  case round =>
    obtain ⟨j, hj, rfl, rfl, hd⟩ := hrel
    by_cases hlt : j < n
    · have hq0 := pw_pos (j : Int)
      have hq1 := @pw_le32 (j : Int) (by omega)
      have hl0 := lo_nn (a.toNat ||| b.toNat) j
      have hl1 := lo_lt (a.toNat ||| b.toNat) j
      cases ea : a.toNat.testBit j <;> cases eb : b.toNat.testBit j
      all_goals
        have e3 := Nat.testBit_or a.toNat b.toNat j
        rw [ea, eb] at e3
        first | have e1 := bit_1 a j h3 ea | have e1 := bit_0 a j h3 ea
        first | have e2 := bit_1 b j h5 eb | have e2 := bit_0 b j h5 eb
        first | have e4 := lo_1 _ j e3 | have e4 := lo_0 _ j e3
        have E4 := Lib.hid e4
        clear ea eb e3 e4
        generalize lo (a.toNat ||| b.toNat) j = l at *
        go_wp2_with fail
        go_quiet ((go_at_call 108; exact quiet_same (size_any _ _ (by omega) (by omega))))
        go_wp2_with (first | (go_at_call 108; refine (size_any _ _ (by omega) (by omega)).mono ?_; rintro e w' ⟨rfl, rfl⟩))
        go_roundw
        case rel => exact ⟨j + 1, by omega, by go_num, by rw [E4.out], hd.drew _⟩
        case measure => simp [intOf]; omega
    · obtain rfl : j = n := by omega
      have e5 := lo_all (a.toNat ||| b.toNat) j hfin
      generalize lo (a.toNat ||| b.toNat) j = l at *
      have e6 : 0 ≤ l := by rw [e5]; exact Int.natCast_nonneg _
      have E5 := Lib.hid e5
      rw [← e5] at hfin
      clear e5
      go_wp2
      go_ret2
      exact ⟨by rw [← E5.out]; rfl, hd⟩

set_option maxHeartbeats 1000000 in
theorem bitwise_xor (n : Nat) (a b : Int) (w : World) (h1 : 1 ≤ n) (h2 : n ≤ 32) (h3 : 0 ≤ a) (h4 : a < pw n) (h5 : 0 ≤ b) (h6 : b < pw n) : Calls Try.prog 128 #[.int .i64 10, .int .i64 n, .int .u32 a, .int .u32 b] w fun e w' => e = .returned (.tuple #[.int .u32 ((a.toNat ^^^ b.toNat : Nat) : Int), .bool true]) ∧ Dr w w' := by
  have hp := @pw_le32 (n : Int) (by omega)
  have hfin := xor_lt a b n h4 h6
  go_enter Try.func128, Try.ntmps128
  go_wp2
  go_loopw [10, 11] (fun v i wr => ∃ j : Nat, j ≤ n ∧ i = .int .i64 j ∧ v = .int .i64 (lo (a.toNat ^^^ b.toNat) j) ∧ Dr w wr) (fun _ i _ => n - (intOf i).toNat)
  case atStart => exact ⟨0, Nat.zero_le _, rfl, congrArg (Value.int _) (lo_zero _).symm, Dr.refl w⟩
  case round =>
    obtain ⟨j, hj, rfl, rfl, hd⟩ := hrel
    by_cases hlt : j < n
    · have hq0 := pw_pos (j : Int)
      have hq1 := @pw_le32 (j : Int) (by omega)
      have hl0 := lo_nn (a.toNat ^^^ b.toNat) j
      have hl1 := lo_lt (a.toNat ^^^ b.toNat) j
      cases ea : a.toNat.testBit j <;> cases eb : b.toNat.testBit j
      all_goals
        have e3 := Nat.testBit_xor a.toNat b.toNat j
        rw [ea, eb] at e3
        first | have e1 := bit_1 a j h3 ea | have e1 := bit_0 a j h3 ea
        first | have e2 := bit_1 b j h5 eb | have e2 := bit_0 b j h5 eb
        first | have e4 := lo_1 _ j e3 | have e4 := lo_0 _ j e3
        have E4 := Lib.hid e4
        clear ea eb e3 e4
        generalize lo (a.toNat ^^^ b.toNat) j = l at *
        go_wp2_with fail
        go_quiet ((go_at_call 108; exact quiet_same (size_any _ _ (by omega) (by omega))))
        go_wp2_with (first | (go_at_call 108; refine (size_any _ _ (by omega) (by omega)).mono ?_; rintro e w' ⟨rfl, rfl⟩))
        go_roundw
        case rel => exact ⟨j + 1, by omega, by go_num, by rw [E4.out], hd.drew _⟩
        case measure => simp [intOf]; omega
    · obtain rfl : j = n := by omega
      have e5 := lo_all (a.toNat ^^^ b.toNat) j hfin
      generalize lo (a.toNat ^^^ b.toNat) j = l at *
      have e6 : 0 ≤ l := by rw [e5]; exact Int.natCast_nonneg _
      have E5 := Lib.hid e5
      rw [← e5] at hfin
      clear e5
      go_wp2
      go_ret2
      exact ⟨by rw [← E5.out]; rfl, hd⟩

set_option maxHeartbeats 1000000 in
theorem bitwise_shl (n k : Nat) (a : Int) (w : World) (h1 : 1 ≤ n) (h2 : n ≤ 32) (h3 : 0 ≤ a) (h4 : a < pw n) (hk : k < n) : Calls Try.prog 128 #[.int .i64 11, .int .i64 n, .int .u32 a, .int .u32 k] w fun e w' => e = .returned (.tuple #[.int .u32 (wr n (a * pw k)), .bool true]) ∧ Dr w w' := by
  have hp := @pw_le32 (n : Int) (by omega)
  have hp0 := pw_pos (n : Int)
  have t0 : wr n (a * pw ((0 : Nat) : Int)) = a := by rw [pw_nat]; simpa using wr_small h3 h4
  have t1 := wr_lo n (a * pw k)
  have t2 := wr_hi n (a * pw k)
  have T0 := Lib.hid t0
  clear t0
  have hd : decide (n ≤ k) = false := by simpa using hk
  go_enter Try.func128, Try.ntmps128
  go_wp2
  go_loop [16, 17] (fun v i => ∃ j : Nat, j ≤ k ∧ i = .int .i64 j ∧ v = .int .i64 (wr n (a * pw j))) (fun _ i => k - (intOf i).toNat)
  case atStart => exact ⟨0, Nat.zero_le _, rfl, by rw [T0.out]⟩
  case round =>
    obtain ⟨j, hj, rfl, rfl⟩ := hrel
    by_cases hlt : j < k
    · have s1 := wr_lo n (a * pw j)
      have s2 := wr_hi n (a * pw j)
      have s3 := Lib.hid (wr_shl n a j)
      go_wp2_with (first | (go_at_call 108; refine (size_any _ _ (by omega) (by omega)).mono ?_; rintro e w' ⟨rfl, rfl⟩))
      go_round
      case rel => exact ⟨j + 1, by omega, by go_num, by rw [s3.out]⟩
      case measure => simp [intOf]; omega
    · obtain rfl : j = k := by omega
      generalize hl : wr n (a * pw j) = l at *
      have HL := Lib.hid hl
      clear hl
      go_wp2
      go_ret2
      exact ⟨by rw [HL.out]; rfl, Dr.refl _⟩
set_option maxHeartbeats 1000000 in
theorem bitwise_lshr (n k : Nat) (a : Int) (w : World) (h1 : 1 ≤ n) (h2 : n ≤ 32) (h3 : 0 ≤ a) (h4 : a < pw n) (hk : k < n) : Calls Try.prog 128 #[.int .i64 12, .int .i64 n, .int .u32 a, .int .u32 k] w fun e w' => e = .returned (.tuple #[.int .u32 (a / 2 ^ k), .bool true]) ∧ Dr w w' := by
  have hp := @pw_le32 (n : Int) (by omega)
  have t1 := dn_lo a k (by omega)
  have t2 := dn_hi a k (by omega)
  have t3 : 0 ≤ a / 2 ^ k := Int.ediv_nonneg h3 (Int.pow_nonneg (by decide))
  have t4 : a / 2 ^ k ≤ a := Int.ediv_le_self _ h3
  go_enter Try.func128, Try.ntmps128
  go_wp2_with (first | (go_at_call 160; refine (down_any _ _ _ (by omega) (by omega) (by omega)).mono ?_; rintro e w' ⟨rfl, rfl⟩))
  go_ret2
  exact ⟨rfl, Dr.refl _⟩
set_option maxHeartbeats 1000000 in
theorem bitwise_ashr (n k : Nat) (a : Int) (w : World) (h1 : 1 ≤ n) (h2 : n ≤ 32) (h3 : 0 ≤ a) (h4 : a < pw n) (hk : k < n) : Calls Try.prog 128 #[.int .i64 13, .int .i64 n, .int .u32 a, .int .u32 k] w fun e w' => e = .returned (.tuple #[.int .u32 (wr n (sgn n a / 2 ^ k)), .bool true]) ∧ Dr w w' := by
  have hp := @pw_le32 (n : Int) (by omega)
  have s1 := sgn_lo32 (n := n) (a := a) (by omega) (by omega) h3
  have s2 := sgn_hi32 (n := n) (a := a) (by omega) (by omega) h4
  have t1 := dn_lo (sgn n a) k (by omega)
  have t2 := dn_hi (sgn n a) k (by omega)
  go_enter Try.func128, Try.ntmps128
  go_wp2_with (first | (go_at_call 160; refine (down_any _ _ _ (by omega) (by omega) (by omega)).mono ?_; rintro e w' ⟨rfl, rfl⟩) | (go_at_call 111; refine (rSign_any _ _ _ (by omega) (by omega) (by omega) (by omega)).mono ?_; rintro e w' ⟨rfl, rfl⟩) | (go_at_call 112; refine (rWrap_any _ _ _ (by omega) (by omega) (by omega) (by omega)).mono ?_; rintro e w' ⟨rfl, rfl⟩))
  go_ret2
  exact ⟨rfl, Dr.refl _⟩
theorem bitwise_none (op n a b : Int) (w : World) (h0 : 11 ≤ op) (h1 : 1 ≤ n) (h2 : n ≤ 32) (h5 : b ≤ 4294967295) (hb : n ≤ b) : Calls Try.prog 128 #[.int .i64 op, .int .i64 n, .int .u32 a, .int .u32 b] w fun e w' => e = .returned (.tuple #[.int .u32 0, .bool false]) ∧ Dr w w' := by
  go_enter Try.func128, Try.ntmps128
  go_wp2
  go_ret2
  exact ⟨rfl, Dr.refl _⟩

end Go.Proofs.Ythopdfikikdcbaa
/- Walks of backstayref01.two, do, Do, Total: what each returns, said of numbers. -/
namespace Go.Proofs.Ythopdfikikdcbaa
open Go.RowKit Wd
/-- What do returns of right operands. -/
def DoIs (op n a b : Int) (w : World) (e : Ending) (w' : World) : Prop := e = .returned (.tuple #[.int .u32 (if has op n a b then tot op n a b else 0), .bool (has op n a b)]) ∧ Dr w w'
theorem do_is {op n a b x : Int} {w w' : World} (h : has op n a b = true) (e : tot op n a b = x) (d : Dr w w') : DoIs op n a b w (.returned (.tuple #[.int .u32 x, .bool true])) w' := ⟨by rw [h, ← e]; rfl, d⟩
theorem do_not {op n a b : Int} {w w' : World} (h : has op n a b = false) (d : Dr w w') : DoIs op n a b w (.returned (.tuple #[.int .u32 0, .bool false])) w' := ⟨by rw [h]; rfl, d⟩

set_option maxHeartbeats 1000000 in
theorem rdo_1 (n a b : Int) (w : World) (h1 : 1 ≤ n) (h2 : n ≤ 32) (h3 : 0 ≤ a) (h4 : a < pw n) (h5 : 0 ≤ b) (h6 : b < pw n) : Calls Try.prog 114 #[.int .i64 1, .int .i64 n, .int .u32 a, .int .u32 b] w (DoIs 1 n a b w) := by
  obtain ⟨m, rfl⟩ := Int.eq_ofNat_of_zero_le (show 0 ≤ n by omega)
  have hp := @pw_le32 (m : Int) (by omega)
  have x1 := sgn_lo32 (n := m) (a := a) (by omega) (by omega) h3
  have x2 := sgn_hi32 (n := m) (a := a) (by omega) (by omega) h4
  have y1 := sgn_lo32 (n := m) (a := b) (by omega) (by omega) h5
  have y2 := sgn_hi32 (n := m) (a := b) (by omega) (by omega) h6
  go_enter Try.func114, Try.ntmps114
  go_wp2_with (first | (go_at_call 111; refine (rSign_any _ _ _ (by omega) (by omega) (by omega) (by omega)).mono ?_; rintro e w' ⟨rfl, rfl⟩) | (go_at_call 112; refine (rWrap_any _ _ _ (by omega) (by omega) (by omega) (by omega)).mono ?_; rintro e w' ⟨rfl, rfl⟩) | (go_at_call 108; refine (size_any _ _ (by omega) (by omega)).mono ?_; rintro e w' ⟨rfl, rfl⟩))
  go_ret2
  exact do_is (by simp [has]) (by simp [tot]) (Dr.refl _)

set_option maxHeartbeats 1000000 in
theorem rdo_2 (n a b : Int) (w : World) (h1 : 1 ≤ n) (h2 : n ≤ 32) (h3 : 0 ≤ a) (h4 : a < pw n) (h5 : 0 ≤ b) (h6 : b < pw n) : Calls Try.prog 114 #[.int .i64 2, .int .i64 n, .int .u32 a, .int .u32 b] w (DoIs 2 n a b w) := by
  obtain ⟨m, rfl⟩ := Int.eq_ofNat_of_zero_le (show 0 ≤ n by omega)
  have hp := @pw_le32 (m : Int) (by omega)
  have x1 := sgn_lo32 (n := m) (a := a) (by omega) (by omega) h3
  have x2 := sgn_hi32 (n := m) (a := a) (by omega) (by omega) h4
  have y1 := sgn_lo32 (n := m) (a := b) (by omega) (by omega) h5
  have y2 := sgn_hi32 (n := m) (a := b) (by omega) (by omega) h6
  go_enter Try.func114, Try.ntmps114
  go_wp2_with (first | (go_at_call 111; refine (rSign_any _ _ _ (by omega) (by omega) (by omega) (by omega)).mono ?_; rintro e w' ⟨rfl, rfl⟩) | (go_at_call 112; refine (rWrap_any _ _ _ (by omega) (by omega) (by omega) (by omega)).mono ?_; rintro e w' ⟨rfl, rfl⟩) | (go_at_call 108; refine (size_any _ _ (by omega) (by omega)).mono ?_; rintro e w' ⟨rfl, rfl⟩))
  go_ret2
  exact do_is (by simp [has]) (by simp [tot]) (Dr.refl _)

set_option maxHeartbeats 1000000 in
theorem rdo_3 (n a b : Int) (w : World) (h1 : 1 ≤ n) (h2 : n ≤ 32) (h3 : 0 ≤ a) (h4 : a < pw n) (h5 : 0 ≤ b) (h6 : b < pw n) : Calls Try.prog 114 #[.int .i64 3, .int .i64 n, .int .u32 a, .int .u32 b] w (DoIs 3 n a b w) := by
  obtain ⟨m, rfl⟩ := Int.eq_ofNat_of_zero_le (show 0 ≤ n by omega)
  have hp := @pw_le32 (m : Int) (by omega)
  have x1 := sgn_lo32 (n := m) (a := a) (by omega) (by omega) h3
  have x2 := sgn_hi32 (n := m) (a := a) (by omega) (by omega) h4
  have y1 := sgn_lo32 (n := m) (a := b) (by omega) (by omega) h5
  have y2 := sgn_hi32 (n := m) (a := b) (by omega) (by omega) h6
  have z := mul_lo32 x1 x2 y1 y2
  obtain ⟨z1, z2⟩ := z
  go_enter Try.func114, Try.ntmps114
  go_wp2_with (first | (go_at_call 111; refine (rSign_any _ _ _ (by omega) (by omega) (by omega) (by omega)).mono ?_; rintro e w' ⟨rfl, rfl⟩) | (go_at_call 112; refine (rWrap_any _ _ _ (by omega) (by omega) (by omega) (by omega)).mono ?_; rintro e w' ⟨rfl, rfl⟩) | (go_at_call 108; refine (size_any _ _ (by omega) (by omega)).mono ?_; rintro e w' ⟨rfl, rfl⟩))
  go_ret2
  exact do_is (by simp [has]) (by simp [tot, wr_mul]) (Dr.refl _)

set_option maxHeartbeats 1000000 in
theorem rdo_4 (n a b : Int) (w : World) (h1 : 1 ≤ n) (h2 : n ≤ 32) (h3 : 0 ≤ a) (h4 : a < pw n) (h5 : 0 ≤ b) (h6 : b < pw n) : Calls Try.prog 114 #[.int .i64 4, .int .i64 n, .int .u32 a, .int .u32 b] w (DoIs 4 n a b w) := by
  obtain ⟨m, rfl⟩ := Int.eq_ofNat_of_zero_le (show 0 ≤ n by omega)
  have hp := @pw_le32 (m : Int) (by omega)
  have x1 := sgn_lo32 (n := m) (a := a) (by omega) (by omega) h3
  have x2 := sgn_hi32 (n := m) (a := a) (by omega) (by omega) h4
  have y1 := sgn_lo32 (n := m) (a := b) (by omega) (by omega) h5
  have y2 := sgn_hi32 (n := m) (a := b) (by omega) (by omega) h6
  by_cases hb : b = 0
  · subst hb
    go_enter Try.func114, Try.ntmps114
    go_wp2_with (first | (go_at_call 111; refine (rSign_any _ _ _ (by omega) (by omega) (by omega) (by omega)).mono ?_; rintro e w' ⟨rfl, rfl⟩) | (go_at_call 112; refine (rWrap_any _ _ _ (by omega) (by omega) (by omega) (by omega)).mono ?_; rintro e w' ⟨rfl, rfl⟩) | (go_at_call 108; refine (size_any _ _ (by omega) (by omega)).mono ?_; rintro e w' ⟨rfl, rfl⟩))
    go_ret2
    exact do_not (by simp [has]) (Dr.refl _)
  · have hb1 : 1 ≤ b := by omega
    have hb2 : (b == 0) = false := by simpa using hb
    go_enter Try.func114, Try.ntmps114
    go_wp2_with (first | (go_at_call 111; refine (rSign_any _ _ _ (by omega) (by omega) (by omega) (by omega)).mono ?_; rintro e w' ⟨rfl, rfl⟩) | (go_at_call 112; refine (rWrap_any _ _ _ (by omega) (by omega) (by omega) (by omega)).mono ?_; rintro e w' ⟨rfl, rfl⟩) | (go_at_call 108; refine (size_any _ _ (by omega) (by omega)).mono ?_; rintro e w' ⟨rfl, rfl⟩))
    go_ret2
    exact do_is (by simp [has, hb]) (by simp [tot, hb]) (Dr.refl _)

set_option maxHeartbeats 1000000 in
theorem rdo_5 (n a b : Int) (w : World) (h1 : 1 ≤ n) (h2 : n ≤ 32) (h3 : 0 ≤ a) (h4 : a < pw n) (h5 : 0 ≤ b) (h6 : b < pw n) : Calls Try.prog 114 #[.int .i64 5, .int .i64 n, .int .u32 a, .int .u32 b] w (DoIs 5 n a b w) := by
  obtain ⟨m, rfl⟩ := Int.eq_ofNat_of_zero_le (show 0 ≤ n by omega)
  have hp := @pw_le32 (m : Int) (by omega)
  have x1 := sgn_lo32 (n := m) (a := a) (by omega) (by omega) h3
  have x2 := sgn_hi32 (n := m) (a := a) (by omega) (by omega) h4
  have y1 := sgn_lo32 (n := m) (a := b) (by omega) (by omega) h5
  have y2 := sgn_hi32 (n := m) (a := b) (by omega) (by omega) h6
  by_cases hb : b = 0
  · subst hb
    go_enter Try.func114, Try.ntmps114
    go_wp2_with (first | (go_at_call 111; refine (rSign_any _ _ _ (by omega) (by omega) (by omega) (by omega)).mono ?_; rintro e w' ⟨rfl, rfl⟩) | (go_at_call 112; refine (rWrap_any _ _ _ (by omega) (by omega) (by omega) (by omega)).mono ?_; rintro e w' ⟨rfl, rfl⟩) | (go_at_call 108; refine (size_any _ _ (by omega) (by omega)).mono ?_; rintro e w' ⟨rfl, rfl⟩))
    go_ret2
    exact do_not (by simp [has]) (Dr.refl _)
  · have hb1 : 1 ≤ b := by omega
    have hb2 : (b == 0) = false := by simpa using hb
    have u1 : 0 ≤ a / b := Int.ediv_nonneg h3 h5
    have u2 : 0 ≤ a / b * b := Int.mul_nonneg u1 h5
    have u3 : a / b * b ≤ a := Int.ediv_mul_le a hb
    have u4 : a % b = a - a / b * b := by rw [Int.emod_def, Int.mul_comm]
    have U4 := Lib.hid u4
    clear u4
    go_enter Try.func114, Try.ntmps114
    go_wp2_with (first | (go_at_call 111; refine (rSign_any _ _ _ (by omega) (by omega) (by omega) (by omega)).mono ?_; rintro e w' ⟨rfl, rfl⟩) | (go_at_call 112; refine (rWrap_any _ _ _ (by omega) (by omega) (by omega) (by omega)).mono ?_; rintro e w' ⟨rfl, rfl⟩) | (go_at_call 108; refine (size_any _ _ (by omega) (by omega)).mono ?_; rintro e w' ⟨rfl, rfl⟩))
    go_ret2
    exact do_is (by simp [has, hb]) (by simp [tot, hb]; exact U4.out) (Dr.refl _)

set_option maxHeartbeats 1000000 in
theorem rdo_6 (n a b : Int) (w : World) (h1 : 1 ≤ n) (h2 : n ≤ 32) (h3 : 0 ≤ a) (h4 : a < pw n) (h5 : 0 ≤ b) (h6 : b < pw n) : Calls Try.prog 114 #[.int .i64 6, .int .i64 n, .int .u32 a, .int .u32 b] w (DoIs 6 n a b w) := by
  obtain ⟨m, rfl⟩ := Int.eq_ofNat_of_zero_le (show 0 ≤ n by omega)
  have hp := @pw_le32 (m : Int) (by omega)
  have x1 := sgn_lo32 (n := m) (a := a) (by omega) (by omega) h3
  have x2 := sgn_hi32 (n := m) (a := a) (by omega) (by omega) h4
  have y1 := sgn_lo32 (n := m) (a := b) (by omega) (by omega) h5
  have y2 := sgn_hi32 (n := m) (a := b) (by omega) (by omega) h6
  have hp3 := @pw_le31 ((m : Int) - 1) (by omega)
  have hp4 := pw_pos ((m : Int) - 1)
  by_cases hb : b = 0
  · subst hb
    go_enter Try.func114, Try.ntmps114
    go_wp2_with (first | (go_at_call 111; refine (rSign_any _ _ _ (by omega) (by omega) (by omega) (by omega)).mono ?_; rintro e w' ⟨rfl, rfl⟩) | (go_at_call 112; refine (rWrap_any _ _ _ (by omega) (by omega) (by omega) (by omega)).mono ?_; rintro e w' ⟨rfl, rfl⟩) | (go_at_call 108; refine (size_any _ _ (by omega) (by omega)).mono ?_; rintro e w' ⟨rfl, rfl⟩))
    go_ret2
    exact do_not (by simp [has]) (Dr.refl _)
  have hb1 : (b == 0) = false := by simpa using hb
  by_cases hx : sgn m a = -pw (m - 1)
  · have hx1 : (sgn m a == -pw (m - 1)) = true := by simpa using hx
    by_cases hy : sgn m b = -1
    · have hy1 : (sgn m b == -1) = true := by simpa using hy
      have hc : has 6 m a b = false := by simp [has, hx, hy]
      clear hx hy hb
      go_enter Try.func114, Try.ntmps114
      go_wp2_with (first | (go_at_call 111; refine (rSign_any _ _ _ (by omega) (by omega) (by omega) (by omega)).mono ?_; rintro e w' ⟨rfl, rfl⟩) | (go_at_call 112; refine (rWrap_any _ _ _ (by omega) (by omega) (by omega) (by omega)).mono ?_; rintro e w' ⟨rfl, rfl⟩) | (go_at_call 108; refine (size_any _ _ (by omega) (by omega)).mono ?_; rintro e w' ⟨rfl, rfl⟩))
      go_ret2
      exact do_not hc (Dr.refl _)
    · have hy1 : (sgn m b == -1) = false := by simpa using hy
      have hc : has 6 m a b = true := by simp [has, hb, hx, hy]
      have ht : tot 6 m a b = wr m ((sgn m a).tdiv (sgn m b)) := by simp [tot, hb, hx, hy]
      have HT := Lib.hid ht
      clear ht hx hy
      have hz := sgn_zero (n := m) (b := b) (by omega) h6
      have hy0 : ¬ sgn m b = 0 := by omega
      clear hz
      have q := @tdiv_bd (sgn m a) (sgn m b) x1 (by omega)
      have r := @tmod_bd (sgn m a) (sgn m b) x1 (by omega)
      obtain ⟨q1, q2⟩ := q
      obtain ⟨r1, r2⟩ := r
      have e0 : wrap64 ((sgn m a).tdiv (sgn m b)) = (sgn m a).tdiv (sgn m b) := IntWalk.wrap64_in _ (by omega)
      have e1 := tmod_q (sgn m a) (sgn m b)
      clear hb
      go_enter Try.func114, Try.ntmps114
      go_wp2_with (first | (go_at_call 111; refine (rSign_any _ _ _ (by omega) (by omega) (by omega) (by omega)).mono ?_; rintro e w' ⟨rfl, rfl⟩) | (go_at_call 112; refine (rWrap_any _ _ _ (by omega) (by omega) (by omega) (by omega)).mono ?_; rintro e w' ⟨rfl, rfl⟩) | (go_at_call 108; refine (size_any _ _ (by omega) (by omega)).mono ?_; rintro e w' ⟨rfl, rfl⟩))
      go_ret2
      exact do_is hc HT.out (Dr.refl _)
  · have hx1 : (sgn m a == -pw (m - 1)) = false := by simpa using hx
    have hc : has 6 m a b = true := by simp [has, hb, hx]
    have ht : tot 6 m a b = wr m ((sgn m a).tdiv (sgn m b)) := by simp [tot, hb, hx]
    have HT := Lib.hid ht
    clear ht hx
    have hz := sgn_zero (n := m) (b := b) (by omega) h6
    have hy0 : ¬ sgn m b = 0 := by omega
    clear hz
    have q := @tdiv_bd (sgn m a) (sgn m b) x1 (by omega)
    have r := @tmod_bd (sgn m a) (sgn m b) x1 (by omega)
    obtain ⟨q1, q2⟩ := q
    obtain ⟨r1, r2⟩ := r
    have e0 : wrap64 ((sgn m a).tdiv (sgn m b)) = (sgn m a).tdiv (sgn m b) := IntWalk.wrap64_in _ (by omega)
    have e1 := tmod_q (sgn m a) (sgn m b)
    by_cases hy : sgn m b = -1
    · have hy1 : (sgn m b == -1) = true := by simpa using hy
      clear hy hb
      go_enter Try.func114, Try.ntmps114
      go_wp2_with (first | (go_at_call 111; refine (rSign_any _ _ _ (by omega) (by omega) (by omega) (by omega)).mono ?_; rintro e w' ⟨rfl, rfl⟩) | (go_at_call 112; refine (rWrap_any _ _ _ (by omega) (by omega) (by omega) (by omega)).mono ?_; rintro e w' ⟨rfl, rfl⟩) | (go_at_call 108; refine (size_any _ _ (by omega) (by omega)).mono ?_; rintro e w' ⟨rfl, rfl⟩))
      go_ret2
      exact do_is hc HT.out (Dr.refl _)
    · have hy1 : (sgn m b == -1) = false := by simpa using hy
      clear hy hb
      go_enter Try.func114, Try.ntmps114
      go_wp2_with (first | (go_at_call 111; refine (rSign_any _ _ _ (by omega) (by omega) (by omega) (by omega)).mono ?_; rintro e w' ⟨rfl, rfl⟩) | (go_at_call 112; refine (rWrap_any _ _ _ (by omega) (by omega) (by omega) (by omega)).mono ?_; rintro e w' ⟨rfl, rfl⟩) | (go_at_call 108; refine (size_any _ _ (by omega) (by omega)).mono ?_; rintro e w' ⟨rfl, rfl⟩))
      go_ret2
      exact do_is hc HT.out (Dr.refl _)

set_option maxHeartbeats 1000000 in
theorem rdo_7 (n a b : Int) (w : World) (h1 : 1 ≤ n) (h2 : n ≤ 32) (h3 : 0 ≤ a) (h4 : a < pw n) (h5 : 0 ≤ b) (h6 : b < pw n) : Calls Try.prog 114 #[.int .i64 7, .int .i64 n, .int .u32 a, .int .u32 b] w (DoIs 7 n a b w) := by
  obtain ⟨m, rfl⟩ := Int.eq_ofNat_of_zero_le (show 0 ≤ n by omega)
  have hp := @pw_le32 (m : Int) (by omega)
  have x1 := sgn_lo32 (n := m) (a := a) (by omega) (by omega) h3
  have x2 := sgn_hi32 (n := m) (a := a) (by omega) (by omega) h4
  have y1 := sgn_lo32 (n := m) (a := b) (by omega) (by omega) h5
  have y2 := sgn_hi32 (n := m) (a := b) (by omega) (by omega) h6
  have hp3 := @pw_le31 ((m : Int) - 1) (by omega)
  have hp4 := pw_pos ((m : Int) - 1)
  by_cases hb : b = 0
  · subst hb
    go_enter Try.func114, Try.ntmps114
    go_wp2_with (first | (go_at_call 111; refine (rSign_any _ _ _ (by omega) (by omega) (by omega) (by omega)).mono ?_; rintro e w' ⟨rfl, rfl⟩) | (go_at_call 112; refine (rWrap_any _ _ _ (by omega) (by omega) (by omega) (by omega)).mono ?_; rintro e w' ⟨rfl, rfl⟩) | (go_at_call 108; refine (size_any _ _ (by omega) (by omega)).mono ?_; rintro e w' ⟨rfl, rfl⟩))
    go_ret2
    exact do_not (by simp [has]) (Dr.refl _)
  have hb1 : (b == 0) = false := by simpa using hb
  by_cases hx : sgn m a = -pw (m - 1)
  · have hx1 : (sgn m a == -pw (m - 1)) = true := by simpa using hx
    by_cases hy : sgn m b = -1
    · have hy1 : (sgn m b == -1) = true := by simpa using hy
      have hc : has 7 m a b = false := by simp [has, hx, hy]
      clear hx hy hb
      go_enter Try.func114, Try.ntmps114
      go_wp2_with (first | (go_at_call 111; refine (rSign_any _ _ _ (by omega) (by omega) (by omega) (by omega)).mono ?_; rintro e w' ⟨rfl, rfl⟩) | (go_at_call 112; refine (rWrap_any _ _ _ (by omega) (by omega) (by omega) (by omega)).mono ?_; rintro e w' ⟨rfl, rfl⟩) | (go_at_call 108; refine (size_any _ _ (by omega) (by omega)).mono ?_; rintro e w' ⟨rfl, rfl⟩))
      go_ret2
      exact do_not hc (Dr.refl _)
    · have hy1 : (sgn m b == -1) = false := by simpa using hy
      have hc : has 7 m a b = true := by simp [has, hb, hx, hy]
      have ht : tot 7 m a b = wr m ((sgn m a).tmod (sgn m b)) := by simp [tot, hb, hx, hy]
      have HT := Lib.hid ht
      clear ht hx hy
      have hz := sgn_zero (n := m) (b := b) (by omega) h6
      have hy0 : ¬ sgn m b = 0 := by omega
      clear hz
      have q := @tdiv_bd (sgn m a) (sgn m b) x1 (by omega)
      have r := @tmod_bd (sgn m a) (sgn m b) x1 (by omega)
      obtain ⟨q1, q2⟩ := q
      obtain ⟨r1, r2⟩ := r
      have e0 : wrap64 ((sgn m a).tdiv (sgn m b)) = (sgn m a).tdiv (sgn m b) := IntWalk.wrap64_in _ (by omega)
      have e1 := tmod_q (sgn m a) (sgn m b)
      clear hb
      go_enter Try.func114, Try.ntmps114
      go_wp2_with (first | (go_at_call 111; refine (rSign_any _ _ _ (by omega) (by omega) (by omega) (by omega)).mono ?_; rintro e w' ⟨rfl, rfl⟩) | (go_at_call 112; refine (rWrap_any _ _ _ (by omega) (by omega) (by omega) (by omega)).mono ?_; rintro e w' ⟨rfl, rfl⟩) | (go_at_call 108; refine (size_any _ _ (by omega) (by omega)).mono ?_; rintro e w' ⟨rfl, rfl⟩))
      go_ret2
      exact do_is hc (HT.out.trans (congrArg (wr m) (by omega))) (Dr.refl _)
  · have hx1 : (sgn m a == -pw (m - 1)) = false := by simpa using hx
    have hc : has 7 m a b = true := by simp [has, hb, hx]
    have ht : tot 7 m a b = wr m ((sgn m a).tmod (sgn m b)) := by simp [tot, hb, hx]
    have HT := Lib.hid ht
    clear ht hx
    have hz := sgn_zero (n := m) (b := b) (by omega) h6
    have hy0 : ¬ sgn m b = 0 := by omega
    clear hz
    have q := @tdiv_bd (sgn m a) (sgn m b) x1 (by omega)
    have r := @tmod_bd (sgn m a) (sgn m b) x1 (by omega)
    obtain ⟨q1, q2⟩ := q
    obtain ⟨r1, r2⟩ := r
    have e0 : wrap64 ((sgn m a).tdiv (sgn m b)) = (sgn m a).tdiv (sgn m b) := IntWalk.wrap64_in _ (by omega)
    have e1 := tmod_q (sgn m a) (sgn m b)
    by_cases hy : sgn m b = -1
    · have hy1 : (sgn m b == -1) = true := by simpa using hy
      clear hy hb
      go_enter Try.func114, Try.ntmps114
      go_wp2_with (first | (go_at_call 111; refine (rSign_any _ _ _ (by omega) (by omega) (by omega) (by omega)).mono ?_; rintro e w' ⟨rfl, rfl⟩) | (go_at_call 112; refine (rWrap_any _ _ _ (by omega) (by omega) (by omega) (by omega)).mono ?_; rintro e w' ⟨rfl, rfl⟩) | (go_at_call 108; refine (size_any _ _ (by omega) (by omega)).mono ?_; rintro e w' ⟨rfl, rfl⟩))
      go_ret2
      exact do_is hc (HT.out.trans (congrArg (wr m) (by omega))) (Dr.refl _)
    · have hy1 : (sgn m b == -1) = false := by simpa using hy
      clear hy hb
      go_enter Try.func114, Try.ntmps114
      go_wp2_with (first | (go_at_call 111; refine (rSign_any _ _ _ (by omega) (by omega) (by omega) (by omega)).mono ?_; rintro e w' ⟨rfl, rfl⟩) | (go_at_call 112; refine (rWrap_any _ _ _ (by omega) (by omega) (by omega) (by omega)).mono ?_; rintro e w' ⟨rfl, rfl⟩) | (go_at_call 108; refine (size_any _ _ (by omega) (by omega)).mono ?_; rintro e w' ⟨rfl, rfl⟩))
      go_ret2
      exact do_is hc (HT.out.trans (congrArg (wr m) (by omega))) (Dr.refl _)

set_option maxHeartbeats 1000000 in
theorem rdo_8 (n a b : Int) (w : World) (h1 : 1 ≤ n) (h2 : n ≤ 32) (h3 : 0 ≤ a) (h4 : a < pw n) (h5 : 0 ≤ b) (h6 : b < pw n) : Calls Try.prog 114 #[.int .i64 8, .int .i64 n, .int .u32 a, .int .u32 b] w (DoIs 8 n a b w) := by
  obtain ⟨m, rfl⟩ := Int.eq_ofNat_of_zero_le (show 0 ≤ n by omega)
  have hp := @pw_le32 (m : Int) (by omega)
  have x1 := sgn_lo32 (n := m) (a := a) (by omega) (by omega) h3
  have x2 := sgn_hi32 (n := m) (a := a) (by omega) (by omega) h4
  have y1 := sgn_lo32 (n := m) (a := b) (by omega) (by omega) h5
  have y2 := sgn_hi32 (n := m) (a := b) (by omega) (by omega) h6
  go_enter Try.func114, Try.ntmps114
  go_wp2_with (first | (go_at_call 111; refine (rSign_any _ _ _ (by omega) (by omega) (by omega) (by omega)).mono ?_; rintro e w' ⟨rfl, rfl⟩) | (go_at_call 112; refine (rWrap_any _ _ _ (by omega) (by omega) (by omega) (by omega)).mono ?_; rintro e w' ⟨rfl, rfl⟩) | (go_at_call 108; refine (size_any _ _ (by omega) (by omega)).mono ?_; rintro e w' ⟨rfl, rfl⟩) | (go_at_call 128; refine (bitwise_and _ _ _ _ (by omega) (by omega) (by omega) (by omega) (by omega) (by omega)).mono ?_; rintro e w' ⟨rfl, hd1⟩))
  go_ret2
  exact do_is (by simp [has]) (by simp [tot]) hd1

set_option maxHeartbeats 1000000 in
theorem rdo_9 (n a b : Int) (w : World) (h1 : 1 ≤ n) (h2 : n ≤ 32) (h3 : 0 ≤ a) (h4 : a < pw n) (h5 : 0 ≤ b) (h6 : b < pw n) : Calls Try.prog 114 #[.int .i64 9, .int .i64 n, .int .u32 a, .int .u32 b] w (DoIs 9 n a b w) := by
  obtain ⟨m, rfl⟩ := Int.eq_ofNat_of_zero_le (show 0 ≤ n by omega)
  have hp := @pw_le32 (m : Int) (by omega)
  have x1 := sgn_lo32 (n := m) (a := a) (by omega) (by omega) h3
  have x2 := sgn_hi32 (n := m) (a := a) (by omega) (by omega) h4
  have y1 := sgn_lo32 (n := m) (a := b) (by omega) (by omega) h5
  have y2 := sgn_hi32 (n := m) (a := b) (by omega) (by omega) h6
  go_enter Try.func114, Try.ntmps114
  go_wp2_with (first | (go_at_call 111; refine (rSign_any _ _ _ (by omega) (by omega) (by omega) (by omega)).mono ?_; rintro e w' ⟨rfl, rfl⟩) | (go_at_call 112; refine (rWrap_any _ _ _ (by omega) (by omega) (by omega) (by omega)).mono ?_; rintro e w' ⟨rfl, rfl⟩) | (go_at_call 108; refine (size_any _ _ (by omega) (by omega)).mono ?_; rintro e w' ⟨rfl, rfl⟩) | (go_at_call 128; refine (bitwise_or _ _ _ _ (by omega) (by omega) (by omega) (by omega) (by omega) (by omega)).mono ?_; rintro e w' ⟨rfl, hd1⟩))
  go_ret2
  exact do_is (by simp [has]) (by simp [tot]) hd1

set_option maxHeartbeats 1000000 in
theorem rdo_10 (n a b : Int) (w : World) (h1 : 1 ≤ n) (h2 : n ≤ 32) (h3 : 0 ≤ a) (h4 : a < pw n) (h5 : 0 ≤ b) (h6 : b < pw n) : Calls Try.prog 114 #[.int .i64 10, .int .i64 n, .int .u32 a, .int .u32 b] w (DoIs 10 n a b w) := by
  obtain ⟨m, rfl⟩ := Int.eq_ofNat_of_zero_le (show 0 ≤ n by omega)
  have hp := @pw_le32 (m : Int) (by omega)
  have x1 := sgn_lo32 (n := m) (a := a) (by omega) (by omega) h3
  have x2 := sgn_hi32 (n := m) (a := a) (by omega) (by omega) h4
  have y1 := sgn_lo32 (n := m) (a := b) (by omega) (by omega) h5
  have y2 := sgn_hi32 (n := m) (a := b) (by omega) (by omega) h6
  go_enter Try.func114, Try.ntmps114
  go_wp2_with (first | (go_at_call 111; refine (rSign_any _ _ _ (by omega) (by omega) (by omega) (by omega)).mono ?_; rintro e w' ⟨rfl, rfl⟩) | (go_at_call 112; refine (rWrap_any _ _ _ (by omega) (by omega) (by omega) (by omega)).mono ?_; rintro e w' ⟨rfl, rfl⟩) | (go_at_call 108; refine (size_any _ _ (by omega) (by omega)).mono ?_; rintro e w' ⟨rfl, rfl⟩) | (go_at_call 128; refine (bitwise_xor _ _ _ _ (by omega) (by omega) (by omega) (by omega) (by omega) (by omega)).mono ?_; rintro e w' ⟨rfl, hd1⟩))
  go_ret2
  exact do_is (by simp [has]) (by simp [tot]) hd1

set_option maxHeartbeats 1000000 in
theorem rdo_11 (n a b : Int) (w : World) (h1 : 1 ≤ n) (h2 : n ≤ 32) (h3 : 0 ≤ a) (h4 : a < pw n) (h5 : 0 ≤ b) (h6 : b < pw n) : Calls Try.prog 114 #[.int .i64 11, .int .i64 n, .int .u32 a, .int .u32 b] w (DoIs 11 n a b w) := by
  obtain ⟨m, rfl⟩ := Int.eq_ofNat_of_zero_le (show 0 ≤ n by omega)
  have hp := @pw_le32 (m : Int) (by omega)
  have x1 := sgn_lo32 (n := m) (a := a) (by omega) (by omega) h3
  have x2 := sgn_hi32 (n := m) (a := a) (by omega) (by omega) h4
  have y1 := sgn_lo32 (n := m) (a := b) (by omega) (by omega) h5
  have y2 := sgn_hi32 (n := m) (a := b) (by omega) (by omega) h6
  by_cases hb : (m : Int) ≤ b
  · have hc : has 11 m a b = false := by simp [has, hb]
    go_enter Try.func114, Try.ntmps114
    go_wp2_with (first | (go_at_call 111; refine (rSign_any _ _ _ (by omega) (by omega) (by omega) (by omega)).mono ?_; rintro e w' ⟨rfl, rfl⟩) | (go_at_call 112; refine (rWrap_any _ _ _ (by omega) (by omega) (by omega) (by omega)).mono ?_; rintro e w' ⟨rfl, rfl⟩) | (go_at_call 108; refine (size_any _ _ (by omega) (by omega)).mono ?_; rintro e w' ⟨rfl, rfl⟩) | (go_at_call 128; refine (bitwise_none _ _ _ _ _ (by omega) (by omega) (by omega) (by omega) (by omega)).mono ?_; rintro e w' ⟨rfl, hd1⟩))
    go_ret2
    exact do_not hc hd1
  · obtain ⟨k, rfl⟩ := Int.eq_ofNat_of_zero_le h5
    have hc : has 11 m a k = true := by simp [has]; omega
    go_enter Try.func114, Try.ntmps114
    go_wp2_with (first | (go_at_call 111; refine (rSign_any _ _ _ (by omega) (by omega) (by omega) (by omega)).mono ?_; rintro e w' ⟨rfl, rfl⟩) | (go_at_call 112; refine (rWrap_any _ _ _ (by omega) (by omega) (by omega) (by omega)).mono ?_; rintro e w' ⟨rfl, rfl⟩) | (go_at_call 108; refine (size_any _ _ (by omega) (by omega)).mono ?_; rintro e w' ⟨rfl, rfl⟩) | (go_at_call 128; refine (bitwise_shl _ _ _ _ (by omega) (by omega) (by omega) (by omega) (by omega)).mono ?_; rintro e w' ⟨rfl, hd1⟩))
    go_ret2
    exact do_is hc (by simp [tot, pw_nat]; intro h; exact absurd h (by omega)) hd1

set_option maxHeartbeats 1000000 in
theorem rdo_12 (n a b : Int) (w : World) (h1 : 1 ≤ n) (h2 : n ≤ 32) (h3 : 0 ≤ a) (h4 : a < pw n) (h5 : 0 ≤ b) (h6 : b < pw n) : Calls Try.prog 114 #[.int .i64 12, .int .i64 n, .int .u32 a, .int .u32 b] w (DoIs 12 n a b w) := by
  obtain ⟨m, rfl⟩ := Int.eq_ofNat_of_zero_le (show 0 ≤ n by omega)
  have hp := @pw_le32 (m : Int) (by omega)
  have x1 := sgn_lo32 (n := m) (a := a) (by omega) (by omega) h3
  have x2 := sgn_hi32 (n := m) (a := a) (by omega) (by omega) h4
  have y1 := sgn_lo32 (n := m) (a := b) (by omega) (by omega) h5
  have y2 := sgn_hi32 (n := m) (a := b) (by omega) (by omega) h6
  by_cases hb : (m : Int) ≤ b
  · have hc : has 12 m a b = false := by simp [has, hb]
    go_enter Try.func114, Try.ntmps114
    go_wp2_with (first | (go_at_call 111; refine (rSign_any _ _ _ (by omega) (by omega) (by omega) (by omega)).mono ?_; rintro e w' ⟨rfl, rfl⟩) | (go_at_call 112; refine (rWrap_any _ _ _ (by omega) (by omega) (by omega) (by omega)).mono ?_; rintro e w' ⟨rfl, rfl⟩) | (go_at_call 108; refine (size_any _ _ (by omega) (by omega)).mono ?_; rintro e w' ⟨rfl, rfl⟩) | (go_at_call 128; refine (bitwise_none _ _ _ _ _ (by omega) (by omega) (by omega) (by omega) (by omega)).mono ?_; rintro e w' ⟨rfl, hd1⟩))
    go_ret2
    exact do_not hc hd1
  · obtain ⟨k, rfl⟩ := Int.eq_ofNat_of_zero_le h5
    have hc : has 12 m a k = true := by simp [has]; omega
    go_enter Try.func114, Try.ntmps114
    go_wp2_with (first | (go_at_call 111; refine (rSign_any _ _ _ (by omega) (by omega) (by omega) (by omega)).mono ?_; rintro e w' ⟨rfl, rfl⟩) | (go_at_call 112; refine (rWrap_any _ _ _ (by omega) (by omega) (by omega) (by omega)).mono ?_; rintro e w' ⟨rfl, rfl⟩) | (go_at_call 108; refine (size_any _ _ (by omega) (by omega)).mono ?_; rintro e w' ⟨rfl, rfl⟩) | (go_at_call 128; refine (bitwise_lshr _ _ _ _ (by omega) (by omega) (by omega) (by omega) (by omega)).mono ?_; rintro e w' ⟨rfl, hd1⟩))
    go_ret2
    exact do_is hc (by simp [tot, pw_nat]; intro h; exact absurd h (by omega)) hd1

set_option maxHeartbeats 1000000 in
theorem rdo_13 (n a b : Int) (w : World) (h1 : 1 ≤ n) (h2 : n ≤ 32) (h3 : 0 ≤ a) (h4 : a < pw n) (h5 : 0 ≤ b) (h6 : b < pw n) : Calls Try.prog 114 #[.int .i64 13, .int .i64 n, .int .u32 a, .int .u32 b] w (DoIs 13 n a b w) := by
  obtain ⟨m, rfl⟩ := Int.eq_ofNat_of_zero_le (show 0 ≤ n by omega)
  have hp := @pw_le32 (m : Int) (by omega)
  have x1 := sgn_lo32 (n := m) (a := a) (by omega) (by omega) h3
  have x2 := sgn_hi32 (n := m) (a := a) (by omega) (by omega) h4
  have y1 := sgn_lo32 (n := m) (a := b) (by omega) (by omega) h5
  have y2 := sgn_hi32 (n := m) (a := b) (by omega) (by omega) h6
  by_cases hb : (m : Int) ≤ b
  · have hc : has 13 m a b = false := by simp [has, hb]
    go_enter Try.func114, Try.ntmps114
    go_wp2_with (first | (go_at_call 111; refine (rSign_any _ _ _ (by omega) (by omega) (by omega) (by omega)).mono ?_; rintro e w' ⟨rfl, rfl⟩) | (go_at_call 112; refine (rWrap_any _ _ _ (by omega) (by omega) (by omega) (by omega)).mono ?_; rintro e w' ⟨rfl, rfl⟩) | (go_at_call 108; refine (size_any _ _ (by omega) (by omega)).mono ?_; rintro e w' ⟨rfl, rfl⟩) | (go_at_call 128; refine (bitwise_none _ _ _ _ _ (by omega) (by omega) (by omega) (by omega) (by omega)).mono ?_; rintro e w' ⟨rfl, hd1⟩))
    go_ret2
    exact do_not hc hd1
  · obtain ⟨k, rfl⟩ := Int.eq_ofNat_of_zero_le h5
    have hc : has 13 m a k = true := by simp [has]; omega
    go_enter Try.func114, Try.ntmps114
    go_wp2_with (first | (go_at_call 111; refine (rSign_any _ _ _ (by omega) (by omega) (by omega) (by omega)).mono ?_; rintro e w' ⟨rfl, rfl⟩) | (go_at_call 112; refine (rWrap_any _ _ _ (by omega) (by omega) (by omega) (by omega)).mono ?_; rintro e w' ⟨rfl, rfl⟩) | (go_at_call 108; refine (size_any _ _ (by omega) (by omega)).mono ?_; rintro e w' ⟨rfl, rfl⟩) | (go_at_call 128; refine (bitwise_ashr _ _ _ _ (by omega) (by omega) (by omega) (by omega) (by omega)).mono ?_; rintro e w' ⟨rfl, hd1⟩))
    go_ret2
    exact do_is hc (by simp [tot, pw_nat]; intro h; exact absurd h (by omega)) hd1

end Go.Proofs.Ythopdfikikdcbaa
/- Walks of backstayref01.two, do, Do, Total: what each returns, said of numbers. -/
namespace Go.Proofs.Ythopdfikikdcbaa
open Go.RowKit Wd

theorem rtwo_ok (op n a b : Int) (w : World) (g : good op n a b = true) (h3 : 0 ≤ a) (h4 : a ≤ 4294967295) (h5 : 0 ≤ b) (h6 : b ≤ 4294967295) : Calls Try.prog 113 #[.int .i64 op, .int .i64 n, .int .u32 a, .int .u32 b] w fun e w' => e = .returned (.int .i64 0) ∧ w = w' := by
  obtain ⟨g1, g2, g3, g4, g5, g6⟩ := (good_iff _ _ _ _).1 g
  have hw : isW n = true := by simp [isW, g3, g4]
  have fa : fit n a = true := by simp [fit, g5]
  have fb : fit n b = true := by simp [fit, g6]
  go_enter Try.func113, Try.ntmps113
  go_wp2_with (first | (go_at_call 107; refine (rIsWidth_any _ _).mono ?_; rintro e w' ⟨rfl, rfl⟩) | (go_at_call 85; refine (rIsWord_any _ _ _ (by omega) (by omega)).mono ?_; rintro e w' ⟨rfl, rfl⟩))
  go_ret
  exact ⟨rfl, rfl⟩

theorem rtwo_no (op n a b : Int) (w : World) (g : good op n a b = false) (h3 : 0 ≤ a) (h4 : a ≤ 4294967295) (h5 : 0 ≤ b) (h6 : b ≤ 4294967295) : Calls Try.prog 113 #[.int .i64 op, .int .i64 n, .int .u32 a, .int .u32 b] w fun e w' => e = .returned (.int .i64 1) ∧ w = w' := by
  by_cases hw : isW n = true
  · by_cases o1 : op < 1
    · clear g
      go_enter Try.func113, Try.ntmps113
      go_wp2_with (first | (go_at_call 107; refine (rIsWidth_any _ _).mono ?_; rintro e w' ⟨rfl, rfl⟩) | (go_at_call 85; refine (rIsWord_any _ _ _ (by omega) (by omega)).mono ?_; rintro e w' ⟨rfl, rfl⟩))
      go_ret
      exact ⟨rfl, rfl⟩
    · by_cases o2 : 13 < op
      · clear g
        go_enter Try.func113, Try.ntmps113
        go_wp2_with (first | (go_at_call 107; refine (rIsWidth_any _ _).mono ?_; rintro e w' ⟨rfl, rfl⟩) | (go_at_call 85; refine (rIsWord_any _ _ _ (by omega) (by omega)).mono ?_; rintro e w' ⟨rfl, rfl⟩))
        go_ret
        exact ⟨rfl, rfl⟩
      · by_cases fa : fit n a = true
        · have fb : fit n b = false := by
            have h12 : 1 ≤ n ∧ n ≤ 32 := by simpa [isW] using hw
            have g5 : a < pw n := by simpa [fit] using fa
            rcases Bool.eq_false_or_eq_true (fit n b) with g6 | g6
            · have g6 : b < pw n := by simpa [fit] using g6
              have := (good_iff op n a b).2 ⟨by omega, by omega, h12.1, h12.2, g5, g6⟩
              rw [g] at this; cases this
            · exact g6
          clear g
          have d1 : decide (op < 1) = false := by simpa using o1
          have d2 : decide (13 < op) = false := by simpa using o2
          clear o1 o2
          go_enter Try.func113, Try.ntmps113
          go_wp2_with (first | (go_at_call 107; refine (rIsWidth_any _ _).mono ?_; rintro e w' ⟨rfl, rfl⟩) | (go_at_call 85; refine (rIsWord_any _ _ _ (by omega) (by omega)).mono ?_; rintro e w' ⟨rfl, rfl⟩))
          go_ret
          exact ⟨rfl, rfl⟩
        · have fa : fit n a = false := by simpa using fa
          clear g
          have d1 : decide (op < 1) = false := by simpa using o1
          have d2 : decide (13 < op) = false := by simpa using o2
          clear o1 o2
          go_enter Try.func113, Try.ntmps113
          go_wp2_with (first | (go_at_call 107; refine (rIsWidth_any _ _).mono ?_; rintro e w' ⟨rfl, rfl⟩) | (go_at_call 85; refine (rIsWord_any _ _ _ (by omega) (by omega)).mono ?_; rintro e w' ⟨rfl, rfl⟩))
          go_ret
          exact ⟨rfl, rfl⟩
  · have hw : isW n = false := by simpa using hw
    clear g
    go_enter Try.func113, Try.ntmps113
    go_wp2_with (first | (go_at_call 107; refine (rIsWidth_any _ _).mono ?_; rintro e w' ⟨rfl, rfl⟩) | (go_at_call 85; refine (rIsWord_any _ _ _ (by omega) (by omega)).mono ?_; rintro e w' ⟨rfl, rfl⟩))
    go_ret
    exact ⟨rfl, rfl⟩

theorem rdo_all (op n a b : Int) (w : World) (g : good op n a b = true) (h3 : 0 ≤ a) (h5 : 0 ≤ b) : Calls Try.prog 114 #[.int .i64 op, .int .i64 n, .int .u32 a, .int .u32 b] w (DoIs op n a b w) := by
  obtain ⟨g1, g2, g3, g4, g5, g6⟩ := (good_iff _ _ _ _).1 g
  have h : op = 1 ∨ op = 2 ∨ op = 3 ∨ op = 4 ∨ op = 5 ∨ op = 6 ∨ op = 7 ∨ op = 8 ∨ op = 9 ∨ op = 10 ∨ op = 11 ∨ op = 12 ∨ op = 13 := by omega
  rcases h with rfl | rfl | rfl | rfl | rfl | rfl | rfl | rfl | rfl | rfl | rfl | rfl | rfl
  · exact rdo_1 n a b w g3 g4 h3 g5 h5 g6
  · exact rdo_2 n a b w g3 g4 h3 g5 h5 g6
  · exact rdo_3 n a b w g3 g4 h3 g5 h5 g6
  · exact rdo_4 n a b w g3 g4 h3 g5 h5 g6
  · exact rdo_5 n a b w g3 g4 h3 g5 h5 g6
  · exact rdo_6 n a b w g3 g4 h3 g5 h5 g6
  · exact rdo_7 n a b w g3 g4 h3 g5 h5 g6
  · exact rdo_8 n a b w g3 g4 h3 g5 h5 g6
  · exact rdo_9 n a b w g3 g4 h3 g5 h5 g6
  · exact rdo_10 n a b w g3 g4 h3 g5 h5 g6
  · exact rdo_11 n a b w g3 g4 h3 g5 h5 g6
  · exact rdo_12 n a b w g3 g4 h3 g5 h5 g6
  · exact rdo_13 n a b w g3 g4 h3 g5 h5 g6
theorem rdo_yes (op n a b : Int) (w : World) (g : good op n a b = true) (h3 : 0 ≤ a) (h5 : 0 ≤ b) (h : has op n a b = true) : Calls Try.prog 114 #[.int .i64 op, .int .i64 n, .int .u32 a, .int .u32 b] w fun e w' => e = .returned (.tuple #[.int .u32 (tot op n a b), .bool true]) ∧ Dr w w' :=
  (rdo_all op n a b w g h3 h5).mono fun e w' hh => ⟨by rw [hh.1, h]; rfl, hh.2⟩
theorem rdo_nope (op n a b : Int) (w : World) (g : good op n a b = true) (h3 : 0 ≤ a) (h5 : 0 ≤ b) (h : has op n a b = false) : Calls Try.prog 114 #[.int .i64 op, .int .i64 n, .int .u32 a, .int .u32 b] w fun e w' => e = .returned (.tuple #[.int .u32 0, .bool false]) ∧ Dr w w' :=
  (rdo_all op n a b w g h3 h5).mono fun e w' hh => ⟨by rw [hh.1, h]; rfl, hh.2⟩

/-- What Do returns. -/
def doV (op n a b : Int) : Value := if good op n a b = true then (if has op n a b = true then .tuple #[.int .u32 (tot op n a b), .bool true, .int .i64 0] else .tuple #[.int .u32 0, .bool false, .int .i64 0]) else .tuple #[.int .u32 0, .bool false, .int .i64 1]
/-- What Total returns. -/
def totV (op n a b : Int) : Value := if good op n a b = true then .tuple #[.int .u32 (tot op n a b), .int .i64 0] else .tuple #[.int .u32 0, .int .i64 1]

theorem ret_t {x y : Int} {v : Value} (h : y = x) : Ending.returned (.tuple #[.int .u32 x, v]) = .returned (.tuple #[.int .u32 y, v]) := by rw [h]
set_option maxHeartbeats 1000000 in
theorem rTotal_nope (op n a b : Int) (w : World) (g : good op n a b = true) (h3 : 0 ≤ a) (h5 : 0 ≤ b) (h : has op n a b = false) : Calls Try.prog 88 #[.int .i64 op, .int .i64 n, .int .u32 a, .int .u32 b] w fun e w' => e = .returned (.tuple #[.int .u32 (tot op n a b), .int .i64 0]) ∧ Dr w w' := by
  obtain ⟨g1, g2, g3, g4, g5, g6⟩ := (good_iff _ _ _ _).1 g
  have hp := pw_le32 g4
  have hp0 := pw_pos n
  have o : op = 4 ∨ op = 5 ∨ op = 6 ∨ op = 7 ∨ op = 11 ∨ op = 12 ∨ op = 13 := by
    by_cases o1 : op = 4 ∨ op = 5
    · omega
    by_cases o2 : op = 6 ∨ op = 7
    · omega
    by_cases o3 : op = 11 ∨ op = 12 ∨ op = 13
    · omega
    simp [has, o1, o2, o3] at h
  rcases o with rfl | rfl | rfl | rfl | rfl | rfl | rfl
  · have hb : b = 0 := by simpa [has] using h
    have hv : tot 4 n a b = pw n - 1 := by simp [tot, hb]
    rw [hv]
    clear hv hb
    go_enter Try.func88, Try.ntmps88
    go_wp2_with (first | (go_at_call 113; refine (rtwo_ok _ _ _ _ _ (by assumption) (by omega) (by omega) (by omega) (by omega)).mono ?_; rintro e w' ⟨rfl, rfl⟩) | (go_at_call 114; refine (rdo_nope _ _ _ _ _ (by assumption) (by omega) (by omega) (by assumption)).mono ?_; rintro e w' ⟨rfl, hd1⟩) | (go_at_call 108; refine (size_any _ _ (by omega) (by omega)).mono ?_; rintro e w' ⟨rfl, rfl⟩) | (go_at_call 111; refine (rSign_any _ _ _ (by omega) (by omega) (by omega) (by omega)).mono ?_; rintro e w' ⟨rfl, rfl⟩))
    go_ret2
    exact ⟨rfl, hd1⟩
  · have hb : b = 0 := by simpa [has] using h
    have hv : tot 5 n a b = a := by simp [tot, hb]
    rw [hv]
    clear hv hb
    go_enter Try.func88, Try.ntmps88
    go_wp2_with (first | (go_at_call 113; refine (rtwo_ok _ _ _ _ _ (by assumption) (by omega) (by omega) (by omega) (by omega)).mono ?_; rintro e w' ⟨rfl, rfl⟩) | (go_at_call 114; refine (rdo_nope _ _ _ _ _ (by assumption) (by omega) (by omega) (by assumption)).mono ?_; rintro e w' ⟨rfl, hd1⟩) | (go_at_call 108; refine (size_any _ _ (by omega) (by omega)).mono ?_; rintro e w' ⟨rfl, rfl⟩) | (go_at_call 111; refine (rSign_any _ _ _ (by omega) (by omega) (by omega) (by omega)).mono ?_; rintro e w' ⟨rfl, rfl⟩))
    go_ret2
    exact ⟨rfl, hd1⟩
  · by_cases hb : b = 0
    · have hb2 : (b != 0) = false := by simpa using hb
      rcases Int.lt_or_le (sgn n a) 0 with hs | hs
      · have hv : tot 6 n a b = 1 := by simp [tot, hb, hs]
        rw [hv]
        clear hv hb
        go_enter Try.func88, Try.ntmps88
        go_wp2_with (first | (go_at_call 113; refine (rtwo_ok _ _ _ _ _ (by assumption) (by omega) (by omega) (by omega) (by omega)).mono ?_; rintro e w' ⟨rfl, rfl⟩) | (go_at_call 114; refine (rdo_nope _ _ _ _ _ (by assumption) (by omega) (by omega) (by assumption)).mono ?_; rintro e w' ⟨rfl, hd1⟩) | (go_at_call 108; refine (size_any _ _ (by omega) (by omega)).mono ?_; rintro e w' ⟨rfl, rfl⟩) | (go_at_call 111; refine (rSign_any _ _ _ (by omega) (by omega) (by omega) (by omega)).mono ?_; rintro e w' ⟨rfl, rfl⟩))
        go_ret2
        exact ⟨rfl, hd1⟩
      · have hv : tot 6 n a b = pw n - 1 := by simp [tot, hb]; intro; omega
        rw [hv]
        clear hv hb
        go_enter Try.func88, Try.ntmps88
        go_wp2_with (first | (go_at_call 113; refine (rtwo_ok _ _ _ _ _ (by assumption) (by omega) (by omega) (by omega) (by omega)).mono ?_; rintro e w' ⟨rfl, rfl⟩) | (go_at_call 114; refine (rdo_nope _ _ _ _ _ (by assumption) (by omega) (by omega) (by assumption)).mono ?_; rintro e w' ⟨rfl, hd1⟩) | (go_at_call 108; refine (size_any _ _ (by omega) (by omega)).mono ?_; rintro e w' ⟨rfl, rfl⟩) | (go_at_call 111; refine (rSign_any _ _ _ (by omega) (by omega) (by omega) (by omega)).mono ?_; rintro e w' ⟨rfl, rfl⟩))
        go_ret2
        exact ⟨rfl, hd1⟩
    · have hb2 : (b != 0) = true := by simpa using hb
      have hx : sgn n a = -pw (n - 1) ∧ sgn n b = -1 := by simpa [has, hb] using h
      have hv : tot 6 n a b = a := by simp [tot, hb, hx]
      rw [hv]
      clear hv hb hx
      go_enter Try.func88, Try.ntmps88
      go_wp2_with (first | (go_at_call 113; refine (rtwo_ok _ _ _ _ _ (by assumption) (by omega) (by omega) (by omega) (by omega)).mono ?_; rintro e w' ⟨rfl, rfl⟩) | (go_at_call 114; refine (rdo_nope _ _ _ _ _ (by assumption) (by omega) (by omega) (by assumption)).mono ?_; rintro e w' ⟨rfl, hd1⟩) | (go_at_call 108; refine (size_any _ _ (by omega) (by omega)).mono ?_; rintro e w' ⟨rfl, rfl⟩) | (go_at_call 111; refine (rSign_any _ _ _ (by omega) (by omega) (by omega) (by omega)).mono ?_; rintro e w' ⟨rfl, rfl⟩))
      go_ret2
      exact ⟨rfl, hd1⟩
  · by_cases hb : b = 0
    · have hb2 : (b != 0) = false := by simpa using hb
      have hv : tot 7 n a b = a := by simp [tot, hb]
      rw [hv]
      clear hv hb
      go_enter Try.func88, Try.ntmps88
      go_wp2_with (first | (go_at_call 113; refine (rtwo_ok _ _ _ _ _ (by assumption) (by omega) (by omega) (by omega) (by omega)).mono ?_; rintro e w' ⟨rfl, rfl⟩) | (go_at_call 114; refine (rdo_nope _ _ _ _ _ (by assumption) (by omega) (by omega) (by assumption)).mono ?_; rintro e w' ⟨rfl, hd1⟩) | (go_at_call 108; refine (size_any _ _ (by omega) (by omega)).mono ?_; rintro e w' ⟨rfl, rfl⟩) | (go_at_call 111; refine (rSign_any _ _ _ (by omega) (by omega) (by omega) (by omega)).mono ?_; rintro e w' ⟨rfl, rfl⟩))
      go_ret2
      exact ⟨rfl, hd1⟩
    · have hb2 : (b != 0) = true := by simpa using hb
      have hx : sgn n a = -pw (n - 1) ∧ sgn n b = -1 := by simpa [has, hb] using h
      have hv : tot 7 n a b = 0 := by simp [tot, hb, hx]
      rw [hv]
      clear hv hb hx
      go_enter Try.func88, Try.ntmps88
      go_wp2_with (first | (go_at_call 113; refine (rtwo_ok _ _ _ _ _ (by assumption) (by omega) (by omega) (by omega) (by omega)).mono ?_; rintro e w' ⟨rfl, rfl⟩) | (go_at_call 114; refine (rdo_nope _ _ _ _ _ (by assumption) (by omega) (by omega) (by assumption)).mono ?_; rintro e w' ⟨rfl, hd1⟩) | (go_at_call 108; refine (size_any _ _ (by omega) (by omega)).mono ?_; rintro e w' ⟨rfl, rfl⟩) | (go_at_call 111; refine (rSign_any _ _ _ (by omega) (by omega) (by omega) (by omega)).mono ?_; rintro e w' ⟨rfl, rfl⟩))
      go_ret2
      exact ⟨rfl, hd1⟩
  · have hb : n ≤ b := by simpa [has] using h
    have hv : tot 11 n a b = 0 := by simp [tot, hb]
    rw [hv]
    clear hv
    go_enter Try.func88, Try.ntmps88
    go_wp2_with (first | (go_at_call 113; refine (rtwo_ok _ _ _ _ _ (by assumption) (by omega) (by omega) (by omega) (by omega)).mono ?_; rintro e w' ⟨rfl, rfl⟩) | (go_at_call 114; refine (rdo_nope _ _ _ _ _ (by assumption) (by omega) (by omega) (by assumption)).mono ?_; rintro e w' ⟨rfl, hd1⟩) | (go_at_call 108; refine (size_any _ _ (by omega) (by omega)).mono ?_; rintro e w' ⟨rfl, rfl⟩) | (go_at_call 111; refine (rSign_any _ _ _ (by omega) (by omega) (by omega) (by omega)).mono ?_; rintro e w' ⟨rfl, rfl⟩))
    go_ret2
    exact ⟨rfl, hd1⟩
  · have hb : n ≤ b := by simpa [has] using h
    have hv : tot 12 n a b = 0 := by simp [tot, hb]
    rw [hv]
    clear hv
    go_enter Try.func88, Try.ntmps88
    go_wp2_with (first | (go_at_call 113; refine (rtwo_ok _ _ _ _ _ (by assumption) (by omega) (by omega) (by omega) (by omega)).mono ?_; rintro e w' ⟨rfl, rfl⟩) | (go_at_call 114; refine (rdo_nope _ _ _ _ _ (by assumption) (by omega) (by omega) (by assumption)).mono ?_; rintro e w' ⟨rfl, hd1⟩) | (go_at_call 108; refine (size_any _ _ (by omega) (by omega)).mono ?_; rintro e w' ⟨rfl, rfl⟩) | (go_at_call 111; refine (rSign_any _ _ _ (by omega) (by omega) (by omega) (by omega)).mono ?_; rintro e w' ⟨rfl, rfl⟩))
    go_ret2
    exact ⟨rfl, hd1⟩
  · have hb : n ≤ b := by simpa [has] using h
    rcases Int.lt_or_le (sgn n a) 0 with hs | hs
    · have hv : tot 13 n a b = pw n - 1 := by simp [tot, hb, hs]
      rw [hv]
      clear hv hb
      go_enter Try.func88, Try.ntmps88
      go_wp2_with (first | (go_at_call 113; refine (rtwo_ok _ _ _ _ _ (by assumption) (by omega) (by omega) (by omega) (by omega)).mono ?_; rintro e w' ⟨rfl, rfl⟩) | (go_at_call 114; refine (rdo_nope _ _ _ _ _ (by assumption) (by omega) (by omega) (by assumption)).mono ?_; rintro e w' ⟨rfl, hd1⟩) | (go_at_call 108; refine (size_any _ _ (by omega) (by omega)).mono ?_; rintro e w' ⟨rfl, rfl⟩) | (go_at_call 111; refine (rSign_any _ _ _ (by omega) (by omega) (by omega) (by omega)).mono ?_; rintro e w' ⟨rfl, rfl⟩))
      go_ret2
      exact ⟨rfl, hd1⟩
    · have hv : tot 13 n a b = 0 := by simp [tot, hb]; intro; omega
      rw [hv]
      clear hv hb
      go_enter Try.func88, Try.ntmps88
      go_wp2_with (first | (go_at_call 113; refine (rtwo_ok _ _ _ _ _ (by assumption) (by omega) (by omega) (by omega) (by omega)).mono ?_; rintro e w' ⟨rfl, rfl⟩) | (go_at_call 114; refine (rdo_nope _ _ _ _ _ (by assumption) (by omega) (by omega) (by assumption)).mono ?_; rintro e w' ⟨rfl, hd1⟩) | (go_at_call 108; refine (size_any _ _ (by omega) (by omega)).mono ?_; rintro e w' ⟨rfl, rfl⟩) | (go_at_call 111; refine (rSign_any _ _ _ (by omega) (by omega) (by omega) (by omega)).mono ?_; rintro e w' ⟨rfl, rfl⟩))
      go_ret2
      exact ⟨rfl, hd1⟩

theorem rTotal_any (op n a b : Int) (w : World) (h3 : 0 ≤ a) (h4 : a ≤ 4294967295) (h5 : 0 ≤ b) (h6 : b ≤ 4294967295) : Calls Try.prog 88 #[.int .i64 op, .int .i64 n, .int .u32 a, .int .u32 b] w fun e w' => e = .returned (totV op n a b) ∧ Dr w w' := by
  by_cases g : good op n a b = true
  · have hv : totV op n a b = .tuple #[.int .u32 (tot op n a b), .int .i64 0] := by simp [totV, g]
    rw [hv]
    clear hv
    by_cases h : has op n a b = true
    · go_enter Try.func88, Try.ntmps88
      go_wp2_with (first | (go_at_call 113; refine (rtwo_ok _ _ _ _ _ (by assumption) (by omega) (by omega) (by omega) (by omega)).mono ?_; rintro e w' ⟨rfl, rfl⟩) | (go_at_call 114; refine (rdo_yes _ _ _ _ _ (by assumption) (by omega) (by omega) (by assumption)).mono ?_; rintro e w' ⟨rfl, hd1⟩))
      go_ret2
      exact ⟨rfl, hd1⟩
    · exact rTotal_nope op n a b w g h3 h5 (by simpa using h)
  · have g : good op n a b = false := by simpa using g
    have hv : totV op n a b = .tuple #[.int .u32 0, .int .i64 1] := by simp [totV, g]
    rw [hv]
    clear hv
    go_enter Try.func88, Try.ntmps88
    go_wp2_with (first | (go_at_call 113; refine (rtwo_no _ _ _ _ _ (by assumption) (by omega) (by omega) (by omega) (by omega)).mono ?_; rintro e w' ⟨rfl, rfl⟩))
    go_ret2
    exact ⟨rfl, Dr.refl _⟩

end Go.Proofs.Ythopdfikikdcbaa
/- Walks of package bits: the table of operations, and its functions. -/
namespace Go.Proofs.Ythopdfikikdcbaa
open Go.RowKit Wd

theorem wraps_any (f g : Nat) (w : World) : Calls Try.prog 134 #[.func (.func f) #[] #[], .func (.func g) #[] #[]] w fun e w' => e = .returned (.agg #[.func (.func 162) #[] #[.pointer (some ⟨w.heap.size, 0, none⟩)], .func (.func f) #[] #[], .nilFunc]) ∧ w' = (w.alloc (.cells #[.func (.func g) #[] #[]] 169)).alloc (.cells #[.func (.func 162) #[] #[.pointer (some ⟨w.heap.size, 0, none⟩)], .func (.func f) #[] #[], .nilFunc] 144) := by
  go_enter Try.func134, Try.ntmps134
  go_wp2
  exact bodyPost_ret (v := .agg #[.func (.func 162) #[] #[.pointer (some ⟨w.heap.size, 0, none⟩)], .func (.func f) #[] #[], .nilFunc]) (by simp [results, Try.results134, go_sem]) rfl ⟨rfl, rfl⟩
theorem plain_any (g : Nat) (w : World) : Calls Try.prog 149 #[.func (.func g) #[] #[]] w fun e w' => e = .returned (.agg #[.func (.func 163) #[] #[.pointer (some ⟨w.heap.size, 0, none⟩)], .nilFunc, .nilFunc]) ∧ w' = (w.alloc (.cells #[.func (.func g) #[] #[]] 169)).alloc (.cells #[.func (.func 163) #[] #[.pointer (some ⟨w.heap.size, 0, none⟩)], .nilFunc, .nilFunc] 144) := by
  go_enter Try.func149, Try.ntmps149
  go_wp2
  exact bodyPost_ret (v := .agg #[.func (.func 163) #[] #[.pointer (some ⟨w.heap.size, 0, none⟩)], .nilFunc, .nilFunc]) (by simp [results, Try.results149, go_sem]) rfl ⟨rfl, rfl⟩

/-- The entries of the table of operations; h: a block number. -/
def opEntries (h : Nat) : Array MapEntry := #[⟨.int .i64 1, .agg #[.func (.func 162) #[] #[.pointer (some ⟨h + 1, 0, none⟩)], .func (.func 135) #[] #[], .nilFunc], 0⟩,
  ⟨.int .i64 2, .agg #[.func (.func 162) #[] #[.pointer (some ⟨h + 3, 0, none⟩)], .func (.func 137) #[] #[], .nilFunc], 1⟩,
  ⟨.int .i64 3, .agg #[.func (.func 162) #[] #[.pointer (some ⟨h + 5, 0, none⟩)], .func (.func 139) #[] #[], .nilFunc], 2⟩,
  ⟨.int .i64 4, .agg #[.func (.func 142) #[] #[], .nilFunc, .func (.func 143) #[] #[]], 3⟩,
  ⟨.int .i64 5, .agg #[.func (.func 144) #[] #[], .nilFunc, .nilFunc], 4⟩,
  ⟨.int .i64 6, .agg #[.func (.func 145) #[] #[], .nilFunc, .func (.func 147) #[] #[]], 5⟩,
  ⟨.int .i64 7, .agg #[.func (.func 148) #[] #[], .nilFunc, .nilFunc], 6⟩,
  ⟨.int .i64 8, .agg #[.func (.func 163) #[] #[.pointer (some ⟨h + 7, 0, none⟩)], .nilFunc, .nilFunc], 7⟩,
  ⟨.int .i64 9, .agg #[.func (.func 163) #[] #[.pointer (some ⟨h + 9, 0, none⟩)], .nilFunc, .nilFunc], 8⟩,
  ⟨.int .i64 10, .agg #[.func (.func 163) #[] #[.pointer (some ⟨h + 11, 0, none⟩)], .nilFunc, .nilFunc], 9⟩,
  ⟨.int .i64 11, .agg #[.func (.func 153) #[] #[], .func (.func 154) #[] #[], .nilFunc], 10⟩,
  ⟨.int .i64 12, .agg #[.func (.func 155) #[] #[], .nilFunc, .func (.func 156) #[] #[]], 11⟩,
  ⟨.int .i64 13, .agg #[.func (.func 157) #[] #[], .nilFunc, .func (.func 159) #[] #[]], 12⟩]
/-- The functions that the table has captured lie behind block h. -/
def Boxes (B h : Nat) (w : World) : Prop := B ≤ h ∧ h + 11 < w.heap.size ∧ w.cell? ⟨h + 1, 0, none⟩ = some (.func (.func 136) #[] #[]) ∧ w.cell? ⟨h + 3, 0, none⟩ = some (.func (.func 138) #[] #[]) ∧ w.cell? ⟨h + 5, 0, none⟩ = some (.func (.func 141) #[] #[]) ∧ w.cell? ⟨h + 7, 0, none⟩ = some (.func (.func 150) #[] #[]) ∧ w.cell? ⟨h + 9, 0, none⟩ = some (.func (.func 151) #[] #[]) ∧ w.cell? ⟨h + 11, 0, none⟩ = some (.func (.func 152) #[] #[])
/-- The table of operations lies in block r, and the functions that it has captured behind block h. -/
def Ops (B r h : Nat) (w : World) : Prop := mapAt w r = some (opEntries h, 13) ∧ B ≤ r ∧ r < w.heap.size ∧ B ≤ h ∧ h + 11 < w.heap.size ∧ w.cell? ⟨h + 1, 0, none⟩ = some (.func (.func 136) #[] #[]) ∧ w.cell? ⟨h + 3, 0, none⟩ = some (.func (.func 138) #[] #[]) ∧ w.cell? ⟨h + 5, 0, none⟩ = some (.func (.func 141) #[] #[]) ∧ w.cell? ⟨h + 7, 0, none⟩ = some (.func (.func 150) #[] #[]) ∧ w.cell? ⟨h + 9, 0, none⟩ = some (.func (.func 151) #[] #[]) ∧ w.cell? ⟨h + 11, 0, none⟩ = some (.func (.func 152) #[] #[])
set_option maxHeartbeats 1000000 in
theorem operations_any (w : World) : Calls Try.prog 127 #[] w fun e w' => ∃ r h, e = .returned (.map (some r)) ∧ Ops w.heap.size r h w' ∧ Below w.heap.size w w' := by
  have hmm := @run_makeMap Try.prog
  have hins := run_insert_int Try.prog 160 3 144 .i64 Try.underlying160 Try.underlying3
  go_enter Try.func127, Try.ntmps127
  go_wp2_with (first | (go_at_call 134; refine (wraps_any _ _ _).mono ?_; rintro e w' ⟨rfl, rfl⟩) | (go_at_call 149; refine (plain_any _ _).mono ?_; rintro e w' ⟨rfl, rfl⟩))
  go_ret
  refine ⟨w.heap.size, w.heap.size, rfl, ⟨?_, Nat.le_refl _, ?_, Nat.le_refl _, ?_, ?_, ?_, ?_, ?_, ?_, ?_⟩, ?_⟩
  · simp [go_sem, opEntries]
  · simp; omega
  · simp
  · simp [go_sem]
  · simp [go_sem]
  · simp [go_sem]
  · simp [go_sem]
  · simp [go_sem]
  · simp [go_sem]
  · repeat (first | exact Below.refl _ _ | refine Below.alloc ?_ (by simp; try omega) _)

set_option maxHeartbeats 2000000 in
theorem asked_w (op n a b : Int) (i fd fw : Nat) (cd : Nat → Array Value) (w : World) (hf : ∀ h, Instr.findNow (.int .i64) (.int .i64 op) (opEntries h).toList 0 = some (some (i, .agg #[.func (.func fd) #[] (cd h), .func (.func fw) #[] #[], .nilFunc]))) : Calls Try.prog 106 #[.int .i64 op, .int .i64 n, .int .u32 a, .int .u32 b] w fun e w' => ∃ h, e = .returned (.tuple #[.agg #[.func (.func fd) #[] (cd h), .func (.func fw) #[] #[], .nilFunc], .bool (isW n && fit n a && fit n b)]) ∧ Boxes w.heap.size h w' ∧ Below w.heap.size w w' := by
  have hlk := run_lookup_int Try.prog 160 3 144 .i64 (.agg #[.nilFunc, .nilFunc, .nilFunc]) Try.underlying160 Try.underlying3 (fun w => by kernel_rfl)
  go_enter Try.func106, Try.ntmps106
  go_wp2_with (first | (go_at_call 127; refine (operations_any _).mono ?_; rintro e w1 ⟨r, h, rfl, ⟨m0, m1, m2, m3, m4, c1, c2, c3, c8, c9, c10⟩, hb1⟩))
  have hc := bcell hb1
  have z0 : w1.cell? ⟨w.heap.size, 0, none⟩ = some .nilFunc := by rw [hc.1 _ _ (by simp)]; simp [go_sem]
  have z1 : w1.cell? ⟨w.heap.size, 1, none⟩ = some .nilFunc := by rw [hc.1 _ _ (by simp)]; simp [go_sem]
  have z2 : w1.cell? ⟨w.heap.size, 2, none⟩ = some .nilFunc := by rw [hc.1 _ _ (by simp)]; simp [go_sem]
  have f0 : w1.frozen? ⟨w.heap.size, 0, none⟩ = false := by rw [hc.2 _ _ (by simp)]; simp [go_sem]
  have f1 : w1.frozen? ⟨w.heap.size, 1, none⟩ = false := by rw [hc.2 _ _ (by simp)]; simp [go_sem]
  have f2 : w1.frozen? ⟨w.heap.size, 2, none⟩ = false := by rw [hc.2 _ _ (by simp)]; simp [go_sem]
  have hz : w.heap.size < w1.heap.size := by have := hb1.size; simp at this; omega
  have hh : w.heap.size < h := by simp at m3; omega
  have HB : Hid (Below w.heap.size w w1) := ((Below.refl _ _).alloc (Nat.le_refl _) _).trans (hb1.mono (by simp))
  have C1 := Lib.hid c1
  have C2 := Lib.hid c2
  have C3 := Lib.hid c3
  have C8 := Lib.hid c8
  have C9 := Lib.hid c9
  have C10 := Lib.hid c10
  clear hlk hf m0 c1 c2 c3 c8 c9 c10 hc hb1 m1 m2 m3
  go_region_with (first | (go_at_call 104; refine (fits2 n a b _ _ (by simp [go_sem]) (by simp [go_sem])).mono ?_; rintro e w' ⟨rfl, rfl⟩))
  all_goals
    go_wp2
    refine bodyPost_ret (v := .tuple #[.agg #[.func (.func fd) #[] (cd h), .func (.func fw) #[] #[], .nilFunc], .bool (isW n && fit n a && fit n b)]) (by simp [results, Try.results106, go_sem, z0, z1, z2, hz]) rfl ⟨h, rfl, ⟨by omega, by simp; omega, ?_, ?_, ?_, ?_, ?_, ?_⟩, ?_⟩
    · exact (Only.cell (w := w1) (b := w.heap.size) (by repeat (first | with_reducible exact Only.refl _ _ | with_reducible refine Only.drew ?_ | with_reducible refine Only.alloc ?_ _ | with_reducible refine Only.at ?_ _ _)) (by omega) (by omega)).trans C1.out
    · exact (Only.cell (w := w1) (b := w.heap.size) (by repeat (first | with_reducible exact Only.refl _ _ | with_reducible refine Only.drew ?_ | with_reducible refine Only.alloc ?_ _ | with_reducible refine Only.at ?_ _ _)) (by omega) (by omega)).trans C2.out
    · exact (Only.cell (w := w1) (b := w.heap.size) (by repeat (first | with_reducible exact Only.refl _ _ | with_reducible refine Only.drew ?_ | with_reducible refine Only.alloc ?_ _ | with_reducible refine Only.at ?_ _ _)) (by omega) (by omega)).trans C3.out
    · exact (Only.cell (w := w1) (b := w.heap.size) (by repeat (first | with_reducible exact Only.refl _ _ | with_reducible refine Only.drew ?_ | with_reducible refine Only.alloc ?_ _ | with_reducible refine Only.at ?_ _ _)) (by omega) (by omega)).trans C8.out
    · exact (Only.cell (w := w1) (b := w.heap.size) (by repeat (first | with_reducible exact Only.refl _ _ | with_reducible refine Only.drew ?_ | with_reducible refine Only.alloc ?_ _ | with_reducible refine Only.at ?_ _ _)) (by omega) (by omega)).trans C9.out
    · exact (Only.cell (w := w1) (b := w.heap.size) (by repeat (first | with_reducible exact Only.refl _ _ | with_reducible refine Only.drew ?_ | with_reducible refine Only.alloc ?_ _ | with_reducible refine Only.at ?_ _ _)) (by omega) (by omega)).trans C10.out
    · exact HB.out.trans (by repeat (first | with_reducible exact Below.refl _ _ | with_reducible refine Below.drew ?_ | with_reducible refine Below.alloc ?_ (by simp; try omega) _ | with_reducible refine below_at ?_ (Nat.le_refl _) _ _))

set_option maxHeartbeats 2000000 in
theorem asked_l (op n a b : Int) (i fd fl : Nat) (cd : Nat → Array Value) (w : World) (hf : ∀ h, Instr.findNow (.int .i64) (.int .i64 op) (opEntries h).toList 0 = some (some (i, .agg #[.func (.func fd) #[] (cd h), .nilFunc, .func (.func fl) #[] #[]]))) : Calls Try.prog 106 #[.int .i64 op, .int .i64 n, .int .u32 a, .int .u32 b] w fun e w' => ∃ h, e = .returned (.tuple #[.agg #[.func (.func fd) #[] (cd h), .nilFunc, .func (.func fl) #[] #[]], .bool (isW n && fit n a && fit n b)]) ∧ Boxes w.heap.size h w' ∧ Below w.heap.size w w' := by
  have hlk := run_lookup_int Try.prog 160 3 144 .i64 (.agg #[.nilFunc, .nilFunc, .nilFunc]) Try.underlying160 Try.underlying3 (fun w => by kernel_rfl)
  go_enter Try.func106, Try.ntmps106
  go_wp2_with (first | (go_at_call 127; refine (operations_any _).mono ?_; rintro e w1 ⟨r, h, rfl, ⟨m0, m1, m2, m3, m4, c1, c2, c3, c8, c9, c10⟩, hb1⟩))
  have hc := bcell hb1
  have z0 : w1.cell? ⟨w.heap.size, 0, none⟩ = some .nilFunc := by rw [hc.1 _ _ (by simp)]; simp [go_sem]
  have z1 : w1.cell? ⟨w.heap.size, 1, none⟩ = some .nilFunc := by rw [hc.1 _ _ (by simp)]; simp [go_sem]
  have z2 : w1.cell? ⟨w.heap.size, 2, none⟩ = some .nilFunc := by rw [hc.1 _ _ (by simp)]; simp [go_sem]
  have f0 : w1.frozen? ⟨w.heap.size, 0, none⟩ = false := by rw [hc.2 _ _ (by simp)]; simp [go_sem]
  have f1 : w1.frozen? ⟨w.heap.size, 1, none⟩ = false := by rw [hc.2 _ _ (by simp)]; simp [go_sem]
  have f2 : w1.frozen? ⟨w.heap.size, 2, none⟩ = false := by rw [hc.2 _ _ (by simp)]; simp [go_sem]
  have hz : w.heap.size < w1.heap.size := by have := hb1.size; simp at this; omega
  have hh : w.heap.size < h := by simp at m3; omega
  have HB : Hid (Below w.heap.size w w1) := ((Below.refl _ _).alloc (Nat.le_refl _) _).trans (hb1.mono (by simp))
  have C1 := Lib.hid c1
  have C2 := Lib.hid c2
  have C3 := Lib.hid c3
  have C8 := Lib.hid c8
  have C9 := Lib.hid c9
  have C10 := Lib.hid c10
  clear hlk hf m0 c1 c2 c3 c8 c9 c10 hc hb1 m1 m2 m3
  go_region_with (first | (go_at_call 104; refine (fits2 n a b _ _ (by simp [go_sem]) (by simp [go_sem])).mono ?_; rintro e w' ⟨rfl, rfl⟩))
  all_goals
    go_wp2
    refine bodyPost_ret (v := .tuple #[.agg #[.func (.func fd) #[] (cd h), .nilFunc, .func (.func fl) #[] #[]], .bool (isW n && fit n a && fit n b)]) (by simp [results, Try.results106, go_sem, z0, z1, z2, hz]) rfl ⟨h, rfl, ⟨by omega, by simp; omega, ?_, ?_, ?_, ?_, ?_, ?_⟩, ?_⟩
    · exact (Only.cell (w := w1) (b := w.heap.size) (by repeat (first | with_reducible exact Only.refl _ _ | with_reducible refine Only.drew ?_ | with_reducible refine Only.alloc ?_ _ | with_reducible refine Only.at ?_ _ _)) (by omega) (by omega)).trans C1.out
    · exact (Only.cell (w := w1) (b := w.heap.size) (by repeat (first | with_reducible exact Only.refl _ _ | with_reducible refine Only.drew ?_ | with_reducible refine Only.alloc ?_ _ | with_reducible refine Only.at ?_ _ _)) (by omega) (by omega)).trans C2.out
    · exact (Only.cell (w := w1) (b := w.heap.size) (by repeat (first | with_reducible exact Only.refl _ _ | with_reducible refine Only.drew ?_ | with_reducible refine Only.alloc ?_ _ | with_reducible refine Only.at ?_ _ _)) (by omega) (by omega)).trans C3.out
    · exact (Only.cell (w := w1) (b := w.heap.size) (by repeat (first | with_reducible exact Only.refl _ _ | with_reducible refine Only.drew ?_ | with_reducible refine Only.alloc ?_ _ | with_reducible refine Only.at ?_ _ _)) (by omega) (by omega)).trans C8.out
    · exact (Only.cell (w := w1) (b := w.heap.size) (by repeat (first | with_reducible exact Only.refl _ _ | with_reducible refine Only.drew ?_ | with_reducible refine Only.alloc ?_ _ | with_reducible refine Only.at ?_ _ _)) (by omega) (by omega)).trans C9.out
    · exact (Only.cell (w := w1) (b := w.heap.size) (by repeat (first | with_reducible exact Only.refl _ _ | with_reducible refine Only.drew ?_ | with_reducible refine Only.alloc ?_ _ | with_reducible refine Only.at ?_ _ _)) (by omega) (by omega)).trans C10.out
    · exact HB.out.trans (by repeat (first | with_reducible exact Below.refl _ _ | with_reducible refine Below.drew ?_ | with_reducible refine Below.alloc ?_ (by simp; try omega) _ | with_reducible refine below_at ?_ (Nat.le_refl _) _ _))

set_option maxHeartbeats 2000000 in
theorem asked_n (op n a b : Int) (i fd : Nat) (cd : Nat → Array Value) (w : World) (hf : ∀ h, Instr.findNow (.int .i64) (.int .i64 op) (opEntries h).toList 0 = some (some (i, .agg #[.func (.func fd) #[] (cd h), .nilFunc, .nilFunc]))) : Calls Try.prog 106 #[.int .i64 op, .int .i64 n, .int .u32 a, .int .u32 b] w fun e w' => ∃ h, e = .returned (.tuple #[.agg #[.func (.func fd) #[] (cd h), .nilFunc, .nilFunc], .bool (isW n && fit n a && fit n b)]) ∧ Boxes w.heap.size h w' ∧ Below w.heap.size w w' := by
  have hlk := run_lookup_int Try.prog 160 3 144 .i64 (.agg #[.nilFunc, .nilFunc, .nilFunc]) Try.underlying160 Try.underlying3 (fun w => by kernel_rfl)
  go_enter Try.func106, Try.ntmps106
  go_wp2_with (first | (go_at_call 127; refine (operations_any _).mono ?_; rintro e w1 ⟨r, h, rfl, ⟨m0, m1, m2, m3, m4, c1, c2, c3, c8, c9, c10⟩, hb1⟩))
  have hc := bcell hb1
  have z0 : w1.cell? ⟨w.heap.size, 0, none⟩ = some .nilFunc := by rw [hc.1 _ _ (by simp)]; simp [go_sem]
  have z1 : w1.cell? ⟨w.heap.size, 1, none⟩ = some .nilFunc := by rw [hc.1 _ _ (by simp)]; simp [go_sem]
  have z2 : w1.cell? ⟨w.heap.size, 2, none⟩ = some .nilFunc := by rw [hc.1 _ _ (by simp)]; simp [go_sem]
  have f0 : w1.frozen? ⟨w.heap.size, 0, none⟩ = false := by rw [hc.2 _ _ (by simp)]; simp [go_sem]
  have f1 : w1.frozen? ⟨w.heap.size, 1, none⟩ = false := by rw [hc.2 _ _ (by simp)]; simp [go_sem]
  have f2 : w1.frozen? ⟨w.heap.size, 2, none⟩ = false := by rw [hc.2 _ _ (by simp)]; simp [go_sem]
  have hz : w.heap.size < w1.heap.size := by have := hb1.size; simp at this; omega
  have hh : w.heap.size < h := by simp at m3; omega
  have HB : Hid (Below w.heap.size w w1) := ((Below.refl _ _).alloc (Nat.le_refl _) _).trans (hb1.mono (by simp))
  have C1 := Lib.hid c1
  have C2 := Lib.hid c2
  have C3 := Lib.hid c3
  have C8 := Lib.hid c8
  have C9 := Lib.hid c9
  have C10 := Lib.hid c10
  clear hlk hf m0 c1 c2 c3 c8 c9 c10 hc hb1 m1 m2 m3
  go_region_with (first | (go_at_call 104; refine (fits2 n a b _ _ (by simp [go_sem]) (by simp [go_sem])).mono ?_; rintro e w' ⟨rfl, rfl⟩))
  all_goals
    go_wp2
    refine bodyPost_ret (v := .tuple #[.agg #[.func (.func fd) #[] (cd h), .nilFunc, .nilFunc], .bool (isW n && fit n a && fit n b)]) (by simp [results, Try.results106, go_sem, z0, z1, z2, hz]) rfl ⟨h, rfl, ⟨by omega, by simp; omega, ?_, ?_, ?_, ?_, ?_, ?_⟩, ?_⟩
    · exact (Only.cell (w := w1) (b := w.heap.size) (by repeat (first | with_reducible exact Only.refl _ _ | with_reducible refine Only.drew ?_ | with_reducible refine Only.alloc ?_ _ | with_reducible refine Only.at ?_ _ _)) (by omega) (by omega)).trans C1.out
    · exact (Only.cell (w := w1) (b := w.heap.size) (by repeat (first | with_reducible exact Only.refl _ _ | with_reducible refine Only.drew ?_ | with_reducible refine Only.alloc ?_ _ | with_reducible refine Only.at ?_ _ _)) (by omega) (by omega)).trans C2.out
    · exact (Only.cell (w := w1) (b := w.heap.size) (by repeat (first | with_reducible exact Only.refl _ _ | with_reducible refine Only.drew ?_ | with_reducible refine Only.alloc ?_ _ | with_reducible refine Only.at ?_ _ _)) (by omega) (by omega)).trans C3.out
    · exact (Only.cell (w := w1) (b := w.heap.size) (by repeat (first | with_reducible exact Only.refl _ _ | with_reducible refine Only.drew ?_ | with_reducible refine Only.alloc ?_ _ | with_reducible refine Only.at ?_ _ _)) (by omega) (by omega)).trans C8.out
    · exact (Only.cell (w := w1) (b := w.heap.size) (by repeat (first | with_reducible exact Only.refl _ _ | with_reducible refine Only.drew ?_ | with_reducible refine Only.alloc ?_ _ | with_reducible refine Only.at ?_ _ _)) (by omega) (by omega)).trans C9.out
    · exact (Only.cell (w := w1) (b := w.heap.size) (by repeat (first | with_reducible exact Only.refl _ _ | with_reducible refine Only.drew ?_ | with_reducible refine Only.alloc ?_ _ | with_reducible refine Only.at ?_ _ _)) (by omega) (by omega)).trans C10.out
    · exact HB.out.trans (by repeat (first | with_reducible exact Below.refl _ _ | with_reducible refine Below.drew ?_ | with_reducible refine Below.alloc ?_ (by simp; try omega) _ | with_reducible refine below_at ?_ (Nat.le_refl _) _ _))

set_option maxHeartbeats 2000000 in
theorem asked_none (op n a b : Int) (w : World) (hf : ∀ h, Instr.findNow (.int .i64) (.int .i64 op) (opEntries h).toList 0 = some none) : Calls Try.prog 106 #[.int .i64 op, .int .i64 n, .int .u32 a, .int .u32 b] w fun e w' => e = .returned (.tuple #[.agg #[.nilFunc, .nilFunc, .nilFunc], .bool false]) ∧ Below w.heap.size w w' := by
  have hlk := run_lookup_int Try.prog 160 3 144 .i64 (.agg #[.nilFunc, .nilFunc, .nilFunc]) Try.underlying160 Try.underlying3 (fun w => by kernel_rfl)
  go_enter Try.func106, Try.ntmps106
  go_wp2_with (first | (go_at_call 127; refine (operations_any _).mono ?_; rintro e w1 ⟨r, h, rfl, ⟨m0, m1, m2, m3, m4, c1, c2, c3, c8, c9, c10⟩, hb1⟩))
  have hc := bcell hb1
  have z0 : w1.cell? ⟨w.heap.size, 0, none⟩ = some .nilFunc := by rw [hc.1 _ _ (by simp)]; simp [go_sem]
  have z1 : w1.cell? ⟨w.heap.size, 1, none⟩ = some .nilFunc := by rw [hc.1 _ _ (by simp)]; simp [go_sem]
  have z2 : w1.cell? ⟨w.heap.size, 2, none⟩ = some .nilFunc := by rw [hc.1 _ _ (by simp)]; simp [go_sem]
  have f0 : w1.frozen? ⟨w.heap.size, 0, none⟩ = false := by rw [hc.2 _ _ (by simp)]; simp [go_sem]
  have f1 : w1.frozen? ⟨w.heap.size, 1, none⟩ = false := by rw [hc.2 _ _ (by simp)]; simp [go_sem]
  have f2 : w1.frozen? ⟨w.heap.size, 2, none⟩ = false := by rw [hc.2 _ _ (by simp)]; simp [go_sem]
  have hz : w.heap.size < w1.heap.size := by have := hb1.size; simp at this; omega
  have hh : w.heap.size < h := by simp at m3; omega
  have HB : Hid (Below w.heap.size w w1) := ((Below.refl _ _).alloc (Nat.le_refl _) _).trans (hb1.mono (by simp))
  have C1 := Lib.hid c1
  have C2 := Lib.hid c2
  have C3 := Lib.hid c3
  have C8 := Lib.hid c8
  have C9 := Lib.hid c9
  have C10 := Lib.hid c10
  clear hlk hf m0 c1 c2 c3 c8 c9 c10 hc hb1 m1 m2 m3
  clear C1 C2 C3 C8 C9 C10 hh m4
  go_region
  all_goals
    go_wp2
    refine bodyPost_ret (v := .tuple #[.agg #[.nilFunc, .nilFunc, .nilFunc], .bool false]) (by simp [results, Try.results106, go_sem, z0, z1, z2, hz]) rfl ⟨rfl, ?_⟩
    exact HB.out.trans (by repeat (first | with_reducible exact Below.refl _ _ | with_reducible refine Below.drew ?_ | with_reducible refine Below.alloc ?_ (by simp; try omega) _ | with_reducible refine below_at ?_ (Nat.le_refl _) _ _))

end Go.Proofs.Ythopdfikikdcbaa
