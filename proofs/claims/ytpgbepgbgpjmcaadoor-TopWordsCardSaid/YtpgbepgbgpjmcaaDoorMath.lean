/- The words of chapter 1 as numbers: what each operation makes, in plain arithmetic; no program in sight. -/
import Derived.Laws.BitsAllLaws
import Derived.Laws.Entries
namespace Go.Proofs.YtpgbepgbgpjmcaaDoor.Wd

/-- 2 to the n. -/
def pw (n : Int) : Int := 2 ^ n.toNat
/-- n is a width. -/
def isW (n : Int) : Bool := decide (1 ≤ n ∧ n ≤ 32)
/-- a is a word of n bits (a is not negative). -/
def fit (n a : Int) : Bool := decide (a < pw n)
def sgn (n a : Int) : Int := if pw (n - 1) ≤ a then a - pw n else a
def wr (n x : Int) : Int := x % pw n

theorem pw_pos (n : Int) : 0 < pw n := by unfold pw; exact Int.pow_pos (by decide)
theorem pw_succ (n : Int) (h : 1 ≤ n) : pw n = 2 * pw (n - 1) := by
  unfold pw
  have : n.toNat = (n - 1).toNat + 1 := by omega
  rw [this, Int.pow_succ]; omega
theorem pw_mono {m n : Int} (h : m ≤ n) : pw m ≤ pw n := by
  unfold pw
  have h2 := Nat.pow_le_pow_right (n := 2) (by decide) (Int.toNat_le_toNat h)
  have := Int.ofNat_le.2 h2
  simpa using this
theorem pw_32 : pw 32 = 4294967296 := by decide
theorem pw_31 : pw 31 = 2147483648 := by decide
theorem pw_le32 {n : Int} (h : n ≤ 32) : pw n ≤ 4294967296 := by rw [← pw_32]; exact pw_mono h
theorem pw_le31 {n : Int} (h : n ≤ 31) : pw n ≤ 2147483648 := by rw [← pw_31]; exact pw_mono h
/-- The word of which each bit is the sign of a word. -/
def signV (n a : Int) : Int := if sgn n a < 0 then pw n - 1 else 0
theorem pw_cast (k : Nat) : pw (k : Int) = 2 ^ k := by simp [pw]
theorem pw_nat (k : Nat) : pw (k : Int) = ((2 ^ k : Nat) : Int) := by unfold pw; simp
theorem wr_lo (n x : Int) : 0 ≤ wr n x := Int.emod_nonneg _ (by have := pw_pos n; omega)
theorem wr_hi (n x : Int) : wr n x < pw n := Int.emod_lt_of_pos _ (pw_pos n)

theorem sgn_hi {n a : Int} (h : pw (n - 1) ≤ a) : sgn n a = a - pw n := if_pos h
theorem sgn_lo {n a : Int} (h : a < pw (n - 1)) : sgn n a = a := if_neg (by omega)

theorem hi_bit (n x : Int) (h1 : 1 ≤ n) (h3 : 0 ≤ x) (h4 : x < pw n) : x / 2 ^ (n.toNat - 1) = if pw (n - 1) ≤ x then 1 else 0 := by
  have e : n.toNat - 1 = (n - 1).toNat := by omega
  rw [e]
  have hp := pw_succ n h1
  have hp0 := pw_pos (n - 1)
  show x / pw (n - 1) = _
  split
  · have : x = (x - pw (n - 1)) + 1 * pw (n - 1) := by omega
    rw [this, Int.add_mul_ediv_right _ _ (by omega), Int.ediv_eq_zero_of_lt (by omega) (by omega)]; rfl
  · exact Int.ediv_eq_zero_of_lt h3 (by omega)
theorem tmod_wr (n x : Int) : wr n x = if x.tmod (pw n) < 0 then x.tmod (pw n) + pw n else x.tmod (pw n) := by
  have hp := pw_pos n
  unfold wr
  rw [Int.tmod_eq_emod]
  have h1 := Int.emod_nonneg x (show pw n ≠ 0 by omega)
  have h2 := Int.emod_lt_of_pos x hp
  split <;> split <;> omega

theorem dn_succ (x : Int) (j : Nat) : x / 2 ^ (j + 1) = x / 2 ^ j / 2 := by
  rw [Int.pow_succ, Int.ediv_ediv_of_nonneg (Int.pow_nonneg (by decide))]
theorem dn_lo (x : Int) (j : Nat) (h : -4294967296 ≤ x) : -4294967296 ≤ x / 2 ^ j := by
  induction j with
  | zero => simpa using h
  | succ j ih => rw [dn_succ]; omega
theorem dn_hi (x : Int) (j : Nat) (h : x ≤ 4294967296) : x / 2 ^ j ≤ 4294967296 := by
  induction j with
  | zero => simpa using h
  | succ j ih => rw [dn_succ]; omega

/-- The lowest j bits of x, as a number. -/
def lo (x j : Nat) : Int := ((x % 2 ^ j : Nat) : Int)
theorem lo_zero (x : Nat) : lo x 0 = 0 := by simp [lo, Nat.mod_one]
theorem lo_nn (x j : Nat) : 0 ≤ lo x j := Int.natCast_nonneg _
theorem lo_lt (x j : Nat) : lo x j < pw j := by
  rw [pw_nat]; exact Int.ofNat_lt.2 (Nat.mod_lt _ (Nat.two_pow_pos j))
theorem lo_1 (x j : Nat) (h : x.testBit j = true) : lo x (j + 1) = lo x j + pw j := by
  rw [pw_nat]; unfold lo
  rw [Nat.mod_pow_succ]
  have : x / 2 ^ j % 2 = 1 := by simpa [Nat.testBit_eq_decide_div_mod_eq] using h
  rw [this]; simp
theorem lo_0 (x j : Nat) (h : x.testBit j = false) : lo x (j + 1) = lo x j := by
  unfold lo
  rw [Nat.mod_pow_succ]
  have : x / 2 ^ j % 2 = 0 := by
    have h2 : ¬ x / 2 ^ j % 2 = 1 := by simpa [Nat.testBit_eq_decide_div_mod_eq] using h
    omega
  rw [this]; simp
theorem lo_all (x j : Nat) (h : (x : Int) < pw j) : lo x j = x := by
  unfold lo
  rw [pw_nat] at h
  rw [Nat.mod_eq_of_lt (Int.ofNat_lt.1 h)]
theorem bit_1 (a : Int) (j : Nat) (h : 0 ≤ a) (e : a.toNat.testBit j = true) : (a / pw j).tmod 2 = 1 := by
  rw [Int.tmod_eq_emod_of_nonneg (Int.ediv_nonneg h (Int.le_of_lt (pw_pos j)))]
  have h2 : a.toNat / 2 ^ j % 2 = 1 := by simpa [Nat.testBit_eq_decide_div_mod_eq] using e
  have h3 : a = (a.toNat : Int) := by omega
  rw [h3, pw_nat, ← Int.natCast_ediv, show (2 : Int) = ((2 : Nat) : Int) from rfl, ← Int.natCast_emod, h2]; rfl
theorem bit_0 (a : Int) (j : Nat) (h : 0 ≤ a) (e : a.toNat.testBit j = false) : (a / pw j).tmod 2 = 0 := by
  rw [Int.tmod_eq_emod_of_nonneg (Int.ediv_nonneg h (Int.le_of_lt (pw_pos j)))]
  have h2 : a.toNat / 2 ^ j % 2 = 0 := by
    have h2 : ¬ a.toNat / 2 ^ j % 2 = 1 := by simpa [Nat.testBit_eq_decide_div_mod_eq] using e
    omega
  have h3 : a = (a.toNat : Int) := by omega
  rw [h3, pw_nat, ← Int.natCast_ediv, show (2 : Int) = ((2 : Nat) : Int) from rfl, ← Int.natCast_emod, h2]; rfl
theorem and_lt (a b n : Int) (_h1 : 0 ≤ a) (h2 : a < pw n) : ((a.toNat &&& b.toNat : Nat) : Int) < pw n := by
  have := @Nat.and_le_left a.toNat b.toNat
  omega
theorem to_lt {a n : Int} (h2 : a < pw n) : a.toNat < 2 ^ n.toNat := by
  have := pw_pos n
  have e : ((2 ^ n.toNat : Nat) : Int) = pw n := by unfold pw; simp
  omega
theorem or_lt (a b n : Int) (h2 : a < pw n) (h4 : b < pw n) : ((a.toNat ||| b.toNat : Nat) : Int) < pw n := by
  have := Nat.or_lt_two_pow (to_lt h2) (to_lt h4)
  have e : ((2 ^ n.toNat : Nat) : Int) = pw n := by unfold pw; simp
  omega
theorem xor_lt (a b n : Int) (h2 : a < pw n) (h4 : b < pw n) : ((a.toNat ^^^ b.toNat : Nat) : Int) < pw n := by
  have := Nat.xor_lt_two_pow (to_lt h2) (to_lt h4)
  have e : ((2 ^ n.toNat : Nat) : Int) = pw n := by unfold pw; simp
  omega

theorem wr_shl (n a : Int) (j : Nat) : wr n (a * pw (j + 1 : Nat)) = 2 * wr n (a * pw j) % pw n := by
  unfold wr
  have : pw (j + 1 : Nat) = 2 * pw j := by rw [pw_nat, pw_nat, Nat.pow_succ]; omega
  rw [this, Int.mul_emod 2 (a * pw j % pw n), Int.emod_emod_of_dvd _ (Int.dvd_refl _), ← Int.mul_emod]
  congr 1
  rw [← Int.mul_assoc, Int.mul_comm a 2, Int.mul_assoc]
theorem wr_small {n a : Int} (h1 : 0 ≤ a) (h2 : a < pw n) : wr n a = a := Int.emod_eq_of_lt h1 h2

theorem sgn_ge {n a : Int} (h1 : 1 ≤ n) (_h2 : n ≤ 32) (h3 : 0 ≤ a) : -pw (n - 1) ≤ sgn n a := by
  have := pw_succ n h1
  have := pw_pos (n - 1)
  unfold sgn; split <;> omega
theorem sgn_le {n a : Int} (h1 : 1 ≤ n) (h4 : a < pw n) : sgn n a < pw (n - 1) := by
  have := pw_succ n h1
  have := pw_pos (n - 1)
  unfold sgn; split <;> omega
theorem sgn_lo32 {n a : Int} (h1 : 1 ≤ n) (h2 : n ≤ 32) (h3 : 0 ≤ a) : -2147483648 ≤ sgn n a := by
  have := sgn_ge h1 h2 h3
  have := @pw_le31 (n - 1) (by omega)
  omega
theorem sgn_hi32 {n a : Int} (h1 : 1 ≤ n) (h2 : n ≤ 32) (h4 : a < pw n) : sgn n a ≤ 2147483647 := by
  have := sgn_le h1 h4
  have := @pw_le31 (n - 1) (by omega)
  omega

/-- What an operation makes of two words; where there is none, what the solver takes. -/
def tot (op n a b : Int) : Int :=
  if op = 1 then wr n (a + b) else
  if op = 2 then wr n (a - b) else
  if op = 3 then wr n (a * b) else
  if op = 4 then (if b = 0 then pw n - 1 else a / b) else
  if op = 5 then (if b = 0 then a else a % b) else
  if op = 6 then (if b = 0 then (if sgn n a < 0 then 1 else pw n - 1) else if sgn n a = -pw (n - 1) ∧ sgn n b = -1 then a else wr n ((sgn n a).tdiv (sgn n b))) else
  if op = 7 then (if b = 0 then a else if sgn n a = -pw (n - 1) ∧ sgn n b = -1 then 0 else wr n ((sgn n a).tmod (sgn n b))) else
  if op = 8 then ((a.toNat &&& b.toNat : Nat) : Int) else
  if op = 9 then ((a.toNat ||| b.toNat : Nat) : Int) else
  if op = 10 then ((a.toNat ^^^ b.toNat : Nat) : Int) else
  if op = 11 then (if n ≤ b then 0 else wr n (a * pw b)) else
  if op = 12 then (if n ≤ b then 0 else a / pw b) else
  (if n ≤ b then (if sgn n a < 0 then pw n - 1 else 0) else wr n (sgn n a / pw b))
/-- Whether there is a word. -/
def has (op n a b : Int) : Bool :=
  if op = 4 ∨ op = 5 then decide (b ≠ 0) else
  if op = 6 ∨ op = 7 then decide (b ≠ 0 ∧ ¬ (sgn n a = -pw (n - 1) ∧ sgn n b = -1)) else
  if op = 11 ∨ op = 12 ∨ op = 13 then decide (b < n) else true
/-- The operation and its words are right. -/
def good (op n a b : Int) : Bool := decide (1 ≤ op ∧ op ≤ 13 ∧ 1 ≤ n ∧ n ≤ 32 ∧ a < pw n ∧ b < pw n)

theorem sgn_wr (n a : Int) : ∃ k, sgn n a = a + k * pw n := by
  unfold sgn
  split
  · exact ⟨-1, by omega⟩
  · exact ⟨0, by omega⟩
theorem wr_mul (n a b : Int) : wr n (sgn n a * sgn n b) = wr n (a * b) := by
  obtain ⟨k, hk⟩ := sgn_wr n a
  obtain ⟨l, hl⟩ := sgn_wr n b
  unfold wr
  rw [hk, hl]
  have : (a + k * pw n) * (b + l * pw n) = a * b + (a * l + k * b + k * l * pw n) * pw n := by
    simp only [Int.add_mul, Int.mul_add, Int.mul_assoc, Int.mul_comm, Int.mul_left_comm]; omega
  rw [this, Int.add_mul_emod_self_right]
theorem mul_bd {x y m : Int} (h1 : -m ≤ x) (h2 : x ≤ m) (h3 : -m ≤ y) (h4 : y ≤ m) : -(m * m) ≤ x * y ∧ x * y ≤ m * m := by
  have hx : x.natAbs ≤ m.natAbs := by omega
  have hy : y.natAbs ≤ m.natAbs := by omega
  have h : (x * y).natAbs ≤ (m * m).natAbs := by
    rw [Int.natAbs_mul, Int.natAbs_mul]; exact Nat.mul_le_mul hx hy
  have hm : 0 ≤ m * m := Int.mul_nonneg (by omega) (by omega)
  omega
theorem mul_lo32 {x y : Int} (h1 : -2147483648 ≤ x) (h2 : x ≤ 2147483647) (h3 : -2147483648 ≤ y) (h4 : y ≤ 2147483647) : -4611686018427387904 ≤ x * y ∧ x * y ≤ 4611686018427387904 := by
  have := mul_bd (m := 2147483648) h1 (by omega) h3 (by omega)
  omega
theorem tdiv_bd {x y : Int} (h1 : -2147483648 ≤ x) (h2 : x ≤ 2147483647) : -2147483648 ≤ x.tdiv y ∧ x.tdiv y ≤ 2147483648 := by
  have h := Int.natAbs_tdiv_le_natAbs x y
  omega
theorem tmod_bd {x y : Int} (h1 : -2147483648 ≤ x) (h2 : x ≤ 2147483647) : -2147483648 ≤ x.tmod y ∧ x.tmod y ≤ 2147483648 := by
  have h : (x.tmod y).natAbs ≤ x.natAbs := by rw [Int.natAbs_tmod]; exact Nat.mod_le _ _
  omega
theorem tmod_q (x y : Int) : x.tdiv y * y = x - x.tmod y := by
  have := Int.tmod_add_mul_tdiv x y
  rw [Int.mul_comm] at this
  omega
theorem sgn_zero {n b : Int} (h1 : 1 ≤ n) (h4 : b < pw n) : sgn n b = 0 ↔ b = 0 := by
  have := pw_succ n h1
  have := pw_pos (n - 1)
  unfold sgn; split <;> omega
theorem good_iff (op n a b : Int) : good op n a b = true ↔ 1 ≤ op ∧ op ≤ 13 ∧ 1 ≤ n ∧ n ≤ 32 ∧ a < pw n ∧ b < pw n := by simp [good]
/-- v is a word of n bits. -/
def Word (n v : Int) : Prop := 0 ≤ v ∧ v < pw n
theorem word_ite {n x y : Int} {c : Prop} [Decidable c] (h1 : c → Word n x) (h2 : ¬c → Word n y) : Word n (if c then x else y) := by
  by_cases h : c
  · rw [if_pos h]; exact h1 h
  · rw [if_neg h]; exact h2 h
theorem word_wr (n x : Int) : Word n (wr n x) := ⟨wr_lo n x, wr_hi n x⟩
theorem tot_word {op n a b : Int} (g : good op n a b = true) (ha : 0 ≤ a) (hb : 0 ≤ b) : Word n (tot op n a b) := by
  obtain ⟨g1, g2, g3, g4, g5, g6⟩ := (good_iff _ _ _ _).1 g
  have hp := pw_pos n
  have hp2 := pw_succ n g3
  have hp3 := pw_pos (n - 1)
  have hd : a / b ≤ a := Int.ediv_le_self b ha
  have hd2 : a / pw b ≤ a := Int.ediv_le_self _ ha
  have hd3 : 0 ≤ a / b := Int.ediv_nonneg ha hb
  have hd4 : 0 ≤ a / pw b := Int.ediv_nonneg ha (Int.le_of_lt (pw_pos _))
  have hm : b ≠ 0 → Word n (a % b) := fun h => ⟨Int.emod_nonneg _ h, by have := Int.emod_lt_of_pos a (show 0 < b by omega); omega⟩
  have wa : Word n (((a.toNat &&& b.toNat : Nat) : Int)) := ⟨Int.natCast_nonneg _, and_lt a b n ha g5⟩
  have wo : Word n (((a.toNat ||| b.toNat : Nat) : Int)) := ⟨Int.natCast_nonneg _, or_lt a b n g5 g6⟩
  have wx : Word n (((a.toNat ^^^ b.toNat : Nat) : Int)) := ⟨Int.natCast_nonneg _, xor_lt a b n g5 g6⟩
  unfold tot
  repeat' (refine word_ite (fun _ => ?_) (fun _ => ?_))
  all_goals first | exact word_wr _ _ | assumption | exact hm ‹_› | exact ⟨by omega, by omega⟩
theorem tot_lo {op n a b : Int} (g : good op n a b = true) (ha : 0 ≤ a) (hb : 0 ≤ b) : 0 ≤ tot op n a b := (tot_word g ha hb).1
theorem tot_hi {op n a b : Int} (g : good op n a b = true) (ha : 0 ≤ a) (hb : 0 ≤ b) : tot op n a b < pw n := (tot_word g ha hb).2
theorem tot_32 {op n a b : Int} (g : good op n a b = true) (ha : 0 ≤ a) (hb : 0 ≤ b) : tot op n a b ≤ 4294967295 := by
  have h1 := tot_hi g ha hb
  have h2 := @pw_le32 n (by have := (good_iff _ _ _ _).1 g; omega)
  omega
theorem pw_dvd {m n : Int} (h : m ≤ n) : pw m ∣ pw n := by
  have e : n.toNat = m.toNat + (n.toNat - m.toNat) := by have := Int.toNat_le_toNat h; omega
  unfold pw
  rw [e, Int.pow_add]
  exact Int.dvd_mul_right _ _
theorem pw_toNat (n : Int) : (pw n - 1).toNat = 2 ^ n.toNat - 1 := by
  have e : ((2 ^ n.toNat : Nat) : Int) = pw n := by unfold pw; simp
  have := Nat.two_pow_pos n.toNat
  omega
theorem mask_fit {n x : Int} (h1 : n ≤ 32) (h3 : 0 ≤ x) (h4 : x ≤ 4294967295) : bits .and .u32 x (pw n - 1) = wr n x := by
  have hp := pw_pos n
  have hp2 := pw_le32 h1
  rw [u32_and x _ h3 (by omega) (by omega) (by omega), pw_toNat, Nat.and_two_pow_sub_one_eq_mod]
  unfold wr
  have e : ((2 ^ n.toNat : Nat) : Int) = pw n := by unfold pw; simp
  rw [Int.natCast_emod, e]
  congr 1
  omega
theorem wr_mod {n : Int} (h1 : n ≤ 32) (x : Int) : wr n (x % 4294967296) = wr n x := by
  unfold wr
  rw [← pw_32]
  exact Int.emod_emod_of_dvd x (pw_dvd h1)
theorem mask_wr {n : Int} (h1 : n ≤ 32) (x : Int) : bits .and .u32 (x % 4294967296) (pw n - 1) = wr n x := by
  rw [mask_fit h1 (by omega) (by omega), wr_mod h1]

/-! ### lanes: digits of the base L -/
/-- The number with the digits d 0 .. d (j - 1). -/
def sumTo (L : Int) (d : Nat → Int) : Nat → Int
  | 0 => 0
  | j + 1 => sumTo L d j + d j * L ^ j
theorem sumTo_bd {L : Int} {d : Nat → Int} (hL : 0 < L) (hd : ∀ i, 0 ≤ d i ∧ d i < L) : ∀ j, 0 ≤ sumTo L d j ∧ sumTo L d j < L ^ j
  | 0 => by simp [sumTo]
  | j + 1 => by
    have ih := sumTo_bd hL hd j
    have hp : 0 < L ^ j := Int.pow_pos hL
    obtain ⟨h1, h2⟩ := hd j
    have h3 : 0 ≤ d j * L ^ j := Int.mul_nonneg h1 (Int.le_of_lt hp)
    have h4 : d j * L ^ j ≤ (L - 1) * L ^ j := Int.mul_le_mul_of_nonneg_right (by omega) (Int.le_of_lt hp)
    have h5 : (L - 1) * L ^ j = L ^ (j + 1) - L ^ j := by rw [Int.sub_mul, Int.pow_succ, Int.mul_comm L, Int.one_mul]
    simp only [sumTo]
    omega
theorem sumTo_digit {L : Int} {d : Nat → Int} (hL : 0 < L) (hd : ∀ i, 0 ≤ d i ∧ d i < L) : ∀ j i, i < j → sumTo L d j / L ^ i % L = d i
  | 0, i, h => absurd h (by omega)
  | j + 1, i, h => by
    have hp : 0 < L ^ i := Int.pow_pos hL
    simp only [sumTo]
    by_cases e : i = j
    · subst e
      have hb := sumTo_bd hL hd i
      rw [Int.add_mul_ediv_right _ _ (by omega), Int.ediv_eq_zero_of_lt hb.1 hb.2, Int.zero_add]
      exact Int.emod_eq_of_lt (hd i).1 (hd i).2
    · have ih := sumTo_digit hL hd j i (by omega)
      have e2 : d j * L ^ j = d j * L ^ (j - i - 1) * L * L ^ i := by
        have : j = (j - i - 1) + 1 + i := by omega
        rw [this, Int.pow_add, Int.pow_succ]
        have e3 : j - i - 1 + 1 + i - i - 1 = j - i - 1 := by omega
        simp only [← this, Int.mul_assoc]
      rw [e2, Int.add_mul_ediv_right _ _ (by omega), Int.add_mul_emod_self_right]
      exact ih
theorem emod_split {a P L : Int} (hP : 0 < P) : a % (P * L) = a % P + a / P % L * P := by
  rw [Int.emod_def a (P * L), Int.emod_def a P, Int.emod_def (a / P) L, Int.ediv_ediv_of_nonneg (Int.le_of_lt hP), Int.sub_mul]
  have e1 : L * (a / (P * L)) * P = P * L * (a / (P * L)) := by rw [Int.mul_comm, ← Int.mul_assoc]
  have e2 : a / P * P = P * (a / P) := Int.mul_comm _ _
  rw [e1, e2]
  omega
theorem sumTo_self {L : Int} (hL : 0 < L) (a : Int) : ∀ j, sumTo L (fun i => a / L ^ i % L) j = a % L ^ j
  | 0 => by simp [sumTo, Int.emod_one]
  | j + 1 => by
    have hp : 0 < L ^ j := Int.pow_pos hL
    simp only [sumTo]
    rw [sumTo_self hL a j, Int.pow_succ, emod_split hp]
theorem sumTo_congr {L : Int} {d e : Nat → Int} : ∀ j, (∀ i, i < j → d i = e i) → sumTo L d j = sumTo L e j
  | 0, _ => rfl
  | j + 1, h => by
    simp only [sumTo]
    rw [sumTo_congr j (fun i hi => h i (by omega)), h j (by omega)]

/-- The lane number j of two words, what the operation makes of it. -/
def lane (op l a b : Int) (j : Nat) : Int := wr l (if op = 20 then wr l (a / pw l ^ j) - wr l (b / pw l ^ j) else wr l (a / pw l ^ j) + wr l (b / pw l ^ j))
/-- What Lanes makes. -/
def lanes (op n l a b : Int) : Int := sumTo (pw l) (lane op l a b) (n / l).toNat
def goodL (op n l a b : Int) : Bool := decide ((op = 19 ∨ op = 20) ∧ 1 ≤ n ∧ n ≤ 32 ∧ a < pw n ∧ b < pw n ∧ 1 ≤ l ∧ l < n ∧ n % l = 0)
theorem goodL_iff (op n l a b : Int) : goodL op n l a b = true ↔ (op = 19 ∨ op = 20) ∧ 1 ≤ n ∧ n ≤ 32 ∧ a < pw n ∧ b < pw n ∧ 1 ≤ l ∧ l < n ∧ n % l = 0 := by simp only [goodL, decide_eq_true_eq]
theorem lane_bd (op l a b : Int) (j : Nat) : 0 ≤ lane op l a b j ∧ lane op l a b j < pw l := ⟨wr_lo _ _, wr_hi _ _⟩
theorem pw_mul (l : Nat) (j : Nat) : pw (l : Int) ^ j = 2 ^ (j * l) := by rw [pw_cast, ← Int.pow_mul, Nat.mul_comm]
theorem lanes_count {n l : Int} (h1 : 1 ≤ l) (h2 : n % l = 0) (h3 : 1 ≤ n) : ((n / l).toNat : Int) * l = n := by
  have h4 : 0 ≤ n / l := Int.ediv_nonneg (by omega) (by omega)
  rw [Int.toNat_of_nonneg h4]
  have := Int.ediv_mul_add_emod n l
  omega
theorem lanes_bd {op n l a b : Int} (h1 : 1 ≤ l) (h2 : n % l = 0) (h3 : 1 ≤ n) : 0 ≤ lanes op n l a b ∧ lanes op n l a b < pw n := by
  have h := sumTo_bd (pw_pos l) (lane_bd op l a b) (n / l).toNat
  have hc := lanes_count h1 h2 h3
  obtain ⟨m, rfl⟩ := Int.eq_ofNat_of_zero_le (show 0 ≤ l by omega)
  obtain ⟨k, rfl⟩ := Int.eq_ofNat_of_zero_le (show 0 ≤ n by omega)
  have e : pw (m : Int) ^ ((k : Int) / (m : Int)).toNat = pw k := by
    rw [pw_mul, pw_cast]
    congr 1
    exact_mod_cast hc
  rw [e] at h
  exact h
/-- A difference takes back a sum, and a sum a difference. -/
theorem lanes_back {op n l a b : Int} (g : goodL op n l a b = true) (ha : 0 ≤ a) : lanes (39 - op) n l (lanes op n l a b) b = a := by
  obtain ⟨g0, g1, g2, g3, g4, g5, g6, g7⟩ := (goodL_iff _ _ _ _ _).1 g
  have hc := lanes_count g5 g7 g1
  have hL := pw_pos l
  have h1 : ∀ i, i < (n / l).toNat → lane (39 - op) l (lanes op n l a b) b i = a / pw l ^ i % pw l := by
    intro i hi
    have hd := sumTo_digit hL (lane_bd op l a b) _ i hi
    have e : wr l (lanes op n l a b / pw l ^ i) = lane op l a b i := hd
    show wr l (if 39 - op = 20 then wr l (lanes op n l a b / pw l ^ i) - wr l (b / pw l ^ i) else wr l (lanes op n l a b / pw l ^ i) + wr l (b / pw l ^ i)) = _
    rw [e]
    unfold lane
    generalize wr l (b / pw l ^ i) = q
    generalize a / pw l ^ i = p
    rcases g0 with rfl | rfl
    · rw [if_pos (by decide), if_neg (by decide)]
      unfold wr
      rw [Int.emod_sub_emod, show p % pw l + q - q = p % pw l by omega, Int.emod_emod_of_dvd _ (Int.dvd_refl _)]
    · rw [if_neg (by decide), if_pos (by decide)]
      unfold wr
      rw [Int.emod_add_emod, show p % pw l - q + q = p % pw l by omega, Int.emod_emod_of_dvd _ (Int.dvd_refl _)]
  show sumTo (pw l) (lane (39 - op) l (lanes op n l a b) b) (n / l).toNat = a
  rw [sumTo_congr _ h1, sumTo_self hL]
  obtain ⟨m, rfl⟩ := Int.eq_ofNat_of_zero_le (show 0 ≤ l by omega)
  obtain ⟨k, rfl⟩ := Int.eq_ofNat_of_zero_le (show 0 ≤ n by omega)
  have e : pw (m : Int) ^ ((k : Int) / (m : Int)).toNat = pw k := by
    rw [pw_mul, pw_cast]
    congr 1
    exact_mod_cast hc
  rw [e]
  exact Int.emod_eq_of_lt ha g3
theorem lane_fit {k t m : Nat} {j : Nat} {out z : Int} (h1 : out < pw k ^ j) (h2 : pw (k : Int) ^ j = 2 ^ t) (h3 : z < pw k) (h4 : t + k ≤ m) : out + z * 2 ^ t < pw m := by
  rw [h2] at h1
  have hp : (0 : Int) < 2 ^ t := Int.pow_pos (by decide)
  have e1 : z * 2 ^ t ≤ (pw k - 1) * 2 ^ t := Int.mul_le_mul_of_nonneg_right (by omega) (Int.le_of_lt hp)
  have e2 : (pw (k : Int) - 1) * 2 ^ t = pw ((t + k : Nat) : Int) - 2 ^ t := by rw [Int.sub_mul, Int.one_mul, pw_cast, pw_cast, Int.pow_add, Int.mul_comm]
  have e3 : pw ((t + k : Nat) : Int) ≤ pw m := pw_mono (by omega)
  omega
theorem or_join {t : Nat} {out z : Int} (h1 : 0 ≤ out) (h2 : out < 2 ^ t) (h3 : 0 ≤ z) (h4 : z * 2 ^ t ≤ 4294967295) (h5 : out ≤ 4294967295) : bits .or .u32 out (z * 2 ^ t) = out + z * 2 ^ t := by
  obtain ⟨o, rfl⟩ := Int.eq_ofNat_of_zero_le h1
  obtain ⟨y, rfl⟩ := Int.eq_ofNat_of_zero_le h3
  have e : (y : Int) * 2 ^ t = ((y * 2 ^ t : Nat) : Int) := by rw [Int.natCast_mul, Int.natCast_pow]; rfl
  have ho : o < 2 ^ t := by
    have e3 : ((2 ^ t : Nat) : Int) = 2 ^ t := by rw [Int.natCast_pow]; rfl
    omega
  rw [e] at h4 ⊢
  have hy : y * 2 ^ t ≤ 4294967295 := Int.ofNat_le.1 h4
  by_cases hy0 : y = 0
  · subst hy0
    rw [u32_or _ _ (by omega) (by omega) (by omega) (by omega)]; simp
  · have : 2 ^ t ≤ y * 2 ^ t := Nat.le_mul_of_pos_left _ (by omega)
    rw [u32_or _ _ (by omega) (by omega) (by omega) (by omega)]
    simp only [Int.toNat_natCast]
    rw [Nat.or_comm, nat_join t _ _ (Nat.mul_mod_left _ _) ho]
    omega
end Go.Proofs.YtpgbepgbgpjmcaaDoor.Wd
