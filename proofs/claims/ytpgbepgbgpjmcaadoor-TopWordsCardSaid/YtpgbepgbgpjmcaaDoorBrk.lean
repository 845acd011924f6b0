/- Which flags are broken: plain arithmetic; no program in sight. -/
import Derived.Test.YtpgbepgbgpjmcaaDoorRing
namespace Go.Proofs.YtpgbepgbgpjmcaaDoor.Wd
set_option linter.unusedVariables false
set_option linter.unusedSimpArgs false
/-- A product, but at most 2 to the 62. -/
def mulW (a b : Int) : Int := if 4611686018427387904 ≤ (max a (-a)) * (max b (-b)) then 4611686018427387904 else a * b
/-- The result without a limit. -/
def whl (op a b : Int) : Int := if op = 1 then a + b else if op = 2 then a - b else if op = 3 then mulW a b else a * pw b
def brU (op n a b : Int) : Bool := decide (whl op a b < 0) || decide (pw n - 1 < whl op a b)
def sArg (op n b : Int) : Int := if op = 11 then b else sgn n b
def brS (op n a b : Int) : Bool := decide (whl op (sgn n a) (sArg op n b) < -pw (n - 1)) || decide (pw (n - 1) ≤ whl op (sgn n a) (sArg op n b))
def brL (op n a b : Int) : Bool := if op = 4 then a % b != 0 else if op = 6 then (sgn n a).tmod (sgn n b) != 0 else a % pw b != 0
def f0 (fl : Int) : Bool := decide (fl % 2 = 1)
def f1 (fl : Int) : Bool := decide (fl / 2 % 2 = 1)
def f2 (fl : Int) : Bool := decide (fl / 4 % 2 = 1)
def brk (op fl n a b : Int) : Bool :=
  if op = 1 ∨ op = 2 ∨ op = 3 ∨ op = 11 then (f0 fl && brU op n a b) || (f1 fl && brS op n a b) else if op = 4 ∨ op = 6 ∨ op = 12 ∨ op = 13 then f2 fl && brL op n a b else false
def goodF (op fl n a b : Int) : Bool := good op n a b && decide (0 ≤ fl ∧ fl ≤ 7)
def brX (op fl n a b : Int) : Bool := goodF op fl n a b && has op n a b && brk op fl n a b
def brE (op fl n a b : Int) : Int := if goodF op fl n a b = true then 0 else 1
theorem max_abs (a : Int) : max a (-a) = (a.natAbs : Int) := by omega
/-- A product of words is above the greatest word just if mulW is. -/
theorem mulW_u {n a b : Int} (h : n ≤ 32) (ha : 0 ≤ a) (hb : 0 ≤ b) : brU 3 n a b = decide (pw n ≤ a * b) := by
  have hp := pw_le32 h
  have hab : 0 ≤ a * b := Int.mul_nonneg ha hb
  have e : max a (-a) * max b (-b) = a * b := by rw [max_abs, max_abs, Int.natAbs_of_nonneg ha, Int.natAbs_of_nonneg hb]
  unfold brU whl mulW
  rw [e]
  rw [Bool.eq_iff_iff]
  simp only [Bool.or_eq_true, decide_eq_true_eq]
  simp
  split <;> omega
theorem mulW_s {n x y : Int} (h1 : 1 ≤ n) (h2 : n ≤ 32) (x1 : -2147483648 ≤ x) (x2 : x ≤ 2147483647) (y1 : -2147483648 ≤ y) (y2 : y ≤ 2147483647) :
    (mulW x y < -pw (n - 1) ↔ x * y < -pw (n - 1)) ∧ (pw (n - 1) ≤ mulW x y ↔ pw (n - 1) ≤ x * y) := by
  have hp := @pw_le31 (n - 1) (by omega)
  have hp0 := pw_pos (n - 1)
  have hm := mul_lo32 x1 x2 y1 y2
  have e : max x (-x) * max y (-y) = ((x * y).natAbs : Int) := by rw [max_abs, max_abs, Int.natAbs_mul]; simp
  unfold mulW
  rw [e]
  by_cases hc : 4611686018427387904 ≤ ((x * y).natAbs : Int)
  · rw [if_pos hc]
    have : x * y = 4611686018427387904 ∨ x * y = -4611686018427387904 := by omega
    rcases this with h | h
    · rw [h]; omega
    · exfalso
      have hx : x = -2147483648 ∨ -2147483647 ≤ x := by omega
      have hy : y = -2147483648 ∨ -2147483647 ≤ y := by omega
      rcases hx with rfl | hx
      · omega
      · rcases hy with rfl | hy
        · omega
        · have := mul_bd (m := 2147483647) hx x2 hy y2
          omega
  · rw [if_neg hc]; exact ⟨Iff.rfl, Iff.rfl⟩
def bey (a b l : Int) : Bool := decide (l < a * b)
theorem bey_of {a b l : Int} (ha : 1 ≤ a) : (decide (l / a < b)) = bey a b l := by
  unfold bey
  rw [Bool.eq_iff_iff]
  simp only [decide_eq_true_eq]
  rw [Int.ediv_lt_iff_lt_mul (by omega), Int.mul_comm]
theorem brU_1 (n a b : Int) (ha : 0 ≤ a) (hb : 0 ≤ b) : brU 1 n a b = decide (pw n ≤ a + b) := by
  unfold brU whl; rw [Bool.eq_iff_iff]; simp; omega
theorem brU_2 (n a b : Int) (ha : 0 ≤ a) (ha2 : a < pw n) (hb : 0 ≤ b) : brU 2 n a b = decide (a < b) := by
  unfold brU whl; rw [Bool.eq_iff_iff]; simp; omega
theorem brU_11 (n a b : Int) (ha : 0 ≤ a) : brU 11 n a b = decide (pw n ≤ a * pw b) := by
  have : 0 ≤ a * pw b := Int.mul_nonneg ha (Int.le_of_lt (pw_pos b))
  unfold brU whl; rw [Bool.eq_iff_iff]; simp; omega
theorem and_fl (fl : Int) (h0 : 0 ≤ fl) (h7 : fl ≤ 7) : (bits .and .i64 fl 1 != 0) = f0 fl ∧ (bits .and .i64 fl 2 != 0) = f1 fl ∧ (bits .and .i64 fl 4 != 0) = f2 fl := by
  have h : fl = 0 ∨ fl = 1 ∨ fl = 2 ∨ fl = 3 ∨ fl = 4 ∨ fl = 5 ∨ fl = 6 ∨ fl = 7 := by omega
  rcases h with rfl | rfl | rfl | rfl | rfl | rfl | rfl | rfl <;> decide
theorem shl_shr {a : Int} {k : Nat} (h : 0 ≤ a) (h2 : a ≤ 4294967295) : (a / 2 ^ k * 2 ^ k % 4294967296 != a) = (a % 2 ^ k != 0) := by
  have hp : (0 : Int) < 2 ^ k := Int.pow_pos (by decide)
  have e := Int.ediv_mul_add_emod a (2 ^ k)
  have e2 := Int.emod_nonneg a (show (2 : Int) ^ k ≠ 0 by omega)
  have e3 : 0 ≤ a / 2 ^ k * 2 ^ k := Int.mul_nonneg (Int.ediv_nonneg h (by omega)) (by omega)
  rw [Int.emod_eq_of_lt e3 (by omega), Bool.eq_iff_iff]
  simp only [bne_iff_ne, ne_eq]
  omega
theorem shl_bd {a : Int} {k : Nat} (h1 : -4294967295 ≤ a) (h2 : a ≤ 4294967295) (hk : k ≤ 31) : -9223372036854775808 ≤ a * 2 ^ k ∧ a * 2 ^ k ≤ 9223372036854775807 := by
  have hp : (0 : Int) < 2 ^ k := Int.pow_pos (by decide)
  have hq : (2 : Int) ^ k ≤ 2147483648 := by
    have := pw_mono (m := (k : Int)) (n := 31) (by omega)
    rw [pw_cast, pw_31] at this; exact this
  have := mul_bd (m := 4294967295) h1 h2 (show -4294967295 ≤ (2 : Int) ^ k by omega) (by omega)
  have h3 : a * 2 ^ k ≤ 4294967295 * 2 ^ k := Int.mul_le_mul_of_nonneg_right h2 (by omega)
  have h4 : -4294967295 * 2 ^ k ≤ a * 2 ^ k := Int.mul_le_mul_of_nonneg_right h1 (by omega)
  omega
end Go.Proofs.YtpgbepgbgpjmcaaDoor.Wd
