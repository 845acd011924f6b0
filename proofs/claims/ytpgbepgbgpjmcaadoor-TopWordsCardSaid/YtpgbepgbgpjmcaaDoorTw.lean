/- What the statement of words says of the words: plain arithmetic; no program in sight. -/
import Derived.Test.YtpgbepgbgpjmcaaDoorBrk
import Derived.Test.YtpgbepgbgpjmcaaDoorCnt
namespace Go.Proofs.YtpgbepgbgpjmcaaDoor.Wd
set_option linter.unusedVariables false
set_option linter.unusedSimpArgs false
set_option linter.unusedSectionVars false

theorem wr_of {n x : Int} (h1 : 0 ≤ x) (h2 : x < pw n) : wr n x = x := wr_small h1 h2
theorem sgn_of {n x : Int} (g : 1 ≤ n) (h1 : -pw (n - 1) ≤ x) (h2 : x < pw (n - 1)) : sgn n (wr n x) = x := by
  have hp := pw_succ n g
  have hp0 := pw_pos (n - 1)
  by_cases h : 0 ≤ x
  · rw [wr_small h (by omega), sgn_lo (by omega)]
  · have e : wr n x = x + pw n := by
      rw [wr_congr (show x = (x + pw n) + (-1) * pw n by omega), wr_small (by omega) (by omega)]
    rw [e, sgn_hi (by omega)]; omega
theorem wr_add_sgn (n a b : Int) : wr n (sgn n a + sgn n b) = wr n (a + b) := by
  rw [← wr_add_l, wr_sgn, wr_add_l, ← wr_add_r, wr_sgn, wr_add_r]
theorem wr_sub_sgn (n a b : Int) : wr n (sgn n a - sgn n b) = wr n (a - b) := by
  obtain ⟨k, hk⟩ := sgn_wr n a
  obtain ⟨l, hl⟩ := sgn_wr n b
  rw [hk, hl]
  exact wr_congr (k := k - l) (by rw [Int.sub_mul]; omega)

/-! ### the flags -/
theorem brX_u {op n a b : Int} (g : good op n a b = true) (h : has op n a b = true) (ho : op = 1 ∨ op = 2 ∨ op = 3) : brX op 1 n a b = brU op n a b := by
  have e : op = 1 ∨ op = 2 ∨ op = 3 ∨ op = 11 := by omega
  unfold brX goodF brk
  rw [g, h, if_pos e]
  simp [f0, f1]
theorem brX_s {op n a b : Int} (g : good op n a b = true) (h : has op n a b = true) (ho : op = 1 ∨ op = 2 ∨ op = 3) : brX op 2 n a b = brS op n a b := by
  have e : op = 1 ∨ op = 2 ∨ op = 3 ∨ op = 11 := by omega
  unfold brX goodF brk
  rw [g, h, if_pos e]
  simp [f0, f1]
theorem brX_b {op n a b : Int} (g : good op n a b = true) (h : has op n a b = true) (ho : op = 1 ∨ op = 2 ∨ op = 3) : brX op 3 n a b = (brU op n a b || brS op n a b) := by
  have e : op = 1 ∨ op = 2 ∨ op = 3 ∨ op = 11 := by omega
  unfold brX goodF brk
  rw [g, h, if_pos e]
  simp [f0, f1]
theorem brX_l {op n a b : Int} (g : good op n a b = true) (h : has op n a b = true) (ho : op = 4 ∨ op = 12) : brX op 4 n a b = brL op n a b := by
  have e : ¬ (op = 1 ∨ op = 2 ∨ op = 3 ∨ op = 11) := by omega
  have e2 : op = 4 ∨ op = 6 ∨ op = 12 ∨ op = 13 := by omega
  unfold brX goodF brk
  rw [g, h, if_neg e, if_pos e2]
  simp [f2]
theorem brE_0 {op fl n a b : Int} (g : good op n a b = true) (h0 : 0 ≤ fl) (h7 : fl ≤ 7) : brE op fl n a b = 0 := by
  unfold brE goodF; rw [g]; simp [h0, h7]
theorem has_3 {op n a b : Int} (ho : op = 1 ∨ op = 2 ∨ op = 3) : has op n a b = true := by
  rcases ho with rfl | rfl | rfl <;> rfl

/-! ### 1: what is not broken is the number itself -/
/-- The number that the statement takes. -/
def plnV (op a b : Int) : Int := if op = 1 then a + b else if op = 2 then a - b else if a = 0 then 0 else if b < 4611686018427387904 / a then a * b else -1
def ownV (op n a b : Int) : Int := if op = 1 then sgn n a + sgn n b else if op = 2 then sgn n a - sgn n b else sgn n a * sgn n b
section
variable {n a b : Int} (g1 : 1 ≤ n) (g2 : n ≤ 32) (ha : Word n a) (hb : Word n b)
include g1 g2 ha hb
theorem pln_ok {op : Int} (ho : op = 1 ∨ op = 2 ∨ op = 3) (h : brU op n a b = false) : tot op n a b = plnV op a b := by
  obtain ⟨a0, a1⟩ := ha
  obtain ⟨b0, b1⟩ := hb
  have hp := pw_le32 g2
  rcases ho with rfl | rfl | rfl
  · rw [brU_1 n a b a0 b0] at h
    have h2 : ¬ pw n ≤ a + b := by simpa using h
    show wr n (a + b) = a + b
    exact wr_small (by omega) (by omega)
  · rw [brU_2 n a b a0 a1 b0] at h
    have h2 : ¬ a < b := by simpa using h
    show wr n (a - b) = a - b
    exact wr_small (by omega) (by omega)
  · rw [mulW_u g2 a0 b0] at h
    have h2 : ¬ pw n ≤ a * b := by simpa using h
    have e : plnV 3 a b = a * b := by
      show (if a = 0 then 0 else if b < 4611686018427387904 / a then a * b else -1) = a * b
      by_cases hz : a = 0
      · rw [if_pos hz, hz, Int.zero_mul]
      · rw [if_neg hz, if_pos]
        have : b + 1 ≤ 4611686018427387904 / a := by
          rw [Int.le_ediv_iff_mul_le (by omega), Int.add_mul, Int.one_mul, Int.mul_comm]
          omega
        omega
    rw [e]
    show wr n (a * b) = a * b
    exact wr_small (Int.mul_nonneg a0 b0) (by omega)
theorem own_ok {op : Int} (ho : op = 1 ∨ op = 2 ∨ op = 3) (h : brS op n a b = false) : sgn n (tot op n a b) = ownV op n a b := by
  obtain ⟨a0, a1⟩ := ha
  obtain ⟨b0, b1⟩ := hb
  rcases ho with rfl | rfl | rfl
  · have h2 : ¬ (sgn n a + sgn n b < -pw (n - 1)) ∧ ¬ (pw (n - 1) ≤ sgn n a + sgn n b) := by simpa [brS, whl, sArg] using h
    show sgn n (wr n (a + b)) = sgn n a + sgn n b
    rw [← wr_add_sgn]
    exact sgn_of g1 (by omega) (by omega)
  · have h2 : ¬ (sgn n a - sgn n b < -pw (n - 1)) ∧ ¬ (pw (n - 1) ≤ sgn n a - sgn n b) := by simpa [brS, whl, sArg] using h
    show sgn n (wr n (a - b)) = sgn n a - sgn n b
    rw [← wr_sub_sgn]
    exact sgn_of g1 (by omega) (by omega)
  · have h2 : ¬ (mulW (sgn n a) (sgn n b) < -pw (n - 1)) ∧ ¬ (pw (n - 1) ≤ mulW (sgn n a) (sgn n b)) := by simpa [brS, whl, sArg] using h
    rw [(mulW_s g1 g2 (sgn_lo32 g1 g2 a0) (sgn_hi32 g1 g2 a1) (sgn_lo32 g1 g2 b0) (sgn_hi32 g1 g2 b1)).1, (mulW_s g1 g2 (sgn_lo32 g1 g2 a0) (sgn_hi32 g1 g2 a1) (sgn_lo32 g1 g2 b0) (sgn_hi32 g1 g2 b1)).2] at h2
    show sgn n (wr n (a * b)) = sgn n a * sgn n b
    rw [← wr_mul]
    exact sgn_of g1 (by omega) (by omega)

/-! ### 2: comparisons are told by differences -/
theorem ult_br : cmpV 2 n a b = brU 2 n a b := by
  rw [brU_2 n a b ha.1 ha.2 hb.1]; rfl
theorem slt_br : cmpV 6 n a b = ((decide (sgn n (tot 2 n a b) < 0)) != brS 2 n a b) := by
  obtain ⟨a0, a1⟩ := ha
  obtain ⟨b0, b1⟩ := hb
  have hp := pw_succ n g1
  have hp0 := pw_pos (n - 1)
  have l1 := sgn_ge g1 g2 a0
  have l2 := sgn_le g1 a1
  have l3 := sgn_ge g1 g2 b0
  have l4 := sgn_le g1 b1
  have e1 : cmpV 6 n a b = decide (sgn n a < sgn n b) := rfl
  have e2 : tot 2 n a b = wr n (sgn n a - sgn n b) := by rw [wr_sub_sgn]; rfl
  have e3 : brS 2 n a b = (decide (sgn n a - sgn n b < -pw (n - 1)) || decide (pw (n - 1) ≤ sgn n a - sgn n b)) := rfl
  rw [e1, e2, e3]
  generalize sgn n a = x at *
  generalize sgn n b = y at *
  by_cases c1 : x - y < -pw (n - 1)
  · have e : wr n (x - y) = x - y + pw n := by
      rw [wr_congr (show x - y = (x - y + pw n) + (-1) * pw n by omega), wr_small (by omega) (by omega)]
    rw [e, sgn_lo (by omega)]
    have t1 : decide (x < y) = true := decide_eq_true (by omega)
    have t2 : decide (x - y + pw n < 0) = false := decide_eq_false (by omega)
    have t3 : decide (x - y < -pw (n - 1)) = true := decide_eq_true c1
    rw [t1, t2, t3]; rfl
  · by_cases c2 : pw (n - 1) ≤ x - y
    · rw [wr_small (by omega) (by omega), sgn_hi c2]
      have t1 : decide (x < y) = false := decide_eq_false (by omega)
      have t2 : decide (x - y - pw n < 0) = true := decide_eq_true (by omega)
      have t3 : decide (x - y < -pw (n - 1)) = false := decide_eq_false c1
      have t4 : decide (pw (n - 1) ≤ x - y) = true := decide_eq_true c2
      rw [t1, t2, t3, t4]; rfl
    · rw [sgn_of g1 (by omega) (by omega)]
      have t3 : decide (x - y < -pw (n - 1)) = false := decide_eq_false c1
      have t4 : decide (pw (n - 1) ≤ x - y) = false := decide_eq_false c2
      have t1 : decide (x < y) = decide (x - y < 0) := by rw [Bool.eq_iff_iff]; simp only [decide_eq_true_eq]; omega
      rw [t1, t3, t4]; simp
theorem eq_xor : cmpV 0 n a b = (tot 10 n a b == 0) := by
  obtain ⟨a0, a1⟩ := ha
  obtain ⟨b0, b1⟩ := hb
  show (a == b) = ((((a.toNat ^^^ b.toNat : Nat) : Int)) == 0)
  rw [Bool.eq_iff_iff]
  simp only [beq_iff_eq]
  constructor
  · intro h; subst h; simp
  · intro h
    have h2 : a.toNat ^^^ b.toNat = 0 := by omega
    have h3 : a.toNat = b.toNat := by
      have := congrArg (· ^^^ b.toNat) h2
      simpa [Nat.xor_assoc] using this
    omega

/-! ### 3: wider words compare alike -/
omit hb in
theorem sgn_z32 (h : n < 32) : sgn 32 a = a := by
  obtain ⟨a0, a1⟩ := ha
  have := @pw_le31 n (by omega)
  exact sgn_lo (by rw [show (32 : Int) - 1 = 31 by rfl, pw_31]; omega)
omit hb in
theorem ext_z (h : n < 32) : extV 16 n 32 a = a := by
  have := @pw_le31 n (by omega)
  show wr 32 a = a
  exact wr_small ha.1 (by rw [pw_32]; have := ha.2; omega)
omit hb in
theorem ext_s (h : n < 32) : sgn 32 (extV 17 n 32 a) = sgn n a := by
  show sgn 32 (wr 32 (sgn n a)) = sgn n a
  have h1 := sgn_lo32 g1 g2 ha.1
  have h2 := sgn_hi32 g1 g2 ha.2
  exact sgn_of (by decide) (by rw [show (32 : Int) - 1 = 31 by rfl, pw_31]; omega) (by rw [show (32 : Int) - 1 = 31 by rfl, pw_31]; omega)
theorem wide_z (h : n < 32) : cmpV 2 32 (extV 16 n 32 a) (extV 16 n 32 b) = cmpV 2 n a b ∧ cmpV 6 32 (extV 16 n 32 a) (extV 16 n 32 b) = cmpV 2 n a b := by
  rw [ext_z g1 g2 ha h, ext_z g1 g2 hb h]
  refine ⟨rfl, ?_⟩
  show decide (sgn 32 a < sgn 32 b) = decide (a < b)
  rw [sgn_z32 g1 g2 ha h, sgn_z32 g1 g2 hb h]
theorem wide_s (h : n < 32) : cmpV 6 32 (extV 17 n 32 a) (extV 17 n 32 b) = cmpV 6 n a b := by
  show decide (sgn 32 (extV 17 n 32 a) < sgn 32 (extV 17 n 32 b)) = decide (sgn n a < sgn n b)
  rw [ext_s g1 g2 ha h, ext_s g1 g2 hb h]

/-! ### 4: shifts are products and quotients -/
omit hb in
theorem shl_mul {k : Int} : tot 11 n a k = (if n ≤ k then 0 else tot 3 n a (pw k)) := rfl
omit hb in
theorem shr_div {k : Int} (h : k < n) : tot 12 n a k = tot 4 n a (pw k) := by
  have := pw_pos k
  show (if n ≤ k then 0 else a / pw k) = (if pw k = 0 then pw n - 1 else a / pw k)
  rw [if_neg (by omega), if_neg (by omega)]
omit hb in
theorem tz_shl {k : Int} (h0 : 0 ≤ k) (h : k < n) : k ≤ trl n (tot 11 n a k) := by
  obtain ⟨a0, a1⟩ := ha
  have hp := pw_le32 g2
  have e : tot 11 n a k = wr n (a * pw k) := by
    show (if n ≤ k then 0 else wr n (a * pw k)) = _
    rw [if_neg (by omega)]
  rw [e]
  unfold trl
  have w1 := wr_lo n (a * pw k)
  have w2 := wr_hi n (a * pw k)
  have hx : (wr n (a * pw k)).toNat < 4294967296 := by omega
  have hd : pw k ∣ wr n (a * pw k) := by
    unfold wr
    rw [Int.emod_def]
    exact Int.dvd_sub (Int.dvd_mul_left _ _) (Int.dvd_trans (pw_dvd (by omega)) (Int.dvd_mul_right _ _))
  generalize wr n (a * pw k) = x at *
  have hk : k ≤ (Lib.ctz 32 x.toNat : Int) := by
    by_cases c : Lib.ctz 32 x.toNat < 32
    · have h1 := ctz_at hx c
      by_cases c2 : k ≤ (Lib.ctz 32 x.toNat : Int)
      · exact c2
      · exfalso
        generalize Lib.ctz 32 x.toNat = t at *
        have h2 : 2 ^ (t + 1) ∣ x.toNat := by
          have h3 : pw ((t + 1 : Nat) : Int) ∣ x := Int.dvd_trans (pw_dvd (by omega)) hd
          rw [pw_nat] at h3
          have h4 : ((2 ^ (t + 1) : Nat) : Int) ∣ ((x.toNat : Nat) : Int) := by rw [Int.toNat_of_nonneg w1]; exact h3
          exact Int.natCast_dvd_natCast.1 h4
        obtain ⟨q, hq⟩ := h2
        rw [hq, Nat.pow_succ, Nat.mul_assoc, Nat.mul_div_cancel_left _ (Nat.two_pow_pos t), Nat.mul_mod_right] at h1
        omega
    · omega
  omega
omit hb in
theorem left_eq {k : Int} : brL 12 n a k = brL 4 n a (pw k) := rfl

/-! ### 5: the ones of two words -/
omit g1 g2 ha hb in
theorem ones_and_or (x y : Nat) : ∀ k, ones x k + ones y k = ones (x &&& y) k + ones (x ||| y) k
  | 0 => by simp [ones]
  | k + 1 => by
    have ih := ones_and_or x y k
    have e1 : (x &&& y) / 2 ^ k = x / 2 ^ k &&& y / 2 ^ k := by rw [Nat.and_div_two_pow]
    have e2 : (x ||| y) / 2 ^ k = x / 2 ^ k ||| y / 2 ^ k := by rw [Nat.or_div_two_pow]
    have e3 : (x / 2 ^ k &&& y / 2 ^ k) % 2 = x / 2 ^ k % 2 &&& y / 2 ^ k % 2 := Nat.and_mod_two_pow (n := 1)
    have e4 : (x / 2 ^ k ||| y / 2 ^ k) % 2 = x / 2 ^ k % 2 ||| y / 2 ^ k % 2 := Nat.or_mod_two_pow (n := 1)
    simp only [ones]
    rw [e1, e2, e3, e4]
    have ha : x / 2 ^ k % 2 = 0 ∨ x / 2 ^ k % 2 = 1 := by omega
    have hb : y / 2 ^ k % 2 = 0 ∨ y / 2 ^ k % 2 = 1 := by omega
    rcases ha with ha | ha <;> rcases hb with hb | hb <;> rw [ha, hb] <;> simp <;> omega
omit g1 g2 ha hb in
theorem on_sum : on n a + on n b = on n (tot 8 n a b) + on n (tot 9 n a b) := by
  have h := ones_and_or a.toNat b.toNat n.toNat
  show ((ones a.toNat n.toNat : Nat) : Int) + (ones b.toNat n.toNat : Nat) = ((ones (((a.toNat &&& b.toNat : Nat) : Int)).toNat n.toNat : Nat) : Int) + (ones (((a.toNat ||| b.toNat : Nat) : Int)).toNat n.toNat : Nat)
  simp only [Int.toNat_natCast]
  omega
end

/-! ### 6: lanes are words of their own -/
theorem lane_is {n l a b : Int} (g : goodL 19 n l a b = true) (j : Nat) (h : (j : Int) * l + l ≤ n) :
    wr l (lanes 19 n l a b / pw l ^ j) = tot 1 l (wr l (a / pw l ^ j)) (wr l (b / pw l ^ j)) := by
  obtain ⟨g0, g1, g2, g3, g4, g5, g6, g7⟩ := (goodL_iff _ _ _ _ _).1 g
  have hc := lanes_count g5 g7 g1
  have hj : j < (n / l).toNat := by
    have h2 : ((j : Int) + 1) * l ≤ ((n / l).toNat : Int) * l := by rw [hc, Int.add_mul, Int.one_mul]; exact h
    have := Int.le_of_mul_le_mul_right h2 (by omega)
    omega
  have hd := sumTo_digit (pw_pos l) (lane_bd 19 l a b) _ j hj
  show wr l (lanes 19 n l a b / pw l ^ j) = wr l (wr l (a / pw l ^ j) + wr l (b / pw l ^ j))
  exact hd
end Go.Proofs.YtpgbepgbgpjmcaaDoor.Wd
