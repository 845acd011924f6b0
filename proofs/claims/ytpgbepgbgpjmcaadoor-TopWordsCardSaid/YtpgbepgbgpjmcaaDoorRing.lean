/- The ring of words, widening and narrowing, comparisons: plain arithmetic; no program in sight. -/
import Derived.Test.YtpgbepgbgpjmcaaDoorMath
namespace Go.Proofs.YtpgbepgbgpjmcaaDoor.Wd
set_option linter.unusedVariables false
set_option linter.unusedSimpArgs false

/-! ### the ring of words -/
theorem wr_self {n a : Int} (h : Word n a) : wr n a = a := wr_small h.1 h.2
theorem wr_add_l (n x y : Int) : wr n (wr n x + y) = wr n (x + y) := Int.emod_add_emod ..
theorem wr_add_r (n x y : Int) : wr n (x + wr n y) = wr n (x + y) := by rw [Int.add_comm, wr_add_l, Int.add_comm]
theorem wr_mul_l (n x y : Int) : wr n (wr n x * y) = wr n (x * y) := by
  unfold wr; rw [Int.mul_emod, Int.emod_emod_of_dvd _ (Int.dvd_refl _), ← Int.mul_emod]
theorem wr_mul_r (n x y : Int) : wr n (x * wr n y) = wr n (x * y) := by rw [Int.mul_comm, wr_mul_l, Int.mul_comm]
theorem wr_sub_l (n x y : Int) : wr n (wr n x - y) = wr n (x - y) := Int.emod_sub_emod ..
theorem wr_congr {n x y k : Int} (h : x = y + k * pw n) : wr n x = wr n y := by unfold wr; rw [h, Int.add_mul_emod_self_right]
theorem wr_sgn (n a : Int) : wr n (sgn n a) = wr n a := by
  obtain ⟨k, h⟩ := sgn_wr n a
  exact wr_congr h
theorem and_add_or (a b : Nat) : (a &&& b) + (a ||| b) = a + b := by
  have h : ∀ n a b : Nat, a < 2 ^ n → (a &&& b) + (a ||| b) = a + b := by
    intro n
    induction n with
    | zero => intro a b h; have : a = 0 := by simpa using h
              subst this; simp
    | succ n ih =>
      intro a b h
      have h1 := ih (a / 2) (b / 2) (by rw [Nat.pow_succ] at h; omega)
      have e1 : (a &&& b) / 2 = a / 2 &&& b / 2 := Nat.and_div_two
      have e2 : (a ||| b) / 2 = a / 2 ||| b / 2 := Nat.or_div_two
      have e3 : (a &&& b) % 2 = a % 2 &&& b % 2 := Nat.and_mod_two_pow (n := 1)
      have e4 : (a ||| b) % 2 = a % 2 ||| b % 2 := Nat.or_mod_two_pow (n := 1)
      rw [← e1, ← e2] at h1
      have ha : a % 2 = 0 ∨ a % 2 = 1 := by omega
      have hb : b % 2 = 0 ∨ b % 2 = 1 := by omega
      generalize (a &&& b) = p at *
      generalize (a ||| b) = q at *
      rcases ha with ha | ha <;> rcases hb with hb | hb <;> rw [ha, hb] at e3 e4 <;> simp at e3 e4 <;> omega
  exact h a a b Nat.lt_two_pow_self
theorem xor_xor (a b : Nat) : (a ^^^ b) ^^^ b = a := by rw [Nat.xor_assoc, Nat.xor_self, Nat.xor_zero]
section
variable {n a b c : Int} (g : 1 ≤ n ∧ n ≤ 32) (ha : Word n a) (hb : Word n b) (hc : Word n c)
include ha
theorem ring_sub : tot 2 n (tot 1 n a b) b = a := by
  show wr n (wr n (a + b) - b) = a
  rw [wr_sub_l, show a + b - b = a by omega, wr_self ha]
omit ha in
theorem ring_add : tot 1 n b a = tot 1 n a b := by show wr n (b + a) = wr n (a + b); rw [Int.add_comm]
omit ha in
theorem ring_mul : tot 3 n b a = tot 3 n a b := by show wr n (b * a) = wr n (a * b); rw [Int.mul_comm]
omit ha in
theorem ring_dist : tot 3 n a (tot 1 n b c) = tot 1 n (tot 3 n a b) (tot 3 n a c) := by
  show wr n (a * wr n (b + c)) = wr n (wr n (a * b) + wr n (a * c))
  rw [wr_mul_r, wr_add_l, wr_add_r, Int.mul_add]
include hb in
theorem ring_andor : tot 1 n (tot 8 n a b) (tot 9 n a b) = tot 1 n a b := by
  show wr n (((a.toNat &&& b.toNat : Nat) : Int) + ((a.toNat ||| b.toNat : Nat) : Int)) = wr n (a + b)
  have h := and_add_or a.toNat b.toNat
  have h1 := ha.1
  have h2 := hb.1
  congr 1
  omega
theorem ring_xor : tot 10 n (tot 10 n a b) b = a := by
  show (((((a.toNat ^^^ b.toNat : Nat) : Int)).toNat ^^^ b.toNat : Nat) : Int) = a
  rw [Int.toNat_natCast, xor_xor]
  exact Int.toNat_of_nonneg ha.1
theorem ring_udiv (h : b ≠ 0) : tot 1 n (tot 3 n (tot 4 n a b) b) (tot 5 n a b) = a := by
  have e1 : tot 4 n a b = a / b := by simp [tot, h]
  have e2 : tot 5 n a b = a % b := by simp [tot, h]
  rw [e1, e2]
  show wr n (wr n (a / b * b) + a % b) = a
  rw [wr_add_l, Int.ediv_mul_add_emod, wr_self ha]
theorem ring_sdiv (h : has 6 n a b = true) : tot 1 n (tot 3 n (tot 6 n a b) b) (tot 7 n a b) = a := by
  have h0 : b ≠ 0 := by intro hb; simp [has, hb] at h
  have hxy : ¬ (sgn n a = -pw (n - 1) ∧ sgn n b = -1) := by intro hb; simp [has, hb] at h
  have e1 : tot 6 n a b = wr n ((sgn n a).tdiv (sgn n b)) := by simp [tot, h0, hxy]
  have e2 : tot 7 n a b = wr n ((sgn n a).tmod (sgn n b)) := by simp [tot, h0, hxy]
  rw [e1, e2]
  show wr n (wr n (wr n ((sgn n a).tdiv (sgn n b)) * b) + wr n ((sgn n a).tmod (sgn n b))) = a
  rw [wr_mul_l, wr_add_l, wr_add_r]
  obtain ⟨k, hk⟩ := sgn_wr n b
  have e4 := tmod_q (sgn n a) (sgn n b)
  generalize (sgn n a).tdiv (sgn n b) = q at *
  generalize (sgn n a).tmod (sgn n b) = m at *
  have e3 : q * b + m = sgn n a + (-(q * k)) * pw n := by
    have e5 : q * sgn n b = q * b + q * k * pw n := by rw [hk, Int.mul_add, Int.mul_assoc]
    rw [Int.neg_mul]
    omega
  rw [wr_congr e3, wr_sgn, wr_self ha]
end

/-! ### wider and narrower -/
def goodX (op m n x : Int) : Bool := decide (1 ≤ m ∧ m ≤ 32 ∧ x < pw m ∧ 1 ≤ n ∧ n ≤ 32 ∧ ((op = 16 ∨ op = 17) ∧ m < n ∨ op = 18 ∧ n < m))
theorem goodX_iff (op m n x : Int) : goodX op m n x = true ↔ 1 ≤ m ∧ m ≤ 32 ∧ x < pw m ∧ 1 ≤ n ∧ n ≤ 32 ∧ ((op = 16 ∨ op = 17) ∧ m < n ∨ op = 18 ∧ n < m) := by simp only [goodX, decide_eq_true_eq]
def extV (op m n x : Int) : Int := if op = 17 then wr n (sgn m x) else wr n x
theorem wr_trans {m n : Int} (h : m ≤ n) (x : Int) : wr m (wr n x) = wr m x := Int.emod_emod_of_dvd x (pw_dvd h)
theorem ext_back {op m n x : Int} (g : goodX op m n x = true) (h : op ≠ 18) (h0 : 0 ≤ x) : extV 18 n m (extV op m n x) = x := by
  obtain ⟨g1, g2, g3, g4, g5, g6⟩ := (goodX_iff _ _ _ _).1 g
  show wr m (extV op m n x) = x
  unfold extV
  split
  · rw [wr_trans (by omega), wr_sgn, wr_small h0 g3]
  · rw [wr_trans (by omega), wr_small h0 g3]

/-! ### comparisons -/
/-- Whether a predicate holds of two numbers. -/
def cmp2 (p x y : Int) : Bool :=
  if p = 0 then x == y else if p = 1 then x != y else if p = 2 ∨ p = 6 then decide (x < y) else if p = 3 ∨ p = 7 then decide (x ≤ y) else if p = 4 ∨ p = 8 then decide (y < x) else decide (y ≤ x)
/-- Whether a predicate holds of two words. -/
def cmpV (p n a b : Int) : Bool := if 6 ≤ p then cmp2 p (sgn n a) (sgn n b) else cmp2 p a b
def goodC (p n a b : Int) : Bool := decide (0 ≤ p ∧ p ≤ 9 ∧ 1 ≤ n ∧ n ≤ 32 ∧ a < pw n ∧ b < pw n)
theorem goodC_iff (p n a b : Int) : goodC p n a b = true ↔ 0 ≤ p ∧ p ≤ 9 ∧ 1 ≤ n ∧ n ≤ 32 ∧ a < pw n ∧ b < pw n := by simp only [goodC, decide_eq_true_eq]
def oppV (p : Int) : Int := if p = 0 then 1 else if p = 1 then 0 else if p = 2 then 5 else if p = 3 then 4 else if p = 4 then 3 else if p = 5 then 2 else if p = 6 then 9 else if p = 7 then 8 else if p = 8 then 7 else 6
def mirV (p : Int) : Int := if p = 0 then 0 else if p = 1 then 1 else if p = 2 then 4 else if p = 3 then 5 else if p = 4 then 2 else if p = 5 then 3 else if p = 6 then 8 else if p = 7 then 9 else if p = 8 then 6 else 7
theorem opp_cmp {p n a b : Int} (g : goodC p n a b = true) : cmpV (oppV p) n a b = !cmpV p n a b ∧ goodC (oppV p) n a b = true := by
  obtain ⟨g1, g2, g3⟩ := (goodC_iff _ _ _ _).1 g
  have h : p = 0 ∨ p = 1 ∨ p = 2 ∨ p = 3 ∨ p = 4 ∨ p = 5 ∨ p = 6 ∨ p = 7 ∨ p = 8 ∨ p = 9 := by omega
  rw [goodC_iff]
  rcases h with rfl | rfl | rfl | rfl | rfl | rfl | rfl | rfl | rfl | rfl
  all_goals refine ⟨?_, by decide, by decide, g3⟩
  all_goals simp [cmpV, cmp2, oppV]
  all_goals first | rfl | (rw [Bool.eq_iff_iff]; simp)
theorem mir_cmp {p n a b : Int} (g : goodC p n a b = true) : cmpV (mirV p) n b a = cmpV p n a b ∧ goodC (mirV p) n b a = true := by
  obtain ⟨g1, g2, g3, g4, g5, g6⟩ := (goodC_iff _ _ _ _).1 g
  have h : p = 0 ∨ p = 1 ∨ p = 2 ∨ p = 3 ∨ p = 4 ∨ p = 5 ∨ p = 6 ∨ p = 7 ∨ p = 8 ∨ p = 9 := by omega
  rw [goodC_iff]
  rcases h with rfl | rfl | rfl | rfl | rfl | rfl | rfl | rfl | rfl | rfl
  all_goals refine ⟨?_, by decide, by decide, g3, g4, g6, g5⟩
  all_goals simp [cmpV, cmp2, mirV]
  all_goals first | rfl | (rw [Bool.eq_iff_iff]; simp; exact eq_comm) | (rw [Bool.eq_iff_iff]; simp; rw [eq_comm])
end Go.Proofs.YtpgbepgbgpjmcaaDoor.Wd
