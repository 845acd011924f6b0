/- The walks of the statements BitsTotals and BitsLanes. -/
import Derived.Deep.QuietTactic
import Derived.Test.YthopdfikikdcbaaZs1
import Derived.Test.YthopdfikikdcbaaZs2
namespace Go.Proofs.Ythopdfikikdcbaa
open Go.RowKit Wd
set_option linter.unusedVariables false
set_option linter.unusedSimpArgs false
/-- What lay there in the world w0 lies there in w, as it was. -/
def Since (w0 w : World) : Prop := Below w0.heap.size w0 w
theorem Since.refl (w : World) : Since w w := Below.refl _ _
theorem Since.drewN {w0 w : World} (h : Since w0 w) (n : Nat) : Since w0 (w.drewN n) := below_drewN h n
theorem acc_p {P : Program} {f : FuncId} {args : Array Value} {w : World} {v : Value} (h : Calls P f args w fun e w' => e = .returned v ∧ Below w.heap.size w w') {w0 : World} (h0 : Since w0 w) :
    Calls P f args w fun e w' => e = .returned v ∧ Since w0 w' := h.mono fun _ _ hh => ⟨hh.1, below_hop h0 hh.2⟩
theorem acc_e {P : Program} {f : FuncId} {args : Array Value} {w : World} {v : Value} (h : Calls P f args w fun e w' => e = .returned v ∧ w = w') {w0 : World} (h0 : Since w0 w) :
    Calls P f args w fun e w' => e = .returned v ∧ Since w0 w' := h.mono fun _ _ hh => ⟨hh.1, hh.2 ▸ h0⟩
theorem acc_d {P : Program} {f : FuncId} {args : Array Value} {w : World} {v : Value} (h : Calls P f args w fun e w' => e = .returned v ∧ Dr w w') {w0 : World} (h0 : Since w0 w) :
    Calls P f args w fun e w' => e = .returned v ∧ Since w0 w' := h.mono fun _ _ hh => ⟨hh.1, below_hop h0 (hh.2.below _)⟩
theorem since_box {w wk : World} {cs : Array Value} {T : TypeId} (i : Nat) (hb : Since (w.alloc (.cells cs T)) wk) : wk.cell? ⟨w.heap.size, i, none⟩ = cs[i]? := box_kept hb i

end Go.Proofs.Ythopdfikikdcbaa
/- The ring of words, widening and narrowing, comparisons: plain arithmetic; no program in sight. -/
namespace Go.Proofs.Ythopdfikikdcbaa.Wd
set_option linter.unusedVariables false
set_option linter.unusedSimpArgs false

/-! ### the ring of words -/
theorem wr_self {n a : Int} (h : Word n a) : wr n a = a := wr_small h.1 h.2
theorem wr_add_l (n x y : Int) : wr n (wr n x + y) = wr n (x + y) := Int.emod_add_emod ..
theorem wr_add_r (n x y : Int) : wr n (x + wr n y) = wr n (x + y) := by rw [Int.add_comm, wr_add_l, Int.add_comm]
theorem wr_mul_l (n x y : Int) : wr n (wr n x * y) = wr n (x * y) := by
  unfold wr; rw [Int.mul_emod, Int.emod_emod_of_dvd _ (Int.dvd_refl _), ← Int.mul_emod]
theorem wr_mul_r (n x y : Int) : wr n (x * wr n y) = wr n (x * y) := by rw [Int.mul_comm, wr_mul_l, Int.mul_comm]
theorem wr_sub_l (n x y : Int) : wr n (wr n x - y) = wr n (x - y) := Int.emod_sub_emod ..
theorem wr_congr {n x y k : Int} (h : x = y + k * pw n) : wr n x = wr n y := by unfold wr; rw [h, Int.add_mul_emod_self_right]
theorem wr_sgn (n a : Int) : wr n (sgn n a) = wr n a := by
  obtain ⟨k, h⟩ := sgn_wr n a
  exact wr_congr h
theorem and_add_or (a b : Nat) : (a &&& b) + (a ||| b) = a + b := by
  have h : ∀ n a b : Nat, a < 2 ^ n → (a &&& b) + (a ||| b) = a + b := by
    intro n
    induction n with
    | zero => intro a b h; have : a = 0 := by simpa using h
              subst this; simp
    | succ n ih =>
      intro a b h
      have h1 := ih (a / 2) (b / 2) (by rw [Nat.pow_succ] at h; omega)
      have e1 : (a &&& b) / 2 = a / 2 &&& b / 2 := Nat.and_div_two
      have e2 : (a ||| b) / 2 = a / 2 ||| b / 2 := Nat.or_div_two
      have e3 : (a &&& b) % 2 = a % 2 &&& b % 2 := Nat.and_mod_two_pow (n := 1)
      have e4 : (a ||| b) % 2 = a % 2 ||| b % 2 := Nat.or_mod_two_pow (n := 1)
      rw [← e1, ← e2] at h1
      have ha : a % 2 = 0 ∨ a % 2 = 1 := by omega
      have hb : b % 2 = 0 ∨ b % 2 = 1 := by omega
      generalize (a &&& b) = p at *
      generalize (a ||| b) = q at *
      rcases ha with ha | ha <;> rcases hb with hb | hb <;> rw [ha, hb] at e3 e4 <;> simp at e3 e4 <;> omega
  exact h a a b Nat.lt_two_pow_self
theorem xor_xor (a b : Nat) : (a ^^^ b) ^^^ b = a := by rw [Nat.xor_assoc, Nat.xor_self, Nat.xor_zero]
section
variable {n a b c : Int} (g : 1 ≤ n ∧ n ≤ 32) (ha : Word n a) (hb : Word n b) (hc : Word n c)
include ha
theorem ring_sub : tot 2 n (tot 1 n a b) b = a := by
  show wr n (wr n (a + b) - b) = a
  rw [wr_sub_l, show a + b - b = a by omega, wr_self ha]
omit ha in
theorem ring_add : tot 1 n b a = tot 1 n a b := by show wr n (b + a) = wr n (a + b); rw [Int.add_comm]
omit ha in
theorem ring_mul : tot 3 n b a = tot 3 n a b := by show wr n (b * a) = wr n (a * b); rw [Int.mul_comm]
omit ha in
theorem ring_dist : tot 3 n a (tot 1 n b c) = tot 1 n (tot 3 n a b) (tot 3 n a c) := by
  show wr n (a * wr n (b + c)) = wr n (wr n (a * b) + wr n (a * c))
  rw [wr_mul_r, wr_add_l, wr_add_r, Int.mul_add]
include hb in
theorem ring_andor : tot 1 n (tot 8 n a b) (tot 9 n a b) = tot 1 n a b := by
  show wr n (((a.toNat &&& b.toNat : Nat) : Int) + ((a.toNat ||| b.toNat : Nat) : Int)) = wr n (a + b)
  have h := and_add_or a.toNat b.toNat
  have h1 := ha.1
  have h2 := hb.1
  congr 1
  omega
theorem ring_xor : tot 10 n (tot 10 n a b) b = a := by
  show (((((a.toNat ^^^ b.toNat : Nat) : Int)).toNat ^^^ b.toNat : Nat) : Int) = a
  rw [Int.toNat_natCast, xor_xor]
  exact Int.toNat_of_nonneg ha.1
theorem ring_udiv (h : b ≠ 0) : tot 1 n (tot 3 n (tot 4 n a b) b) (tot 5 n a b) = a := by
  have e1 : tot 4 n a b = a / b := by simp [tot, h]
  have e2 : tot 5 n a b = a % b := by simp [tot, h]
  rw [e1, e2]
  show wr n (wr n (a / b * b) + a % b) = a
  rw [wr_add_l, Int.ediv_mul_add_emod, wr_self ha]
theorem ring_sdiv (h : has 6 n a b = true) : tot 1 n (tot 3 n (tot 6 n a b) b) (tot 7 n a b) = a := by
  have h0 : b ≠ 0 := by intro hb; simp [has, hb] at h
  have hxy : ¬ (sgn n a = -pw (n - 1) ∧ sgn n b = -1) := by intro hb; simp [has, hb] at h
  have e1 : tot 6 n a b = wr n ((sgn n a).tdiv (sgn n b)) := by simp [tot, h0, hxy]
  have e2 : tot 7 n a b = wr n ((sgn n a).tmod (sgn n b)) := by simp [tot, h0, hxy]
  rw [e1, e2]
  show wr n (wr n (wr n ((sgn n a).tdiv (sgn n b)) * b) + wr n ((sgn n a).tmod (sgn n b))) = a
  rw [wr_mul_l, wr_add_l, wr_add_r]
  obtain ⟨k, hk⟩ := sgn_wr n b
  have e4 := tmod_q (sgn n a) (sgn n b)
  generalize (sgn n a).tdiv (sgn n b) = q at *
  generalize (sgn n a).tmod (sgn n b) = m at *
  have e3 : q * b + m = sgn n a + (-(q * k)) * pw n := by
    have e5 : q * sgn n b = q * b + q * k * pw n := by rw [hk, Int.mul_add, Int.mul_assoc]
    rw [Int.neg_mul]
    omega
  rw [wr_congr e3, wr_sgn, wr_self ha]
end

/-! ### wider and narrower -/
def goodX (op m n x : Int) : Bool := decide (1 ≤ m ∧ m ≤ 32 ∧ x < pw m ∧ 1 ≤ n ∧ n ≤ 32 ∧ ((op = 16 ∨ op = 17) ∧ m < n ∨ op = 18 ∧ n < m))
theorem goodX_iff (op m n x : Int) : goodX op m n x = true ↔ 1 ≤ m ∧ m ≤ 32 ∧ x < pw m ∧ 1 ≤ n ∧ n ≤ 32 ∧ ((op = 16 ∨ op = 17) ∧ m < n ∨ op = 18 ∧ n < m) := by simp only [goodX, decide_eq_true_eq]
def extV (op m n x : Int) : Int := if op = 17 then wr n (sgn m x) else wr n x
theorem wr_trans {m n : Int} (h : m ≤ n) (x : Int) : wr m (wr n x) = wr m x := Int.emod_emod_of_dvd x (pw_dvd h)
theorem ext_back {op m n x : Int} (g : goodX op m n x = true) (h : op ≠ 18) (h0 : 0 ≤ x) : extV 18 n m (extV op m n x) = x := by
  obtain ⟨g1, g2, g3, g4, g5, g6⟩ := (goodX_iff _ _ _ _).1 g
  show wr m (extV op m n x) = x
  unfold extV
  split
  · rw [wr_trans (by omega), wr_sgn, wr_small h0 g3]
  · rw [wr_trans (by omega), wr_small h0 g3]

/-! ### comparisons -/
/-- Whether a predicate holds of two numbers. -/
def cmp2 (p x y : Int) : Bool :=
  if p = 0 then x == y else if p = 1 then x != y else if p = 2 ∨ p = 6 then decide (x < y) else if p = 3 ∨ p = 7 then decide (x ≤ y) else if p = 4 ∨ p = 8 then decide (y < x) else decide (y ≤ x)
/-- Whether a predicate holds of two words. -/
def cmpV (p n a b : Int) : Bool := if 6 ≤ p then cmp2 p (sgn n a) (sgn n b) else cmp2 p a b
def goodC (p n a b : Int) : Bool := decide (0 ≤ p ∧ p ≤ 9 ∧ 1 ≤ n ∧ n ≤ 32 ∧ a < pw n ∧ b < pw n)
theorem goodC_iff (p n a b : Int) : goodC p n a b = true ↔ 0 ≤ p ∧ p ≤ 9 ∧ 1 ≤ n ∧ n ≤ 32 ∧ a < pw n ∧ b < pw n := by simp only [goodC, decide_eq_true_eq]
def oppV (p : Int) : Int := if p = 0 then 1 else if p = 1 then 0 else if p = 2 then 5 else if p = 3 then 4 else if p = 4 then 3 else if p = 5 then 2 else if p = 6 then 9 else if p = 7 then 8 else if p = 8 then 7 else 6
def mirV (p : Int) : Int := if p = 0 then 0 else if p = 1 then 1 else if p = 2 then 4 else if p = 3 then 5 else if p = 4 then 2 else if p = 5 then 3 else if p = 6 then 8 else if p = 7 then 9 else if p = 8 then 6 else 7
theorem opp_cmp {p n a b : Int} (g : goodC p n a b = true) : cmpV (oppV p) n a b = !cmpV p n a b ∧ goodC (oppV p) n a b = true := by
  obtain ⟨g1, g2, g3⟩ := (goodC_iff _ _ _ _).1 g
  have h : p = 0 ∨ p = 1 ∨ p = 2 ∨ p = 3 ∨ p = 4 ∨ p = 5 ∨ p = 6 ∨ p = 7 ∨ p = 8 ∨ p = 9 := by omega
  rw [goodC_iff]
  rcases h with rfl | rfl | rfl | rfl | rfl | rfl | rfl | rfl | rfl | rfl
  all_goals refine ⟨?_, by decide, by decide, g3⟩
  all_goals simp [cmpV, cmp2, oppV]
  all_goals first | rfl | (rw [Bool.eq_iff_iff]; simp)
theorem mir_cmp {p n a b : Int} (g : goodC p n a b = true) : cmpV (mirV p) n b a = cmpV p n a b ∧ goodC (mirV p) n b a = true := by
  obtain ⟨g1, g2, g3, g4, g5, g6⟩ := (goodC_iff _ _ _ _).1 g
  have h : p = 0 ∨ p = 1 ∨ p = 2 ∨ p = 3 ∨ p = 4 ∨ p = 5 ∨ p = 6 ∨ p = 7 ∨ p = 8 ∨ p = 9 := by omega
  rw [goodC_iff]
  rcases h with rfl | rfl | rfl | rfl | rfl | rfl | rfl | rfl | rfl | rfl
  all_goals refine ⟨?_, by decide, by decide, g3, g4, g6, g5⟩
  all_goals simp [cmpV, cmp2, mirV]
  all_goals first | rfl | (rw [Bool.eq_iff_iff]; simp; exact eq_comm) | (rw [Bool.eq_iff_iff]; simp; rw [eq_comm])
end Go.Proofs.Ythopdfikikdcbaa.Wd
/- Mask, Signed, Of, Extend of both sides, and the walks of the statements BitsWords and BitsExtends. -/
namespace Go.Proofs.Ythopdfikikdcbaa
open Go.RowKit Wd
set_option linter.unusedVariables false
set_option linter.unusedSimpArgs false
def mkX (n : Int) : Int := if isW n = true then pw n - 1 else 0
def mkE (n : Int) : Int := if isW n = true then 0 else 1
def sgX (n x : Int) : Int := if (isW n && fit n x) = true then sgn n x else 0
def sgE (n x : Int) : Int := if (isW n && fit n x) = true then 0 else 1
def ofX (n x : Int) : Int := if isW n = true then wr n x else 0
def exX (op m n x : Int) : Int := if goodX op m n x = true then extV op m n x else 0
def exE (op m n x : Int) : Int := if goodX op m n x = true then 0 else 1

theorem pMask (n : Int) (w : World) : Calls Try.prog 49 #[.int .i64 n] w fun e w' => e = .returned (.tuple #[.int .u32 (mkX n), .int .i64 (mkE n)]) ∧ w = w' := by
  by_cases hw : isW n = true
  · have hv : mkX n = pw n - 1 := by simp [mkX, hw]
    rw [hv]
    clear hv
    have hv : mkE n = 0 := by simp [mkE, hw]
    rw [hv]
    clear hv
    have h12 : 1 ≤ n ∧ n ≤ 32 := by simpa [isW] using hw
    obtain ⟨h1, h2⟩ := h12
    have hp := pw_le32 h2
    have hp0 := pw_pos n
    go_enter Try.func49, Try.ntmps49
    go_wp2_with (first | (go_at_call 79; refine (isWidth_any _ _).mono ?_; rintro e w' ⟨rfl, rfl⟩) | (go_at_call 80; refine (mask_any _ _ (by assumption) (by assumption)).mono ?_; rintro e w' ⟨rfl, rfl⟩))
    go_ret2
    exact ⟨rfl, rfl⟩
  · have hw : isW n = false := by simpa using hw
    have hv : mkX n = 0 := by simp [mkX, hw]
    rw [hv]
    clear hv
    have hv : mkE n = 1 := by simp [mkE, hw]
    rw [hv]
    clear hv
    go_enter Try.func49, Try.ntmps49
    go_wp2_with (first | (go_at_call 79; refine (isWidth_any _ _).mono ?_; rintro e w' ⟨rfl, rfl⟩) | (go_at_call 80; refine (mask_any _ _ (by assumption) (by assumption)).mono ?_; rintro e w' ⟨rfl, rfl⟩))
    go_ret2
    exact ⟨rfl, rfl⟩

set_option maxHeartbeats 1000000 in
theorem pExtend (op m n x : Int) (h0 : 0 ≤ x) (h4 : x ≤ 4294967295) (w : World) : Calls Try.prog 83 #[.int .i64 op, .int .i64 m, .int .i64 n, .int .u32 x] w fun e w' => e = .returned (.tuple #[.int .u32 (exX op m n x), .int .i64 (exE op m n x)]) ∧ Below w.heap.size w w' := by
  by_cases g : goodX op m n x = true
  · obtain ⟨g1, g2, g3, g4, g5, g6⟩ := (goodX_iff _ _ _ _).1 g
    have e2 : exE op m n x = 0 := by simp [exE, g]
    have e1 : exX op m n x = extV op m n x := by simp [exX, g]
    rw [e1, e2]
    have hm : isW m = true := by simp [isW, g1, g2]
    have hn : isW n = true := by simp [isW, g4, g5]
    have fx : fit m x = true := by simp [fit, g3]
    have q1 := sgn_lo32 (n := m) (a := x) g1 g2 h0
    have q2 := sgn_hi32 (n := m) (a := x) g1 g2 g3
    have k1 := mask_wr g5 (sgn m x)
    have k2 := mask_fit g5 h0 h4
    have pn := pw_le32 g5
    rcases g6 with ⟨rfl | rfl, g7⟩ | ⟨rfl, g7⟩
    · have e3 : extV 16 m n x = x := by
        show wr n x = x
        exact wr_small h0 (by have := pw_mono (m := m) (n := n) (by omega); omega)
      have e4 : wr n x = x := e3
      rw [e3]
      clear e1 e2 e3 g k2
      go_enter Try.func83, Try.ntmps83
      go_wp2_with (first | (go_at_call 104; refine (fits1 m x _ _ (by simp [go_sem])).mono ?_; rintro e w' ⟨rfl, rfl⟩) | (go_at_call 79; refine (isWidth_any _ _).mono ?_; rintro e w' ⟨rfl, rfl⟩) | (go_at_call 80; refine (mask_any _ _ (by assumption) (by assumption)).mono ?_; rintro e w' ⟨rfl, rfl⟩) | (go_at_call 105; refine (signed_any _ _ _ (by omega) (by omega) (by omega) (by omega)).mono ?_; rintro e w' ⟨rfl, rfl⟩))
      all_goals go_ret2
      all_goals exact ⟨rfl, (Below.refl _ _).alloc (Nat.le_refl _) _⟩
    · have e3 : extV 17 m n x = wr n (sgn m x) := rfl
      rw [e3]
      clear e1 e2 e3 g
      go_enter Try.func83, Try.ntmps83
      go_wp2_with (first | (go_at_call 104; refine (fits1 m x _ _ (by simp [go_sem])).mono ?_; rintro e w' ⟨rfl, rfl⟩) | (go_at_call 79; refine (isWidth_any _ _).mono ?_; rintro e w' ⟨rfl, rfl⟩) | (go_at_call 80; refine (mask_any _ _ (by assumption) (by assumption)).mono ?_; rintro e w' ⟨rfl, rfl⟩) | (go_at_call 105; refine (signed_any _ _ _ (by omega) (by omega) (by omega) (by omega)).mono ?_; rintro e w' ⟨rfl, rfl⟩))
      all_goals go_ret2
      all_goals exact ⟨rfl, (Below.refl _ _).alloc (Nat.le_refl _) _⟩
    · have e3 : extV 18 m n x = wr n x := rfl
      rw [e3]
      clear e1 e2 e3 g
      go_enter Try.func83, Try.ntmps83
      go_wp2_with (first | (go_at_call 104; refine (fits1 m x _ _ (by simp [go_sem])).mono ?_; rintro e w' ⟨rfl, rfl⟩) | (go_at_call 79; refine (isWidth_any _ _).mono ?_; rintro e w' ⟨rfl, rfl⟩) | (go_at_call 80; refine (mask_any _ _ (by assumption) (by assumption)).mono ?_; rintro e w' ⟨rfl, rfl⟩) | (go_at_call 105; refine (signed_any _ _ _ (by omega) (by omega) (by omega) (by omega)).mono ?_; rintro e w' ⟨rfl, rfl⟩))
      all_goals go_ret2
      all_goals exact ⟨rfl, (Below.refl _ _).alloc (Nat.le_refl _) _⟩
  · have e2 : exE op m n x = 1 := by simp [exE, g]
    have e1 : exX op m n x = 0 := by simp [exX, g]
    rw [e1, e2]
    clear e1 e2
    cases hm : isW m
    · clear g
      go_enter Try.func83, Try.ntmps83
      go_wp2_with (first | (go_at_call 104; refine (fits1 m x _ _ (by simp [go_sem])).mono ?_; rintro e w' ⟨rfl, rfl⟩) | (go_at_call 79; refine (isWidth_any _ _).mono ?_; rintro e w' ⟨rfl, rfl⟩) | (go_at_call 80; refine (mask_any _ _ (by assumption) (by assumption)).mono ?_; rintro e w' ⟨rfl, rfl⟩) | (go_at_call 105; refine (signed_any _ _ _ (by omega) (by omega) (by omega) (by omega)).mono ?_; rintro e w' ⟨rfl, rfl⟩))
      all_goals go_ret2
      all_goals exact ⟨rfl, (Below.refl _ _).alloc (Nat.le_refl _) _⟩
    · cases fx : fit m x
      · clear g
        go_enter Try.func83, Try.ntmps83
        go_wp2_with (first | (go_at_call 104; refine (fits1 m x _ _ (by simp [go_sem])).mono ?_; rintro e w' ⟨rfl, rfl⟩) | (go_at_call 79; refine (isWidth_any _ _).mono ?_; rintro e w' ⟨rfl, rfl⟩) | (go_at_call 80; refine (mask_any _ _ (by assumption) (by assumption)).mono ?_; rintro e w' ⟨rfl, rfl⟩) | (go_at_call 105; refine (signed_any _ _ _ (by omega) (by omega) (by omega) (by omega)).mono ?_; rintro e w' ⟨rfl, rfl⟩))
        all_goals go_ret2
        all_goals exact ⟨rfl, (Below.refl _ _).alloc (Nat.le_refl _) _⟩
      · cases hn : isW n
        · clear g
          go_enter Try.func83, Try.ntmps83
          go_wp2_with (first | (go_at_call 104; refine (fits1 m x _ _ (by simp [go_sem])).mono ?_; rintro e w' ⟨rfl, rfl⟩) | (go_at_call 79; refine (isWidth_any _ _).mono ?_; rintro e w' ⟨rfl, rfl⟩) | (go_at_call 80; refine (mask_any _ _ (by assumption) (by assumption)).mono ?_; rintro e w' ⟨rfl, rfl⟩) | (go_at_call 105; refine (signed_any _ _ _ (by omega) (by omega) (by omega) (by omega)).mono ?_; rintro e w' ⟨rfl, rfl⟩))
          all_goals go_ret2
          all_goals exact ⟨rfl, (Below.refl _ _).alloc (Nat.le_refl _) _⟩
        · have hg : ¬ ((op = 16 ∨ op = 17) ∧ m < n ∨ op = 18 ∧ n < m) := by
            intro h
            apply g
            simp only [isW, fit, decide_eq_true_eq] at hm fx hn
            exact (goodX_iff _ _ _ _).2 ⟨hm.1, hm.2, fx, hn.1, hn.2, h⟩
          clear g
          by_cases o1 : op = 16
          · have c : decide (m < n) = false := by simp; omega
            have c2 : decide (n ≤ m) = true := by simp; omega
            subst o1
            clear hg
            go_enter Try.func83, Try.ntmps83
            go_wp2_with (first | (go_at_call 104; refine (fits1 m x _ _ (by simp [go_sem])).mono ?_; rintro e w' ⟨rfl, rfl⟩) | (go_at_call 79; refine (isWidth_any _ _).mono ?_; rintro e w' ⟨rfl, rfl⟩) | (go_at_call 80; refine (mask_any _ _ (by assumption) (by assumption)).mono ?_; rintro e w' ⟨rfl, rfl⟩) | (go_at_call 105; refine (signed_any _ _ _ (by omega) (by omega) (by omega) (by omega)).mono ?_; rintro e w' ⟨rfl, rfl⟩))
            all_goals go_ret2
            all_goals exact ⟨rfl, (Below.refl _ _).alloc (Nat.le_refl _) _⟩
          · by_cases o2 : op = 17
            · have c : decide (m < n) = false := by simp; omega
              have c2 : decide (n ≤ m) = true := by simp; omega
              subst o2
              clear hg
              go_enter Try.func83, Try.ntmps83
              go_wp2_with (first | (go_at_call 104; refine (fits1 m x _ _ (by simp [go_sem])).mono ?_; rintro e w' ⟨rfl, rfl⟩) | (go_at_call 79; refine (isWidth_any _ _).mono ?_; rintro e w' ⟨rfl, rfl⟩) | (go_at_call 80; refine (mask_any _ _ (by assumption) (by assumption)).mono ?_; rintro e w' ⟨rfl, rfl⟩) | (go_at_call 105; refine (signed_any _ _ _ (by omega) (by omega) (by omega) (by omega)).mono ?_; rintro e w' ⟨rfl, rfl⟩))
              all_goals go_ret2
              all_goals exact ⟨rfl, (Below.refl _ _).alloc (Nat.le_refl _) _⟩
            · by_cases o3 : op = 18
              · have c : decide (n < m) = false := by simp; omega
                have c2 : decide (m ≤ n) = true := by simp; omega
                subst o3
                clear hg
                go_enter Try.func83, Try.ntmps83
                go_wp2_with (first | (go_at_call 104; refine (fits1 m x _ _ (by simp [go_sem])).mono ?_; rintro e w' ⟨rfl, rfl⟩) | (go_at_call 79; refine (isWidth_any _ _).mono ?_; rintro e w' ⟨rfl, rfl⟩) | (go_at_call 80; refine (mask_any _ _ (by assumption) (by assumption)).mono ?_; rintro e w' ⟨rfl, rfl⟩) | (go_at_call 105; refine (signed_any _ _ _ (by omega) (by omega) (by omega) (by omega)).mono ?_; rintro e w' ⟨rfl, rfl⟩))
                all_goals go_ret2
                all_goals exact ⟨rfl, (Below.refl _ _).alloc (Nat.le_refl _) _⟩
              · have b1 : (op == 16) = false := by simpa using o1
                have b2 : (op == 17) = false := by simpa using o2
                have b3 : (op == 18) = false := by simpa using o3
                have b4 : decide (op < 16) = true ∨ decide (18 < op) = true := by simp; omega
                clear hg o1 o2 o3
                rcases b4 with b4 | b4
                · go_enter Try.func83, Try.ntmps83
                  go_wp2_with (first | (go_at_call 104; refine (fits1 m x _ _ (by simp [go_sem])).mono ?_; rintro e w' ⟨rfl, rfl⟩) | (go_at_call 79; refine (isWidth_any _ _).mono ?_; rintro e w' ⟨rfl, rfl⟩) | (go_at_call 80; refine (mask_any _ _ (by assumption) (by assumption)).mono ?_; rintro e w' ⟨rfl, rfl⟩) | (go_at_call 105; refine (signed_any _ _ _ (by omega) (by omega) (by omega) (by omega)).mono ?_; rintro e w' ⟨rfl, rfl⟩))
                  all_goals go_ret2
                  all_goals exact ⟨rfl, (Below.refl _ _).alloc (Nat.le_refl _) _⟩
                · go_enter Try.func83, Try.ntmps83
                  go_wp2_with (first | (go_at_call 104; refine (fits1 m x _ _ (by simp [go_sem])).mono ?_; rintro e w' ⟨rfl, rfl⟩) | (go_at_call 79; refine (isWidth_any _ _).mono ?_; rintro e w' ⟨rfl, rfl⟩) | (go_at_call 80; refine (mask_any _ _ (by assumption) (by assumption)).mono ?_; rintro e w' ⟨rfl, rfl⟩) | (go_at_call 105; refine (signed_any _ _ _ (by omega) (by omega) (by omega) (by omega)).mono ?_; rintro e w' ⟨rfl, rfl⟩))
                  all_goals go_ret2
                  all_goals exact ⟨rfl, (Below.refl _ _).alloc (Nat.le_refl _) _⟩

set_option maxHeartbeats 1000000 in
theorem rExtend (op m n x : Int) (h0 : 0 ≤ x) (h4 : x ≤ 4294967295) (w : World) : Calls Try.prog 87 #[.int .i64 op, .int .i64 m, .int .i64 n, .int .u32 x] w fun e w' => e = .returned (.tuple #[.int .u32 (exX op m n x), .int .i64 (exE op m n x)]) ∧ w = w' := by
  by_cases g : goodX op m n x = true
  · obtain ⟨g1, g2, g3, g4, g5, g6⟩ := (goodX_iff _ _ _ _).1 g
    have e2 : exE op m n x = 0 := by simp [exE, g]
    have e1 : exX op m n x = extV op m n x := by simp [exX, g]
    rw [e1, e2]
    have hm : isW m = true := by simp [isW, g1, g2]
    have hn : isW n = true := by simp [isW, g4, g5]
    have fx : fit m x = true := by simp [fit, g3]
    have q1 := sgn_lo32 (n := m) (a := x) g1 g2 h0
    have q2 := sgn_hi32 (n := m) (a := x) g1 g2 g3
    have k1 := mask_wr g5 (sgn m x)
    have k2 := mask_fit g5 h0 h4
    have pn := pw_le32 g5
    rcases g6 with ⟨rfl | rfl, g7⟩ | ⟨rfl, g7⟩
    · have e3 : extV 16 m n x = x := by
        show wr n x = x
        exact wr_small h0 (by have := pw_mono (m := m) (n := n) (by omega); omega)
      have e4 : wr n x = x := e3
      rw [e3]
      clear e1 e2 e3 g k2
      go_enter Try.func87, Try.ntmps87
      go_wp2_with (first | (go_at_call 107; refine (rIsWidth_any _ _).mono ?_; rintro e w' ⟨rfl, rfl⟩) | (go_at_call 85; refine (rIsWord_any _ _ _ (by omega) (by omega)).mono ?_; rintro e w' ⟨rfl, rfl⟩) | (go_at_call 111; refine (rSign_any _ _ _ (by omega) (by omega) (by omega) (by omega)).mono ?_; rintro e w' ⟨rfl, rfl⟩) | (go_at_call 112; refine (rWrap_any _ _ _ (by omega) (by omega) (by omega) (by omega)).mono ?_; rintro e w' ⟨rfl, rfl⟩))
      all_goals go_ret2
      all_goals exact ⟨rfl, rfl⟩
    · have e3 : extV 17 m n x = wr n (sgn m x) := rfl
      rw [e3]
      clear e1 e2 e3 g
      go_enter Try.func87, Try.ntmps87
      go_wp2_with (first | (go_at_call 107; refine (rIsWidth_any _ _).mono ?_; rintro e w' ⟨rfl, rfl⟩) | (go_at_call 85; refine (rIsWord_any _ _ _ (by omega) (by omega)).mono ?_; rintro e w' ⟨rfl, rfl⟩) | (go_at_call 111; refine (rSign_any _ _ _ (by omega) (by omega) (by omega) (by omega)).mono ?_; rintro e w' ⟨rfl, rfl⟩) | (go_at_call 112; refine (rWrap_any _ _ _ (by omega) (by omega) (by omega) (by omega)).mono ?_; rintro e w' ⟨rfl, rfl⟩))
      all_goals go_ret2
      all_goals exact ⟨rfl, rfl⟩
    · have e3 : extV 18 m n x = wr n x := rfl
      rw [e3]
      clear e1 e2 e3 g
      go_enter Try.func87, Try.ntmps87
      go_wp2_with (first | (go_at_call 107; refine (rIsWidth_any _ _).mono ?_; rintro e w' ⟨rfl, rfl⟩) | (go_at_call 85; refine (rIsWord_any _ _ _ (by omega) (by omega)).mono ?_; rintro e w' ⟨rfl, rfl⟩) | (go_at_call 111; refine (rSign_any _ _ _ (by omega) (by omega) (by omega) (by omega)).mono ?_; rintro e w' ⟨rfl, rfl⟩) | (go_at_call 112; refine (rWrap_any _ _ _ (by omega) (by omega) (by omega) (by omega)).mono ?_; rintro e w' ⟨rfl, rfl⟩))
      all_goals go_ret2
      all_goals exact ⟨rfl, rfl⟩
  · have e2 : exE op m n x = 1 := by simp [exE, g]
    have e1 : exX op m n x = 0 := by simp [exX, g]
    rw [e1, e2]
    clear e1 e2
    cases hm : isW m
    · clear g
      go_enter Try.func87, Try.ntmps87
      go_wp2_with (first | (go_at_call 107; refine (rIsWidth_any _ _).mono ?_; rintro e w' ⟨rfl, rfl⟩) | (go_at_call 85; refine (rIsWord_any _ _ _ (by omega) (by omega)).mono ?_; rintro e w' ⟨rfl, rfl⟩) | (go_at_call 111; refine (rSign_any _ _ _ (by omega) (by omega) (by omega) (by omega)).mono ?_; rintro e w' ⟨rfl, rfl⟩) | (go_at_call 112; refine (rWrap_any _ _ _ (by omega) (by omega) (by omega) (by omega)).mono ?_; rintro e w' ⟨rfl, rfl⟩))
      all_goals go_ret2
      all_goals exact ⟨rfl, rfl⟩
    · cases fx : fit m x
      · clear g
        go_enter Try.func87, Try.ntmps87
        go_wp2_with (first | (go_at_call 107; refine (rIsWidth_any _ _).mono ?_; rintro e w' ⟨rfl, rfl⟩) | (go_at_call 85; refine (rIsWord_any _ _ _ (by omega) (by omega)).mono ?_; rintro e w' ⟨rfl, rfl⟩) | (go_at_call 111; refine (rSign_any _ _ _ (by omega) (by omega) (by omega) (by omega)).mono ?_; rintro e w' ⟨rfl, rfl⟩) | (go_at_call 112; refine (rWrap_any _ _ _ (by omega) (by omega) (by omega) (by omega)).mono ?_; rintro e w' ⟨rfl, rfl⟩))
        all_goals go_ret2
        all_goals exact ⟨rfl, rfl⟩
      · cases hn : isW n
        · clear g
          go_enter Try.func87, Try.ntmps87
          go_wp2_with (first | (go_at_call 107; refine (rIsWidth_any _ _).mono ?_; rintro e w' ⟨rfl, rfl⟩) | (go_at_call 85; refine (rIsWord_any _ _ _ (by omega) (by omega)).mono ?_; rintro e w' ⟨rfl, rfl⟩) | (go_at_call 111; refine (rSign_any _ _ _ (by omega) (by omega) (by omega) (by omega)).mono ?_; rintro e w' ⟨rfl, rfl⟩) | (go_at_call 112; refine (rWrap_any _ _ _ (by omega) (by omega) (by omega) (by omega)).mono ?_; rintro e w' ⟨rfl, rfl⟩))
          all_goals go_ret2
          all_goals exact ⟨rfl, rfl⟩
        · have hg : ¬ ((op = 16 ∨ op = 17) ∧ m < n ∨ op = 18 ∧ n < m) := by
            intro h
            apply g
            simp only [isW, fit, decide_eq_true_eq] at hm fx hn
            exact (goodX_iff _ _ _ _).2 ⟨hm.1, hm.2, fx, hn.1, hn.2, h⟩
          clear g
          by_cases o1 : op = 16
          · have c : decide (m < n) = false := by simp; omega
            have c2 : decide (n ≤ m) = true := by simp; omega
            subst o1
            clear hg
            go_enter Try.func87, Try.ntmps87
            go_wp2_with (first | (go_at_call 107; refine (rIsWidth_any _ _).mono ?_; rintro e w' ⟨rfl, rfl⟩) | (go_at_call 85; refine (rIsWord_any _ _ _ (by omega) (by omega)).mono ?_; rintro e w' ⟨rfl, rfl⟩) | (go_at_call 111; refine (rSign_any _ _ _ (by omega) (by omega) (by omega) (by omega)).mono ?_; rintro e w' ⟨rfl, rfl⟩) | (go_at_call 112; refine (rWrap_any _ _ _ (by omega) (by omega) (by omega) (by omega)).mono ?_; rintro e w' ⟨rfl, rfl⟩))
            all_goals go_ret2
            all_goals exact ⟨rfl, rfl⟩
          · by_cases o2 : op = 17
            · have c : decide (m < n) = false := by simp; omega
              have c2 : decide (n ≤ m) = true := by simp; omega
              subst o2
              clear hg
              go_enter Try.func87, Try.ntmps87
              go_wp2_with (first | (go_at_call 107; refine (rIsWidth_any _ _).mono ?_; rintro e w' ⟨rfl, rfl⟩) | (go_at_call 85; refine (rIsWord_any _ _ _ (by omega) (by omega)).mono ?_; rintro e w' ⟨rfl, rfl⟩) | (go_at_call 111; refine (rSign_any _ _ _ (by omega) (by omega) (by omega) (by omega)).mono ?_; rintro e w' ⟨rfl, rfl⟩) | (go_at_call 112; refine (rWrap_any _ _ _ (by omega) (by omega) (by omega) (by omega)).mono ?_; rintro e w' ⟨rfl, rfl⟩))
              all_goals go_ret2
              all_goals exact ⟨rfl, rfl⟩
            · by_cases o3 : op = 18
              · have c : decide (n < m) = false := by simp; omega
                have c2 : decide (m ≤ n) = true := by simp; omega
                subst o3
                clear hg
                go_enter Try.func87, Try.ntmps87
                go_wp2_with (first | (go_at_call 107; refine (rIsWidth_any _ _).mono ?_; rintro e w' ⟨rfl, rfl⟩) | (go_at_call 85; refine (rIsWord_any _ _ _ (by omega) (by omega)).mono ?_; rintro e w' ⟨rfl, rfl⟩) | (go_at_call 111; refine (rSign_any _ _ _ (by omega) (by omega) (by omega) (by omega)).mono ?_; rintro e w' ⟨rfl, rfl⟩) | (go_at_call 112; refine (rWrap_any _ _ _ (by omega) (by omega) (by omega) (by omega)).mono ?_; rintro e w' ⟨rfl, rfl⟩))
                all_goals go_ret2
                all_goals exact ⟨rfl, rfl⟩
              · have b1 : (op == 16) = false := by simpa using o1
                have b2 : (op == 17) = false := by simpa using o2
                have b3 : (op == 18) = false := by simpa using o3
                have b4 : decide (op < 16) = true ∨ decide (18 < op) = true := by simp; omega
                clear hg o1 o2 o3
                rcases b4 with b4 | b4
                · go_enter Try.func87, Try.ntmps87
                  go_wp2_with (first | (go_at_call 107; refine (rIsWidth_any _ _).mono ?_; rintro e w' ⟨rfl, rfl⟩) | (go_at_call 85; refine (rIsWord_any _ _ _ (by omega) (by omega)).mono ?_; rintro e w' ⟨rfl, rfl⟩) | (go_at_call 111; refine (rSign_any _ _ _ (by omega) (by omega) (by omega) (by omega)).mono ?_; rintro e w' ⟨rfl, rfl⟩) | (go_at_call 112; refine (rWrap_any _ _ _ (by omega) (by omega) (by omega) (by omega)).mono ?_; rintro e w' ⟨rfl, rfl⟩))
                  all_goals go_ret2
                  all_goals exact ⟨rfl, rfl⟩
                · go_enter Try.func87, Try.ntmps87
                  go_wp2_with (first | (go_at_call 107; refine (rIsWidth_any _ _).mono ?_; rintro e w' ⟨rfl, rfl⟩) | (go_at_call 85; refine (rIsWord_any _ _ _ (by omega) (by omega)).mono ?_; rintro e w' ⟨rfl, rfl⟩) | (go_at_call 111; refine (rSign_any _ _ _ (by omega) (by omega) (by omega) (by omega)).mono ?_; rintro e w' ⟨rfl, rfl⟩) | (go_at_call 112; refine (rWrap_any _ _ _ (by omega) (by omega) (by omega) (by omega)).mono ?_; rintro e w' ⟨rfl, rfl⟩))
                  all_goals go_ret2
                  all_goals exact ⟨rfl, rfl⟩

end Go.Proofs.Ythopdfikikdcbaa
/- Walks of package term: which nodes are right. -/
namespace Go.Proofs.Ythopdfikikdcbaa
open Go.RowKit Wd
set_option linter.unusedVariables false
set_option linter.unusedSimpArgs false
/-- A node as a value; v: its Args. -/
def Nd.val (x : Nd) (v : Value) : Value := .agg #[.int .i64 x.op, .int .i64 x.width, .int .i64 x.flags, v, .int .u32 x.imm]
/-- The numbers of a node fit their types. -/
structure Nd.Wf (x : Nd) : Prop where
  op : -9223372036854775808 ≤ x.op ∧ x.op ≤ 9223372036854775807
  width : -9223372036854775808 ≤ x.width ∧ x.width ≤ 9223372036854775807
  flags : -9223372036854775808 ≤ x.flags ∧ x.flags ≤ 9223372036854775807
  imm : 0 ≤ x.imm ∧ x.imm ≤ 4294967295
  args : ∀ a ∈ x.args, -9223372036854775808 ≤ a ∧ a ≤ 9223372036854775807
  len : x.args.length ≤ 4611686018427387904
/-- How many Args an operation has; -1 if it is none of terms. -/
def arV (op : Int) : Int := if op = 0 ∨ op = 33 then 0 else if 1 ≤ op ∧ op ≤ 14 then 2 else if op = 15 then 3 else if 16 ≤ op ∧ op ≤ 18 then 1 else -1
def immOk (x : Nd) : Bool :=
  if x.op = 0 then isW x.width && fit x.width x.imm else if x.op = 33 then decide (x.imm < 4) else if x.op = 14 then decide (x.imm ≤ 9) else x.imm == 0

theorem arV_cases (op : Int) : (op = 0 ∨ op = 33) ∧ arV op = 0 ∨ (1 ≤ op ∧ op ≤ 14) ∧ arV op = 2 ∨ op = 15 ∧ arV op = 3 ∨ (16 ≤ op ∧ op ≤ 18) ∧ arV op = 1 ∨ (op < 0 ∨ 18 < op ∧ op < 33 ∨ 33 < op) ∧ arV op = -1 := by
  unfold arV
  repeat' split
  all_goals omega

theorem arity_any (op : Int) (w : World) : Calls Try.prog 65 #[.int .i64 op] w fun e w' => e = .returned (.tuple #[.int .i64 (if arV op = -1 then 0 else arV op), .bool (arV op != -1)]) ∧ w = w' := by
  rcases arV_cases op with ⟨rfl | rfl, e⟩ | ⟨⟨h1, h2⟩, e⟩ | ⟨rfl, e⟩ | ⟨⟨h1, h2⟩, e⟩ | ⟨h, e⟩
  · rw [e]
    clear e
    go_enter Try.func65, Try.ntmps65
    go_wp2
    go_ret2
    exact ⟨rfl, rfl⟩
  · rw [e]
    clear e
    go_enter Try.func65, Try.ntmps65
    go_wp2
    go_ret2
    exact ⟨rfl, rfl⟩
  · rw [e]
    clear e
    have q0 : (op == 0) = false := by simp; omega
    have q1 : (op == 33) = false := by simp; omega
    have q2 : decide (1 ≤ op) = true := by simp; omega
    have q3 : decide (op ≤ 14) = true := by simp; omega
    go_enter Try.func65, Try.ntmps65
    go_wp2
    go_ret2
    exact ⟨rfl, rfl⟩
  · rw [e]
    clear e
    go_enter Try.func65, Try.ntmps65
    go_wp2
    go_ret2
    exact ⟨rfl, rfl⟩
  · rw [e]
    clear e
    have q0 : (op == 0) = false := by simp; omega
    have q1 : (op == 33) = false := by simp; omega
    have q2 : (op == 15) = false := by simp; omega
    have q3 : decide (1 ≤ op) = true := by simp; omega
    have q4 : decide (op ≤ 14) = false := by simp; omega
    have q5 : decide (16 ≤ op) = true := by simp; omega
    have q6 : decide (op ≤ 18) = true := by simp; omega
    go_enter Try.func65, Try.ntmps65
    go_wp2
    go_ret2
    exact ⟨rfl, rfl⟩
  · rcases h with h | ⟨h1, h2⟩ | h
    · rw [e]
      clear e
      have q0 : (op == 0) = false := by simp; omega
      have q1 : (op == 33) = false := by simp; omega
      have q2 : (op == 15) = false := by simp; omega
      have q3 : decide (1 ≤ op) = false := by simp; omega
      have q4 : decide (16 ≤ op) = false := by simp; omega
      go_enter Try.func65, Try.ntmps65
      go_wp2
      go_ret2
      exact ⟨rfl, rfl⟩
    · rw [e]
      clear e
      have q0 : (op == 0) = false := by simp; omega
      have q1 : (op == 33) = false := by simp; omega
      have q2 : (op == 15) = false := by simp; omega
      have q3 : decide (1 ≤ op) = true := by simp; omega
      have q4 : decide (op ≤ 14) = false := by simp; omega
      have q5 : decide (16 ≤ op) = true := by simp; omega
      have q6 : decide (op ≤ 18) = false := by simp; omega
      go_enter Try.func65, Try.ntmps65
      go_wp2
      go_ret2
      exact ⟨rfl, rfl⟩
    · rw [e]
      clear e
      have q0 : (op == 0) = false := by simp; omega
      have q1 : (op == 33) = false := by simp; omega
      have q2 : (op == 15) = false := by simp; omega
      have q3 : decide (1 ≤ op) = true := by simp; omega
      have q4 : decide (op ≤ 14) = false := by simp; omega
      have q5 : decide (16 ≤ op) = true := by simp; omega
      have q6 : decide (op ≤ 18) = false := by simp; omega
      go_enter Try.func65, Try.ntmps65
      go_wp2
      go_ret2
      exact ⟨rfl, rfl⟩

theorem rArity_any (op : Int) (w : World) : Calls Try.prog 68 #[.int .i64 op] w fun e w' => e = .returned (.int .i64 (arV op)) ∧ w = w' := by
  rcases arV_cases op with ⟨rfl | rfl, e⟩ | ⟨⟨h1, h2⟩, e⟩ | ⟨rfl, e⟩ | ⟨⟨h1, h2⟩, e⟩ | ⟨h, e⟩
  · rw [e]
    clear e
    go_enter Try.func68, Try.ntmps68
    go_wp2
    go_ret
    exact ⟨rfl, rfl⟩
  · rw [e]
    clear e
    go_enter Try.func68, Try.ntmps68
    go_wp2
    go_ret
    exact ⟨rfl, rfl⟩
  · rw [e]
    clear e
    have q0 : (op == 0) = false := by simp; omega
    have q1 : (op == 33) = false := by simp; omega
    have q2 : decide (1 ≤ op) = true := by simp; omega
    have q3 : decide (op ≤ 14) = true := by simp; omega
    go_enter Try.func68, Try.ntmps68
    go_wp2
    go_ret
    exact ⟨rfl, rfl⟩
  · rw [e]
    clear e
    go_enter Try.func68, Try.ntmps68
    go_wp2
    go_ret
    exact ⟨rfl, rfl⟩
  · rw [e]
    clear e
    have q0 : (op == 0) = false := by simp; omega
    have q1 : (op == 33) = false := by simp; omega
    have q2 : (op == 15) = false := by simp; omega
    have q3 : decide (1 ≤ op) = true := by simp; omega
    have q4 : decide (op ≤ 14) = false := by simp; omega
    have q5 : decide (16 ≤ op) = true := by simp; omega
    have q6 : decide (op ≤ 18) = true := by simp; omega
    go_enter Try.func68, Try.ntmps68
    go_wp2
    go_ret
    exact ⟨rfl, rfl⟩
  · rcases h with h | ⟨h1, h2⟩ | h
    · rw [e]
      clear e
      have q0 : (op == 0) = false := by simp; omega
      have q1 : (op == 33) = false := by simp; omega
      have q2 : (op == 15) = false := by simp; omega
      have q3 : decide (1 ≤ op) = false := by simp; omega
      have q4 : decide (16 ≤ op) = false := by simp; omega
      go_enter Try.func68, Try.ntmps68
      go_wp2
      go_ret
      exact ⟨rfl, rfl⟩
    · rw [e]
      clear e
      have q0 : (op == 0) = false := by simp; omega
      have q1 : (op == 33) = false := by simp; omega
      have q2 : (op == 15) = false := by simp; omega
      have q3 : decide (1 ≤ op) = true := by simp; omega
      have q4 : decide (op ≤ 14) = false := by simp; omega
      have q5 : decide (16 ≤ op) = true := by simp; omega
      have q6 : decide (op ≤ 18) = false := by simp; omega
      go_enter Try.func68, Try.ntmps68
      go_wp2
      go_ret
      exact ⟨rfl, rfl⟩
    · rw [e]
      clear e
      have q0 : (op == 0) = false := by simp; omega
      have q1 : (op == 33) = false := by simp; omega
      have q2 : (op == 15) = false := by simp; omega
      have q3 : decide (1 ≤ op) = true := by simp; omega
      have q4 : decide (op ≤ 14) = false := by simp; omega
      have q5 : decide (16 ≤ op) = true := by simp; omega
      have q6 : decide (op ≤ 18) = false := by simp; omega
      go_enter Try.func68, Try.ntmps68
      go_wp2
      go_ret
      exact ⟨rfl, rfl⟩

theorem arity_yes (op : Int) (w : World) (h : (arV op != -1) = true) : Calls Try.prog 65 #[.int .i64 op] w fun e w' => e = .returned (.tuple #[.int .i64 (arV op), .bool true]) ∧ w = w' := by
  have h2 : arV op ≠ -1 := by simpa using h
  have := arity_any op w
  rw [if_neg h2, h] at this
  exact this
theorem arity_no (op : Int) (w : World) (h : (arV op != -1) = false) : Calls Try.prog 65 #[.int .i64 op] w fun e w' => e = .returned (.tuple #[.int .i64 0, .bool false]) ∧ w = w' := by
  have h2 : arV op = -1 := by simpa using h
  have := arity_any op w
  rw [if_pos h2, h] at this
  exact this

theorem isImm_any (x : Nd) (v : Value) (w : World) (hv : ∃ a n c, v = .slice a n c) (i1 : 0 ≤ x.imm) (i2 : x.imm ≤ 4294967295) : Calls Try.prog 73 #[.agg #[.int .i64 x.op, .int .i64 x.width, .int .i64 x.flags, v, .int .u32 x.imm]] w fun e w' => e = .returned (.bool (immOk x)) ∧ Below w.heap.size w w' := by
  obtain ⟨a, n, c, rfl⟩ := hv
  obtain ⟨op, width, flags, args, imm⟩ := x
  simp only at i1 i2 ⊢
  by_cases o0 : op = 0
  · subst o0
    cases hw : isW width
    · have e : immOk ⟨0, width, flags, args, imm⟩ = false := by simp [immOk, hw]
      have m1 : mkE width = 1 := by simp [mkE, hw]
      rw [e]
      clear e
      go_enter Try.func73, Try.ntmps73
      go_wp2_with (first | (go_at_call 49; refine (pMask _ _).mono ?_; rintro e w' ⟨rfl, rfl⟩))
      go_ret
      exact ⟨rfl, by repeat (first | with_reducible exact Below.refl _ _ | with_reducible refine Below.drew ?_ | with_reducible refine below_drewN ?_ _ | with_reducible refine Below.alloc ?_ (by simp; try omega) _)⟩
    · have m1 : mkE width = 0 := by simp [mkE, hw]
      have m2 : mkX width = pw width - 1 := by simp [mkX, hw]
      have e : immOk ⟨0, width, flags, args, imm⟩ = decide (imm ≤ pw width - 1) := by
        simp [immOk, hw, fit]; omega
      rw [e]
      clear e
      go_enter Try.func73, Try.ntmps73
      go_wp2_with (first | (go_at_call 49; refine (pMask _ _).mono ?_; rintro e w' ⟨rfl, rfl⟩))
      go_ret
      exact ⟨rfl, by repeat (first | with_reducible exact Below.refl _ _ | with_reducible refine Below.drew ?_ | with_reducible refine below_drewN ?_ _ | with_reducible refine Below.alloc ?_ (by simp; try omega) _)⟩
  · by_cases o1 : op = 33
    · subst o1
      have e : immOk ⟨33, width, flags, args, imm⟩ = decide (imm < 4) := rfl
      rw [e]
      clear e o0
      go_enter Try.func73, Try.ntmps73
      go_wp2_with (first | (go_at_call 49; refine (pMask _ _).mono ?_; rintro e w' ⟨rfl, rfl⟩))
      go_ret
      exact ⟨rfl, by repeat (first | with_reducible exact Below.refl _ _ | with_reducible refine Below.drew ?_ | with_reducible refine below_drewN ?_ _ | with_reducible refine Below.alloc ?_ (by simp; try omega) _)⟩
    · by_cases o2 : op = 14
      · subst o2
        have e : immOk ⟨14, width, flags, args, imm⟩ = decide (imm ≤ 9) := rfl
        rw [e]
        clear e o0 o1
        go_enter Try.func73, Try.ntmps73
        go_wp2_with (first | (go_at_call 49; refine (pMask _ _).mono ?_; rintro e w' ⟨rfl, rfl⟩))
        go_ret
        exact ⟨rfl, by repeat (first | with_reducible exact Below.refl _ _ | with_reducible refine Below.drew ?_ | with_reducible refine below_drewN ?_ _ | with_reducible refine Below.alloc ?_ (by simp; try omega) _)⟩
      · have e : immOk ⟨op, width, flags, args, imm⟩ = (imm == 0) := by simp [immOk, o0, o1, o2]
        have c0 : (op == 0) = false := by simpa using o0
        have c1 : (op == 33) = false := by simpa using o1
        have c2 : (op == 14) = false := by simpa using o2
        rw [e]
        clear e o0 o1 o2
        go_enter Try.func73, Try.ntmps73
        go_wp2_with (first | (go_at_call 49; refine (pMask _ _).mono ?_; rintro e w' ⟨rfl, rfl⟩))
        go_ret
        exact ⟨rfl, by repeat (first | with_reducible exact Below.refl _ _ | with_reducible refine Below.drew ?_ | with_reducible refine below_drewN ?_ _ | with_reducible refine Below.alloc ?_ (by simp; try omega) _)⟩

end Go.Proofs.Ythopdfikikdcbaa
/- Walks of package term: which nodes are shaped and typed. -/
namespace Go.Proofs.Ythopdfikikdcbaa
open Go.RowKit Wd
set_option linter.unusedVariables false
set_option linter.unusedSimpArgs false
/-- a is no number of a node before the node number k. -/
def bad (k a : Int) : Bool := decide (a < 0) || decide (k ≤ a)
theorem any_getD {p : Int → Bool} {xs : List Int} {j : Nat} (hj : j < xs.length) (h : p (xs.getD j 0) = true) : xs.any p = true := by
  rw [List.any_eq_true]
  refine ⟨xs.getD j 0, ?_, h⟩
  rw [List.getD_eq_getElem?_getD, List.getElem?_eq_getElem hj]
  exact List.getElem_mem hj
theorem none_getD {p : Int → Bool} {xs : List Int} (h : ∀ i, i < xs.length → p (xs.getD i 0) = false) : xs.any p = false := by
  rw [Bool.eq_false_iff]
  intro ha
  obtain ⟨a, hm, hp⟩ := List.any_eq_true.1 ha
  obtain ⟨i, hi, rfl⟩ := List.getElem_of_mem hm
  have := h i hi
  rw [List.getD_eq_getElem?_getD, List.getElem?_eq_getElem hi] at this
  simp at this
  rw [this] at hp; cases hp

theorem shaped1 (k a : Int) (b : Nat) (w : World) (hk : w.cell? ⟨b, 0, none⟩ = some (.int .i64 k)) : Calls Try.prog 75 #[.int .i64 a, .pointer (some ⟨b, 0, none⟩)] w fun e w' => e = .returned (.bool (bad k a)) ∧ w = w' := by
  cases c1 : decide (a < 0)
  · have e : bad k a = decide (k ≤ a) := by simp [bad, c1]
    rw [e]
    clear e
    go_enter Try.func75, Try.ntmps75
    go_wp2
    go_ret
    exact ⟨rfl, rfl⟩
  · have e : bad k a = true := by simp [bad, c1]
    rw [e]
    clear e
    go_enter Try.func75, Try.ntmps75
    go_wp2
    go_ret
    exact ⟨rfl, rfl⟩

theorem index_yes (k : Int) (xs : List Int) (v : Value) (b : Nat) (w : World) (hk : w.cell? ⟨b, 0, none⟩ = some (.int .i64 k)) (hv : Ints .i64 w v xs) (ha : xs.any (bad k) = true) : Calls Try.prog 101 #[v, .func (.func 75) #[] #[.pointer (some ⟨b, 0, none⟩)]] w fun e w' => ∃ r : Nat, e = .returned (.int .i64 r) ∧ w = w' := by
  obtain ⟨a, c, rfl, hc1, hc2, hc3, hcell⟩ := hv
  have HC := Lib.hid hcell
  clear hcell hc3
  go_enter Try.func101, Try.ntmps101
  go_wp2_with fail
  go_loop [5, 8] (fun _ i => ∃ j : Nat, j ≤ xs.length ∧ i = .int .i64 j ∧ Hid (∀ i, i < j → bad k (xs.getD i 0) = false)) (fun _ i => xs.length - (intOf i).toNat)
  case atStart => exact ⟨0, Nat.zero_le _, rfl, fun i hi => absurd hi (by omega)⟩
  case round =>
    obtain ⟨j, hj, rfl, hno⟩ := hrel
    by_cases hlt : j < xs.length
    · obtain ⟨b2, o2, rfl, _, hcell⟩ := HC.out j hlt
      simp only [Nat.mul_one] at hcell
      generalize hy : xs.getD j 0 = y at *
      have HY := Lib.hid hy
      clear hy
      cases hb : bad k y
      · have HB := Lib.hid hb
        go_wp2_with (first | (go_at_call 75; refine (shaped1 k _ _ _ (by assumption)).mono ?_; rintro e w' ⟨rfl, rfl⟩))
        go_round
        case rel => exact ⟨j + 1, by omega, by go_num, fun i hi => by
          by_cases e : i = j
          · rw [e, HY.out]; exact HB.out
          · exact hno.out i (by omega)⟩
        case measure => simp [intOf]; omega
      · go_wp2_with (first | (go_at_call 75; refine (shaped1 k _ _ _ (by assumption)).mono ?_; rintro e w' ⟨rfl, rfl⟩))
        go_ret
        exact ⟨j, rfl, rfl⟩
    · obtain rfl : j = xs.length := by omega
      exfalso
      have := none_getD hno.out
      rw [ha] at this; cases this

theorem index_no (k : Int) (xs : List Int) (v : Value) (b : Nat) (w : World) (hk : w.cell? ⟨b, 0, none⟩ = some (.int .i64 k)) (hv : Ints .i64 w v xs) (ha : xs.any (bad k) = false) : Calls Try.prog 101 #[v, .func (.func 75) #[] #[.pointer (some ⟨b, 0, none⟩)]] w fun e w' => e = .returned (.int .i64 (-1)) ∧ w = w' := by
  obtain ⟨a, c, rfl, hc1, hc2, hc3, hcell⟩ := hv
  have HC := Lib.hid hcell
  clear hcell hc3
  go_enter Try.func101, Try.ntmps101
  go_wp2_with fail
  go_loop [5, 8] (fun _ i => ∃ j : Nat, j ≤ xs.length ∧ i = .int .i64 j ∧ Hid (∀ i, i < j → bad k (xs.getD i 0) = false)) (fun _ i => xs.length - (intOf i).toNat)
  case atStart => exact ⟨0, Nat.zero_le _, rfl, fun i hi => absurd hi (by omega)⟩
  case round =>
    obtain ⟨j, hj, rfl, hno⟩ := hrel
    by_cases hlt : j < xs.length
    · obtain ⟨b2, o2, rfl, _, hcell⟩ := HC.out j hlt
      simp only [Nat.mul_one] at hcell
      generalize hy : xs.getD j 0 = y at *
      have HY := Lib.hid hy
      clear hy
      cases hb : bad k y
      · have HB := Lib.hid hb
        go_wp2_with (first | (go_at_call 75; refine (shaped1 k _ _ _ (by assumption)).mono ?_; rintro e w' ⟨rfl, rfl⟩))
        go_round
        case rel => exact ⟨j + 1, by omega, by go_num, fun i hi => by
          by_cases e : i = j
          · rw [e, HY.out]; exact HB.out
          · exact hno.out i (by omega)⟩
        case measure => simp [intOf]; omega
      · exfalso
        have := any_getD (p := bad k) hlt (by rw [HY.out]; exact hb)
        rw [ha] at this; cases this
    · obtain rfl : j = xs.length := by omega
      go_wp2_with fail
      go_ret
      exact ⟨rfl, rfl⟩

theorem contains_bad (k : Int) (xs : List Int) (v : Value) (b : Nat) (w : World) (hk : w.cell? ⟨b, 0, none⟩ = some (.int .i64 k)) (hv : Ints .i64 w v xs) : Calls Try.prog 74 #[v, .func (.func 75) #[] #[.pointer (some ⟨b, 0, none⟩)]] w fun e w' => e = .returned (.bool (xs.any (bad k))) ∧ w = w' := by
  cases ha : xs.any (bad k)
  · go_enter Try.func74, Try.ntmps74
    go_wp2_with (first | (go_at_call 101; refine (index_no k xs _ _ _ (by assumption) (by assumption) (by assumption)).mono ?_; rintro e w' ⟨rfl, rfl⟩))
    go_ret
    exact ⟨rfl, rfl⟩
  · go_enter Try.func74, Try.ntmps74
    go_wp2_with (first | (go_at_call 101; refine (index_yes k xs _ _ _ (by assumption) (by assumption) (by assumption)).mono ?_; rintro e w' ⟨r, rfl, rfl⟩))
    go_ret
    exact ⟨rfl, rfl⟩

/-- The node number k is right, but for the widths of its Args. -/
def shaped (k : Int) (x : Nd) : Bool :=
  (arV x.op != -1) && !decide (x.width < 1) && !decide (32 < x.width) && !(x.flags != 0) && !((x.args.length : Int) != arV x.op) && immOk x && !((x.op == 14) && (x.width != 1)) && !(x.args.any (bad k))

set_option maxHeartbeats 4000000 in
theorem isShaped_any (k : Int) (x : Nd) (v : Value) (w : World) (hv : Ints .i64 w v x.args) (i1 : 0 ≤ x.imm) (i2 : x.imm ≤ 4294967295) : Calls Try.prog 46 #[.int .i64 k, .agg #[.int .i64 x.op, .int .i64 x.width, .int .i64 x.flags, v, .int .u32 x.imm]] w fun e w' => e = .returned (.bool (shaped k x)) ∧ Below w.heap.size w w' := by
  obtain ⟨op, width, flags, args, imm⟩ := x
  simp only at hv i1 i2 ⊢
  have HV := Lib.hid hv
  obtain ⟨a, c, rfl, hc1, hc2, hc3, hcell⟩ := hv
  clear hcell hc3
  cases c1 : (arV op != -1)
  · have e : shaped k ⟨op, width, flags, args, imm⟩ = false := by simp only [shaped, c1]; simp
    rw [e]
    clear e
    go_enter Try.func46, Try.ntmps46
    go_wp2_with fail
    have h00 := Since.refl ((w.alloc (.cells #[.int .i64 k] 3)).alloc (.cells #[.int .i64 op, .int .i64 width, .int .i64 flags, .slice a args.length c, .int .u32 imm] 47))
    have l0 : ∀ wk, Since ((w.alloc (.cells #[.int .i64 k] 3)).alloc (.cells #[.int .i64 op, .int .i64 width, .int .i64 flags, .slice a args.length c, .int .u32 imm] 47)) wk → wk.cell? ⟨w.heap.size, 0, none⟩ = some (.int .i64 k) := fun wk h => by rw [(bcell (show Below _ _ _ from h)).1 _ _ (by simp; try omega)]; simp [go_sem]
    have l1 : ∀ wk, Since ((w.alloc (.cells #[.int .i64 k] 3)).alloc (.cells #[.int .i64 op, .int .i64 width, .int .i64 flags, .slice a args.length c, .int .u32 imm] 47)) wk → wk.cell? ⟨w.heap.size + 1, 0, none⟩ = some (.int .i64 op) := fun wk h => by rw [(bcell (show Below _ _ _ from h)).1 _ _ (by simp; try omega)]; simp [go_sem]
    have l2 : ∀ wk, Since ((w.alloc (.cells #[.int .i64 k] 3)).alloc (.cells #[.int .i64 op, .int .i64 width, .int .i64 flags, .slice a args.length c, .int .u32 imm] 47)) wk → wk.cell? ⟨w.heap.size + 1, 1, none⟩ = some (.int .i64 width) := fun wk h => by rw [(bcell (show Below _ _ _ from h)).1 _ _ (by simp; try omega)]; simp [go_sem]
    have l3 : ∀ wk, Since ((w.alloc (.cells #[.int .i64 k] 3)).alloc (.cells #[.int .i64 op, .int .i64 width, .int .i64 flags, .slice a args.length c, .int .u32 imm] 47)) wk → wk.cell? ⟨w.heap.size + 1, 2, none⟩ = some (.int .i64 flags) := fun wk h => by rw [(bcell (show Below _ _ _ from h)).1 _ _ (by simp; try omega)]; simp [go_sem]
    have l4 : ∀ wk, Since ((w.alloc (.cells #[.int .i64 k] 3)).alloc (.cells #[.int .i64 op, .int .i64 width, .int .i64 flags, .slice a args.length c, .int .u32 imm] 47)) wk → wk.cell? ⟨w.heap.size + 1, 3, none⟩ = some (.slice a args.length c) := fun wk h => by rw [(bcell (show Below _ _ _ from h)).1 _ _ (by simp; try omega)]; simp [go_sem]
    have l5 : ∀ wk, Since ((w.alloc (.cells #[.int .i64 k] 3)).alloc (.cells #[.int .i64 op, .int .i64 width, .int .i64 flags, .slice a args.length c, .int .u32 imm] 47)) wk → wk.cell? ⟨w.heap.size + 1, 4, none⟩ = some (.int .u32 imm) := fun wk h => by rw [(bcell (show Below _ _ _ from h)).1 _ _ (by simp; try omega)]; simp [go_sem]
    have hlk : ∀ wk, Since ((w.alloc (.cells #[.int .i64 k] 3)).alloc (.cells #[.int .i64 op, .int .i64 width, .int .i64 flags, .slice a args.length c, .int .u32 imm] 47)) wk → wk.cell? ⟨w.heap.size, 0, none⟩ = some (.int .i64 k) := l0
    have hin : ∀ wk, Since ((w.alloc (.cells #[.int .i64 k] 3)).alloc (.cells #[.int .i64 op, .int .i64 width, .int .i64 flags, .slice a args.length c, .int .u32 imm] 47)) wk → Ints .i64 wk (.slice a args.length c) args := fun wk h => HV.out.stays (below_box (below_box h))
    go_wp2_with (first | (go_at_call 65; refine (arity_yes _ _ (by assumption)).mono ?_; rintro e w' ⟨rfl, rfl⟩) | (go_at_call 65; refine (arity_no _ _ (by assumption)).mono ?_; rintro e w' ⟨rfl, rfl⟩) | (go_at_call 73; refine (acc_p (isImm_any ⟨op, width, flags, args, imm⟩ _ _ ⟨_, _, _, rfl⟩ i1 i2) (by assumption)).mono ?_; rintro e w' ⟨rfl, hb⟩) | (go_at_call 74; refine (acc_e (contains_bad k args _ _ _ (hlk _ (by assumption)) (hin _ (by assumption))) (by assumption)).mono ?_; rintro e w' ⟨rfl, hb⟩))
    go_ret
    exact ⟨rfl, below_box (below_box ‹_›)⟩
  · skip
    cases c2 : decide (width < 1)
    rotate_left
    · have e : shaped k ⟨op, width, flags, args, imm⟩ = false := by simp only [shaped, c1, c2]; simp
      rw [e]
      clear e
      go_enter Try.func46, Try.ntmps46
      go_wp2_with fail
      have h00 := Since.refl ((w.alloc (.cells #[.int .i64 k] 3)).alloc (.cells #[.int .i64 op, .int .i64 width, .int .i64 flags, .slice a args.length c, .int .u32 imm] 47))
      have l0 : ∀ wk, Since ((w.alloc (.cells #[.int .i64 k] 3)).alloc (.cells #[.int .i64 op, .int .i64 width, .int .i64 flags, .slice a args.length c, .int .u32 imm] 47)) wk → wk.cell? ⟨w.heap.size, 0, none⟩ = some (.int .i64 k) := fun wk h => by rw [(bcell (show Below _ _ _ from h)).1 _ _ (by simp; try omega)]; simp [go_sem]
      have l1 : ∀ wk, Since ((w.alloc (.cells #[.int .i64 k] 3)).alloc (.cells #[.int .i64 op, .int .i64 width, .int .i64 flags, .slice a args.length c, .int .u32 imm] 47)) wk → wk.cell? ⟨w.heap.size + 1, 0, none⟩ = some (.int .i64 op) := fun wk h => by rw [(bcell (show Below _ _ _ from h)).1 _ _ (by simp; try omega)]; simp [go_sem]
      have l2 : ∀ wk, Since ((w.alloc (.cells #[.int .i64 k] 3)).alloc (.cells #[.int .i64 op, .int .i64 width, .int .i64 flags, .slice a args.length c, .int .u32 imm] 47)) wk → wk.cell? ⟨w.heap.size + 1, 1, none⟩ = some (.int .i64 width) := fun wk h => by rw [(bcell (show Below _ _ _ from h)).1 _ _ (by simp; try omega)]; simp [go_sem]
      have l3 : ∀ wk, Since ((w.alloc (.cells #[.int .i64 k] 3)).alloc (.cells #[.int .i64 op, .int .i64 width, .int .i64 flags, .slice a args.length c, .int .u32 imm] 47)) wk → wk.cell? ⟨w.heap.size + 1, 2, none⟩ = some (.int .i64 flags) := fun wk h => by rw [(bcell (show Below _ _ _ from h)).1 _ _ (by simp; try omega)]; simp [go_sem]
      have l4 : ∀ wk, Since ((w.alloc (.cells #[.int .i64 k] 3)).alloc (.cells #[.int .i64 op, .int .i64 width, .int .i64 flags, .slice a args.length c, .int .u32 imm] 47)) wk → wk.cell? ⟨w.heap.size + 1, 3, none⟩ = some (.slice a args.length c) := fun wk h => by rw [(bcell (show Below _ _ _ from h)).1 _ _ (by simp; try omega)]; simp [go_sem]
      have l5 : ∀ wk, Since ((w.alloc (.cells #[.int .i64 k] 3)).alloc (.cells #[.int .i64 op, .int .i64 width, .int .i64 flags, .slice a args.length c, .int .u32 imm] 47)) wk → wk.cell? ⟨w.heap.size + 1, 4, none⟩ = some (.int .u32 imm) := fun wk h => by rw [(bcell (show Below _ _ _ from h)).1 _ _ (by simp; try omega)]; simp [go_sem]
      have hlk : ∀ wk, Since ((w.alloc (.cells #[.int .i64 k] 3)).alloc (.cells #[.int .i64 op, .int .i64 width, .int .i64 flags, .slice a args.length c, .int .u32 imm] 47)) wk → wk.cell? ⟨w.heap.size, 0, none⟩ = some (.int .i64 k) := l0
      have hin : ∀ wk, Since ((w.alloc (.cells #[.int .i64 k] 3)).alloc (.cells #[.int .i64 op, .int .i64 width, .int .i64 flags, .slice a args.length c, .int .u32 imm] 47)) wk → Ints .i64 wk (.slice a args.length c) args := fun wk h => HV.out.stays (below_box (below_box h))
      go_wp2_with (first | (go_at_call 65; refine (arity_yes _ _ (by assumption)).mono ?_; rintro e w' ⟨rfl, rfl⟩) | (go_at_call 65; refine (arity_no _ _ (by assumption)).mono ?_; rintro e w' ⟨rfl, rfl⟩) | (go_at_call 73; refine (acc_p (isImm_any ⟨op, width, flags, args, imm⟩ _ _ ⟨_, _, _, rfl⟩ i1 i2) (by assumption)).mono ?_; rintro e w' ⟨rfl, hb⟩) | (go_at_call 74; refine (acc_e (contains_bad k args _ _ _ (hlk _ (by assumption)) (hin _ (by assumption))) (by assumption)).mono ?_; rintro e w' ⟨rfl, hb⟩))
      go_ret
      exact ⟨rfl, below_box (below_box ‹_›)⟩
    · skip
      cases c3 : decide (32 < width)
      rotate_left
      · have e : shaped k ⟨op, width, flags, args, imm⟩ = false := by simp only [shaped, c1, c2, c3]; simp
        rw [e]
        clear e
        go_enter Try.func46, Try.ntmps46
        go_wp2_with fail
        have h00 := Since.refl ((w.alloc (.cells #[.int .i64 k] 3)).alloc (.cells #[.int .i64 op, .int .i64 width, .int .i64 flags, .slice a args.length c, .int .u32 imm] 47))
        have l0 : ∀ wk, Since ((w.alloc (.cells #[.int .i64 k] 3)).alloc (.cells #[.int .i64 op, .int .i64 width, .int .i64 flags, .slice a args.length c, .int .u32 imm] 47)) wk → wk.cell? ⟨w.heap.size, 0, none⟩ = some (.int .i64 k) := fun wk h => by rw [(bcell (show Below _ _ _ from h)).1 _ _ (by simp; try omega)]; simp [go_sem]
        have l1 : ∀ wk, Since ((w.alloc (.cells #[.int .i64 k] 3)).alloc (.cells #[.int .i64 op, .int .i64 width, .int .i64 flags, .slice a args.length c, .int .u32 imm] 47)) wk → wk.cell? ⟨w.heap.size + 1, 0, none⟩ = some (.int .i64 op) := fun wk h => by rw [(bcell (show Below _ _ _ from h)).1 _ _ (by simp; try omega)]; simp [go_sem]
        have l2 : ∀ wk, Since ((w.alloc (.cells #[.int .i64 k] 3)).alloc (.cells #[.int .i64 op, .int .i64 width, .int .i64 flags, .slice a args.length c, .int .u32 imm] 47)) wk → wk.cell? ⟨w.heap.size + 1, 1, none⟩ = some (.int .i64 width) := fun wk h => by rw [(bcell (show Below _ _ _ from h)).1 _ _ (by simp; try omega)]; simp [go_sem]
        have l3 : ∀ wk, Since ((w.alloc (.cells #[.int .i64 k] 3)).alloc (.cells #[.int .i64 op, .int .i64 width, .int .i64 flags, .slice a args.length c, .int .u32 imm] 47)) wk → wk.cell? ⟨w.heap.size + 1, 2, none⟩ = some (.int .i64 flags) := fun wk h => by rw [(bcell (show Below _ _ _ from h)).1 _ _ (by simp; try omega)]; simp [go_sem]
        have l4 : ∀ wk, Since ((w.alloc (.cells #[.int .i64 k] 3)).alloc (.cells #[.int .i64 op, .int .i64 width, .int .i64 flags, .slice a args.length c, .int .u32 imm] 47)) wk → wk.cell? ⟨w.heap.size + 1, 3, none⟩ = some (.slice a args.length c) := fun wk h => by rw [(bcell (show Below _ _ _ from h)).1 _ _ (by simp; try omega)]; simp [go_sem]
        have l5 : ∀ wk, Since ((w.alloc (.cells #[.int .i64 k] 3)).alloc (.cells #[.int .i64 op, .int .i64 width, .int .i64 flags, .slice a args.length c, .int .u32 imm] 47)) wk → wk.cell? ⟨w.heap.size + 1, 4, none⟩ = some (.int .u32 imm) := fun wk h => by rw [(bcell (show Below _ _ _ from h)).1 _ _ (by simp; try omega)]; simp [go_sem]
        have hlk : ∀ wk, Since ((w.alloc (.cells #[.int .i64 k] 3)).alloc (.cells #[.int .i64 op, .int .i64 width, .int .i64 flags, .slice a args.length c, .int .u32 imm] 47)) wk → wk.cell? ⟨w.heap.size, 0, none⟩ = some (.int .i64 k) := l0
        have hin : ∀ wk, Since ((w.alloc (.cells #[.int .i64 k] 3)).alloc (.cells #[.int .i64 op, .int .i64 width, .int .i64 flags, .slice a args.length c, .int .u32 imm] 47)) wk → Ints .i64 wk (.slice a args.length c) args := fun wk h => HV.out.stays (below_box (below_box h))
        go_wp2_with (first | (go_at_call 65; refine (arity_yes _ _ (by assumption)).mono ?_; rintro e w' ⟨rfl, rfl⟩) | (go_at_call 65; refine (arity_no _ _ (by assumption)).mono ?_; rintro e w' ⟨rfl, rfl⟩) | (go_at_call 73; refine (acc_p (isImm_any ⟨op, width, flags, args, imm⟩ _ _ ⟨_, _, _, rfl⟩ i1 i2) (by assumption)).mono ?_; rintro e w' ⟨rfl, hb⟩) | (go_at_call 74; refine (acc_e (contains_bad k args _ _ _ (hlk _ (by assumption)) (hin _ (by assumption))) (by assumption)).mono ?_; rintro e w' ⟨rfl, hb⟩))
        go_ret
        exact ⟨rfl, below_box (below_box ‹_›)⟩
      · skip
        cases c4 : (flags != 0)
        rotate_left
        · have e : shaped k ⟨op, width, flags, args, imm⟩ = false := by simp only [shaped, c1, c2, c3, c4]; simp
          rw [e]
          clear e
          go_enter Try.func46, Try.ntmps46
          go_wp2_with fail
          have h00 := Since.refl ((w.alloc (.cells #[.int .i64 k] 3)).alloc (.cells #[.int .i64 op, .int .i64 width, .int .i64 flags, .slice a args.length c, .int .u32 imm] 47))
          have l0 : ∀ wk, Since ((w.alloc (.cells #[.int .i64 k] 3)).alloc (.cells #[.int .i64 op, .int .i64 width, .int .i64 flags, .slice a args.length c, .int .u32 imm] 47)) wk → wk.cell? ⟨w.heap.size, 0, none⟩ = some (.int .i64 k) := fun wk h => by rw [(bcell (show Below _ _ _ from h)).1 _ _ (by simp; try omega)]; simp [go_sem]
          have l1 : ∀ wk, Since ((w.alloc (.cells #[.int .i64 k] 3)).alloc (.cells #[.int .i64 op, .int .i64 width, .int .i64 flags, .slice a args.length c, .int .u32 imm] 47)) wk → wk.cell? ⟨w.heap.size + 1, 0, none⟩ = some (.int .i64 op) := fun wk h => by rw [(bcell (show Below _ _ _ from h)).1 _ _ (by simp; try omega)]; simp [go_sem]
          have l2 : ∀ wk, Since ((w.alloc (.cells #[.int .i64 k] 3)).alloc (.cells #[.int .i64 op, .int .i64 width, .int .i64 flags, .slice a args.length c, .int .u32 imm] 47)) wk → wk.cell? ⟨w.heap.size + 1, 1, none⟩ = some (.int .i64 width) := fun wk h => by rw [(bcell (show Below _ _ _ from h)).1 _ _ (by simp; try omega)]; simp [go_sem]
          have l3 : ∀ wk, Since ((w.alloc (.cells #[.int .i64 k] 3)).alloc (.cells #[.int .i64 op, .int .i64 width, .int .i64 flags, .slice a args.length c, .int .u32 imm] 47)) wk → wk.cell? ⟨w.heap.size + 1, 2, none⟩ = some (.int .i64 flags) := fun wk h => by rw [(bcell (show Below _ _ _ from h)).1 _ _ (by simp; try omega)]; simp [go_sem]
          have l4 : ∀ wk, Since ((w.alloc (.cells #[.int .i64 k] 3)).alloc (.cells #[.int .i64 op, .int .i64 width, .int .i64 flags, .slice a args.length c, .int .u32 imm] 47)) wk → wk.cell? ⟨w.heap.size + 1, 3, none⟩ = some (.slice a args.length c) := fun wk h => by rw [(bcell (show Below _ _ _ from h)).1 _ _ (by simp; try omega)]; simp [go_sem]
          have l5 : ∀ wk, Since ((w.alloc (.cells #[.int .i64 k] 3)).alloc (.cells #[.int .i64 op, .int .i64 width, .int .i64 flags, .slice a args.length c, .int .u32 imm] 47)) wk → wk.cell? ⟨w.heap.size + 1, 4, none⟩ = some (.int .u32 imm) := fun wk h => by rw [(bcell (show Below _ _ _ from h)).1 _ _ (by simp; try omega)]; simp [go_sem]
          have hlk : ∀ wk, Since ((w.alloc (.cells #[.int .i64 k] 3)).alloc (.cells #[.int .i64 op, .int .i64 width, .int .i64 flags, .slice a args.length c, .int .u32 imm] 47)) wk → wk.cell? ⟨w.heap.size, 0, none⟩ = some (.int .i64 k) := l0
          have hin : ∀ wk, Since ((w.alloc (.cells #[.int .i64 k] 3)).alloc (.cells #[.int .i64 op, .int .i64 width, .int .i64 flags, .slice a args.length c, .int .u32 imm] 47)) wk → Ints .i64 wk (.slice a args.length c) args := fun wk h => HV.out.stays (below_box (below_box h))
          go_wp2_with (first | (go_at_call 65; refine (arity_yes _ _ (by assumption)).mono ?_; rintro e w' ⟨rfl, rfl⟩) | (go_at_call 65; refine (arity_no _ _ (by assumption)).mono ?_; rintro e w' ⟨rfl, rfl⟩) | (go_at_call 73; refine (acc_p (isImm_any ⟨op, width, flags, args, imm⟩ _ _ ⟨_, _, _, rfl⟩ i1 i2) (by assumption)).mono ?_; rintro e w' ⟨rfl, hb⟩) | (go_at_call 74; refine (acc_e (contains_bad k args _ _ _ (hlk _ (by assumption)) (hin _ (by assumption))) (by assumption)).mono ?_; rintro e w' ⟨rfl, hb⟩))
          go_ret
          exact ⟨rfl, below_box (below_box ‹_›)⟩
        · skip
          cases c5 : ((args.length : Int) != arV op)
          rotate_left
          · have e : shaped k ⟨op, width, flags, args, imm⟩ = false := by simp only [shaped, c1, c2, c3, c4, c5]; simp
            rw [e]
            clear e
            go_enter Try.func46, Try.ntmps46
            go_wp2_with fail
            have h00 := Since.refl ((w.alloc (.cells #[.int .i64 k] 3)).alloc (.cells #[.int .i64 op, .int .i64 width, .int .i64 flags, .slice a args.length c, .int .u32 imm] 47))
            have l0 : ∀ wk, Since ((w.alloc (.cells #[.int .i64 k] 3)).alloc (.cells #[.int .i64 op, .int .i64 width, .int .i64 flags, .slice a args.length c, .int .u32 imm] 47)) wk → wk.cell? ⟨w.heap.size, 0, none⟩ = some (.int .i64 k) := fun wk h => by rw [(bcell (show Below _ _ _ from h)).1 _ _ (by simp; try omega)]; simp [go_sem]
            have l1 : ∀ wk, Since ((w.alloc (.cells #[.int .i64 k] 3)).alloc (.cells #[.int .i64 op, .int .i64 width, .int .i64 flags, .slice a args.length c, .int .u32 imm] 47)) wk → wk.cell? ⟨w.heap.size + 1, 0, none⟩ = some (.int .i64 op) := fun wk h => by rw [(bcell (show Below _ _ _ from h)).1 _ _ (by simp; try omega)]; simp [go_sem]
            have l2 : ∀ wk, Since ((w.alloc (.cells #[.int .i64 k] 3)).alloc (.cells #[.int .i64 op, .int .i64 width, .int .i64 flags, .slice a args.length c, .int .u32 imm] 47)) wk → wk.cell? ⟨w.heap.size + 1, 1, none⟩ = some (.int .i64 width) := fun wk h => by rw [(bcell (show Below _ _ _ from h)).1 _ _ (by simp; try omega)]; simp [go_sem]
            have l3 : ∀ wk, Since ((w.alloc (.cells #[.int .i64 k] 3)).alloc (.cells #[.int .i64 op, .int .i64 width, .int .i64 flags, .slice a args.length c, .int .u32 imm] 47)) wk → wk.cell? ⟨w.heap.size + 1, 2, none⟩ = some (.int .i64 flags) := fun wk h => by rw [(bcell (show Below _ _ _ from h)).1 _ _ (by simp; try omega)]; simp [go_sem]
            have l4 : ∀ wk, Since ((w.alloc (.cells #[.int .i64 k] 3)).alloc (.cells #[.int .i64 op, .int .i64 width, .int .i64 flags, .slice a args.length c, .int .u32 imm] 47)) wk → wk.cell? ⟨w.heap.size + 1, 3, none⟩ = some (.slice a args.length c) := fun wk h => by rw [(bcell (show Below _ _ _ from h)).1 _ _ (by simp; try omega)]; simp [go_sem]
            have l5 : ∀ wk, Since ((w.alloc (.cells #[.int .i64 k] 3)).alloc (.cells #[.int .i64 op, .int .i64 width, .int .i64 flags, .slice a args.length c, .int .u32 imm] 47)) wk → wk.cell? ⟨w.heap.size + 1, 4, none⟩ = some (.int .u32 imm) := fun wk h => by rw [(bcell (show Below _ _ _ from h)).1 _ _ (by simp; try omega)]; simp [go_sem]
            have hlk : ∀ wk, Since ((w.alloc (.cells #[.int .i64 k] 3)).alloc (.cells #[.int .i64 op, .int .i64 width, .int .i64 flags, .slice a args.length c, .int .u32 imm] 47)) wk → wk.cell? ⟨w.heap.size, 0, none⟩ = some (.int .i64 k) := l0
            have hin : ∀ wk, Since ((w.alloc (.cells #[.int .i64 k] 3)).alloc (.cells #[.int .i64 op, .int .i64 width, .int .i64 flags, .slice a args.length c, .int .u32 imm] 47)) wk → Ints .i64 wk (.slice a args.length c) args := fun wk h => HV.out.stays (below_box (below_box h))
            go_wp2_with (first | (go_at_call 65; refine (arity_yes _ _ (by assumption)).mono ?_; rintro e w' ⟨rfl, rfl⟩) | (go_at_call 65; refine (arity_no _ _ (by assumption)).mono ?_; rintro e w' ⟨rfl, rfl⟩) | (go_at_call 73; refine (acc_p (isImm_any ⟨op, width, flags, args, imm⟩ _ _ ⟨_, _, _, rfl⟩ i1 i2) (by assumption)).mono ?_; rintro e w' ⟨rfl, hb⟩) | (go_at_call 74; refine (acc_e (contains_bad k args _ _ _ (hlk _ (by assumption)) (hin _ (by assumption))) (by assumption)).mono ?_; rintro e w' ⟨rfl, hb⟩))
            go_ret
            exact ⟨rfl, below_box (below_box ‹_›)⟩
          · skip
            cases c6 : immOk ⟨op, width, flags, args, imm⟩
            · have e : shaped k ⟨op, width, flags, args, imm⟩ = false := by simp only [shaped, c1, c2, c3, c4, c5, c6]; simp
              rw [e]
              clear e
              go_enter Try.func46, Try.ntmps46
              go_wp2_with fail
              have h00 := Since.refl ((w.alloc (.cells #[.int .i64 k] 3)).alloc (.cells #[.int .i64 op, .int .i64 width, .int .i64 flags, .slice a args.length c, .int .u32 imm] 47))
              have l0 : ∀ wk, Since ((w.alloc (.cells #[.int .i64 k] 3)).alloc (.cells #[.int .i64 op, .int .i64 width, .int .i64 flags, .slice a args.length c, .int .u32 imm] 47)) wk → wk.cell? ⟨w.heap.size, 0, none⟩ = some (.int .i64 k) := fun wk h => by rw [(bcell (show Below _ _ _ from h)).1 _ _ (by simp; try omega)]; simp [go_sem]
              have l1 : ∀ wk, Since ((w.alloc (.cells #[.int .i64 k] 3)).alloc (.cells #[.int .i64 op, .int .i64 width, .int .i64 flags, .slice a args.length c, .int .u32 imm] 47)) wk → wk.cell? ⟨w.heap.size + 1, 0, none⟩ = some (.int .i64 op) := fun wk h => by rw [(bcell (show Below _ _ _ from h)).1 _ _ (by simp; try omega)]; simp [go_sem]
              have l2 : ∀ wk, Since ((w.alloc (.cells #[.int .i64 k] 3)).alloc (.cells #[.int .i64 op, .int .i64 width, .int .i64 flags, .slice a args.length c, .int .u32 imm] 47)) wk → wk.cell? ⟨w.heap.size + 1, 1, none⟩ = some (.int .i64 width) := fun wk h => by rw [(bcell (show Below _ _ _ from h)).1 _ _ (by simp; try omega)]; simp [go_sem]
              have l3 : ∀ wk, Since ((w.alloc (.cells #[.int .i64 k] 3)).alloc (.cells #[.int .i64 op, .int .i64 width, .int .i64 flags, .slice a args.length c, .int .u32 imm] 47)) wk → wk.cell? ⟨w.heap.size + 1, 2, none⟩ = some (.int .i64 flags) := fun wk h => by rw [(bcell (show Below _ _ _ from h)).1 _ _ (by simp; try omega)]; simp [go_sem]
              have l4 : ∀ wk, Since ((w.alloc (.cells #[.int .i64 k] 3)).alloc (.cells #[.int .i64 op, .int .i64 width, .int .i64 flags, .slice a args.length c, .int .u32 imm] 47)) wk → wk.cell? ⟨w.heap.size + 1, 3, none⟩ = some (.slice a args.length c) := fun wk h => by rw [(bcell (show Below _ _ _ from h)).1 _ _ (by simp; try omega)]; simp [go_sem]
              have l5 : ∀ wk, Since ((w.alloc (.cells #[.int .i64 k] 3)).alloc (.cells #[.int .i64 op, .int .i64 width, .int .i64 flags, .slice a args.length c, .int .u32 imm] 47)) wk → wk.cell? ⟨w.heap.size + 1, 4, none⟩ = some (.int .u32 imm) := fun wk h => by rw [(bcell (show Below _ _ _ from h)).1 _ _ (by simp; try omega)]; simp [go_sem]
              have hlk : ∀ wk, Since ((w.alloc (.cells #[.int .i64 k] 3)).alloc (.cells #[.int .i64 op, .int .i64 width, .int .i64 flags, .slice a args.length c, .int .u32 imm] 47)) wk → wk.cell? ⟨w.heap.size, 0, none⟩ = some (.int .i64 k) := l0
              have hin : ∀ wk, Since ((w.alloc (.cells #[.int .i64 k] 3)).alloc (.cells #[.int .i64 op, .int .i64 width, .int .i64 flags, .slice a args.length c, .int .u32 imm] 47)) wk → Ints .i64 wk (.slice a args.length c) args := fun wk h => HV.out.stays (below_box (below_box h))
              go_wp2_with (first | (go_at_call 65; refine (arity_yes _ _ (by assumption)).mono ?_; rintro e w' ⟨rfl, rfl⟩) | (go_at_call 65; refine (arity_no _ _ (by assumption)).mono ?_; rintro e w' ⟨rfl, rfl⟩) | (go_at_call 73; refine (acc_p (isImm_any ⟨op, width, flags, args, imm⟩ _ _ ⟨_, _, _, rfl⟩ i1 i2) (by assumption)).mono ?_; rintro e w' ⟨rfl, hb⟩) | (go_at_call 74; refine (acc_e (contains_bad k args _ _ _ (hlk _ (by assumption)) (hin _ (by assumption))) (by assumption)).mono ?_; rintro e w' ⟨rfl, hb⟩))
              go_ret
              exact ⟨rfl, below_box (below_box ‹_›)⟩
            · skip
              cases c7 : (op == 14)
              · have e : shaped k ⟨op, width, flags, args, imm⟩ = !(args.any (bad k)) := by simp only [shaped, c1, c2, c3, c4, c5, c6, c7]; simp
                rw [e]
                clear e
                go_enter Try.func46, Try.ntmps46
                go_wp2_with fail
                have h00 := Since.refl ((w.alloc (.cells #[.int .i64 k] 3)).alloc (.cells #[.int .i64 op, .int .i64 width, .int .i64 flags, .slice a args.length c, .int .u32 imm] 47))
                have l0 : ∀ wk, Since ((w.alloc (.cells #[.int .i64 k] 3)).alloc (.cells #[.int .i64 op, .int .i64 width, .int .i64 flags, .slice a args.length c, .int .u32 imm] 47)) wk → wk.cell? ⟨w.heap.size, 0, none⟩ = some (.int .i64 k) := fun wk h => by rw [(bcell (show Below _ _ _ from h)).1 _ _ (by simp; try omega)]; simp [go_sem]
                have l1 : ∀ wk, Since ((w.alloc (.cells #[.int .i64 k] 3)).alloc (.cells #[.int .i64 op, .int .i64 width, .int .i64 flags, .slice a args.length c, .int .u32 imm] 47)) wk → wk.cell? ⟨w.heap.size + 1, 0, none⟩ = some (.int .i64 op) := fun wk h => by rw [(bcell (show Below _ _ _ from h)).1 _ _ (by simp; try omega)]; simp [go_sem]
                have l2 : ∀ wk, Since ((w.alloc (.cells #[.int .i64 k] 3)).alloc (.cells #[.int .i64 op, .int .i64 width, .int .i64 flags, .slice a args.length c, .int .u32 imm] 47)) wk → wk.cell? ⟨w.heap.size + 1, 1, none⟩ = some (.int .i64 width) := fun wk h => by rw [(bcell (show Below _ _ _ from h)).1 _ _ (by simp; try omega)]; simp [go_sem]
                have l3 : ∀ wk, Since ((w.alloc (.cells #[.int .i64 k] 3)).alloc (.cells #[.int .i64 op, .int .i64 width, .int .i64 flags, .slice a args.length c, .int .u32 imm] 47)) wk → wk.cell? ⟨w.heap.size + 1, 2, none⟩ = some (.int .i64 flags) := fun wk h => by rw [(bcell (show Below _ _ _ from h)).1 _ _ (by simp; try omega)]; simp [go_sem]
                have l4 : ∀ wk, Since ((w.alloc (.cells #[.int .i64 k] 3)).alloc (.cells #[.int .i64 op, .int .i64 width, .int .i64 flags, .slice a args.length c, .int .u32 imm] 47)) wk → wk.cell? ⟨w.heap.size + 1, 3, none⟩ = some (.slice a args.length c) := fun wk h => by rw [(bcell (show Below _ _ _ from h)).1 _ _ (by simp; try omega)]; simp [go_sem]
                have l5 : ∀ wk, Since ((w.alloc (.cells #[.int .i64 k] 3)).alloc (.cells #[.int .i64 op, .int .i64 width, .int .i64 flags, .slice a args.length c, .int .u32 imm] 47)) wk → wk.cell? ⟨w.heap.size + 1, 4, none⟩ = some (.int .u32 imm) := fun wk h => by rw [(bcell (show Below _ _ _ from h)).1 _ _ (by simp; try omega)]; simp [go_sem]
                have hlk : ∀ wk, Since ((w.alloc (.cells #[.int .i64 k] 3)).alloc (.cells #[.int .i64 op, .int .i64 width, .int .i64 flags, .slice a args.length c, .int .u32 imm] 47)) wk → wk.cell? ⟨w.heap.size, 0, none⟩ = some (.int .i64 k) := l0
                have hin : ∀ wk, Since ((w.alloc (.cells #[.int .i64 k] 3)).alloc (.cells #[.int .i64 op, .int .i64 width, .int .i64 flags, .slice a args.length c, .int .u32 imm] 47)) wk → Ints .i64 wk (.slice a args.length c) args := fun wk h => HV.out.stays (below_box (below_box h))
                go_wp2_with (first | (go_at_call 65; refine (arity_yes _ _ (by assumption)).mono ?_; rintro e w' ⟨rfl, rfl⟩) | (go_at_call 65; refine (arity_no _ _ (by assumption)).mono ?_; rintro e w' ⟨rfl, rfl⟩) | (go_at_call 73; refine (acc_p (isImm_any ⟨op, width, flags, args, imm⟩ _ _ ⟨_, _, _, rfl⟩ i1 i2) (by assumption)).mono ?_; rintro e w' ⟨rfl, hb⟩) | (go_at_call 74; refine (acc_e (contains_bad k args _ _ _ (hlk _ (by assumption)) (hin _ (by assumption))) (by assumption)).mono ?_; rintro e w' ⟨rfl, hb⟩))
                go_ret
                exact ⟨rfl, below_box (below_box ‹_›)⟩
              · cases c8 : (width != 1)
                · have e : shaped k ⟨op, width, flags, args, imm⟩ = !(args.any (bad k)) := by simp only [shaped, c1, c2, c3, c4, c5, c6, c7, c8]; simp
                  rw [e]
                  clear e
                  go_enter Try.func46, Try.ntmps46
                  go_wp2_with fail
                  have h00 := Since.refl ((w.alloc (.cells #[.int .i64 k] 3)).alloc (.cells #[.int .i64 op, .int .i64 width, .int .i64 flags, .slice a args.length c, .int .u32 imm] 47))
                  have l0 : ∀ wk, Since ((w.alloc (.cells #[.int .i64 k] 3)).alloc (.cells #[.int .i64 op, .int .i64 width, .int .i64 flags, .slice a args.length c, .int .u32 imm] 47)) wk → wk.cell? ⟨w.heap.size, 0, none⟩ = some (.int .i64 k) := fun wk h => by rw [(bcell (show Below _ _ _ from h)).1 _ _ (by simp; try omega)]; simp [go_sem]
                  have l1 : ∀ wk, Since ((w.alloc (.cells #[.int .i64 k] 3)).alloc (.cells #[.int .i64 op, .int .i64 width, .int .i64 flags, .slice a args.length c, .int .u32 imm] 47)) wk → wk.cell? ⟨w.heap.size + 1, 0, none⟩ = some (.int .i64 op) := fun wk h => by rw [(bcell (show Below _ _ _ from h)).1 _ _ (by simp; try omega)]; simp [go_sem]
                  have l2 : ∀ wk, Since ((w.alloc (.cells #[.int .i64 k] 3)).alloc (.cells #[.int .i64 op, .int .i64 width, .int .i64 flags, .slice a args.length c, .int .u32 imm] 47)) wk → wk.cell? ⟨w.heap.size + 1, 1, none⟩ = some (.int .i64 width) := fun wk h => by rw [(bcell (show Below _ _ _ from h)).1 _ _ (by simp; try omega)]; simp [go_sem]
                  have l3 : ∀ wk, Since ((w.alloc (.cells #[.int .i64 k] 3)).alloc (.cells #[.int .i64 op, .int .i64 width, .int .i64 flags, .slice a args.length c, .int .u32 imm] 47)) wk → wk.cell? ⟨w.heap.size + 1, 2, none⟩ = some (.int .i64 flags) := fun wk h => by rw [(bcell (show Below _ _ _ from h)).1 _ _ (by simp; try omega)]; simp [go_sem]
                  have l4 : ∀ wk, Since ((w.alloc (.cells #[.int .i64 k] 3)).alloc (.cells #[.int .i64 op, .int .i64 width, .int .i64 flags, .slice a args.length c, .int .u32 imm] 47)) wk → wk.cell? ⟨w.heap.size + 1, 3, none⟩ = some (.slice a args.length c) := fun wk h => by rw [(bcell (show Below _ _ _ from h)).1 _ _ (by simp; try omega)]; simp [go_sem]
                  have l5 : ∀ wk, Since ((w.alloc (.cells #[.int .i64 k] 3)).alloc (.cells #[.int .i64 op, .int .i64 width, .int .i64 flags, .slice a args.length c, .int .u32 imm] 47)) wk → wk.cell? ⟨w.heap.size + 1, 4, none⟩ = some (.int .u32 imm) := fun wk h => by rw [(bcell (show Below _ _ _ from h)).1 _ _ (by simp; try omega)]; simp [go_sem]
                  have hlk : ∀ wk, Since ((w.alloc (.cells #[.int .i64 k] 3)).alloc (.cells #[.int .i64 op, .int .i64 width, .int .i64 flags, .slice a args.length c, .int .u32 imm] 47)) wk → wk.cell? ⟨w.heap.size, 0, none⟩ = some (.int .i64 k) := l0
                  have hin : ∀ wk, Since ((w.alloc (.cells #[.int .i64 k] 3)).alloc (.cells #[.int .i64 op, .int .i64 width, .int .i64 flags, .slice a args.length c, .int .u32 imm] 47)) wk → Ints .i64 wk (.slice a args.length c) args := fun wk h => HV.out.stays (below_box (below_box h))
                  go_wp2_with (first | (go_at_call 65; refine (arity_yes _ _ (by assumption)).mono ?_; rintro e w' ⟨rfl, rfl⟩) | (go_at_call 65; refine (arity_no _ _ (by assumption)).mono ?_; rintro e w' ⟨rfl, rfl⟩) | (go_at_call 73; refine (acc_p (isImm_any ⟨op, width, flags, args, imm⟩ _ _ ⟨_, _, _, rfl⟩ i1 i2) (by assumption)).mono ?_; rintro e w' ⟨rfl, hb⟩) | (go_at_call 74; refine (acc_e (contains_bad k args _ _ _ (hlk _ (by assumption)) (hin _ (by assumption))) (by assumption)).mono ?_; rintro e w' ⟨rfl, hb⟩))
                  go_ret
                  exact ⟨rfl, below_box (below_box ‹_›)⟩
                · have e : shaped k ⟨op, width, flags, args, imm⟩ = false := by simp only [shaped, c1, c2, c3, c4, c5, c6, c7, c8]; simp
                  rw [e]
                  clear e
                  go_enter Try.func46, Try.ntmps46
                  go_wp2_with fail
                  have h00 := Since.refl ((w.alloc (.cells #[.int .i64 k] 3)).alloc (.cells #[.int .i64 op, .int .i64 width, .int .i64 flags, .slice a args.length c, .int .u32 imm] 47))
                  have l0 : ∀ wk, Since ((w.alloc (.cells #[.int .i64 k] 3)).alloc (.cells #[.int .i64 op, .int .i64 width, .int .i64 flags, .slice a args.length c, .int .u32 imm] 47)) wk → wk.cell? ⟨w.heap.size, 0, none⟩ = some (.int .i64 k) := fun wk h => by rw [(bcell (show Below _ _ _ from h)).1 _ _ (by simp; try omega)]; simp [go_sem]
                  have l1 : ∀ wk, Since ((w.alloc (.cells #[.int .i64 k] 3)).alloc (.cells #[.int .i64 op, .int .i64 width, .int .i64 flags, .slice a args.length c, .int .u32 imm] 47)) wk → wk.cell? ⟨w.heap.size + 1, 0, none⟩ = some (.int .i64 op) := fun wk h => by rw [(bcell (show Below _ _ _ from h)).1 _ _ (by simp; try omega)]; simp [go_sem]
                  have l2 : ∀ wk, Since ((w.alloc (.cells #[.int .i64 k] 3)).alloc (.cells #[.int .i64 op, .int .i64 width, .int .i64 flags, .slice a args.length c, .int .u32 imm] 47)) wk → wk.cell? ⟨w.heap.size + 1, 1, none⟩ = some (.int .i64 width) := fun wk h => by rw [(bcell (show Below _ _ _ from h)).1 _ _ (by simp; try omega)]; simp [go_sem]
                  have l3 : ∀ wk, Since ((w.alloc (.cells #[.int .i64 k] 3)).alloc (.cells #[.int .i64 op, .int .i64 width, .int .i64 flags, .slice a args.length c, .int .u32 imm] 47)) wk → wk.cell? ⟨w.heap.size + 1, 2, none⟩ = some (.int .i64 flags) := fun wk h => by rw [(bcell (show Below _ _ _ from h)).1 _ _ (by simp; try omega)]; simp [go_sem]
                  have l4 : ∀ wk, Since ((w.alloc (.cells #[.int .i64 k] 3)).alloc (.cells #[.int .i64 op, .int .i64 width, .int .i64 flags, .slice a args.length c, .int .u32 imm] 47)) wk → wk.cell? ⟨w.heap.size + 1, 3, none⟩ = some (.slice a args.length c) := fun wk h => by rw [(bcell (show Below _ _ _ from h)).1 _ _ (by simp; try omega)]; simp [go_sem]
                  have l5 : ∀ wk, Since ((w.alloc (.cells #[.int .i64 k] 3)).alloc (.cells #[.int .i64 op, .int .i64 width, .int .i64 flags, .slice a args.length c, .int .u32 imm] 47)) wk → wk.cell? ⟨w.heap.size + 1, 4, none⟩ = some (.int .u32 imm) := fun wk h => by rw [(bcell (show Below _ _ _ from h)).1 _ _ (by simp; try omega)]; simp [go_sem]
                  have hlk : ∀ wk, Since ((w.alloc (.cells #[.int .i64 k] 3)).alloc (.cells #[.int .i64 op, .int .i64 width, .int .i64 flags, .slice a args.length c, .int .u32 imm] 47)) wk → wk.cell? ⟨w.heap.size, 0, none⟩ = some (.int .i64 k) := l0
                  have hin : ∀ wk, Since ((w.alloc (.cells #[.int .i64 k] 3)).alloc (.cells #[.int .i64 op, .int .i64 width, .int .i64 flags, .slice a args.length c, .int .u32 imm] 47)) wk → Ints .i64 wk (.slice a args.length c) args := fun wk h => HV.out.stays (below_box (below_box h))
                  go_wp2_with (first | (go_at_call 65; refine (arity_yes _ _ (by assumption)).mono ?_; rintro e w' ⟨rfl, rfl⟩) | (go_at_call 65; refine (arity_no _ _ (by assumption)).mono ?_; rintro e w' ⟨rfl, rfl⟩) | (go_at_call 73; refine (acc_p (isImm_any ⟨op, width, flags, args, imm⟩ _ _ ⟨_, _, _, rfl⟩ i1 i2) (by assumption)).mono ?_; rintro e w' ⟨rfl, hb⟩) | (go_at_call 74; refine (acc_e (contains_bad k args _ _ _ (hlk _ (by assumption)) (hin _ (by assumption))) (by assumption)).mono ?_; rintro e w' ⟨rfl, hb⟩))
                  go_ret
                  exact ⟨rfl, below_box (below_box ‹_›)⟩

end Go.Proofs.Ythopdfikikdcbaa
