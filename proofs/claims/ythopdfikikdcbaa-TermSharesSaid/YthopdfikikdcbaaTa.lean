/- Walks of package term: which nodes are right. -/
import Derived.Test.YthopdfikikdcbaaBk
import Derived.Test.YthopdfikikdcbaaNode
namespace Go.Proofs.Ythopdfikikdcbaa
open Go.RowKit Wd
set_option linter.unusedVariables false
set_option linter.unusedSimpArgs false
/-- A node as a value; v: its Args. -/
def Nd.val (x : Nd) (v : Value) : Value := .agg #[.int .i64 x.op, .int .i64 x.width, .int .i64 x.flags, v, .int .u32 x.imm]
/-- The numbers of a node fit their types. -/
structure Nd.Wf (x : Nd) : Prop where
  op : -9223372036854775808 ≤ x.op ∧ x.op ≤ 9223372036854775807
  width : -9223372036854775808 ≤ x.width ∧ x.width ≤ 9223372036854775807
  flags : -9223372036854775808 ≤ x.flags ∧ x.flags ≤ 9223372036854775807
  imm : 0 ≤ x.imm ∧ x.imm ≤ 4294967295
  args : ∀ a ∈ x.args, -9223372036854775808 ≤ a ∧ a ≤ 9223372036854775807
  len : x.args.length ≤ 4611686018427387904
/-- How many Args an operation has; -1 if it is none of terms. -/
def arV (op : Int) : Int := if op = 0 ∨ op = 33 then 0 else if 1 ≤ op ∧ op ≤ 14 then 2 else if op = 15 then 3 else if 16 ≤ op ∧ op ≤ 18 then 1 else -1
def immOk (x : Nd) : Bool :=
  if x.op = 0 then isW x.width && fit x.width x.imm else if x.op = 33 then decide (x.imm < 4) else if x.op = 14 then decide (x.imm ≤ 9) else x.imm == 0

theorem arV_cases (op : Int) : (op = 0 ∨ op = 33) ∧ arV op = 0 ∨ (1 ≤ op ∧ op ≤ 14) ∧ arV op = 2 ∨ op = 15 ∧ arV op = 3 ∨ (16 ≤ op ∧ op ≤ 18) ∧ arV op = 1 ∨ (op < 0 ∨ 18 < op ∧ op < 33 ∨ 33 < op) ∧ arV op = -1 := by
  unfold arV
  repeat' split
  all_goals omega

theorem arity_any (op : Int) (w : World) : Calls Try.prog 65 #[.int .i64 op] w fun e w' => e = .returned (.tuple #[.int .i64 (if arV op = -1 then 0 else arV op), .bool (arV op != -1)]) ∧ w = w' := by
  rcases arV_cases op with ⟨rfl | rfl, e⟩ | ⟨⟨h1, h2⟩, e⟩ | ⟨rfl, e⟩ | ⟨⟨h1, h2⟩, e⟩ | ⟨h, e⟩
  · rw [e]
    clear e
    go_enter Try.func65, Try.ntmps65
    go_wp2
    go_ret2
    exact ⟨rfl, rfl⟩
  · rw [e]
    clear e
    go_enter Try.func65, Try.ntmps65
    go_wp2
    go_ret2
    exact ⟨rfl, rfl⟩
  · rw [e]
    clear e
    have q0 : (op == 0) = false := by simp; omega
    have q1 : (op == 33) = false := by simp; omega
    have q2 : decide (1 ≤ op) = true := by simp; omega
    have q3 : decide (op ≤ 14) = true := by simp; omega
    go_enter Try.func65, Try.ntmps65
    go_wp2
    go_ret2
    exact ⟨rfl, rfl⟩
  · rw [e]
    clear e
    go_enter Try.func65, Try.ntmps65
    go_wp2
    go_ret2
    exact ⟨rfl, rfl⟩
  · rw [e]
    clear e
    have q0 : (op == 0) = false := by simp; omega
    have q1 : (op == 33) = false := by simp; omega
    have q2 : (op == 15) = false := by simp; omega
    have q3 : decide (1 ≤ op) = true := by simp; omega
    have q4 : decide (op ≤ 14) = false := by simp; omega
    have q5 : decide (16 ≤ op) = true := by simp; omega
    have q6 : decide (op ≤ 18) = true := by simp; omega
    go_enter Try.func65, Try.ntmps65
    go_wp2
    go_ret2
    exact ⟨rfl, rfl⟩
  · rcases h with h | ⟨h1, h2⟩ | h
    · rw [e]
      clear e
      have q0 : (op == 0) = false := by simp; omega
      have q1 : (op == 33) = false := by simp; omega
      have q2 : (op == 15) = false := by simp; omega
      have q3 : decide (1 ≤ op) = false := by simp; omega
      have q4 : decide (16 ≤ op) = false := by simp; omega
      go_enter Try.func65, Try.ntmps65
      go_wp2
      go_ret2
      exact ⟨rfl, rfl⟩
    · rw [e]
      clear e
      have q0 : (op == 0) = false := by simp; omega
      have q1 : (op == 33) = false := by simp; omega
      have q2 : (op == 15) = false := by simp; omega
      have q3 : decide (1 ≤ op) = true := by simp; omega
      have q4 : decide (op ≤ 14) = false := by simp; omega
      have q5 : decide (16 ≤ op) = true := by simp; omega
      have q6 : decide (op ≤ 18) = false := by simp; omega
      go_enter Try.func65, Try.ntmps65
      go_wp2
      go_ret2
      exact ⟨rfl, rfl⟩
    · rw [e]
      clear e
      have q0 : (op == 0) = false := by simp; omega
      have q1 : (op == 33) = false := by simp; omega
      have q2 : (op == 15) = false := by simp; omega
      have q3 : decide (1 ≤ op) = true := by simp; omega
      have q4 : decide (op ≤ 14) = false := by simp; omega
      have q5 : decide (16 ≤ op) = true := by simp; omega
      have q6 : decide (op ≤ 18) = false := by simp; omega
      go_enter Try.func65, Try.ntmps65
      go_wp2
      go_ret2
      exact ⟨rfl, rfl⟩

theorem rArity_any (op : Int) (w : World) : Calls Try.prog 68 #[.int .i64 op] w fun e w' => e = .returned (.int .i64 (arV op)) ∧ w = w' := by
  rcases arV_cases op with ⟨rfl | rfl, e⟩ | ⟨⟨h1, h2⟩, e⟩ | ⟨rfl, e⟩ | ⟨⟨h1, h2⟩, e⟩ | ⟨h, e⟩
  · rw [e]
    clear e
    go_enter Try.func68, Try.ntmps68
    go_wp2
    go_ret
    exact ⟨rfl, rfl⟩
  · rw [e]
    clear e
    go_enter Try.func68, Try.ntmps68
    go_wp2
    go_ret
    exact ⟨rfl, rfl⟩
  · rw [e]
    clear e
    have q0 : (op == 0) = false := by simp; omega
    have q1 : (op == 33) = false := by simp; omega
    have q2 : decide (1 ≤ op) = true := by simp; omega
    have q3 : decide (op ≤ 14) = true := by simp; omega
    go_enter Try.func68, Try.ntmps68
    go_wp2
    go_ret
    exact ⟨rfl, rfl⟩
  · rw [e]
    clear e
    go_enter Try.func68, Try.ntmps68
    go_wp2
    go_ret
    exact ⟨rfl, rfl⟩
  · rw [e]
    clear e
    have q0 : (op == 0) = false := by simp; omega
    have q1 : (op == 33) = false := by simp; omega
    have q2 : (op == 15) = false := by simp; omega
    have q3 : decide (1 ≤ op) = true := by simp; omega
    have q4 : decide (op ≤ 14) = false := by simp; omega
    have q5 : decide (16 ≤ op) = true := by simp; omega
    have q6 : decide (op ≤ 18) = true := by simp; omega
    go_enter Try.func68, Try.ntmps68
    go_wp2
    go_ret
    exact ⟨rfl, rfl⟩
  · rcases h with h | ⟨h1, h2⟩ | h
    · rw [e]
      clear e
      have q0 : (op == 0) = false := by simp; omega
      have q1 : (op == 33) = false := by simp; omega
      have q2 : (op == 15) = false := by simp; omega
      have q3 : decide (1 ≤ op) = false := by simp; omega
      have q4 : decide (16 ≤ op) = false := by simp; omega
      go_enter Try.func68, Try.ntmps68
      go_wp2
      go_ret
      exact ⟨rfl, rfl⟩
    · rw [e]
      clear e
      have q0 : (op == 0) = false := by simp; omega
      have q1 : (op == 33) = false := by simp; omega
      have q2 : (op == 15) = false := by simp; omega
      have q3 : decide (1 ≤ op) = true := by simp; omega
      have q4 : decide (op ≤ 14) = false := by simp; omega
      have q5 : decide (16 ≤ op) = true := by simp; omega
      have q6 : decide (op ≤ 18) = false := by simp; omega
      go_enter Try.func68, Try.ntmps68
      go_wp2
      go_ret
      exact ⟨rfl, rfl⟩
    · rw [e]
      clear e
      have q0 : (op == 0) = false := by simp; omega
      have q1 : (op == 33) = false := by simp; omega
      have q2 : (op == 15) = false := by simp; omega
      have q3 : decide (1 ≤ op) = true := by simp; omega
      have q4 : decide (op ≤ 14) = false := by simp; omega
      have q5 : decide (16 ≤ op) = true := by simp; omega
      have q6 : decide (op ≤ 18) = false := by simp; omega
      go_enter Try.func68, Try.ntmps68
      go_wp2
      go_ret
      exact ⟨rfl, rfl⟩

theorem arity_yes (op : Int) (w : World) (h : (arV op != -1) = true) : Calls Try.prog 65 #[.int .i64 op] w fun e w' => e = .returned (.tuple #[.int .i64 (arV op), .bool true]) ∧ w = w' := by
  have h2 : arV op ≠ -1 := by simpa using h
  have := arity_any op w
  rw [if_neg h2, h] at this
  exact this
theorem arity_no (op : Int) (w : World) (h : (arV op != -1) = false) : Calls Try.prog 65 #[.int .i64 op] w fun e w' => e = .returned (.tuple #[.int .i64 0, .bool false]) ∧ w = w' := by
  have h2 : arV op = -1 := by simpa using h
  have := arity_any op w
  rw [if_pos h2, h] at this
  exact this

theorem isImm_any (x : Nd) (v : Value) (w : World) (hv : ∃ a n c, v = .slice a n c) (i1 : 0 ≤ x.imm) (i2 : x.imm ≤ 4294967295) : Calls Try.prog 73 #[.agg #[.int .i64 x.op, .int .i64 x.width, .int .i64 x.flags, v, .int .u32 x.imm]] w fun e w' => e = .returned (.bool (immOk x)) ∧ Below w.heap.size w w' := by
  obtain ⟨a, n, c, rfl⟩ := hv
  obtain ⟨op, width, flags, args, imm⟩ := x
  simp only at i1 i2 ⊢
  by_cases o0 : op = 0
  · subst o0
    cases hw : isW width
    · have e : immOk ⟨0, width, flags, args, imm⟩ = false := by simp [immOk, hw]
      have m1 : mkE width = 1 := by simp [mkE, hw]
      rw [e]
      clear e
      go_enter Try.func73, Try.ntmps73
      go_wp2_with (first | (go_at_call 49; refine (pMask _ _).mono ?_; rintro e w' ⟨rfl, rfl⟩))
      go_ret
      exact ⟨rfl, by repeat (first | with_reducible exact Below.refl _ _ | with_reducible refine Below.drew ?_ | with_reducible refine below_drewN ?_ _ | with_reducible refine Below.alloc ?_ (by simp; try omega) _)⟩
    · have m1 : mkE width = 0 := by simp [mkE, hw]
      have m2 : mkX width = pw width - 1 := by simp [mkX, hw]
      have e : immOk ⟨0, width, flags, args, imm⟩ = decide (imm ≤ pw width - 1) := by
        simp [immOk, hw, fit]; omega
      rw [e]
      clear e
      go_enter Try.func73, Try.ntmps73
      go_wp2_with (first | (go_at_call 49; refine (pMask _ _).mono ?_; rintro e w' ⟨rfl, rfl⟩))
      go_ret
      exact ⟨rfl, by repeat (first | with_reducible exact Below.refl _ _ | with_reducible refine Below.drew ?_ | with_reducible refine below_drewN ?_ _ | with_reducible refine Below.alloc ?_ (by simp; try omega) _)⟩
  · by_cases o1 : op = 33
    · subst o1
      have e : immOk ⟨33, width, flags, args, imm⟩ = decide (imm < 4) := rfl
      rw [e]
      clear e o0
      go_enter Try.func73, Try.ntmps73
      go_wp2_with (first | (go_at_call 49; refine (pMask _ _).mono ?_; rintro e w' ⟨rfl, rfl⟩))
      go_ret
      exact ⟨rfl, by repeat (first | with_reducible exact Below.refl _ _ | with_reducible refine Below.drew ?_ | with_reducible refine below_drewN ?_ _ | with_reducible refine Below.alloc ?_ (by simp; try omega) _)⟩
    · by_cases o2 : op = 14
      · subst o2
        have e : immOk ⟨14, width, flags, args, imm⟩ = decide (imm ≤ 9) := rfl
        rw [e]
        clear e o0 o1
        go_enter Try.func73, Try.ntmps73
        go_wp2_with (first | (go_at_call 49; refine (pMask _ _).mono ?_; rintro e w' ⟨rfl, rfl⟩))
        go_ret
        exact ⟨rfl, by repeat (first | with_reducible exact Below.refl _ _ | with_reducible refine Below.drew ?_ | with_reducible refine below_drewN ?_ _ | with_reducible refine Below.alloc ?_ (by simp; try omega) _)⟩
      · have e : immOk ⟨op, width, flags, args, imm⟩ = (imm == 0) := by simp [immOk, o0, o1, o2]
        have c0 : (op == 0) = false := by simpa using o0
        have c1 : (op == 33) = false := by simpa using o1
        have c2 : (op == 14) = false := by simpa using o2
        rw [e]
        clear e o0 o1 o2
        go_enter Try.func73, Try.ntmps73
        go_wp2_with (first | (go_at_call 49; refine (pMask _ _).mono ?_; rintro e w' ⟨rfl, rfl⟩))
        go_ret
        exact ⟨rfl, by repeat (first | with_reducible exact Below.refl _ _ | with_reducible refine Below.drew ?_ | with_reducible refine below_drewN ?_ _ | with_reducible refine Below.alloc ?_ (by simp; try omega) _)⟩

end Go.Proofs.Ythopdfikikdcbaa
