/- Walks of the closures that tell whether the fields of an instruction are right. -/
import Derived.Deep.AppendLies
import Derived.Deep.Onto
import Derived.Deep.DeepMust
import Derived.Test.YtdojafpjipcbjaaJ2
namespace Go.Proofs.Ytdojafpjipcbjaa
open Go.RowKit
set_option linter.unusedVariables false
set_option linter.unusedSimpArgs false
/-- An instruction as a value. -/
def InsV (x : Ins) : Value := .agg #[.int .i64 x.o, .int .i64 x.d, .int .i64 x.s, .int .i64 x.z, .int .i64 x.i]
/-- Its fields are within the reach of int. -/
def InsI (x : Ins) : Prop := I64 x.o ∧ I64 x.d ∧ I64 x.s ∧ I64 x.z ∧ I64 x.i
theorem within_0 (n : Int) (a b : Int) (w : World) : Calls Try.prog 76 #[.int .i64 n, .int .i64 a, .int .i64 b] w fun e w' => e = .returned (.bool (decide (a ≤ n) && decide (n ≤ b))) ∧ w = w' := within_ia n a b w
theorem fit_pair (o d s z i : Int) (w : World) : Calls Try.prog 111 #[.agg #[.int .i64 o, .int .i64 d, .int .i64 s, .int .i64 z, .int .i64 i]] w fun e w' => e = .returned (.bool ((isR d) && ((isR s) && (i == 0)))) ∧ Below w.heap.size w w' := by
  have HB := Lib.hid ((Below.refl w.heap.size w).alloc (Nat.le_refl _) (.cells #[.int .i64 o, .int .i64 d, .int .i64 s, .int .i64 z, .int .i64 i] 25))
  have C0 := Lib.hid (fun w => isReg_any d w)
  have C1 := Lib.hid (fun w => isReg_any s w)
  cases h0 : (isR d)
  · rw [h0] at C0
    clear h0
    go_enter Try.func111, Try.ntmps111
    go_wp2_with (first | ((go_at_call 75; first | (with_reducible refine (C0.out _).mono ?_) | (with_reducible refine (C1.out _).mono ?_)); rintro e w' ⟨rfl, rfl⟩))
    go_ret
    exact ⟨rfl, HB.out⟩
  · rw [h0] at C0
    clear h0
    cases h1 : (isR s)
    · rw [h1] at C1
      clear h1
      go_enter Try.func111, Try.ntmps111
      go_wp2_with (first | ((go_at_call 75; first | (with_reducible refine (C0.out _).mono ?_) | (with_reducible refine (C1.out _).mono ?_)); rintro e w' ⟨rfl, rfl⟩))
      go_ret
      exact ⟨rfl, HB.out⟩
    · rw [h1] at C1
      clear h1
      go_enter Try.func111, Try.ntmps111
      go_wp2_with (first | ((go_at_call 75; first | (with_reducible refine (C0.out _).mono ?_) | (with_reducible refine (C1.out _).mono ?_)); rintro e w' ⟨rfl, rfl⟩))
      go_ret
      exact ⟨rfl, HB.out⟩
theorem fit_mul (o d s z i : Int) (w : World) : Calls Try.prog 84 #[.agg #[.int .i64 o, .int .i64 d, .int .i64 s, .int .i64 z, .int .i64 i]] w fun e w' => e = .returned (.bool ((isR d) && ((isR s) && (i == 0)))) ∧ Below w.heap.size w w' := by
  have HB := Lib.hid ((Below.refl w.heap.size w).alloc (Nat.le_refl _) (.cells #[.int .i64 o, .int .i64 d, .int .i64 s, .int .i64 z, .int .i64 i] 25))
  have C0 := Lib.hid (fun w => isReg_any d w)
  have C1 := Lib.hid (fun w => isReg_any s w)
  cases h0 : (isR d)
  · rw [h0] at C0
    clear h0
    go_enter Try.func84, Try.ntmps84
    go_wp2_with (first | ((go_at_call 75; first | (with_reducible refine (C0.out _).mono ?_) | (with_reducible refine (C1.out _).mono ?_)); rintro e w' ⟨rfl, rfl⟩))
    go_ret
    exact ⟨rfl, HB.out⟩
  · rw [h0] at C0
    clear h0
    cases h1 : (isR s)
    · rw [h1] at C1
      clear h1
      go_enter Try.func84, Try.ntmps84
      go_wp2_with (first | ((go_at_call 75; first | (with_reducible refine (C0.out _).mono ?_) | (with_reducible refine (C1.out _).mono ?_)); rintro e w' ⟨rfl, rfl⟩))
      go_ret
      exact ⟨rfl, HB.out⟩
    · rw [h1] at C1
      clear h1
      go_enter Try.func84, Try.ntmps84
      go_wp2_with (first | ((go_at_call 75; first | (with_reducible refine (C0.out _).mono ?_) | (with_reducible refine (C1.out _).mono ?_)); rintro e w' ⟨rfl, rfl⟩))
      go_ret
      exact ⟨rfl, HB.out⟩
theorem fit_load (o d s z i : Int) (w : World) : Calls Try.prog 113 #[.agg #[.int .i64 o, .int .i64 d, .int .i64 s, .int .i64 z, .int .i64 i]] w fun e w' => e = .returned (.bool ((isR d) && ((isM s) && (isW4 i)))) ∧ Below w.heap.size w w' := by
  have HB := Lib.hid ((Below.refl w.heap.size w).alloc (Nat.le_refl _) (.cells #[.int .i64 o, .int .i64 d, .int .i64 s, .int .i64 z, .int .i64 i] 25))
  have C0 := Lib.hid (fun w => isReg_any d w)
  have C1 := Lib.hid (fun w => isMemory_any s w)
  have C2 := Lib.hid (fun w => isWide_any i w)
  cases h0 : (isR d)
  · rw [h0] at C0
    clear h0
    go_enter Try.func113, Try.ntmps113
    go_wp2_with (first | ((go_at_call 75; (with_reducible refine (C0.out _).mono ?_)); rintro e w' ⟨rfl, rfl⟩) | ((go_at_call 114; (with_reducible refine (C1.out _).mono ?_)); rintro e w' ⟨rfl, rfl⟩) | ((go_at_call 115; (with_reducible refine (C2.out _).mono ?_)); rintro e w' ⟨rfl, rfl⟩))
    go_ret
    exact ⟨rfl, HB.out⟩
  · rw [h0] at C0
    clear h0
    cases h1 : (isM s)
    · rw [h1] at C1
      clear h1
      go_enter Try.func113, Try.ntmps113
      go_wp2_with (first | ((go_at_call 75; (with_reducible refine (C0.out _).mono ?_)); rintro e w' ⟨rfl, rfl⟩) | ((go_at_call 114; (with_reducible refine (C1.out _).mono ?_)); rintro e w' ⟨rfl, rfl⟩) | ((go_at_call 115; (with_reducible refine (C2.out _).mono ?_)); rintro e w' ⟨rfl, rfl⟩))
      go_ret
      exact ⟨rfl, HB.out⟩
    · rw [h1] at C1
      clear h1
      go_enter Try.func113, Try.ntmps113
      go_wp2_with (first | ((go_at_call 75; (with_reducible refine (C0.out _).mono ?_)); rintro e w' ⟨rfl, rfl⟩) | ((go_at_call 114; (with_reducible refine (C1.out _).mono ?_)); rintro e w' ⟨rfl, rfl⟩) | ((go_at_call 115; (with_reducible refine (C2.out _).mono ?_)); rintro e w' ⟨rfl, rfl⟩))
      go_ret
      exact ⟨rfl, HB.out⟩
theorem fit_single (o d s z i : Int) (w : World) : Calls Try.prog 124 #[.agg #[.int .i64 o, .int .i64 d, .int .i64 s, .int .i64 z, .int .i64 i]] w fun e w' => e = .returned (.bool ((isR d) && ((s == 0) && (i == 0)))) ∧ Below w.heap.size w w' := by
  have HB := Lib.hid ((Below.refl w.heap.size w).alloc (Nat.le_refl _) (.cells #[.int .i64 o, .int .i64 d, .int .i64 s, .int .i64 z, .int .i64 i] 25))
  have C0 := Lib.hid (fun w => isReg_any d w)
  cases h0 : (isR d)
  · rw [h0] at C0
    clear h0
    go_enter Try.func124, Try.ntmps124
    go_wp2_with (first | ((go_at_call 75; (with_reducible refine (C0.out _).mono ?_)); rintro e w' ⟨rfl, rfl⟩))
    go_ret
    exact ⟨rfl, HB.out⟩
  · rw [h0] at C0
    clear h0
    cases h1 : (s == 0)
    · skip
      go_enter Try.func124, Try.ntmps124
      go_wp2_with (first | ((go_at_call 75; (with_reducible refine (C0.out _).mono ?_)); rintro e w' ⟨rfl, rfl⟩))
      go_ret
      exact ⟨rfl, HB.out⟩
    · skip
      go_enter Try.func124, Try.ntmps124
      go_wp2_with (first | ((go_at_call 75; (with_reducible refine (C0.out _).mono ?_)); rintro e w' ⟨rfl, rfl⟩))
      go_ret
      exact ⟨rfl, HB.out⟩
theorem fit_bare (o d s z i : Int) (w : World) : Calls Try.prog 126 #[.agg #[.int .i64 o, .int .i64 d, .int .i64 s, .int .i64 z, .int .i64 i]] w fun e w' => e = .returned (.bool ((d == 0) && ((s == 0) && (i == 0)))) ∧ Below w.heap.size w w' := by
  have HB := Lib.hid ((Below.refl w.heap.size w).alloc (Nat.le_refl _) (.cells #[.int .i64 o, .int .i64 d, .int .i64 s, .int .i64 z, .int .i64 i] 25))
  cases h0 : (d == 0)
  · skip
    go_enter Try.func126, Try.ntmps126
    go_wp2_with fail
    go_ret
    exact ⟨rfl, HB.out⟩
  · skip
    cases h1 : (s == 0)
    · skip
      go_enter Try.func126, Try.ntmps126
      go_wp2_with fail
      go_ret
      exact ⟨rfl, HB.out⟩
    · skip
      go_enter Try.func126, Try.ntmps126
      go_wp2_with fail
      go_ret
      exact ⟨rfl, HB.out⟩
theorem fit_set (o d s z i : Int) (w : World) : Calls Try.prog 89 #[.agg #[.int .i64 o, .int .i64 d, .int .i64 s, .int .i64 z, .int .i64 i]] w fun e w' => e = .returned (.bool ((isL d) && ((isC s) && (i == 0)))) ∧ Below w.heap.size w w' := by
  have HB := Lib.hid ((Below.refl w.heap.size w).alloc (Nat.le_refl _) (.cells #[.int .i64 o, .int .i64 d, .int .i64 s, .int .i64 z, .int .i64 i] 25))
  have C0 := Lib.hid (fun w => isLow_any d w)
  have C1 := Lib.hid (fun w => isCond_any s w)
  cases h0 : (isL d)
  · rw [h0] at C0
    clear h0
    go_enter Try.func89, Try.ntmps89
    go_wp2_with (first | ((go_at_call 82; (with_reducible refine (C0.out _).mono ?_)); rintro e w' ⟨rfl, rfl⟩) | ((go_at_call 32; (with_reducible refine (C1.out _).mono ?_)); rintro e w' ⟨rfl, rfl⟩))
    go_ret
    exact ⟨rfl, HB.out⟩
  · rw [h0] at C0
    clear h0
    cases h1 : (isC s)
    · rw [h1] at C1
      clear h1
      go_enter Try.func89, Try.ntmps89
      go_wp2_with (first | ((go_at_call 82; (with_reducible refine (C0.out _).mono ?_)); rintro e w' ⟨rfl, rfl⟩) | ((go_at_call 32; (with_reducible refine (C1.out _).mono ?_)); rintro e w' ⟨rfl, rfl⟩))
      go_ret
      exact ⟨rfl, HB.out⟩
    · rw [h1] at C1
      clear h1
      go_enter Try.func89, Try.ntmps89
      go_wp2_with (first | ((go_at_call 82; (with_reducible refine (C0.out _).mono ?_)); rintro e w' ⟨rfl, rfl⟩) | ((go_at_call 32; (with_reducible refine (C1.out _).mono ?_)); rintro e w' ⟨rfl, rfl⟩))
      go_ret
      exact ⟨rfl, HB.out⟩
theorem fit_zero (o d s z i : Int) (w : World) : Calls Try.prog 91 #[.agg #[.int .i64 o, .int .i64 d, .int .i64 s, .int .i64 z, .int .i64 i]] w fun e w' => e = .returned (.bool ((isR d) && ((isL s) && (i == 0)))) ∧ Below w.heap.size w w' := by
  have HB := Lib.hid ((Below.refl w.heap.size w).alloc (Nat.le_refl _) (.cells #[.int .i64 o, .int .i64 d, .int .i64 s, .int .i64 z, .int .i64 i] 25))
  have C0 := Lib.hid (fun w => isReg_any d w)
  have C1 := Lib.hid (fun w => isLow_any s w)
  cases h0 : (isR d)
  · rw [h0] at C0
    clear h0
    go_enter Try.func91, Try.ntmps91
    go_wp2_with (first | ((go_at_call 75; (with_reducible refine (C0.out _).mono ?_)); rintro e w' ⟨rfl, rfl⟩) | ((go_at_call 82; (with_reducible refine (C1.out _).mono ?_)); rintro e w' ⟨rfl, rfl⟩))
    go_ret
    exact ⟨rfl, HB.out⟩
  · rw [h0] at C0
    clear h0
    cases h1 : (isL s)
    · rw [h1] at C1
      clear h1
      go_enter Try.func91, Try.ntmps91
      go_wp2_with (first | ((go_at_call 75; (with_reducible refine (C0.out _).mono ?_)); rintro e w' ⟨rfl, rfl⟩) | ((go_at_call 82; (with_reducible refine (C1.out _).mono ?_)); rintro e w' ⟨rfl, rfl⟩))
      go_ret
      exact ⟨rfl, HB.out⟩
    · rw [h1] at C1
      clear h1
      go_enter Try.func91, Try.ntmps91
      go_wp2_with (first | ((go_at_call 75; (with_reducible refine (C0.out _).mono ?_)); rintro e w' ⟨rfl, rfl⟩) | ((go_at_call 82; (with_reducible refine (C1.out _).mono ?_)); rintro e w' ⟨rfl, rfl⟩))
      go_ret
      exact ⟨rfl, HB.out⟩
theorem fit_cmov (o d s z i : Int) (w : World) : Calls Try.prog 93 #[.agg #[.int .i64 o, .int .i64 d, .int .i64 s, .int .i64 z, .int .i64 i]] w fun e w' => e = .returned (.bool ((isR d) && ((isR s) && (isC i)))) ∧ Below w.heap.size w w' := by
  have HB := Lib.hid ((Below.refl w.heap.size w).alloc (Nat.le_refl _) (.cells #[.int .i64 o, .int .i64 d, .int .i64 s, .int .i64 z, .int .i64 i] 25))
  have C0 := Lib.hid (fun w => isReg_any d w)
  have C1 := Lib.hid (fun w => isReg_any s w)
  have C2 := Lib.hid (fun w => isCond_any i w)
  cases h0 : (isR d)
  · rw [h0] at C0
    clear h0
    go_enter Try.func93, Try.ntmps93
    go_wp2_with (first | ((go_at_call 75; first | (with_reducible refine (C0.out _).mono ?_) | (with_reducible refine (C1.out _).mono ?_)); rintro e w' ⟨rfl, rfl⟩) | ((go_at_call 32; (with_reducible refine (C2.out _).mono ?_)); rintro e w' ⟨rfl, rfl⟩))
    go_ret
    exact ⟨rfl, HB.out⟩
  · rw [h0] at C0
    clear h0
    cases h1 : (isR s)
    · rw [h1] at C1
      clear h1
      go_enter Try.func93, Try.ntmps93
      go_wp2_with (first | ((go_at_call 75; first | (with_reducible refine (C0.out _).mono ?_) | (with_reducible refine (C1.out _).mono ?_)); rintro e w' ⟨rfl, rfl⟩) | ((go_at_call 32; (with_reducible refine (C2.out _).mono ?_)); rintro e w' ⟨rfl, rfl⟩))
      go_ret
      exact ⟨rfl, HB.out⟩
    · rw [h1] at C1
      clear h1
      go_enter Try.func93, Try.ntmps93
      go_wp2_with (first | ((go_at_call 75; first | (with_reducible refine (C0.out _).mono ?_) | (with_reducible refine (C1.out _).mono ?_)); rintro e w' ⟨rfl, rfl⟩) | ((go_at_call 32; (with_reducible refine (C2.out _).mono ?_)); rintro e w' ⟨rfl, rfl⟩))
      go_ret
      exact ⟨rfl, HB.out⟩
theorem fit_jcc (o d s z i : Int) (w : World) : Calls Try.prog 98 #[.agg #[.int .i64 o, .int .i64 d, .int .i64 s, .int .i64 z, .int .i64 i]] w fun e w' => e = .returned (.bool (isC s)) ∧ Below w.heap.size w w' := by
  have HB := Lib.hid ((Below.refl w.heap.size w).alloc (Nat.le_refl _) (.cells #[.int .i64 o, .int .i64 d, .int .i64 s, .int .i64 z, .int .i64 i] 25))
  have C0 := Lib.hid (fun w => isCond_any s w)
  go_enter Try.func98, Try.ntmps98
  go_wp2_with (first | ((go_at_call 32; (with_reducible refine (C0.out _).mono ?_)); rintro e w' ⟨rfl, rfl⟩))
  go_ret
  exact ⟨rfl, HB.out⟩
theorem fit_jmp (o d s z i : Int) (w : World) : Calls Try.prog 101 #[.agg #[.int .i64 o, .int .i64 d, .int .i64 s, .int .i64 z, .int .i64 i]] w fun e w' => e = .returned (.bool (s == 0)) ∧ Below w.heap.size w w' := by
  have HB := Lib.hid ((Below.refl w.heap.size w).alloc (Nat.le_refl _) (.cells #[.int .i64 o, .int .i64 d, .int .i64 s, .int .i64 z, .int .i64 i] 25))
  go_enter Try.func101, Try.ntmps101
  go_wp2_with fail
  go_ret
  exact ⟨rfl, HB.out⟩
theorem fit_storeR (o d s z i : Int) (b : Nat) (w : World) (hc : w.cell? ⟨b, 0, none⟩ = some (.func (.func 75) #[] #[])) : Calls Try.prog 119 #[.agg #[.int .i64 o, .int .i64 d, .int .i64 s, .int .i64 z, .int .i64 i], .pointer (some ⟨b, 0, none⟩)] w fun e w' => e = .returned (.bool ((isM d) && ((isR s) && (isW4 i)))) ∧ Below w.heap.size w w' := by
  have HB := Lib.hid ((Below.refl w.heap.size w).alloc (Nat.le_refl _) (.cells #[.int .i64 o, .int .i64 d, .int .i64 s, .int .i64 z, .int .i64 i] 25))
  have C0 := Lib.hid (fun w => isMemory_any d w)
  have C1 := Lib.hid (fun w => isReg_any s w)
  have C2 := Lib.hid (fun w => isWide_any i w)
  have hl := cell_lt hc
  have hn : ¬ b = w.heap.size := by omega
  cases h0 : (isM d)
  · rw [h0] at C0
    clear h0
    go_enter Try.func119, Try.ntmps119
    go_wp2_with (first | ((go_at_call 114; (with_reducible refine (C0.out _).mono ?_)); rintro e w' ⟨rfl, rfl⟩) | ((go_at_call 75; (with_reducible refine (C1.out _).mono ?_)); rintro e w' ⟨rfl, rfl⟩) | ((go_at_call 115; (with_reducible refine (C2.out _).mono ?_)); rintro e w' ⟨rfl, rfl⟩))
    go_ret
    exact ⟨rfl, HB.out⟩
  · rw [h0] at C0
    clear h0
    cases h1 : (isR s)
    · rw [h1] at C1
      clear h1
      go_enter Try.func119, Try.ntmps119
      go_wp2_with (first | ((go_at_call 114; (with_reducible refine (C0.out _).mono ?_)); rintro e w' ⟨rfl, rfl⟩) | ((go_at_call 75; (with_reducible refine (C1.out _).mono ?_)); rintro e w' ⟨rfl, rfl⟩) | ((go_at_call 115; (with_reducible refine (C2.out _).mono ?_)); rintro e w' ⟨rfl, rfl⟩))
      go_ret
      exact ⟨rfl, HB.out⟩
    · rw [h1] at C1
      clear h1
      go_enter Try.func119, Try.ntmps119
      go_wp2_with (first | ((go_at_call 114; (with_reducible refine (C0.out _).mono ?_)); rintro e w' ⟨rfl, rfl⟩) | ((go_at_call 75; (with_reducible refine (C1.out _).mono ?_)); rintro e w' ⟨rfl, rfl⟩) | ((go_at_call 115; (with_reducible refine (C2.out _).mono ?_)); rintro e w' ⟨rfl, rfl⟩))
      go_ret
      exact ⟨rfl, HB.out⟩
theorem fit_storeL (o d s z i : Int) (b : Nat) (w : World) (hc : w.cell? ⟨b, 0, none⟩ = some (.func (.func 82) #[] #[])) : Calls Try.prog 119 #[.agg #[.int .i64 o, .int .i64 d, .int .i64 s, .int .i64 z, .int .i64 i], .pointer (some ⟨b, 0, none⟩)] w fun e w' => e = .returned (.bool ((isM d) && ((isL s) && (isW4 i)))) ∧ Below w.heap.size w w' := by
  have HB := Lib.hid ((Below.refl w.heap.size w).alloc (Nat.le_refl _) (.cells #[.int .i64 o, .int .i64 d, .int .i64 s, .int .i64 z, .int .i64 i] 25))
  have C0 := Lib.hid (fun w => isMemory_any d w)
  have C1 := Lib.hid (fun w => isLow_any s w)
  have C2 := Lib.hid (fun w => isWide_any i w)
  have hl := cell_lt hc
  have hn : ¬ b = w.heap.size := by omega
  cases h0 : (isM d)
  · rw [h0] at C0
    clear h0
    go_enter Try.func119, Try.ntmps119
    go_wp2_with (first | ((go_at_call 114; (with_reducible refine (C0.out _).mono ?_)); rintro e w' ⟨rfl, rfl⟩) | ((go_at_call 82; (with_reducible refine (C1.out _).mono ?_)); rintro e w' ⟨rfl, rfl⟩) | ((go_at_call 115; (with_reducible refine (C2.out _).mono ?_)); rintro e w' ⟨rfl, rfl⟩))
    go_ret
    exact ⟨rfl, HB.out⟩
  · rw [h0] at C0
    clear h0
    cases h1 : (isL s)
    · rw [h1] at C1
      clear h1
      go_enter Try.func119, Try.ntmps119
      go_wp2_with (first | ((go_at_call 114; (with_reducible refine (C0.out _).mono ?_)); rintro e w' ⟨rfl, rfl⟩) | ((go_at_call 82; (with_reducible refine (C1.out _).mono ?_)); rintro e w' ⟨rfl, rfl⟩) | ((go_at_call 115; (with_reducible refine (C2.out _).mono ?_)); rintro e w' ⟨rfl, rfl⟩))
      go_ret
      exact ⟨rfl, HB.out⟩
    · rw [h1] at C1
      clear h1
      go_enter Try.func119, Try.ntmps119
      go_wp2_with (first | ((go_at_call 114; (with_reducible refine (C0.out _).mono ?_)); rintro e w' ⟨rfl, rfl⟩) | ((go_at_call 82; (with_reducible refine (C1.out _).mono ?_)); rintro e w' ⟨rfl, rfl⟩) | ((go_at_call 115; (with_reducible refine (C2.out _).mono ?_)); rintro e w' ⟨rfl, rfl⟩))
      go_ret
      exact ⟨rfl, HB.out⟩
theorem fit_num_32 (o d s i : Int) (w : World) : Calls Try.prog 121 #[.agg #[.int .i64 o, .int .i64 d, .int .i64 s, .int .i64 32, .int .i64 i]] w fun e w' => e = .returned (.bool (isR d && ((s == 0) && inZ i 32))) ∧ Below w.heap.size w w' := by
  have HB := Lib.hid ((Below.refl w.heap.size w).alloc (Nat.le_refl _) (.cells #[.int .i64 o, .int .i64 d, .int .i64 s, .int .i64 32, .int .i64 i] 25))
  have C0 := Lib.hid (fun w => isReg_any d w)
  have C1 : Hid (∀ w, Calls Try.prog 76 #[.int .i64 i, .int .i64 0, .int .i64 4294967295] w fun e w' => e = .returned (.bool (inZ i 32)) ∧ w = w') := fun w => within_ia i 0 4294967295 w
  generalize inZ i 32 = q at *
  cases h0 : isR d
  · rw [h0] at C0
    clear h0
    go_enter Try.func121, Try.ntmps121
    go_wp2_with fail
    go_quiet ((first | (go_at_call 75; exact quiet_same (C0.out _)) | (go_at_call 76; exact quiet_same (C1.out _))))
    go_wp2_with fail
    go_ret
    exact ⟨rfl, below_drewN HB.out _⟩
  · rw [h0] at C0
    clear h0
    cases h1 : (s == 0)
    · go_enter Try.func121, Try.ntmps121
      go_wp2_with fail
      go_quiet ((first | (go_at_call 75; exact quiet_same (C0.out _)) | (go_at_call 76; exact quiet_same (C1.out _))))
      go_wp2_with fail
      go_ret
      exact ⟨rfl, below_drewN HB.out _⟩
    · go_enter Try.func121, Try.ntmps121
      go_wp2_with fail
      go_quiet ((first | (go_at_call 75; exact quiet_same (C0.out _)) | (go_at_call 76; exact quiet_same (C1.out _))))
      go_wp2_with fail
      go_ret
      exact ⟨rfl, below_drewN HB.out _⟩
theorem fit_num_16 (o d s i : Int) (w : World) : Calls Try.prog 121 #[.agg #[.int .i64 o, .int .i64 d, .int .i64 s, .int .i64 16, .int .i64 i]] w fun e w' => e = .returned (.bool (isR d && ((s == 0) && inZ i 16))) ∧ Below w.heap.size w w' := by
  have HB := Lib.hid ((Below.refl w.heap.size w).alloc (Nat.le_refl _) (.cells #[.int .i64 o, .int .i64 d, .int .i64 s, .int .i64 16, .int .i64 i] 25))
  have C0 := Lib.hid (fun w => isReg_any d w)
  have C1 : Hid (∀ w, Calls Try.prog 76 #[.int .i64 i, .int .i64 0, .int .i64 65535] w fun e w' => e = .returned (.bool (inZ i 16)) ∧ w = w') := fun w => within_ia i 0 65535 w
  generalize inZ i 16 = q at *
  cases h0 : isR d
  · rw [h0] at C0
    clear h0
    go_enter Try.func121, Try.ntmps121
    go_wp2_with fail
    go_quiet ((first | (go_at_call 75; exact quiet_same (C0.out _)) | (go_at_call 76; exact quiet_same (C1.out _))))
    go_wp2_with fail
    go_ret
    exact ⟨rfl, below_drewN HB.out _⟩
  · rw [h0] at C0
    clear h0
    cases h1 : (s == 0)
    · go_enter Try.func121, Try.ntmps121
      go_wp2_with fail
      go_quiet ((first | (go_at_call 75; exact quiet_same (C0.out _)) | (go_at_call 76; exact quiet_same (C1.out _))))
      go_wp2_with fail
      go_ret
      exact ⟨rfl, below_drewN HB.out _⟩
    · go_enter Try.func121, Try.ntmps121
      go_wp2_with fail
      go_quiet ((first | (go_at_call 75; exact quiet_same (C0.out _)) | (go_at_call 76; exact quiet_same (C1.out _))))
      go_wp2_with fail
      go_ret
      exact ⟨rfl, below_drewN HB.out _⟩
theorem fit_movi_32 (o d s i : Int) (w : World) : Calls Try.prog 74 #[.agg #[.int .i64 o, .int .i64 d, .int .i64 s, .int .i64 32, .int .i64 i]] w fun e w' => e = .returned (.bool (isR d && ((s == 0) && inZ i 32))) ∧ Below w.heap.size w w' := by
  have HB := Lib.hid ((Below.refl w.heap.size w).alloc (Nat.le_refl _) (.cells #[.int .i64 o, .int .i64 d, .int .i64 s, .int .i64 32, .int .i64 i] 25))
  have C0 := Lib.hid (fun w => isReg_any d w)
  have C1 : Hid (∀ w, Calls Try.prog 76 #[.int .i64 i, .int .i64 0, .int .i64 4294967295] w fun e w' => e = .returned (.bool (inZ i 32)) ∧ w = w') := fun w => within_ia i 0 4294967295 w
  generalize inZ i 32 = q at *
  cases h0 : isR d
  · rw [h0] at C0
    clear h0
    go_enter Try.func74, Try.ntmps74
    go_wp2_with fail
    go_quiet ((first | (go_at_call 75; exact quiet_same (C0.out _)) | (go_at_call 76; exact quiet_same (C1.out _))))
    go_wp2_with fail
    go_ret
    exact ⟨rfl, below_drewN HB.out _⟩
  · rw [h0] at C0
    clear h0
    cases h1 : (s == 0)
    · go_enter Try.func74, Try.ntmps74
      go_wp2_with fail
      go_quiet ((first | (go_at_call 75; exact quiet_same (C0.out _)) | (go_at_call 76; exact quiet_same (C1.out _))))
      go_wp2_with fail
      go_ret
      exact ⟨rfl, below_drewN HB.out _⟩
    · go_enter Try.func74, Try.ntmps74
      go_wp2_with fail
      go_quiet ((first | (go_at_call 75; exact quiet_same (C0.out _)) | (go_at_call 76; exact quiet_same (C1.out _))))
      go_wp2_with fail
      go_ret
      exact ⟨rfl, below_drewN HB.out _⟩
theorem fit_movi_16 (o d s i : Int) (w : World) : Calls Try.prog 74 #[.agg #[.int .i64 o, .int .i64 d, .int .i64 s, .int .i64 16, .int .i64 i]] w fun e w' => e = .returned (.bool (isR d && ((s == 0) && inZ i 16))) ∧ Below w.heap.size w w' := by
  have HB := Lib.hid ((Below.refl w.heap.size w).alloc (Nat.le_refl _) (.cells #[.int .i64 o, .int .i64 d, .int .i64 s, .int .i64 16, .int .i64 i] 25))
  have C0 := Lib.hid (fun w => isReg_any d w)
  have C1 : Hid (∀ w, Calls Try.prog 76 #[.int .i64 i, .int .i64 0, .int .i64 65535] w fun e w' => e = .returned (.bool (inZ i 16)) ∧ w = w') := fun w => within_ia i 0 65535 w
  generalize inZ i 16 = q at *
  cases h0 : isR d
  · rw [h0] at C0
    clear h0
    go_enter Try.func74, Try.ntmps74
    go_wp2_with fail
    go_quiet ((first | (go_at_call 75; exact quiet_same (C0.out _)) | (go_at_call 76; exact quiet_same (C1.out _))))
    go_wp2_with fail
    go_ret
    exact ⟨rfl, below_drewN HB.out _⟩
  · rw [h0] at C0
    clear h0
    cases h1 : (s == 0)
    · go_enter Try.func74, Try.ntmps74
      go_wp2_with fail
      go_quiet ((first | (go_at_call 75; exact quiet_same (C0.out _)) | (go_at_call 76; exact quiet_same (C1.out _))))
      go_wp2_with fail
      go_ret
      exact ⟨rfl, below_drewN HB.out _⟩
    · go_enter Try.func74, Try.ntmps74
      go_wp2_with fail
      go_quiet ((first | (go_at_call 75; exact quiet_same (C0.out _)) | (go_at_call 76; exact quiet_same (C1.out _))))
      go_wp2_with fail
      go_ret
      exact ⟨rfl, below_drewN HB.out _⟩
theorem fit_jumpC_8 (o d s i : Int) (b : Nat) (w : World) (hc : w.cell? ⟨b, 0, none⟩ = some (.func (.func 98) #[] #[])) : Calls Try.prog 128 #[.agg #[.int .i64 o, .int .i64 d, .int .i64 s, .int .i64 8, .int .i64 i], .pointer (some ⟨b, 0, none⟩)] w fun e w' => e = .returned (.bool ((d == 0) && ((isC s) && isB i))) ∧ Below w.heap.size w w' := by
  have hl := cell_lt hc
  have hn : ¬ b = w.heap.size := by omega
  have HB := Lib.hid ((Below.refl w.heap.size w).alloc (Nat.le_refl _) (.cells #[.int .i64 o, .int .i64 d, .int .i64 s, .int .i64 8, .int .i64 i] 25))
  have C0 := Lib.hid (fun w => fit_jcc o d s 8 i w)
  have C1 : Hid (∀ w, Calls Try.prog 76 #[.int .i64 i, .int .i64 (-128), .int .i64 127] w fun e w' => e = .returned (.bool (isB i)) ∧ w = w') := fun w => within_ia i (-128) 127 w
  have C2 := Lib.hid (fun w => isWide_any i w)
  cases h0 : (d == 0)
  · go_enter Try.func128, Try.ntmps128
    go_wp2_with (first | ((go_at_call 98; with_reducible refine (C0.out _).mono ?_); rintro e w1 ⟨rfl, hb⟩; have q3 : w1.cell? ⟨w.heap.size, 3, none⟩ = some (.int .i64 8) := box_kept hb 3; have q4 : w1.cell? ⟨w.heap.size, 4, none⟩ = some (.int .i64 i) := box_kept hb 4) | ((go_at_call 76; with_reducible refine (C1.out _).mono ?_); rintro e w' ⟨rfl, rfl⟩) | ((go_at_call 115; with_reducible refine (C2.out _).mono ?_); rintro e w' ⟨rfl, rfl⟩))
    go_ret
    exact ⟨rfl, HB.out⟩
  · cases h1 : (isC s)
    · rw [h1] at C0
      clear h1
      go_enter Try.func128, Try.ntmps128
      go_wp2_with (first | ((go_at_call 98; with_reducible refine (C0.out _).mono ?_); rintro e w1 ⟨rfl, hb⟩; have q3 : w1.cell? ⟨w.heap.size, 3, none⟩ = some (.int .i64 8) := box_kept hb 3; have q4 : w1.cell? ⟨w.heap.size, 4, none⟩ = some (.int .i64 i) := box_kept hb 4) | ((go_at_call 76; with_reducible refine (C1.out _).mono ?_); rintro e w' ⟨rfl, rfl⟩) | ((go_at_call 115; with_reducible refine (C2.out _).mono ?_); rintro e w' ⟨rfl, rfl⟩))
      go_ret
      exact ⟨rfl, HB.out.trans (hb.mono (by simp))⟩
    · rw [h1] at C0
      clear h1
      cases h2 : isB i
      · rw [h2] at C1
        clear h2
        go_enter Try.func128, Try.ntmps128
        go_wp2_with (first | ((go_at_call 98; with_reducible refine (C0.out _).mono ?_); rintro e w1 ⟨rfl, hb⟩; have q3 : w1.cell? ⟨w.heap.size, 3, none⟩ = some (.int .i64 8) := box_kept hb 3; have q4 : w1.cell? ⟨w.heap.size, 4, none⟩ = some (.int .i64 i) := box_kept hb 4) | ((go_at_call 76; with_reducible refine (C1.out _).mono ?_); rintro e w' ⟨rfl, rfl⟩) | ((go_at_call 115; with_reducible refine (C2.out _).mono ?_); rintro e w' ⟨rfl, rfl⟩))
        go_ret
        exact ⟨rfl, HB.out.trans (hb.mono (by simp))⟩
      · rw [h2] at C1
        clear h2
        go_enter Try.func128, Try.ntmps128
        go_wp2_with (first | ((go_at_call 98; with_reducible refine (C0.out _).mono ?_); rintro e w1 ⟨rfl, hb⟩; have q3 : w1.cell? ⟨w.heap.size, 3, none⟩ = some (.int .i64 8) := box_kept hb 3; have q4 : w1.cell? ⟨w.heap.size, 4, none⟩ = some (.int .i64 i) := box_kept hb 4) | ((go_at_call 76; with_reducible refine (C1.out _).mono ?_); rintro e w' ⟨rfl, rfl⟩) | ((go_at_call 115; with_reducible refine (C2.out _).mono ?_); rintro e w' ⟨rfl, rfl⟩))
        go_ret
        exact ⟨rfl, HB.out.trans (hb.mono (by simp))⟩
theorem fit_jumpC_32 (o d s i : Int) (b : Nat) (w : World) (hc : w.cell? ⟨b, 0, none⟩ = some (.func (.func 98) #[] #[])) : Calls Try.prog 128 #[.agg #[.int .i64 o, .int .i64 d, .int .i64 s, .int .i64 32, .int .i64 i], .pointer (some ⟨b, 0, none⟩)] w fun e w' => e = .returned (.bool ((d == 0) && ((isC s) && isW4 i))) ∧ Below w.heap.size w w' := by
  have hl := cell_lt hc
  have hn : ¬ b = w.heap.size := by omega
  have HB := Lib.hid ((Below.refl w.heap.size w).alloc (Nat.le_refl _) (.cells #[.int .i64 o, .int .i64 d, .int .i64 s, .int .i64 32, .int .i64 i] 25))
  have C0 := Lib.hid (fun w => fit_jcc o d s 32 i w)
  have C1 : Hid (∀ w, Calls Try.prog 76 #[.int .i64 i, .int .i64 (-128), .int .i64 127] w fun e w' => e = .returned (.bool (isB i)) ∧ w = w') := fun w => within_ia i (-128) 127 w
  have C2 := Lib.hid (fun w => isWide_any i w)
  cases h0 : (d == 0)
  · go_enter Try.func128, Try.ntmps128
    go_wp2_with (first | ((go_at_call 98; with_reducible refine (C0.out _).mono ?_); rintro e w1 ⟨rfl, hb⟩; have q3 : w1.cell? ⟨w.heap.size, 3, none⟩ = some (.int .i64 32) := box_kept hb 3; have q4 : w1.cell? ⟨w.heap.size, 4, none⟩ = some (.int .i64 i) := box_kept hb 4) | ((go_at_call 76; with_reducible refine (C1.out _).mono ?_); rintro e w' ⟨rfl, rfl⟩) | ((go_at_call 115; with_reducible refine (C2.out _).mono ?_); rintro e w' ⟨rfl, rfl⟩))
    go_ret
    exact ⟨rfl, HB.out⟩
  · cases h1 : (isC s)
    · rw [h1] at C0
      clear h1
      go_enter Try.func128, Try.ntmps128
      go_wp2_with (first | ((go_at_call 98; with_reducible refine (C0.out _).mono ?_); rintro e w1 ⟨rfl, hb⟩; have q3 : w1.cell? ⟨w.heap.size, 3, none⟩ = some (.int .i64 32) := box_kept hb 3; have q4 : w1.cell? ⟨w.heap.size, 4, none⟩ = some (.int .i64 i) := box_kept hb 4) | ((go_at_call 76; with_reducible refine (C1.out _).mono ?_); rintro e w' ⟨rfl, rfl⟩) | ((go_at_call 115; with_reducible refine (C2.out _).mono ?_); rintro e w' ⟨rfl, rfl⟩))
      go_ret
      exact ⟨rfl, HB.out.trans (hb.mono (by simp))⟩
    · rw [h1] at C0
      clear h1
      go_enter Try.func128, Try.ntmps128
      go_wp2_with (first | ((go_at_call 98; with_reducible refine (C0.out _).mono ?_); rintro e w1 ⟨rfl, hb⟩; have q3 : w1.cell? ⟨w.heap.size, 3, none⟩ = some (.int .i64 32) := box_kept hb 3; have q4 : w1.cell? ⟨w.heap.size, 4, none⟩ = some (.int .i64 i) := box_kept hb 4) | ((go_at_call 76; with_reducible refine (C1.out _).mono ?_); rintro e w' ⟨rfl, rfl⟩) | ((go_at_call 115; with_reducible refine (C2.out _).mono ?_); rintro e w' ⟨rfl, rfl⟩))
      go_ret
      exact ⟨rfl, HB.out.trans (hb.mono (by simp))⟩
theorem fit_jumpJ_8 (o d s i : Int) (b : Nat) (w : World) (hc : w.cell? ⟨b, 0, none⟩ = some (.func (.func 101) #[] #[])) : Calls Try.prog 128 #[.agg #[.int .i64 o, .int .i64 d, .int .i64 s, .int .i64 8, .int .i64 i], .pointer (some ⟨b, 0, none⟩)] w fun e w' => e = .returned (.bool ((d == 0) && ((s == 0) && isB i))) ∧ Below w.heap.size w w' := by
  have hl := cell_lt hc
  have hn : ¬ b = w.heap.size := by omega
  have HB := Lib.hid ((Below.refl w.heap.size w).alloc (Nat.le_refl _) (.cells #[.int .i64 o, .int .i64 d, .int .i64 s, .int .i64 8, .int .i64 i] 25))
  have C0 := Lib.hid (fun w => fit_jmp o d s 8 i w)
  have C1 : Hid (∀ w, Calls Try.prog 76 #[.int .i64 i, .int .i64 (-128), .int .i64 127] w fun e w' => e = .returned (.bool (isB i)) ∧ w = w') := fun w => within_ia i (-128) 127 w
  have C2 := Lib.hid (fun w => isWide_any i w)
  cases h0 : (d == 0)
  · go_enter Try.func128, Try.ntmps128
    go_wp2_with (first | ((go_at_call 101; with_reducible refine (C0.out _).mono ?_); rintro e w1 ⟨rfl, hb⟩; have q3 : w1.cell? ⟨w.heap.size, 3, none⟩ = some (.int .i64 8) := box_kept hb 3; have q4 : w1.cell? ⟨w.heap.size, 4, none⟩ = some (.int .i64 i) := box_kept hb 4) | ((go_at_call 76; with_reducible refine (C1.out _).mono ?_); rintro e w' ⟨rfl, rfl⟩) | ((go_at_call 115; with_reducible refine (C2.out _).mono ?_); rintro e w' ⟨rfl, rfl⟩))
    go_ret
    exact ⟨rfl, HB.out⟩
  · cases h1 : (s == 0)
    · rw [h1] at C0
      clear h1
      go_enter Try.func128, Try.ntmps128
      go_wp2_with (first | ((go_at_call 101; with_reducible refine (C0.out _).mono ?_); rintro e w1 ⟨rfl, hb⟩; have q3 : w1.cell? ⟨w.heap.size, 3, none⟩ = some (.int .i64 8) := box_kept hb 3; have q4 : w1.cell? ⟨w.heap.size, 4, none⟩ = some (.int .i64 i) := box_kept hb 4) | ((go_at_call 76; with_reducible refine (C1.out _).mono ?_); rintro e w' ⟨rfl, rfl⟩) | ((go_at_call 115; with_reducible refine (C2.out _).mono ?_); rintro e w' ⟨rfl, rfl⟩))
      go_ret
      exact ⟨rfl, HB.out.trans (hb.mono (by simp))⟩
    · rw [h1] at C0
      clear h1
      cases h2 : isB i
      · rw [h2] at C1
        clear h2
        go_enter Try.func128, Try.ntmps128
        go_wp2_with (first | ((go_at_call 101; with_reducible refine (C0.out _).mono ?_); rintro e w1 ⟨rfl, hb⟩; have q3 : w1.cell? ⟨w.heap.size, 3, none⟩ = some (.int .i64 8) := box_kept hb 3; have q4 : w1.cell? ⟨w.heap.size, 4, none⟩ = some (.int .i64 i) := box_kept hb 4) | ((go_at_call 76; with_reducible refine (C1.out _).mono ?_); rintro e w' ⟨rfl, rfl⟩) | ((go_at_call 115; with_reducible refine (C2.out _).mono ?_); rintro e w' ⟨rfl, rfl⟩))
        go_ret
        exact ⟨rfl, HB.out.trans (hb.mono (by simp))⟩
      · rw [h2] at C1
        clear h2
        go_enter Try.func128, Try.ntmps128
        go_wp2_with (first | ((go_at_call 101; with_reducible refine (C0.out _).mono ?_); rintro e w1 ⟨rfl, hb⟩; have q3 : w1.cell? ⟨w.heap.size, 3, none⟩ = some (.int .i64 8) := box_kept hb 3; have q4 : w1.cell? ⟨w.heap.size, 4, none⟩ = some (.int .i64 i) := box_kept hb 4) | ((go_at_call 76; with_reducible refine (C1.out _).mono ?_); rintro e w' ⟨rfl, rfl⟩) | ((go_at_call 115; with_reducible refine (C2.out _).mono ?_); rintro e w' ⟨rfl, rfl⟩))
        go_ret
        exact ⟨rfl, HB.out.trans (hb.mono (by simp))⟩
theorem fit_jumpJ_32 (o d s i : Int) (b : Nat) (w : World) (hc : w.cell? ⟨b, 0, none⟩ = some (.func (.func 101) #[] #[])) : Calls Try.prog 128 #[.agg #[.int .i64 o, .int .i64 d, .int .i64 s, .int .i64 32, .int .i64 i], .pointer (some ⟨b, 0, none⟩)] w fun e w' => e = .returned (.bool ((d == 0) && ((s == 0) && isW4 i))) ∧ Below w.heap.size w w' := by
  have hl := cell_lt hc
  have hn : ¬ b = w.heap.size := by omega
  have HB := Lib.hid ((Below.refl w.heap.size w).alloc (Nat.le_refl _) (.cells #[.int .i64 o, .int .i64 d, .int .i64 s, .int .i64 32, .int .i64 i] 25))
  have C0 := Lib.hid (fun w => fit_jmp o d s 32 i w)
  have C1 : Hid (∀ w, Calls Try.prog 76 #[.int .i64 i, .int .i64 (-128), .int .i64 127] w fun e w' => e = .returned (.bool (isB i)) ∧ w = w') := fun w => within_ia i (-128) 127 w
  have C2 := Lib.hid (fun w => isWide_any i w)
  cases h0 : (d == 0)
  · go_enter Try.func128, Try.ntmps128
    go_wp2_with (first | ((go_at_call 101; with_reducible refine (C0.out _).mono ?_); rintro e w1 ⟨rfl, hb⟩; have q3 : w1.cell? ⟨w.heap.size, 3, none⟩ = some (.int .i64 32) := box_kept hb 3; have q4 : w1.cell? ⟨w.heap.size, 4, none⟩ = some (.int .i64 i) := box_kept hb 4) | ((go_at_call 76; with_reducible refine (C1.out _).mono ?_); rintro e w' ⟨rfl, rfl⟩) | ((go_at_call 115; with_reducible refine (C2.out _).mono ?_); rintro e w' ⟨rfl, rfl⟩))
    go_ret
    exact ⟨rfl, HB.out⟩
  · cases h1 : (s == 0)
    · rw [h1] at C0
      clear h1
      go_enter Try.func128, Try.ntmps128
      go_wp2_with (first | ((go_at_call 101; with_reducible refine (C0.out _).mono ?_); rintro e w1 ⟨rfl, hb⟩; have q3 : w1.cell? ⟨w.heap.size, 3, none⟩ = some (.int .i64 32) := box_kept hb 3; have q4 : w1.cell? ⟨w.heap.size, 4, none⟩ = some (.int .i64 i) := box_kept hb 4) | ((go_at_call 76; with_reducible refine (C1.out _).mono ?_); rintro e w' ⟨rfl, rfl⟩) | ((go_at_call 115; with_reducible refine (C2.out _).mono ?_); rintro e w' ⟨rfl, rfl⟩))
      go_ret
      exact ⟨rfl, HB.out.trans (hb.mono (by simp))⟩
    · rw [h1] at C0
      clear h1
      go_enter Try.func128, Try.ntmps128
      go_wp2_with (first | ((go_at_call 101; with_reducible refine (C0.out _).mono ?_); rintro e w1 ⟨rfl, hb⟩; have q3 : w1.cell? ⟨w.heap.size, 3, none⟩ = some (.int .i64 32) := box_kept hb 3; have q4 : w1.cell? ⟨w.heap.size, 4, none⟩ = some (.int .i64 i) := box_kept hb 4) | ((go_at_call 76; with_reducible refine (C1.out _).mono ?_); rintro e w' ⟨rfl, rfl⟩) | ((go_at_call 115; with_reducible refine (C2.out _).mono ?_); rintro e w' ⟨rfl, rfl⟩))
      go_ret
      exact ⟨rfl, HB.out.trans (hb.mono (by simp))⟩
end Go.Proofs.Ytdojafpjipcbjaa
namespace Go.Proofs.Ytdojafpjipcbjaa
open Go.RowKit
set_option linter.unusedVariables false
set_option linter.unusedSimpArgs false
theorem RowI.mono {w : World} {base base' : Nat} {e : TypeId} {k : IntKind} {v : Value} {xs : List Int} (h : RowI w base e k v xs) (hb : base' ≤ base) : RowI w base' e k v xs := World.ownsRow.mono h hb
/-- A call that makes a row of bytes, told of an elder world. -/
theorem acc_r {P : Program} {f : FuncId} {args : Array Value} {w : World} {e0 : TypeId} {k : IntKind} {xs : List Int} (h : Calls P f args w fun e w' => ∃ v, e = .returned v ∧ RowI w' w.heap.size e0 k v xs ∧ Below w.heap.size w w') {w0 : World} (h0 : Since w0 w) :
    Calls P f args w fun e w' => ∃ v, e = .returned v ∧ RowI w' w0.heap.size e0 k v xs ∧ Below w.heap.size w w' ∧ Since w0 w' :=
  h.mono fun _ _ ⟨v, h1, h2, h3⟩ => ⟨v, h1, h2.mono h0.size, h3, below_hop h0 h3⟩
section
variable {P : Program} {w : World}
theorem step_app_row {ops : Array Oper} {o : Oper} {a : Act} {K : Act → World → Prop} {Q : Exit → Act → World → Prop} {E : Prop} {k : IntKind} (hgd : o.guard = none) (s x : Operand) (t : TypeId)
    (ho : o.op = .call { callee := .builtin .append, args := #[s, x], argTypes := #[t, t] }) (base : Nat) (e : TypeId) (i : TypeInfo) (bytes : Nat) (ht : P.underlying t = some (.slice e)) (hi : P.info? e = some i) (hz : i.zero = some (.int k 0))
    (hsize : i.size = 1) (hby : i.bytes = bytes) (hb8 : bytes ≤ 8) (v : Value) (xs : List Int) (hs : a.eval s = v) (hown : RowI w base e k v xs)
    (u : Value) (ys : List Int) (hx : a.eval x = u) (hu : Ints k w u ys) (hm : 0 < ys.length) (hl : xs.length + ys.length ≤ 100000) (hbase : base ≤ w.heap.size)
    (h : ∀ v' w', RowI w' base e k v' (xs ++ ys) → Below base w w' → K (a.put o.dst v') w') : if Region.wanted o (yielded ops a.tmps) = true then Oper.wp P o a w K Q else E := by
  obtain ⟨b, q, c, rfl, _, _⟩ := hu.at hm
  have hn := hu.newsK
  refine step_append_lies (w := w) hgd s x t ho base e i (.int k 0) 1 bytes ht hi hz hsize hby rfl (by decide) v xs.length (xs.map (Value.int k)) hs hown ⟨b, q, none⟩ ys.length c (ys.map (Value.int k)) hx (by simp) hn (fun u hu => by obtain ⟨x, _, rfl⟩ := List.mem_map.1 hu; rfl) hm (by unfold maxLen; omega) ?_ hbase w.heap.size rfl ?_
  · have : (xs.length + ys.length) * bytes ≤ 100000 * 8 := Nat.mul_le_mul hl hb8
    omega
  · intro g cap w' hown' hgrow _ _
    exact h _ w' (RowI.app hown' rfl rfl) ((Below.refl base w).grown hgrow hbase (own_ge hown))
theorem wpList_app_row {ops : Array Oper} {rest : List Oper} {o : Oper} {a : Act} {Q : Exit → Act → World → Prop} {k : IntKind} (hgd : o.guard = none) (s x : Operand) (t : TypeId)
    (ho : o.op = .call { callee := .builtin .append, args := #[s, x], argTypes := #[t, t] }) (base : Nat) (e : TypeId) (i : TypeInfo) (bytes : Nat) (ht : P.underlying t = some (.slice e)) (hi : P.info? e = some i) (hz : i.zero = some (.int k 0))
    (hsize : i.size = 1) (hby : i.bytes = bytes) (hb8 : bytes ≤ 8) (v : Value) (xs : List Int) (hs : a.eval s = v) (hown : RowI w base e k v xs)
    (u : Value) (ys : List Int) (hx : a.eval x = u) (hu : Ints k w u ys) (hm : 0 < ys.length) (hl : xs.length + ys.length ≤ 100000) (hbase : base ≤ w.heap.size)
    (h : ∀ v' w', RowI w' base e k v' (xs ++ ys) → Below base w w' → wpList P ops Q rest (a.put o.dst v') w') : wpList P ops Q (o :: rest) a w := by
  obtain ⟨b, q, c, rfl, _, _⟩ := hu.at hm
  have hn := hu.newsK
  refine wpList_append_own (w := w) hgd s x t ho base e i (.int k 0) 1 bytes ht hi hz hsize hby rfl (by decide) v xs.length (xs.map (Value.int k)) hs hown ⟨b, q, none⟩ ys.length c (ys.map (Value.int k)) hx (by simp) hn (fun u hu => by obtain ⟨x, _, rfl⟩ := List.mem_map.1 hu; rfl) (by unfold maxLen; omega) ?_ hbase ?_
  · have : (xs.length + ys.length) * bytes ≤ 100000 * 8 := Nat.mul_le_mul hl hb8
    omega
  · intro v' w' hown' hgrow _
    exact h _ w' (RowI.app hown' rfl rfl) ((Below.refl base w).grown hgrow hbase (own_ge hown))
end
set_option maxHeartbeats 1000000 in
theorem clone_any (xs : List Int) (v : Value) (w : World) (hv : Ints .u8 w v xs) (h0 : 0 < xs.length) (h1 : xs.length ≤ 50000) : Calls Try.prog 117 #[v] w fun e w' => ∃ v, e = .returned v ∧ RowI w' w.heap.size 5 .u8 v xs ∧ Below w.heap.size w w' := by
  obtain ⟨i0, hi0, hz0, hz1, hz2⟩ := info_parts info_u8
  have HV := Lib.hid hv
  obtain ⟨b, q, c, rfl, _, hbl, _⟩ := hv.at h0
  have HR0 := Lib.hid (RowI.lit w #[] [] .u8 5 w.heap.size 0 (Nat.le_refl _) rfl rfl (by unfold maxLen; simp))
  have HB := Lib.hid ((Below.refl w.heap.size w).alloc (Nat.le_refl _) (.cells #[] 5))
  clear hv
  have hnl : ∀ w, (binOp .eql 22 (.slice (some ⟨b, q, none⟩) xs.length c) (.slice none 0 0)).run Try.prog w = .ok (.bool false) w := fun w => Lib.run_eql_slice_nil w 22 5 (some ⟨b, q, none⟩) xs.length c 0 0 Try.underlying22
  go_enter Try.func117, Try.ntmps117
  go_wp2_with (at_builtin; go_must (refine wpList_app_row rfl _ _ 22 rfl w.heap.size 5 i0 1 Try.underlying22 hi0 hz0 hz1 hz2 (by decide) _ [] rfl HR0.out _ xs rfl (HV.out.stays HB.out) h0 ?c1 ?c2 ?_))
  case c1 => simp; omega
  case c2 => simp
  intro v' w' hr hb
  have HR := Lib.hid hr
  have HB2 := Lib.hid (HB.out.trans hb)
  clear hr hb
  go_wp2_with fail
  go_ret
  exact ⟨_, rfl, HR.out, HB2.out⟩
set_option maxHeartbeats 1000000 in
theorem wr_pair (o d s z i c : Int) (b : Nat) (w : World) (hc : w.cell? ⟨b, 0, none⟩ = some (.int .u8 c)) : Calls Try.prog 112 #[.agg #[.int .i64 o, .int .i64 d, .int .i64 s, .int .i64 z, .int .i64 i], .pointer (some ⟨b, 0, none⟩)] w fun e w' => ∃ v, e = .returned v ∧ RowI w' w.heap.size 5 .u8 v [c, mrB s d] ∧ Below w.heap.size w w' := by
  have hl := cell_lt hc
  have hn : ¬ b = w.heap.size := by omega
  have C0 := Lib.hid (fun w => mr_any s d w)
  have HB := Lib.hid ((Below.refl w.heap.size w).alloc (Nat.le_refl _) (.cells #[.int .i64 o, .int .i64 d, .int .i64 s, .int .i64 z, .int .i64 i] 25))
  obtain ⟨W0, hW0⟩ : ∃ W, w.alloc (.cells #[.int .i64 o, .int .i64 d, .int .i64 s, .int .i64 z, .int .i64 i] 25) = W := ⟨_, rfl⟩
  have p0 : ∀ wk, Since W0 wk → wk.cell? ⟨b, 0, none⟩ = some (.int .u8 c) := fun wk h => h.cell (by rw [← hW0]; exact cell_alloc hc)
  have p1 : ∀ wk, Since W0 wk → wk.cell? ⟨w.heap.size, 1, none⟩ = some (.int .i64 d) := fun wk h => h.cell (by rw [← hW0]; simp [go_sem])
  have p2 : ∀ wk, Since W0 wk → wk.cell? ⟨w.heap.size, 2, none⟩ = some (.int .i64 s) := fun wk h => h.cell (by rw [← hW0]; simp [go_sem])
  have h00 := Since.refl W0
  rw [hW0] at HB
  generalize mrB s d = q at *
  clear hc hl hn
  go_enter Try.func112, Try.ntmps112
  go_wp2_with fail
  clear hW0
  go_region_held3 (fun wk => Since W0 wk) (first | assumption | exact Since.drew (by assumption) | exact Since.next (by assumption) ((Below.refl _ _).alloc (Nat.le_refl _) _)) (first | (go_at_call 86; with_reducible refine (C0.out _).mono ?_; rintro e w' ⟨rfl, rfl⟩))
  go_wp2_with fail
  go_ret
  exact ⟨_, rfl, RowI.lit W0 #[_, _] [c, q] .u8 5 w.heap.size 2 HB.out.size rfl rfl (by unfold maxLen; simp), below_drewN (HB.out.trans (((Below.refl _ W0).alloc (Nat.le_refl _) _).mono HB.out.size)) 1⟩
end Go.Proofs.Ytdojafpjipcbjaa
