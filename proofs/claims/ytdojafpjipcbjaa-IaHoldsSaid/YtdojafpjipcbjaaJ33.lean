/- Walks of Reads of the program. -/
import Derived.Test.YtdojafpjipcbjaaJ32
namespace Go.Proofs.Ytdojafpjipcbjaa
open Go.RowKit
set_option linter.unusedVariables false
set_option linter.unusedSimpArgs false
set_option maxRecDepth 100000 in
theorem reads_bad (o d s z i : Int) (w : World) (hok : okI ⟨o, d, s, z, i⟩ = false) : Calls Try.prog 20 #[.agg #[.int .i64 o, .int .i64 d, .int .i64 s, .int .i64 z, .int .i64 i]] w fun e w' => e = .returned (.tuple #[.int .i64 0, .int .i64 1]) ∧ Below w.heap.size w w' := by
  have C0 : Hid (∀ w, Calls Try.prog 14 #[.agg #[.int .i64 o, .int .i64 d, .int .i64 s, .int .i64 z, .int .i64 i]] w fun e w' => e = .returned (.int .i64 1) ∧ Below w.heap.size w w') := fun w => by have h := validate_any ⟨o, d, s, z, i⟩ w; rw [show vaI ⟨o, d, s, z, i⟩ = 1 by unfold vaI; rw [hok]; rfl] at h; exact h
  clear hok
  go_enter Try.func20, Try.ntmps20
  go_wp2_with ((go_at_call 14; with_reducible refine (C0.out _).mono ?_); rintro e w1 ⟨rfl, hb⟩; have HB := Lib.hid hb; have x0 : w1.cell? ⟨w.heap.size, 0, none⟩ = some (.int .i64 (o)) := box_kept hb 0; have x1 : w1.cell? ⟨w.heap.size, 1, none⟩ = some (.int .i64 d) := box_kept hb 1; have x2 : w1.cell? ⟨w.heap.size, 2, none⟩ = some (.int .i64 s) := box_kept hb 2; have x3 : w1.cell? ⟨w.heap.size, 3, none⟩ = some (.int .i64 z) := box_kept hb 3; have x4 : w1.cell? ⟨w.heap.size, 4, none⟩ = some (.int .i64 i) := box_kept hb 4; clear hb)
  go_ret2
  exact ⟨rfl, below_box HB.out⟩
set_option maxRecDepth 100000 in
theorem reads_none (o d s z i : Int) (w : World) (hok : okI ⟨o, d, s, z, i⟩ = true) (h29 : (o == 29) = false) (h31 : (o == 31) = false) (h32 : (o == 32) = false) : Calls Try.prog 20 #[.agg #[.int .i64 o, .int .i64 d, .int .i64 s, .int .i64 z, .int .i64 i]] w fun e w' => e = .returned (.tuple #[.int .i64 0, .int .i64 0]) ∧ Below w.heap.size w w' := by
  have C0 : Hid (∀ w, Calls Try.prog 14 #[.agg #[.int .i64 o, .int .i64 d, .int .i64 s, .int .i64 z, .int .i64 i]] w fun e w' => e = .returned (.int .i64 0) ∧ Below w.heap.size w w') := fun w => by have h := validate_any ⟨o, d, s, z, i⟩ w; rw [show vaI ⟨o, d, s, z, i⟩ = 0 by unfold vaI; rw [hok]; rfl] at h; exact h
  clear hok
  go_enter Try.func20, Try.ntmps20
  go_wp2_with ((go_at_call 14; with_reducible refine (C0.out _).mono ?_); rintro e w1 ⟨rfl, hb⟩; have HB := Lib.hid hb; have x0 : w1.cell? ⟨w.heap.size, 0, none⟩ = some (.int .i64 (o)) := box_kept hb 0; have x1 : w1.cell? ⟨w.heap.size, 1, none⟩ = some (.int .i64 d) := box_kept hb 1; have x2 : w1.cell? ⟨w.heap.size, 2, none⟩ = some (.int .i64 s) := box_kept hb 2; have x3 : w1.cell? ⟨w.heap.size, 3, none⟩ = some (.int .i64 z) := box_kept hb 3; have x4 : w1.cell? ⟨w.heap.size, 4, none⟩ = some (.int .i64 i) := box_kept hb 4; clear hb)
  go_ret2
  exact ⟨rfl, below_box HB.out⟩
theorem tab_reads {c : Int} (h : isC c = true) (w : World) : (Instr.index 70 (.agg #[.int .i64 8, .int .i64 1, .int .i64 2, .int .i64 3, .int .i64 4, .int .i64 0, .int .i64 12, .int .i64 14]) (.int .i64 (c / 2))).run Try.prog w = .ok (.int .i64 (rdT c)) w := by
  rcases isC_cases h with rfl | rfl | rfl | rfl | rfl | rfl | rfl | rfl | rfl | rfl | rfl | rfl | rfl | rfl <;> kernel_rfl
set_option maxRecDepth 100000 in
set_option maxHeartbeats 4000000 in
theorem reads_29 (d s z i : Int) (w : World) (hok : okI ⟨29, d, s, z, i⟩ = true) (hc : isC s = true) : Calls Try.prog 20 #[.agg #[.int .i64 29, .int .i64 d, .int .i64 s, .int .i64 z, .int .i64 i]] w fun e w' => e = .returned (.tuple #[.int .i64 (rdT s), .int .i64 0]) ∧ Below w.heap.size w w' := by
  have C0 : Hid (∀ w, Calls Try.prog 14 #[.agg #[.int .i64 29, .int .i64 d, .int .i64 s, .int .i64 z, .int .i64 i]] w fun e w' => e = .returned (.int .i64 0) ∧ Below w.heap.size w w') := fun w => by have h := validate_any ⟨29, d, s, z, i⟩ w; rw [show vaI ⟨29, d, s, z, i⟩ = 0 by unfold vaI; rw [hok]; rfl] at h; exact h
  have hb2 : 0 ≤ s ∧ s ≤ 15 := by simp [isC] at hc; omega
  obtain ⟨hb3, hb4⟩ := hb2
  have d0 : decide (s < 0) = false := decide_eq_false (by omega)
  have hx := tab_reads hc
  generalize rdT s = r at *
  clear hok hc
  go_enter Try.func20, Try.ntmps20
  go_wp2_with ((go_at_call 14; with_reducible refine (C0.out _).mono ?_); rintro e w1 ⟨rfl, hb⟩; have HB := Lib.hid hb; have x0 : w1.cell? ⟨w.heap.size, 0, none⟩ = some (.int .i64 (29)) := box_kept hb 0; have x1 : w1.cell? ⟨w.heap.size, 1, none⟩ = some (.int .i64 d) := box_kept hb 1; have x2 : w1.cell? ⟨w.heap.size, 2, none⟩ = some (.int .i64 s) := box_kept hb 2; have x3 : w1.cell? ⟨w.heap.size, 3, none⟩ = some (.int .i64 z) := box_kept hb 3; have x4 : w1.cell? ⟨w.heap.size, 4, none⟩ = some (.int .i64 i) := box_kept hb 4; clear hb)
  go_ret2
  exact ⟨rfl, below_box HB.out⟩
set_option maxRecDepth 100000 in
set_option maxHeartbeats 4000000 in
theorem reads_32 (d s z i : Int) (w : World) (hok : okI ⟨32, d, s, z, i⟩ = true) (hc : isC s = true) : Calls Try.prog 20 #[.agg #[.int .i64 32, .int .i64 d, .int .i64 s, .int .i64 z, .int .i64 i]] w fun e w' => e = .returned (.tuple #[.int .i64 (rdT s), .int .i64 0]) ∧ Below w.heap.size w w' := by
  have C0 : Hid (∀ w, Calls Try.prog 14 #[.agg #[.int .i64 32, .int .i64 d, .int .i64 s, .int .i64 z, .int .i64 i]] w fun e w' => e = .returned (.int .i64 0) ∧ Below w.heap.size w w') := fun w => by have h := validate_any ⟨32, d, s, z, i⟩ w; rw [show vaI ⟨32, d, s, z, i⟩ = 0 by unfold vaI; rw [hok]; rfl] at h; exact h
  have hb2 : 0 ≤ s ∧ s ≤ 15 := by simp [isC] at hc; omega
  obtain ⟨hb3, hb4⟩ := hb2
  have d0 : decide (s < 0) = false := decide_eq_false (by omega)
  have hx := tab_reads hc
  generalize rdT s = r at *
  clear hok hc
  go_enter Try.func20, Try.ntmps20
  go_wp2_with ((go_at_call 14; with_reducible refine (C0.out _).mono ?_); rintro e w1 ⟨rfl, hb⟩; have HB := Lib.hid hb; have x0 : w1.cell? ⟨w.heap.size, 0, none⟩ = some (.int .i64 (32)) := box_kept hb 0; have x1 : w1.cell? ⟨w.heap.size, 1, none⟩ = some (.int .i64 d) := box_kept hb 1; have x2 : w1.cell? ⟨w.heap.size, 2, none⟩ = some (.int .i64 s) := box_kept hb 2; have x3 : w1.cell? ⟨w.heap.size, 3, none⟩ = some (.int .i64 z) := box_kept hb 3; have x4 : w1.cell? ⟨w.heap.size, 4, none⟩ = some (.int .i64 i) := box_kept hb 4; clear hb)
  go_ret2
  exact ⟨rfl, below_box HB.out⟩
set_option maxRecDepth 100000 in
set_option maxHeartbeats 4000000 in
theorem reads_31 (d s z i : Int) (w : World) (hok : okI ⟨31, d, s, z, i⟩ = true) (hc : isC i = true) : Calls Try.prog 20 #[.agg #[.int .i64 31, .int .i64 d, .int .i64 s, .int .i64 z, .int .i64 i]] w fun e w' => e = .returned (.tuple #[.int .i64 (rdT i), .int .i64 0]) ∧ Below w.heap.size w w' := by
  have C0 : Hid (∀ w, Calls Try.prog 14 #[.agg #[.int .i64 31, .int .i64 d, .int .i64 s, .int .i64 z, .int .i64 i]] w fun e w' => e = .returned (.int .i64 0) ∧ Below w.heap.size w w') := fun w => by have h := validate_any ⟨31, d, s, z, i⟩ w; rw [show vaI ⟨31, d, s, z, i⟩ = 0 by unfold vaI; rw [hok]; rfl] at h; exact h
  have hb2 : 0 ≤ i ∧ i ≤ 15 := by simp [isC] at hc; omega
  obtain ⟨hb3, hb4⟩ := hb2
  have d0 : decide (i < 0) = false := decide_eq_false (by omega)
  have hx := tab_reads hc
  generalize rdT i = r at *
  clear hok hc
  go_enter Try.func20, Try.ntmps20
  go_wp2_with ((go_at_call 14; with_reducible refine (C0.out _).mono ?_); rintro e w1 ⟨rfl, hb⟩; have HB := Lib.hid hb; have x0 : w1.cell? ⟨w.heap.size, 0, none⟩ = some (.int .i64 (31)) := box_kept hb 0; have x1 : w1.cell? ⟨w.heap.size, 1, none⟩ = some (.int .i64 d) := box_kept hb 1; have x2 : w1.cell? ⟨w.heap.size, 2, none⟩ = some (.int .i64 s) := box_kept hb 2; have x3 : w1.cell? ⟨w.heap.size, 3, none⟩ = some (.int .i64 z) := box_kept hb 3; have x4 : w1.cell? ⟨w.heap.size, 4, none⟩ = some (.int .i64 i) := box_kept hb 4; clear hb)
  go_ret2
  exact ⟨rfl, below_box HB.out⟩
theorem reads_any (x : Ins) (w : World) : Calls Try.prog 20 #[InsV x] w fun e w' => e = .returned (.tuple #[.int .i64 (rdX x), .int .i64 (vaI x)]) ∧ Below w.heap.size w w' := by
  cases hok : okI x
  · rw [show rdX x = 0 by simp [rdX, hok], show vaI x = 1 by simp [vaI, hok]]
    obtain ⟨o, d, s, z, i⟩ := x
    exact reads_bad o d s z i w hok
  · rw [show rdX x = rdT (rdC x) by simp [rdX, hok], show vaI x = 0 by simp [vaI, hok]]
    have hf := ok_fit hok
    obtain ⟨o, d, s, z, i⟩ := x
    by_cases c1 : o = 29
    · subst c1; simp [fitI] at hf; exact reads_29 d s z i w hok hf.2.1
    by_cases c2 : o = 32
    · subst c2; simp [fitI] at hf; exact reads_32 d s z i w hok hf.2.1
    by_cases c3 : o = 31
    · subst c3; simp [fitI] at hf; exact reads_31 d s z i w hok hf.2.2
    · have e : rdC ⟨o, d, s, z, i⟩ = -1 := by unfold rdC; simp only; rw [if_neg (by omega), if_neg c3]
      rw [e]
      exact reads_none o d s z i w hok (by simpa using c1) (by simpa using c3) (by simpa using c2)
end Go.Proofs.Ytdojafpjipcbjaa
