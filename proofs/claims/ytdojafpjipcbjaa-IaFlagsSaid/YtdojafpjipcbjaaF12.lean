/- guess of the program, leaf by leaf. -/
import Derived.RegionTactic
import Derived.BigRegion
import Derived.ChangeAlike
import Derived.Deep.RegionLaw
import Derived.Test.YtdojafpjipcbjaaF11
namespace Go.Proofs.Ytdojafpjipcbjaa
open Go.RowKit
set_option linter.unusedVariables false
set_option linter.unusedSimpArgs false
theorem qDj5 {p : Prop} (h : p := by
  repeat (first | with_reducible refine Fin5.drew ?_ | with_reducible refine Fin5.set ?_ eP _ _ | with_reducible refine Fin5.set ?_ eQ _ _)
  exact HS4.out.fin) : p := h
theorem qDj4 {p : Prop} (h : p := by
  repeat (first | with_reducible refine Fin5.drew ?_ | with_reducible refine Fin5.set ?_ eP _ _ | with_reducible refine Fin5.set ?_ eQ _ _)
  exact HS2.out.fin) : p := h
theorem qDj3 {p : Prop} (h : p := by
  go_enter Try.func25, Try.ntmps25
  go_wp2_with (first | ((go_at_call 38; with_reducible refine CN.out.mono ?_); rintro e w1 ⟨rfl, hr1, hb1⟩; have CS : Hid (∀ (o d s z i : Int), Stt w B v l w1.heap.size w.heap.size o d s z i (n + 1) (w1.alloc (.cells #[.int .i64 o, .int .i64 d, .int .i64 s, .int .i64 z, .int .i64 i] 25))) := Lib.hid (Stt.start2 HL.out hr1 hb1); have b1 : w.heap.size + 1 ≤ w1.heap.size := (by have := hb1.size; simpa using this); have nQ : ¬ w.heap.size = w1.heap.size := (by omega); have X2 : Hid (∀ ob, Box5 (w1.alloc ob) w.heap.size 0 0 0 0 0) := Lib.hid (fun ob => ((Box5.new w 0 0 0 0 0).but hb1 (by omega)).but ((But.refl B w1).alloc ob) (by omega)); have q0 : ∀ ob, (w1.alloc ob).cell? ⟨w.heap.size, 0, none⟩ = some (.int .i64 0) := (fun ob => (X2.out ob).cells.1.1); have q1 : ∀ ob, (w1.alloc ob).cell? ⟨w.heap.size, 1, none⟩ = some (.int .i64 0) := (fun ob => (X2.out ob).cells.1.2.1); have q2 : ∀ ob, (w1.alloc ob).cell? ⟨w.heap.size, 2, none⟩ = some (.int .i64 0) := (fun ob => (X2.out ob).cells.1.2.2.1); have q3 : ∀ ob, (w1.alloc ob).cell? ⟨w.heap.size, 3, none⟩ = some (.int .i64 0) := (fun ob => (X2.out ob).cells.1.2.2.2.1); have q4 : ∀ ob, (w1.alloc ob).cell? ⟨w.heap.size, 4, none⟩ = some (.int .i64 0) := (fun ob => (X2.out ob).cells.1.2.2.2.2); have qf0 : ∀ ob, (w1.alloc ob).frozen? ⟨w.heap.size, 0, none⟩ = false := (fun ob => (X2.out ob).cells.2 0); have qf1 : ∀ ob, (w1.alloc ob).frozen? ⟨w.heap.size, 1, none⟩ = false := (fun ob => (X2.out ob).cells.2 1); have qf2 : ∀ ob, (w1.alloc ob).frozen? ⟨w.heap.size, 2, none⟩ = false := (fun ob => (X2.out ob).cells.2 2); have qf3 : ∀ ob, (w1.alloc ob).frozen? ⟨w.heap.size, 3, none⟩ = false := (fun ob => (X2.out ob).cells.2 3); have qf4 : ∀ ob, (w1.alloc ob).frozen? ⟨w.heap.size, 4, none⟩ = false := (fun ob => (X2.out ob).cells.2 4); clear hr1 hb1) | ((go_at_call 39; with_reducible refine (CO.out _).mono ?_); rintro e w' ⟨rfl, rfl⟩) | ((go_at_call 40; with_reducible refine (CF.out _ _ _ _ _ _ _ (CS.out (-1) 0 0 z 0)).mono ?_); rintro e w2 ⟨rfl, S2, bS2⟩; have HS2 := Lib.hid S2; clear S2; obtain ⟨p0, p1, p2, p3, p4, pf0, pf1, pf2, pf3, pf4, q0, q1, q2, q3, q4, qf0, qf1, qf2, qf3, qf4⟩ := (HS2.out.alloc (.cells #[.int .i64 r, .int .i64 m, .bool fb] 78)).facts) | ((go_at_call 43; with_reducible refine (CG.out _).mono ?_); rintro e w' ⟨rfl, rfl⟩))
  have eP : w.heap.size ≤ w1.heap.size := (HS2.out.alloc (.cells #[.int .i64 r, .int .i64 m, .bool fb] 78)).pw
  have eQ : w.heap.size ≤ w.heap.size := (HS2.out.alloc (.cells #[.int .i64 r, .int .i64 m, .bool fb] 78)).qw
  refine bodyPost_ret (v := (.agg #[.int .i64 (-1), .int .i64 0, .int .i64 0, .int .i64 z, .int .i64 0])) (by simp [results, Try.results25, go_sem, p0, p1, p2, p3, p4, q0, q1, q2, q3, q4]) rfl ⟨rfl, Fin5.out HL.out.l HL.out.off ?_⟩
  repeat (first | with_reducible refine Fin5.drew ?_ | with_reducible refine Fin5.set ?_ eP _ _ | with_reducible refine Fin5.set ?_ eQ _ _)
  exact (HS2.out.alloc (.cells #[.int .i64 r, .int .i64 m, .bool fb] 78)).fin) : p := h
theorem qDj2 {p : Prop} (h : p := by
  go_enter Try.func25, Try.ntmps25
  go_wp2_with (first | ((go_at_call 38; with_reducible refine CN.out.mono ?_); rintro e w1 ⟨rfl, hr1, hb1⟩; have CS : Hid (∀ (o d s z i : Int), Stt w B v l w1.heap.size w.heap.size o d s z i (n + 1) (w1.alloc (.cells #[.int .i64 o, .int .i64 d, .int .i64 s, .int .i64 z, .int .i64 i] 25))) := Lib.hid (Stt.start2 HL.out hr1 hb1); have b1 : w.heap.size + 1 ≤ w1.heap.size := (by have := hb1.size; simpa using this); have nQ : ¬ w.heap.size = w1.heap.size := (by omega); have X2 : Hid (∀ ob, Box5 (w1.alloc ob) w.heap.size 0 0 0 0 0) := Lib.hid (fun ob => ((Box5.new w 0 0 0 0 0).but hb1 (by omega)).but ((But.refl B w1).alloc ob) (by omega)); have q0 : ∀ ob, (w1.alloc ob).cell? ⟨w.heap.size, 0, none⟩ = some (.int .i64 0) := (fun ob => (X2.out ob).cells.1.1); have q1 : ∀ ob, (w1.alloc ob).cell? ⟨w.heap.size, 1, none⟩ = some (.int .i64 0) := (fun ob => (X2.out ob).cells.1.2.1); have q2 : ∀ ob, (w1.alloc ob).cell? ⟨w.heap.size, 2, none⟩ = some (.int .i64 0) := (fun ob => (X2.out ob).cells.1.2.2.1); have q3 : ∀ ob, (w1.alloc ob).cell? ⟨w.heap.size, 3, none⟩ = some (.int .i64 0) := (fun ob => (X2.out ob).cells.1.2.2.2.1); have q4 : ∀ ob, (w1.alloc ob).cell? ⟨w.heap.size, 4, none⟩ = some (.int .i64 0) := (fun ob => (X2.out ob).cells.1.2.2.2.2); have qf0 : ∀ ob, (w1.alloc ob).frozen? ⟨w.heap.size, 0, none⟩ = false := (fun ob => (X2.out ob).cells.2 0); have qf1 : ∀ ob, (w1.alloc ob).frozen? ⟨w.heap.size, 1, none⟩ = false := (fun ob => (X2.out ob).cells.2 1); have qf2 : ∀ ob, (w1.alloc ob).frozen? ⟨w.heap.size, 2, none⟩ = false := (fun ob => (X2.out ob).cells.2 2); have qf3 : ∀ ob, (w1.alloc ob).frozen? ⟨w.heap.size, 3, none⟩ = false := (fun ob => (X2.out ob).cells.2 3); have qf4 : ∀ ob, (w1.alloc ob).frozen? ⟨w.heap.size, 4, none⟩ = false := (fun ob => (X2.out ob).cells.2 4); clear hr1 hb1) | ((go_at_call 39; with_reducible refine (CO.out _).mono ?_); rintro e w' ⟨rfl, rfl⟩) | ((go_at_call 40; with_reducible refine (CF.out _ _ _ _ _ _ _ (CS.out (-1) 0 0 z 0)).mono ?_); rintro e w2 ⟨rfl, S2, bS2⟩; have HS2 := Lib.hid S2; clear S2) | ((go_at_call 43; with_reducible refine (CG.out _).mono ?_); rintro e w' ⟨rfl, rfl⟩))
  have pl := HS2.out.x.lt
  have ql := HS2.out.q.lt
  have rl := HS2.out.r.lt
  have n57 : ¬ w1.heap.size = w2.heap.size := by omega
  have n67 : ¬ w.heap.size = w2.heap.size := by omega
  have nB7 : w2.heap.size ≠ B := by omega
  clear pl ql rl
  have g0 : (w2.alloc (.cells #[.int .i64 r, .int .i64 m, .bool fb] 78)).cell? ⟨w2.heap.size, 0, none⟩ = some (.int .i64 r) := by simp [go_sem]
  have g1 : (w2.alloc (.cells #[.int .i64 r, .int .i64 m, .bool fb] 78)).cell? ⟨w2.heap.size, 1, none⟩ = some (.int .i64 m) := by simp [go_sem]
  have g2 : (w2.alloc (.cells #[.int .i64 r, .int .i64 m, .bool fb] 78)).cell? ⟨w2.heap.size, 2, none⟩ = some (.bool fb) := by simp [go_sem]
  have SX := HS2.out.alloc (.cells #[.int .i64 r, .int .i64 m, .bool fb] 78)
  have HSW3 := Lib.hid SX
  clear SX
  generalize w2.alloc (.cells #[.int .i64 r, .int .i64 m, .bool fb] 78) = W3 at *
  generalize w2.heap.size = b7 at *
  obtain ⟨p0, p1, p2, p3, p4, pf0, pf1, pf2, pf3, pf4, q0, q1, q2, q3, q4, qf0, qf1, qf2, qf3, qf4⟩ := HSW3.out.facts
  go_region
  go_wp2_with fail
  have eP : w.heap.size ≤ w1.heap.size := HSW3.out.pw
  have eQ : w.heap.size ≤ w.heap.size := HSW3.out.qw
  refine bodyPost_ret (v := (.agg #[.int .i64 gi, .int .i64 m, .int .i64 0, .int .i64 z, .int .i64 0])) (by simp [results, Try.results25, go_sem, p0, p1, p2, p3, p4, q0, q1, q2, q3, q4]) rfl ⟨rfl, Fin5.out HL.out.l HL.out.off ?_⟩
  repeat (first | with_reducible refine Fin5.drew ?_ | with_reducible refine Fin5.set ?_ eP _ _ | with_reducible refine Fin5.set ?_ eQ _ _)
  exact HSW3.out.fin) : p := h
theorem qDj1 {p : Prop} (h : p := by
  go_enter Try.func25, Try.ntmps25
  go_wp2_with (first | ((go_at_call 38; with_reducible refine CN.out.mono ?_); rintro e w1 ⟨rfl, hr1, hb1⟩; have CS : Hid (∀ (o d s z i : Int), Stt w B v l w1.heap.size w.heap.size o d s z i (n + 1) (w1.alloc (.cells #[.int .i64 o, .int .i64 d, .int .i64 s, .int .i64 z, .int .i64 i] 25))) := Lib.hid (Stt.start2 HL.out hr1 hb1); have b1 : w.heap.size + 1 ≤ w1.heap.size := (by have := hb1.size; simpa using this); have nQ : ¬ w.heap.size = w1.heap.size := (by omega); have X2 : Hid (∀ ob, Box5 (w1.alloc ob) w.heap.size 0 0 0 0 0) := Lib.hid (fun ob => ((Box5.new w 0 0 0 0 0).but hb1 (by omega)).but ((But.refl B w1).alloc ob) (by omega)); have q0 : ∀ ob, (w1.alloc ob).cell? ⟨w.heap.size, 0, none⟩ = some (.int .i64 0) := (fun ob => (X2.out ob).cells.1.1); have q1 : ∀ ob, (w1.alloc ob).cell? ⟨w.heap.size, 1, none⟩ = some (.int .i64 0) := (fun ob => (X2.out ob).cells.1.2.1); have q2 : ∀ ob, (w1.alloc ob).cell? ⟨w.heap.size, 2, none⟩ = some (.int .i64 0) := (fun ob => (X2.out ob).cells.1.2.2.1); have q3 : ∀ ob, (w1.alloc ob).cell? ⟨w.heap.size, 3, none⟩ = some (.int .i64 0) := (fun ob => (X2.out ob).cells.1.2.2.2.1); have q4 : ∀ ob, (w1.alloc ob).cell? ⟨w.heap.size, 4, none⟩ = some (.int .i64 0) := (fun ob => (X2.out ob).cells.1.2.2.2.2); have qf0 : ∀ ob, (w1.alloc ob).frozen? ⟨w.heap.size, 0, none⟩ = false := (fun ob => (X2.out ob).cells.2 0); have qf1 : ∀ ob, (w1.alloc ob).frozen? ⟨w.heap.size, 1, none⟩ = false := (fun ob => (X2.out ob).cells.2 1); have qf2 : ∀ ob, (w1.alloc ob).frozen? ⟨w.heap.size, 2, none⟩ = false := (fun ob => (X2.out ob).cells.2 2); have qf3 : ∀ ob, (w1.alloc ob).frozen? ⟨w.heap.size, 3, none⟩ = false := (fun ob => (X2.out ob).cells.2 3); have qf4 : ∀ ob, (w1.alloc ob).frozen? ⟨w.heap.size, 4, none⟩ = false := (fun ob => (X2.out ob).cells.2 4); clear hr1 hb1) | ((go_at_call 39; with_reducible refine (CO.out _).mono ?_); rintro e w' ⟨rfl, rfl⟩))
  have eP : w.heap.size ≤ w1.heap.size := (CS.out (-1) 0 0 z 0).pw
  have eQ : w.heap.size ≤ w.heap.size := (CS.out (-1) 0 0 z 0).qw
  refine bodyPost_ret (v := (.agg #[.int .i64 (-1), .int .i64 0, .int .i64 0, .int .i64 z, .int .i64 0])) (by simp [results, Try.results25, go_sem, q0, q1, q2, q3, q4]) rfl ⟨rfl, Fin5.out HL.out.l HL.out.off ?_⟩
  repeat (first | with_reducible refine Fin5.drew ?_ | with_reducible refine Fin5.set ?_ eP _ _ | with_reducible refine Fin5.set ?_ eQ _ _)
  exact (CS.out (-1) 0 0 z 0).fin) : p := h
theorem qDj0 {p : Prop} (h : p := by
  go_enter Try.func25, Try.ntmps25
  go_wp2_with (first | ((go_at_call 38; with_reducible refine CN.out.mono ?_); rintro e w1 ⟨rfl, hr1, hb1⟩; have CS : Hid (∀ (o d s z i : Int), Stt w B v l w1.heap.size w.heap.size o d s z i (n + 1) (w1.alloc (.cells #[.int .i64 o, .int .i64 d, .int .i64 s, .int .i64 z, .int .i64 i] 25))) := Lib.hid (Stt.start2 HL.out hr1 hb1); have b1 : w.heap.size + 1 ≤ w1.heap.size := (by have := hb1.size; simpa using this); have nQ : ¬ w.heap.size = w1.heap.size := (by omega); have X2 : Hid (∀ ob, Box5 (w1.alloc ob) w.heap.size 0 0 0 0 0) := Lib.hid (fun ob => ((Box5.new w 0 0 0 0 0).but hb1 (by omega)).but ((But.refl B w1).alloc ob) (by omega)); have q0 : ∀ ob, (w1.alloc ob).cell? ⟨w.heap.size, 0, none⟩ = some (.int .i64 0) := (fun ob => (X2.out ob).cells.1.1); have q1 : ∀ ob, (w1.alloc ob).cell? ⟨w.heap.size, 1, none⟩ = some (.int .i64 0) := (fun ob => (X2.out ob).cells.1.2.1); have q2 : ∀ ob, (w1.alloc ob).cell? ⟨w.heap.size, 2, none⟩ = some (.int .i64 0) := (fun ob => (X2.out ob).cells.1.2.2.1); have q3 : ∀ ob, (w1.alloc ob).cell? ⟨w.heap.size, 3, none⟩ = some (.int .i64 0) := (fun ob => (X2.out ob).cells.1.2.2.2.1); have q4 : ∀ ob, (w1.alloc ob).cell? ⟨w.heap.size, 4, none⟩ = some (.int .i64 0) := (fun ob => (X2.out ob).cells.1.2.2.2.2); have qf0 : ∀ ob, (w1.alloc ob).frozen? ⟨w.heap.size, 0, none⟩ = false := (fun ob => (X2.out ob).cells.2 0); have qf1 : ∀ ob, (w1.alloc ob).frozen? ⟨w.heap.size, 1, none⟩ = false := (fun ob => (X2.out ob).cells.2 1); have qf2 : ∀ ob, (w1.alloc ob).frozen? ⟨w.heap.size, 2, none⟩ = false := (fun ob => (X2.out ob).cells.2 2); have qf3 : ∀ ob, (w1.alloc ob).frozen? ⟨w.heap.size, 3, none⟩ = false := (fun ob => (X2.out ob).cells.2 3); have qf4 : ∀ ob, (w1.alloc ob).frozen? ⟨w.heap.size, 4, none⟩ = false := (fun ob => (X2.out ob).cells.2 4); clear hr1 hb1) | ((go_at_call 39; with_reducible refine (CO.out _).mono ?_); rintro e w' ⟨rfl, rfl⟩) | ((go_at_call 41; with_reducible refine (CV.out _ _ (CS.out (-1) 0 0 z 0)).mono ?_); rintro e w2 ⟨rfl, S2, bS2⟩; have HS2 := Lib.hid S2; clear S2; obtain ⟨p0, p1, p2, p3, p4, pf0, pf1, pf2, pf3, pf4, q0, q1, q2, q3, q4, qf0, qf1, qf2, qf3, qf4⟩ := HS2.out.facts))
  have eP : w.heap.size ≤ w1.heap.size := HS2.out.pw
  have eQ : w.heap.size ≤ w.heap.size := HS2.out.qw
  refine bodyPost_ret (v := (.agg #[.int .i64 o2, .int .i64 d2, .int .i64 s2, .int .i64 z2, .int .i64 i2])) (by simp [results, Try.results25, go_sem, p0, p1, p2, p3, p4, q0, q1, q2, q3, q4]) rfl ⟨rfl, Fin5.out HL.out.l HL.out.off ?_⟩
  repeat (first | with_reducible refine Fin5.drew ?_ | with_reducible refine Fin5.set ?_ eP _ _ | with_reducible refine Fin5.set ?_ eQ _ _)
  exact HS2.out.fin) : p := h
/-- The state where the answer lies ahead of the box. -/
theorem Stt.start2 {w w1 : World} {B n n' : Nat} {v : Value} {l : List Int} (h : RdL w B v l n) (hr : RdL w1 B v l n') (hb : But B (w.alloc (.cells #[.int .i64 0, .int .i64 0, .int .i64 0, .int .i64 0, .int .i64 0] 25)) w1) (o d s z i : Int) :
    Stt w B v l w1.heap.size w.heap.size o d s z i n' (w1.alloc (.cells #[.int .i64 o, .int .i64 d, .int .i64 s, .int .i64 z, .int .i64 i] 25)) := by
  have hlt := h.r.lt
  have hs := hb.size
  simp at hs
  refine ⟨h.l, h.off, (hr.stays ((Below.refl _ _).alloc (Nat.le_refl _) _)).r, (((But.refl B w).alloc _).trans hb).alloc _, Box5.new w1 o d s z i, ?_, hlt, by omega, Nat.le_refl _, by omega⟩
  exact ((Box5.new w 0 0 0 0 0).but hb (by omega)).but ((But.refl B _).alloc _) (by omega)
theorem rdB_bd2 {l : List Int} (h : Byt l) (n k : Nat) (hk : k ≤ 4) : 0 ≤ rdB (l.drop n) k ∧ rdB (l.drop n) k < 4294967296 := by
  have := rdJ_bd (rdN_byt h n k) k
  rw [show rdJ (rdN l n k) k = rdB (l.drop n) k by rw [← rdN_rdB l n k, rdN_length]] at this
  refine ⟨this.1, Int.lt_of_lt_of_le this.2 ?_⟩
  rcases (show k = 0 ∨ k = 1 ∨ k = 2 ∨ k = 3 ∨ k = 4 by omega) with rfl | rfl | rfl | rfl | rfl <;> decide
theorem wrap_i8 {k : Int} (h0 : 0 ≤ k) (h1 : k < 256) : IntKind.i8.wrap k = sg8 k := by
  have e : IntKind.i8.wrap k = (k + 128) % 256 - 128 := by
    simp [IntKind.wrap, IntKind.bits, IntKind.signed]
    split <;> omega
  rw [e]
  unfold sg8
  split <;> omega
theorem grpI_neg {c r : Int} (h : (decide (0 ≤ grpI c r)) = false) : grpI c r = -1 := by
  have h' := of_decide_eq_false h
  unfold grpI at *
  repeat' split at h' <;> first | omega | (split <;> omega)
theorem getD_dr (l : List Int) (n k : Nat) : (l.drop n).getD k 0 = l.getD (n + k) 0 := by simp [List.getD_eq_getElem?_getD, List.getElem?_drop]
theorem drop_dr (l : List Int) (n k : Nat) : (l.drop n).drop k = l.drop (n + k) := by rw [List.drop_drop]
theorem beqF {a b : Int} (h : a ≠ b) : (a == b) = false := by simpa using h
theorem beqT {a b : Int} (h : a = b) : (a == b) = true := by simpa using h
/-- moved answers as the plain law says. -/
theorem moved_any (v : Value) (B n : Nat) (l : List Int) (z : Int) (w : World) (h : RdL w B v l (n + 1)) (hby : Byt l) (hc : l.getD n 0 = 137 ∨ l.getD n 0 = 136 ∨ l.getD n 0 = 139) : Calls Try.prog 41 #[.pointer (some ⟨B, 0, none⟩), .int .u8 (l.getD n 0), .agg #[.int .i64 (-1), .int .i64 0, .int .i64 0, .int .i64 z, .int .i64 0]] w fun e w' => e = .returned (InsV (movP (l.drop n) z).1) ∧ RdL w' B v l (n + (movP (l.drop n) z).2) ∧ But B w w' := by
  unfold movP
  simp only [getD_dr, drop_dr, Nat.add_zero]
  by_cases hm : l.getD (n + 1) 0 / 64 = 2
  · rw [if_pos hm]
    rcases hc with hc | hc | hc
    · rw [hc, if_neg (by decide), if_pos rfl]
      exact moved_137 v B (n + 1) l (-1) 0 0 z 0 w h hby (beqT hm)
    · rw [hc, if_neg (by decide), if_neg (by decide)]
      exact moved_136 v B (n + 1) l (-1) 0 0 z 0 w h hby (beqT hm)
    · rw [hc, if_pos rfl]
      exact moved_139 v B (n + 1) l (-1) 0 0 z 0 w h hby (beqT hm)
  · rw [if_neg hm]
    have := moved_reg v B (n + 1) l (l.getD n 0) (-1) 0 0 z 0 w h hby (beqF hm)
    exact this.mono fun e w' a => ⟨a.1, a.2.1, a.2.2⟩
theorem second_any (v : Value) (B n : Nat) (l : List Int) (z : Int) (w : World) (h : RdL w B v l (n + 1)) (hby : Byt l) : Calls Try.prog 45 #[.pointer (some ⟨B, 0, none⟩), .agg #[.int .i64 (-1), .int .i64 0, .int .i64 0, .int .i64 z, .int .i64 0]] w fun e w' => e = .returned (InsV (secP (l.drop n) z).1) ∧ RdL w' B v l (n + (secP (l.drop n) z).2) ∧ But B w w' := by
  have hc0 := (hby (n + 1)).1
  have hc1 := (hby (n + 1)).2
  unfold secP
  simp only [getD_dr, drop_dr]
  by_cases c1 : l.getD (n + 1) 0 = 11
  · rw [if_pos c1]; exact sec_11 v B (n + 1) l z w h hby c1
  rw [if_neg c1]
  by_cases c2 : l.getD (n + 1) 0 = 175
  · rw [if_pos c2]; exact sec_175 v B (n + 1) l z w h hby c2
  rw [if_neg c2]
  by_cases c3 : l.getD (n + 1) 0 = 182
  · rw [if_pos (Or.inl c3)]
    by_cases hm : l.getD (n + 2) 0 / 64 = 2
    · rw [if_pos hm, c3]; exact sec_182_mem v B (n + 1) l z w h hby c3 (beqT hm)
    · rw [if_neg hm]; exact sec_182_reg v B (n + 1) l z w h hby c3 (beqF hm)
  by_cases c4 : l.getD (n + 1) 0 = 183
  · rw [if_pos (Or.inr c4)]
    by_cases hm : l.getD (n + 2) 0 / 64 = 2
    · rw [if_pos hm, c4]; exact sec_183_mem v B (n + 1) l z w h hby c4 (beqT hm)
    · rw [if_neg hm]; exact sec_183_reg v B (n + 1) l z w h hby c4 (beqF hm)
  rw [if_neg (by omega)]
  by_cases c5 : 64 ≤ l.getD (n + 1) 0 ∧ l.getD (n + 1) 0 ≤ 79
  · rw [if_pos c5]; exact sec_cmov v B (n + 1) l z w h hby c5.1 c5.2
  rw [if_neg c5]
  by_cases c6 : 144 ≤ l.getD (n + 1) 0 ∧ l.getD (n + 1) 0 ≤ 159
  · rw [if_pos c6]; exact sec_set v B (n + 1) l z w h hby c6.1 c6.2
  rw [if_neg c6]
  by_cases c7 : 128 ≤ l.getD (n + 1) 0 ∧ l.getD (n + 1) 0 ≤ 143
  · rw [if_pos c7]; exact sec_jcc v B (n + 1) l z w h hby c7.1 c7.2
  rw [if_neg c7]
  by_cases d1 : l.getD (n + 1) 0 ≤ 63
  · exact sec_no_a v B (n + 1) l z w h hby (beqF c1) (beqF c2) (beqF c3) (beqF c4) hc0 d1
  by_cases d2 : l.getD (n + 1) 0 ≤ 127
  · exact sec_no_b v B (n + 1) l z w h hby (beqF c1) (beqF c2) (beqF c3) (beqF c4) (by omega) d2
  · exact sec_no_c v B (n + 1) l z w h hby (beqF c1) (beqF c2) (beqF c3) (beqF c4) (by omega) (by omega)
set_option maxRecDepth 100000 in
set_option maxHeartbeats 1000000 in
theorem gue_one_lo (v : Value) (B n : Nat) (l : List Int) (z : Int) (w : World) (h : RdL w B v l n) (hby : Byt l) (ho : 0 ≤ oneI (l.getD n 0)) (hl : decide ((l.getD n 0) < 144) = true) : Calls Try.prog 25 #[.pointer (some ⟨B, 0, none⟩), .int .i64 z] w fun e w' => e = .returned (.agg #[.int .i64 (oneI (l.getD n 0)), .int .i64 (mF (l.getD (n + 1) 0)), .int .i64 (rF (l.getD (n + 1) 0)), .int .i64 z, .int .i64 0]) ∧ RdL w' B v l (n + 2) ∧ But B w w' := by
  have HL := Lib.hid h
  have HBY := Lib.hid hby
  have hlt := h.r.lt
  have CN := Lib.hid (next_any v B n l (w.alloc (.cells #[.int .i64 0, .int .i64 0, .int .i64 0, .int .i64 0, .int .i64 0] 25)) (h.stays ((Below.refl _ _).alloc (Nat.le_refl _) _)))
  have hc0 := (hby n).1
  have hc1 := (hby n).2
  have CF : Hid (∀ (P : Nat) (o d s z i : Int) (W : World), Stt w B v l P w.heap.size o d s z i (n + 1) W → Calls Try.prog 40 #[.pointer (some ⟨B, 0, none⟩)] W fun e w' => e = .returned (.agg #[.int .i64 (rF (l.getD (n + 1) 0)), .int .i64 (mF (l.getD (n + 1) 0)), .bool ((l.getD (n + 1) 0) / 64 == 2)]) ∧ Stt w B v l P w.heap.size o d s z i (n + 1 + 1) w' ∧ But B W w') := Lib.hid fun P o d s z i W S => S.call (fields_any v B (n + 1) l W S.rd (HBY.out (n + 1)).1 (HBY.out (n + 1)).2)
  generalize ((l.getD (n + 1) 0) / 64 == 2) = fb at *
  generalize rF (l.getD (n + 1) 0) = r at *
  generalize mF (l.getD (n + 1) 0) = m at *
  have ho0 := ho
  have CO : Hid (∀ W, Calls Try.prog 39 #[.int .u8 (l.getD n 0)] W fun e w' => e = .returned (.tuple #[.int .i64 (oneI (l.getD n 0)), .bool true]) ∧ W = w') := Lib.hid fun W => one_yes _ W ho0
  clear ho0
  generalize oneI (l.getD n 0) = k1 at *
  clear h hby
  generalize (l.getD n 0) = c at *
  go_enter Try.func25, Try.ntmps25
  go_wp2_with (first | ((go_at_call 38; with_reducible refine CN.out.mono ?_); rintro e w1 ⟨rfl, hr1, hb1⟩; have CS : Hid (∀ (o d s z i : Int), Stt w B v l w1.heap.size w.heap.size o d s z i (n + 1) (w1.alloc (.cells #[.int .i64 o, .int .i64 d, .int .i64 s, .int .i64 z, .int .i64 i] 25))) := Lib.hid (Stt.start2 HL.out hr1 hb1); have b1 : w.heap.size + 1 ≤ w1.heap.size := (by have := hb1.size; simpa using this); have nQ : ¬ w.heap.size = w1.heap.size := (by omega); have X2 : Hid (∀ ob, Box5 (w1.alloc ob) w.heap.size 0 0 0 0 0) := Lib.hid (fun ob => ((Box5.new w 0 0 0 0 0).but hb1 (by omega)).but ((But.refl B w1).alloc ob) (by omega)); have q0 : ∀ ob, (w1.alloc ob).cell? ⟨w.heap.size, 0, none⟩ = some (.int .i64 0) := (fun ob => (X2.out ob).cells.1.1); have q1 : ∀ ob, (w1.alloc ob).cell? ⟨w.heap.size, 1, none⟩ = some (.int .i64 0) := (fun ob => (X2.out ob).cells.1.2.1); have q2 : ∀ ob, (w1.alloc ob).cell? ⟨w.heap.size, 2, none⟩ = some (.int .i64 0) := (fun ob => (X2.out ob).cells.1.2.2.1); have q3 : ∀ ob, (w1.alloc ob).cell? ⟨w.heap.size, 3, none⟩ = some (.int .i64 0) := (fun ob => (X2.out ob).cells.1.2.2.2.1); have q4 : ∀ ob, (w1.alloc ob).cell? ⟨w.heap.size, 4, none⟩ = some (.int .i64 0) := (fun ob => (X2.out ob).cells.1.2.2.2.2); have qf0 : ∀ ob, (w1.alloc ob).frozen? ⟨w.heap.size, 0, none⟩ = false := (fun ob => (X2.out ob).cells.2 0); have qf1 : ∀ ob, (w1.alloc ob).frozen? ⟨w.heap.size, 1, none⟩ = false := (fun ob => (X2.out ob).cells.2 1); have qf2 : ∀ ob, (w1.alloc ob).frozen? ⟨w.heap.size, 2, none⟩ = false := (fun ob => (X2.out ob).cells.2 2); have qf3 : ∀ ob, (w1.alloc ob).frozen? ⟨w.heap.size, 3, none⟩ = false := (fun ob => (X2.out ob).cells.2 3); have qf4 : ∀ ob, (w1.alloc ob).frozen? ⟨w.heap.size, 4, none⟩ = false := (fun ob => (X2.out ob).cells.2 4); clear hr1 hb1) | ((go_at_call 39; with_reducible refine (CO.out _).mono ?_); rintro e w' ⟨rfl, rfl⟩) | ((go_at_call 40; with_reducible refine (CF.out _ _ _ _ _ _ _ (CS.out k1 0 0 z 0)).mono ?_); rintro e w2 ⟨rfl, S2, bS2⟩; have HS2 := Lib.hid S2; clear S2))
  have pl := HS2.out.x.lt
  have ql := HS2.out.q.lt
  have rl := HS2.out.r.lt
  have n57 : ¬ w1.heap.size = w2.heap.size := by omega
  have n67 : ¬ w.heap.size = w2.heap.size := by omega
  have nB7 : w2.heap.size ≠ B := by omega
  clear pl ql rl
  have g0 : (w2.alloc (.cells #[.int .i64 r, .int .i64 m, .bool fb] 78)).cell? ⟨w2.heap.size, 0, none⟩ = some (.int .i64 r) := by simp [go_sem]
  have g1 : (w2.alloc (.cells #[.int .i64 r, .int .i64 m, .bool fb] 78)).cell? ⟨w2.heap.size, 1, none⟩ = some (.int .i64 m) := by simp [go_sem]
  have g2 : (w2.alloc (.cells #[.int .i64 r, .int .i64 m, .bool fb] 78)).cell? ⟨w2.heap.size, 2, none⟩ = some (.bool fb) := by simp [go_sem]
  have SX := HS2.out.alloc (.cells #[.int .i64 r, .int .i64 m, .bool fb] 78)
  have HSW3 := Lib.hid SX
  clear SX
  generalize w2.alloc (.cells #[.int .i64 r, .int .i64 m, .bool fb] 78) = W3 at *
  generalize w2.heap.size = b7 at *
  obtain ⟨p0, p1, p2, p3, p4, pf0, pf1, pf2, pf3, pf4, q0, q1, q2, q3, q4, qf0, qf1, qf2, qf3, qf4⟩ := HSW3.out.facts
  go_region
  go_wp2_with fail
  have eP : w.heap.size ≤ w1.heap.size := HSW3.out.pw
  have eQ : w.heap.size ≤ w.heap.size := HSW3.out.qw
  refine bodyPost_ret (v := (.agg #[.int .i64 k1, .int .i64 m, .int .i64 r, .int .i64 z, .int .i64 0])) (by simp [results, Try.results25, go_sem, p0, p1, p2, p3, p4, q0, q1, q2, q3, q4]) rfl ⟨rfl, Fin5.out HL.out.l HL.out.off ?_⟩
  repeat (first | with_reducible refine Fin5.drew ?_ | with_reducible refine Fin5.set ?_ eP _ _ | with_reducible refine Fin5.set ?_ eQ _ _)
  exact HSW3.out.fin
set_option maxRecDepth 100000 in
set_option maxHeartbeats 1000000 in
theorem gue_one_hi (v : Value) (B n : Nat) (l : List Int) (z : Int) (w : World) (h : RdL w B v l n) (hby : Byt l) (ho : 0 ≤ oneI (l.getD n 0)) (hl : decide ((l.getD n 0) < 144) = false) : Calls Try.prog 25 #[.pointer (some ⟨B, 0, none⟩), .int .i64 z] w fun e w' => e = .returned (.agg #[.int .i64 (oneI (l.getD n 0)), .int .i64 0, .int .i64 0, .int .i64 z, .int .i64 0]) ∧ RdL w' B v l (n + 1) ∧ But B w w' := by
  have HL := Lib.hid h
  have HBY := Lib.hid hby
  have hlt := h.r.lt
  have CN := Lib.hid (next_any v B n l (w.alloc (.cells #[.int .i64 0, .int .i64 0, .int .i64 0, .int .i64 0, .int .i64 0] 25)) (h.stays ((Below.refl _ _).alloc (Nat.le_refl _) _)))
  have hc0 := (hby n).1
  have hc1 := (hby n).2
  have ho0 := ho
  have CO : Hid (∀ W, Calls Try.prog 39 #[.int .u8 (l.getD n 0)] W fun e w' => e = .returned (.tuple #[.int .i64 (oneI (l.getD n 0)), .bool true]) ∧ W = w') := Lib.hid fun W => one_yes _ W ho0
  clear ho0
  generalize oneI (l.getD n 0) = k1 at *
  clear h hby
  generalize (l.getD n 0) = c at *
  go_enter Try.func25, Try.ntmps25
  go_wp2_with (first | ((go_at_call 38; with_reducible refine CN.out.mono ?_); rintro e w1 ⟨rfl, hr1, hb1⟩; have CS : Hid (∀ (o d s z i : Int), Stt w B v l w1.heap.size w.heap.size o d s z i (n + 1) (w1.alloc (.cells #[.int .i64 o, .int .i64 d, .int .i64 s, .int .i64 z, .int .i64 i] 25))) := Lib.hid (Stt.start2 HL.out hr1 hb1); have b1 : w.heap.size + 1 ≤ w1.heap.size := (by have := hb1.size; simpa using this); have nQ : ¬ w.heap.size = w1.heap.size := (by omega); have X2 : Hid (∀ ob, Box5 (w1.alloc ob) w.heap.size 0 0 0 0 0) := Lib.hid (fun ob => ((Box5.new w 0 0 0 0 0).but hb1 (by omega)).but ((But.refl B w1).alloc ob) (by omega)); have q0 : ∀ ob, (w1.alloc ob).cell? ⟨w.heap.size, 0, none⟩ = some (.int .i64 0) := (fun ob => (X2.out ob).cells.1.1); have q1 : ∀ ob, (w1.alloc ob).cell? ⟨w.heap.size, 1, none⟩ = some (.int .i64 0) := (fun ob => (X2.out ob).cells.1.2.1); have q2 : ∀ ob, (w1.alloc ob).cell? ⟨w.heap.size, 2, none⟩ = some (.int .i64 0) := (fun ob => (X2.out ob).cells.1.2.2.1); have q3 : ∀ ob, (w1.alloc ob).cell? ⟨w.heap.size, 3, none⟩ = some (.int .i64 0) := (fun ob => (X2.out ob).cells.1.2.2.2.1); have q4 : ∀ ob, (w1.alloc ob).cell? ⟨w.heap.size, 4, none⟩ = some (.int .i64 0) := (fun ob => (X2.out ob).cells.1.2.2.2.2); have qf0 : ∀ ob, (w1.alloc ob).frozen? ⟨w.heap.size, 0, none⟩ = false := (fun ob => (X2.out ob).cells.2 0); have qf1 : ∀ ob, (w1.alloc ob).frozen? ⟨w.heap.size, 1, none⟩ = false := (fun ob => (X2.out ob).cells.2 1); have qf2 : ∀ ob, (w1.alloc ob).frozen? ⟨w.heap.size, 2, none⟩ = false := (fun ob => (X2.out ob).cells.2 2); have qf3 : ∀ ob, (w1.alloc ob).frozen? ⟨w.heap.size, 3, none⟩ = false := (fun ob => (X2.out ob).cells.2 3); have qf4 : ∀ ob, (w1.alloc ob).frozen? ⟨w.heap.size, 4, none⟩ = false := (fun ob => (X2.out ob).cells.2 4); clear hr1 hb1) | ((go_at_call 39; with_reducible refine (CO.out _).mono ?_); rintro e w' ⟨rfl, rfl⟩))
  have eP : w.heap.size ≤ w1.heap.size := (CS.out k1 0 0 z 0).pw
  have eQ : w.heap.size ≤ w.heap.size := (CS.out k1 0 0 z 0).qw
  refine bodyPost_ret (v := (.agg #[.int .i64 k1, .int .i64 0, .int .i64 0, .int .i64 z, .int .i64 0])) (by simp [results, Try.results25, go_sem, q0, q1, q2, q3, q4]) rfl ⟨rfl, Fin5.out HL.out.l HL.out.off ?_⟩
  repeat (first | with_reducible refine Fin5.drew ?_ | with_reducible refine Fin5.set ?_ eP _ _ | with_reducible refine Fin5.set ?_ eQ _ _)
  exact (CS.out k1 0 0 z 0).fin
set_option maxRecDepth 100000 in
set_option maxHeartbeats 1000000 in
theorem gue_137 (v : Value) (B n : Nat) (l : List Int) (z : Int) (w : World) (h : RdL w B v l n) (hby : Byt l) (hc : (l.getD n 0) = 137) : Calls Try.prog 25 #[.pointer (some ⟨B, 0, none⟩), .int .i64 z] w fun e w' => e = .returned (InsV (movP (l.drop n) z).1) ∧ RdL w' B v l (n + (movP (l.drop n) z).2) ∧ But B w w' := by
  have HL := Lib.hid h
  have HBY := Lib.hid hby
  have hlt := h.r.lt
  have CN := Lib.hid (next_any v B n l (w.alloc (.cells #[.int .i64 0, .int .i64 0, .int .i64 0, .int .i64 0, .int .i64 0] 25)) (h.stays ((Below.refl _ _).alloc (Nat.le_refl _) _)))
  have hc0 := (hby n).1
  have hc1 := (hby n).2
  have ho : ¬ 0 ≤ oneI (l.getD n 0) := by rw [hc]; decide
  have CO : Hid (∀ W, Calls Try.prog 39 #[.int .u8 (l.getD n 0)] W fun e w' => e = .returned (.tuple #[.int .i64 0, .bool false]) ∧ W = w') := Lib.hid fun W => one_none _ W ho
  clear ho
  have CV : Hid (∀ (P : Nat) (W : World), Stt w B v l P w.heap.size (-1) 0 0 z 0 (n + 1) W → Calls Try.prog 41 #[.pointer (some ⟨B, 0, none⟩), .int .u8 137, (.agg #[.int .i64 (-1), .int .i64 0, .int .i64 0, .int .i64 z, .int .i64 0])] W fun e w' => e = .returned (InsV (movP (l.drop n) z).1) ∧ Stt w B v l P w.heap.size (-1) 0 0 z 0 (n + (movP (l.drop n) z).2) w' ∧ But B W w') := Lib.hid fun P W S => S.call (by have := moved_any v B n l z W S.rd HBY.out (by omega); rw [hc] at this; exact this)
  generalize movP (l.drop n) z = R at *
  obtain ⟨⟨o2, d2, s2, z2, i2⟩, kk⟩ := R
  rw [show InsV (⟨o2, d2, s2, z2, i2⟩ : Ins) = (.agg #[.int .i64 o2, .int .i64 d2, .int .i64 s2, .int .i64 z2, .int .i64 i2]) from rfl] at CV
  rw [hc] at CN CO
  clear h hby hc0 hc1
  exact qDj0
set_option maxRecDepth 100000 in
set_option maxHeartbeats 1000000 in
theorem gue_136 (v : Value) (B n : Nat) (l : List Int) (z : Int) (w : World) (h : RdL w B v l n) (hby : Byt l) (hc : (l.getD n 0) = 136) : Calls Try.prog 25 #[.pointer (some ⟨B, 0, none⟩), .int .i64 z] w fun e w' => e = .returned (InsV (movP (l.drop n) z).1) ∧ RdL w' B v l (n + (movP (l.drop n) z).2) ∧ But B w w' := by
  have HL := Lib.hid h
  have HBY := Lib.hid hby
  have hlt := h.r.lt
  have CN := Lib.hid (next_any v B n l (w.alloc (.cells #[.int .i64 0, .int .i64 0, .int .i64 0, .int .i64 0, .int .i64 0] 25)) (h.stays ((Below.refl _ _).alloc (Nat.le_refl _) _)))
  have hc0 := (hby n).1
  have hc1 := (hby n).2
  have ho : ¬ 0 ≤ oneI (l.getD n 0) := by rw [hc]; decide
  have CO : Hid (∀ W, Calls Try.prog 39 #[.int .u8 (l.getD n 0)] W fun e w' => e = .returned (.tuple #[.int .i64 0, .bool false]) ∧ W = w') := Lib.hid fun W => one_none _ W ho
  clear ho
  have CV : Hid (∀ (P : Nat) (W : World), Stt w B v l P w.heap.size (-1) 0 0 z 0 (n + 1) W → Calls Try.prog 41 #[.pointer (some ⟨B, 0, none⟩), .int .u8 136, (.agg #[.int .i64 (-1), .int .i64 0, .int .i64 0, .int .i64 z, .int .i64 0])] W fun e w' => e = .returned (InsV (movP (l.drop n) z).1) ∧ Stt w B v l P w.heap.size (-1) 0 0 z 0 (n + (movP (l.drop n) z).2) w' ∧ But B W w') := Lib.hid fun P W S => S.call (by have := moved_any v B n l z W S.rd HBY.out (by omega); rw [hc] at this; exact this)
  generalize movP (l.drop n) z = R at *
  obtain ⟨⟨o2, d2, s2, z2, i2⟩, kk⟩ := R
  rw [show InsV (⟨o2, d2, s2, z2, i2⟩ : Ins) = (.agg #[.int .i64 o2, .int .i64 d2, .int .i64 s2, .int .i64 z2, .int .i64 i2]) from rfl] at CV
  rw [hc] at CN CO
  clear h hby hc0 hc1
  exact qDj0
set_option maxRecDepth 100000 in
set_option maxHeartbeats 1000000 in
theorem gue_139 (v : Value) (B n : Nat) (l : List Int) (z : Int) (w : World) (h : RdL w B v l n) (hby : Byt l) (hc : (l.getD n 0) = 139) : Calls Try.prog 25 #[.pointer (some ⟨B, 0, none⟩), .int .i64 z] w fun e w' => e = .returned (InsV (movP (l.drop n) z).1) ∧ RdL w' B v l (n + (movP (l.drop n) z).2) ∧ But B w w' := by
  have HL := Lib.hid h
  have HBY := Lib.hid hby
  have hlt := h.r.lt
  have CN := Lib.hid (next_any v B n l (w.alloc (.cells #[.int .i64 0, .int .i64 0, .int .i64 0, .int .i64 0, .int .i64 0] 25)) (h.stays ((Below.refl _ _).alloc (Nat.le_refl _) _)))
  have hc0 := (hby n).1
  have hc1 := (hby n).2
  have ho : ¬ 0 ≤ oneI (l.getD n 0) := by rw [hc]; decide
  have CO : Hid (∀ W, Calls Try.prog 39 #[.int .u8 (l.getD n 0)] W fun e w' => e = .returned (.tuple #[.int .i64 0, .bool false]) ∧ W = w') := Lib.hid fun W => one_none _ W ho
  clear ho
  have CV : Hid (∀ (P : Nat) (W : World), Stt w B v l P w.heap.size (-1) 0 0 z 0 (n + 1) W → Calls Try.prog 41 #[.pointer (some ⟨B, 0, none⟩), .int .u8 139, (.agg #[.int .i64 (-1), .int .i64 0, .int .i64 0, .int .i64 z, .int .i64 0])] W fun e w' => e = .returned (InsV (movP (l.drop n) z).1) ∧ Stt w B v l P w.heap.size (-1) 0 0 z 0 (n + (movP (l.drop n) z).2) w' ∧ But B W w') := Lib.hid fun P W S => S.call (by have := moved_any v B n l z W S.rd HBY.out (by omega); rw [hc] at this; exact this)
  generalize movP (l.drop n) z = R at *
  obtain ⟨⟨o2, d2, s2, z2, i2⟩, kk⟩ := R
  rw [show InsV (⟨o2, d2, s2, z2, i2⟩ : Ins) = (.agg #[.int .i64 o2, .int .i64 d2, .int .i64 s2, .int .i64 z2, .int .i64 i2]) from rfl] at CV
  rw [hc] at CN CO
  clear h hby hc0 hc1
  exact qDj0
set_option maxRecDepth 100000 in
set_option maxHeartbeats 1000000 in
theorem gue_15 (v : Value) (B n : Nat) (l : List Int) (z : Int) (w : World) (h : RdL w B v l n) (hby : Byt l) (hc : (l.getD n 0) = 15) : Calls Try.prog 25 #[.pointer (some ⟨B, 0, none⟩), .int .i64 z] w fun e w' => e = .returned (InsV (secP (l.drop n) z).1) ∧ RdL w' B v l (n + (secP (l.drop n) z).2) ∧ But B w w' := by
  have HL := Lib.hid h
  have HBY := Lib.hid hby
  have hlt := h.r.lt
  have CN := Lib.hid (next_any v B n l (w.alloc (.cells #[.int .i64 0, .int .i64 0, .int .i64 0, .int .i64 0, .int .i64 0] 25)) (h.stays ((Below.refl _ _).alloc (Nat.le_refl _) _)))
  have hc0 := (hby n).1
  have hc1 := (hby n).2
  have ho : ¬ 0 ≤ oneI (l.getD n 0) := by rw [hc]; decide
  have CO : Hid (∀ W, Calls Try.prog 39 #[.int .u8 (l.getD n 0)] W fun e w' => e = .returned (.tuple #[.int .i64 0, .bool false]) ∧ W = w') := Lib.hid fun W => one_none _ W ho
  clear ho
  have CV : Hid (∀ (P : Nat) (W : World), Stt w B v l P w.heap.size (-1) 0 0 z 0 (n + 1) W → Calls Try.prog 45 #[.pointer (some ⟨B, 0, none⟩), (.agg #[.int .i64 (-1), .int .i64 0, .int .i64 0, .int .i64 z, .int .i64 0])] W fun e w' => e = .returned (InsV (secP (l.drop n) z).1) ∧ Stt w B v l P w.heap.size (-1) 0 0 z 0 (n + (secP (l.drop n) z).2) w' ∧ But B W w') := Lib.hid fun P W S => S.call (second_any v B n l z W S.rd HBY.out)
  generalize secP (l.drop n) z = R at *
  obtain ⟨⟨o2, d2, s2, z2, i2⟩, kk⟩ := R
  rw [show InsV (⟨o2, d2, s2, z2, i2⟩ : Ins) = (.agg #[.int .i64 o2, .int .i64 d2, .int .i64 s2, .int .i64 z2, .int .i64 i2]) from rfl] at CV
  rw [hc] at CN CO
  clear h hby hc0 hc1
  go_enter Try.func25, Try.ntmps25
  go_wp2_with (first | ((go_at_call 38; with_reducible refine CN.out.mono ?_); rintro e w1 ⟨rfl, hr1, hb1⟩; have CS : Hid (∀ (o d s z i : Int), Stt w B v l w1.heap.size w.heap.size o d s z i (n + 1) (w1.alloc (.cells #[.int .i64 o, .int .i64 d, .int .i64 s, .int .i64 z, .int .i64 i] 25))) := Lib.hid (Stt.start2 HL.out hr1 hb1); have b1 : w.heap.size + 1 ≤ w1.heap.size := (by have := hb1.size; simpa using this); have nQ : ¬ w.heap.size = w1.heap.size := (by omega); have X2 : Hid (∀ ob, Box5 (w1.alloc ob) w.heap.size 0 0 0 0 0) := Lib.hid (fun ob => ((Box5.new w 0 0 0 0 0).but hb1 (by omega)).but ((But.refl B w1).alloc ob) (by omega)); have q0 : ∀ ob, (w1.alloc ob).cell? ⟨w.heap.size, 0, none⟩ = some (.int .i64 0) := (fun ob => (X2.out ob).cells.1.1); have q1 : ∀ ob, (w1.alloc ob).cell? ⟨w.heap.size, 1, none⟩ = some (.int .i64 0) := (fun ob => (X2.out ob).cells.1.2.1); have q2 : ∀ ob, (w1.alloc ob).cell? ⟨w.heap.size, 2, none⟩ = some (.int .i64 0) := (fun ob => (X2.out ob).cells.1.2.2.1); have q3 : ∀ ob, (w1.alloc ob).cell? ⟨w.heap.size, 3, none⟩ = some (.int .i64 0) := (fun ob => (X2.out ob).cells.1.2.2.2.1); have q4 : ∀ ob, (w1.alloc ob).cell? ⟨w.heap.size, 4, none⟩ = some (.int .i64 0) := (fun ob => (X2.out ob).cells.1.2.2.2.2); have qf0 : ∀ ob, (w1.alloc ob).frozen? ⟨w.heap.size, 0, none⟩ = false := (fun ob => (X2.out ob).cells.2 0); have qf1 : ∀ ob, (w1.alloc ob).frozen? ⟨w.heap.size, 1, none⟩ = false := (fun ob => (X2.out ob).cells.2 1); have qf2 : ∀ ob, (w1.alloc ob).frozen? ⟨w.heap.size, 2, none⟩ = false := (fun ob => (X2.out ob).cells.2 2); have qf3 : ∀ ob, (w1.alloc ob).frozen? ⟨w.heap.size, 3, none⟩ = false := (fun ob => (X2.out ob).cells.2 3); have qf4 : ∀ ob, (w1.alloc ob).frozen? ⟨w.heap.size, 4, none⟩ = false := (fun ob => (X2.out ob).cells.2 4); clear hr1 hb1) | ((go_at_call 39; with_reducible refine (CO.out _).mono ?_); rintro e w' ⟨rfl, rfl⟩) | ((go_at_call 45; with_reducible refine (CV.out _ _ (CS.out (-1) 0 0 z 0)).mono ?_); rintro e w2 ⟨rfl, S2, bS2⟩; have HS2 := Lib.hid S2; clear S2; obtain ⟨p0, p1, p2, p3, p4, pf0, pf1, pf2, pf3, pf4, q0, q1, q2, q3, q4, qf0, qf1, qf2, qf3, qf4⟩ := HS2.out.facts))
  have eP : w.heap.size ≤ w1.heap.size := HS2.out.pw
  have eQ : w.heap.size ≤ w.heap.size := HS2.out.qw
  refine bodyPost_ret (v := (.agg #[.int .i64 o2, .int .i64 d2, .int .i64 s2, .int .i64 z2, .int .i64 i2])) (by simp [results, Try.results25, go_sem, p0, p1, p2, p3, p4, q0, q1, q2, q3, q4]) rfl ⟨rfl, Fin5.out HL.out.l HL.out.off ?_⟩
  exact qDj4
set_option maxRecDepth 100000 in
set_option maxHeartbeats 1000000 in
theorem gue_movi_16 (v : Value) (B n : Nat) (l : List Int)  (w : World) (h : RdL w B v l n) (hby : Byt l) (ho : ¬ 0 ≤ oneI (l.getD n 0)) (hlo : 184 ≤ (l.getD n 0)) (hhi : (l.getD n 0) ≤ 191) : Calls Try.prog 25 #[.pointer (some ⟨B, 0, none⟩), .int .i64 16] w fun e w' => e = .returned (.agg #[.int .i64 1, .int .i64 ((l.getD n 0) - 184), .int .i64 0, .int .i64 16, .int .i64 (rdB (l.drop (n + 1)) 2)]) ∧ RdL w' B v l (n + 3) ∧ But B w w' := by
  have HL := Lib.hid h
  have HBY := Lib.hid hby
  have hlt := h.r.lt
  have CN := Lib.hid (next_any v B n l (w.alloc (.cells #[.int .i64 0, .int .i64 0, .int .i64 0, .int .i64 0, .int .i64 0] 25)) (h.stays ((Below.refl _ _).alloc (Nat.le_refl _) _)))
  have hc0 := (hby n).1
  have hc1 := (hby n).2
  obtain ⟨y0, y1⟩ := rdB_bd2 hby (n + 1) 2 (by decide)
  obtain ⟨k, hk⟩ : ∃ k, rdB (l.drop (n + 1)) 2 = k := ⟨_, rfl⟩
  rw [hk] at y0 y1
  have CM : Hid (∀ (P : Nat) (o d s z i : Int) (W : World), Stt w B v l P w.heap.size o d s z i (n + 1) W → Calls Try.prog 42 #[.pointer (some ⟨B, 0, none⟩), .int .i64 2] W fun e w' => e = .returned (.int .u32 k) ∧ Stt w B v l P w.heap.size o d s z i (n + 1 + 2) w' ∧ But B W w') := Lib.hid fun P o d s z i W S => by rw [← hk]; exact S.call (rd_num v B (n + 1) 2 l W S.rd HBY.out (by decide))
  have HK := Lib.hid hk
  clear hk
  have CO : Hid (∀ W, Calls Try.prog 39 #[.int .u8 (l.getD n 0)] W fun e w' => e = .returned (.tuple #[.int .i64 0, .bool false]) ∧ W = w') := Lib.hid fun W => one_none _ W ho
  clear ho
  clear h hby
  generalize (l.getD n 0) = c at *
  have t137 : (c == 137) = false := by simp; omega
  have t136 : (c == 136) = false := by simp; omega
  have t139 : (c == 139) = false := by simp; omega
  have u0 : decide (184 ≤ c) = true := by simp; omega
  have u1 : decide (c ≤ 191) = true := by simp; omega
  have hs : IntKind.u8.wrap (c - 184) = c - 184 := by rw [IntKind.wrap_u8]; omega
  go_enter Try.func25, Try.ntmps25
  go_wp2_with (first | ((go_at_call 38; with_reducible refine CN.out.mono ?_); rintro e w1 ⟨rfl, hr1, hb1⟩; have CS : Hid (∀ (o d s z i : Int), Stt w B v l w1.heap.size w.heap.size o d s z i (n + 1) (w1.alloc (.cells #[.int .i64 o, .int .i64 d, .int .i64 s, .int .i64 z, .int .i64 i] 25))) := Lib.hid (Stt.start2 HL.out hr1 hb1); have b1 : w.heap.size + 1 ≤ w1.heap.size := (by have := hb1.size; simpa using this); have nQ : ¬ w.heap.size = w1.heap.size := (by omega); have X2 : Hid (∀ ob, Box5 (w1.alloc ob) w.heap.size 0 0 0 0 0) := Lib.hid (fun ob => ((Box5.new w 0 0 0 0 0).but hb1 (by omega)).but ((But.refl B w1).alloc ob) (by omega)); have q0 : ∀ ob, (w1.alloc ob).cell? ⟨w.heap.size, 0, none⟩ = some (.int .i64 0) := (fun ob => (X2.out ob).cells.1.1); have q1 : ∀ ob, (w1.alloc ob).cell? ⟨w.heap.size, 1, none⟩ = some (.int .i64 0) := (fun ob => (X2.out ob).cells.1.2.1); have q2 : ∀ ob, (w1.alloc ob).cell? ⟨w.heap.size, 2, none⟩ = some (.int .i64 0) := (fun ob => (X2.out ob).cells.1.2.2.1); have q3 : ∀ ob, (w1.alloc ob).cell? ⟨w.heap.size, 3, none⟩ = some (.int .i64 0) := (fun ob => (X2.out ob).cells.1.2.2.2.1); have q4 : ∀ ob, (w1.alloc ob).cell? ⟨w.heap.size, 4, none⟩ = some (.int .i64 0) := (fun ob => (X2.out ob).cells.1.2.2.2.2); have qf0 : ∀ ob, (w1.alloc ob).frozen? ⟨w.heap.size, 0, none⟩ = false := (fun ob => (X2.out ob).cells.2 0); have qf1 : ∀ ob, (w1.alloc ob).frozen? ⟨w.heap.size, 1, none⟩ = false := (fun ob => (X2.out ob).cells.2 1); have qf2 : ∀ ob, (w1.alloc ob).frozen? ⟨w.heap.size, 2, none⟩ = false := (fun ob => (X2.out ob).cells.2 2); have qf3 : ∀ ob, (w1.alloc ob).frozen? ⟨w.heap.size, 3, none⟩ = false := (fun ob => (X2.out ob).cells.2 3); have qf4 : ∀ ob, (w1.alloc ob).frozen? ⟨w.heap.size, 4, none⟩ = false := (fun ob => (X2.out ob).cells.2 4); clear hr1 hb1) | ((go_at_call 39; with_reducible refine (CO.out _).mono ?_); rintro e w' ⟨rfl, rfl⟩) | ((go_at_call 42; with_reducible refine (CM.out _ _ _ _ _ _ _ (CS.out (-1) 0 0 16 0)).mono ?_); rintro e w2 ⟨rfl, S2, bS2⟩; have HS2 := Lib.hid S2; clear S2; obtain ⟨p0, p1, p2, p3, p4, pf0, pf1, pf2, pf3, pf4, q0, q1, q2, q3, q4, qf0, qf1, qf2, qf3, qf4⟩ := HS2.out.facts))
  have eP : w.heap.size ≤ w1.heap.size := HS2.out.pw
  have eQ : w.heap.size ≤ w.heap.size := HS2.out.qw
  refine bodyPost_ret (v := (.agg #[.int .i64 1, .int .i64 (c - 184), .int .i64 0, .int .i64 16, .int .i64 k])) (by simp [results, Try.results25, go_sem, p0, p1, p2, p3, p4, q0, q1, q2, q3, q4]) rfl ⟨congrArg (fun k => Ending.returned (.agg #[.int .i64 1, .int .i64 (c - 184), .int .i64 0, .int .i64 16, .int .i64 k])) HK.out.symm, Fin5.out HL.out.l HL.out.off ?_⟩
  exact qDj4
set_option maxRecDepth 100000 in
set_option maxHeartbeats 1000000 in
theorem gue_movi_32 (v : Value) (B n : Nat) (l : List Int)  (w : World) (h : RdL w B v l n) (hby : Byt l) (ho : ¬ 0 ≤ oneI (l.getD n 0)) (hlo : 184 ≤ (l.getD n 0)) (hhi : (l.getD n 0) ≤ 191) : Calls Try.prog 25 #[.pointer (some ⟨B, 0, none⟩), .int .i64 32] w fun e w' => e = .returned (.agg #[.int .i64 1, .int .i64 ((l.getD n 0) - 184), .int .i64 0, .int .i64 32, .int .i64 (rdB (l.drop (n + 1)) 4)]) ∧ RdL w' B v l (n + 5) ∧ But B w w' := by
  have HL := Lib.hid h
  have HBY := Lib.hid hby
  have hlt := h.r.lt
  have CN := Lib.hid (next_any v B n l (w.alloc (.cells #[.int .i64 0, .int .i64 0, .int .i64 0, .int .i64 0, .int .i64 0] 25)) (h.stays ((Below.refl _ _).alloc (Nat.le_refl _) _)))
  have hc0 := (hby n).1
  have hc1 := (hby n).2
  obtain ⟨y0, y1⟩ := rdB_bd2 hby (n + 1) 4 (by decide)
  obtain ⟨k, hk⟩ : ∃ k, rdB (l.drop (n + 1)) 4 = k := ⟨_, rfl⟩
  rw [hk] at y0 y1
  have CM : Hid (∀ (P : Nat) (o d s z i : Int) (W : World), Stt w B v l P w.heap.size o d s z i (n + 1) W → Calls Try.prog 42 #[.pointer (some ⟨B, 0, none⟩), .int .i64 4] W fun e w' => e = .returned (.int .u32 k) ∧ Stt w B v l P w.heap.size o d s z i (n + 1 + 4) w' ∧ But B W w') := Lib.hid fun P o d s z i W S => by rw [← hk]; exact S.call (rd_num v B (n + 1) 4 l W S.rd HBY.out (by decide))
  have HK := Lib.hid hk
  clear hk
  have CO : Hid (∀ W, Calls Try.prog 39 #[.int .u8 (l.getD n 0)] W fun e w' => e = .returned (.tuple #[.int .i64 0, .bool false]) ∧ W = w') := Lib.hid fun W => one_none _ W ho
  clear ho
  clear h hby
  generalize (l.getD n 0) = c at *
  have t137 : (c == 137) = false := by simp; omega
  have t136 : (c == 136) = false := by simp; omega
  have t139 : (c == 139) = false := by simp; omega
  have u0 : decide (184 ≤ c) = true := by simp; omega
  have u1 : decide (c ≤ 191) = true := by simp; omega
  have hs : IntKind.u8.wrap (c - 184) = c - 184 := by rw [IntKind.wrap_u8]; omega
  go_enter Try.func25, Try.ntmps25
  go_wp2_with (first | ((go_at_call 38; with_reducible refine CN.out.mono ?_); rintro e w1 ⟨rfl, hr1, hb1⟩; have CS : Hid (∀ (o d s z i : Int), Stt w B v l w1.heap.size w.heap.size o d s z i (n + 1) (w1.alloc (.cells #[.int .i64 o, .int .i64 d, .int .i64 s, .int .i64 z, .int .i64 i] 25))) := Lib.hid (Stt.start2 HL.out hr1 hb1); have b1 : w.heap.size + 1 ≤ w1.heap.size := (by have := hb1.size; simpa using this); have nQ : ¬ w.heap.size = w1.heap.size := (by omega); have X2 : Hid (∀ ob, Box5 (w1.alloc ob) w.heap.size 0 0 0 0 0) := Lib.hid (fun ob => ((Box5.new w 0 0 0 0 0).but hb1 (by omega)).but ((But.refl B w1).alloc ob) (by omega)); have q0 : ∀ ob, (w1.alloc ob).cell? ⟨w.heap.size, 0, none⟩ = some (.int .i64 0) := (fun ob => (X2.out ob).cells.1.1); have q1 : ∀ ob, (w1.alloc ob).cell? ⟨w.heap.size, 1, none⟩ = some (.int .i64 0) := (fun ob => (X2.out ob).cells.1.2.1); have q2 : ∀ ob, (w1.alloc ob).cell? ⟨w.heap.size, 2, none⟩ = some (.int .i64 0) := (fun ob => (X2.out ob).cells.1.2.2.1); have q3 : ∀ ob, (w1.alloc ob).cell? ⟨w.heap.size, 3, none⟩ = some (.int .i64 0) := (fun ob => (X2.out ob).cells.1.2.2.2.1); have q4 : ∀ ob, (w1.alloc ob).cell? ⟨w.heap.size, 4, none⟩ = some (.int .i64 0) := (fun ob => (X2.out ob).cells.1.2.2.2.2); have qf0 : ∀ ob, (w1.alloc ob).frozen? ⟨w.heap.size, 0, none⟩ = false := (fun ob => (X2.out ob).cells.2 0); have qf1 : ∀ ob, (w1.alloc ob).frozen? ⟨w.heap.size, 1, none⟩ = false := (fun ob => (X2.out ob).cells.2 1); have qf2 : ∀ ob, (w1.alloc ob).frozen? ⟨w.heap.size, 2, none⟩ = false := (fun ob => (X2.out ob).cells.2 2); have qf3 : ∀ ob, (w1.alloc ob).frozen? ⟨w.heap.size, 3, none⟩ = false := (fun ob => (X2.out ob).cells.2 3); have qf4 : ∀ ob, (w1.alloc ob).frozen? ⟨w.heap.size, 4, none⟩ = false := (fun ob => (X2.out ob).cells.2 4); clear hr1 hb1) | ((go_at_call 39; with_reducible refine (CO.out _).mono ?_); rintro e w' ⟨rfl, rfl⟩) | ((go_at_call 42; with_reducible refine (CM.out _ _ _ _ _ _ _ (CS.out (-1) 0 0 32 0)).mono ?_); rintro e w2 ⟨rfl, S2, bS2⟩; have HS2 := Lib.hid S2; clear S2; obtain ⟨p0, p1, p2, p3, p4, pf0, pf1, pf2, pf3, pf4, q0, q1, q2, q3, q4, qf0, qf1, qf2, qf3, qf4⟩ := HS2.out.facts))
  have eP : w.heap.size ≤ w1.heap.size := HS2.out.pw
  have eQ : w.heap.size ≤ w.heap.size := HS2.out.qw
  refine bodyPost_ret (v := (.agg #[.int .i64 1, .int .i64 (c - 184), .int .i64 0, .int .i64 32, .int .i64 k])) (by simp [results, Try.results25, go_sem, p0, p1, p2, p3, p4, q0, q1, q2, q3, q4]) rfl ⟨congrArg (fun k => Ending.returned (.agg #[.int .i64 1, .int .i64 (c - 184), .int .i64 0, .int .i64 32, .int .i64 k])) HK.out.symm, Fin5.out HL.out.l HL.out.off ?_⟩
  exact qDj4
set_option maxRecDepth 100000 in
set_option maxHeartbeats 1000000 in
theorem gue_jcc8 (v : Value) (B n : Nat) (l : List Int) (z : Int) (w : World) (h : RdL w B v l n) (hby : Byt l) (ho : ¬ 0 ≤ oneI (l.getD n 0)) (hlo : 112 ≤ (l.getD n 0)) (hhi : (l.getD n 0) ≤ 127) : Calls Try.prog 25 #[.pointer (some ⟨B, 0, none⟩), .int .i64 z] w fun e w' => e = .returned (.agg #[.int .i64 32, .int .i64 0, .int .i64 ((l.getD n 0) - 112), .int .i64 8, .int .i64 (sg8 (l.getD (n + 1) 0))]) ∧ RdL w' B v l (n + 2) ∧ But B w w' := by
  have HL := Lib.hid h
  have HBY := Lib.hid hby
  have hlt := h.r.lt
  have CN := Lib.hid (next_any v B n l (w.alloc (.cells #[.int .i64 0, .int .i64 0, .int .i64 0, .int .i64 0, .int .i64 0] 25)) (h.stays ((Below.refl _ _).alloc (Nat.le_refl _) _)))
  have hc0 := (hby n).1
  have hc1 := (hby n).2
  have y0 := (hby (n + 1)).1
  have y1 := (hby (n + 1)).2
  obtain ⟨k, hk⟩ : ∃ k, (l.getD (n + 1) 0) = k := ⟨_, rfl⟩
  rw [hk] at y0 y1
  have CB : Hid (∀ (P : Nat) (o d s z i : Int) (W : World), Stt w B v l P w.heap.size o d s z i (n + 1) W → Calls Try.prog 38 #[.pointer (some ⟨B, 0, none⟩)] W fun e w' => e = .returned (.int .u8 k) ∧ Stt w B v l P w.heap.size o d s z i (n + 1 + 1) w' ∧ But B W w') := Lib.hid fun P o d s z i W S => by rw [← hk]; exact S.call (next_any v B (n + 1) l W S.rd)
  have HK := Lib.hid hk
  clear hk
  have CO : Hid (∀ W, Calls Try.prog 39 #[.int .u8 (l.getD n 0)] W fun e w' => e = .returned (.tuple #[.int .i64 0, .bool false]) ∧ W = w') := Lib.hid fun W => one_none _ W ho
  clear ho
  clear h hby
  generalize (l.getD n 0) = c at *
  have t137 : (c == 137) = false := by simp; omega
  have t136 : (c == 136) = false := by simp; omega
  have t139 : (c == 139) = false := by simp; omega
  have t129 : (c == 129) = false := by simp; omega
  have t131 : (c == 131) = false := by simp; omega
  have t211 : (c == 211) = false := by simp; omega
  have t247 : (c == 247) = false := by simp; omega
  have u0 : decide (184 ≤ c) = false := by simp; omega
  have u1 : decide (112 ≤ c) = true := by simp; omega
  have u2 : decide (c ≤ 127) = true := by simp; omega
  have hs : IntKind.u8.wrap (c - 112) = c - 112 := by rw [IntKind.wrap_u8]; omega
  have h8 := wrap_i8 y0 y1
  have h64 : IntKind.i64.wrap (sg8 k) = sg8 k := by rw [IntKind.wrap_i64]; unfold sg8; split <;> omega
  go_enter Try.func25, Try.ntmps25
  go_wp2_with (first | ((go_at_call 38; with_reducible refine CN.out.mono ?_); rintro e w1 ⟨rfl, hr1, hb1⟩; have CS : Hid (∀ (o d s z i : Int), Stt w B v l w1.heap.size w.heap.size o d s z i (n + 1) (w1.alloc (.cells #[.int .i64 o, .int .i64 d, .int .i64 s, .int .i64 z, .int .i64 i] 25))) := Lib.hid (Stt.start2 HL.out hr1 hb1); have b1 : w.heap.size + 1 ≤ w1.heap.size := (by have := hb1.size; simpa using this); have nQ : ¬ w.heap.size = w1.heap.size := (by omega); have X2 : Hid (∀ ob, Box5 (w1.alloc ob) w.heap.size 0 0 0 0 0) := Lib.hid (fun ob => ((Box5.new w 0 0 0 0 0).but hb1 (by omega)).but ((But.refl B w1).alloc ob) (by omega)); have q0 : ∀ ob, (w1.alloc ob).cell? ⟨w.heap.size, 0, none⟩ = some (.int .i64 0) := (fun ob => (X2.out ob).cells.1.1); have q1 : ∀ ob, (w1.alloc ob).cell? ⟨w.heap.size, 1, none⟩ = some (.int .i64 0) := (fun ob => (X2.out ob).cells.1.2.1); have q2 : ∀ ob, (w1.alloc ob).cell? ⟨w.heap.size, 2, none⟩ = some (.int .i64 0) := (fun ob => (X2.out ob).cells.1.2.2.1); have q3 : ∀ ob, (w1.alloc ob).cell? ⟨w.heap.size, 3, none⟩ = some (.int .i64 0) := (fun ob => (X2.out ob).cells.1.2.2.2.1); have q4 : ∀ ob, (w1.alloc ob).cell? ⟨w.heap.size, 4, none⟩ = some (.int .i64 0) := (fun ob => (X2.out ob).cells.1.2.2.2.2); have qf0 : ∀ ob, (w1.alloc ob).frozen? ⟨w.heap.size, 0, none⟩ = false := (fun ob => (X2.out ob).cells.2 0); have qf1 : ∀ ob, (w1.alloc ob).frozen? ⟨w.heap.size, 1, none⟩ = false := (fun ob => (X2.out ob).cells.2 1); have qf2 : ∀ ob, (w1.alloc ob).frozen? ⟨w.heap.size, 2, none⟩ = false := (fun ob => (X2.out ob).cells.2 2); have qf3 : ∀ ob, (w1.alloc ob).frozen? ⟨w.heap.size, 3, none⟩ = false := (fun ob => (X2.out ob).cells.2 3); have qf4 : ∀ ob, (w1.alloc ob).frozen? ⟨w.heap.size, 4, none⟩ = false := (fun ob => (X2.out ob).cells.2 4); clear hr1 hb1) | ((go_at_call 39; with_reducible refine (CO.out _).mono ?_); rintro e w' ⟨rfl, rfl⟩) | ((go_at_call 38; with_reducible refine (CB.out _ _ _ _ _ _ _ (CS.out (-1) 0 0 z 0)).mono ?_); rintro e w2 ⟨rfl, S2, bS2⟩; have HS2 := Lib.hid S2; clear S2; obtain ⟨p0, p1, p2, p3, p4, pf0, pf1, pf2, pf3, pf4, q0, q1, q2, q3, q4, qf0, qf1, qf2, qf3, qf4⟩ := HS2.out.facts))
  have eP : w.heap.size ≤ w1.heap.size := HS2.out.pw
  have eQ : w.heap.size ≤ w.heap.size := HS2.out.qw
  refine bodyPost_ret (v := (.agg #[.int .i64 32, .int .i64 0, .int .i64 (c - 112), .int .i64 8, .int .i64 (sg8 k)])) (by simp [results, Try.results25, go_sem, p0, p1, p2, p3, p4, q0, q1, q2, q3, q4]) rfl ⟨congrArg (fun k => Ending.returned (.agg #[.int .i64 32, .int .i64 0, .int .i64 (c - 112), .int .i64 8, .int .i64 (sg8 k)])) HK.out.symm, Fin5.out HL.out.l HL.out.off ?_⟩
  exact qDj4
set_option maxRecDepth 100000 in
set_option maxHeartbeats 1000000 in
theorem gue_235 (v : Value) (B n : Nat) (l : List Int) (z : Int) (w : World) (h : RdL w B v l n) (hby : Byt l) (hc : (l.getD n 0) = 235) : Calls Try.prog 25 #[.pointer (some ⟨B, 0, none⟩), .int .i64 z] w fun e w' => e = .returned (.agg #[.int .i64 33, .int .i64 0, .int .i64 0, .int .i64 8, .int .i64 (sg8 (l.getD (n + 1) 0))]) ∧ RdL w' B v l (n + 2) ∧ But B w w' := by
  have HL := Lib.hid h
  have HBY := Lib.hid hby
  have hlt := h.r.lt
  have CN := Lib.hid (next_any v B n l (w.alloc (.cells #[.int .i64 0, .int .i64 0, .int .i64 0, .int .i64 0, .int .i64 0] 25)) (h.stays ((Below.refl _ _).alloc (Nat.le_refl _) _)))
  have hc0 := (hby n).1
  have hc1 := (hby n).2
  have y0 := (hby (n + 1)).1
  have y1 := (hby (n + 1)).2
  obtain ⟨k, hk⟩ : ∃ k, (l.getD (n + 1) 0) = k := ⟨_, rfl⟩
  rw [hk] at y0 y1
  have CB : Hid (∀ (P : Nat) (o d s z i : Int) (W : World), Stt w B v l P w.heap.size o d s z i (n + 1) W → Calls Try.prog 38 #[.pointer (some ⟨B, 0, none⟩)] W fun e w' => e = .returned (.int .u8 k) ∧ Stt w B v l P w.heap.size o d s z i (n + 1 + 1) w' ∧ But B W w') := Lib.hid fun P o d s z i W S => by rw [← hk]; exact S.call (next_any v B (n + 1) l W S.rd)
  have HK := Lib.hid hk
  clear hk
  have ho : ¬ 0 ≤ oneI (l.getD n 0) := by rw [hc]; decide
  have CO : Hid (∀ W, Calls Try.prog 39 #[.int .u8 (l.getD n 0)] W fun e w' => e = .returned (.tuple #[.int .i64 0, .bool false]) ∧ W = w') := Lib.hid fun W => one_none _ W ho
  clear ho
  rw [hc] at CN CO
  clear h hby hc0 hc1
  have h8 := wrap_i8 y0 y1
  have h64 : IntKind.i64.wrap (sg8 k) = sg8 k := by rw [IntKind.wrap_i64]; unfold sg8; split <;> omega
  go_enter Try.func25, Try.ntmps25
  go_wp2_with (first | ((go_at_call 38; with_reducible refine CN.out.mono ?_); rintro e w1 ⟨rfl, hr1, hb1⟩; have CS : Hid (∀ (o d s z i : Int), Stt w B v l w1.heap.size w.heap.size o d s z i (n + 1) (w1.alloc (.cells #[.int .i64 o, .int .i64 d, .int .i64 s, .int .i64 z, .int .i64 i] 25))) := Lib.hid (Stt.start2 HL.out hr1 hb1); have b1 : w.heap.size + 1 ≤ w1.heap.size := (by have := hb1.size; simpa using this); have nQ : ¬ w.heap.size = w1.heap.size := (by omega); have X2 : Hid (∀ ob, Box5 (w1.alloc ob) w.heap.size 0 0 0 0 0) := Lib.hid (fun ob => ((Box5.new w 0 0 0 0 0).but hb1 (by omega)).but ((But.refl B w1).alloc ob) (by omega)); have q0 : ∀ ob, (w1.alloc ob).cell? ⟨w.heap.size, 0, none⟩ = some (.int .i64 0) := (fun ob => (X2.out ob).cells.1.1); have q1 : ∀ ob, (w1.alloc ob).cell? ⟨w.heap.size, 1, none⟩ = some (.int .i64 0) := (fun ob => (X2.out ob).cells.1.2.1); have q2 : ∀ ob, (w1.alloc ob).cell? ⟨w.heap.size, 2, none⟩ = some (.int .i64 0) := (fun ob => (X2.out ob).cells.1.2.2.1); have q3 : ∀ ob, (w1.alloc ob).cell? ⟨w.heap.size, 3, none⟩ = some (.int .i64 0) := (fun ob => (X2.out ob).cells.1.2.2.2.1); have q4 : ∀ ob, (w1.alloc ob).cell? ⟨w.heap.size, 4, none⟩ = some (.int .i64 0) := (fun ob => (X2.out ob).cells.1.2.2.2.2); have qf0 : ∀ ob, (w1.alloc ob).frozen? ⟨w.heap.size, 0, none⟩ = false := (fun ob => (X2.out ob).cells.2 0); have qf1 : ∀ ob, (w1.alloc ob).frozen? ⟨w.heap.size, 1, none⟩ = false := (fun ob => (X2.out ob).cells.2 1); have qf2 : ∀ ob, (w1.alloc ob).frozen? ⟨w.heap.size, 2, none⟩ = false := (fun ob => (X2.out ob).cells.2 2); have qf3 : ∀ ob, (w1.alloc ob).frozen? ⟨w.heap.size, 3, none⟩ = false := (fun ob => (X2.out ob).cells.2 3); have qf4 : ∀ ob, (w1.alloc ob).frozen? ⟨w.heap.size, 4, none⟩ = false := (fun ob => (X2.out ob).cells.2 4); clear hr1 hb1) | ((go_at_call 39; with_reducible refine (CO.out _).mono ?_); rintro e w' ⟨rfl, rfl⟩) | ((go_at_call 38; with_reducible refine (CB.out _ _ _ _ _ _ _ (CS.out (-1) 0 0 z 0)).mono ?_); rintro e w2 ⟨rfl, S2, bS2⟩; have HS2 := Lib.hid S2; clear S2; obtain ⟨p0, p1, p2, p3, p4, pf0, pf1, pf2, pf3, pf4, q0, q1, q2, q3, q4, qf0, qf1, qf2, qf3, qf4⟩ := HS2.out.facts))
  have eP : w.heap.size ≤ w1.heap.size := HS2.out.pw
  have eQ : w.heap.size ≤ w.heap.size := HS2.out.qw
  refine bodyPost_ret (v := (.agg #[.int .i64 33, .int .i64 0, .int .i64 0, .int .i64 8, .int .i64 (sg8 k)])) (by simp [results, Try.results25, go_sem, p0, p1, p2, p3, p4, q0, q1, q2, q3, q4]) rfl ⟨congrArg (fun k => Ending.returned (.agg #[.int .i64 33, .int .i64 0, .int .i64 0, .int .i64 8, .int .i64 (sg8 k)])) HK.out.symm, Fin5.out HL.out.l HL.out.off ?_⟩
  exact qDj4
set_option maxRecDepth 100000 in
set_option maxHeartbeats 1000000 in
theorem gue_233 (v : Value) (B n : Nat) (l : List Int) (z : Int) (w : World) (h : RdL w B v l n) (hby : Byt l) (hc : (l.getD n 0) = 233) : Calls Try.prog 25 #[.pointer (some ⟨B, 0, none⟩), .int .i64 z] w fun e w' => e = .returned (.agg #[.int .i64 33, .int .i64 0, .int .i64 0, .int .i64 z, .int .i64 (sg32 (rdB (l.drop (n + 1)) 4))]) ∧ RdL w' B v l (n + 5) ∧ But B w w' := by
  have HL := Lib.hid h
  have HBY := Lib.hid hby
  have hlt := h.r.lt
  have CN := Lib.hid (next_any v B n l (w.alloc (.cells #[.int .i64 0, .int .i64 0, .int .i64 0, .int .i64 0, .int .i64 0] 25)) (h.stays ((Below.refl _ _).alloc (Nat.le_refl _) _)))
  have hc0 := (hby n).1
  have hc1 := (hby n).2
  obtain ⟨k, hk⟩ : ∃ k, sg32 (rdB (l.drop (n + 1)) 4) = k := ⟨_, rfl⟩
  have CW : Hid (∀ (P : Nat) (o d s z i : Int) (W : World), Stt w B v l P w.heap.size o d s z i (n + 1) W → Calls Try.prog 44 #[.pointer (some ⟨B, 0, none⟩)] W fun e w' => e = .returned (.int .i64 k) ∧ Stt w B v l P w.heap.size o d s z i (n + 1 + 4) w' ∧ But B W w') := Lib.hid fun P o d s z i W S => by rw [← hk]; exact S.call (wide_any v B (n + 1) l W S.rd HBY.out)
  have HK := Lib.hid hk
  clear hk
  have ho : ¬ 0 ≤ oneI (l.getD n 0) := by rw [hc]; decide
  have CO : Hid (∀ W, Calls Try.prog 39 #[.int .u8 (l.getD n 0)] W fun e w' => e = .returned (.tuple #[.int .i64 0, .bool false]) ∧ W = w') := Lib.hid fun W => one_none _ W ho
  clear ho
  rw [hc] at CN CO
  clear h hby hc0 hc1
  go_enter Try.func25, Try.ntmps25
  go_wp2_with (first | ((go_at_call 38; with_reducible refine CN.out.mono ?_); rintro e w1 ⟨rfl, hr1, hb1⟩; have CS : Hid (∀ (o d s z i : Int), Stt w B v l w1.heap.size w.heap.size o d s z i (n + 1) (w1.alloc (.cells #[.int .i64 o, .int .i64 d, .int .i64 s, .int .i64 z, .int .i64 i] 25))) := Lib.hid (Stt.start2 HL.out hr1 hb1); have b1 : w.heap.size + 1 ≤ w1.heap.size := (by have := hb1.size; simpa using this); have nQ : ¬ w.heap.size = w1.heap.size := (by omega); have X2 : Hid (∀ ob, Box5 (w1.alloc ob) w.heap.size 0 0 0 0 0) := Lib.hid (fun ob => ((Box5.new w 0 0 0 0 0).but hb1 (by omega)).but ((But.refl B w1).alloc ob) (by omega)); have q0 : ∀ ob, (w1.alloc ob).cell? ⟨w.heap.size, 0, none⟩ = some (.int .i64 0) := (fun ob => (X2.out ob).cells.1.1); have q1 : ∀ ob, (w1.alloc ob).cell? ⟨w.heap.size, 1, none⟩ = some (.int .i64 0) := (fun ob => (X2.out ob).cells.1.2.1); have q2 : ∀ ob, (w1.alloc ob).cell? ⟨w.heap.size, 2, none⟩ = some (.int .i64 0) := (fun ob => (X2.out ob).cells.1.2.2.1); have q3 : ∀ ob, (w1.alloc ob).cell? ⟨w.heap.size, 3, none⟩ = some (.int .i64 0) := (fun ob => (X2.out ob).cells.1.2.2.2.1); have q4 : ∀ ob, (w1.alloc ob).cell? ⟨w.heap.size, 4, none⟩ = some (.int .i64 0) := (fun ob => (X2.out ob).cells.1.2.2.2.2); have qf0 : ∀ ob, (w1.alloc ob).frozen? ⟨w.heap.size, 0, none⟩ = false := (fun ob => (X2.out ob).cells.2 0); have qf1 : ∀ ob, (w1.alloc ob).frozen? ⟨w.heap.size, 1, none⟩ = false := (fun ob => (X2.out ob).cells.2 1); have qf2 : ∀ ob, (w1.alloc ob).frozen? ⟨w.heap.size, 2, none⟩ = false := (fun ob => (X2.out ob).cells.2 2); have qf3 : ∀ ob, (w1.alloc ob).frozen? ⟨w.heap.size, 3, none⟩ = false := (fun ob => (X2.out ob).cells.2 3); have qf4 : ∀ ob, (w1.alloc ob).frozen? ⟨w.heap.size, 4, none⟩ = false := (fun ob => (X2.out ob).cells.2 4); clear hr1 hb1) | ((go_at_call 39; with_reducible refine (CO.out _).mono ?_); rintro e w' ⟨rfl, rfl⟩) | ((go_at_call 44; with_reducible refine (CW.out _ _ _ _ _ _ _ (CS.out (-1) 0 0 z 0)).mono ?_); rintro e w2 ⟨rfl, S2, bS2⟩; have HS2 := Lib.hid S2; clear S2; obtain ⟨p0, p1, p2, p3, p4, pf0, pf1, pf2, pf3, pf4, q0, q1, q2, q3, q4, qf0, qf1, qf2, qf3, qf4⟩ := HS2.out.facts))
  have eP : w.heap.size ≤ w1.heap.size := HS2.out.pw
  have eQ : w.heap.size ≤ w.heap.size := HS2.out.qw
  refine bodyPost_ret (v := (.agg #[.int .i64 33, .int .i64 0, .int .i64 0, .int .i64 z, .int .i64 k])) (by simp [results, Try.results25, go_sem, p0, p1, p2, p3, p4, q0, q1, q2, q3, q4]) rfl ⟨congrArg (fun k => Ending.returned (.agg #[.int .i64 33, .int .i64 0, .int .i64 0, .int .i64 z, .int .i64 k])) HK.out.symm, Fin5.out HL.out.l HL.out.off ?_⟩
  exact qDj4
set_option maxRecDepth 100000 in
set_option maxHeartbeats 1000000 in
theorem gue_129_y_16 (v : Value) (B n : Nat) (l : List Int)  (w : World) (h : RdL w B v l n) (hby : Byt l) (hc : (l.getD n 0) = 129) (hg : decide (0 ≤ (grpI 129 (rF (l.getD (n + 1) 0)))) = true) : Calls Try.prog 25 #[.pointer (some ⟨B, 0, none⟩), .int .i64 16] w fun e w' => e = .returned (.agg #[.int .i64 (grpI 129 (rF (l.getD (n + 1) 0))), .int .i64 (mF (l.getD (n + 1) 0)), .int .i64 0, .int .i64 16, .int .i64 (rdB (l.drop (n + 2)) 2)]) ∧ RdL w' B v l (n + 4) ∧ But B w w' := by
  have HL := Lib.hid h
  have HBY := Lib.hid hby
  have hlt := h.r.lt
  have CN := Lib.hid (next_any v B n l (w.alloc (.cells #[.int .i64 0, .int .i64 0, .int .i64 0, .int .i64 0, .int .i64 0] 25)) (h.stays ((Below.refl _ _).alloc (Nat.le_refl _) _)))
  have hc0 := (hby n).1
  have hc1 := (hby n).2
  have CF : Hid (∀ (P : Nat) (o d s z i : Int) (W : World), Stt w B v l P w.heap.size o d s z i (n + 1) W → Calls Try.prog 40 #[.pointer (some ⟨B, 0, none⟩)] W fun e w' => e = .returned (.agg #[.int .i64 (rF (l.getD (n + 1) 0)), .int .i64 (mF (l.getD (n + 1) 0)), .bool ((l.getD (n + 1) 0) / 64 == 2)]) ∧ Stt w B v l P w.heap.size o d s z i (n + 1 + 1) w' ∧ But B W w') := Lib.hid fun P o d s z i W S => S.call (fields_any v B (n + 1) l W S.rd (HBY.out (n + 1)).1 (HBY.out (n + 1)).2)
  generalize ((l.getD (n + 1) 0) / 64 == 2) = fb at *
  obtain ⟨y0, y1⟩ := rdB_bd2 hby (n + 1 + 1) 2 (by decide)
  obtain ⟨k, hk⟩ : ∃ k, rdB (l.drop (n + 1 + 1)) 2 = k := ⟨_, rfl⟩
  rw [hk] at y0 y1
  have CM : Hid (∀ (P : Nat) (o d s z i : Int) (W : World), Stt w B v l P w.heap.size o d s z i (n + 1 + 1) W → Calls Try.prog 42 #[.pointer (some ⟨B, 0, none⟩), .int .i64 2] W fun e w' => e = .returned (.int .u32 k) ∧ Stt w B v l P w.heap.size o d s z i (n + 1 + 1 + 2) w' ∧ But B W w') := Lib.hid fun P o d s z i W S => by rw [← hk]; exact S.call (rd_num v B (n + 1 + 1) 2 l W S.rd HBY.out (by decide))
  have HK := Lib.hid hk
  clear hk
  have ho : ¬ 0 ≤ oneI (l.getD n 0) := by rw [hc]; decide
  have CO : Hid (∀ W, Calls Try.prog 39 #[.int .u8 (l.getD n 0)] W fun e w' => e = .returned (.tuple #[.int .i64 0, .bool false]) ∧ W = w') := Lib.hid fun W => one_none _ W ho
  clear ho
  obtain ⟨r0, r1⟩ : 0 ≤ rF (l.getD (n + 1) 0) ∧ rF (l.getD (n + 1) 0) < 8 := by unfold rF; omega
  have CG : Hid (∀ W, Calls Try.prog 43 #[.int .u8 129, .int .u8 (rF (l.getD (n + 1) 0))] W fun e w' => e = .returned (.tuple #[.int .i64 (grpI 129 (rF (l.getD (n + 1) 0))), .bool (decide (0 ≤ grpI 129 (rF (l.getD (n + 1) 0))))]) ∧ W = w') := Lib.hid fun W => group_129 _ W r0 r1
  rw [hg] at CG
  clear hg
  generalize rF (l.getD (n + 1) 0) = r at *
  generalize mF (l.getD (n + 1) 0) = m at *
  generalize grpI 129 r = gi at *
  rw [hc] at CN CO
  clear h hby hc0 hc1
  have hr : IntKind.u8.wrap r = r := by rw [IntKind.wrap_u8]; omega
  go_enter Try.func25, Try.ntmps25
  go_wp2_with (first | ((go_at_call 38; with_reducible refine CN.out.mono ?_); rintro e w1 ⟨rfl, hr1, hb1⟩; have CS : Hid (∀ (o d s z i : Int), Stt w B v l w1.heap.size w.heap.size o d s z i (n + 1) (w1.alloc (.cells #[.int .i64 o, .int .i64 d, .int .i64 s, .int .i64 z, .int .i64 i] 25))) := Lib.hid (Stt.start2 HL.out hr1 hb1); have b1 : w.heap.size + 1 ≤ w1.heap.size := (by have := hb1.size; simpa using this); have nQ : ¬ w.heap.size = w1.heap.size := (by omega); have X2 : Hid (∀ ob, Box5 (w1.alloc ob) w.heap.size 0 0 0 0 0) := Lib.hid (fun ob => ((Box5.new w 0 0 0 0 0).but hb1 (by omega)).but ((But.refl B w1).alloc ob) (by omega)); have q0 : ∀ ob, (w1.alloc ob).cell? ⟨w.heap.size, 0, none⟩ = some (.int .i64 0) := (fun ob => (X2.out ob).cells.1.1); have q1 : ∀ ob, (w1.alloc ob).cell? ⟨w.heap.size, 1, none⟩ = some (.int .i64 0) := (fun ob => (X2.out ob).cells.1.2.1); have q2 : ∀ ob, (w1.alloc ob).cell? ⟨w.heap.size, 2, none⟩ = some (.int .i64 0) := (fun ob => (X2.out ob).cells.1.2.2.1); have q3 : ∀ ob, (w1.alloc ob).cell? ⟨w.heap.size, 3, none⟩ = some (.int .i64 0) := (fun ob => (X2.out ob).cells.1.2.2.2.1); have q4 : ∀ ob, (w1.alloc ob).cell? ⟨w.heap.size, 4, none⟩ = some (.int .i64 0) := (fun ob => (X2.out ob).cells.1.2.2.2.2); have qf0 : ∀ ob, (w1.alloc ob).frozen? ⟨w.heap.size, 0, none⟩ = false := (fun ob => (X2.out ob).cells.2 0); have qf1 : ∀ ob, (w1.alloc ob).frozen? ⟨w.heap.size, 1, none⟩ = false := (fun ob => (X2.out ob).cells.2 1); have qf2 : ∀ ob, (w1.alloc ob).frozen? ⟨w.heap.size, 2, none⟩ = false := (fun ob => (X2.out ob).cells.2 2); have qf3 : ∀ ob, (w1.alloc ob).frozen? ⟨w.heap.size, 3, none⟩ = false := (fun ob => (X2.out ob).cells.2 3); have qf4 : ∀ ob, (w1.alloc ob).frozen? ⟨w.heap.size, 4, none⟩ = false := (fun ob => (X2.out ob).cells.2 4); clear hr1 hb1) | ((go_at_call 39; with_reducible refine (CO.out _).mono ?_); rintro e w' ⟨rfl, rfl⟩) | ((go_at_call 40; with_reducible refine (CF.out _ _ _ _ _ _ _ (CS.out (-1) 0 0 16 0)).mono ?_); rintro e w2 ⟨rfl, S2, bS2⟩; have HS2 := Lib.hid S2; clear S2) | ((go_at_call 43; with_reducible refine (CG.out _).mono ?_); rintro e w' ⟨rfl, rfl⟩))
  have pl := HS2.out.x.lt
  have ql := HS2.out.q.lt
  have rl := HS2.out.r.lt
  have n57 : ¬ w1.heap.size = w2.heap.size := by omega
  have n67 : ¬ w.heap.size = w2.heap.size := by omega
  have nB7 : w2.heap.size ≠ B := by omega
  clear pl ql rl
  have g0 : (w2.alloc (.cells #[.int .i64 r, .int .i64 m, .bool fb] 78)).cell? ⟨w2.heap.size, 0, none⟩ = some (.int .i64 r) := by simp [go_sem]
  have g1 : (w2.alloc (.cells #[.int .i64 r, .int .i64 m, .bool fb] 78)).cell? ⟨w2.heap.size, 1, none⟩ = some (.int .i64 m) := by simp [go_sem]
  have g2 : (w2.alloc (.cells #[.int .i64 r, .int .i64 m, .bool fb] 78)).cell? ⟨w2.heap.size, 2, none⟩ = some (.bool fb) := by simp [go_sem]
  have SX := HS2.out.alloc (.cells #[.int .i64 r, .int .i64 m, .bool fb] 78)
  have HSW3 := Lib.hid SX
  clear SX
  generalize w2.alloc (.cells #[.int .i64 r, .int .i64 m, .bool fb] 78) = W3 at *
  generalize w2.heap.size = b7 at *
  obtain ⟨p0, p1, p2, p3, p4, pf0, pf1, pf2, pf3, pf4, q0, q1, q2, q3, q4, qf0, qf1, qf2, qf3, qf4⟩ := HSW3.out.facts
  go_region
  clear p0 p1 p2 p3 p4 pf0 pf1 pf2 pf3 pf4 q0 q1 q2 q3 q4 qf0 qf1 qf2 qf3 qf4
  go_wp2_with (((go_at_call 42; with_reducible refine Calls.mono (CM.out w1.heap.size gi m 0 16 0 _ ?_) ?_); (focus ((repeat (first | with_reducible refine Stt.drew ?_ | with_reducible apply Stt.set0 | with_reducible apply Stt.set1 | with_reducible apply Stt.set2 | with_reducible apply Stt.set3 | with_reducible apply Stt.set4)); exact HSW3.out)); rintro e w4 ⟨rfl, S4, bS4⟩; have HS4 := Lib.hid S4; clear S4; obtain ⟨p0, p1, p2, p3, p4, pf0, pf1, pf2, pf3, pf4, q0, q1, q2, q3, q4, qf0, qf1, qf2, qf3, qf4⟩ := HS4.out.facts))
  have eP : w.heap.size ≤ w1.heap.size := HS4.out.pw
  have eQ : w.heap.size ≤ w.heap.size := HS4.out.qw
  refine bodyPost_ret (v := (.agg #[.int .i64 gi, .int .i64 m, .int .i64 0, .int .i64 16, .int .i64 k])) (by simp [results, Try.results25, go_sem, p0, p1, p2, p3, p4, q0, q1, q2, q3, q4]) rfl ⟨congrArg (fun k => Ending.returned (.agg #[.int .i64 gi, .int .i64 m, .int .i64 0, .int .i64 16, .int .i64 k])) HK.out.symm, Fin5.out HL.out.l HL.out.off ?_⟩
  exact qDj5
set_option maxRecDepth 100000 in
set_option maxHeartbeats 1000000 in
theorem gue_129_y_32 (v : Value) (B n : Nat) (l : List Int)  (w : World) (h : RdL w B v l n) (hby : Byt l) (hc : (l.getD n 0) = 129) (hg : decide (0 ≤ (grpI 129 (rF (l.getD (n + 1) 0)))) = true) : Calls Try.prog 25 #[.pointer (some ⟨B, 0, none⟩), .int .i64 32] w fun e w' => e = .returned (.agg #[.int .i64 (grpI 129 (rF (l.getD (n + 1) 0))), .int .i64 (mF (l.getD (n + 1) 0)), .int .i64 0, .int .i64 32, .int .i64 (rdB (l.drop (n + 2)) 4)]) ∧ RdL w' B v l (n + 6) ∧ But B w w' := by
  have HL := Lib.hid h
  have HBY := Lib.hid hby
  have hlt := h.r.lt
  have CN := Lib.hid (next_any v B n l (w.alloc (.cells #[.int .i64 0, .int .i64 0, .int .i64 0, .int .i64 0, .int .i64 0] 25)) (h.stays ((Below.refl _ _).alloc (Nat.le_refl _) _)))
  have hc0 := (hby n).1
  have hc1 := (hby n).2
  have CF : Hid (∀ (P : Nat) (o d s z i : Int) (W : World), Stt w B v l P w.heap.size o d s z i (n + 1) W → Calls Try.prog 40 #[.pointer (some ⟨B, 0, none⟩)] W fun e w' => e = .returned (.agg #[.int .i64 (rF (l.getD (n + 1) 0)), .int .i64 (mF (l.getD (n + 1) 0)), .bool ((l.getD (n + 1) 0) / 64 == 2)]) ∧ Stt w B v l P w.heap.size o d s z i (n + 1 + 1) w' ∧ But B W w') := Lib.hid fun P o d s z i W S => S.call (fields_any v B (n + 1) l W S.rd (HBY.out (n + 1)).1 (HBY.out (n + 1)).2)
  generalize ((l.getD (n + 1) 0) / 64 == 2) = fb at *
  obtain ⟨y0, y1⟩ := rdB_bd2 hby (n + 1 + 1) 4 (by decide)
  obtain ⟨k, hk⟩ : ∃ k, rdB (l.drop (n + 1 + 1)) 4 = k := ⟨_, rfl⟩
  rw [hk] at y0 y1
  have CM : Hid (∀ (P : Nat) (o d s z i : Int) (W : World), Stt w B v l P w.heap.size o d s z i (n + 1 + 1) W → Calls Try.prog 42 #[.pointer (some ⟨B, 0, none⟩), .int .i64 4] W fun e w' => e = .returned (.int .u32 k) ∧ Stt w B v l P w.heap.size o d s z i (n + 1 + 1 + 4) w' ∧ But B W w') := Lib.hid fun P o d s z i W S => by rw [← hk]; exact S.call (rd_num v B (n + 1 + 1) 4 l W S.rd HBY.out (by decide))
  have HK := Lib.hid hk
  clear hk
  have ho : ¬ 0 ≤ oneI (l.getD n 0) := by rw [hc]; decide
  have CO : Hid (∀ W, Calls Try.prog 39 #[.int .u8 (l.getD n 0)] W fun e w' => e = .returned (.tuple #[.int .i64 0, .bool false]) ∧ W = w') := Lib.hid fun W => one_none _ W ho
  clear ho
  obtain ⟨r0, r1⟩ : 0 ≤ rF (l.getD (n + 1) 0) ∧ rF (l.getD (n + 1) 0) < 8 := by unfold rF; omega
  have CG : Hid (∀ W, Calls Try.prog 43 #[.int .u8 129, .int .u8 (rF (l.getD (n + 1) 0))] W fun e w' => e = .returned (.tuple #[.int .i64 (grpI 129 (rF (l.getD (n + 1) 0))), .bool (decide (0 ≤ grpI 129 (rF (l.getD (n + 1) 0))))]) ∧ W = w') := Lib.hid fun W => group_129 _ W r0 r1
  rw [hg] at CG
  clear hg
  generalize rF (l.getD (n + 1) 0) = r at *
  generalize mF (l.getD (n + 1) 0) = m at *
  generalize grpI 129 r = gi at *
  rw [hc] at CN CO
  clear h hby hc0 hc1
  have hr : IntKind.u8.wrap r = r := by rw [IntKind.wrap_u8]; omega
  go_enter Try.func25, Try.ntmps25
  go_wp2_with (first | ((go_at_call 38; with_reducible refine CN.out.mono ?_); rintro e w1 ⟨rfl, hr1, hb1⟩; have CS : Hid (∀ (o d s z i : Int), Stt w B v l w1.heap.size w.heap.size o d s z i (n + 1) (w1.alloc (.cells #[.int .i64 o, .int .i64 d, .int .i64 s, .int .i64 z, .int .i64 i] 25))) := Lib.hid (Stt.start2 HL.out hr1 hb1); have b1 : w.heap.size + 1 ≤ w1.heap.size := (by have := hb1.size; simpa using this); have nQ : ¬ w.heap.size = w1.heap.size := (by omega); have X2 : Hid (∀ ob, Box5 (w1.alloc ob) w.heap.size 0 0 0 0 0) := Lib.hid (fun ob => ((Box5.new w 0 0 0 0 0).but hb1 (by omega)).but ((But.refl B w1).alloc ob) (by omega)); have q0 : ∀ ob, (w1.alloc ob).cell? ⟨w.heap.size, 0, none⟩ = some (.int .i64 0) := (fun ob => (X2.out ob).cells.1.1); have q1 : ∀ ob, (w1.alloc ob).cell? ⟨w.heap.size, 1, none⟩ = some (.int .i64 0) := (fun ob => (X2.out ob).cells.1.2.1); have q2 : ∀ ob, (w1.alloc ob).cell? ⟨w.heap.size, 2, none⟩ = some (.int .i64 0) := (fun ob => (X2.out ob).cells.1.2.2.1); have q3 : ∀ ob, (w1.alloc ob).cell? ⟨w.heap.size, 3, none⟩ = some (.int .i64 0) := (fun ob => (X2.out ob).cells.1.2.2.2.1); have q4 : ∀ ob, (w1.alloc ob).cell? ⟨w.heap.size, 4, none⟩ = some (.int .i64 0) := (fun ob => (X2.out ob).cells.1.2.2.2.2); have qf0 : ∀ ob, (w1.alloc ob).frozen? ⟨w.heap.size, 0, none⟩ = false := (fun ob => (X2.out ob).cells.2 0); have qf1 : ∀ ob, (w1.alloc ob).frozen? ⟨w.heap.size, 1, none⟩ = false := (fun ob => (X2.out ob).cells.2 1); have qf2 : ∀ ob, (w1.alloc ob).frozen? ⟨w.heap.size, 2, none⟩ = false := (fun ob => (X2.out ob).cells.2 2); have qf3 : ∀ ob, (w1.alloc ob).frozen? ⟨w.heap.size, 3, none⟩ = false := (fun ob => (X2.out ob).cells.2 3); have qf4 : ∀ ob, (w1.alloc ob).frozen? ⟨w.heap.size, 4, none⟩ = false := (fun ob => (X2.out ob).cells.2 4); clear hr1 hb1) | ((go_at_call 39; with_reducible refine (CO.out _).mono ?_); rintro e w' ⟨rfl, rfl⟩) | ((go_at_call 40; with_reducible refine (CF.out _ _ _ _ _ _ _ (CS.out (-1) 0 0 32 0)).mono ?_); rintro e w2 ⟨rfl, S2, bS2⟩; have HS2 := Lib.hid S2; clear S2) | ((go_at_call 43; with_reducible refine (CG.out _).mono ?_); rintro e w' ⟨rfl, rfl⟩))
  have pl := HS2.out.x.lt
  have ql := HS2.out.q.lt
  have rl := HS2.out.r.lt
  have n57 : ¬ w1.heap.size = w2.heap.size := by omega
  have n67 : ¬ w.heap.size = w2.heap.size := by omega
  have nB7 : w2.heap.size ≠ B := by omega
  clear pl ql rl
  have g0 : (w2.alloc (.cells #[.int .i64 r, .int .i64 m, .bool fb] 78)).cell? ⟨w2.heap.size, 0, none⟩ = some (.int .i64 r) := by simp [go_sem]
  have g1 : (w2.alloc (.cells #[.int .i64 r, .int .i64 m, .bool fb] 78)).cell? ⟨w2.heap.size, 1, none⟩ = some (.int .i64 m) := by simp [go_sem]
  have g2 : (w2.alloc (.cells #[.int .i64 r, .int .i64 m, .bool fb] 78)).cell? ⟨w2.heap.size, 2, none⟩ = some (.bool fb) := by simp [go_sem]
  have SX := HS2.out.alloc (.cells #[.int .i64 r, .int .i64 m, .bool fb] 78)
  have HSW3 := Lib.hid SX
  clear SX
  generalize w2.alloc (.cells #[.int .i64 r, .int .i64 m, .bool fb] 78) = W3 at *
  generalize w2.heap.size = b7 at *
  obtain ⟨p0, p1, p2, p3, p4, pf0, pf1, pf2, pf3, pf4, q0, q1, q2, q3, q4, qf0, qf1, qf2, qf3, qf4⟩ := HSW3.out.facts
  go_region
  clear p0 p1 p2 p3 p4 pf0 pf1 pf2 pf3 pf4 q0 q1 q2 q3 q4 qf0 qf1 qf2 qf3 qf4
  go_wp2_with (((go_at_call 42; with_reducible refine Calls.mono (CM.out w1.heap.size gi m 0 32 0 _ ?_) ?_); (focus ((repeat (first | with_reducible refine Stt.drew ?_ | with_reducible apply Stt.set0 | with_reducible apply Stt.set1 | with_reducible apply Stt.set2 | with_reducible apply Stt.set3 | with_reducible apply Stt.set4)); exact HSW3.out)); rintro e w4 ⟨rfl, S4, bS4⟩; have HS4 := Lib.hid S4; clear S4; obtain ⟨p0, p1, p2, p3, p4, pf0, pf1, pf2, pf3, pf4, q0, q1, q2, q3, q4, qf0, qf1, qf2, qf3, qf4⟩ := HS4.out.facts))
  have eP : w.heap.size ≤ w1.heap.size := HS4.out.pw
  have eQ : w.heap.size ≤ w.heap.size := HS4.out.qw
  refine bodyPost_ret (v := (.agg #[.int .i64 gi, .int .i64 m, .int .i64 0, .int .i64 32, .int .i64 k])) (by simp [results, Try.results25, go_sem, p0, p1, p2, p3, p4, q0, q1, q2, q3, q4]) rfl ⟨congrArg (fun k => Ending.returned (.agg #[.int .i64 gi, .int .i64 m, .int .i64 0, .int .i64 32, .int .i64 k])) HK.out.symm, Fin5.out HL.out.l HL.out.off ?_⟩
  exact qDj5
set_option maxRecDepth 100000 in
set_option maxHeartbeats 1000000 in
theorem gue_129_n_16 (v : Value) (B n : Nat) (l : List Int)  (w : World) (h : RdL w B v l n) (hby : Byt l) (hc : (l.getD n 0) = 129) (hg : decide (0 ≤ (grpI 129 (rF (l.getD (n + 1) 0)))) = false) : Calls Try.prog 25 #[.pointer (some ⟨B, 0, none⟩), .int .i64 16] w fun e w' => e = .returned (.agg #[.int .i64 (-1), .int .i64 0, .int .i64 0, .int .i64 16, .int .i64 (rdB (l.drop (n + 2)) 2)]) ∧ RdL w' B v l (n + 4) ∧ But B w w' := by
  have HL := Lib.hid h
  have HBY := Lib.hid hby
  have hlt := h.r.lt
  have CN := Lib.hid (next_any v B n l (w.alloc (.cells #[.int .i64 0, .int .i64 0, .int .i64 0, .int .i64 0, .int .i64 0] 25)) (h.stays ((Below.refl _ _).alloc (Nat.le_refl _) _)))
  have hc0 := (hby n).1
  have hc1 := (hby n).2
  have CF : Hid (∀ (P : Nat) (o d s z i : Int) (W : World), Stt w B v l P w.heap.size o d s z i (n + 1) W → Calls Try.prog 40 #[.pointer (some ⟨B, 0, none⟩)] W fun e w' => e = .returned (.agg #[.int .i64 (rF (l.getD (n + 1) 0)), .int .i64 (mF (l.getD (n + 1) 0)), .bool ((l.getD (n + 1) 0) / 64 == 2)]) ∧ Stt w B v l P w.heap.size o d s z i (n + 1 + 1) w' ∧ But B W w') := Lib.hid fun P o d s z i W S => S.call (fields_any v B (n + 1) l W S.rd (HBY.out (n + 1)).1 (HBY.out (n + 1)).2)
  generalize ((l.getD (n + 1) 0) / 64 == 2) = fb at *
  obtain ⟨y0, y1⟩ := rdB_bd2 hby (n + 1 + 1) 2 (by decide)
  obtain ⟨k, hk⟩ : ∃ k, rdB (l.drop (n + 1 + 1)) 2 = k := ⟨_, rfl⟩
  rw [hk] at y0 y1
  have CM : Hid (∀ (P : Nat) (o d s z i : Int) (W : World), Stt w B v l P w.heap.size o d s z i (n + 1 + 1) W → Calls Try.prog 42 #[.pointer (some ⟨B, 0, none⟩), .int .i64 2] W fun e w' => e = .returned (.int .u32 k) ∧ Stt w B v l P w.heap.size o d s z i (n + 1 + 1 + 2) w' ∧ But B W w') := Lib.hid fun P o d s z i W S => by rw [← hk]; exact S.call (rd_num v B (n + 1 + 1) 2 l W S.rd HBY.out (by decide))
  have HK := Lib.hid hk
  clear hk
  have ho : ¬ 0 ≤ oneI (l.getD n 0) := by rw [hc]; decide
  have CO : Hid (∀ W, Calls Try.prog 39 #[.int .u8 (l.getD n 0)] W fun e w' => e = .returned (.tuple #[.int .i64 0, .bool false]) ∧ W = w') := Lib.hid fun W => one_none _ W ho
  clear ho
  obtain ⟨r0, r1⟩ : 0 ≤ rF (l.getD (n + 1) 0) ∧ rF (l.getD (n + 1) 0) < 8 := by unfold rF; omega
  have CG : Hid (∀ W, Calls Try.prog 43 #[.int .u8 129, .int .u8 (rF (l.getD (n + 1) 0))] W fun e w' => e = .returned (.tuple #[.int .i64 (grpI 129 (rF (l.getD (n + 1) 0))), .bool (decide (0 ≤ grpI 129 (rF (l.getD (n + 1) 0))))]) ∧ W = w') := Lib.hid fun W => group_129 _ W r0 r1
  rw [hg] at CG
  clear hg
  generalize rF (l.getD (n + 1) 0) = r at *
  generalize mF (l.getD (n + 1) 0) = m at *
  generalize grpI 129 r = gi at *
  rw [hc] at CN CO
  clear h hby hc0 hc1
  have hr : IntKind.u8.wrap r = r := by rw [IntKind.wrap_u8]; omega
  go_enter Try.func25, Try.ntmps25
  go_wp2_with (first | ((go_at_call 38; with_reducible refine CN.out.mono ?_); rintro e w1 ⟨rfl, hr1, hb1⟩; have CS : Hid (∀ (o d s z i : Int), Stt w B v l w1.heap.size w.heap.size o d s z i (n + 1) (w1.alloc (.cells #[.int .i64 o, .int .i64 d, .int .i64 s, .int .i64 z, .int .i64 i] 25))) := Lib.hid (Stt.start2 HL.out hr1 hb1); have b1 : w.heap.size + 1 ≤ w1.heap.size := (by have := hb1.size; simpa using this); have nQ : ¬ w.heap.size = w1.heap.size := (by omega); have X2 : Hid (∀ ob, Box5 (w1.alloc ob) w.heap.size 0 0 0 0 0) := Lib.hid (fun ob => ((Box5.new w 0 0 0 0 0).but hb1 (by omega)).but ((But.refl B w1).alloc ob) (by omega)); have q0 : ∀ ob, (w1.alloc ob).cell? ⟨w.heap.size, 0, none⟩ = some (.int .i64 0) := (fun ob => (X2.out ob).cells.1.1); have q1 : ∀ ob, (w1.alloc ob).cell? ⟨w.heap.size, 1, none⟩ = some (.int .i64 0) := (fun ob => (X2.out ob).cells.1.2.1); have q2 : ∀ ob, (w1.alloc ob).cell? ⟨w.heap.size, 2, none⟩ = some (.int .i64 0) := (fun ob => (X2.out ob).cells.1.2.2.1); have q3 : ∀ ob, (w1.alloc ob).cell? ⟨w.heap.size, 3, none⟩ = some (.int .i64 0) := (fun ob => (X2.out ob).cells.1.2.2.2.1); have q4 : ∀ ob, (w1.alloc ob).cell? ⟨w.heap.size, 4, none⟩ = some (.int .i64 0) := (fun ob => (X2.out ob).cells.1.2.2.2.2); have qf0 : ∀ ob, (w1.alloc ob).frozen? ⟨w.heap.size, 0, none⟩ = false := (fun ob => (X2.out ob).cells.2 0); have qf1 : ∀ ob, (w1.alloc ob).frozen? ⟨w.heap.size, 1, none⟩ = false := (fun ob => (X2.out ob).cells.2 1); have qf2 : ∀ ob, (w1.alloc ob).frozen? ⟨w.heap.size, 2, none⟩ = false := (fun ob => (X2.out ob).cells.2 2); have qf3 : ∀ ob, (w1.alloc ob).frozen? ⟨w.heap.size, 3, none⟩ = false := (fun ob => (X2.out ob).cells.2 3); have qf4 : ∀ ob, (w1.alloc ob).frozen? ⟨w.heap.size, 4, none⟩ = false := (fun ob => (X2.out ob).cells.2 4); clear hr1 hb1) | ((go_at_call 39; with_reducible refine (CO.out _).mono ?_); rintro e w' ⟨rfl, rfl⟩) | ((go_at_call 40; with_reducible refine (CF.out _ _ _ _ _ _ _ (CS.out (-1) 0 0 16 0)).mono ?_); rintro e w2 ⟨rfl, S2, bS2⟩; have HS2 := Lib.hid S2; clear S2) | ((go_at_call 43; with_reducible refine (CG.out _).mono ?_); rintro e w' ⟨rfl, rfl⟩) | ((go_at_call 42; with_reducible refine (CM.out _ _ _ _ _ _ _ (HS2.out.alloc _)).mono ?_); rintro e w3 ⟨rfl, S3, bS3⟩; have HS3 := Lib.hid S3; clear S3; obtain ⟨p0, p1, p2, p3, p4, pf0, pf1, pf2, pf3, pf4, q0, q1, q2, q3, q4, qf0, qf1, qf2, qf3, qf4⟩ := HS3.out.facts))
  have eP : w.heap.size ≤ w1.heap.size := HS3.out.pw
  have eQ : w.heap.size ≤ w.heap.size := HS3.out.qw
  refine bodyPost_ret (v := (.agg #[.int .i64 (-1), .int .i64 0, .int .i64 0, .int .i64 16, .int .i64 k])) (by simp [results, Try.results25, go_sem, p0, p1, p2, p3, p4, q0, q1, q2, q3, q4]) rfl ⟨congrArg (fun k => Ending.returned (.agg #[.int .i64 (-1), .int .i64 0, .int .i64 0, .int .i64 16, .int .i64 k])) HK.out.symm, Fin5.out HL.out.l HL.out.off ?_⟩
  repeat (first | with_reducible refine Fin5.drew ?_ | with_reducible refine Fin5.set ?_ eP _ _ | with_reducible refine Fin5.set ?_ eQ _ _)
  exact HS3.out.fin
set_option maxRecDepth 100000 in
set_option maxHeartbeats 1000000 in
theorem gue_129_n_32 (v : Value) (B n : Nat) (l : List Int)  (w : World) (h : RdL w B v l n) (hby : Byt l) (hc : (l.getD n 0) = 129) (hg : decide (0 ≤ (grpI 129 (rF (l.getD (n + 1) 0)))) = false) : Calls Try.prog 25 #[.pointer (some ⟨B, 0, none⟩), .int .i64 32] w fun e w' => e = .returned (.agg #[.int .i64 (-1), .int .i64 0, .int .i64 0, .int .i64 32, .int .i64 (rdB (l.drop (n + 2)) 4)]) ∧ RdL w' B v l (n + 6) ∧ But B w w' := by
  have HL := Lib.hid h
  have HBY := Lib.hid hby
  have hlt := h.r.lt
  have CN := Lib.hid (next_any v B n l (w.alloc (.cells #[.int .i64 0, .int .i64 0, .int .i64 0, .int .i64 0, .int .i64 0] 25)) (h.stays ((Below.refl _ _).alloc (Nat.le_refl _) _)))
  have hc0 := (hby n).1
  have hc1 := (hby n).2
  have CF : Hid (∀ (P : Nat) (o d s z i : Int) (W : World), Stt w B v l P w.heap.size o d s z i (n + 1) W → Calls Try.prog 40 #[.pointer (some ⟨B, 0, none⟩)] W fun e w' => e = .returned (.agg #[.int .i64 (rF (l.getD (n + 1) 0)), .int .i64 (mF (l.getD (n + 1) 0)), .bool ((l.getD (n + 1) 0) / 64 == 2)]) ∧ Stt w B v l P w.heap.size o d s z i (n + 1 + 1) w' ∧ But B W w') := Lib.hid fun P o d s z i W S => S.call (fields_any v B (n + 1) l W S.rd (HBY.out (n + 1)).1 (HBY.out (n + 1)).2)
  generalize ((l.getD (n + 1) 0) / 64 == 2) = fb at *
  obtain ⟨y0, y1⟩ := rdB_bd2 hby (n + 1 + 1) 4 (by decide)
  obtain ⟨k, hk⟩ : ∃ k, rdB (l.drop (n + 1 + 1)) 4 = k := ⟨_, rfl⟩
  rw [hk] at y0 y1
  have CM : Hid (∀ (P : Nat) (o d s z i : Int) (W : World), Stt w B v l P w.heap.size o d s z i (n + 1 + 1) W → Calls Try.prog 42 #[.pointer (some ⟨B, 0, none⟩), .int .i64 4] W fun e w' => e = .returned (.int .u32 k) ∧ Stt w B v l P w.heap.size o d s z i (n + 1 + 1 + 4) w' ∧ But B W w') := Lib.hid fun P o d s z i W S => by rw [← hk]; exact S.call (rd_num v B (n + 1 + 1) 4 l W S.rd HBY.out (by decide))
  have HK := Lib.hid hk
  clear hk
  have ho : ¬ 0 ≤ oneI (l.getD n 0) := by rw [hc]; decide
  have CO : Hid (∀ W, Calls Try.prog 39 #[.int .u8 (l.getD n 0)] W fun e w' => e = .returned (.tuple #[.int .i64 0, .bool false]) ∧ W = w') := Lib.hid fun W => one_none _ W ho
  clear ho
  obtain ⟨r0, r1⟩ : 0 ≤ rF (l.getD (n + 1) 0) ∧ rF (l.getD (n + 1) 0) < 8 := by unfold rF; omega
  have CG : Hid (∀ W, Calls Try.prog 43 #[.int .u8 129, .int .u8 (rF (l.getD (n + 1) 0))] W fun e w' => e = .returned (.tuple #[.int .i64 (grpI 129 (rF (l.getD (n + 1) 0))), .bool (decide (0 ≤ grpI 129 (rF (l.getD (n + 1) 0))))]) ∧ W = w') := Lib.hid fun W => group_129 _ W r0 r1
  rw [hg] at CG
  clear hg
  generalize rF (l.getD (n + 1) 0) = r at *
  generalize mF (l.getD (n + 1) 0) = m at *
  generalize grpI 129 r = gi at *
  rw [hc] at CN CO
  clear h hby hc0 hc1
  have hr : IntKind.u8.wrap r = r := by rw [IntKind.wrap_u8]; omega
  go_enter Try.func25, Try.ntmps25
  go_wp2_with (first | ((go_at_call 38; with_reducible refine CN.out.mono ?_); rintro e w1 ⟨rfl, hr1, hb1⟩; have CS : Hid (∀ (o d s z i : Int), Stt w B v l w1.heap.size w.heap.size o d s z i (n + 1) (w1.alloc (.cells #[.int .i64 o, .int .i64 d, .int .i64 s, .int .i64 z, .int .i64 i] 25))) := Lib.hid (Stt.start2 HL.out hr1 hb1); have b1 : w.heap.size + 1 ≤ w1.heap.size := (by have := hb1.size; simpa using this); have nQ : ¬ w.heap.size = w1.heap.size := (by omega); have X2 : Hid (∀ ob, Box5 (w1.alloc ob) w.heap.size 0 0 0 0 0) := Lib.hid (fun ob => ((Box5.new w 0 0 0 0 0).but hb1 (by omega)).but ((But.refl B w1).alloc ob) (by omega)); have q0 : ∀ ob, (w1.alloc ob).cell? ⟨w.heap.size, 0, none⟩ = some (.int .i64 0) := (fun ob => (X2.out ob).cells.1.1); have q1 : ∀ ob, (w1.alloc ob).cell? ⟨w.heap.size, 1, none⟩ = some (.int .i64 0) := (fun ob => (X2.out ob).cells.1.2.1); have q2 : ∀ ob, (w1.alloc ob).cell? ⟨w.heap.size, 2, none⟩ = some (.int .i64 0) := (fun ob => (X2.out ob).cells.1.2.2.1); have q3 : ∀ ob, (w1.alloc ob).cell? ⟨w.heap.size, 3, none⟩ = some (.int .i64 0) := (fun ob => (X2.out ob).cells.1.2.2.2.1); have q4 : ∀ ob, (w1.alloc ob).cell? ⟨w.heap.size, 4, none⟩ = some (.int .i64 0) := (fun ob => (X2.out ob).cells.1.2.2.2.2); have qf0 : ∀ ob, (w1.alloc ob).frozen? ⟨w.heap.size, 0, none⟩ = false := (fun ob => (X2.out ob).cells.2 0); have qf1 : ∀ ob, (w1.alloc ob).frozen? ⟨w.heap.size, 1, none⟩ = false := (fun ob => (X2.out ob).cells.2 1); have qf2 : ∀ ob, (w1.alloc ob).frozen? ⟨w.heap.size, 2, none⟩ = false := (fun ob => (X2.out ob).cells.2 2); have qf3 : ∀ ob, (w1.alloc ob).frozen? ⟨w.heap.size, 3, none⟩ = false := (fun ob => (X2.out ob).cells.2 3); have qf4 : ∀ ob, (w1.alloc ob).frozen? ⟨w.heap.size, 4, none⟩ = false := (fun ob => (X2.out ob).cells.2 4); clear hr1 hb1) | ((go_at_call 39; with_reducible refine (CO.out _).mono ?_); rintro e w' ⟨rfl, rfl⟩) | ((go_at_call 40; with_reducible refine (CF.out _ _ _ _ _ _ _ (CS.out (-1) 0 0 32 0)).mono ?_); rintro e w2 ⟨rfl, S2, bS2⟩; have HS2 := Lib.hid S2; clear S2) | ((go_at_call 43; with_reducible refine (CG.out _).mono ?_); rintro e w' ⟨rfl, rfl⟩) | ((go_at_call 42; with_reducible refine (CM.out _ _ _ _ _ _ _ (HS2.out.alloc _)).mono ?_); rintro e w3 ⟨rfl, S3, bS3⟩; have HS3 := Lib.hid S3; clear S3; obtain ⟨p0, p1, p2, p3, p4, pf0, pf1, pf2, pf3, pf4, q0, q1, q2, q3, q4, qf0, qf1, qf2, qf3, qf4⟩ := HS3.out.facts))
  have eP : w.heap.size ≤ w1.heap.size := HS3.out.pw
  have eQ : w.heap.size ≤ w.heap.size := HS3.out.qw
  refine bodyPost_ret (v := (.agg #[.int .i64 (-1), .int .i64 0, .int .i64 0, .int .i64 32, .int .i64 k])) (by simp [results, Try.results25, go_sem, p0, p1, p2, p3, p4, q0, q1, q2, q3, q4]) rfl ⟨congrArg (fun k => Ending.returned (.agg #[.int .i64 (-1), .int .i64 0, .int .i64 0, .int .i64 32, .int .i64 k])) HK.out.symm, Fin5.out HL.out.l HL.out.off ?_⟩
  repeat (first | with_reducible refine Fin5.drew ?_ | with_reducible refine Fin5.set ?_ eP _ _ | with_reducible refine Fin5.set ?_ eQ _ _)
  exact HS3.out.fin
set_option maxRecDepth 100000 in
set_option maxHeartbeats 1000000 in
theorem gue_131_y_16 (v : Value) (B n : Nat) (l : List Int)  (w : World) (h : RdL w B v l n) (hby : Byt l) (hc : (l.getD n 0) = 131) (hg : decide (0 ≤ (grpI 131 (rF (l.getD (n + 1) 0)))) = true) : Calls Try.prog 25 #[.pointer (some ⟨B, 0, none⟩), .int .i64 16] w fun e w' => e = .returned (.agg #[.int .i64 (grpI 131 (rF (l.getD (n + 1) 0))), .int .i64 (mF (l.getD (n + 1) 0)), .int .i64 0, .int .i64 16, .int .i64 (sg8 (l.getD (n + 2) 0) % 65536)]) ∧ RdL w' B v l (n + 3) ∧ But B w w' := by
  have HL := Lib.hid h
  have HBY := Lib.hid hby
  have hlt := h.r.lt
  have CN := Lib.hid (next_any v B n l (w.alloc (.cells #[.int .i64 0, .int .i64 0, .int .i64 0, .int .i64 0, .int .i64 0] 25)) (h.stays ((Below.refl _ _).alloc (Nat.le_refl _) _)))
  have hc0 := (hby n).1
  have hc1 := (hby n).2
  have CF : Hid (∀ (P : Nat) (o d s z i : Int) (W : World), Stt w B v l P w.heap.size o d s z i (n + 1) W → Calls Try.prog 40 #[.pointer (some ⟨B, 0, none⟩)] W fun e w' => e = .returned (.agg #[.int .i64 (rF (l.getD (n + 1) 0)), .int .i64 (mF (l.getD (n + 1) 0)), .bool ((l.getD (n + 1) 0) / 64 == 2)]) ∧ Stt w B v l P w.heap.size o d s z i (n + 1 + 1) w' ∧ But B W w') := Lib.hid fun P o d s z i W S => S.call (fields_any v B (n + 1) l W S.rd (HBY.out (n + 1)).1 (HBY.out (n + 1)).2)
  generalize ((l.getD (n + 1) 0) / 64 == 2) = fb at *
  have y0 := (hby (n + 1 + 1)).1
  have y1 := (hby (n + 1 + 1)).2
  obtain ⟨k, hk⟩ : ∃ k, (l.getD (n + 1 + 1) 0) = k := ⟨_, rfl⟩
  rw [hk] at y0 y1
  have CB : Hid (∀ (P : Nat) (o d s z i : Int) (W : World), Stt w B v l P w.heap.size o d s z i (n + 1 + 1) W → Calls Try.prog 38 #[.pointer (some ⟨B, 0, none⟩)] W fun e w' => e = .returned (.int .u8 k) ∧ Stt w B v l P w.heap.size o d s z i (n + 1 + 1 + 1) w' ∧ But B W w') := Lib.hid fun P o d s z i W S => by rw [← hk]; exact S.call (next_any v B (n + 1 + 1) l W S.rd)
  have HK := Lib.hid hk
  clear hk
  have h8 := wrap_i8 y0 y1
  obtain ⟨k8, hk8⟩ : ∃ k8, sg8 k = k8 := ⟨_, rfl⟩
  have h8b : -128 ≤ k8 ∧ k8 ≤ 127 := by rw [← hk8]; unfold sg8; split <;> omega
  rw [hk8] at h8
  have HK8 := Lib.hid hk8
  clear hk8
  have h64 : IntKind.i64.wrap k8 = k8 := by rw [IntKind.wrap_i64]; omega
  have hand : bits .and .i64 k8 65535 = k8 % 65536 := by have h := i64_and k8 65535 16 (by decide) (by decide); simpa using h
  have ho : ¬ 0 ≤ oneI (l.getD n 0) := by rw [hc]; decide
  have CO : Hid (∀ W, Calls Try.prog 39 #[.int .u8 (l.getD n 0)] W fun e w' => e = .returned (.tuple #[.int .i64 0, .bool false]) ∧ W = w') := Lib.hid fun W => one_none _ W ho
  clear ho
  obtain ⟨r0, r1⟩ : 0 ≤ rF (l.getD (n + 1) 0) ∧ rF (l.getD (n + 1) 0) < 8 := by unfold rF; omega
  have CG : Hid (∀ W, Calls Try.prog 43 #[.int .u8 131, .int .u8 (rF (l.getD (n + 1) 0))] W fun e w' => e = .returned (.tuple #[.int .i64 (grpI 131 (rF (l.getD (n + 1) 0))), .bool (decide (0 ≤ grpI 131 (rF (l.getD (n + 1) 0))))]) ∧ W = w') := Lib.hid fun W => group_131 _ W r0 r1
  rw [hg] at CG
  clear hg
  generalize rF (l.getD (n + 1) 0) = r at *
  generalize mF (l.getD (n + 1) 0) = m at *
  generalize grpI 131 r = gi at *
  rw [hc] at CN CO
  clear h hby hc0 hc1
  have hr : IntKind.u8.wrap r = r := by rw [IntKind.wrap_u8]; omega
  go_enter Try.func25, Try.ntmps25
  go_wp2_with (first | ((go_at_call 38; with_reducible refine CN.out.mono ?_); rintro e w1 ⟨rfl, hr1, hb1⟩; have CS : Hid (∀ (o d s z i : Int), Stt w B v l w1.heap.size w.heap.size o d s z i (n + 1) (w1.alloc (.cells #[.int .i64 o, .int .i64 d, .int .i64 s, .int .i64 z, .int .i64 i] 25))) := Lib.hid (Stt.start2 HL.out hr1 hb1); have b1 : w.heap.size + 1 ≤ w1.heap.size := (by have := hb1.size; simpa using this); have nQ : ¬ w.heap.size = w1.heap.size := (by omega); have X2 : Hid (∀ ob, Box5 (w1.alloc ob) w.heap.size 0 0 0 0 0) := Lib.hid (fun ob => ((Box5.new w 0 0 0 0 0).but hb1 (by omega)).but ((But.refl B w1).alloc ob) (by omega)); have q0 : ∀ ob, (w1.alloc ob).cell? ⟨w.heap.size, 0, none⟩ = some (.int .i64 0) := (fun ob => (X2.out ob).cells.1.1); have q1 : ∀ ob, (w1.alloc ob).cell? ⟨w.heap.size, 1, none⟩ = some (.int .i64 0) := (fun ob => (X2.out ob).cells.1.2.1); have q2 : ∀ ob, (w1.alloc ob).cell? ⟨w.heap.size, 2, none⟩ = some (.int .i64 0) := (fun ob => (X2.out ob).cells.1.2.2.1); have q3 : ∀ ob, (w1.alloc ob).cell? ⟨w.heap.size, 3, none⟩ = some (.int .i64 0) := (fun ob => (X2.out ob).cells.1.2.2.2.1); have q4 : ∀ ob, (w1.alloc ob).cell? ⟨w.heap.size, 4, none⟩ = some (.int .i64 0) := (fun ob => (X2.out ob).cells.1.2.2.2.2); have qf0 : ∀ ob, (w1.alloc ob).frozen? ⟨w.heap.size, 0, none⟩ = false := (fun ob => (X2.out ob).cells.2 0); have qf1 : ∀ ob, (w1.alloc ob).frozen? ⟨w.heap.size, 1, none⟩ = false := (fun ob => (X2.out ob).cells.2 1); have qf2 : ∀ ob, (w1.alloc ob).frozen? ⟨w.heap.size, 2, none⟩ = false := (fun ob => (X2.out ob).cells.2 2); have qf3 : ∀ ob, (w1.alloc ob).frozen? ⟨w.heap.size, 3, none⟩ = false := (fun ob => (X2.out ob).cells.2 3); have qf4 : ∀ ob, (w1.alloc ob).frozen? ⟨w.heap.size, 4, none⟩ = false := (fun ob => (X2.out ob).cells.2 4); clear hr1 hb1) | ((go_at_call 39; with_reducible refine (CO.out _).mono ?_); rintro e w' ⟨rfl, rfl⟩) | ((go_at_call 40; with_reducible refine (CF.out _ _ _ _ _ _ _ (CS.out (-1) 0 0 16 0)).mono ?_); rintro e w2 ⟨rfl, S2, bS2⟩; have HS2 := Lib.hid S2; clear S2) | ((go_at_call 43; with_reducible refine (CG.out _).mono ?_); rintro e w' ⟨rfl, rfl⟩))
  have pl := HS2.out.x.lt
  have ql := HS2.out.q.lt
  have rl := HS2.out.r.lt
  have n57 : ¬ w1.heap.size = w2.heap.size := by omega
  have n67 : ¬ w.heap.size = w2.heap.size := by omega
  have nB7 : w2.heap.size ≠ B := by omega
  clear pl ql rl
  have g0 : (w2.alloc (.cells #[.int .i64 r, .int .i64 m, .bool fb] 78)).cell? ⟨w2.heap.size, 0, none⟩ = some (.int .i64 r) := by simp [go_sem]
  have g1 : (w2.alloc (.cells #[.int .i64 r, .int .i64 m, .bool fb] 78)).cell? ⟨w2.heap.size, 1, none⟩ = some (.int .i64 m) := by simp [go_sem]
  have g2 : (w2.alloc (.cells #[.int .i64 r, .int .i64 m, .bool fb] 78)).cell? ⟨w2.heap.size, 2, none⟩ = some (.bool fb) := by simp [go_sem]
  have SX := HS2.out.alloc (.cells #[.int .i64 r, .int .i64 m, .bool fb] 78)
  have HSW3 := Lib.hid SX
  clear SX
  generalize w2.alloc (.cells #[.int .i64 r, .int .i64 m, .bool fb] 78) = W3 at *
  generalize w2.heap.size = b7 at *
  obtain ⟨p0, p1, p2, p3, p4, pf0, pf1, pf2, pf3, pf4, q0, q1, q2, q3, q4, qf0, qf1, qf2, qf3, qf4⟩ := HSW3.out.facts
  go_region
  clear p0 p1 p2 p3 p4 pf0 pf1 pf2 pf3 pf4 q0 q1 q2 q3 q4 qf0 qf1 qf2 qf3 qf4
  go_wp2_with fail
  go_region_law ((go_simp; go_at_call 38; with_reducible refine Calls.mono (CB.out w1.heap.size gi m 0 16 0 _ ?_) ?_); (focus ((repeat (first | with_reducible refine Stt.drew ?_ | with_reducible apply Stt.set0 | with_reducible apply Stt.set1 | with_reducible apply Stt.set2 | with_reducible apply Stt.set3 | with_reducible apply Stt.set4)); exact HSW3.out)); rintro e w4 ⟨rfl, S4, bS4⟩; have HS4 := Lib.hid S4; clear S4; obtain ⟨p0, p1, p2, p3, p4, pf0, pf1, pf2, pf3, pf4, q0, q1, q2, q3, q4, qf0, qf1, qf2, qf3, qf4⟩ := HS4.out.facts)
  go_wp2_with fail
  have eP : w.heap.size ≤ w1.heap.size := HS4.out.pw
  have eQ : w.heap.size ≤ w.heap.size := HS4.out.qw
  refine bodyPost_ret (v := (.agg #[.int .i64 gi, .int .i64 m, .int .i64 0, .int .i64 16, .int .i64 (k8 % 65536)])) (by simp [results, Try.results25, go_sem, p0, p1, p2, p3, p4, q0, q1, q2, q3, q4]) rfl ⟨congrArg (fun k8 => Ending.returned (.agg #[.int .i64 gi, .int .i64 m, .int .i64 0, .int .i64 16, .int .i64 (k8 % 65536)])) (HK8.out.symm.trans (congrArg sg8 HK.out.symm)), Fin5.out HL.out.l HL.out.off ?_⟩
  exact qDj5
set_option maxRecDepth 100000 in
set_option maxHeartbeats 1000000 in
theorem gue_131_y_32 (v : Value) (B n : Nat) (l : List Int)  (w : World) (h : RdL w B v l n) (hby : Byt l) (hc : (l.getD n 0) = 131) (hg : decide (0 ≤ (grpI 131 (rF (l.getD (n + 1) 0)))) = true) : Calls Try.prog 25 #[.pointer (some ⟨B, 0, none⟩), .int .i64 32] w fun e w' => e = .returned (.agg #[.int .i64 (grpI 131 (rF (l.getD (n + 1) 0))), .int .i64 (mF (l.getD (n + 1) 0)), .int .i64 0, .int .i64 32, .int .i64 (sg8 (l.getD (n + 2) 0) % 4294967296)]) ∧ RdL w' B v l (n + 3) ∧ But B w w' := by
  have HL := Lib.hid h
  have HBY := Lib.hid hby
  have hlt := h.r.lt
  have CN := Lib.hid (next_any v B n l (w.alloc (.cells #[.int .i64 0, .int .i64 0, .int .i64 0, .int .i64 0, .int .i64 0] 25)) (h.stays ((Below.refl _ _).alloc (Nat.le_refl _) _)))
  have hc0 := (hby n).1
  have hc1 := (hby n).2
  have CF : Hid (∀ (P : Nat) (o d s z i : Int) (W : World), Stt w B v l P w.heap.size o d s z i (n + 1) W → Calls Try.prog 40 #[.pointer (some ⟨B, 0, none⟩)] W fun e w' => e = .returned (.agg #[.int .i64 (rF (l.getD (n + 1) 0)), .int .i64 (mF (l.getD (n + 1) 0)), .bool ((l.getD (n + 1) 0) / 64 == 2)]) ∧ Stt w B v l P w.heap.size o d s z i (n + 1 + 1) w' ∧ But B W w') := Lib.hid fun P o d s z i W S => S.call (fields_any v B (n + 1) l W S.rd (HBY.out (n + 1)).1 (HBY.out (n + 1)).2)
  generalize ((l.getD (n + 1) 0) / 64 == 2) = fb at *
  have y0 := (hby (n + 1 + 1)).1
  have y1 := (hby (n + 1 + 1)).2
  obtain ⟨k, hk⟩ : ∃ k, (l.getD (n + 1 + 1) 0) = k := ⟨_, rfl⟩
  rw [hk] at y0 y1
  have CB : Hid (∀ (P : Nat) (o d s z i : Int) (W : World), Stt w B v l P w.heap.size o d s z i (n + 1 + 1) W → Calls Try.prog 38 #[.pointer (some ⟨B, 0, none⟩)] W fun e w' => e = .returned (.int .u8 k) ∧ Stt w B v l P w.heap.size o d s z i (n + 1 + 1 + 1) w' ∧ But B W w') := Lib.hid fun P o d s z i W S => by rw [← hk]; exact S.call (next_any v B (n + 1 + 1) l W S.rd)
  have HK := Lib.hid hk
  clear hk
  have h8 := wrap_i8 y0 y1
  obtain ⟨k8, hk8⟩ : ∃ k8, sg8 k = k8 := ⟨_, rfl⟩
  have h8b : -128 ≤ k8 ∧ k8 ≤ 127 := by rw [← hk8]; unfold sg8; split <;> omega
  rw [hk8] at h8
  have HK8 := Lib.hid hk8
  clear hk8
  have h64 : IntKind.i64.wrap k8 = k8 := by rw [IntKind.wrap_i64]; omega
  have hand : bits .and .i64 k8 4294967295 = k8 % 4294967296 := by have h := i64_and k8 4294967295 32 (by decide) (by decide); simpa using h
  have ho : ¬ 0 ≤ oneI (l.getD n 0) := by rw [hc]; decide
  have CO : Hid (∀ W, Calls Try.prog 39 #[.int .u8 (l.getD n 0)] W fun e w' => e = .returned (.tuple #[.int .i64 0, .bool false]) ∧ W = w') := Lib.hid fun W => one_none _ W ho
  clear ho
  obtain ⟨r0, r1⟩ : 0 ≤ rF (l.getD (n + 1) 0) ∧ rF (l.getD (n + 1) 0) < 8 := by unfold rF; omega
  have CG : Hid (∀ W, Calls Try.prog 43 #[.int .u8 131, .int .u8 (rF (l.getD (n + 1) 0))] W fun e w' => e = .returned (.tuple #[.int .i64 (grpI 131 (rF (l.getD (n + 1) 0))), .bool (decide (0 ≤ grpI 131 (rF (l.getD (n + 1) 0))))]) ∧ W = w') := Lib.hid fun W => group_131 _ W r0 r1
  rw [hg] at CG
  clear hg
  generalize rF (l.getD (n + 1) 0) = r at *
  generalize mF (l.getD (n + 1) 0) = m at *
  generalize grpI 131 r = gi at *
  rw [hc] at CN CO
  clear h hby hc0 hc1
  have hr : IntKind.u8.wrap r = r := by rw [IntKind.wrap_u8]; omega
  go_enter Try.func25, Try.ntmps25
  go_wp2_with (first | ((go_at_call 38; with_reducible refine CN.out.mono ?_); rintro e w1 ⟨rfl, hr1, hb1⟩; have CS : Hid (∀ (o d s z i : Int), Stt w B v l w1.heap.size w.heap.size o d s z i (n + 1) (w1.alloc (.cells #[.int .i64 o, .int .i64 d, .int .i64 s, .int .i64 z, .int .i64 i] 25))) := Lib.hid (Stt.start2 HL.out hr1 hb1); have b1 : w.heap.size + 1 ≤ w1.heap.size := (by have := hb1.size; simpa using this); have nQ : ¬ w.heap.size = w1.heap.size := (by omega); have X2 : Hid (∀ ob, Box5 (w1.alloc ob) w.heap.size 0 0 0 0 0) := Lib.hid (fun ob => ((Box5.new w 0 0 0 0 0).but hb1 (by omega)).but ((But.refl B w1).alloc ob) (by omega)); have q0 : ∀ ob, (w1.alloc ob).cell? ⟨w.heap.size, 0, none⟩ = some (.int .i64 0) := (fun ob => (X2.out ob).cells.1.1); have q1 : ∀ ob, (w1.alloc ob).cell? ⟨w.heap.size, 1, none⟩ = some (.int .i64 0) := (fun ob => (X2.out ob).cells.1.2.1); have q2 : ∀ ob, (w1.alloc ob).cell? ⟨w.heap.size, 2, none⟩ = some (.int .i64 0) := (fun ob => (X2.out ob).cells.1.2.2.1); have q3 : ∀ ob, (w1.alloc ob).cell? ⟨w.heap.size, 3, none⟩ = some (.int .i64 0) := (fun ob => (X2.out ob).cells.1.2.2.2.1); have q4 : ∀ ob, (w1.alloc ob).cell? ⟨w.heap.size, 4, none⟩ = some (.int .i64 0) := (fun ob => (X2.out ob).cells.1.2.2.2.2); have qf0 : ∀ ob, (w1.alloc ob).frozen? ⟨w.heap.size, 0, none⟩ = false := (fun ob => (X2.out ob).cells.2 0); have qf1 : ∀ ob, (w1.alloc ob).frozen? ⟨w.heap.size, 1, none⟩ = false := (fun ob => (X2.out ob).cells.2 1); have qf2 : ∀ ob, (w1.alloc ob).frozen? ⟨w.heap.size, 2, none⟩ = false := (fun ob => (X2.out ob).cells.2 2); have qf3 : ∀ ob, (w1.alloc ob).frozen? ⟨w.heap.size, 3, none⟩ = false := (fun ob => (X2.out ob).cells.2 3); have qf4 : ∀ ob, (w1.alloc ob).frozen? ⟨w.heap.size, 4, none⟩ = false := (fun ob => (X2.out ob).cells.2 4); clear hr1 hb1) | ((go_at_call 39; with_reducible refine (CO.out _).mono ?_); rintro e w' ⟨rfl, rfl⟩) | ((go_at_call 40; with_reducible refine (CF.out _ _ _ _ _ _ _ (CS.out (-1) 0 0 32 0)).mono ?_); rintro e w2 ⟨rfl, S2, bS2⟩; have HS2 := Lib.hid S2; clear S2) | ((go_at_call 43; with_reducible refine (CG.out _).mono ?_); rintro e w' ⟨rfl, rfl⟩))
  have pl := HS2.out.x.lt
  have ql := HS2.out.q.lt
  have rl := HS2.out.r.lt
  have n57 : ¬ w1.heap.size = w2.heap.size := by omega
  have n67 : ¬ w.heap.size = w2.heap.size := by omega
  have nB7 : w2.heap.size ≠ B := by omega
  clear pl ql rl
  have g0 : (w2.alloc (.cells #[.int .i64 r, .int .i64 m, .bool fb] 78)).cell? ⟨w2.heap.size, 0, none⟩ = some (.int .i64 r) := by simp [go_sem]
  have g1 : (w2.alloc (.cells #[.int .i64 r, .int .i64 m, .bool fb] 78)).cell? ⟨w2.heap.size, 1, none⟩ = some (.int .i64 m) := by simp [go_sem]
  have g2 : (w2.alloc (.cells #[.int .i64 r, .int .i64 m, .bool fb] 78)).cell? ⟨w2.heap.size, 2, none⟩ = some (.bool fb) := by simp [go_sem]
  have SX := HS2.out.alloc (.cells #[.int .i64 r, .int .i64 m, .bool fb] 78)
  have HSW3 := Lib.hid SX
  clear SX
  generalize w2.alloc (.cells #[.int .i64 r, .int .i64 m, .bool fb] 78) = W3 at *
  generalize w2.heap.size = b7 at *
  obtain ⟨p0, p1, p2, p3, p4, pf0, pf1, pf2, pf3, pf4, q0, q1, q2, q3, q4, qf0, qf1, qf2, qf3, qf4⟩ := HSW3.out.facts
  go_region
  clear p0 p1 p2 p3 p4 pf0 pf1 pf2 pf3 pf4 q0 q1 q2 q3 q4 qf0 qf1 qf2 qf3 qf4
  go_wp2_with fail
  go_region_law ((go_simp; go_at_call 38; with_reducible refine Calls.mono (CB.out w1.heap.size gi m 0 32 0 _ ?_) ?_); (focus ((repeat (first | with_reducible refine Stt.drew ?_ | with_reducible apply Stt.set0 | with_reducible apply Stt.set1 | with_reducible apply Stt.set2 | with_reducible apply Stt.set3 | with_reducible apply Stt.set4)); exact HSW3.out)); rintro e w4 ⟨rfl, S4, bS4⟩; have HS4 := Lib.hid S4; clear S4; obtain ⟨p0, p1, p2, p3, p4, pf0, pf1, pf2, pf3, pf4, q0, q1, q2, q3, q4, qf0, qf1, qf2, qf3, qf4⟩ := HS4.out.facts)
  go_wp2_with fail
  have eP : w.heap.size ≤ w1.heap.size := HS4.out.pw
  have eQ : w.heap.size ≤ w.heap.size := HS4.out.qw
  refine bodyPost_ret (v := (.agg #[.int .i64 gi, .int .i64 m, .int .i64 0, .int .i64 32, .int .i64 (k8 % 4294967296)])) (by simp [results, Try.results25, go_sem, p0, p1, p2, p3, p4, q0, q1, q2, q3, q4]) rfl ⟨congrArg (fun k8 => Ending.returned (.agg #[.int .i64 gi, .int .i64 m, .int .i64 0, .int .i64 32, .int .i64 (k8 % 4294967296)])) (HK8.out.symm.trans (congrArg sg8 HK.out.symm)), Fin5.out HL.out.l HL.out.off ?_⟩
  exact qDj5
set_option maxRecDepth 100000 in
set_option maxHeartbeats 1000000 in
theorem gue_131_n_16 (v : Value) (B n : Nat) (l : List Int)  (w : World) (h : RdL w B v l n) (hby : Byt l) (hc : (l.getD n 0) = 131) (hg : decide (0 ≤ (grpI 131 (rF (l.getD (n + 1) 0)))) = false) : Calls Try.prog 25 #[.pointer (some ⟨B, 0, none⟩), .int .i64 16] w fun e w' => e = .returned (.agg #[.int .i64 (-1), .int .i64 0, .int .i64 0, .int .i64 16, .int .i64 (sg8 (l.getD (n + 2) 0) % 65536)]) ∧ RdL w' B v l (n + 3) ∧ But B w w' := by
  have HL := Lib.hid h
  have HBY := Lib.hid hby
  have hlt := h.r.lt
  have CN := Lib.hid (next_any v B n l (w.alloc (.cells #[.int .i64 0, .int .i64 0, .int .i64 0, .int .i64 0, .int .i64 0] 25)) (h.stays ((Below.refl _ _).alloc (Nat.le_refl _) _)))
  have hc0 := (hby n).1
  have hc1 := (hby n).2
  have CF : Hid (∀ (P : Nat) (o d s z i : Int) (W : World), Stt w B v l P w.heap.size o d s z i (n + 1) W → Calls Try.prog 40 #[.pointer (some ⟨B, 0, none⟩)] W fun e w' => e = .returned (.agg #[.int .i64 (rF (l.getD (n + 1) 0)), .int .i64 (mF (l.getD (n + 1) 0)), .bool ((l.getD (n + 1) 0) / 64 == 2)]) ∧ Stt w B v l P w.heap.size o d s z i (n + 1 + 1) w' ∧ But B W w') := Lib.hid fun P o d s z i W S => S.call (fields_any v B (n + 1) l W S.rd (HBY.out (n + 1)).1 (HBY.out (n + 1)).2)
  generalize ((l.getD (n + 1) 0) / 64 == 2) = fb at *
  have y0 := (hby (n + 1 + 1)).1
  have y1 := (hby (n + 1 + 1)).2
  obtain ⟨k, hk⟩ : ∃ k, (l.getD (n + 1 + 1) 0) = k := ⟨_, rfl⟩
  rw [hk] at y0 y1
  have CB : Hid (∀ (P : Nat) (o d s z i : Int) (W : World), Stt w B v l P w.heap.size o d s z i (n + 1 + 1) W → Calls Try.prog 38 #[.pointer (some ⟨B, 0, none⟩)] W fun e w' => e = .returned (.int .u8 k) ∧ Stt w B v l P w.heap.size o d s z i (n + 1 + 1 + 1) w' ∧ But B W w') := Lib.hid fun P o d s z i W S => by rw [← hk]; exact S.call (next_any v B (n + 1 + 1) l W S.rd)
  have HK := Lib.hid hk
  clear hk
  have h8 := wrap_i8 y0 y1
  obtain ⟨k8, hk8⟩ : ∃ k8, sg8 k = k8 := ⟨_, rfl⟩
  have h8b : -128 ≤ k8 ∧ k8 ≤ 127 := by rw [← hk8]; unfold sg8; split <;> omega
  rw [hk8] at h8
  have HK8 := Lib.hid hk8
  clear hk8
  have h64 : IntKind.i64.wrap k8 = k8 := by rw [IntKind.wrap_i64]; omega
  have hand : bits .and .i64 k8 65535 = k8 % 65536 := by have h := i64_and k8 65535 16 (by decide) (by decide); simpa using h
  have ho : ¬ 0 ≤ oneI (l.getD n 0) := by rw [hc]; decide
  have CO : Hid (∀ W, Calls Try.prog 39 #[.int .u8 (l.getD n 0)] W fun e w' => e = .returned (.tuple #[.int .i64 0, .bool false]) ∧ W = w') := Lib.hid fun W => one_none _ W ho
  clear ho
  obtain ⟨r0, r1⟩ : 0 ≤ rF (l.getD (n + 1) 0) ∧ rF (l.getD (n + 1) 0) < 8 := by unfold rF; omega
  have CG : Hid (∀ W, Calls Try.prog 43 #[.int .u8 131, .int .u8 (rF (l.getD (n + 1) 0))] W fun e w' => e = .returned (.tuple #[.int .i64 (grpI 131 (rF (l.getD (n + 1) 0))), .bool (decide (0 ≤ grpI 131 (rF (l.getD (n + 1) 0))))]) ∧ W = w') := Lib.hid fun W => group_131 _ W r0 r1
  rw [hg] at CG
  clear hg
  generalize rF (l.getD (n + 1) 0) = r at *
  generalize mF (l.getD (n + 1) 0) = m at *
  generalize grpI 131 r = gi at *
  rw [hc] at CN CO
  clear h hby hc0 hc1
  have hr : IntKind.u8.wrap r = r := by rw [IntKind.wrap_u8]; omega
  go_enter Try.func25, Try.ntmps25
  go_wp2_with (first | ((go_at_call 38; with_reducible refine CN.out.mono ?_); rintro e w1 ⟨rfl, hr1, hb1⟩; have CS : Hid (∀ (o d s z i : Int), Stt w B v l w1.heap.size w.heap.size o d s z i (n + 1) (w1.alloc (.cells #[.int .i64 o, .int .i64 d, .int .i64 s, .int .i64 z, .int .i64 i] 25))) := Lib.hid (Stt.start2 HL.out hr1 hb1); have b1 : w.heap.size + 1 ≤ w1.heap.size := (by have := hb1.size; simpa using this); have nQ : ¬ w.heap.size = w1.heap.size := (by omega); have X2 : Hid (∀ ob, Box5 (w1.alloc ob) w.heap.size 0 0 0 0 0) := Lib.hid (fun ob => ((Box5.new w 0 0 0 0 0).but hb1 (by omega)).but ((But.refl B w1).alloc ob) (by omega)); have q0 : ∀ ob, (w1.alloc ob).cell? ⟨w.heap.size, 0, none⟩ = some (.int .i64 0) := (fun ob => (X2.out ob).cells.1.1); have q1 : ∀ ob, (w1.alloc ob).cell? ⟨w.heap.size, 1, none⟩ = some (.int .i64 0) := (fun ob => (X2.out ob).cells.1.2.1); have q2 : ∀ ob, (w1.alloc ob).cell? ⟨w.heap.size, 2, none⟩ = some (.int .i64 0) := (fun ob => (X2.out ob).cells.1.2.2.1); have q3 : ∀ ob, (w1.alloc ob).cell? ⟨w.heap.size, 3, none⟩ = some (.int .i64 0) := (fun ob => (X2.out ob).cells.1.2.2.2.1); have q4 : ∀ ob, (w1.alloc ob).cell? ⟨w.heap.size, 4, none⟩ = some (.int .i64 0) := (fun ob => (X2.out ob).cells.1.2.2.2.2); have qf0 : ∀ ob, (w1.alloc ob).frozen? ⟨w.heap.size, 0, none⟩ = false := (fun ob => (X2.out ob).cells.2 0); have qf1 : ∀ ob, (w1.alloc ob).frozen? ⟨w.heap.size, 1, none⟩ = false := (fun ob => (X2.out ob).cells.2 1); have qf2 : ∀ ob, (w1.alloc ob).frozen? ⟨w.heap.size, 2, none⟩ = false := (fun ob => (X2.out ob).cells.2 2); have qf3 : ∀ ob, (w1.alloc ob).frozen? ⟨w.heap.size, 3, none⟩ = false := (fun ob => (X2.out ob).cells.2 3); have qf4 : ∀ ob, (w1.alloc ob).frozen? ⟨w.heap.size, 4, none⟩ = false := (fun ob => (X2.out ob).cells.2 4); clear hr1 hb1) | ((go_at_call 39; with_reducible refine (CO.out _).mono ?_); rintro e w' ⟨rfl, rfl⟩) | ((go_at_call 40; with_reducible refine (CF.out _ _ _ _ _ _ _ (CS.out (-1) 0 0 16 0)).mono ?_); rintro e w2 ⟨rfl, S2, bS2⟩; have HS2 := Lib.hid S2; clear S2) | ((go_at_call 43; with_reducible refine (CG.out _).mono ?_); rintro e w' ⟨rfl, rfl⟩))
  skip
  go_wp2_with fail
  go_region_law ((go_simp; go_at_call 38; with_reducible refine Calls.mono (CB.out w1.heap.size (-1) 0 0 16 0 _ ?_) ?_); (focus ((repeat (first | with_reducible refine Stt.drew ?_ | with_reducible apply Stt.set0 | with_reducible apply Stt.set1 | with_reducible apply Stt.set2 | with_reducible apply Stt.set3 | with_reducible apply Stt.set4)); exact (HS2.out.alloc _))); rintro e w4 ⟨rfl, S4, bS4⟩; have HS4 := Lib.hid S4; clear S4; obtain ⟨p0, p1, p2, p3, p4, pf0, pf1, pf2, pf3, pf4, q0, q1, q2, q3, q4, qf0, qf1, qf2, qf3, qf4⟩ := HS4.out.facts)
  go_wp2_with fail
  have eP : w.heap.size ≤ w1.heap.size := HS4.out.pw
  have eQ : w.heap.size ≤ w.heap.size := HS4.out.qw
  refine bodyPost_ret (v := (.agg #[.int .i64 (-1), .int .i64 0, .int .i64 0, .int .i64 16, .int .i64 (k8 % 65536)])) (by simp [results, Try.results25, go_sem, p0, p1, p2, p3, p4, q0, q1, q2, q3, q4]) rfl ⟨congrArg (fun k8 => Ending.returned (.agg #[.int .i64 (-1), .int .i64 0, .int .i64 0, .int .i64 16, .int .i64 (k8 % 65536)])) (HK8.out.symm.trans (congrArg sg8 HK.out.symm)), Fin5.out HL.out.l HL.out.off ?_⟩
  exact qDj5
set_option maxRecDepth 100000 in
set_option maxHeartbeats 1000000 in
theorem gue_131_n_32 (v : Value) (B n : Nat) (l : List Int)  (w : World) (h : RdL w B v l n) (hby : Byt l) (hc : (l.getD n 0) = 131) (hg : decide (0 ≤ (grpI 131 (rF (l.getD (n + 1) 0)))) = false) : Calls Try.prog 25 #[.pointer (some ⟨B, 0, none⟩), .int .i64 32] w fun e w' => e = .returned (.agg #[.int .i64 (-1), .int .i64 0, .int .i64 0, .int .i64 32, .int .i64 (sg8 (l.getD (n + 2) 0) % 4294967296)]) ∧ RdL w' B v l (n + 3) ∧ But B w w' := by
  have HL := Lib.hid h
  have HBY := Lib.hid hby
  have hlt := h.r.lt
  have CN := Lib.hid (next_any v B n l (w.alloc (.cells #[.int .i64 0, .int .i64 0, .int .i64 0, .int .i64 0, .int .i64 0] 25)) (h.stays ((Below.refl _ _).alloc (Nat.le_refl _) _)))
  have hc0 := (hby n).1
  have hc1 := (hby n).2
  have CF : Hid (∀ (P : Nat) (o d s z i : Int) (W : World), Stt w B v l P w.heap.size o d s z i (n + 1) W → Calls Try.prog 40 #[.pointer (some ⟨B, 0, none⟩)] W fun e w' => e = .returned (.agg #[.int .i64 (rF (l.getD (n + 1) 0)), .int .i64 (mF (l.getD (n + 1) 0)), .bool ((l.getD (n + 1) 0) / 64 == 2)]) ∧ Stt w B v l P w.heap.size o d s z i (n + 1 + 1) w' ∧ But B W w') := Lib.hid fun P o d s z i W S => S.call (fields_any v B (n + 1) l W S.rd (HBY.out (n + 1)).1 (HBY.out (n + 1)).2)
  generalize ((l.getD (n + 1) 0) / 64 == 2) = fb at *
  have y0 := (hby (n + 1 + 1)).1
  have y1 := (hby (n + 1 + 1)).2
  obtain ⟨k, hk⟩ : ∃ k, (l.getD (n + 1 + 1) 0) = k := ⟨_, rfl⟩
  rw [hk] at y0 y1
  have CB : Hid (∀ (P : Nat) (o d s z i : Int) (W : World), Stt w B v l P w.heap.size o d s z i (n + 1 + 1) W → Calls Try.prog 38 #[.pointer (some ⟨B, 0, none⟩)] W fun e w' => e = .returned (.int .u8 k) ∧ Stt w B v l P w.heap.size o d s z i (n + 1 + 1 + 1) w' ∧ But B W w') := Lib.hid fun P o d s z i W S => by rw [← hk]; exact S.call (next_any v B (n + 1 + 1) l W S.rd)
  have HK := Lib.hid hk
  clear hk
  have h8 := wrap_i8 y0 y1
  obtain ⟨k8, hk8⟩ : ∃ k8, sg8 k = k8 := ⟨_, rfl⟩
  have h8b : -128 ≤ k8 ∧ k8 ≤ 127 := by rw [← hk8]; unfold sg8; split <;> omega
  rw [hk8] at h8
  have HK8 := Lib.hid hk8
  clear hk8
  have h64 : IntKind.i64.wrap k8 = k8 := by rw [IntKind.wrap_i64]; omega
  have hand : bits .and .i64 k8 4294967295 = k8 % 4294967296 := by have h := i64_and k8 4294967295 32 (by decide) (by decide); simpa using h
  have ho : ¬ 0 ≤ oneI (l.getD n 0) := by rw [hc]; decide
  have CO : Hid (∀ W, Calls Try.prog 39 #[.int .u8 (l.getD n 0)] W fun e w' => e = .returned (.tuple #[.int .i64 0, .bool false]) ∧ W = w') := Lib.hid fun W => one_none _ W ho
  clear ho
  obtain ⟨r0, r1⟩ : 0 ≤ rF (l.getD (n + 1) 0) ∧ rF (l.getD (n + 1) 0) < 8 := by unfold rF; omega
  have CG : Hid (∀ W, Calls Try.prog 43 #[.int .u8 131, .int .u8 (rF (l.getD (n + 1) 0))] W fun e w' => e = .returned (.tuple #[.int .i64 (grpI 131 (rF (l.getD (n + 1) 0))), .bool (decide (0 ≤ grpI 131 (rF (l.getD (n + 1) 0))))]) ∧ W = w') := Lib.hid fun W => group_131 _ W r0 r1
  rw [hg] at CG
  clear hg
  generalize rF (l.getD (n + 1) 0) = r at *
  generalize mF (l.getD (n + 1) 0) = m at *
  generalize grpI 131 r = gi at *
  rw [hc] at CN CO
  clear h hby hc0 hc1
  have hr : IntKind.u8.wrap r = r := by rw [IntKind.wrap_u8]; omega
  go_enter Try.func25, Try.ntmps25
  go_wp2_with (first | ((go_at_call 38; with_reducible refine CN.out.mono ?_); rintro e w1 ⟨rfl, hr1, hb1⟩; have CS : Hid (∀ (o d s z i : Int), Stt w B v l w1.heap.size w.heap.size o d s z i (n + 1) (w1.alloc (.cells #[.int .i64 o, .int .i64 d, .int .i64 s, .int .i64 z, .int .i64 i] 25))) := Lib.hid (Stt.start2 HL.out hr1 hb1); have b1 : w.heap.size + 1 ≤ w1.heap.size := (by have := hb1.size; simpa using this); have nQ : ¬ w.heap.size = w1.heap.size := (by omega); have X2 : Hid (∀ ob, Box5 (w1.alloc ob) w.heap.size 0 0 0 0 0) := Lib.hid (fun ob => ((Box5.new w 0 0 0 0 0).but hb1 (by omega)).but ((But.refl B w1).alloc ob) (by omega)); have q0 : ∀ ob, (w1.alloc ob).cell? ⟨w.heap.size, 0, none⟩ = some (.int .i64 0) := (fun ob => (X2.out ob).cells.1.1); have q1 : ∀ ob, (w1.alloc ob).cell? ⟨w.heap.size, 1, none⟩ = some (.int .i64 0) := (fun ob => (X2.out ob).cells.1.2.1); have q2 : ∀ ob, (w1.alloc ob).cell? ⟨w.heap.size, 2, none⟩ = some (.int .i64 0) := (fun ob => (X2.out ob).cells.1.2.2.1); have q3 : ∀ ob, (w1.alloc ob).cell? ⟨w.heap.size, 3, none⟩ = some (.int .i64 0) := (fun ob => (X2.out ob).cells.1.2.2.2.1); have q4 : ∀ ob, (w1.alloc ob).cell? ⟨w.heap.size, 4, none⟩ = some (.int .i64 0) := (fun ob => (X2.out ob).cells.1.2.2.2.2); have qf0 : ∀ ob, (w1.alloc ob).frozen? ⟨w.heap.size, 0, none⟩ = false := (fun ob => (X2.out ob).cells.2 0); have qf1 : ∀ ob, (w1.alloc ob).frozen? ⟨w.heap.size, 1, none⟩ = false := (fun ob => (X2.out ob).cells.2 1); have qf2 : ∀ ob, (w1.alloc ob).frozen? ⟨w.heap.size, 2, none⟩ = false := (fun ob => (X2.out ob).cells.2 2); have qf3 : ∀ ob, (w1.alloc ob).frozen? ⟨w.heap.size, 3, none⟩ = false := (fun ob => (X2.out ob).cells.2 3); have qf4 : ∀ ob, (w1.alloc ob).frozen? ⟨w.heap.size, 4, none⟩ = false := (fun ob => (X2.out ob).cells.2 4); clear hr1 hb1) | ((go_at_call 39; with_reducible refine (CO.out _).mono ?_); rintro e w' ⟨rfl, rfl⟩) | ((go_at_call 40; with_reducible refine (CF.out _ _ _ _ _ _ _ (CS.out (-1) 0 0 32 0)).mono ?_); rintro e w2 ⟨rfl, S2, bS2⟩; have HS2 := Lib.hid S2; clear S2) | ((go_at_call 43; with_reducible refine (CG.out _).mono ?_); rintro e w' ⟨rfl, rfl⟩))
  skip
  go_wp2_with fail
  go_region_law ((go_simp; go_at_call 38; with_reducible refine Calls.mono (CB.out w1.heap.size (-1) 0 0 32 0 _ ?_) ?_); (focus ((repeat (first | with_reducible refine Stt.drew ?_ | with_reducible apply Stt.set0 | with_reducible apply Stt.set1 | with_reducible apply Stt.set2 | with_reducible apply Stt.set3 | with_reducible apply Stt.set4)); exact (HS2.out.alloc _))); rintro e w4 ⟨rfl, S4, bS4⟩; have HS4 := Lib.hid S4; clear S4; obtain ⟨p0, p1, p2, p3, p4, pf0, pf1, pf2, pf3, pf4, q0, q1, q2, q3, q4, qf0, qf1, qf2, qf3, qf4⟩ := HS4.out.facts)
  go_wp2_with fail
  have eP : w.heap.size ≤ w1.heap.size := HS4.out.pw
  have eQ : w.heap.size ≤ w.heap.size := HS4.out.qw
  refine bodyPost_ret (v := (.agg #[.int .i64 (-1), .int .i64 0, .int .i64 0, .int .i64 32, .int .i64 (k8 % 4294967296)])) (by simp [results, Try.results25, go_sem, p0, p1, p2, p3, p4, q0, q1, q2, q3, q4]) rfl ⟨congrArg (fun k8 => Ending.returned (.agg #[.int .i64 (-1), .int .i64 0, .int .i64 0, .int .i64 32, .int .i64 (k8 % 4294967296)])) (HK8.out.symm.trans (congrArg sg8 HK.out.symm)), Fin5.out HL.out.l HL.out.off ?_⟩
  exact qDj5
set_option maxRecDepth 100000 in
set_option maxHeartbeats 1000000 in
theorem gue_211_y (v : Value) (B n : Nat) (l : List Int) (z : Int) (w : World) (h : RdL w B v l n) (hby : Byt l) (hc : (l.getD n 0) = 211) (hg : decide (0 ≤ (grpI 211 (rF (l.getD (n + 1) 0)))) = true) : Calls Try.prog 25 #[.pointer (some ⟨B, 0, none⟩), .int .i64 z] w fun e w' => e = .returned (.agg #[.int .i64 (grpI 211 (rF (l.getD (n + 1) 0))), .int .i64 (mF (l.getD (n + 1) 0)), .int .i64 0, .int .i64 z, .int .i64 0]) ∧ RdL w' B v l (n + 2) ∧ But B w w' := by
  have HL := Lib.hid h
  have HBY := Lib.hid hby
  have hlt := h.r.lt
  have CN := Lib.hid (next_any v B n l (w.alloc (.cells #[.int .i64 0, .int .i64 0, .int .i64 0, .int .i64 0, .int .i64 0] 25)) (h.stays ((Below.refl _ _).alloc (Nat.le_refl _) _)))
  have hc0 := (hby n).1
  have hc1 := (hby n).2
  have CF : Hid (∀ (P : Nat) (o d s z i : Int) (W : World), Stt w B v l P w.heap.size o d s z i (n + 1) W → Calls Try.prog 40 #[.pointer (some ⟨B, 0, none⟩)] W fun e w' => e = .returned (.agg #[.int .i64 (rF (l.getD (n + 1) 0)), .int .i64 (mF (l.getD (n + 1) 0)), .bool ((l.getD (n + 1) 0) / 64 == 2)]) ∧ Stt w B v l P w.heap.size o d s z i (n + 1 + 1) w' ∧ But B W w') := Lib.hid fun P o d s z i W S => S.call (fields_any v B (n + 1) l W S.rd (HBY.out (n + 1)).1 (HBY.out (n + 1)).2)
  generalize ((l.getD (n + 1) 0) / 64 == 2) = fb at *
  have ho : ¬ 0 ≤ oneI (l.getD n 0) := by rw [hc]; decide
  have CO : Hid (∀ W, Calls Try.prog 39 #[.int .u8 (l.getD n 0)] W fun e w' => e = .returned (.tuple #[.int .i64 0, .bool false]) ∧ W = w') := Lib.hid fun W => one_none _ W ho
  clear ho
  obtain ⟨r0, r1⟩ : 0 ≤ rF (l.getD (n + 1) 0) ∧ rF (l.getD (n + 1) 0) < 8 := by unfold rF; omega
  have CG : Hid (∀ W, Calls Try.prog 43 #[.int .u8 211, .int .u8 (rF (l.getD (n + 1) 0))] W fun e w' => e = .returned (.tuple #[.int .i64 (grpI 211 (rF (l.getD (n + 1) 0))), .bool (decide (0 ≤ grpI 211 (rF (l.getD (n + 1) 0))))]) ∧ W = w') := Lib.hid fun W => group_211 _ W r0 r1
  rw [hg] at CG
  clear hg
  generalize rF (l.getD (n + 1) 0) = r at *
  generalize mF (l.getD (n + 1) 0) = m at *
  generalize grpI 211 r = gi at *
  rw [hc] at CN CO
  clear h hby hc0 hc1
  have hr : IntKind.u8.wrap r = r := by rw [IntKind.wrap_u8]; omega
  exact qDj2
set_option maxRecDepth 100000 in
set_option maxHeartbeats 1000000 in
theorem gue_211_n (v : Value) (B n : Nat) (l : List Int) (z : Int) (w : World) (h : RdL w B v l n) (hby : Byt l) (hc : (l.getD n 0) = 211) (hg : decide (0 ≤ (grpI 211 (rF (l.getD (n + 1) 0)))) = false) : Calls Try.prog 25 #[.pointer (some ⟨B, 0, none⟩), .int .i64 z] w fun e w' => e = .returned (.agg #[.int .i64 (-1), .int .i64 0, .int .i64 0, .int .i64 z, .int .i64 0]) ∧ RdL w' B v l (n + 2) ∧ But B w w' := by
  have HL := Lib.hid h
  have HBY := Lib.hid hby
  have hlt := h.r.lt
  have CN := Lib.hid (next_any v B n l (w.alloc (.cells #[.int .i64 0, .int .i64 0, .int .i64 0, .int .i64 0, .int .i64 0] 25)) (h.stays ((Below.refl _ _).alloc (Nat.le_refl _) _)))
  have hc0 := (hby n).1
  have hc1 := (hby n).2
  have CF : Hid (∀ (P : Nat) (o d s z i : Int) (W : World), Stt w B v l P w.heap.size o d s z i (n + 1) W → Calls Try.prog 40 #[.pointer (some ⟨B, 0, none⟩)] W fun e w' => e = .returned (.agg #[.int .i64 (rF (l.getD (n + 1) 0)), .int .i64 (mF (l.getD (n + 1) 0)), .bool ((l.getD (n + 1) 0) / 64 == 2)]) ∧ Stt w B v l P w.heap.size o d s z i (n + 1 + 1) w' ∧ But B W w') := Lib.hid fun P o d s z i W S => S.call (fields_any v B (n + 1) l W S.rd (HBY.out (n + 1)).1 (HBY.out (n + 1)).2)
  generalize ((l.getD (n + 1) 0) / 64 == 2) = fb at *
  have ho : ¬ 0 ≤ oneI (l.getD n 0) := by rw [hc]; decide
  have CO : Hid (∀ W, Calls Try.prog 39 #[.int .u8 (l.getD n 0)] W fun e w' => e = .returned (.tuple #[.int .i64 0, .bool false]) ∧ W = w') := Lib.hid fun W => one_none _ W ho
  clear ho
  obtain ⟨r0, r1⟩ : 0 ≤ rF (l.getD (n + 1) 0) ∧ rF (l.getD (n + 1) 0) < 8 := by unfold rF; omega
  have CG : Hid (∀ W, Calls Try.prog 43 #[.int .u8 211, .int .u8 (rF (l.getD (n + 1) 0))] W fun e w' => e = .returned (.tuple #[.int .i64 (grpI 211 (rF (l.getD (n + 1) 0))), .bool (decide (0 ≤ grpI 211 (rF (l.getD (n + 1) 0))))]) ∧ W = w') := Lib.hid fun W => group_211 _ W r0 r1
  rw [hg] at CG
  clear hg
  generalize rF (l.getD (n + 1) 0) = r at *
  generalize mF (l.getD (n + 1) 0) = m at *
  generalize grpI 211 r = gi at *
  rw [hc] at CN CO
  clear h hby hc0 hc1
  have hr : IntKind.u8.wrap r = r := by rw [IntKind.wrap_u8]; omega
  exact qDj3
set_option maxRecDepth 100000 in
set_option maxHeartbeats 1000000 in
theorem gue_247_y (v : Value) (B n : Nat) (l : List Int) (z : Int) (w : World) (h : RdL w B v l n) (hby : Byt l) (hc : (l.getD n 0) = 247) (hg : decide (0 ≤ (grpI 247 (rF (l.getD (n + 1) 0)))) = true) : Calls Try.prog 25 #[.pointer (some ⟨B, 0, none⟩), .int .i64 z] w fun e w' => e = .returned (.agg #[.int .i64 (grpI 247 (rF (l.getD (n + 1) 0))), .int .i64 (mF (l.getD (n + 1) 0)), .int .i64 0, .int .i64 z, .int .i64 0]) ∧ RdL w' B v l (n + 2) ∧ But B w w' := by
  have HL := Lib.hid h
  have HBY := Lib.hid hby
  have hlt := h.r.lt
  have CN := Lib.hid (next_any v B n l (w.alloc (.cells #[.int .i64 0, .int .i64 0, .int .i64 0, .int .i64 0, .int .i64 0] 25)) (h.stays ((Below.refl _ _).alloc (Nat.le_refl _) _)))
  have hc0 := (hby n).1
  have hc1 := (hby n).2
  have CF : Hid (∀ (P : Nat) (o d s z i : Int) (W : World), Stt w B v l P w.heap.size o d s z i (n + 1) W → Calls Try.prog 40 #[.pointer (some ⟨B, 0, none⟩)] W fun e w' => e = .returned (.agg #[.int .i64 (rF (l.getD (n + 1) 0)), .int .i64 (mF (l.getD (n + 1) 0)), .bool ((l.getD (n + 1) 0) / 64 == 2)]) ∧ Stt w B v l P w.heap.size o d s z i (n + 1 + 1) w' ∧ But B W w') := Lib.hid fun P o d s z i W S => S.call (fields_any v B (n + 1) l W S.rd (HBY.out (n + 1)).1 (HBY.out (n + 1)).2)
  generalize ((l.getD (n + 1) 0) / 64 == 2) = fb at *
  have ho : ¬ 0 ≤ oneI (l.getD n 0) := by rw [hc]; decide
  have CO : Hid (∀ W, Calls Try.prog 39 #[.int .u8 (l.getD n 0)] W fun e w' => e = .returned (.tuple #[.int .i64 0, .bool false]) ∧ W = w') := Lib.hid fun W => one_none _ W ho
  clear ho
  obtain ⟨r0, r1⟩ : 0 ≤ rF (l.getD (n + 1) 0) ∧ rF (l.getD (n + 1) 0) < 8 := by unfold rF; omega
  have CG : Hid (∀ W, Calls Try.prog 43 #[.int .u8 247, .int .u8 (rF (l.getD (n + 1) 0))] W fun e w' => e = .returned (.tuple #[.int .i64 (grpI 247 (rF (l.getD (n + 1) 0))), .bool (decide (0 ≤ grpI 247 (rF (l.getD (n + 1) 0))))]) ∧ W = w') := Lib.hid fun W => group_247 _ W r0 r1
  rw [hg] at CG
  clear hg
  generalize rF (l.getD (n + 1) 0) = r at *
  generalize mF (l.getD (n + 1) 0) = m at *
  generalize grpI 247 r = gi at *
  rw [hc] at CN CO
  clear h hby hc0 hc1
  have hr : IntKind.u8.wrap r = r := by rw [IntKind.wrap_u8]; omega
  exact qDj2
set_option maxRecDepth 100000 in
set_option maxHeartbeats 1000000 in
theorem gue_247_n (v : Value) (B n : Nat) (l : List Int) (z : Int) (w : World) (h : RdL w B v l n) (hby : Byt l) (hc : (l.getD n 0) = 247) (hg : decide (0 ≤ (grpI 247 (rF (l.getD (n + 1) 0)))) = false) : Calls Try.prog 25 #[.pointer (some ⟨B, 0, none⟩), .int .i64 z] w fun e w' => e = .returned (.agg #[.int .i64 (-1), .int .i64 0, .int .i64 0, .int .i64 z, .int .i64 0]) ∧ RdL w' B v l (n + 2) ∧ But B w w' := by
  have HL := Lib.hid h
  have HBY := Lib.hid hby
  have hlt := h.r.lt
  have CN := Lib.hid (next_any v B n l (w.alloc (.cells #[.int .i64 0, .int .i64 0, .int .i64 0, .int .i64 0, .int .i64 0] 25)) (h.stays ((Below.refl _ _).alloc (Nat.le_refl _) _)))
  have hc0 := (hby n).1
  have hc1 := (hby n).2
  have CF : Hid (∀ (P : Nat) (o d s z i : Int) (W : World), Stt w B v l P w.heap.size o d s z i (n + 1) W → Calls Try.prog 40 #[.pointer (some ⟨B, 0, none⟩)] W fun e w' => e = .returned (.agg #[.int .i64 (rF (l.getD (n + 1) 0)), .int .i64 (mF (l.getD (n + 1) 0)), .bool ((l.getD (n + 1) 0) / 64 == 2)]) ∧ Stt w B v l P w.heap.size o d s z i (n + 1 + 1) w' ∧ But B W w') := Lib.hid fun P o d s z i W S => S.call (fields_any v B (n + 1) l W S.rd (HBY.out (n + 1)).1 (HBY.out (n + 1)).2)
  generalize ((l.getD (n + 1) 0) / 64 == 2) = fb at *
  have ho : ¬ 0 ≤ oneI (l.getD n 0) := by rw [hc]; decide
  have CO : Hid (∀ W, Calls Try.prog 39 #[.int .u8 (l.getD n 0)] W fun e w' => e = .returned (.tuple #[.int .i64 0, .bool false]) ∧ W = w') := Lib.hid fun W => one_none _ W ho
  clear ho
  obtain ⟨r0, r1⟩ : 0 ≤ rF (l.getD (n + 1) 0) ∧ rF (l.getD (n + 1) 0) < 8 := by unfold rF; omega
  have CG : Hid (∀ W, Calls Try.prog 43 #[.int .u8 247, .int .u8 (rF (l.getD (n + 1) 0))] W fun e w' => e = .returned (.tuple #[.int .i64 (grpI 247 (rF (l.getD (n + 1) 0))), .bool (decide (0 ≤ grpI 247 (rF (l.getD (n + 1) 0))))]) ∧ W = w') := Lib.hid fun W => group_247 _ W r0 r1
  rw [hg] at CG
  clear hg
  generalize rF (l.getD (n + 1) 0) = r at *
  generalize mF (l.getD (n + 1) 0) = m at *
  generalize grpI 247 r = gi at *
  rw [hc] at CN CO
  clear h hby hc0 hc1
  have hr : IntKind.u8.wrap r = r := by rw [IntKind.wrap_u8]; omega
  exact qDj3
set_option maxRecDepth 100000 in
set_option maxHeartbeats 1000000 in
theorem gue_no_a (v : Value) (B n : Nat) (l : List Int) (z : Int) (w : World) (h : RdL w B v l n) (hby : Byt l) (ho : ¬ 0 ≤ oneI (l.getD n 0)) (hlo : 0 ≤ (l.getD n 0)) (hhi : (l.getD n 0) ≤ 111) (t137 : ((l.getD n 0) == 137) = false) (t136 : ((l.getD n 0) == 136) = false) (t139 : ((l.getD n 0) == 139) = false) (t129 : ((l.getD n 0) == 129) = false) (t131 : ((l.getD n 0) == 131) = false) (t211 : ((l.getD n 0) == 211) = false) (t247 : ((l.getD n 0) == 247) = false) (t235 : ((l.getD n 0) == 235) = false) (t233 : ((l.getD n 0) == 233) = false) (t15 : ((l.getD n 0) == 15) = false) : Calls Try.prog 25 #[.pointer (some ⟨B, 0, none⟩), .int .i64 z] w fun e w' => e = .returned (.agg #[.int .i64 (-1), .int .i64 0, .int .i64 0, .int .i64 z, .int .i64 0]) ∧ RdL w' B v l (n + 1) ∧ But B w w' := by
  have HL := Lib.hid h
  have HBY := Lib.hid hby
  have hlt := h.r.lt
  have CN := Lib.hid (next_any v B n l (w.alloc (.cells #[.int .i64 0, .int .i64 0, .int .i64 0, .int .i64 0, .int .i64 0] 25)) (h.stays ((Below.refl _ _).alloc (Nat.le_refl _) _)))
  have hc0 := (hby n).1
  have hc1 := (hby n).2
  have CO : Hid (∀ W, Calls Try.prog 39 #[.int .u8 (l.getD n 0)] W fun e w' => e = .returned (.tuple #[.int .i64 0, .bool false]) ∧ W = w') := Lib.hid fun W => one_none _ W ho
  clear ho
  clear h hby
  generalize (l.getD n 0) = c at *
  have u0 : decide (184 ≤ c) = false := by simp; omega
  have u1 : decide (112 ≤ c) = false := by simp; omega
  exact qDj1
set_option maxRecDepth 100000 in
set_option maxHeartbeats 1000000 in
theorem gue_no_b (v : Value) (B n : Nat) (l : List Int) (z : Int) (w : World) (h : RdL w B v l n) (hby : Byt l) (ho : ¬ 0 ≤ oneI (l.getD n 0)) (hlo : 128 ≤ (l.getD n 0)) (hhi : (l.getD n 0) ≤ 183) (t137 : ((l.getD n 0) == 137) = false) (t136 : ((l.getD n 0) == 136) = false) (t139 : ((l.getD n 0) == 139) = false) (t129 : ((l.getD n 0) == 129) = false) (t131 : ((l.getD n 0) == 131) = false) (t211 : ((l.getD n 0) == 211) = false) (t247 : ((l.getD n 0) == 247) = false) (t235 : ((l.getD n 0) == 235) = false) (t233 : ((l.getD n 0) == 233) = false) (t15 : ((l.getD n 0) == 15) = false) : Calls Try.prog 25 #[.pointer (some ⟨B, 0, none⟩), .int .i64 z] w fun e w' => e = .returned (.agg #[.int .i64 (-1), .int .i64 0, .int .i64 0, .int .i64 z, .int .i64 0]) ∧ RdL w' B v l (n + 1) ∧ But B w w' := by
  have HL := Lib.hid h
  have HBY := Lib.hid hby
  have hlt := h.r.lt
  have CN := Lib.hid (next_any v B n l (w.alloc (.cells #[.int .i64 0, .int .i64 0, .int .i64 0, .int .i64 0, .int .i64 0] 25)) (h.stays ((Below.refl _ _).alloc (Nat.le_refl _) _)))
  have hc0 := (hby n).1
  have hc1 := (hby n).2
  have CO : Hid (∀ W, Calls Try.prog 39 #[.int .u8 (l.getD n 0)] W fun e w' => e = .returned (.tuple #[.int .i64 0, .bool false]) ∧ W = w') := Lib.hid fun W => one_none _ W ho
  clear ho
  clear h hby
  generalize (l.getD n 0) = c at *
  have u0 : decide (184 ≤ c) = false := by simp; omega
  have u1 : decide (112 ≤ c) = true := by simp; omega
  have v1 : decide (c ≤ 127) = false := by simp; omega
  exact qDj1
set_option maxRecDepth 100000 in
set_option maxHeartbeats 1000000 in
theorem gue_no_c (v : Value) (B n : Nat) (l : List Int) (z : Int) (w : World) (h : RdL w B v l n) (hby : Byt l) (ho : ¬ 0 ≤ oneI (l.getD n 0)) (hlo : 192 ≤ (l.getD n 0)) (hhi : (l.getD n 0) ≤ 255) (t137 : ((l.getD n 0) == 137) = false) (t136 : ((l.getD n 0) == 136) = false) (t139 : ((l.getD n 0) == 139) = false) (t129 : ((l.getD n 0) == 129) = false) (t131 : ((l.getD n 0) == 131) = false) (t211 : ((l.getD n 0) == 211) = false) (t247 : ((l.getD n 0) == 247) = false) (t235 : ((l.getD n 0) == 235) = false) (t233 : ((l.getD n 0) == 233) = false) (t15 : ((l.getD n 0) == 15) = false) : Calls Try.prog 25 #[.pointer (some ⟨B, 0, none⟩), .int .i64 z] w fun e w' => e = .returned (.agg #[.int .i64 (-1), .int .i64 0, .int .i64 0, .int .i64 z, .int .i64 0]) ∧ RdL w' B v l (n + 1) ∧ But B w w' := by
  have HL := Lib.hid h
  have HBY := Lib.hid hby
  have hlt := h.r.lt
  have CN := Lib.hid (next_any v B n l (w.alloc (.cells #[.int .i64 0, .int .i64 0, .int .i64 0, .int .i64 0, .int .i64 0] 25)) (h.stays ((Below.refl _ _).alloc (Nat.le_refl _) _)))
  have hc0 := (hby n).1
  have hc1 := (hby n).2
  have CO : Hid (∀ W, Calls Try.prog 39 #[.int .u8 (l.getD n 0)] W fun e w' => e = .returned (.tuple #[.int .i64 0, .bool false]) ∧ W = w') := Lib.hid fun W => one_none _ W ho
  clear ho
  clear h hby
  generalize (l.getD n 0) = c at *
  have u0 : decide (184 ≤ c) = true := by simp; omega
  have v0 : decide (c ≤ 191) = false := by simp; omega
  have u1 : decide (112 ≤ c) = true := by simp; omega
  have v1 : decide (c ≤ 127) = false := by simp; omega
  exact qDj1
end Go.Proofs.Ytdojafpjipcbjaa
