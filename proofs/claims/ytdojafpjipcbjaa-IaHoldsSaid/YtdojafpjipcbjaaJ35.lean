/- Walk of IaHolds. -/
import Derived.Test.YtdojafpjipcbjaaJ17
import Derived.Test.YtdojafpjipcbjaaJ32
import Derived.Test.YtdojafpjipcbjaaJ34
namespace Go.Proofs.Ytdojafpjipcbjaa
open Go.RowKit
set_option linter.unusedVariables false
set_option linter.unusedSimpArgs false
set_option maxRecDepth 100000 in
set_option maxHeartbeats 1000000 in
theorem wIaHolds (c f o d s z i : Int) (w : World) (hi : I64 i) : Calls Try.prog 6 #[.int .i64 c, .int .i64 f, .agg #[.int .i64 o, .int .i64 d, .int .i64 s, .int .i64 z, .int .i64 i]] w fun e w' => e = .returned (.bool true) ∧ Below w.heap.size w w' := by
  obtain ⟨W0, hW0⟩ : ∃ W, w.alloc (.cells #[.int .i64 o, .int .i64 d, .int .i64 s, .int .i64 z, .int .i64 i] 25) = W := ⟨_, rfl⟩
  have hb0 : Below w.heap.size w W0 := by rw [← hW0]; exact (Below.refl _ _).alloc (Nat.le_refl _) _
  have hbx : Box5 W0 w.heap.size o d s z i := by rw [← hW0]; exact Box5.new w o d s z i
  obtain ⟨⟨q0, q1, q2, q3, q4⟩, _⟩ := hbx.cells
  have HB0 := Lib.hid hb0
  have C1 := Lib.hid (fun wk => Holds_any c f wk)
  have C2 := Lib.hid (fun wk => rHolds_any c f wk)
  have C3 : Hid (∀ wk, Calls Try.prog 20 #[.agg #[.int .i64 o, .int .i64 d, .int .i64 s, .int .i64 z, .int .i64 i]] wk fun e w' => e = .returned (.tuple #[.int .i64 (rdX ⟨o, d, s, z, i⟩), .int .i64 (vaI ⟨o, d, s, z, i⟩)]) ∧ Below wk.heap.size wk w') := fun wk => reads_any ⟨o, d, s, z, i⟩ wk
  have C4 : Hid (∀ wk, Calls Try.prog 21 #[.agg #[.int .i64 o, .int .i64 d, .int .i64 s, .int .i64 z, .int .i64 i]] wk fun e w' => e = .returned (.tuple #[.int .i64 (rdX ⟨o, d, s, z, i⟩), .int .i64 (vaI ⟨o, d, s, z, i⟩)]) ∧ Below wk.heap.size wk w') := fun wk => rreads_any ⟨o, d, s, z, i⟩ wk hi
  have C5 := Lib.hid known_any
  generalize hoX c f = x1 at *
  generalize hoE c f = x2 at *
  generalize rdX ⟨o, d, s, z, i⟩ = x3 at *
  generalize vaI ⟨o, d, s, z, i⟩ = x4 at *
  have h00 := Since.refl W0
  clear hbx hb0
  go_enter Try.func6, Try.ntmps6
  go_wp2_with (first | ((go_at_call 18; with_reducible refine (C1.out _).mono ?_); rintro e w1 ⟨rfl, hb1⟩; have hs1 : Since W0 w1 := hb1; clear hb1) | ((go_at_call 19; with_reducible refine (C2.out _).mono ?_); rintro e w2 ⟨rfl, hb2⟩; have hs2 : Since W0 w2 := hs1.next hb2; have x0b := hs2.cell q0; have x1b := hs2.cell q1; have x2b := hs2.cell q2; have x3b := hs2.cell q3; have x4b := hs2.cell q4; clear hb2) | ((go_at_call 20; with_reducible refine (C3.out _).mono ?_); rintro e w3 ⟨rfl, hb3⟩; have hs3 : Since W0 w3 := hs2.next hb3; have y0b := hs3.cell q0; have y1b := hs3.cell q1; have y2b := hs3.cell q2; have y3b := hs3.cell q3; have y4b := hs3.cell q4; clear hb3) | ((go_at_call 21; with_reducible refine (C4.out _).mono ?_); rintro e w4 ⟨rfl, hb4⟩; have hs4 : Since W0 w4 := hs3.next hb4; clear hb4) | ((go_at_call 8; with_reducible refine (C5.out _).mono ?_); rintro e w5 ⟨rfl, hb5⟩; have hs5 : Since W0 w5 := hs4.next hb5; clear hb5))
  go_ret
  exact ⟨rfl, below_hop HB0.out hs5⟩
end Go.Proofs.Ytdojafpjipcbjaa
