/- The walk of the statement TopWords, for all numbers. -/
import Derived.Test.YtpgbepgbgpjmcaaDoorTy
namespace Go.Proofs.YtpgbepgbgpjmcaaDoor
open Go.RowKit Wd
set_option linter.unusedVariables false
set_option linter.unusedSimpArgs false
set_option maxRecDepth 100000 in
set_option maxHeartbeats 2000000 in
theorem wTopBad (n a b k l : Int) (z1 z2 : Bool) (w : World) (h3 : 0 ≤ a) (h4 : a ≤ 4294967295) (h5 : 0 ≤ b) (h6 : b ≤ 4294967295) (e1 : (isW n && fit n a) = z1) (e2 : (isW n && fit n b) = z2) (hz : (z1 && z2) = false) (hg : good 1 n a b = false) :
    Calls Tryd.prog 4 #[.int .i64 n, .agg #[.int .u32 a, .int .u32 b, .int .i64 k, .int .i64 l]] w fun e w' => e = .returned (.bool true) ∧ Below w.heap.size w w' := by
  have H9 : WW 4 9 9 := ⟨by decide, ⟨by decide, by decide⟩, ⟨by decide, by decide⟩⟩
  have e9 : tot 1 4 9 9 = 2 := by decide
  have T1 := Lib.hid (fun w => by have h := tDoes 1 4 9 9 w H9 (by decide) (by decide) rfl; rw [e9] at h; exact h)
  have I1 := Lib.hid (fun w => by have h := rIsWord_any n a w h3 h4; rw [e1] at h; exact h)
  have I2 := Lib.hid (fun w => by have h := rIsWord_any n b w h5 h6; rw [e2] at h; exact h)
  have D1 := Lib.hid (fun w => by have h := pDo 1 n a b w h3 h4 h5 h6; rw [show doE 1 n a b = 1 by simp [doE, hg]] at h; exact h)
  have HB := Lib.hid ((Below.refl w.heap.size w).alloc (Nat.le_refl _) (.cells #[.int .u32 a, .int .u32 b, .int .i64 k, .int .i64 l] 29))
  generalize doX 1 n a b = dx at *
  generalize doY 1 n a b = dy at *
  clear e1 e2 hg H9 e9
  cases z1
  all_goals first | (cases z2 <;> first | (simp at hz; done) | skip) | skip
  all_goals
    clear hz
    go_enter Tryd.func4, Tryd.ntmps4
    go_wp2_with (first | ((go_at_call 10; with_reducible refine (T1.out _).mono ?_); rintro e w1 ⟨rfl, hb⟩; have q0 : w1.cell? ⟨w.heap.size, 0, none⟩ = some (.int .u32 a) := box_kept hb 0; have q1 : w1.cell? ⟨w.heap.size, 1, none⟩ = some (.int .u32 b) := box_kept hb 1) | ((go_at_call 11; first | (with_reducible refine (I1.out _).mono ?_) | (with_reducible refine (I2.out _).mono ?_)); rintro e w' ⟨rfl, rfl⟩) | ((go_at_call 12; with_reducible refine (D1.out _).mono ?_); rintro e w2 ⟨rfl, hb2⟩))
    go_ret
    exact ⟨rfl, below_hop (below_box hb) hb2⟩
theorem wTopAll (n a b k l : Int) (w : World) (hT : Tab w) (h3 : 0 ≤ a) (h4 : a ≤ 4294967295) (h5 : 0 ≤ b) (h6 : b ≤ 4294967295) (k0 : -9223372036854775808 ≤ k) (k1 : k ≤ 9223372036854775807) (l0 : -9223372036854775808 ≤ l) (l1 : l ≤ 9223372036854775807) :
    Calls Tryd.prog 4 #[.int .i64 n, .agg #[.int .u32 a, .int .u32 b, .int .i64 k, .int .i64 l]] w fun e w' => e = .returned (.bool true) ∧ Below w.heap.size w w' := by
  by_cases hW : WW n a b
  · exact wTop n a b k l w hT hW k0 k1 l0 l1
  · have hn : ¬ (1 ≤ n ∧ n ≤ 32 ∧ a < pw n ∧ b < pw n) := fun h => hW ⟨⟨h.1, h.2.1⟩, ⟨h3, h.2.2.1⟩, ⟨h5, h.2.2.2⟩⟩
    refine wTopBad n a b k l _ _ w h3 h4 h5 h6 rfl rfl ?_ ?_
    · rw [Bool.eq_false_iff]
      intro h
      simp only [Bool.and_eq_true, isW, fit, decide_eq_true_eq] at h
      exact hn (by omega)
    · rw [Bool.eq_false_iff]
      intro h
      exact hn (by have := (good_iff _ _ _ _).1 h; omega)
end Go.Proofs.YtpgbepgbgpjmcaaDoor
