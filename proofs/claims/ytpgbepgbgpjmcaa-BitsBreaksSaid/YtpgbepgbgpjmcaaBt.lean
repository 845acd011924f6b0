/- Breaks of the answer, for all numbers; and the walk of the statement BitsBreaks. -/
import Derived.Test.YtpgbepgbgpjmcaaBr
import Derived.Test.YtpgbepgbgpjmcaaBj
import Derived.Test.YtpgbepgbgpjmcaaBs2
import Derived.Test.YtpgbepgbgpjmcaaBs3
import Derived.Test.YtpgbepgbgpjmcaaBs4
import Derived.Test.YtpgbepgbgpjmcaaBs5
import Derived.Test.YtpgbepgbgpjmcaaBs6
import Derived.Test.YtpgbepgbgpjmcaaBs7
namespace Go.Proofs.Ytpgbepgbgpjmcaa
open Go.RowKit Wd
set_option linter.unusedVariables false
set_option linter.unusedSimpArgs false

set_option maxRecDepth 100000 in
theorem rBreaks_bad (op fl n a b : Int) (w : World) (g : good op n a b = false) (h3 : 0 ≤ a) (h4 : a ≤ 4294967295) (h5 : 0 ≤ b) (h6 : b ≤ 4294967295) : Calls Try.prog 29 #[.int .i64 op, .int .i64 fl, .int .i64 n, .int .u32 a, .int .u32 b] w fun e w' => e = .returned (.tuple #[.bool false, .int .i64 1]) ∧ Dr w w' := by
  go_enter Try.func29, Try.ntmps29
  go_wp2_with (first | (go_at_call 37; refine (rtwo_no _ _ _ _ _ (by assumption) (by omega) (by omega) (by omega) (by omega)).mono ?_; rintro e w' ⟨rfl, rfl⟩))
  go_ret2
  exact ⟨rfl, Dr.refl _⟩

set_option maxRecDepth 100000 in
theorem rBreaks_fl (op fl n a b : Int) (w : World) (g : good op n a b = true) (h3 : 0 ≤ a) (h4 : a ≤ 4294967295) (h5 : 0 ≤ b) (h6 : b ≤ 4294967295) (hf : ¬ (0 ≤ fl ∧ fl ≤ 7)) : Calls Try.prog 29 #[.int .i64 op, .int .i64 fl, .int .i64 n, .int .u32 a, .int .u32 b] w fun e w' => e = .returned (.tuple #[.bool false, .int .i64 1]) ∧ Dr w w' := by
  rcases Int.lt_or_le fl 0 with hn | hn
  · have u1 : decide (fl < 0) = true := by simpa using hn
    go_enter Try.func29, Try.ntmps29
    go_wp2_with (first | (go_at_call 37; refine (rtwo_ok _ _ _ _ _ (by assumption) (by omega) (by omega) (by omega) (by omega)).mono ?_; rintro e w' ⟨rfl, rfl⟩))
    go_ret2
    exact ⟨rfl, Dr.refl _⟩
  · have u1 : decide (fl < 0) = false := by simp; omega
    have u2 : decide (7 < fl) = true := by simp; omega
    go_enter Try.func29, Try.ntmps29
    go_wp2_with (first | (go_at_call 37; refine (rtwo_ok _ _ _ _ _ (by assumption) (by omega) (by omega) (by omega) (by omega)).mono ?_; rintro e w' ⟨rfl, rfl⟩))
    go_ret2
    exact ⟨rfl, Dr.refl _⟩

set_option maxRecDepth 100000 in
theorem rBreaks_any (op fl n a b : Int) (w : World) (h3 : 0 ≤ a) (h4 : a ≤ 4294967295) (h5 : 0 ≤ b) (h6 : b ≤ 4294967295) : Calls Try.prog 29 #[.int .i64 op, .int .i64 fl, .int .i64 n, .int .u32 a, .int .u32 b] w fun e w' => e = .returned (.tuple #[.bool (brX op fl n a b), .int .i64 (brE op fl n a b)]) ∧ Dr w w' := by
  cases g : good op n a b
  · have hv : brX op fl n a b = false ∧ brE op fl n a b = 1 := by simp [brX, brE, goodF, g]
    rw [hv.1, hv.2]
    exact rBreaks_bad op fl n a b w g h3 h4 h5 h6
  · obtain ⟨g1, g2, _⟩ := (good_iff _ _ _ _).1 g
    have h : op = 1 ∨ op = 2 ∨ op = 3 ∨ op = 4 ∨ op = 5 ∨ op = 6 ∨ op = 7 ∨ op = 8 ∨ op = 9 ∨ op = 10 ∨ op = 11 ∨ op = 12 ∨ op = 13 := by omega
    by_cases hf : 0 ≤ fl ∧ fl ≤ 7
    · have hv : brX op fl n a b = (has op n a b && brk op fl n a b) ∧ brE op fl n a b = 0 := by simp [brX, brE, goodF, g, hf]
      rw [hv.1, hv.2]
      rcases h with rfl | rfl | rfl | rfl | rfl | rfl | rfl | rfl | rfl | rfl | rfl | rfl | rfl
      · exact rBreaks_1 fl n a b w g h3 h5 hf.1 hf.2
      · exact rBreaks_2 fl n a b w g h3 h5 hf.1 hf.2
      · exact rBreaks_3 fl n a b w g h3 h5 hf.1 hf.2
      · exact rBreaks_4 fl n a b w g h3 h5 hf.1 hf.2
      · exact rBreaks_5 fl n a b w g h3 h5 hf.1 hf.2
      · exact rBreaks_6 fl n a b w g h3 h5 hf.1 hf.2
      · exact rBreaks_7 fl n a b w g h3 h5 hf.1 hf.2
      · exact rBreaks_8 fl n a b w g h3 h5 hf.1 hf.2
      · exact rBreaks_9 fl n a b w g h3 h5 hf.1 hf.2
      · exact rBreaks_10 fl n a b w g h3 h5 hf.1 hf.2
      · exact rBreaks_11 fl n a b w g h3 h5 hf.1 hf.2
      · exact rBreaks_12 fl n a b w g h3 h5 hf.1 hf.2
      · exact rBreaks_13 fl n a b w g h3 h5 hf.1 hf.2
    · have hv : brX op fl n a b = false ∧ brE op fl n a b = 1 := by simp [brX, brE, goodF, hf]
      rw [hv.1, hv.2]
      exact rBreaks_fl op fl n a b w g h3 h4 h5 h6 hf

set_option maxRecDepth 100000 in
theorem wBreaks (op fl n a b : Int) (w : World) (h3 : 0 ≤ a) (h4 : a ≤ 4294967295) (h5 : 0 ≤ b) (h6 : b ≤ 4294967295) : Calls Try.prog 9 #[.agg #[.int .i64 op, .int .i64 fl], .int .i64 n, .agg #[.int .u32 a, .int .u32 b]] w fun e w' => e = .returned (.bool true) ∧ Below w.heap.size w w' := by
  go_enter Try.func9, Try.ntmps9
  go_wp2_with fail
  have h00 := Since.refl ((w.alloc (.cells #[.int .i64 op, .int .i64 fl] 49)).alloc (.cells #[.int .u32 a, .int .u32 b] 24))
  have l0 : ∀ wk, Since ((w.alloc (.cells #[.int .i64 op, .int .i64 fl] 49)).alloc (.cells #[.int .u32 a, .int .u32 b] 24)) wk → wk.cell? ⟨w.heap.size, 0, none⟩ = some (.int .i64 op) := fun wk h => by rw [(bcell (show Below _ _ _ from h)).1 _ _ (by simp; try omega)]; simp [go_sem]
  have l1 : ∀ wk, Since ((w.alloc (.cells #[.int .i64 op, .int .i64 fl] 49)).alloc (.cells #[.int .u32 a, .int .u32 b] 24)) wk → wk.cell? ⟨w.heap.size, 1, none⟩ = some (.int .i64 fl) := fun wk h => by rw [(bcell (show Below _ _ _ from h)).1 _ _ (by simp; try omega)]; simp [go_sem]
  have l2 : ∀ wk, Since ((w.alloc (.cells #[.int .i64 op, .int .i64 fl] 49)).alloc (.cells #[.int .u32 a, .int .u32 b] 24)) wk → wk.cell? ⟨w.heap.size + 1, 0, none⟩ = some (.int .u32 a) := fun wk h => by rw [(bcell (show Below _ _ _ from h)).1 _ _ (by simp; try omega)]; simp [go_sem]
  have l3 : ∀ wk, Since ((w.alloc (.cells #[.int .i64 op, .int .i64 fl] 49)).alloc (.cells #[.int .u32 a, .int .u32 b] 24)) wk → wk.cell? ⟨w.heap.size + 1, 1, none⟩ = some (.int .u32 b) := fun wk h => by rw [(bcell (show Below _ _ _ from h)).1 _ _ (by simp; try omega)]; simp [go_sem]
  go_wp2_with (first | (go_at_call 28; refine (acc_p (pBreaks_any _ _ _ _ _ _ (by omega) (by omega)) (by assumption)).mono ?_; rintro e w' ⟨rfl, hb⟩) | (go_at_call 29; refine (acc_d (rBreaks_any _ _ _ _ _ _ (by omega) (by omega) (by omega) (by omega)) (by assumption)).mono ?_; rintro e w' ⟨rfl, hb⟩) | (go_at_call 13; refine (acc_p (known_any _) (by assumption)).mono ?_; rintro e w' ⟨rfl, hb⟩))
  go_ret
  exact ⟨rfl, below_box (below_box ‹_›)⟩

end Go.Proofs.Ytpgbepgbgpjmcaa
