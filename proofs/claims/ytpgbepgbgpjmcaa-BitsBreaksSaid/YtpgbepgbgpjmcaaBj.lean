/- The walks of the statements BitsTotals and BitsLanes. -/
import Derived.Test.YtpgbepgbgpjmcaaBi
namespace Go.Proofs.Ytpgbepgbgpjmcaa
open Go.RowKit Wd
set_option linter.unusedVariables false
set_option linter.unusedSimpArgs false
/-- What lay there in the world w0 lies there in w, as it was. -/
def Since (w0 w : World) : Prop := Below w0.heap.size w0 w
theorem Since.refl (w : World) : Since w w := Below.refl _ _
theorem Since.drewN {w0 w : World} (h : Since w0 w) (n : Nat) : Since w0 (w.drewN n) := below_drewN h n
theorem acc_p {P : Program} {f : FuncId} {args : Array Value} {w : World} {v : Value} (h : Calls P f args w fun e w' => e = .returned v ∧ Below w.heap.size w w') {w0 : World} (h0 : Since w0 w) :
    Calls P f args w fun e w' => e = .returned v ∧ Since w0 w' := h.mono fun _ _ hh => ⟨hh.1, below_hop h0 hh.2⟩
theorem acc_e {P : Program} {f : FuncId} {args : Array Value} {w : World} {v : Value} (h : Calls P f args w fun e w' => e = .returned v ∧ w = w') {w0 : World} (h0 : Since w0 w) :
    Calls P f args w fun e w' => e = .returned v ∧ Since w0 w' := h.mono fun _ _ hh => ⟨hh.1, hh.2 ▸ h0⟩
theorem acc_d {P : Program} {f : FuncId} {args : Array Value} {w : World} {v : Value} (h : Calls P f args w fun e w' => e = .returned v ∧ Dr w w') {w0 : World} (h0 : Since w0 w) :
    Calls P f args w fun e w' => e = .returned v ∧ Since w0 w' := h.mono fun _ _ hh => ⟨hh.1, below_hop h0 (hh.2.below _)⟩
theorem since_box {w wk : World} {cs : Array Value} {T : TypeId} (i : Nat) (hb : Since (w.alloc (.cells cs T)) wk) : wk.cell? ⟨w.heap.size, i, none⟩ = cs[i]? := box_kept hb i

theorem wTotals (op n a b : Int) (w : World) (h3 : 0 ≤ a) (h4 : a ≤ 4294967295) (h5 : 0 ≤ b) (h6 : b ≤ 4294967295) : Calls Try.prog 4 #[.int .i64 op, .int .i64 n, .agg #[.int .u32 a, .int .u32 b]] w fun e w' => e = .returned (.bool true) ∧ Below w.heap.size w w' := by
  by_cases hy : doY op n a b = true
  · have hx : doX op n a b = toX op n a b := by
      unfold doY at hy
      simp only [Bool.and_eq_true] at hy
      simp [doX, toX, hy.1, hy.2]
    go_enter Try.func4, Try.ntmps4
    go_wp2_with fail
    have h00 := Since.refl (w.alloc (.cells #[.int .u32 a, .int .u32 b] 24))
    have l0 : ∀ wk, Since (w.alloc (.cells #[.int .u32 a, .int .u32 b] 24)) wk → wk.cell? ⟨w.heap.size, 0, none⟩ = some (.int .u32 a) := fun wk h => since_box 0 h
    have l1 : ∀ wk, Since (w.alloc (.cells #[.int .u32 a, .int .u32 b] 24)) wk → wk.cell? ⟨w.heap.size, 1, none⟩ = some (.int .u32 b) := fun wk h => since_box 1 h
    go_wp2_with (first | (go_at_call 14; refine (acc_p (pTotal _ _ _ _ _ (by omega) (by omega) (by omega) (by omega)) (by assumption)).mono ?_; rintro e w' ⟨rfl, hb⟩) | (go_at_call 15; refine (acc_d (rTotal _ _ _ _ _ (by omega) (by omega) (by omega) (by omega)) (by assumption)).mono ?_; rintro e w' ⟨rfl, hb⟩) | (go_at_call 11; refine (acc_p (pDo _ _ _ _ _ (by omega) (by omega) (by omega) (by omega)) (by assumption)).mono ?_; rintro e w' ⟨rfl, hb⟩) | (go_at_call 13; refine (acc_p (known_any _) (by assumption)).mono ?_; rintro e w' ⟨rfl, hb⟩))
    go_ret
    exact ⟨rfl, below_box ‹_›⟩
  · have hy : doY op n a b = false := by simpa using hy
    go_enter Try.func4, Try.ntmps4
    go_wp2_with fail
    have h00 := Since.refl (w.alloc (.cells #[.int .u32 a, .int .u32 b] 24))
    have l0 : ∀ wk, Since (w.alloc (.cells #[.int .u32 a, .int .u32 b] 24)) wk → wk.cell? ⟨w.heap.size, 0, none⟩ = some (.int .u32 a) := fun wk h => since_box 0 h
    have l1 : ∀ wk, Since (w.alloc (.cells #[.int .u32 a, .int .u32 b] 24)) wk → wk.cell? ⟨w.heap.size, 1, none⟩ = some (.int .u32 b) := fun wk h => since_box 1 h
    go_wp2_with (first | (go_at_call 14; refine (acc_p (pTotal _ _ _ _ _ (by omega) (by omega) (by omega) (by omega)) (by assumption)).mono ?_; rintro e w' ⟨rfl, hb⟩) | (go_at_call 15; refine (acc_d (rTotal _ _ _ _ _ (by omega) (by omega) (by omega) (by omega)) (by assumption)).mono ?_; rintro e w' ⟨rfl, hb⟩) | (go_at_call 11; refine (acc_p (pDo _ _ _ _ _ (by omega) (by omega) (by omega) (by omega)) (by assumption)).mono ?_; rintro e w' ⟨rfl, hb⟩) | (go_at_call 13; refine (acc_p (known_any _) (by assumption)).mono ?_; rintro e w' ⟨rfl, hb⟩))
    go_ret
    exact ⟨rfl, below_box ‹_›⟩

theorem wLanes (op n l a b : Int) (w : World) (h3 : 0 ≤ a) (h4 : a ≤ 4294967295) (h5 : 0 ≤ b) (h6 : b ≤ 4294967295) : Calls Try.prog 5 #[.int .i64 op, .agg #[.int .i64 n, .int .i64 l], .agg #[.int .u32 a, .int .u32 b]] w fun e w' => e = .returned (.bool true) ∧ Below w.heap.size w w' := by
  by_cases g : goodL op n l a b = true
  · have e1 : laE op n l a b = 0 := by simp [laE, g]
    have e2 : laX op n l a b = lanes op n l a b := by simp [laX, g]
    obtain ⟨g0, g1, g2, g3, g4, g5, g6, g7⟩ := (goodL_iff _ _ _ _ _).1 g
    have hbk := lanes_back g h3
    obtain ⟨v1, v2⟩ := lanes_bd (op := op) (a := a) (b := b) g5 g7 g1
    have g' : goodL (39 - op) n l (lanes op n l a b) b = true := (goodL_iff _ _ _ _ _).2 ⟨by omega, g1, g2, v2, g4, g5, g6, g7⟩
    have v3 : lanes op n l a b ≤ 4294967295 := by have := pw_le32 g2; omega
    have e3 : laE (39 - op) n l (lanes op n l a b) b = 0 := by simp [laE, g']
    have e4 : laX (39 - op) n l (lanes op n l a b) b = a := by rw [← hbk]; simp [laX, g', hbk]
    clear g' hbk g7 g v2
    rcases g0 with rfl | rfl
    · rw [show (39 : Int) - 19 = 20 from rfl] at e3 e4
      generalize lanes 19 n l a b = z at *
      go_enter Try.func5, Try.ntmps5
      go_wp2_with fail
      have h00 := Since.refl ((w.alloc (.cells #[.int .i64 n, .int .i64 l] 33)).alloc (.cells #[.int .u32 a, .int .u32 b] 24))
      have l0 : ∀ wk, Since ((w.alloc (.cells #[.int .i64 n, .int .i64 l] 33)).alloc (.cells #[.int .u32 a, .int .u32 b] 24)) wk → wk.cell? ⟨w.heap.size, 0, none⟩ = some (.int .i64 n) := fun wk h => by rw [(bcell (show Below _ _ _ from h)).1 _ _ (by simp; try omega)]; simp [go_sem]
      have l1 : ∀ wk, Since ((w.alloc (.cells #[.int .i64 n, .int .i64 l] 33)).alloc (.cells #[.int .u32 a, .int .u32 b] 24)) wk → wk.cell? ⟨w.heap.size, 1, none⟩ = some (.int .i64 l) := fun wk h => by rw [(bcell (show Below _ _ _ from h)).1 _ _ (by simp; try omega)]; simp [go_sem]
      have l2 : ∀ wk, Since ((w.alloc (.cells #[.int .i64 n, .int .i64 l] 33)).alloc (.cells #[.int .u32 a, .int .u32 b] 24)) wk → wk.cell? ⟨w.heap.size + 1, 0, none⟩ = some (.int .u32 a) := fun wk h => by rw [(bcell (show Below _ _ _ from h)).1 _ _ (by simp; try omega)]; simp [go_sem]
      have l3 : ∀ wk, Since ((w.alloc (.cells #[.int .i64 n, .int .i64 l] 33)).alloc (.cells #[.int .u32 a, .int .u32 b] 24)) wk → wk.cell? ⟨w.heap.size + 1, 1, none⟩ = some (.int .u32 b) := fun wk h => by rw [(bcell (show Below _ _ _ from h)).1 _ _ (by simp; try omega)]; simp [go_sem]
      go_wp2_with (first | (go_at_call 16; refine (acc_p (pLanes _ _ _ _ _ _ (by omega) (by omega) (by omega) (by omega)) (by assumption)).mono ?_; rintro e w' ⟨rfl, hb⟩) | (go_at_call 17; refine (acc_d (rLanes _ _ _ _ _ _ (by omega) (by omega) (by omega) (by omega)) (by assumption)).mono ?_; rintro e w' ⟨rfl, hb⟩) | (go_at_call 13; refine (acc_p (known_any _) (by assumption)).mono ?_; rintro e w' ⟨rfl, hb⟩))
      go_ret
      exact ⟨rfl, below_box (below_box ‹_›)⟩
    · rw [show (39 : Int) - 20 = 19 from rfl] at e3 e4
      generalize lanes 20 n l a b = z at *
      go_enter Try.func5, Try.ntmps5
      go_wp2_with fail
      have h00 := Since.refl ((w.alloc (.cells #[.int .i64 n, .int .i64 l] 33)).alloc (.cells #[.int .u32 a, .int .u32 b] 24))
      have l0 : ∀ wk, Since ((w.alloc (.cells #[.int .i64 n, .int .i64 l] 33)).alloc (.cells #[.int .u32 a, .int .u32 b] 24)) wk → wk.cell? ⟨w.heap.size, 0, none⟩ = some (.int .i64 n) := fun wk h => by rw [(bcell (show Below _ _ _ from h)).1 _ _ (by simp; try omega)]; simp [go_sem]
      have l1 : ∀ wk, Since ((w.alloc (.cells #[.int .i64 n, .int .i64 l] 33)).alloc (.cells #[.int .u32 a, .int .u32 b] 24)) wk → wk.cell? ⟨w.heap.size, 1, none⟩ = some (.int .i64 l) := fun wk h => by rw [(bcell (show Below _ _ _ from h)).1 _ _ (by simp; try omega)]; simp [go_sem]
      have l2 : ∀ wk, Since ((w.alloc (.cells #[.int .i64 n, .int .i64 l] 33)).alloc (.cells #[.int .u32 a, .int .u32 b] 24)) wk → wk.cell? ⟨w.heap.size + 1, 0, none⟩ = some (.int .u32 a) := fun wk h => by rw [(bcell (show Below _ _ _ from h)).1 _ _ (by simp; try omega)]; simp [go_sem]
      have l3 : ∀ wk, Since ((w.alloc (.cells #[.int .i64 n, .int .i64 l] 33)).alloc (.cells #[.int .u32 a, .int .u32 b] 24)) wk → wk.cell? ⟨w.heap.size + 1, 1, none⟩ = some (.int .u32 b) := fun wk h => by rw [(bcell (show Below _ _ _ from h)).1 _ _ (by simp; try omega)]; simp [go_sem]
      go_wp2_with (first | (go_at_call 16; refine (acc_p (pLanes _ _ _ _ _ _ (by omega) (by omega) (by omega) (by omega)) (by assumption)).mono ?_; rintro e w' ⟨rfl, hb⟩) | (go_at_call 17; refine (acc_d (rLanes _ _ _ _ _ _ (by omega) (by omega) (by omega) (by omega)) (by assumption)).mono ?_; rintro e w' ⟨rfl, hb⟩) | (go_at_call 13; refine (acc_p (known_any _) (by assumption)).mono ?_; rintro e w' ⟨rfl, hb⟩))
      go_ret
      exact ⟨rfl, below_box (below_box ‹_›)⟩
  · have g : goodL op n l a b = false := by simpa using g
    have e1 : laE op n l a b = 1 := by simp [laE, g]
    clear g
    go_enter Try.func5, Try.ntmps5
    go_wp2_with fail
    have h00 := Since.refl ((w.alloc (.cells #[.int .i64 n, .int .i64 l] 33)).alloc (.cells #[.int .u32 a, .int .u32 b] 24))
    have l0 : ∀ wk, Since ((w.alloc (.cells #[.int .i64 n, .int .i64 l] 33)).alloc (.cells #[.int .u32 a, .int .u32 b] 24)) wk → wk.cell? ⟨w.heap.size, 0, none⟩ = some (.int .i64 n) := fun wk h => by rw [(bcell (show Below _ _ _ from h)).1 _ _ (by simp; try omega)]; simp [go_sem]
    have l1 : ∀ wk, Since ((w.alloc (.cells #[.int .i64 n, .int .i64 l] 33)).alloc (.cells #[.int .u32 a, .int .u32 b] 24)) wk → wk.cell? ⟨w.heap.size, 1, none⟩ = some (.int .i64 l) := fun wk h => by rw [(bcell (show Below _ _ _ from h)).1 _ _ (by simp; try omega)]; simp [go_sem]
    have l2 : ∀ wk, Since ((w.alloc (.cells #[.int .i64 n, .int .i64 l] 33)).alloc (.cells #[.int .u32 a, .int .u32 b] 24)) wk → wk.cell? ⟨w.heap.size + 1, 0, none⟩ = some (.int .u32 a) := fun wk h => by rw [(bcell (show Below _ _ _ from h)).1 _ _ (by simp; try omega)]; simp [go_sem]
    have l3 : ∀ wk, Since ((w.alloc (.cells #[.int .i64 n, .int .i64 l] 33)).alloc (.cells #[.int .u32 a, .int .u32 b] 24)) wk → wk.cell? ⟨w.heap.size + 1, 1, none⟩ = some (.int .u32 b) := fun wk h => by rw [(bcell (show Below _ _ _ from h)).1 _ _ (by simp; try omega)]; simp [go_sem]
    go_wp2_with (first | (go_at_call 16; refine (acc_p (pLanes _ _ _ _ _ _ (by omega) (by omega) (by omega) (by omega)) (by assumption)).mono ?_; rintro e w' ⟨rfl, hb⟩) | (go_at_call 17; refine (acc_d (rLanes _ _ _ _ _ _ (by omega) (by omega) (by omega) (by omega)) (by assumption)).mono ?_; rintro e w' ⟨rfl, hb⟩) | (go_at_call 13; refine (acc_p (known_any _) (by assumption)).mono ?_; rintro e w' ⟨rfl, hb⟩))
    go_ret
    exact ⟨rfl, below_box (below_box ‹_›)⟩

end Go.Proofs.Ytpgbepgbgpjmcaa
