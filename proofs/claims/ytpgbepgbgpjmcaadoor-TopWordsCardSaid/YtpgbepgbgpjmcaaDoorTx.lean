/- The helpers of the statement TopWords: does, breaks, holds, signed. -/
import Derived.Test.YtpgbepgbgpjmcaaDoorTw
import Derived.Test.YtpgbepgbgpjmcaaDoorBm
import Derived.Test.YtpgbepgbgpjmcaaDoorBk
import Derived.Test.YtpgbepgbgpjmcaaDoorBr
import Derived.Test.YtpgbepgbgpjmcaaDoorBu
namespace Go.Proofs.YtpgbepgbgpjmcaaDoor
open Go.RowKit Wd
set_option linter.unusedVariables false
set_option linter.unusedSimpArgs false

/-- n is a width, and a and b are words of it. -/
def WW (n a b : Int) : Prop := (1 ≤ n ∧ n ≤ 32) ∧ Word n a ∧ Word n b
theorem WW.le {n a b : Int} (h : WW n a b) : 0 ≤ a ∧ a ≤ 4294967295 ∧ 0 ≤ b ∧ b ≤ 4294967295 := by
  have := pw_le32 h.1.2
  obtain ⟨⟨_, _⟩, ⟨_, _⟩, ⟨_, _⟩⟩ := h
  omega
theorem WW.good {n a b : Int} (h : WW n a b) {op : Int} (h1 : 1 ≤ op) (h2 : op ≤ 13) : good op n a b = true :=
  (good_iff _ _ _ _).2 ⟨h1, h2, h.1.1, h.1.2, h.2.1.2, h.2.2.2⟩
theorem WW.goodC {n a b : Int} (h : WW n a b) {p : Int} (h1 : 0 ≤ p) (h2 : p ≤ 9) : goodC p n a b = true :=
  (goodC_iff _ _ _ _).2 ⟨h1, h2, h.1.1, h.1.2, h.2.1.2, h.2.2.2⟩

theorem tDoes (op n a b : Int) (w : World) (hW : WW n a b) (o1 : 1 ≤ op) (o2 : op ≤ 13) (hh : has op n a b = true) : Calls Tryd.prog 10 #[.int .i64 op, .int .i64 n, .int .u32 a, .int .u32 b] w fun e w' => e = .returned (.tuple #[.int .u32 (tot op n a b), .bool true]) ∧ Below w.heap.size w w' := by
  obtain ⟨h3, h4, h5, h6⟩ := hW.le
  have g := hW.good o1 o2
  have H := pDo op n a b w h3 h4 h5 h6
  rw [show doX op n a b = tot op n a b by simp [doX, g, hh], show doY op n a b = true by simp [doY, g, hh], show doE op n a b = 0 by simp [doE, g]] at H
  clear g hh hW
  go_enter Tryd.func10, Tryd.ntmps10
  go_wp2_with (go_at_call 12; refine H.mono ?_; rintro e w' ⟨rfl, hb⟩)
  go_ret2
  exact ⟨rfl, hb⟩

theorem tBreaks (op fl n a b : Int) (w : World) (hW : WW n a b) (o1 : 1 ≤ op) (o2 : op ≤ 13) (f0 : 0 ≤ fl) (f7 : fl ≤ 7) : Calls Tryd.prog 14 #[.int .i64 op, .int .i64 fl, .int .i64 n, .int .u32 a, .int .u32 b] w fun e w' => e = .returned (.bool (brX op fl n a b)) ∧ Below w.heap.size w w' := by
  obtain ⟨h3, h4, h5, h6⟩ := hW.le
  have g := hW.good o1 o2
  have H := pBreaks_any op fl n a b w h3 h5
  rw [brE_0 g f0 f7] at H
  clear g hW
  generalize brX op fl n a b = z at *
  cases z
  all_goals
    go_enter Tryd.func14, Tryd.ntmps14
    go_wp2_with (go_at_call 26; refine H.mono ?_; rintro e w' ⟨rfl, hb⟩)
    go_ret
    exact ⟨rfl, hb⟩
theorem tBreaksU (op n a b : Int) (w : World) (hW : WW n a b) (ho : op = 1 ∨ op = 2 ∨ op = 3) : Calls Tryd.prog 14 #[.int .i64 op, .int .i64 1, .int .i64 n, .int .u32 a, .int .u32 b] w fun e w' => e = .returned (.bool (brU op n a b)) ∧ Below w.heap.size w w' := by
  rw [← brX_u (hW.good (by omega) (by omega)) (has_3 ho) ho]
  exact tBreaks op 1 n a b w hW (by omega) (by omega) (by decide) (by decide)
theorem tBreaksS (op n a b : Int) (w : World) (hW : WW n a b) (ho : op = 1 ∨ op = 2 ∨ op = 3) : Calls Tryd.prog 14 #[.int .i64 op, .int .i64 2, .int .i64 n, .int .u32 a, .int .u32 b] w fun e w' => e = .returned (.bool (brS op n a b)) ∧ Below w.heap.size w w' := by
  rw [← brX_s (hW.good (by omega) (by omega)) (has_3 ho) ho]
  exact tBreaks op 2 n a b w hW (by omega) (by omega) (by decide) (by decide)
theorem tBreaksB (op n a b : Int) (w : World) (hW : WW n a b) (ho : op = 1 ∨ op = 2 ∨ op = 3) : Calls Tryd.prog 14 #[.int .i64 op, .int .i64 3, .int .i64 n, .int .u32 a, .int .u32 b] w fun e w' => e = .returned (.bool (brU op n a b || brS op n a b)) ∧ Below w.heap.size w w' := by
  rw [← brX_b (hW.good (by omega) (by omega)) (has_3 ho) ho]
  exact tBreaks op 3 n a b w hW (by omega) (by omega) (by decide) (by decide)
theorem tBreaksL (op n a b : Int) (w : World) (hW : WW n a b) (ho : op = 4 ∨ op = 12) (hh : has op n a b = true) : Calls Tryd.prog 14 #[.int .i64 op, .int .i64 4, .int .i64 n, .int .u32 a, .int .u32 b] w fun e w' => e = .returned (.bool (brL op n a b)) ∧ Below w.heap.size w w' := by
  rw [← brX_l (hW.good (by omega) (by omega)) hh ho]
  exact tBreaks op 4 n a b w hW (by omega) (by omega) (by decide) (by decide)

theorem tHolds (p n a b : Int) (w : World) (hW : WW n a b) (o1 : 0 ≤ p) (o2 : p ≤ 9) : Calls Tryd.prog 15 #[.int .i64 p, .int .i64 n, .int .u32 a, .int .u32 b] w fun e w' => e = .returned (.bool (cmpV p n a b)) ∧ Below w.heap.size w w' := by
  obtain ⟨h3, h4, h5, h6⟩ := hW.le
  have g := hW.goodC o1 o2
  have H := pCompare p n a b h3 h4 h5 h6 w
  rw [show coX p n a b = cmpV p n a b by simp [coX, g], show coE p n a b = 0 by simp [coE, g]] at H
  clear g hW
  generalize cmpV p n a b = z at *
  cases z
  all_goals
    go_enter Tryd.func15, Tryd.ntmps15
    go_wp2_with (go_at_call 27; refine H.mono ?_; rintro e w' ⟨rfl, hb⟩)
    go_ret
    exact ⟨rfl, hb⟩

theorem tSigned (n a : Int) (w : World) (h1 : 1 ≤ n) (h2 : n ≤ 32) (ha : Word n a) : Calls Tryd.prog 13 #[.int .i64 n, .int .u32 a] w fun e w' => e = .returned (.int .i64 (sgn n a)) ∧ Below w.heap.size w w' := by
  have hp := pw_le32 h2
  have H := pSigned n a ha.1 (by have := ha.2; omega) w
  have hw : (isW n && fit n a) = true := by simp [isW, fit, h1, h2, ha.2]
  rw [show sgX n a = sgn n a by simp [sgX, hw], show sgE n a = 0 by simp [sgE, hw]] at H
  clear hw ha hp
  go_enter Tryd.func13, Tryd.ntmps13
  go_wp2_with (go_at_call 25; refine H.mono ?_; rintro e w' ⟨rfl, hb⟩)
  go_ret
  exact ⟨rfl, hb⟩
end Go.Proofs.YtpgbepgbgpjmcaaDoor
