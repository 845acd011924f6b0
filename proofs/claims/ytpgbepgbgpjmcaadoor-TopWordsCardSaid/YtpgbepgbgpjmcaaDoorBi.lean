/- Do, Total and Lanes of both sides in one form; known; the walks of the statements BitsDoes, BitsTotals, BitsLanes. -/
import Derived.Test.YtpgbepgbgpjmcaaDoorBg
import Derived.Test.YtpgbepgbgpjmcaaDoorBh
namespace Go.Proofs.YtpgbepgbgpjmcaaDoor
open Go.RowKit Wd
set_option linter.unusedVariables false
set_option linter.unusedSimpArgs false
def doX (op n a b : Int) : Int := if good op n a b = true then (if has op n a b = true then tot op n a b else 0) else 0
def doY (op n a b : Int) : Bool := good op n a b && has op n a b
def doE (op n a b : Int) : Int := if good op n a b = true then 0 else 1
def toX (op n a b : Int) : Int := if good op n a b = true then tot op n a b else 0
def laX (op n l a b : Int) : Int := if goodL op n l a b = true then lanes op n l a b else 0
def laE (op n l a b : Int) : Int := if goodL op n l a b = true then 0 else 1
theorem doV_eq (op n a b : Int) : doV op n a b = .tuple #[.int .u32 (doX op n a b), .bool (doY op n a b), .int .i64 (doE op n a b)] := by
  unfold doV doX doY doE
  cases good op n a b <;> cases has op n a b <;> rfl
theorem totV_eq (op n a b : Int) : totV op n a b = .tuple #[.int .u32 (toX op n a b), .int .i64 (doE op n a b)] := by
  unfold totV toX doE
  cases good op n a b <;> rfl

theorem pDo (op n a b : Int) (w : World) (h3 : 0 ≤ a) (h4 : a ≤ 4294967295) (h5 : 0 ≤ b) (h6 : b ≤ 4294967295) : Calls Tryd.prog 12 #[.int .i64 op, .int .i64 n, .int .u32 a, .int .u32 b] w fun e w' => e = .returned (.tuple #[.int .u32 (doX op n a b), .bool (doY op n a b), .int .i64 (doE op n a b)]) ∧ Below w.heap.size w w' := by rw [← doV_eq]; exact pDo_any op n a b w h3 h5
theorem pTotal (op n a b : Int) (w : World) (h3 : 0 ≤ a) (h4 : a ≤ 4294967295) (h5 : 0 ≤ b) (h6 : b ≤ 4294967295) : Calls Tryd.prog 22 #[.int .i64 op, .int .i64 n, .int .u32 a, .int .u32 b] w fun e w' => e = .returned (.tuple #[.int .u32 (toX op n a b), .int .i64 (doE op n a b)]) ∧ Below w.heap.size w w' := by rw [← totV_eq]; exact pTotal_any op n a b w h3 h5
theorem pLanes (op n l a b : Int) (w : World) (h3 : 0 ≤ a) (h4 : a ≤ 4294967295) (h5 : 0 ≤ b) (h6 : b ≤ 4294967295) : Calls Tryd.prog 17 #[.int .i64 op, .int .i64 n, .int .i64 l, .int .u32 a, .int .u32 b] w fun e w' => e = .returned (.tuple #[.int .u32 (laX op n l a b), .int .i64 (laE op n l a b)]) ∧ Below w.heap.size w w' := by
  by_cases g : goodL op n l a b = true
  · have e1 : laX op n l a b = lanes op n l a b := by simp [laX, g]
    have e2 : laE op n l a b = 0 := by simp [laE, g]
    rw [e1, e2]
    obtain ⟨g0, _⟩ := (goodL_iff _ _ _ _ _).1 g
    rcases g0 with rfl | rfl
    · exact pLanes_19 n l a b w g h3 h5
    · exact pLanes_20 n l a b w g h3 h5
  · have g : goodL op n l a b = false := by simpa using g
    have e1 : laX op n l a b = 0 := by simp [laX, g]
    have e2 : laE op n l a b = 1 := by simp [laE, g]
    rw [e1, e2]
    exact pLanes_bad op n l a b w g h3 h4 h5 h6
theorem known_any (w : World) : Calls Tryd.prog 9 #[] w fun e w' => e = .returned (.bool true) ∧ Below w.heap.size w w' := by
  have k1 : doX 1 4 9 9 = 2 := by decide
  have k2 : doY 1 4 9 9 = true := by decide
  have k3 : doE 1 4 9 9 = 0 := by decide
  have k4 : toX 6 4 8 15 = 8 := by decide
  have k5 : doE 6 4 8 15 = 0 := by decide
  have k6 : laX 19 8 4 31 1 = 16 := by decide
  have k7 : laE 19 8 4 31 1 = 0 := by decide
  go_enter Tryd.func9, Tryd.ntmps9
  go_wp2_with fail
  go_at_call 12
  refine (pDo _ _ _ _ _ (by omega) (by omega) (by omega) (by omega)).mono ?_
  rintro e w1 ⟨rfl, hb1⟩
  rw [k1, k2, k3]
  go_wp2_with fail
  go_at_call 22
  refine (pTotal _ _ _ _ _ (by omega) (by omega) (by omega) (by omega)).mono ?_
  rintro e w2 ⟨rfl, hb2⟩
  rw [k4, k5]
  go_wp2_with fail
  go_at_call 17
  refine (pLanes _ _ _ _ _ _ (by omega) (by omega) (by omega) (by omega)).mono ?_
  rintro e w3 ⟨rfl, hb3⟩
  rw [k6, k7]
  go_wp2_with fail
  go_ret
  exact ⟨rfl, (hb1.trans (hb2.mono hb1.size)).trans (hb3.mono (Nat.le_trans hb1.size hb2.size))⟩

end Go.Proofs.YtpgbepgbgpjmcaaDoor
