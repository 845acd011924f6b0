/- Do, Total and Lanes of both sides in one form; known; the walks of the statements BitsDoes, BitsTotals, BitsLanes. -/
import Derived.Test.YthopdfikikdcbaaBg
import Derived.Test.YthopdfikikdcbaaBh
namespace Go.Proofs.Ythopdfikikdcbaa
open Go.RowKit Wd
set_option linter.unusedVariables false
set_option linter.unusedSimpArgs false
def doX (op n a b : Int) : Int := if good op n a b = true then (if has op n a b = true then tot op n a b else 0) else 0
def doY (op n a b : Int) : Bool := good op n a b && has op n a b
def doE (op n a b : Int) : Int := if good op n a b = true then 0 else 1
def toX (op n a b : Int) : Int := if good op n a b = true then tot op n a b else 0
def laX (op n l a b : Int) : Int := if goodL op n l a b = true then lanes op n l a b else 0
def laE (op n l a b : Int) : Int := if goodL op n l a b = true then 0 else 1
theorem doV_eq (op n a b : Int) : doV op n a b = .tuple #[.int .u32 (doX op n a b), .bool (doY op n a b), .int .i64 (doE op n a b)] := by
  unfold doV doX doY doE
  cases good op n a b <;> cases has op n a b <;> rfl
theorem totV_eq (op n a b : Int) : totV op n a b = .tuple #[.int .u32 (toX op n a b), .int .i64 (doE op n a b)] := by
  unfold totV toX doE
  cases good op n a b <;> rfl

theorem pTotal (op n a b : Int) (w : World) (h3 : 0 ≤ a) (h4 : a ≤ 4294967295) (h5 : 0 ≤ b) (h6 : b ≤ 4294967295) : Calls Try.prog 84 #[.int .i64 op, .int .i64 n, .int .u32 a, .int .u32 b] w fun e w' => e = .returned (.tuple #[.int .u32 (toX op n a b), .int .i64 (doE op n a b)]) ∧ Below w.heap.size w w' := by rw [← totV_eq]; exact pTotal_any op n a b w h3 h5
theorem rTotal (op n a b : Int) (w : World) (h3 : 0 ≤ a) (h4 : a ≤ 4294967295) (h5 : 0 ≤ b) (h6 : b ≤ 4294967295) : Calls Try.prog 88 #[.int .i64 op, .int .i64 n, .int .u32 a, .int .u32 b] w fun e w' => e = .returned (.tuple #[.int .u32 (toX op n a b), .int .i64 (doE op n a b)]) ∧ Dr w w' := by rw [← totV_eq]; exact rTotal_any op n a b w h3 h4 h5 h6
end Go.Proofs.Ythopdfikikdcbaa
