/- Walks of backstayref01.two, do, Do, Total: what each returns, said of numbers. -/
import Derived.Test.YtpgbepgbgpjmcaaDoorBb
namespace Go.Proofs.YtpgbepgbgpjmcaaDoor
open Go.RowKit Wd
/-- What do returns of right operands. -/
def DoIs (op n a b : Int) (w : World) (e : Ending) (w' : World) : Prop := e = .returned (.tuple #[.int .u32 (if has op n a b then tot op n a b else 0), .bool (has op n a b)]) ∧ Dr w w'
theorem do_is {op n a b x : Int} {w w' : World} (h : has op n a b = true) (e : tot op n a b = x) (d : Dr w w') : DoIs op n a b w (.returned (.tuple #[.int .u32 x, .bool true])) w' := ⟨by rw [h, ← e]; rfl, d⟩
theorem do_not {op n a b : Int} {w w' : World} (h : has op n a b = false) (d : Dr w w') : DoIs op n a b w (.returned (.tuple #[.int .u32 0, .bool false])) w' := ⟨by rw [h]; rfl, d⟩

end Go.Proofs.YtpgbepgbgpjmcaaDoor
