/- Walks of backstayref01.two, do, Do, Total: what each returns, said of numbers. -/
import Derived.Test.YtpgbepgbgpjmcaaDoorBc
namespace Go.Proofs.YtpgbepgbgpjmcaaDoor
open Go.RowKit Wd

/-- What Do returns. -/
def doV (op n a b : Int) : Value := if good op n a b = true then (if has op n a b = true then .tuple #[.int .u32 (tot op n a b), .bool true, .int .i64 0] else .tuple #[.int .u32 0, .bool false, .int .i64 0]) else .tuple #[.int .u32 0, .bool false, .int .i64 1]
/-- What Total returns. -/
def totV (op n a b : Int) : Value := if good op n a b = true then .tuple #[.int .u32 (tot op n a b), .int .i64 0] else .tuple #[.int .u32 0, .int .i64 1]

theorem ret_t {x y : Int} {v : Value} (h : y = x) : Ending.returned (.tuple #[.int .u32 x, v]) = .returned (.tuple #[.int .u32 y, v]) := by rw [h]
end Go.Proofs.YtpgbepgbgpjmcaaDoor
