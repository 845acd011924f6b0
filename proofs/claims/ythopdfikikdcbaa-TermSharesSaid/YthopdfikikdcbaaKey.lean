/- The keys of the builder's map: nodes as keys. -/
import Derived.Test.YthopdfikikdcbaaMap
import Derived.Test.YthopdfikikdcbaaShp
namespace Go.Proofs.Ythopdfikikdcbaa
open Go.RowKit Go.Maps
set_option linter.unusedVariables false
set_option linter.unusedSimpArgs false
section
variable {P : Program} {t e : TypeId}
theorem kl_int {d : Nat} {q : IntKind} {n : Int} (hu : P.underlying t = some (.int q)) (hw : (Lit.int q n).wf = true) : P.keyLits (d + 1) t [.int q n] = some [.int q n] := by
  unfold Program.keyLits; rw [hu]; simp [hw]
theorem kl_arr3 {d : Nat} {x y z : Int} (hu : P.underlying t = some (.array 3 e)) (hue : P.underlying e = some (.int .i64)) (hc : P.cellsOf t = 3) (hce : P.cellsOf e = 1)
    (hx : (Lit.int .i64 x).wf = true) (hy : (Lit.int .i64 y).wf = true) (hz : (Lit.int .i64 z).wf = true) : P.keyLits (d + 2) t [.int .i64 x, .int .i64 y, .int .i64 z] = some [.int .i64 x, .int .i64 y, .int .i64 z] := by
  unfold Program.keyLits; rw [hu]
  simp [hc, hce, show List.range 3 = [0, 1, 2] from rfl, kl_int hue hx, kl_int hue hy, kl_int hue hz]
end
/-- The key of a node. -/
def keyV (x : Nd) : Value := .agg #[.int .i64 x.op, .int .i64 x.width, .int .u32 x.imm, .int .i64 (x.args.getD 0 (-1)), .int .i64 (x.args.getD 1 (-1)), .int .i64 (x.args.getD 2 (-1))]
theorem lawKey : Keyed Try.prog 131 := Keyed.of_law (deep_law_gate (by kernel_rfl) (of_decide_eq_true (by kernel_rfl)) (of_decide_eq_true (by kernel_rfl)) (by kernel_rfl) (by kernel_rfl))
theorem key6 (a b c d e f : Int) (ha : (Lit.int .i64 a).wf = true) (hb : (Lit.int .i64 b).wf = true) (hc : (Lit.int .u32 c).wf = true) (hd : (Lit.int .i64 d).wf = true) (he : (Lit.int .i64 e).wf = true) (hf : (Lit.int .i64 f).wf = true) :
    ∃ q, keyOf Try.prog 131 (.agg #[.int .i64 a, .int .i64 b, .int .u32 c, .int .i64 d, .int .i64 e, .int .i64 f]) = some q := by
  have h1 : Try.prog.keyType 131 = true := by kernel_rfl
  have h2 : Try.prog.cellsOf 131 = 6 := by kernel_rfl
  have h3 : Try.prog.cellsOf 3 = 1 := by kernel_rfl
  have h4 : Try.prog.cellsOf 34 = 1 := by kernel_rfl
  have h5 : Try.prog.cellsOf 129 = 3 := by kernel_rfl
  have h6 : Try.prog.types.size = (Try.prog.types.size - 2) + 2 := by kernel_rfl
  unfold keyOf
  rw [Try.underlying131]
  rw [h6]
  generalize Try.prog.types.size - 2 = n
  simp only [h1, Value.formed, Try.underlying131, h2]
  unfold Program.keyLits
  rw [Try.underlying131]
  simp [h2, h3, h4, h5, Value.cells, kl_int Try.underlying3, kl_int Try.underlying34, ha, hb, hc, kl_arr3 Try.underlying129 Try.underlying3 h5 h3 hd he hf]
end Go.Proofs.Ythopdfikikdcbaa
