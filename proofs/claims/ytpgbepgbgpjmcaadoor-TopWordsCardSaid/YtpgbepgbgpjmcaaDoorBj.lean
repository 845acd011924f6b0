/- The walks of the statements BitsTotals and BitsLanes. -/
import Derived.Test.YtpgbepgbgpjmcaaDoorBi
namespace Go.Proofs.YtpgbepgbgpjmcaaDoor
open Go.RowKit Wd
set_option linter.unusedVariables false
set_option linter.unusedSimpArgs false
/-- What lay there in the world w0 lies there in w, as it was. -/
def Since (w0 w : World) : Prop := Below w0.heap.size w0 w
theorem Since.refl (w : World) : Since w w := Below.refl _ _
theorem Since.drewN {w0 w : World} (h : Since w0 w) (n : Nat) : Since w0 (w.drewN n) := below_drewN h n
theorem acc_p {P : Program} {f : FuncId} {args : Array Value} {w : World} {v : Value} (h : Calls P f args w fun e w' => e = .returned v ∧ Below w.heap.size w w') {w0 : World} (h0 : Since w0 w) :
    Calls P f args w fun e w' => e = .returned v ∧ Since w0 w' := h.mono fun _ _ hh => ⟨hh.1, below_hop h0 hh.2⟩
theorem acc_e {P : Program} {f : FuncId} {args : Array Value} {w : World} {v : Value} (h : Calls P f args w fun e w' => e = .returned v ∧ w = w') {w0 : World} (h0 : Since w0 w) :
    Calls P f args w fun e w' => e = .returned v ∧ Since w0 w' := h.mono fun _ _ hh => ⟨hh.1, hh.2 ▸ h0⟩
theorem acc_d {P : Program} {f : FuncId} {args : Array Value} {w : World} {v : Value} (h : Calls P f args w fun e w' => e = .returned v ∧ Dr w w') {w0 : World} (h0 : Since w0 w) :
    Calls P f args w fun e w' => e = .returned v ∧ Since w0 w' := h.mono fun _ _ hh => ⟨hh.1, below_hop h0 (hh.2.below _)⟩
theorem since_box {w wk : World} {cs : Array Value} {T : TypeId} (i : Nat) (hb : Since (w.alloc (.cells cs T)) wk) : wk.cell? ⟨w.heap.size, i, none⟩ = cs[i]? := box_kept hb i

end Go.Proofs.YtpgbepgbgpjmcaaDoor
