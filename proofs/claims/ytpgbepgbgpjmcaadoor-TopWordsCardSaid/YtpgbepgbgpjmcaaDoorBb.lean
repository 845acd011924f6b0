/- Walks of backstayref01.down, bitwise, two, do, Do, Total: what each returns, said of numbers. -/
import Derived.Test.YtpgbepgbgpjmcaaDoorBa
namespace Go.Proofs.YtpgbepgbgpjmcaaDoor
open Go.RowKit Wd

/-- Nothing but the count of draws has moved. -/
def Dr (w w' : World) : Prop := ∃ n, w' = w.drewN n
theorem Dr.refl (w : World) : Dr w w := ⟨0, rfl⟩
theorem Dr.drew {w w' : World} (h : Dr w w') (n : Nat) : Dr w (w'.drewN n) := by
  obtain ⟨m, rfl⟩ := h
  exact ⟨m + n, World.drewN_drewN _ _ _⟩
theorem Dr.below {w w' : World} (h : Dr w w') (B : Nat) : Below B w w' := by
  obtain ⟨n, rfl⟩ := h
  exact ⟨rfl, rfl, rfl, Nat.le_refl _, fun _ _ => rfl⟩
theorem Dr.trans {w w' w'' : World} (h : Dr w w') (h' : Dr w' w'') : Dr w w'' := by
  obtain ⟨m, rfl⟩ := h'
  exact h.drew m
theorem quiet_same {P : Program} {f : FuncId} {args : Array Value} {w : World} {n : Nat} {v : Value} (h : Calls P f args (w.drewN n) fun e w' => e = .returned v ∧ w.drewN n = w') :
    Calls P f args (w.drewN n) fun e w'' => e = .returned v ∧ ∃ m, w'' = w.drewN m := h.mono fun _ _ ⟨he, hm⟩ => ⟨he, n, hm.symm⟩

end Go.Proofs.YtpgbepgbgpjmcaaDoor
