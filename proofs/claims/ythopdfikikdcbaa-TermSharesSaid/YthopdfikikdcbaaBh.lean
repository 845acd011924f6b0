/- Walks of bits.Lanes and backstayref01.Lanes. -/
import Derived.Test.YthopdfikikdcbaaBd
import Derived.Test.YthopdfikikdcbaaMem
namespace Go.Proofs.Ythopdfikikdcbaa
open Go.RowKit Wd
set_option linter.unusedVariables false
set_option linter.unusedSimpArgs false

theorem fits2_no (n a c : Int) (b : Nat) (w : World) (g0 : w.cell? ⟨b, 0, none⟩ = some (.int .u32 a)) (g1 : w.cell? ⟨b, 1, none⟩ = some (.int .u32 c)) (h : (isW n && fit n a && fit n c) = false) : Calls Try.prog 104 #[.int .i64 n, .slice (some ⟨b, 0, none⟩) 2 2] w fun e w' => e = .returned (.bool false) ∧ w = w' := by rw [← h]; exact fits2 n a c b w g0 g1
theorem fits2_yes (n a c : Int) (b : Nat) (w : World) (g0 : w.cell? ⟨b, 0, none⟩ = some (.int .u32 a)) (g1 : w.cell? ⟨b, 1, none⟩ = some (.int .u32 c)) (h : (isW n && fit n a && fit n c) = true) : Calls Try.prog 104 #[.int .i64 n, .slice (some ⟨b, 0, none⟩) 2 2] w fun e w' => e = .returned (.bool true) ∧ w = w' := by rw [← h]; exact fits2 n a c b w g0 g1
end Go.Proofs.Ythopdfikikdcbaa
