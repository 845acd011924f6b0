/- Breaks of the answer. -/
import Derived.Test.YtpgbepgbgpjmcaaBd
import Derived.Test.YtpgbepgbgpjmcaaBf
import Derived.Test.YtpgbepgbgpjmcaaBrk
namespace Go.Proofs.Ytpgbepgbgpjmcaa
open Go.RowKit Wd
set_option linter.unusedVariables false
set_option linter.unusedSimpArgs false
theorem beyond_any (a b l : Int) (w : World) (a1 : 0 ≤ a) (a2 : a ≤ 4294967295) (b1 : 0 ≤ b) (b2 : b ≤ 4294967296) (l1 : 0 ≤ l) (l2 : l ≤ 4294967296) : Calls Try.prog 47 #[.int .i64 a, .int .i64 b, .int .i64 l] w fun e w' => e = .returned (.bool (bey a b l)) ∧ w = w' := by
  by_cases h : a = 0
  · have e : (a != 0) = false := by simpa using h
    have hv : bey a b l = false := by rw [h]; unfold bey; simp; omega
    rw [hv]
    clear hv h
    go_enter Try.func47, Try.ntmps47
    go_wp2
    go_ret
    exact ⟨rfl, rfl⟩
  · have e : (a != 0) = true := by simpa using h
    have a3 : 1 ≤ a := by omega
    have e2 : (a == 0) = false := by simpa using h
    have d0 : 0 ≤ l / a := Int.ediv_nonneg l1 a1
    have d1 : l / a ≤ l := Int.ediv_le_self _ l1
    rw [← bey_of (b := b) (l := l) a3]
    clear h
    go_enter Try.func47, Try.ntmps47
    go_wp2
    go_ret
    exact ⟨rfl, rfl⟩

end Go.Proofs.Ytpgbepgbgpjmcaa
