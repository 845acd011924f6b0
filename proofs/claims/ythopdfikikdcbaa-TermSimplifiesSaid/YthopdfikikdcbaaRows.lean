/-
  No cell of these rows narrows 'for every input' (looked for: loops, veiled, ifaces, maps, wideKeys, modest, calm, conditions, laid).
  DERIVED. THE GIVEN ROWS OF THIS SEAT. 8 by the template 'for every input the law returns true; each argument reads behind the call as it read before'; 0 by the template 'total and deterministic' (their statements: YthopdfikikdcbaaTotals.lean).
  GIVEN WITH THE SEED: the statements are not yours to turn. If you find one false, say at which input.
  Laid BY PROGRAM, IN A SANDBOX (cutbox-rows.mjs): the forced cells as the released guide's own fill.sh prints them over the translation a4cb45e806e25ff6… (all of the seat's roots in one cut). By AI agents, Wed Nov 11 2026. No macro, syntax, notation, axiom, sorry.
-/
import Derived.Test.YthopdfikikdcbaaChecked
import GoSem.Claim
import GoSem.ClaimJoined
import GoSem.ClaimMapViews
import Derived.JoinedTies
import Derived.KernelRfl
namespace Go.Proofs.Ythopdfikikdcbaa
/- THE CELL 'sum', in the pinned program and in every row, IS THE sha256 OF THE DUMP (.gsa) THAT YthopdfikikdcbaaProg.lean LOADS. Nothing in Lean hashes anything: it is a label: what it is worth is what the hold of that sum in a sandbox is worth. -/
noncomputable def Try.pinned : Pinned := { name := "ythopdfikikdcbaa", sum := "a4cb45e806e25ff6d93f0d1a56fb3387eb68df0522297ebcc0c757929c964e6e", checked := Try.checked }
namespace Rows
def none {H : Type} : Left H := { results := [], args := [] }

/-- 'backstaylaw07.TermValidates': WHATEVER THE INPUT: true; the input reads as it did. -/
def termValidatesSpec : ChangeSpec := { name := "termValidates", fn := fun _ => fun
  | [d] => { results := [.lit (.bool true)], args := [d] }
  | _ => none }
def termValidatesRow : OpenClaim := { program := "ythopdfikikdcbaa", sum := "a4cb45e806e25ff6d93f0d1a56fb3387eb68df0522297ebcc0c757929c964e6e", func := "backstay/backstaylaw07.TermValidates", spec := "termValidates", unfollowed := true, recurses := true, plainKeys := false, apart := false }
def TermValidatesSaid : Prop := termValidatesRow.holds Try.pinned (OpenSpec.ofChange termValidatesSpec)

/-- ITS FALSE NEIGHBOUR: 'it returns false'. Refute it at one input. -/
def termValidatesWrong : ChangeSpec := { name := "termValidates", fn := fun _ => fun
  | [d] => { results := [.lit (.bool false)], args := [d] }
  | _ => none }
def TermValidatesWrongFalsely : Prop := termValidatesRow.holds Try.pinned (OpenSpec.ofChange termValidatesWrong)

/-- 'backstaylaw07.TermValues': WHATEVER THE INPUT: true; the input reads as it did. -/
def termValuesSpec : ChangeSpec := { name := "termValues", fn := fun _ => fun
  | [d1, d2] => { results := [.lit (.bool true)], args := [d1, d2] }
  | _ => none }
def termValuesRow : OpenClaim := { program := "ythopdfikikdcbaa", sum := "a4cb45e806e25ff6d93f0d1a56fb3387eb68df0522297ebcc0c757929c964e6e", func := "backstay/backstaylaw07.TermValues", spec := "termValues", unfollowed := true, recurses := true, plainKeys := false, apart := false }
def TermValuesSaid : Prop := termValuesRow.holds Try.pinned (OpenSpec.ofChange termValuesSpec)

/-- ITS FALSE NEIGHBOUR: 'it returns false'. Refute it at one input. -/
def termValuesWrong : ChangeSpec := { name := "termValues", fn := fun _ => fun
  | [d1, d2] => { results := [.lit (.bool false)], args := [d1, d2] }
  | _ => none }
def TermValuesWrongFalsely : Prop := termValuesRow.holds Try.pinned (OpenSpec.ofChange termValuesWrong)

/-- 'backstaylaw07.TermShares': WHATEVER THE INPUT: true; the input reads as it did. -/
def termSharesSpec : ChangeSpec := { name := "termShares", fn := fun _ => fun
  | [d1, d2] => { results := [.lit (.bool true)], args := [d1, d2] }
  | _ => none }
def termSharesRow : OpenClaim := { program := "ythopdfikikdcbaa", sum := "a4cb45e806e25ff6d93f0d1a56fb3387eb68df0522297ebcc0c757929c964e6e", func := "backstay/backstaylaw07.TermShares", spec := "termShares", unfollowed := true, recurses := true, plainKeys := false, apart := false }
def TermSharesSaid : Prop := termSharesRow.holds Try.pinned (OpenSpec.ofChange termSharesSpec)

/-- ITS FALSE NEIGHBOUR: 'it returns false'. Refute it at one input. -/
def termSharesWrong : ChangeSpec := { name := "termShares", fn := fun _ => fun
  | [d1, d2] => { results := [.lit (.bool false)], args := [d1, d2] }
  | _ => none }
def TermSharesWrongFalsely : Prop := termSharesRow.holds Try.pinned (OpenSpec.ofChange termSharesWrong)

/-- 'backstaytop.TopTraces': WHATEVER THE INPUT: true; the input reads as it did. -/
def topTracesSpec : ChangeSpec := { name := "topTraces", fn := fun _ => fun
  | [d1, d2, d3] => { results := [.lit (.bool true)], args := [d1, d2, d3] }
  | _ => none }
def topTracesRow : OpenClaim := { program := "ythopdfikikdcbaa", sum := "a4cb45e806e25ff6d93f0d1a56fb3387eb68df0522297ebcc0c757929c964e6e", func := "backstay/backstaytop.TopTraces", spec := "topTraces", unfollowed := true, recurses := true, plainKeys := false, apart := false }
def TopTracesSaid : Prop := topTracesRow.holds Try.pinned (OpenSpec.ofChange topTracesSpec)

/-- ITS FALSE NEIGHBOUR: 'it returns false'. Refute it at one input. -/
def topTracesWrong : ChangeSpec := { name := "topTraces", fn := fun _ => fun
  | [d1, d2, d3] => { results := [.lit (.bool false)], args := [d1, d2, d3] }
  | _ => none }
def TopTracesWrongFalsely : Prop := topTracesRow.holds Try.pinned (OpenSpec.ofChange topTracesWrong)

/-- 'backstaylaw07.TermJoins': WHATEVER THE INPUT: true; the input reads as it did. -/
def termJoinsSpec : ChangeSpec := { name := "termJoins", fn := fun _ => fun
  | [d1, d2] => { results := [.lit (.bool true)], args := [d1, d2] }
  | _ => none }
def termJoinsRow : OpenClaim := { program := "ythopdfikikdcbaa", sum := "a4cb45e806e25ff6d93f0d1a56fb3387eb68df0522297ebcc0c757929c964e6e", func := "backstay/backstaylaw07.TermJoins", spec := "termJoins", unfollowed := true, recurses := true, plainKeys := false, apart := false }
def TermJoinsSaid : Prop := termJoinsRow.holds Try.pinned (OpenSpec.ofChange termJoinsSpec)

/-- ITS FALSE NEIGHBOUR: 'it returns false'. Refute it at one input. -/
def termJoinsWrong : ChangeSpec := { name := "termJoins", fn := fun _ => fun
  | [d1, d2] => { results := [.lit (.bool false)], args := [d1, d2] }
  | _ => none }
def TermJoinsWrongFalsely : Prop := termJoinsRow.holds Try.pinned (OpenSpec.ofChange termJoinsWrong)

/-- 'backstaylaw07.TermPuts': WHATEVER THE INPUT: true; the input reads as it did. -/
def termPutsSpec : ChangeSpec := { name := "termPuts", fn := fun _ => fun
  | [d1, d2] => { results := [.lit (.bool true)], args := [d1, d2] }
  | _ => none }
def termPutsRow : OpenClaim := { program := "ythopdfikikdcbaa", sum := "a4cb45e806e25ff6d93f0d1a56fb3387eb68df0522297ebcc0c757929c964e6e", func := "backstay/backstaylaw07.TermPuts", spec := "termPuts", unfollowed := true, recurses := true, plainKeys := false, apart := false }
def TermPutsSaid : Prop := termPutsRow.holds Try.pinned (OpenSpec.ofChange termPutsSpec)

/-- ITS FALSE NEIGHBOUR: 'it returns false'. Refute it at one input. -/
def termPutsWrong : ChangeSpec := { name := "termPuts", fn := fun _ => fun
  | [d1, d2] => { results := [.lit (.bool false)], args := [d1, d2] }
  | _ => none }
def TermPutsWrongFalsely : Prop := termPutsRow.holds Try.pinned (OpenSpec.ofChange termPutsWrong)

/-- 'backstaylaw07.TermMeans': WHATEVER THE INPUT: true; the input reads as it did. -/
def termMeansSpec : ChangeSpec := { name := "termMeans", fn := fun _ => fun
  | [d1, d2, d3] => { results := [.lit (.bool true)], args := [d1, d2, d3] }
  | _ => none }
def termMeansRow : OpenClaim := { program := "ythopdfikikdcbaa", sum := "a4cb45e806e25ff6d93f0d1a56fb3387eb68df0522297ebcc0c757929c964e6e", func := "backstay/backstaylaw07.TermMeans", spec := "termMeans", unfollowed := true, recurses := true, plainKeys := false, apart := false }
def TermMeansSaid : Prop := termMeansRow.holds Try.pinned (OpenSpec.ofChange termMeansSpec)

/-- ITS FALSE NEIGHBOUR: 'it returns false'. Refute it at one input. -/
def termMeansWrong : ChangeSpec := { name := "termMeans", fn := fun _ => fun
  | [d1, d2, d3] => { results := [.lit (.bool false)], args := [d1, d2, d3] }
  | _ => none }
def TermMeansWrongFalsely : Prop := termMeansRow.holds Try.pinned (OpenSpec.ofChange termMeansWrong)

/-- 'backstaylaw07.TermSimplifies': WHATEVER THE INPUT: true; the input reads as it did. -/
def termSimplifiesSpec : ChangeSpec := { name := "termSimplifies", fn := fun _ => fun
  | [d1, d2] => { results := [.lit (.bool true)], args := [d1, d2] }
  | _ => none }
def termSimplifiesRow : OpenClaim := { program := "ythopdfikikdcbaa", sum := "a4cb45e806e25ff6d93f0d1a56fb3387eb68df0522297ebcc0c757929c964e6e", func := "backstay/backstaylaw07.TermSimplifies", spec := "termSimplifies", unfollowed := true, recurses := true, plainKeys := false, apart := false }
def TermSimplifiesSaid : Prop := termSimplifiesRow.holds Try.pinned (OpenSpec.ofChange termSimplifiesSpec)

/-- ITS FALSE NEIGHBOUR: 'it returns false'. Refute it at one input. -/
def termSimplifiesWrong : ChangeSpec := { name := "termSimplifies", fn := fun _ => fun
  | [d1, d2] => { results := [.lit (.bool false)], args := [d1, d2] }
  | _ => none }
def TermSimplifiesWrongFalsely : Prop := termSimplifiesRow.holds Try.pinned (OpenSpec.ofChange termSimplifiesWrong)

/- THE SECOND FORM. 'bulk': how many values and letters a reading holds, each counted each time it is reached (what is shared counts as often as it is met; a slice's spare places count too). A statement '..UptoSaid' is the law's where the arguments, and the package variables that the reading takes, are together of bulk at most 1048576: NARROWER than '..Said'. Prove '..Said' where nothing that the law and all that it calls make is longer than what came in: it says more and counts as full. Else prove '..UptoSaid'. A law counts once. -/
mutual
def uptoBulk {H : Type} : DataW H → Nat
  | .lit (.string bytes) => bytes.length + 1
  | .lit _ => 1
  | .nil => 1
  | .ptr d => uptoBulk d + 1
  | .slice elems spare => uptoBulkAll elems + uptoBulkAll spare + 1
  | .agg parts => uptoBulkAll parts + 1
  | .iface _ d => uptoBulk d + 1
  | .map entries => uptoBulkEntries entries + 1
  | .held _ => 1
def uptoBulkAll {H : Type} : List (DataW H) → Nat
  | [] => 0
  | d :: r => uptoBulk d + uptoBulkAll r
def uptoBulkEntries {H : Type} : List (Lit × DataW H) → Nat
  | [] => 0
  | x :: r => uptoBulkEntry x + uptoBulkEntries r
def uptoBulkEntry {H : Type} : Lit × DataW H → Nat
  | (.string bytes, d) => bytes.length + uptoBulk d + 1
  | (_, d) => uptoBulk d + 1
 end
def uptoSmall : (H : Type) → List (DataW H) → Bool := fun _ ds => decide (uptoBulkAll ds ≤ 1048576)
def OpenSpec.upto (s : _root_.Go.ChangeSpec) : _root_.Go.OpenSpec := { _root_.Go.OpenSpec.ofChange s with cond := some uptoSmall }

/-- 'backstaylaw07.TermValidates', WHERE WHAT IT READS IS OF BULK AT MOST 1048576: true; the input reads as it did. -/
def termValidatesUptoRow : OpenClaim := { program := "ythopdfikikdcbaa", sum := "a4cb45e806e25ff6d93f0d1a56fb3387eb68df0522297ebcc0c757929c964e6e", func := "backstay/backstaylaw07.TermValidates", spec := "termValidates", unfollowed := true, recurses := true, plainKeys := false, apart := false, narrowed := true }
def TermValidatesUptoSaid : Prop := termValidatesUptoRow.holds Try.pinned (OpenSpec.upto termValidatesSpec)

/-- 'backstaylaw07.TermValues', WHERE WHAT IT READS IS OF BULK AT MOST 1048576: true; the input reads as it did. -/
def termValuesUptoRow : OpenClaim := { program := "ythopdfikikdcbaa", sum := "a4cb45e806e25ff6d93f0d1a56fb3387eb68df0522297ebcc0c757929c964e6e", func := "backstay/backstaylaw07.TermValues", spec := "termValues", unfollowed := true, recurses := true, plainKeys := false, apart := false, narrowed := true }
def TermValuesUptoSaid : Prop := termValuesUptoRow.holds Try.pinned (OpenSpec.upto termValuesSpec)

/-- 'backstaylaw07.TermShares', WHERE WHAT IT READS IS OF BULK AT MOST 1048576: true; the input reads as it did. -/
def termSharesUptoRow : OpenClaim := { program := "ythopdfikikdcbaa", sum := "a4cb45e806e25ff6d93f0d1a56fb3387eb68df0522297ebcc0c757929c964e6e", func := "backstay/backstaylaw07.TermShares", spec := "termShares", unfollowed := true, recurses := true, plainKeys := false, apart := false, narrowed := true }
def TermSharesUptoSaid : Prop := termSharesUptoRow.holds Try.pinned (OpenSpec.upto termSharesSpec)

/-- 'backstaytop.TopTraces', WHERE WHAT IT READS IS OF BULK AT MOST 1048576: true; the input reads as it did. -/
def topTracesUptoRow : OpenClaim := { program := "ythopdfikikdcbaa", sum := "a4cb45e806e25ff6d93f0d1a56fb3387eb68df0522297ebcc0c757929c964e6e", func := "backstay/backstaytop.TopTraces", spec := "topTraces", unfollowed := true, recurses := true, plainKeys := false, apart := false, narrowed := true }
def TopTracesUptoSaid : Prop := topTracesUptoRow.holds Try.pinned (OpenSpec.upto topTracesSpec)

/-- 'backstaylaw07.TermJoins', WHERE WHAT IT READS IS OF BULK AT MOST 1048576: true; the input reads as it did. -/
def termJoinsUptoRow : OpenClaim := { program := "ythopdfikikdcbaa", sum := "a4cb45e806e25ff6d93f0d1a56fb3387eb68df0522297ebcc0c757929c964e6e", func := "backstay/backstaylaw07.TermJoins", spec := "termJoins", unfollowed := true, recurses := true, plainKeys := false, apart := false, narrowed := true }
def TermJoinsUptoSaid : Prop := termJoinsUptoRow.holds Try.pinned (OpenSpec.upto termJoinsSpec)

/-- 'backstaylaw07.TermPuts', WHERE WHAT IT READS IS OF BULK AT MOST 1048576: true; the input reads as it did. -/
def termPutsUptoRow : OpenClaim := { program := "ythopdfikikdcbaa", sum := "a4cb45e806e25ff6d93f0d1a56fb3387eb68df0522297ebcc0c757929c964e6e", func := "backstay/backstaylaw07.TermPuts", spec := "termPuts", unfollowed := true, recurses := true, plainKeys := false, apart := false, narrowed := true }
def TermPutsUptoSaid : Prop := termPutsUptoRow.holds Try.pinned (OpenSpec.upto termPutsSpec)

/-- 'backstaylaw07.TermMeans', WHERE WHAT IT READS IS OF BULK AT MOST 1048576: true; the input reads as it did. -/
def termMeansUptoRow : OpenClaim := { program := "ythopdfikikdcbaa", sum := "a4cb45e806e25ff6d93f0d1a56fb3387eb68df0522297ebcc0c757929c964e6e", func := "backstay/backstaylaw07.TermMeans", spec := "termMeans", unfollowed := true, recurses := true, plainKeys := false, apart := false, narrowed := true }
def TermMeansUptoSaid : Prop := termMeansUptoRow.holds Try.pinned (OpenSpec.upto termMeansSpec)

/-- 'backstaylaw07.TermSimplifies', WHERE WHAT IT READS IS OF BULK AT MOST 1048576: true; the input reads as it did. -/
def termSimplifiesUptoRow : OpenClaim := { program := "ythopdfikikdcbaa", sum := "a4cb45e806e25ff6d93f0d1a56fb3387eb68df0522297ebcc0c757929c964e6e", func := "backstay/backstaylaw07.TermSimplifies", spec := "termSimplifies", unfollowed := true, recurses := true, plainKeys := false, apart := false, narrowed := true }
def TermSimplifiesUptoSaid : Prop := termSimplifiesUptoRow.holds Try.pinned (OpenSpec.upto termSimplifiesSpec)

end Rows
end Go.Proofs.Ythopdfikikdcbaa
