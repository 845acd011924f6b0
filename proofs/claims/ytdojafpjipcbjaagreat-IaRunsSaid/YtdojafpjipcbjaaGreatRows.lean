/-
  No cell of these rows narrows 'for every input' (looked for: loops, veiled, ifaces, maps, wideKeys, modest, calm, conditions, laid).
  DERIVED. THE GIVEN ROWS OF THIS SEAT. 3 by the template 'for every input the law returns true; each argument reads behind the call as it read before'; 0 by the template 'total and deterministic' (their statements: YtdojafpjipcbjaaGreatTotals.lean).
  GIVEN WITH THE SEED: the statements are not yours to turn. If you find one false, say at which input.
  Laid BY PROGRAM, IN A SANDBOX (cutbox-rows.mjs): the forced cells as the released guide's own fill.sh prints them over the translation 39e3816db3e1a3f5… (all of the seat's roots in one cut). By AI agents, Wed Nov 11 2026. No macro, syntax, notation, axiom, sorry.
-/
import Derived.Test.YtdojafpjipcbjaaGreatChecked
import GoSem.Claim
import GoSem.ClaimJoined
import GoSem.ClaimMapViews
import Derived.JoinedTies
import Derived.KernelRfl
namespace Go.Proofs.YtdojafpjipcbjaaGreat
/- THE CELL 'sum', in the pinned program and in every row, IS THE sha256 OF THE DUMP (.gsa) THAT YtdojafpjipcbjaaGreatProg.lean LOADS. Nothing in Lean hashes anything: it is a label: what it is worth is what the hold of that sum in a sandbox is worth. -/
noncomputable def Tryz.pinned : Pinned := { name := "ytdojafpjipcbjaagreat", sum := "39e3816db3e1a3f53639d21e4f015894e442bfbfcf3401e273384fb03098abd4", checked := Tryz.checked }
namespace Rows
def none {H : Type} : Left H := { results := [], args := [] }

/-- 'backstaylaw19.IaSteps': WHATEVER THE INPUT: true; the input reads as it did. -/
def iaStepsSpec : ChangeSpec := { name := "iaSteps", fn := fun _ => fun
  | [d] => { results := [.lit (.bool true)], args := [d] }
  | _ => none }
def iaStepsRow : OpenClaim := { program := "ytdojafpjipcbjaagreat", sum := "39e3816db3e1a3f53639d21e4f015894e442bfbfcf3401e273384fb03098abd4", func := "backstay/backstaylaw19.IaSteps", spec := "iaSteps", unfollowed := true, recurses := true, plainKeys := false, apart := false }
def IaStepsSaid : Prop := iaStepsRow.holds Tryz.pinned (OpenSpec.ofChange iaStepsSpec)

/-- ITS FALSE NEIGHBOUR: 'it returns false'. Refute it at one input. -/
def iaStepsWrong : ChangeSpec := { name := "iaSteps", fn := fun _ => fun
  | [d] => { results := [.lit (.bool false)], args := [d] }
  | _ => none }
def IaStepsWrongFalsely : Prop := iaStepsRow.holds Tryz.pinned (OpenSpec.ofChange iaStepsWrong)

/-- 'backstaylaw19.IaRuns': WHATEVER THE INPUT: true; the input reads as it did. -/
def iaRunsSpec : ChangeSpec := { name := "iaRuns", fn := fun _ => fun
  | [d1, d2] => { results := [.lit (.bool true)], args := [d1, d2] }
  | _ => none }
def iaRunsRow : OpenClaim := { program := "ytdojafpjipcbjaagreat", sum := "39e3816db3e1a3f53639d21e4f015894e442bfbfcf3401e273384fb03098abd4", func := "backstay/backstaylaw19.IaRuns", spec := "iaRuns", unfollowed := true, recurses := true, plainKeys := false, apart := false }
def IaRunsSaid : Prop := iaRunsRow.holds Tryz.pinned (OpenSpec.ofChange iaRunsSpec)

/-- ITS FALSE NEIGHBOUR: 'it returns false'. Refute it at one input. -/
def iaRunsWrong : ChangeSpec := { name := "iaRuns", fn := fun _ => fun
  | [d1, d2] => { results := [.lit (.bool false)], args := [d1, d2] }
  | _ => none }
def IaRunsWrongFalsely : Prop := iaRunsRow.holds Tryz.pinned (OpenSpec.ofChange iaRunsWrong)

/-- 'backstaytop.TopCodes': WHATEVER THE INPUT: true; the input reads as it did. -/
def topCodesSpec : ChangeSpec := { name := "topCodes", fn := fun _ => fun
  | [d1, d2, d3] => { results := [.lit (.bool true)], args := [d1, d2, d3] }
  | _ => none }
def topCodesRow : OpenClaim := { program := "ytdojafpjipcbjaagreat", sum := "39e3816db3e1a3f53639d21e4f015894e442bfbfcf3401e273384fb03098abd4", func := "backstay/backstaytop.TopCodes", spec := "topCodes", unfollowed := true, recurses := true, plainKeys := false, apart := false }
def TopCodesSaid : Prop := topCodesRow.holds Tryz.pinned (OpenSpec.ofChange topCodesSpec)

/-- ITS FALSE NEIGHBOUR: 'it returns false'. Refute it at one input. -/
def topCodesWrong : ChangeSpec := { name := "topCodes", fn := fun _ => fun
  | [d1, d2, d3] => { results := [.lit (.bool false)], args := [d1, d2, d3] }
  | _ => none }
def TopCodesWrongFalsely : Prop := topCodesRow.holds Tryz.pinned (OpenSpec.ofChange topCodesWrong)

/- THE SECOND FORM. 'bulk': how many values and letters a reading holds, each counted each time it is reached (what is shared counts as often as it is met; a slice's spare places count too). A statement '..UptoSaid' is the law's where the arguments, and the package variables that the reading takes, are together of bulk at most 1048576: NARROWER than '..Said'. Prove '..Said' where nothing that the law and all that it calls make is longer than what came in: it says more and counts as full. Else prove '..UptoSaid'. A law counts once. -/
mutual
def uptoBulk {H : Type} : DataW H → Nat
  | .lit (.string bytes) => bytes.length + 1
  | .lit _ => 1
  | .nil => 1
  | .ptr d => uptoBulk d + 1
  | .slice elems spare => uptoBulkAll elems + uptoBulkAll spare + 1
  | .agg parts => uptoBulkAll parts + 1
  | .iface _ d => uptoBulk d + 1
  | .map entries => uptoBulkEntries entries + 1
  | .held _ => 1
def uptoBulkAll {H : Type} : List (DataW H) → Nat
  | [] => 0
  | d :: r => uptoBulk d + uptoBulkAll r
def uptoBulkEntries {H : Type} : List (Lit × DataW H) → Nat
  | [] => 0
  | x :: r => uptoBulkEntry x + uptoBulkEntries r
def uptoBulkEntry {H : Type} : Lit × DataW H → Nat
  | (.string bytes, d) => bytes.length + uptoBulk d + 1
  | (_, d) => uptoBulk d + 1
 end
def uptoSmall : (H : Type) → List (DataW H) → Bool := fun _ ds => decide (uptoBulkAll ds ≤ 1048576)
def OpenSpec.upto (s : _root_.Go.ChangeSpec) : _root_.Go.OpenSpec := { _root_.Go.OpenSpec.ofChange s with cond := some uptoSmall }

/-- 'backstaylaw19.IaSteps', WHERE WHAT IT READS IS OF BULK AT MOST 1048576: true; the input reads as it did. -/
def iaStepsUptoRow : OpenClaim := { program := "ytdojafpjipcbjaagreat", sum := "39e3816db3e1a3f53639d21e4f015894e442bfbfcf3401e273384fb03098abd4", func := "backstay/backstaylaw19.IaSteps", spec := "iaSteps", unfollowed := true, recurses := true, plainKeys := false, apart := false, narrowed := true }
def IaStepsUptoSaid : Prop := iaStepsUptoRow.holds Tryz.pinned (OpenSpec.upto iaStepsSpec)

/-- 'backstaylaw19.IaRuns', WHERE WHAT IT READS IS OF BULK AT MOST 1048576: true; the input reads as it did. -/
def iaRunsUptoRow : OpenClaim := { program := "ytdojafpjipcbjaagreat", sum := "39e3816db3e1a3f53639d21e4f015894e442bfbfcf3401e273384fb03098abd4", func := "backstay/backstaylaw19.IaRuns", spec := "iaRuns", unfollowed := true, recurses := true, plainKeys := false, apart := false, narrowed := true }
def IaRunsUptoSaid : Prop := iaRunsUptoRow.holds Tryz.pinned (OpenSpec.upto iaRunsSpec)

/-- 'backstaytop.TopCodes', WHERE WHAT IT READS IS OF BULK AT MOST 1048576: true; the input reads as it did. -/
def topCodesUptoRow : OpenClaim := { program := "ytdojafpjipcbjaagreat", sum := "39e3816db3e1a3f53639d21e4f015894e442bfbfcf3401e273384fb03098abd4", func := "backstay/backstaytop.TopCodes", spec := "topCodes", unfollowed := true, recurses := true, plainKeys := false, apart := false, narrowed := true }
def TopCodesUptoSaid : Prop := topCodesUptoRow.holds Tryz.pinned (OpenSpec.upto topCodesSpec)

end Rows
end Go.Proofs.YtdojafpjipcbjaaGreat
