/-
  No cell of these rows narrows 'for every input' (looked for: loops, veiled, ifaces, maps, wideKeys, modest, calm, conditions, laid).
  DERIVED. THE GIVEN ROWS OF THIS SEAT. 5 by the template 'for every input the law returns true; each argument reads behind the call as it read before'; 0 by the template 'total and deterministic' (their statements: YtdojafpjipcbjaaTotals.lean).
  GIVEN WITH THE SEED: the statements are not yours to turn. If you find one false, say at which input.
  Laid BY PROGRAM, IN A SANDBOX (cutbox-rows.mjs): the forced cells as the released guide's own fill.sh prints them over the translation 1ffef35aa2478b0b… (all of the seat's roots in one cut). By AI agents, Wed Nov 11 2026. No macro, syntax, notation, axiom, sorry.
-/
import Derived.Test.YtdojafpjipcbjaaChecked
import GoSem.Claim
import GoSem.ClaimJoined
import GoSem.ClaimMapViews
import Derived.JoinedTies
import Derived.KernelRfl
namespace Go.Proofs.Ytdojafpjipcbjaa
/- THE CELL 'sum', in the pinned program and in every row, IS THE sha256 OF THE DUMP (.gsa) THAT YtdojafpjipcbjaaProg.lean LOADS. Nothing in Lean hashes anything: it is a label: what it is worth is what the hold of that sum in a sandbox is worth. -/
noncomputable def Try.pinned : Pinned := { name := "ytdojafpjipcbjaa", sum := "1ffef35aa2478b0b662c43edf02c50e2492a14c1a4ea2e5d011793d3d9911782", checked := Try.checked }
namespace Rows
def none {H : Type} : Left H := { results := [], args := [] }

/-- 'backstaylaw19.IaReads': WHATEVER THE INPUT: true; the input reads as it did. -/
def iaReadsSpec : ChangeSpec := { name := "iaReads", fn := fun _ => fun
  | [d] => { results := [.lit (.bool true)], args := [d] }
  | _ => none }
def iaReadsRow : OpenClaim := { program := "ytdojafpjipcbjaa", sum := "1ffef35aa2478b0b662c43edf02c50e2492a14c1a4ea2e5d011793d3d9911782", func := "backstay/backstaylaw19.IaReads", spec := "iaReads", unfollowed := true, recurses := true, apart := false }
def IaReadsSaid : Prop := iaReadsRow.holds Try.pinned (OpenSpec.ofChange iaReadsSpec)

/-- ITS FALSE NEIGHBOUR: 'it returns false'. Refute it at one input. -/
def iaReadsWrong : ChangeSpec := { name := "iaReads", fn := fun _ => fun
  | [d] => { results := [.lit (.bool false)], args := [d] }
  | _ => none }
def IaReadsWrongFalsely : Prop := iaReadsRow.holds Try.pinned (OpenSpec.ofChange iaReadsWrong)

/-- 'backstaylaw19.IaCodes': WHATEVER THE INPUT: true; the input reads as it did. -/
def iaCodesSpec : ChangeSpec := { name := "iaCodes", fn := fun _ => fun
  | [d1, d2] => { results := [.lit (.bool true)], args := [d1, d2] }
  | _ => none }
def iaCodesRow : OpenClaim := { program := "ytdojafpjipcbjaa", sum := "1ffef35aa2478b0b662c43edf02c50e2492a14c1a4ea2e5d011793d3d9911782", func := "backstay/backstaylaw19.IaCodes", spec := "iaCodes", unfollowed := true, recurses := true, apart := false }
def IaCodesSaid : Prop := iaCodesRow.holds Try.pinned (OpenSpec.ofChange iaCodesSpec)

/-- ITS FALSE NEIGHBOUR: 'it returns false'. Refute it at one input. -/
def iaCodesWrong : ChangeSpec := { name := "iaCodes", fn := fun _ => fun
  | [d1, d2] => { results := [.lit (.bool false)], args := [d1, d2] }
  | _ => none }
def IaCodesWrongFalsely : Prop := iaCodesRow.holds Try.pinned (OpenSpec.ofChange iaCodesWrong)

/-- 'backstaylaw19.IaLists': WHATEVER THE INPUT: true; the input reads as it did. -/
def iaListsSpec : ChangeSpec := { name := "iaLists", fn := fun _ => fun
  | [d1, d2] => { results := [.lit (.bool true)], args := [d1, d2] }
  | _ => none }
def iaListsRow : OpenClaim := { program := "ytdojafpjipcbjaa", sum := "1ffef35aa2478b0b662c43edf02c50e2492a14c1a4ea2e5d011793d3d9911782", func := "backstay/backstaylaw19.IaLists", spec := "iaLists", unfollowed := true, recurses := true, apart := false }
def IaListsSaid : Prop := iaListsRow.holds Try.pinned (OpenSpec.ofChange iaListsSpec)

/-- ITS FALSE NEIGHBOUR: 'it returns false'. Refute it at one input. -/
def iaListsWrong : ChangeSpec := { name := "iaLists", fn := fun _ => fun
  | [d1, d2] => { results := [.lit (.bool false)], args := [d1, d2] }
  | _ => none }
def IaListsWrongFalsely : Prop := iaListsRow.holds Try.pinned (OpenSpec.ofChange iaListsWrong)

/-- 'backstaylaw19.IaHolds': WHATEVER THE INPUT: true; the input reads as it did. -/
def iaHoldsSpec : ChangeSpec := { name := "iaHolds", fn := fun _ => fun
  | [d1, d2, d3] => { results := [.lit (.bool true)], args := [d1, d2, d3] }
  | _ => none }
def iaHoldsRow : OpenClaim := { program := "ytdojafpjipcbjaa", sum := "1ffef35aa2478b0b662c43edf02c50e2492a14c1a4ea2e5d011793d3d9911782", func := "backstay/backstaylaw19.IaHolds", spec := "iaHolds", unfollowed := true, recurses := true, apart := false }
def IaHoldsSaid : Prop := iaHoldsRow.holds Try.pinned (OpenSpec.ofChange iaHoldsSpec)

/-- ITS FALSE NEIGHBOUR: 'it returns false'. Refute it at one input. -/
def iaHoldsWrong : ChangeSpec := { name := "iaHolds", fn := fun _ => fun
  | [d1, d2, d3] => { results := [.lit (.bool false)], args := [d1, d2, d3] }
  | _ => none }
def IaHoldsWrongFalsely : Prop := iaHoldsRow.holds Try.pinned (OpenSpec.ofChange iaHoldsWrong)

/-- 'backstaylaw19.IaFlags': WHATEVER THE INPUT: true; the input reads as it did. -/
def iaFlagsSpec : ChangeSpec := { name := "iaFlags", fn := fun _ => fun
  | [d1, d2] => { results := [.lit (.bool true)], args := [d1, d2] }
  | _ => none }
def iaFlagsRow : OpenClaim := { program := "ytdojafpjipcbjaa", sum := "1ffef35aa2478b0b662c43edf02c50e2492a14c1a4ea2e5d011793d3d9911782", func := "backstay/backstaylaw19.IaFlags", spec := "iaFlags", unfollowed := true, recurses := true, apart := false }
def IaFlagsSaid : Prop := iaFlagsRow.holds Try.pinned (OpenSpec.ofChange iaFlagsSpec)

/-- ITS FALSE NEIGHBOUR: 'it returns false'. Refute it at one input. -/
def iaFlagsWrong : ChangeSpec := { name := "iaFlags", fn := fun _ => fun
  | [d1, d2] => { results := [.lit (.bool false)], args := [d1, d2] }
  | _ => none }
def IaFlagsWrongFalsely : Prop := iaFlagsRow.holds Try.pinned (OpenSpec.ofChange iaFlagsWrong)

/- THE SECOND FORM. 'bulk': how many values and letters a reading holds, each counted each time it is reached (what is shared counts as often as it is met; a slice's spare places count too). A statement '..UptoSaid' is the law's where the arguments, and the package variables that the reading takes, are together of bulk at most 1048576: NARROWER than '..Said'. Prove '..Said' where nothing that the law and all that it calls make is longer than what came in: it says more and counts as full. Else prove '..UptoSaid'. A law counts once. -/
mutual
def uptoBulk {H : Type} : DataW H → Nat
  | .lit (.string bytes) => bytes.length + 1
  | .lit _ => 1
  | .nil => 1
  | .ptr d => uptoBulk d + 1
  | .slice elems spare => uptoBulkAll elems + uptoBulkAll spare + 1
  | .agg parts => uptoBulkAll parts + 1
  | .iface _ d => uptoBulk d + 1
  | .map entries => uptoBulkEntries entries + 1
  | .held _ => 1
def uptoBulkAll {H : Type} : List (DataW H) → Nat
  | [] => 0
  | d :: r => uptoBulk d + uptoBulkAll r
def uptoBulkEntries {H : Type} : List (Lit × DataW H) → Nat
  | [] => 0
  | x :: r => uptoBulkEntry x + uptoBulkEntries r
def uptoBulkEntry {H : Type} : Lit × DataW H → Nat
  | (.string bytes, d) => bytes.length + uptoBulk d + 1
  | (_, d) => uptoBulk d + 1
 end
def uptoSmall : (H : Type) → List (DataW H) → Bool := fun _ ds => decide (uptoBulkAll ds ≤ 1048576)
def OpenSpec.upto (s : _root_.Go.ChangeSpec) : _root_.Go.OpenSpec := { _root_.Go.OpenSpec.ofChange s with cond := some uptoSmall }

/-- 'backstaylaw19.IaReads', WHERE WHAT IT READS IS OF BULK AT MOST 1048576: true; the input reads as it did. -/
def iaReadsUptoRow : OpenClaim := { program := "ytdojafpjipcbjaa", sum := "1ffef35aa2478b0b662c43edf02c50e2492a14c1a4ea2e5d011793d3d9911782", func := "backstay/backstaylaw19.IaReads", spec := "iaReads", unfollowed := true, recurses := true, apart := false, narrowed := true }
def IaReadsUptoSaid : Prop := iaReadsUptoRow.holds Try.pinned (OpenSpec.upto iaReadsSpec)

/-- 'backstaylaw19.IaCodes', WHERE WHAT IT READS IS OF BULK AT MOST 1048576: true; the input reads as it did. -/
def iaCodesUptoRow : OpenClaim := { program := "ytdojafpjipcbjaa", sum := "1ffef35aa2478b0b662c43edf02c50e2492a14c1a4ea2e5d011793d3d9911782", func := "backstay/backstaylaw19.IaCodes", spec := "iaCodes", unfollowed := true, recurses := true, apart := false, narrowed := true }
def IaCodesUptoSaid : Prop := iaCodesUptoRow.holds Try.pinned (OpenSpec.upto iaCodesSpec)

/-- 'backstaylaw19.IaLists', WHERE WHAT IT READS IS OF BULK AT MOST 1048576: true; the input reads as it did. -/
def iaListsUptoRow : OpenClaim := { program := "ytdojafpjipcbjaa", sum := "1ffef35aa2478b0b662c43edf02c50e2492a14c1a4ea2e5d011793d3d9911782", func := "backstay/backstaylaw19.IaLists", spec := "iaLists", unfollowed := true, recurses := true, apart := false, narrowed := true }
def IaListsUptoSaid : Prop := iaListsUptoRow.holds Try.pinned (OpenSpec.upto iaListsSpec)

/-- 'backstaylaw19.IaHolds', WHERE WHAT IT READS IS OF BULK AT MOST 1048576: true; the input reads as it did. -/
def iaHoldsUptoRow : OpenClaim := { program := "ytdojafpjipcbjaa", sum := "1ffef35aa2478b0b662c43edf02c50e2492a14c1a4ea2e5d011793d3d9911782", func := "backstay/backstaylaw19.IaHolds", spec := "iaHolds", unfollowed := true, recurses := true, apart := false, narrowed := true }
def IaHoldsUptoSaid : Prop := iaHoldsUptoRow.holds Try.pinned (OpenSpec.upto iaHoldsSpec)

/-- 'backstaylaw19.IaFlags', WHERE WHAT IT READS IS OF BULK AT MOST 1048576: true; the input reads as it did. -/
def iaFlagsUptoRow : OpenClaim := { program := "ytdojafpjipcbjaa", sum := "1ffef35aa2478b0b662c43edf02c50e2492a14c1a4ea2e5d011793d3d9911782", func := "backstay/backstaylaw19.IaFlags", spec := "iaFlags", unfollowed := true, recurses := true, apart := false, narrowed := true }
def IaFlagsUptoSaid : Prop := iaFlagsUptoRow.holds Try.pinned (OpenSpec.upto iaFlagsSpec)

end Rows
end Go.Proofs.Ytdojafpjipcbjaa
