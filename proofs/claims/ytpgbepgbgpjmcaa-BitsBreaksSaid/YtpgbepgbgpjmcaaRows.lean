/-
  No cell of these rows narrows 'for every input' (looked for: loops, veiled, ifaces, maps, wideKeys, modest, calm, conditions, laid).
  DERIVED. THE GIVEN ROWS OF THIS SEAT. 8 by the template 'for every input the law returns true; each argument reads behind the call as it read before'; 0 by the template 'total and deterministic' (their statements: YtpgbepgbgpjmcaaTotals.lean).
  GIVEN WITH THE SEED: the statements are not yours to turn. If you find one false, say at which input.
  Laid BY PROGRAM, IN A SANDBOX (cutbox-rows.mjs): the forced cells as the released guide's own fill.sh prints them over the translation 5a103f8ac4a63dd8… (all of the seat's roots in one cut). By AI agents, Wed Nov 11 2026. No macro, syntax, notation, axiom, sorry.
-/
import Derived.Test.YtpgbepgbgpjmcaaChecked
import GoSem.Claim
import GoSem.ClaimJoined
import GoSem.ClaimMapViews
import Derived.JoinedTies
import Derived.KernelRfl
namespace Go.Proofs.Ytpgbepgbgpjmcaa
/- THE CELL 'sum', in the pinned program and in every row, IS THE sha256 OF THE DUMP (.gsa) THAT YtpgbepgbgpjmcaaProg.lean LOADS. Nothing in Lean hashes anything: it is a label: what it is worth is what the hold of that sum in a sandbox is worth. -/
noncomputable def Try.pinned : Pinned := { name := "ytpgbepgbgpjmcaa", sum := "5a103f8ac4a63dd822ad1c7ab3d54c5cf01bdd7b1f06506bd88021f7baea6336", checked := Try.checked }
namespace Rows
def none {H : Type} : Left H := { results := [], args := [] }

/-- 'backstaylaw01.BitsDoes': WHATEVER THE INPUT: true; the input reads as it did. -/
def bitsDoesSpec : ChangeSpec := { name := "bitsDoes", fn := fun _ => fun
  | [d1, d2, d3] => { results := [.lit (.bool true)], args := [d1, d2, d3] }
  | _ => none }
def bitsDoesRow : OpenClaim := { program := "ytpgbepgbgpjmcaa", sum := "5a103f8ac4a63dd822ad1c7ab3d54c5cf01bdd7b1f06506bd88021f7baea6336", func := "backstay/backstaylaw01.BitsDoes", spec := "bitsDoes", unfollowed := true, recurses := true, apart := false }
def BitsDoesSaid : Prop := bitsDoesRow.holds Try.pinned (OpenSpec.ofChange bitsDoesSpec)

/-- ITS FALSE NEIGHBOUR: 'it returns false'. Refute it at one input. -/
def bitsDoesWrong : ChangeSpec := { name := "bitsDoes", fn := fun _ => fun
  | [d1, d2, d3] => { results := [.lit (.bool false)], args := [d1, d2, d3] }
  | _ => none }
def BitsDoesWrongFalsely : Prop := bitsDoesRow.holds Try.pinned (OpenSpec.ofChange bitsDoesWrong)

/-- 'backstaylaw01.BitsTotals': WHATEVER THE INPUT: true; the input reads as it did. -/
def bitsTotalsSpec : ChangeSpec := { name := "bitsTotals", fn := fun _ => fun
  | [d1, d2, d3] => { results := [.lit (.bool true)], args := [d1, d2, d3] }
  | _ => none }
def bitsTotalsRow : OpenClaim := { program := "ytpgbepgbgpjmcaa", sum := "5a103f8ac4a63dd822ad1c7ab3d54c5cf01bdd7b1f06506bd88021f7baea6336", func := "backstay/backstaylaw01.BitsTotals", spec := "bitsTotals", unfollowed := true, recurses := true, apart := false }
def BitsTotalsSaid : Prop := bitsTotalsRow.holds Try.pinned (OpenSpec.ofChange bitsTotalsSpec)

/-- ITS FALSE NEIGHBOUR: 'it returns false'. Refute it at one input. -/
def bitsTotalsWrong : ChangeSpec := { name := "bitsTotals", fn := fun _ => fun
  | [d1, d2, d3] => { results := [.lit (.bool false)], args := [d1, d2, d3] }
  | _ => none }
def BitsTotalsWrongFalsely : Prop := bitsTotalsRow.holds Try.pinned (OpenSpec.ofChange bitsTotalsWrong)

/-- 'backstaylaw01.BitsLanes': WHATEVER THE INPUT: true; the input reads as it did. -/
def bitsLanesSpec : ChangeSpec := { name := "bitsLanes", fn := fun _ => fun
  | [d1, d2, d3] => { results := [.lit (.bool true)], args := [d1, d2, d3] }
  | _ => none }
def bitsLanesRow : OpenClaim := { program := "ytpgbepgbgpjmcaa", sum := "5a103f8ac4a63dd822ad1c7ab3d54c5cf01bdd7b1f06506bd88021f7baea6336", func := "backstay/backstaylaw01.BitsLanes", spec := "bitsLanes", unfollowed := true, recurses := true, apart := false }
def BitsLanesSaid : Prop := bitsLanesRow.holds Try.pinned (OpenSpec.ofChange bitsLanesSpec)

/-- ITS FALSE NEIGHBOUR: 'it returns false'. Refute it at one input. -/
def bitsLanesWrong : ChangeSpec := { name := "bitsLanes", fn := fun _ => fun
  | [d1, d2, d3] => { results := [.lit (.bool false)], args := [d1, d2, d3] }
  | _ => none }
def BitsLanesWrongFalsely : Prop := bitsLanesRow.holds Try.pinned (OpenSpec.ofChange bitsLanesWrong)

/-- 'backstaylaw01.BitsRing': WHATEVER THE INPUT: true; the input reads as it did. -/
def bitsRingSpec : ChangeSpec := { name := "bitsRing", fn := fun _ => fun
  | [d1, d2, d3] => { results := [.lit (.bool true)], args := [d1, d2, d3] }
  | _ => none }
def bitsRingRow : OpenClaim := { program := "ytpgbepgbgpjmcaa", sum := "5a103f8ac4a63dd822ad1c7ab3d54c5cf01bdd7b1f06506bd88021f7baea6336", func := "backstay/backstaylaw01.BitsRing", spec := "bitsRing", unfollowed := true, recurses := true, apart := false }
def BitsRingSaid : Prop := bitsRingRow.holds Try.pinned (OpenSpec.ofChange bitsRingSpec)

/-- ITS FALSE NEIGHBOUR: 'it returns false'. Refute it at one input. -/
def bitsRingWrong : ChangeSpec := { name := "bitsRing", fn := fun _ => fun
  | [d1, d2, d3] => { results := [.lit (.bool false)], args := [d1, d2, d3] }
  | _ => none }
def BitsRingWrongFalsely : Prop := bitsRingRow.holds Try.pinned (OpenSpec.ofChange bitsRingWrong)

/-- 'backstaylaw01.BitsExtends': WHATEVER THE INPUT: true; the input reads as it did. -/
def bitsExtendsSpec : ChangeSpec := { name := "bitsExtends", fn := fun _ => fun
  | [d1, d2, d3] => { results := [.lit (.bool true)], args := [d1, d2, d3] }
  | _ => none }
def bitsExtendsRow : OpenClaim := { program := "ytpgbepgbgpjmcaa", sum := "5a103f8ac4a63dd822ad1c7ab3d54c5cf01bdd7b1f06506bd88021f7baea6336", func := "backstay/backstaylaw01.BitsExtends", spec := "bitsExtends", unfollowed := true, recurses := true, apart := false }
def BitsExtendsSaid : Prop := bitsExtendsRow.holds Try.pinned (OpenSpec.ofChange bitsExtendsSpec)

/-- ITS FALSE NEIGHBOUR: 'it returns false'. Refute it at one input. -/
def bitsExtendsWrong : ChangeSpec := { name := "bitsExtends", fn := fun _ => fun
  | [d1, d2, d3] => { results := [.lit (.bool false)], args := [d1, d2, d3] }
  | _ => none }
def BitsExtendsWrongFalsely : Prop := bitsExtendsRow.holds Try.pinned (OpenSpec.ofChange bitsExtendsWrong)

/-- 'backstaylaw01.BitsWords': WHATEVER THE INPUT: true; the input reads as it did. -/
def bitsWordsSpec : ChangeSpec := { name := "bitsWords", fn := fun _ => fun
  | [d1, d2, d3] => { results := [.lit (.bool true)], args := [d1, d2, d3] }
  | _ => none }
def bitsWordsRow : OpenClaim := { program := "ytpgbepgbgpjmcaa", sum := "5a103f8ac4a63dd822ad1c7ab3d54c5cf01bdd7b1f06506bd88021f7baea6336", func := "backstay/backstaylaw01.BitsWords", spec := "bitsWords", unfollowed := true, recurses := true, apart := false }
def BitsWordsSaid : Prop := bitsWordsRow.holds Try.pinned (OpenSpec.ofChange bitsWordsSpec)

/-- ITS FALSE NEIGHBOUR: 'it returns false'. Refute it at one input. -/
def bitsWordsWrong : ChangeSpec := { name := "bitsWords", fn := fun _ => fun
  | [d1, d2, d3] => { results := [.lit (.bool false)], args := [d1, d2, d3] }
  | _ => none }
def BitsWordsWrongFalsely : Prop := bitsWordsRow.holds Try.pinned (OpenSpec.ofChange bitsWordsWrong)

/-- 'backstaylaw01.BitsBreaks': WHATEVER THE INPUT: true; the input reads as it did. -/
def bitsBreaksSpec : ChangeSpec := { name := "bitsBreaks", fn := fun _ => fun
  | [d1, d2, d3] => { results := [.lit (.bool true)], args := [d1, d2, d3] }
  | _ => none }
def bitsBreaksRow : OpenClaim := { program := "ytpgbepgbgpjmcaa", sum := "5a103f8ac4a63dd822ad1c7ab3d54c5cf01bdd7b1f06506bd88021f7baea6336", func := "backstay/backstaylaw01.BitsBreaks", spec := "bitsBreaks", unfollowed := true, recurses := true, apart := false }
def BitsBreaksSaid : Prop := bitsBreaksRow.holds Try.pinned (OpenSpec.ofChange bitsBreaksSpec)

/-- ITS FALSE NEIGHBOUR: 'it returns false'. Refute it at one input. -/
def bitsBreaksWrong : ChangeSpec := { name := "bitsBreaks", fn := fun _ => fun
  | [d1, d2, d3] => { results := [.lit (.bool false)], args := [d1, d2, d3] }
  | _ => none }
def BitsBreaksWrongFalsely : Prop := bitsBreaksRow.holds Try.pinned (OpenSpec.ofChange bitsBreaksWrong)

/-- 'backstaylaw01.BitsCompares': WHATEVER THE INPUT: true; the input reads as it did. -/
def bitsComparesSpec : ChangeSpec := { name := "bitsCompares", fn := fun _ => fun
  | [d1, d2, d3] => { results := [.lit (.bool true)], args := [d1, d2, d3] }
  | _ => none }
def bitsComparesRow : OpenClaim := { program := "ytpgbepgbgpjmcaa", sum := "5a103f8ac4a63dd822ad1c7ab3d54c5cf01bdd7b1f06506bd88021f7baea6336", func := "backstay/backstaylaw01.BitsCompares", spec := "bitsCompares", unfollowed := true, recurses := true, apart := false }
def BitsComparesSaid : Prop := bitsComparesRow.holds Try.pinned (OpenSpec.ofChange bitsComparesSpec)

/-- ITS FALSE NEIGHBOUR: 'it returns false'. Refute it at one input. -/
def bitsComparesWrong : ChangeSpec := { name := "bitsCompares", fn := fun _ => fun
  | [d1, d2, d3] => { results := [.lit (.bool false)], args := [d1, d2, d3] }
  | _ => none }
def BitsComparesWrongFalsely : Prop := bitsComparesRow.holds Try.pinned (OpenSpec.ofChange bitsComparesWrong)

/- THE SECOND FORM. 'bulk': how many values and letters a reading holds, each counted each time it is reached (what is shared counts as often as it is met; a slice's spare places count too). A statement '..UptoSaid' is the law's where the arguments, and the package variables that the reading takes, are together of bulk at most 1048576: NARROWER than '..Said'. Prove '..Said' where nothing that the law and all that it calls make is longer than what came in: it says more and counts as full. Else prove '..UptoSaid'. A law counts once. -/
mutual
def uptoBulk {H : Type} : DataW H → Nat
  | .lit (.string bytes) => bytes.length + 1
  | .lit _ => 1
  | .nil => 1
  | .ptr d => uptoBulk d + 1
  | .slice elems spare => uptoBulkAll elems + uptoBulkAll spare + 1
  | .agg parts => uptoBulkAll parts + 1
  | .iface _ d => uptoBulk d + 1
  | .map entries => uptoBulkEntries entries + 1
  | .held _ => 1
def uptoBulkAll {H : Type} : List (DataW H) → Nat
  | [] => 0
  | d :: r => uptoBulk d + uptoBulkAll r
def uptoBulkEntries {H : Type} : List (Lit × DataW H) → Nat
  | [] => 0
  | x :: r => uptoBulkEntry x + uptoBulkEntries r
def uptoBulkEntry {H : Type} : Lit × DataW H → Nat
  | (.string bytes, d) => bytes.length + uptoBulk d + 1
  | (_, d) => uptoBulk d + 1
 end
def uptoSmall : (H : Type) → List (DataW H) → Bool := fun _ ds => decide (uptoBulkAll ds ≤ 1048576)
def OpenSpec.upto (s : _root_.Go.ChangeSpec) : _root_.Go.OpenSpec := { _root_.Go.OpenSpec.ofChange s with cond := some uptoSmall }

/-- 'backstaylaw01.BitsDoes', WHERE WHAT IT READS IS OF BULK AT MOST 1048576: true; the input reads as it did. -/
def bitsDoesUptoRow : OpenClaim := { program := "ytpgbepgbgpjmcaa", sum := "5a103f8ac4a63dd822ad1c7ab3d54c5cf01bdd7b1f06506bd88021f7baea6336", func := "backstay/backstaylaw01.BitsDoes", spec := "bitsDoes", unfollowed := true, recurses := true, apart := false, narrowed := true }
def BitsDoesUptoSaid : Prop := bitsDoesUptoRow.holds Try.pinned (OpenSpec.upto bitsDoesSpec)

/-- 'backstaylaw01.BitsTotals', WHERE WHAT IT READS IS OF BULK AT MOST 1048576: true; the input reads as it did. -/
def bitsTotalsUptoRow : OpenClaim := { program := "ytpgbepgbgpjmcaa", sum := "5a103f8ac4a63dd822ad1c7ab3d54c5cf01bdd7b1f06506bd88021f7baea6336", func := "backstay/backstaylaw01.BitsTotals", spec := "bitsTotals", unfollowed := true, recurses := true, apart := false, narrowed := true }
def BitsTotalsUptoSaid : Prop := bitsTotalsUptoRow.holds Try.pinned (OpenSpec.upto bitsTotalsSpec)

/-- 'backstaylaw01.BitsLanes', WHERE WHAT IT READS IS OF BULK AT MOST 1048576: true; the input reads as it did. -/
def bitsLanesUptoRow : OpenClaim := { program := "ytpgbepgbgpjmcaa", sum := "5a103f8ac4a63dd822ad1c7ab3d54c5cf01bdd7b1f06506bd88021f7baea6336", func := "backstay/backstaylaw01.BitsLanes", spec := "bitsLanes", unfollowed := true, recurses := true, apart := false, narrowed := true }
def BitsLanesUptoSaid : Prop := bitsLanesUptoRow.holds Try.pinned (OpenSpec.upto bitsLanesSpec)

/-- 'backstaylaw01.BitsRing', WHERE WHAT IT READS IS OF BULK AT MOST 1048576: true; the input reads as it did. -/
def bitsRingUptoRow : OpenClaim := { program := "ytpgbepgbgpjmcaa", sum := "5a103f8ac4a63dd822ad1c7ab3d54c5cf01bdd7b1f06506bd88021f7baea6336", func := "backstay/backstaylaw01.BitsRing", spec := "bitsRing", unfollowed := true, recurses := true, apart := false, narrowed := true }
def BitsRingUptoSaid : Prop := bitsRingUptoRow.holds Try.pinned (OpenSpec.upto bitsRingSpec)

/-- 'backstaylaw01.BitsExtends', WHERE WHAT IT READS IS OF BULK AT MOST 1048576: true; the input reads as it did. -/
def bitsExtendsUptoRow : OpenClaim := { program := "ytpgbepgbgpjmcaa", sum := "5a103f8ac4a63dd822ad1c7ab3d54c5cf01bdd7b1f06506bd88021f7baea6336", func := "backstay/backstaylaw01.BitsExtends", spec := "bitsExtends", unfollowed := true, recurses := true, apart := false, narrowed := true }
def BitsExtendsUptoSaid : Prop := bitsExtendsUptoRow.holds Try.pinned (OpenSpec.upto bitsExtendsSpec)

/-- 'backstaylaw01.BitsWords', WHERE WHAT IT READS IS OF BULK AT MOST 1048576: true; the input reads as it did. -/
def bitsWordsUptoRow : OpenClaim := { program := "ytpgbepgbgpjmcaa", sum := "5a103f8ac4a63dd822ad1c7ab3d54c5cf01bdd7b1f06506bd88021f7baea6336", func := "backstay/backstaylaw01.BitsWords", spec := "bitsWords", unfollowed := true, recurses := true, apart := false, narrowed := true }
def BitsWordsUptoSaid : Prop := bitsWordsUptoRow.holds Try.pinned (OpenSpec.upto bitsWordsSpec)

/-- 'backstaylaw01.BitsBreaks', WHERE WHAT IT READS IS OF BULK AT MOST 1048576: true; the input reads as it did. -/
def bitsBreaksUptoRow : OpenClaim := { program := "ytpgbepgbgpjmcaa", sum := "5a103f8ac4a63dd822ad1c7ab3d54c5cf01bdd7b1f06506bd88021f7baea6336", func := "backstay/backstaylaw01.BitsBreaks", spec := "bitsBreaks", unfollowed := true, recurses := true, apart := false, narrowed := true }
def BitsBreaksUptoSaid : Prop := bitsBreaksUptoRow.holds Try.pinned (OpenSpec.upto bitsBreaksSpec)

/-- 'backstaylaw01.BitsCompares', WHERE WHAT IT READS IS OF BULK AT MOST 1048576: true; the input reads as it did. -/
def bitsComparesUptoRow : OpenClaim := { program := "ytpgbepgbgpjmcaa", sum := "5a103f8ac4a63dd822ad1c7ab3d54c5cf01bdd7b1f06506bd88021f7baea6336", func := "backstay/backstaylaw01.BitsCompares", spec := "bitsCompares", unfollowed := true, recurses := true, apart := false, narrowed := true }
def BitsComparesUptoSaid : Prop := bitsComparesUptoRow.holds Try.pinned (OpenSpec.upto bitsComparesSpec)

end Rows
end Go.Proofs.Ytpgbepgbgpjmcaa
