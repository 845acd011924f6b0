/-
  No cell of these rows narrows 'for every input' (looked for: loops, veiled, ifaces, maps, wideKeys, modest, calm, conditions, laid).
  DERIVED. THE GIVEN ROWS OF THIS SEAT. 8 by the template 'for every input the law returns true; each argument reads behind the call as it read before'; 0 by the template 'total and deterministic' (their statements: YtaegpeofecdhfaaGreatTotals.lean).
  GIVEN WITH THE SEED: the statements are not yours to turn. If you find one false, say at which input.
  Laid BY PROGRAM, IN A SANDBOX (cutbox-rows.mjs): the forced cells as the released guide's own fill.sh prints them over the translation 913ce0b68b97d245… (all of the seat's roots in one cut). By AI agents, Wed Nov 11 2026. No macro, syntax, notation, axiom, sorry.
-/
import Derived.Test.YtaegpeofecdhfaaGreatChecked
import GoSem.Claim
import GoSem.ClaimJoined
import GoSem.ClaimMapViews
import Derived.JoinedTies
import Derived.KernelRfl
namespace Go.Proofs.YtaegpeofecdhfaaGreat
/- THE CELL 'sum', in the pinned program and in every row, IS THE sha256 OF THE DUMP (.gsa) THAT YtaegpeofecdhfaaGreatProg.lean LOADS. Nothing in Lean hashes anything: it is a label: what it is worth is what the hold of that sum in a sandbox is worth. -/
noncomputable def Tryz.pinned : Pinned := { name := "ytaegpeofecdhfaagreat", sum := "913ce0b68b97d245a6376f104f66722c2d44369fd2f5fbc494f1a1b5e0157278", checked := Tryz.checked }
namespace Rows
def none {H : Type} : Left H := { results := [], args := [] }

/-- 'backstaylaw22.PlaceObjects': WHATEVER THE INPUT: true; the input reads as it did. -/
def placeObjectsSpec : ChangeSpec := { name := "placeObjects", fn := fun _ => fun
  | [d] => { results := [.lit (.bool true)], args := [d] }
  | _ => none }
def placeObjectsRow : OpenClaim := { program := "ytaegpeofecdhfaagreat", sum := "913ce0b68b97d245a6376f104f66722c2d44369fd2f5fbc494f1a1b5e0157278", func := "backstay/backstaylaw22.PlaceObjects", spec := "placeObjects", unfollowed := true, recurses := true, plainKeys := false, apart := false }
def PlaceObjectsSaid : Prop := placeObjectsRow.holds Tryz.pinned (OpenSpec.ofChange placeObjectsSpec)

/-- ITS FALSE NEIGHBOUR: 'it returns false'. Refute it at one input. -/
def placeObjectsWrong : ChangeSpec := { name := "placeObjects", fn := fun _ => fun
  | [d] => { results := [.lit (.bool false)], args := [d] }
  | _ => none }
def PlaceObjectsWrongFalsely : Prop := placeObjectsRow.holds Tryz.pinned (OpenSpec.ofChange placeObjectsWrong)

/-- 'backstaylaw22.PlaceLinks': WHATEVER THE INPUT: true; the input reads as it did. -/
def placeLinksSpec : ChangeSpec := { name := "placeLinks", fn := fun _ => fun
  | [d1, d2] => { results := [.lit (.bool true)], args := [d1, d2] }
  | _ => none }
def placeLinksRow : OpenClaim := { program := "ytaegpeofecdhfaagreat", sum := "913ce0b68b97d245a6376f104f66722c2d44369fd2f5fbc494f1a1b5e0157278", func := "backstay/backstaylaw22.PlaceLinks", spec := "placeLinks", unfollowed := true, recurses := true, plainKeys := false, apart := false }
def PlaceLinksSaid : Prop := placeLinksRow.holds Tryz.pinned (OpenSpec.ofChange placeLinksSpec)

/-- ITS FALSE NEIGHBOUR: 'it returns false'. Refute it at one input. -/
def placeLinksWrong : ChangeSpec := { name := "placeLinks", fn := fun _ => fun
  | [d1, d2] => { results := [.lit (.bool false)], args := [d1, d2] }
  | _ => none }
def PlaceLinksWrongFalsely : Prop := placeLinksRow.holds Tryz.pinned (OpenSpec.ofChange placeLinksWrong)

/-- 'backstaylaw22.PlaceFinds': WHATEVER THE INPUT: true; the input reads as it did. -/
def placeFindsSpec : ChangeSpec := { name := "placeFinds", fn := fun _ => fun
  | [d1, d2, d3] => { results := [.lit (.bool true)], args := [d1, d2, d3] }
  | _ => none }
def placeFindsRow : OpenClaim := { program := "ytaegpeofecdhfaagreat", sum := "913ce0b68b97d245a6376f104f66722c2d44369fd2f5fbc494f1a1b5e0157278", func := "backstay/backstaylaw22.PlaceFinds", spec := "placeFinds", unfollowed := true, recurses := true, plainKeys := false, apart := false }
def PlaceFindsSaid : Prop := placeFindsRow.holds Tryz.pinned (OpenSpec.ofChange placeFindsSpec)

/-- ITS FALSE NEIGHBOUR: 'it returns false'. Refute it at one input. -/
def placeFindsWrong : ChangeSpec := { name := "placeFinds", fn := fun _ => fun
  | [d1, d2, d3] => { results := [.lit (.bool false)], args := [d1, d2, d3] }
  | _ => none }
def PlaceFindsWrongFalsely : Prop := placeFindsRow.holds Tryz.pinned (OpenSpec.ofChange placeFindsWrong)

/-- 'backstaylaw22.PlaceTurns': WHATEVER THE INPUT: true; the input reads as it did. -/
def placeTurnsSpec : ChangeSpec := { name := "placeTurns", fn := fun _ => fun
  | [d1, d2] => { results := [.lit (.bool true)], args := [d1, d2] }
  | _ => none }
def placeTurnsRow : OpenClaim := { program := "ytaegpeofecdhfaagreat", sum := "913ce0b68b97d245a6376f104f66722c2d44369fd2f5fbc494f1a1b5e0157278", func := "backstay/backstaylaw22.PlaceTurns", spec := "placeTurns", unfollowed := true, recurses := true, plainKeys := false, apart := false }
def PlaceTurnsSaid : Prop := placeTurnsRow.holds Tryz.pinned (OpenSpec.ofChange placeTurnsSpec)

/-- ITS FALSE NEIGHBOUR: 'it returns false'. Refute it at one input. -/
def placeTurnsWrong : ChangeSpec := { name := "placeTurns", fn := fun _ => fun
  | [d1, d2] => { results := [.lit (.bool false)], args := [d1, d2] }
  | _ => none }
def PlaceTurnsWrongFalsely : Prop := placeTurnsRow.holds Tryz.pinned (OpenSpec.ofChange placeTurnsWrong)

/-- 'backstaylaw22.PlaceEmits': WHATEVER THE INPUT: true; the input reads as it did. -/
def placeEmitsSpec : ChangeSpec := { name := "placeEmits", fn := fun _ => fun
  | [d1, d2, d3] => { results := [.lit (.bool true)], args := [d1, d2, d3] }
  | _ => none }
def placeEmitsRow : OpenClaim := { program := "ytaegpeofecdhfaagreat", sum := "913ce0b68b97d245a6376f104f66722c2d44369fd2f5fbc494f1a1b5e0157278", func := "backstay/backstaylaw22.PlaceEmits", spec := "placeEmits", unfollowed := true, recurses := true, plainKeys := false, apart := false }
def PlaceEmitsSaid : Prop := placeEmitsRow.holds Tryz.pinned (OpenSpec.ofChange placeEmitsSpec)

/-- ITS FALSE NEIGHBOUR: 'it returns false'. Refute it at one input. -/
def placeEmitsWrong : ChangeSpec := { name := "placeEmits", fn := fun _ => fun
  | [d1, d2, d3] => { results := [.lit (.bool false)], args := [d1, d2, d3] }
  | _ => none }
def PlaceEmitsWrongFalsely : Prop := placeEmitsRow.holds Tryz.pinned (OpenSpec.ofChange placeEmitsWrong)

/-- 'backstaylaw22.PlaceLoads': WHATEVER THE INPUT: true; the input reads as it did. -/
def placeLoadsSpec : ChangeSpec := { name := "placeLoads", fn := fun _ => fun
  | [d1, d2, d3] => { results := [.lit (.bool true)], args := [d1, d2, d3] }
  | _ => none }
def placeLoadsRow : OpenClaim := { program := "ytaegpeofecdhfaagreat", sum := "913ce0b68b97d245a6376f104f66722c2d44369fd2f5fbc494f1a1b5e0157278", func := "backstay/backstaylaw22.PlaceLoads", spec := "placeLoads", unfollowed := true, recurses := true, plainKeys := false, apart := false }
def PlaceLoadsSaid : Prop := placeLoadsRow.holds Tryz.pinned (OpenSpec.ofChange placeLoadsSpec)

/-- ITS FALSE NEIGHBOUR: 'it returns false'. Refute it at one input. -/
def placeLoadsWrong : ChangeSpec := { name := "placeLoads", fn := fun _ => fun
  | [d1, d2, d3] => { results := [.lit (.bool false)], args := [d1, d2, d3] }
  | _ => none }
def PlaceLoadsWrongFalsely : Prop := placeLoadsRow.holds Tryz.pinned (OpenSpec.ofChange placeLoadsWrong)

/-- 'backstaylaw22.PlaceStarts': WHATEVER THE INPUT: true; the input reads as it did. -/
def placeStartsSpec : ChangeSpec := { name := "placeStarts", fn := fun _ => fun
  | [d1, d2] => { results := [.lit (.bool true)], args := [d1, d2] }
  | _ => none }
def placeStartsRow : OpenClaim := { program := "ytaegpeofecdhfaagreat", sum := "913ce0b68b97d245a6376f104f66722c2d44369fd2f5fbc494f1a1b5e0157278", func := "backstay/backstaylaw22.PlaceStarts", spec := "placeStarts", unfollowed := true, recurses := true, plainKeys := false, apart := false }
def PlaceStartsSaid : Prop := placeStartsRow.holds Tryz.pinned (OpenSpec.ofChange placeStartsSpec)

/-- ITS FALSE NEIGHBOUR: 'it returns false'. Refute it at one input. -/
def placeStartsWrong : ChangeSpec := { name := "placeStarts", fn := fun _ => fun
  | [d1, d2] => { results := [.lit (.bool false)], args := [d1, d2] }
  | _ => none }
def PlaceStartsWrongFalsely : Prop := placeStartsRow.holds Tryz.pinned (OpenSpec.ofChange placeStartsWrong)

/-- 'backstaylaw22.PlaceRuns': WHATEVER THE INPUT: true; the input reads as it did. -/
def placeRunsSpec : ChangeSpec := { name := "placeRuns", fn := fun _ => fun
  | [d1, d2, d3] => { results := [.lit (.bool true)], args := [d1, d2, d3] }
  | _ => none }
def placeRunsRow : OpenClaim := { program := "ytaegpeofecdhfaagreat", sum := "913ce0b68b97d245a6376f104f66722c2d44369fd2f5fbc494f1a1b5e0157278", func := "backstay/backstaylaw22.PlaceRuns", spec := "placeRuns", unfollowed := true, recurses := true, plainKeys := false, apart := false }
def PlaceRunsSaid : Prop := placeRunsRow.holds Tryz.pinned (OpenSpec.ofChange placeRunsSpec)

/-- ITS FALSE NEIGHBOUR: 'it returns false'. Refute it at one input. -/
def placeRunsWrong : ChangeSpec := { name := "placeRuns", fn := fun _ => fun
  | [d1, d2, d3] => { results := [.lit (.bool false)], args := [d1, d2, d3] }
  | _ => none }
def PlaceRunsWrongFalsely : Prop := placeRunsRow.holds Tryz.pinned (OpenSpec.ofChange placeRunsWrong)

/- THE SECOND FORM. 'bulk': how many values and letters a reading holds, each counted each time it is reached (what is shared counts as often as it is met; a slice's spare places count too). A statement '..UptoSaid' is the law's where the arguments, and the package variables that the reading takes, are together of bulk at most 1048576: NARROWER than '..Said'. Prove '..Said' where nothing that the law and all that it calls make is longer than what came in: it says more and counts as full. Else prove '..UptoSaid'. A law counts once. -/
mutual
def uptoBulk {H : Type} : DataW H → Nat
  | .lit (.string bytes) => bytes.length + 1
  | .lit _ => 1
  | .nil => 1
  | .ptr d => uptoBulk d + 1
  | .slice elems spare => uptoBulkAll elems + uptoBulkAll spare + 1
  | .agg parts => uptoBulkAll parts + 1
  | .iface _ d => uptoBulk d + 1
  | .map entries => uptoBulkEntries entries + 1
  | .held _ => 1
def uptoBulkAll {H : Type} : List (DataW H) → Nat
  | [] => 0
  | d :: r => uptoBulk d + uptoBulkAll r
def uptoBulkEntries {H : Type} : List (Lit × DataW H) → Nat
  | [] => 0
  | x :: r => uptoBulkEntry x + uptoBulkEntries r
def uptoBulkEntry {H : Type} : Lit × DataW H → Nat
  | (.string bytes, d) => bytes.length + uptoBulk d + 1
  | (_, d) => uptoBulk d + 1
 end
def uptoSmall : (H : Type) → List (DataW H) → Bool := fun _ ds => decide (uptoBulkAll ds ≤ 1048576)
def OpenSpec.upto (s : _root_.Go.ChangeSpec) : _root_.Go.OpenSpec := { _root_.Go.OpenSpec.ofChange s with cond := some uptoSmall }

/-- 'backstaylaw22.PlaceObjects', WHERE WHAT IT READS IS OF BULK AT MOST 1048576: true; the input reads as it did. -/
def placeObjectsUptoRow : OpenClaim := { program := "ytaegpeofecdhfaagreat", sum := "913ce0b68b97d245a6376f104f66722c2d44369fd2f5fbc494f1a1b5e0157278", func := "backstay/backstaylaw22.PlaceObjects", spec := "placeObjects", unfollowed := true, recurses := true, plainKeys := false, apart := false, narrowed := true }
def PlaceObjectsUptoSaid : Prop := placeObjectsUptoRow.holds Tryz.pinned (OpenSpec.upto placeObjectsSpec)

/-- 'backstaylaw22.PlaceLinks', WHERE WHAT IT READS IS OF BULK AT MOST 1048576: true; the input reads as it did. -/
def placeLinksUptoRow : OpenClaim := { program := "ytaegpeofecdhfaagreat", sum := "913ce0b68b97d245a6376f104f66722c2d44369fd2f5fbc494f1a1b5e0157278", func := "backstay/backstaylaw22.PlaceLinks", spec := "placeLinks", unfollowed := true, recurses := true, plainKeys := false, apart := false, narrowed := true }
def PlaceLinksUptoSaid : Prop := placeLinksUptoRow.holds Tryz.pinned (OpenSpec.upto placeLinksSpec)

/-- 'backstaylaw22.PlaceFinds', WHERE WHAT IT READS IS OF BULK AT MOST 1048576: true; the input reads as it did. -/
def placeFindsUptoRow : OpenClaim := { program := "ytaegpeofecdhfaagreat", sum := "913ce0b68b97d245a6376f104f66722c2d44369fd2f5fbc494f1a1b5e0157278", func := "backstay/backstaylaw22.PlaceFinds", spec := "placeFinds", unfollowed := true, recurses := true, plainKeys := false, apart := false, narrowed := true }
def PlaceFindsUptoSaid : Prop := placeFindsUptoRow.holds Tryz.pinned (OpenSpec.upto placeFindsSpec)

/-- 'backstaylaw22.PlaceTurns', WHERE WHAT IT READS IS OF BULK AT MOST 1048576: true; the input reads as it did. -/
def placeTurnsUptoRow : OpenClaim := { program := "ytaegpeofecdhfaagreat", sum := "913ce0b68b97d245a6376f104f66722c2d44369fd2f5fbc494f1a1b5e0157278", func := "backstay/backstaylaw22.PlaceTurns", spec := "placeTurns", unfollowed := true, recurses := true, plainKeys := false, apart := false, narrowed := true }
def PlaceTurnsUptoSaid : Prop := placeTurnsUptoRow.holds Tryz.pinned (OpenSpec.upto placeTurnsSpec)

/-- 'backstaylaw22.PlaceEmits', WHERE WHAT IT READS IS OF BULK AT MOST 1048576: true; the input reads as it did. -/
def placeEmitsUptoRow : OpenClaim := { program := "ytaegpeofecdhfaagreat", sum := "913ce0b68b97d245a6376f104f66722c2d44369fd2f5fbc494f1a1b5e0157278", func := "backstay/backstaylaw22.PlaceEmits", spec := "placeEmits", unfollowed := true, recurses := true, plainKeys := false, apart := false, narrowed := true }
def PlaceEmitsUptoSaid : Prop := placeEmitsUptoRow.holds Tryz.pinned (OpenSpec.upto placeEmitsSpec)

/-- 'backstaylaw22.PlaceLoads', WHERE WHAT IT READS IS OF BULK AT MOST 1048576: true; the input reads as it did. -/
def placeLoadsUptoRow : OpenClaim := { program := "ytaegpeofecdhfaagreat", sum := "913ce0b68b97d245a6376f104f66722c2d44369fd2f5fbc494f1a1b5e0157278", func := "backstay/backstaylaw22.PlaceLoads", spec := "placeLoads", unfollowed := true, recurses := true, plainKeys := false, apart := false, narrowed := true }
def PlaceLoadsUptoSaid : Prop := placeLoadsUptoRow.holds Tryz.pinned (OpenSpec.upto placeLoadsSpec)

/-- 'backstaylaw22.PlaceStarts', WHERE WHAT IT READS IS OF BULK AT MOST 1048576: true; the input reads as it did. -/
def placeStartsUptoRow : OpenClaim := { program := "ytaegpeofecdhfaagreat", sum := "913ce0b68b97d245a6376f104f66722c2d44369fd2f5fbc494f1a1b5e0157278", func := "backstay/backstaylaw22.PlaceStarts", spec := "placeStarts", unfollowed := true, recurses := true, plainKeys := false, apart := false, narrowed := true }
def PlaceStartsUptoSaid : Prop := placeStartsUptoRow.holds Tryz.pinned (OpenSpec.upto placeStartsSpec)

/-- 'backstaylaw22.PlaceRuns', WHERE WHAT IT READS IS OF BULK AT MOST 1048576: true; the input reads as it did. -/
def placeRunsUptoRow : OpenClaim := { program := "ytaegpeofecdhfaagreat", sum := "913ce0b68b97d245a6376f104f66722c2d44369fd2f5fbc494f1a1b5e0157278", func := "backstay/backstaylaw22.PlaceRuns", spec := "placeRuns", unfollowed := true, recurses := true, plainKeys := false, apart := false, narrowed := true }
def PlaceRunsUptoSaid : Prop := placeRunsUptoRow.holds Tryz.pinned (OpenSpec.upto placeRunsSpec)

end Rows
end Go.Proofs.YtaegpeofecdhfaaGreat
