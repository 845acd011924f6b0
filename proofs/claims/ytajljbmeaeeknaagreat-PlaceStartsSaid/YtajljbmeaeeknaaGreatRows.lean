/-
  No cell of these rows narrows 'for every input' (looked for: loops, veiled, ifaces, maps, wideKeys, modest, calm, conditions, laid).
  DERIVED. THE GIVEN ROWS OF THIS SEAT. 4 by the template 'for every input the law returns true; each argument reads behind the call as it read before'; 0 by the template 'total and deterministic' (their statements: YtajljbmeaeeknaaGreatTotals.lean).
  GIVEN WITH THE SEED: the statements are not yours to turn. If you find one false, say at which input.
  Laid BY PROGRAM, IN A SANDBOX (cutbox-rows.mjs): the forced cells as the released guide's own fill.sh prints them over the translation d3badfed2eeb9b04… (all of the seat's roots in one cut). By AI agents, Wed Nov 11 2026. No macro, syntax, notation, axiom, sorry.
-/
import Derived.Test.YtajljbmeaeeknaaGreatChecked
import GoSem.Claim
import GoSem.ClaimJoined
import GoSem.ClaimMapViews
import Derived.JoinedTies
import Derived.KernelRfl
namespace Go.Proofs.YtajljbmeaeeknaaGreat
/- THE CELL 'sum', in the pinned program and in every row, IS THE sha256 OF THE DUMP (.gsa) THAT YtajljbmeaeeknaaGreatProg.lean LOADS. Nothing in Lean hashes anything: it is a label: what it is worth is what the hold of that sum in a sandbox is worth. -/
noncomputable def Tryz.pinned : Pinned := { name := "ytajljbmeaeeknaagreat", sum := "d3badfed2eeb9b04669b68423e3cecfd59bf8a503cd849c279847506a6a330f3", checked := Tryz.checked }
namespace Rows
def none {H : Type} : Left H := { results := [], args := [] }

/-- 'backstaylaw22.PlaceEmits': WHATEVER THE INPUT: true; the input reads as it did. -/
def placeEmitsSpec : ChangeSpec := { name := "placeEmits", fn := fun _ => fun
  | [d1, d2, d3] => { results := [.lit (.bool true)], args := [d1, d2, d3] }
  | _ => none }
def placeEmitsRow : OpenClaim := { program := "ytajljbmeaeeknaagreat", sum := "d3badfed2eeb9b04669b68423e3cecfd59bf8a503cd849c279847506a6a330f3", func := "backstay/backstaylaw22.PlaceEmits", spec := "placeEmits", unfollowed := true, recurses := true, plainKeys := false, apart := false }
def PlaceEmitsSaid : Prop := placeEmitsRow.holds Tryz.pinned (OpenSpec.ofChange placeEmitsSpec)

/-- ITS FALSE NEIGHBOUR: 'it returns false'. Refute it at one input. -/
def placeEmitsWrong : ChangeSpec := { name := "placeEmits", fn := fun _ => fun
  | [d1, d2, d3] => { results := [.lit (.bool false)], args := [d1, d2, d3] }
  | _ => none }
def PlaceEmitsWrongFalsely : Prop := placeEmitsRow.holds Tryz.pinned (OpenSpec.ofChange placeEmitsWrong)

/-- 'backstaylaw22.PlaceStarts': WHATEVER THE INPUT: true; the input reads as it did. -/
def placeStartsSpec : ChangeSpec := { name := "placeStarts", fn := fun _ => fun
  | [d1, d2] => { results := [.lit (.bool true)], args := [d1, d2] }
  | _ => none }
def placeStartsRow : OpenClaim := { program := "ytajljbmeaeeknaagreat", sum := "d3badfed2eeb9b04669b68423e3cecfd59bf8a503cd849c279847506a6a330f3", func := "backstay/backstaylaw22.PlaceStarts", spec := "placeStarts", unfollowed := true, recurses := true, plainKeys := false, apart := false }
def PlaceStartsSaid : Prop := placeStartsRow.holds Tryz.pinned (OpenSpec.ofChange placeStartsSpec)

/-- ITS FALSE NEIGHBOUR: 'it returns false'. Refute it at one input. -/
def placeStartsWrong : ChangeSpec := { name := "placeStarts", fn := fun _ => fun
  | [d1, d2] => { results := [.lit (.bool false)], args := [d1, d2] }
  | _ => none }
def PlaceStartsWrongFalsely : Prop := placeStartsRow.holds Tryz.pinned (OpenSpec.ofChange placeStartsWrong)

/-- 'backstaylaw22.PlaceRuns': WHATEVER THE INPUT: true; the input reads as it did. -/
def placeRunsSpec : ChangeSpec := { name := "placeRuns", fn := fun _ => fun
  | [d1, d2, d3] => { results := [.lit (.bool true)], args := [d1, d2, d3] }
  | _ => none }
def placeRunsRow : OpenClaim := { program := "ytajljbmeaeeknaagreat", sum := "d3badfed2eeb9b04669b68423e3cecfd59bf8a503cd849c279847506a6a330f3", func := "backstay/backstaylaw22.PlaceRuns", spec := "placeRuns", unfollowed := true, recurses := true, plainKeys := false, apart := false }
def PlaceRunsSaid : Prop := placeRunsRow.holds Tryz.pinned (OpenSpec.ofChange placeRunsSpec)

/-- ITS FALSE NEIGHBOUR: 'it returns false'. Refute it at one input. -/
def placeRunsWrong : ChangeSpec := { name := "placeRuns", fn := fun _ => fun
  | [d1, d2, d3] => { results := [.lit (.bool false)], args := [d1, d2, d3] }
  | _ => none }
def PlaceRunsWrongFalsely : Prop := placeRunsRow.holds Tryz.pinned (OpenSpec.ofChange placeRunsWrong)

/-- 'backstaytop.TopCodes': WHATEVER THE INPUT: true; the input reads as it did. -/
def topCodesSpec : ChangeSpec := { name := "topCodes", fn := fun _ => fun
  | [d1, d2, d3] => { results := [.lit (.bool true)], args := [d1, d2, d3] }
  | _ => none }
def topCodesRow : OpenClaim := { program := "ytajljbmeaeeknaagreat", sum := "d3badfed2eeb9b04669b68423e3cecfd59bf8a503cd849c279847506a6a330f3", func := "backstay/backstaytop.TopCodes", spec := "topCodes", unfollowed := true, recurses := true, plainKeys := false, apart := false }
def TopCodesSaid : Prop := topCodesRow.holds Tryz.pinned (OpenSpec.ofChange topCodesSpec)

/-- ITS FALSE NEIGHBOUR: 'it returns false'. Refute it at one input. -/
def topCodesWrong : ChangeSpec := { name := "topCodes", fn := fun _ => fun
  | [d1, d2, d3] => { results := [.lit (.bool false)], args := [d1, d2, d3] }
  | _ => none }
def TopCodesWrongFalsely : Prop := topCodesRow.holds Tryz.pinned (OpenSpec.ofChange topCodesWrong)

/- THE SECOND FORM. 'bulk': how many values and letters a reading holds, each counted each time it is reached (what is shared counts as often as it is met; a slice's spare places count too). A statement '..UptoSaid' is the law's where the arguments, and the package variables that the reading takes, are together of bulk at most 1048576: NARROWER than '..Said'. Prove '..Said' where nothing that the law and all that it calls make is longer than what came in: it says more and counts as full. Else prove '..UptoSaid'. A law counts once. -/
mutual
def uptoBulk {H : Type} : DataW H → Nat
  | .lit (.string bytes) => bytes.length + 1
  | .lit _ => 1
  | .nil => 1
  | .ptr d => uptoBulk d + 1
  | .slice elems spare => uptoBulkAll elems + uptoBulkAll spare + 1
  | .agg parts => uptoBulkAll parts + 1
  | .iface _ d => uptoBulk d + 1
  | .map entries => uptoBulkEntries entries + 1
  | .held _ => 1
def uptoBulkAll {H : Type} : List (DataW H) → Nat
  | [] => 0
  | d :: r => uptoBulk d + uptoBulkAll r
def uptoBulkEntries {H : Type} : List (Lit × DataW H) → Nat
  | [] => 0
  | x :: r => uptoBulkEntry x + uptoBulkEntries r
def uptoBulkEntry {H : Type} : Lit × DataW H → Nat
  | (.string bytes, d) => bytes.length + uptoBulk d + 1
  | (_, d) => uptoBulk d + 1
 end
def uptoSmall : (H : Type) → List (DataW H) → Bool := fun _ ds => decide (uptoBulkAll ds ≤ 1048576)
def OpenSpec.upto (s : _root_.Go.ChangeSpec) : _root_.Go.OpenSpec := { _root_.Go.OpenSpec.ofChange s with cond := some uptoSmall }

/-- 'backstaylaw22.PlaceEmits', WHERE WHAT IT READS IS OF BULK AT MOST 1048576: true; the input reads as it did. -/
def placeEmitsUptoRow : OpenClaim := { program := "ytajljbmeaeeknaagreat", sum := "d3badfed2eeb9b04669b68423e3cecfd59bf8a503cd849c279847506a6a330f3", func := "backstay/backstaylaw22.PlaceEmits", spec := "placeEmits", unfollowed := true, recurses := true, plainKeys := false, apart := false, narrowed := true }
def PlaceEmitsUptoSaid : Prop := placeEmitsUptoRow.holds Tryz.pinned (OpenSpec.upto placeEmitsSpec)

/-- 'backstaylaw22.PlaceStarts', WHERE WHAT IT READS IS OF BULK AT MOST 1048576: true; the input reads as it did. -/
def placeStartsUptoRow : OpenClaim := { program := "ytajljbmeaeeknaagreat", sum := "d3badfed2eeb9b04669b68423e3cecfd59bf8a503cd849c279847506a6a330f3", func := "backstay/backstaylaw22.PlaceStarts", spec := "placeStarts", unfollowed := true, recurses := true, plainKeys := false, apart := false, narrowed := true }
def PlaceStartsUptoSaid : Prop := placeStartsUptoRow.holds Tryz.pinned (OpenSpec.upto placeStartsSpec)

/-- 'backstaylaw22.PlaceRuns', WHERE WHAT IT READS IS OF BULK AT MOST 1048576: true; the input reads as it did. -/
def placeRunsUptoRow : OpenClaim := { program := "ytajljbmeaeeknaagreat", sum := "d3badfed2eeb9b04669b68423e3cecfd59bf8a503cd849c279847506a6a330f3", func := "backstay/backstaylaw22.PlaceRuns", spec := "placeRuns", unfollowed := true, recurses := true, plainKeys := false, apart := false, narrowed := true }
def PlaceRunsUptoSaid : Prop := placeRunsUptoRow.holds Tryz.pinned (OpenSpec.upto placeRunsSpec)

/-- 'backstaytop.TopCodes', WHERE WHAT IT READS IS OF BULK AT MOST 1048576: true; the input reads as it did. -/
def topCodesUptoRow : OpenClaim := { program := "ytajljbmeaeeknaagreat", sum := "d3badfed2eeb9b04669b68423e3cecfd59bf8a503cd849c279847506a6a330f3", func := "backstay/backstaytop.TopCodes", spec := "topCodes", unfollowed := true, recurses := true, plainKeys := false, apart := false, narrowed := true }
def TopCodesUptoSaid : Prop := topCodesUptoRow.holds Tryz.pinned (OpenSpec.upto topCodesSpec)

end Rows
end Go.Proofs.YtajljbmeaeeknaaGreat
