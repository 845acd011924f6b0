/-
  DERIVED. GIVEN WITH THE SEED: THE CARDS: each row of YtgcfadnnajahhaaGreatDoorRows.lean that lists a variable, with what it lists TIED to the program's text (the seventh form; the later family's looks); each row that meets fmt, with fmt's text TOLD by the authors' own Lean function (tested against real Go, not proved from fmt's source: count such statements apart). THE CARD IS WHAT COUNTS. Prove the row's statement (the work); the ties are given (YtgcfadnnajahhaaGreatDoorTie.lean); close each card by the builder's one call (the guide's Derived/Test/ToyasCard.lean, 'card_holds'). Laid BY PROGRAM, IN A SANDBOX (cutbox-door.mjs). By AI agents, Wed Nov 11 2026. No macro, syntax, notation, axiom, sorry.
-/
import Derived.Test.YtgcfadnnajahhaaGreatDoorRows
import GoSem.ClaimSeven
namespace Go.Proofs.YtgcfadnnajahhaaGreatDoor
namespace Rows

/-- THE TIED CARD OF 'backstaytop.TopShortest'. -/
def topShortestCard : Claim7 := { stood := { row := topShortestRow, standIns := [], harness := (true, "7fa6903f542d8f3eb5e8cdd2f793a909b943e5949673ae1e6ee4e599917611c6"), looks := false }, kinds := [], alts := [], laidByText := true, laidKinds := [.data], laidTests := true, laidLooks := .later }
def TopShortestCardSaid : Prop := Claim7.holds Tryz.pinned (.plain (OpenSpec.ofChange topShortestSpec)) topShortestCard

/-- THE TIED CARD OF 'backstaylaw07.TermTexts'. -/
def termTextsCard : Claim7 := { stood := { row := termTextsRow, standIns := [], harness := (true, "7fa6903f542d8f3eb5e8cdd2f793a909b943e5949673ae1e6ee4e599917611c6"), looks := false }, kinds := [], alts := [], laidByText := true, laidKinds := [.data, .data, .data], laidTests := true, laidLooks := .later }
def TermTextsCardSaid : Prop := Claim7.holds Tryz.pinned (.plain (OpenSpec.ofChange termTextsSpec)) termTextsCard

/-- THE SECOND FORM's CARD OF 'backstaytop.TopShortest'. -/
def topShortestUptoCard : Claim7 := { stood := { row := topShortestUptoRow, standIns := [], harness := (true, "7fa6903f542d8f3eb5e8cdd2f793a909b943e5949673ae1e6ee4e599917611c6"), looks := false }, kinds := [], alts := [], laidByText := true, laidKinds := [.data], laidTests := true, laidLooks := .later }
def TopShortestUptoCardSaid : Prop := Claim7.holds Tryz.pinned (.plain (OpenSpec.upto topShortestSpec)) topShortestUptoCard

/-- THE SECOND FORM's CARD OF 'backstaylaw07.TermTexts'. -/
def termTextsUptoCard : Claim7 := { stood := { row := termTextsUptoRow, standIns := [], harness := (true, "7fa6903f542d8f3eb5e8cdd2f793a909b943e5949673ae1e6ee4e599917611c6"), looks := false }, kinds := [], alts := [], laidByText := true, laidKinds := [.data, .data, .data], laidTests := true, laidLooks := .later }
def TermTextsUptoCardSaid : Prop := Claim7.holds Tryz.pinned (.plain (OpenSpec.upto termTextsSpec)) termTextsUptoCard
end Rows
end Go.Proofs.YtgcfadnnajahhaaGreatDoor
