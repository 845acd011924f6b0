/-
  DERIVED. GIVEN WITH THE SEED: THE CARDS: each row of YtpgbepgbgpjmcaaDoorRows.lean that lists a variable, with what it lists TIED to the program's text (the seventh form; the later family's looks); each row that meets fmt, with fmt's text TOLD by the authors' own Lean function (tested against real Go, not proved from fmt's source: count such statements apart). THE CARD IS WHAT COUNTS. Prove the row's statement (the work); the ties are given (YtpgbepgbgpjmcaaDoorTie.lean); close each card by the builder's one call (the guide's Derived/Test/ToyasCard.lean, 'card_holds'). Laid BY PROGRAM, IN A SANDBOX (cutbox-door.mjs). By AI agents, Wed Nov 11 2026. No macro, syntax, notation, axiom, sorry.
-/
import Derived.Test.YtpgbepgbgpjmcaaDoorRows
import GoSem.ClaimSeven
namespace Go.Proofs.YtpgbepgbgpjmcaaDoor
namespace Rows

/-- THE TIED CARD OF 'backstaylaw01.BitsCounts'. -/
def bitsCountsCard : Claim7 := { stood := { row := bitsCountsRow, standIns := [], harness := (true, "d600d4d37aa6bd3a079355703519d4e685bdf72ee6befd7dc9f0cfec62980bfe"), looks := false }, kinds := [], alts := [], laidByText := true, laidKinds := [.data], laidTests := true, laidLooks := .later }
def BitsCountsCardSaid : Prop := Claim7.holds Tryd.pinned (.plain (OpenSpec.ofChange bitsCountsSpec)) bitsCountsCard

/-- THE TIED CARD OF 'backstaytop.TopWords'. -/
def topWordsCard : Claim7 := { stood := { row := topWordsRow, standIns := [], harness := (true, "d600d4d37aa6bd3a079355703519d4e685bdf72ee6befd7dc9f0cfec62980bfe"), looks := false }, kinds := [], alts := [], laidByText := true, laidKinds := [.data], laidTests := true, laidLooks := .later }
def TopWordsCardSaid : Prop := Claim7.holds Tryd.pinned (.plain (OpenSpec.ofChange topWordsSpec)) topWordsCard

/-- THE SECOND FORM's CARD OF 'backstaylaw01.BitsCounts'. -/
def bitsCountsUptoCard : Claim7 := { stood := { row := bitsCountsUptoRow, standIns := [], harness := (true, "d600d4d37aa6bd3a079355703519d4e685bdf72ee6befd7dc9f0cfec62980bfe"), looks := false }, kinds := [], alts := [], laidByText := true, laidKinds := [.data], laidTests := true, laidLooks := .later }
def BitsCountsUptoCardSaid : Prop := Claim7.holds Tryd.pinned (.plain (OpenSpec.upto bitsCountsSpec)) bitsCountsUptoCard

/-- THE SECOND FORM's CARD OF 'backstaytop.TopWords'. -/
def topWordsUptoCard : Claim7 := { stood := { row := topWordsUptoRow, standIns := [], harness := (true, "d600d4d37aa6bd3a079355703519d4e685bdf72ee6befd7dc9f0cfec62980bfe"), looks := false }, kinds := [], alts := [], laidByText := true, laidKinds := [.data], laidTests := true, laidLooks := .later }
def TopWordsUptoCardSaid : Prop := Claim7.holds Tryd.pinned (.plain (OpenSpec.upto topWordsSpec)) topWordsUptoCard
end Rows
end Go.Proofs.YtpgbepgbgpjmcaaDoor
