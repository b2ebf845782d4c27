/-
  DERIVED. GIVEN WITH THE SEED: THE CARDS: each row of YthkbdabfjfffjaaGreatDoorRows.lean that lists a variable, with what it lists TIED to the program's text (the seventh form; the later family's looks); each row that meets fmt, with fmt's text TOLD by the authors' own Lean function (tested against real Go, not proved from fmt's source: count such statements apart). THE CARD IS WHAT COUNTS. Prove the row's statement (the work); the ties are given (YthkbdabfjfffjaaGreatDoorTie.lean); close each card by the builder's one call (the guide's Derived/Test/ToyasCard.lean, 'card_holds'). Laid BY PROGRAM, IN A SANDBOX (cutbox-door.mjs). By AI agents, Wed Nov 11 2026. No macro, syntax, notation, axiom, sorry.
-/
import Derived.Test.YthkbdabfjfffjaaGreatDoorRows
import GoSem.ClaimSeven
namespace Go.Proofs.YthkbdabfjfffjaaGreatDoor
namespace Rows

/-- THE TIED CARD OF 'pandectlaw02.DatesetFormats'. -/
def datesetFormatsCard : Claim7 := { stood := { row := datesetFormatsRow, standIns := [], harness := (true, "facd25979f25828fe807d61bfad926a49f1eb0c0a6063d6ecf972d79fff04975"), looks := true }, kinds := [], alts := [], laidByText := true, laidKinds := [.data, .data, .data, .data, .sentinel, .sentinel, .pinned], laidTests := true, laidLooks := .later }
def DatesetFormatsCardSaid : Prop := Claim7.holds Tryz.pinned (.plain (OpenSpec.ofChange datesetFormatsSpec)) datesetFormatsCard

/-- THE SECOND FORM's CARD OF 'pandectlaw02.DatesetFormats'. -/
def datesetFormatsUptoCard : Claim7 := { stood := { row := datesetFormatsUptoRow, standIns := [], harness := (true, "facd25979f25828fe807d61bfad926a49f1eb0c0a6063d6ecf972d79fff04975"), looks := true }, kinds := [], alts := [], laidByText := true, laidKinds := [.data, .data, .data, .data, .sentinel, .sentinel, .pinned], laidTests := true, laidLooks := .later }
def DatesetFormatsUptoCardSaid : Prop := Claim7.holds Tryz.pinned (.plain (OpenSpec.upto datesetFormatsSpec)) datesetFormatsUptoCard
end Rows
end Go.Proofs.YthkbdabfjfffjaaGreatDoor
