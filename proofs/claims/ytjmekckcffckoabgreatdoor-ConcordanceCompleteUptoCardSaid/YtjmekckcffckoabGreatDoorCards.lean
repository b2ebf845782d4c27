/-
  DERIVED. GIVEN WITH THE SEED: THE CARDS: each row of YtjmekckcffckoabGreatDoorRows.lean that lists a variable, with what it lists TIED to the program's text (the seventh form; the later family's looks); each row that meets fmt, with fmt's text TOLD by the authors' own Lean function (tested against real Go, not proved from fmt's source: count such statements apart). THE CARD IS WHAT COUNTS. Prove the row's statement (the work); the ties are given (YtjmekckcffckoabGreatDoorTie.lean); close each card by the builder's one call (the guide's Derived/Test/ToyasCard.lean, 'card_holds'). Laid BY PROGRAM, IN A SANDBOX (cutbox-door.mjs). By AI agents, Wed Nov 11 2026. No macro, syntax, notation, axiom, sorry.
-/
import Derived.Test.YtjmekckcffckoabGreatDoorRows
import GoSem.ClaimSeven
namespace Go.Proofs.YtjmekckcffckoabGreatDoor
namespace Rows

/-- THE TIED CARD OF 'pandectlaw56.ConcordanceRanges'. -/
def concordanceRangesCard : Claim7 := { stood := { row := concordanceRangesRow, standIns := [], harness := (true, "cbaef2155dfd86b5b4dfa18f5995988728742fc48e2dfb28b0f92763c6ff89f6"), looks := false }, kinds := [], alts := [], laidByText := true, laidKinds := [.data, .data, .data, .data, .pinned], laidTests := true, laidLooks := .later }
def ConcordanceRangesCardSaid : Prop := Claim7.holds Tryz.pinned (.plain (OpenSpec.ofChange concordanceRangesSpec)) concordanceRangesCard

/-- THE TIED CARD OF 'pandectlaw56.ConcordanceIndex'. -/
def concordanceIndexCard : Claim7 := { stood := { row := concordanceIndexRow, standIns := [], harness := (true, "cbaef2155dfd86b5b4dfa18f5995988728742fc48e2dfb28b0f92763c6ff89f6"), looks := false }, kinds := [], alts := [], laidByText := true, laidKinds := [.data, .data, .data, .data, .pinned], laidTests := true, laidLooks := .later }
def ConcordanceIndexCardSaid : Prop := Claim7.holds Tryz.pinned (.plain (OpenSpec.ofChange concordanceIndexSpec)) concordanceIndexCard

/-- THE TIED CARD OF 'pandectlaw56.ConcordanceComplete'. -/
def concordanceCompleteCard : Claim7 := { stood := { row := concordanceCompleteRow, standIns := [], harness := (true, "cbaef2155dfd86b5b4dfa18f5995988728742fc48e2dfb28b0f92763c6ff89f6"), looks := false }, kinds := [], alts := [], laidByText := true, laidKinds := [.data, .data, .data, .data, .pinned], laidTests := true, laidLooks := .later }
def ConcordanceCompleteCardSaid : Prop := Claim7.holds Tryz.pinned (.plain (OpenSpec.ofChange concordanceCompleteSpec)) concordanceCompleteCard

/-- THE TIED CARD OF 'pandectlaw56.ConcordancePaginated'. -/
def concordancePaginatedCard : Claim7 := { stood := { row := concordancePaginatedRow, standIns := [], harness := (true, "cbaef2155dfd86b5b4dfa18f5995988728742fc48e2dfb28b0f92763c6ff89f6"), looks := false }, kinds := [], alts := [], laidByText := true, laidKinds := [.data, .data, .data, .data, .data, .widerDeep, .pinned], laidTests := true, laidLooks := .later }
def ConcordancePaginatedCardSaid : Prop := Claim7.holds Tryz.pinned (.plain (OpenSpec.ofChange concordancePaginatedSpec)) concordancePaginatedCard

/-- THE SECOND FORM's CARD OF 'pandectlaw56.ConcordanceRanges'. -/
def concordanceRangesUptoCard : Claim7 := { stood := { row := concordanceRangesUptoRow, standIns := [], harness := (true, "cbaef2155dfd86b5b4dfa18f5995988728742fc48e2dfb28b0f92763c6ff89f6"), looks := false }, kinds := [], alts := [], laidByText := true, laidKinds := [.data, .data, .data, .data, .pinned], laidTests := true, laidLooks := .later }
def ConcordanceRangesUptoCardSaid : Prop := Claim7.holds Tryz.pinned (.plain (OpenSpec.upto concordanceRangesSpec)) concordanceRangesUptoCard

/-- THE SECOND FORM's CARD OF 'pandectlaw56.ConcordanceIndex'. -/
def concordanceIndexUptoCard : Claim7 := { stood := { row := concordanceIndexUptoRow, standIns := [], harness := (true, "cbaef2155dfd86b5b4dfa18f5995988728742fc48e2dfb28b0f92763c6ff89f6"), looks := false }, kinds := [], alts := [], laidByText := true, laidKinds := [.data, .data, .data, .data, .pinned], laidTests := true, laidLooks := .later }
def ConcordanceIndexUptoCardSaid : Prop := Claim7.holds Tryz.pinned (.plain (OpenSpec.upto concordanceIndexSpec)) concordanceIndexUptoCard

/-- THE SECOND FORM's CARD OF 'pandectlaw56.ConcordanceComplete'. -/
def concordanceCompleteUptoCard : Claim7 := { stood := { row := concordanceCompleteUptoRow, standIns := [], harness := (true, "cbaef2155dfd86b5b4dfa18f5995988728742fc48e2dfb28b0f92763c6ff89f6"), looks := false }, kinds := [], alts := [], laidByText := true, laidKinds := [.data, .data, .data, .data, .pinned], laidTests := true, laidLooks := .later }
def ConcordanceCompleteUptoCardSaid : Prop := Claim7.holds Tryz.pinned (.plain (OpenSpec.upto concordanceCompleteSpec)) concordanceCompleteUptoCard

/-- THE SECOND FORM's CARD OF 'pandectlaw56.ConcordancePaginated'. -/
def concordancePaginatedUptoCard : Claim7 := { stood := { row := concordancePaginatedUptoRow, standIns := [], harness := (true, "cbaef2155dfd86b5b4dfa18f5995988728742fc48e2dfb28b0f92763c6ff89f6"), looks := false }, kinds := [], alts := [], laidByText := true, laidKinds := [.data, .data, .data, .data, .data, .widerDeep, .pinned], laidTests := true, laidLooks := .later }
def ConcordancePaginatedUptoCardSaid : Prop := Claim7.holds Tryz.pinned (.plain (OpenSpec.upto concordancePaginatedSpec)) concordancePaginatedUptoCard
end Rows
end Go.Proofs.YtjmekckcffckoabGreatDoor
