/-
  DERIVED. GIVEN WITH THE SEED: THE CARDS: each row of YtcgdjembdjdlhaaGreatDoorRows.lean that lists a variable, with what it lists TIED to the program's text (the seventh form; the later family's looks); each row that meets fmt, with fmt's text TOLD by the authors' own Lean function (tested against real Go, not proved from fmt's source: count such statements apart). THE CARD IS WHAT COUNTS. Prove the row's statement (the work); the ties are given (YtcgdjembdjdlhaaGreatDoorTie.lean); close each card by the builder's one call (the guide's Derived/Test/ToyasCard.lean, 'card_holds'). Laid BY PROGRAM, IN A SANDBOX (cutbox-door.mjs). By AI agents, Wed Nov 11 2026. No macro, syntax, notation, axiom, sorry.
-/
import Derived.Test.YtcgdjembdjdlhaaGreatDoorRows
import GoSem.ClaimSeven
namespace Go.Proofs.YtcgdjembdjdlhaaGreatDoor
namespace Rows

/-- THE TIED CARD OF 'pandectlaw55.PaginateBounds'. -/
def paginateBoundsCard : Claim7 := { stood := { row := paginateBoundsRow, standIns := [], harness := (true, "ae68894a4ad01619b79b57167fcdac7191a5d53428ef1da6893c63c0d7e6a6c8"), looks := false }, kinds := [], alts := [], laidByText := true, laidKinds := [.data, .widerDeep], laidTests := true, laidLooks := .later }
def PaginateBoundsCardSaid : Prop := Claim7.holds Tryz.pinned (.plain (OpenSpec.ofChange paginateBoundsSpec)) paginateBoundsCard

/-- THE TIED CARD OF 'pandectlaw55.PaginateKeepTogether'. -/
def paginateKeepTogetherCard : Claim7 := { stood := { row := paginateKeepTogetherRow, standIns := [], harness := (true, "ae68894a4ad01619b79b57167fcdac7191a5d53428ef1da6893c63c0d7e6a6c8"), looks := false }, kinds := [], alts := [], laidByText := true, laidKinds := [.data, .widerDeep], laidTests := true, laidLooks := .later }
def PaginateKeepTogetherCardSaid : Prop := Claim7.holds Tryz.pinned (.plain (OpenSpec.ofChange paginateKeepTogetherSpec)) paginateKeepTogetherCard

/-- THE TIED CARD OF 'pandectlaw55.PaginateLines'. -/
def paginateLinesCard : Claim7 := { stood := { row := paginateLinesRow, standIns := [], harness := (true, "ae68894a4ad01619b79b57167fcdac7191a5d53428ef1da6893c63c0d7e6a6c8"), looks := false }, kinds := [], alts := [], laidByText := true, laidKinds := [.data, .widerDeep], laidTests := true, laidLooks := .later }
def PaginateLinesCardSaid : Prop := Claim7.holds Tryz.pinned (.plain (OpenSpec.ofChange paginateLinesSpec)) paginateLinesCard

/-- THE TIED CARD OF 'pandectlaw55.PaginateSinglePage'. -/
def paginateSinglePageCard : Claim7 := { stood := { row := paginateSinglePageRow, standIns := [], harness := (true, "ae68894a4ad01619b79b57167fcdac7191a5d53428ef1da6893c63c0d7e6a6c8"), looks := false }, kinds := [], alts := [], laidByText := true, laidKinds := [.data, .widerDeep], laidTests := true, laidLooks := .later }
def PaginateSinglePageCardSaid : Prop := Claim7.holds Tryz.pinned (.plain (OpenSpec.ofChange paginateSinglePageSpec)) paginateSinglePageCard

/-- THE TIED CARD OF 'pandectlaw55.PaginateComplete'. -/
def paginateCompleteCard : Claim7 := { stood := { row := paginateCompleteRow, standIns := [], harness := (true, "ae68894a4ad01619b79b57167fcdac7191a5d53428ef1da6893c63c0d7e6a6c8"), looks := false }, kinds := [], alts := [], laidByText := true, laidKinds := [.data, .widerDeep], laidTests := true, laidLooks := .later }
def PaginateCompleteCardSaid : Prop := Claim7.holds Tryz.pinned (.plain (OpenSpec.ofChange paginateCompleteSpec)) paginateCompleteCard

/-- THE TIED CARD OF 'pandectlaw56.ConcordancePaginated'. -/
def concordancePaginatedCard : Claim7 := { stood := { row := concordancePaginatedRow, standIns := [], harness := (true, "ae68894a4ad01619b79b57167fcdac7191a5d53428ef1da6893c63c0d7e6a6c8"), looks := false }, kinds := [], alts := [], laidByText := true, laidKinds := [.data, .data, .data, .data, .data, .widerDeep, .pinned], laidTests := true, laidLooks := .later }
def ConcordancePaginatedCardSaid : Prop := Claim7.holds Tryz.pinned (.plain (OpenSpec.ofChange concordancePaginatedSpec)) concordancePaginatedCard

/-- THE SECOND FORM's CARD OF 'pandectlaw55.PaginateBounds'. -/
def paginateBoundsUptoCard : Claim7 := { stood := { row := paginateBoundsUptoRow, standIns := [], harness := (true, "ae68894a4ad01619b79b57167fcdac7191a5d53428ef1da6893c63c0d7e6a6c8"), looks := false }, kinds := [], alts := [], laidByText := true, laidKinds := [.data, .widerDeep], laidTests := true, laidLooks := .later }
def PaginateBoundsUptoCardSaid : Prop := Claim7.holds Tryz.pinned (.plain (OpenSpec.upto paginateBoundsSpec)) paginateBoundsUptoCard

/-- THE SECOND FORM's CARD OF 'pandectlaw55.PaginateKeepTogether'. -/
def paginateKeepTogetherUptoCard : Claim7 := { stood := { row := paginateKeepTogetherUptoRow, standIns := [], harness := (true, "ae68894a4ad01619b79b57167fcdac7191a5d53428ef1da6893c63c0d7e6a6c8"), looks := false }, kinds := [], alts := [], laidByText := true, laidKinds := [.data, .widerDeep], laidTests := true, laidLooks := .later }
def PaginateKeepTogetherUptoCardSaid : Prop := Claim7.holds Tryz.pinned (.plain (OpenSpec.upto paginateKeepTogetherSpec)) paginateKeepTogetherUptoCard

/-- THE SECOND FORM's CARD OF 'pandectlaw55.PaginateLines'. -/
def paginateLinesUptoCard : Claim7 := { stood := { row := paginateLinesUptoRow, standIns := [], harness := (true, "ae68894a4ad01619b79b57167fcdac7191a5d53428ef1da6893c63c0d7e6a6c8"), looks := false }, kinds := [], alts := [], laidByText := true, laidKinds := [.data, .widerDeep], laidTests := true, laidLooks := .later }
def PaginateLinesUptoCardSaid : Prop := Claim7.holds Tryz.pinned (.plain (OpenSpec.upto paginateLinesSpec)) paginateLinesUptoCard

/-- THE SECOND FORM's CARD OF 'pandectlaw55.PaginateSinglePage'. -/
def paginateSinglePageUptoCard : Claim7 := { stood := { row := paginateSinglePageUptoRow, standIns := [], harness := (true, "ae68894a4ad01619b79b57167fcdac7191a5d53428ef1da6893c63c0d7e6a6c8"), looks := false }, kinds := [], alts := [], laidByText := true, laidKinds := [.data, .widerDeep], laidTests := true, laidLooks := .later }
def PaginateSinglePageUptoCardSaid : Prop := Claim7.holds Tryz.pinned (.plain (OpenSpec.upto paginateSinglePageSpec)) paginateSinglePageUptoCard

/-- THE SECOND FORM's CARD OF 'pandectlaw55.PaginateComplete'. -/
def paginateCompleteUptoCard : Claim7 := { stood := { row := paginateCompleteUptoRow, standIns := [], harness := (true, "ae68894a4ad01619b79b57167fcdac7191a5d53428ef1da6893c63c0d7e6a6c8"), looks := false }, kinds := [], alts := [], laidByText := true, laidKinds := [.data, .widerDeep], laidTests := true, laidLooks := .later }
def PaginateCompleteUptoCardSaid : Prop := Claim7.holds Tryz.pinned (.plain (OpenSpec.upto paginateCompleteSpec)) paginateCompleteUptoCard

/-- THE SECOND FORM's CARD OF 'pandectlaw56.ConcordancePaginated'. -/
def concordancePaginatedUptoCard : Claim7 := { stood := { row := concordancePaginatedUptoRow, standIns := [], harness := (true, "ae68894a4ad01619b79b57167fcdac7191a5d53428ef1da6893c63c0d7e6a6c8"), looks := false }, kinds := [], alts := [], laidByText := true, laidKinds := [.data, .data, .data, .data, .data, .widerDeep, .pinned], laidTests := true, laidLooks := .later }
def ConcordancePaginatedUptoCardSaid : Prop := Claim7.holds Tryz.pinned (.plain (OpenSpec.upto concordancePaginatedSpec)) concordancePaginatedUptoCard
end Rows
end Go.Proofs.YtcgdjembdjdlhaaGreatDoor
