/-
  DERIVED. GIVEN WITH THE SEED: THE CARDS: each row of YtihfbefagcdpmaaDoorRows.lean that lists a variable, with what it lists TIED to the program's text (the seventh form; the later family's looks); each row that meets fmt, with fmt's text TOLD by the authors' own Lean function (tested against real Go, not proved from fmt's source: count such statements apart). THE CARD IS WHAT COUNTS. Prove the row's statement (the work); the ties are given (YtihfbefagcdpmaaDoorTie.lean); close each card by the builder's one call (the guide's Derived/Test/ToyasCard.lean, 'card_holds'). Laid BY PROGRAM, IN A SANDBOX (cutbox-door.mjs). By AI agents, Wed Nov 11 2026. No macro, syntax, notation, axiom, sorry.
-/
import Derived.Test.YtihfbefagcdpmaaDoorRows
import GoSem.ClaimSeven
namespace Go.Proofs.YtihfbefagcdpmaaDoor
namespace Rows

/-- THE TIED CARD OF 'pandectlaw03.LabelSplit'. -/
def labelSplitCard : Claim7 := { stood := { row := labelSplitRow, standIns := [], harness := (true, "e4ec87243e911281f3871deb0548245c93c0b24906ad579978bee396cd06f30a"), looks := true }, kinds := [], alts := [], laidByText := true, laidKinds := [.data, .data, .data, .sentinel, .sentinel], laidTests := true, laidLooks := .later }
def LabelSplitCardSaid : Prop := Claim7.holds Tryd.pinned (.plain (OpenSpec.ofChange labelSplitSpec)) labelSplitCard

/-- THE TIED CARD OF 'pandectlaw03.LabelCompare'. -/
def labelCompareCard : Claim7 := { stood := { row := labelCompareRow, standIns := [], harness := (true, "e4ec87243e911281f3871deb0548245c93c0b24906ad579978bee396cd06f30a"), looks := true }, kinds := [], alts := [], laidByText := true, laidKinds := [.data, .data, .data, .sentinel, .sentinel], laidTests := true, laidLooks := .later }
def LabelCompareCardSaid : Prop := Claim7.holds Tryd.pinned (.plain (OpenSpec.ofChange labelCompareSpec)) labelCompareCard

/-- THE TIED CARD OF 'pandectlaw03.LabelNext'. -/
def labelNextCard : Claim7 := { stood := { row := labelNextRow, standIns := [], harness := (true, "e4ec87243e911281f3871deb0548245c93c0b24906ad579978bee396cd06f30a"), looks := true }, kinds := [], alts := [], laidByText := true, laidKinds := [.data, .data, .data, .sentinel, .sentinel], laidTests := true, laidLooks := .later }
def LabelNextCardSaid : Prop := Claim7.holds Tryd.pinned (.plain (OpenSpec.ofChange labelNextSpec)) labelNextCard

/-- THE TIED CARD OF 'pandectlaw03.LabelBetween'. -/
def labelBetweenCard : Claim7 := { stood := { row := labelBetweenRow, standIns := [], harness := (true, "e4ec87243e911281f3871deb0548245c93c0b24906ad579978bee396cd06f30a"), looks := true }, kinds := [], alts := [], laidByText := true, laidKinds := [.data, .data, .data, .sentinel, .sentinel], laidTests := true, laidLooks := .later }
def LabelBetweenCardSaid : Prop := Claim7.holds Tryd.pinned (.plain (OpenSpec.ofChange labelBetweenSpec)) labelBetweenCard

/-- THE TIED CARD OF 'pandectlaw03.LabelBetweenMinimal'. -/
def labelBetweenMinimalCard : Claim7 := { stood := { row := labelBetweenMinimalRow, standIns := [], harness := (true, "e4ec87243e911281f3871deb0548245c93c0b24906ad579978bee396cd06f30a"), looks := true }, kinds := [], alts := [], laidByText := true, laidKinds := [.data, .data, .data, .sentinel, .sentinel], laidTests := true, laidLooks := .later }
def LabelBetweenMinimalCardSaid : Prop := Claim7.holds Tryd.pinned (.plain (OpenSpec.ofChange labelBetweenMinimalSpec)) labelBetweenMinimalCard

/-- THE TIED CARD OF 'pandectlaw03.LabelNextFree'. -/
def labelNextFreeCard : Claim7 := { stood := { row := labelNextFreeRow, standIns := [], harness := (true, "e4ec87243e911281f3871deb0548245c93c0b24906ad579978bee396cd06f30a"), looks := true }, kinds := [], alts := [], laidByText := true, laidKinds := [.data, .data, .data, .sentinel, .sentinel], laidTests := true, laidLooks := .later }
def LabelNextFreeCardSaid : Prop := Claim7.holds Tryd.pinned (.plain (OpenSpec.ofChange labelNextFreeSpec)) labelNextFreeCard

/-- THE TIED CARD OF 'pandectlaw03.LabelSort'. -/
def labelSortCard : Claim7 := { stood := { row := labelSortRow, standIns := [], harness := (true, "e4ec87243e911281f3871deb0548245c93c0b24906ad579978bee396cd06f30a"), looks := true }, kinds := [], alts := [], laidByText := true, laidKinds := [.data, .data, .data, .sentinel, .sentinel], laidTests := true, laidLooks := .later }
def LabelSortCardSaid : Prop := Claim7.holds Tryd.pinned (.plain (OpenSpec.ofChange labelSortSpec)) labelSortCard

/-- THE SECOND FORM's CARD OF 'pandectlaw03.LabelSplit'. -/
def labelSplitUptoCard : Claim7 := { stood := { row := labelSplitUptoRow, standIns := [], harness := (true, "e4ec87243e911281f3871deb0548245c93c0b24906ad579978bee396cd06f30a"), looks := true }, kinds := [], alts := [], laidByText := true, laidKinds := [.data, .data, .data, .sentinel, .sentinel], laidTests := true, laidLooks := .later }
def LabelSplitUptoCardSaid : Prop := Claim7.holds Tryd.pinned (.plain (OpenSpec.upto labelSplitSpec)) labelSplitUptoCard

/-- THE SECOND FORM's CARD OF 'pandectlaw03.LabelCompare'. -/
def labelCompareUptoCard : Claim7 := { stood := { row := labelCompareUptoRow, standIns := [], harness := (true, "e4ec87243e911281f3871deb0548245c93c0b24906ad579978bee396cd06f30a"), looks := true }, kinds := [], alts := [], laidByText := true, laidKinds := [.data, .data, .data, .sentinel, .sentinel], laidTests := true, laidLooks := .later }
def LabelCompareUptoCardSaid : Prop := Claim7.holds Tryd.pinned (.plain (OpenSpec.upto labelCompareSpec)) labelCompareUptoCard

/-- THE SECOND FORM's CARD OF 'pandectlaw03.LabelNext'. -/
def labelNextUptoCard : Claim7 := { stood := { row := labelNextUptoRow, standIns := [], harness := (true, "e4ec87243e911281f3871deb0548245c93c0b24906ad579978bee396cd06f30a"), looks := true }, kinds := [], alts := [], laidByText := true, laidKinds := [.data, .data, .data, .sentinel, .sentinel], laidTests := true, laidLooks := .later }
def LabelNextUptoCardSaid : Prop := Claim7.holds Tryd.pinned (.plain (OpenSpec.upto labelNextSpec)) labelNextUptoCard

/-- THE SECOND FORM's CARD OF 'pandectlaw03.LabelBetween'. -/
def labelBetweenUptoCard : Claim7 := { stood := { row := labelBetweenUptoRow, standIns := [], harness := (true, "e4ec87243e911281f3871deb0548245c93c0b24906ad579978bee396cd06f30a"), looks := true }, kinds := [], alts := [], laidByText := true, laidKinds := [.data, .data, .data, .sentinel, .sentinel], laidTests := true, laidLooks := .later }
def LabelBetweenUptoCardSaid : Prop := Claim7.holds Tryd.pinned (.plain (OpenSpec.upto labelBetweenSpec)) labelBetweenUptoCard

/-- THE SECOND FORM's CARD OF 'pandectlaw03.LabelBetweenMinimal'. -/
def labelBetweenMinimalUptoCard : Claim7 := { stood := { row := labelBetweenMinimalUptoRow, standIns := [], harness := (true, "e4ec87243e911281f3871deb0548245c93c0b24906ad579978bee396cd06f30a"), looks := true }, kinds := [], alts := [], laidByText := true, laidKinds := [.data, .data, .data, .sentinel, .sentinel], laidTests := true, laidLooks := .later }
def LabelBetweenMinimalUptoCardSaid : Prop := Claim7.holds Tryd.pinned (.plain (OpenSpec.upto labelBetweenMinimalSpec)) labelBetweenMinimalUptoCard

/-- THE SECOND FORM's CARD OF 'pandectlaw03.LabelNextFree'. -/
def labelNextFreeUptoCard : Claim7 := { stood := { row := labelNextFreeUptoRow, standIns := [], harness := (true, "e4ec87243e911281f3871deb0548245c93c0b24906ad579978bee396cd06f30a"), looks := true }, kinds := [], alts := [], laidByText := true, laidKinds := [.data, .data, .data, .sentinel, .sentinel], laidTests := true, laidLooks := .later }
def LabelNextFreeUptoCardSaid : Prop := Claim7.holds Tryd.pinned (.plain (OpenSpec.upto labelNextFreeSpec)) labelNextFreeUptoCard

/-- THE SECOND FORM's CARD OF 'pandectlaw03.LabelSort'. -/
def labelSortUptoCard : Claim7 := { stood := { row := labelSortUptoRow, standIns := [], harness := (true, "e4ec87243e911281f3871deb0548245c93c0b24906ad579978bee396cd06f30a"), looks := true }, kinds := [], alts := [], laidByText := true, laidKinds := [.data, .data, .data, .sentinel, .sentinel], laidTests := true, laidLooks := .later }
def LabelSortUptoCardSaid : Prop := Claim7.holds Tryd.pinned (.plain (OpenSpec.upto labelSortSpec)) labelSortUptoCard
end Rows
end Go.Proofs.YtihfbefagcdpmaaDoor
