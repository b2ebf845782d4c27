/-
  DERIVED. GIVEN WITH THE SEED: THE CARDS: each row of YtepmaobfbfbecaaDoorRows.lean that lists a variable, with what it lists TIED to the program's text (the seventh form; the later family's looks); each row that meets fmt, with fmt's text TOLD by the authors' own Lean function (tested against real Go, not proved from fmt's source: count such statements apart). THE CARD IS WHAT COUNTS. Prove the row's statement (the work); the ties are given (YtepmaobfbfbecaaDoorTie.lean); close each card by the builder's one call (the guide's Derived/Test/ToyasCard.lean, 'card_holds'). Laid BY PROGRAM, IN A SANDBOX (cutbox-door.mjs). By AI agents, Wed Nov 11 2026. No macro, syntax, notation, axiom, sorry.
-/
import Derived.Test.YtepmaobfbfbecaaDoorRows
import GoSem.ClaimSeven
namespace Go.Proofs.YtepmaobfbfbecaaDoor
namespace Rows

/-- THE TIED CARD OF 'pandectlaw02.DatesetSplits'. -/
def datesetSplitsCard : Claim7 := { stood := { row := datesetSplitsRow, standIns := [], harness := (true, "9d88ad56f37abf9fd724707b7934ebc1c6fc2bea79141f6852852254ad2bf255"), looks := false }, kinds := [], alts := [], laidByText := true, laidKinds := [.data, .data, .data], laidTests := true, laidLooks := .later }
def DatesetSplitsCardSaid : Prop := Claim7.holds Tryd.pinned (.plain (OpenSpec.ofChange datesetSplitsSpec)) datesetSplitsCard

/-- THE TIED CARD OF 'pandectlaw02.DatesetOperations'. -/
def datesetOperationsCard : Claim7 := { stood := { row := datesetOperationsRow, standIns := [], harness := (true, "9d88ad56f37abf9fd724707b7934ebc1c6fc2bea79141f6852852254ad2bf255"), looks := false }, kinds := [], alts := [], laidByText := true, laidKinds := [.data, .data, .data], laidTests := true, laidLooks := .later }
def DatesetOperationsCardSaid : Prop := Claim7.holds Tryd.pinned (.plain (OpenSpec.ofChange datesetOperationsSpec)) datesetOperationsCard

/-- THE TIED CARD OF 'pandectlaw02.DatesetAlgebra'. -/
def datesetAlgebraCard : Claim7 := { stood := { row := datesetAlgebraRow, standIns := [], harness := (true, "9d88ad56f37abf9fd724707b7934ebc1c6fc2bea79141f6852852254ad2bf255"), looks := false }, kinds := [], alts := [], laidByText := true, laidKinds := [.data, .data, .data], laidTests := true, laidLooks := .later }
def DatesetAlgebraCardSaid : Prop := Claim7.holds Tryd.pinned (.plain (OpenSpec.ofChange datesetAlgebraSpec)) datesetAlgebraCard

/-- THE TIED CARD OF 'pandectlaw02.DatesetSizes'. -/
def datesetSizesCard : Claim7 := { stood := { row := datesetSizesRow, standIns := [], harness := (true, "9d88ad56f37abf9fd724707b7934ebc1c6fc2bea79141f6852852254ad2bf255"), looks := false }, kinds := [], alts := [], laidByText := true, laidKinds := [.data, .data, .data], laidTests := true, laidLooks := .later }
def DatesetSizesCardSaid : Prop := Claim7.holds Tryd.pinned (.plain (OpenSpec.ofChange datesetSizesSpec)) datesetSizesCard

/-- THE TIED CARD OF 'pandectlaw02.DatesetBoundaries'. -/
def datesetBoundariesCard : Claim7 := { stood := { row := datesetBoundariesRow, standIns := [], harness := (true, "9d88ad56f37abf9fd724707b7934ebc1c6fc2bea79141f6852852254ad2bf255"), looks := false }, kinds := [], alts := [], laidByText := true, laidKinds := [.data, .data, .data], laidTests := true, laidLooks := .later }
def DatesetBoundariesCardSaid : Prop := Claim7.holds Tryd.pinned (.plain (OpenSpec.ofChange datesetBoundariesSpec)) datesetBoundariesCard

/-- THE TIED CARD OF 'pandectlaw02.DatesetBasics'. -/
def datesetBasicsCard : Claim7 := { stood := { row := datesetBasicsRow, standIns := [], harness := (true, "9d88ad56f37abf9fd724707b7934ebc1c6fc2bea79141f6852852254ad2bf255"), looks := false }, kinds := [], alts := [], laidByText := true, laidKinds := [.data, .data, .data], laidTests := true, laidLooks := .later }
def DatesetBasicsCardSaid : Prop := Claim7.holds Tryd.pinned (.plain (OpenSpec.ofChange datesetBasicsSpec)) datesetBasicsCard

/-- THE SECOND FORM's CARD OF 'pandectlaw02.DatesetSplits'. -/
def datesetSplitsUptoCard : Claim7 := { stood := { row := datesetSplitsUptoRow, standIns := [], harness := (true, "9d88ad56f37abf9fd724707b7934ebc1c6fc2bea79141f6852852254ad2bf255"), looks := false }, kinds := [], alts := [], laidByText := true, laidKinds := [.data, .data, .data], laidTests := true, laidLooks := .later }
def DatesetSplitsUptoCardSaid : Prop := Claim7.holds Tryd.pinned (.plain (OpenSpec.upto datesetSplitsSpec)) datesetSplitsUptoCard

/-- THE SECOND FORM's CARD OF 'pandectlaw02.DatesetOperations'. -/
def datesetOperationsUptoCard : Claim7 := { stood := { row := datesetOperationsUptoRow, standIns := [], harness := (true, "9d88ad56f37abf9fd724707b7934ebc1c6fc2bea79141f6852852254ad2bf255"), looks := false }, kinds := [], alts := [], laidByText := true, laidKinds := [.data, .data, .data], laidTests := true, laidLooks := .later }
def DatesetOperationsUptoCardSaid : Prop := Claim7.holds Tryd.pinned (.plain (OpenSpec.upto datesetOperationsSpec)) datesetOperationsUptoCard

/-- THE SECOND FORM's CARD OF 'pandectlaw02.DatesetAlgebra'. -/
def datesetAlgebraUptoCard : Claim7 := { stood := { row := datesetAlgebraUptoRow, standIns := [], harness := (true, "9d88ad56f37abf9fd724707b7934ebc1c6fc2bea79141f6852852254ad2bf255"), looks := false }, kinds := [], alts := [], laidByText := true, laidKinds := [.data, .data, .data], laidTests := true, laidLooks := .later }
def DatesetAlgebraUptoCardSaid : Prop := Claim7.holds Tryd.pinned (.plain (OpenSpec.upto datesetAlgebraSpec)) datesetAlgebraUptoCard

/-- THE SECOND FORM's CARD OF 'pandectlaw02.DatesetSizes'. -/
def datesetSizesUptoCard : Claim7 := { stood := { row := datesetSizesUptoRow, standIns := [], harness := (true, "9d88ad56f37abf9fd724707b7934ebc1c6fc2bea79141f6852852254ad2bf255"), looks := false }, kinds := [], alts := [], laidByText := true, laidKinds := [.data, .data, .data], laidTests := true, laidLooks := .later }
def DatesetSizesUptoCardSaid : Prop := Claim7.holds Tryd.pinned (.plain (OpenSpec.upto datesetSizesSpec)) datesetSizesUptoCard

/-- THE SECOND FORM's CARD OF 'pandectlaw02.DatesetBoundaries'. -/
def datesetBoundariesUptoCard : Claim7 := { stood := { row := datesetBoundariesUptoRow, standIns := [], harness := (true, "9d88ad56f37abf9fd724707b7934ebc1c6fc2bea79141f6852852254ad2bf255"), looks := false }, kinds := [], alts := [], laidByText := true, laidKinds := [.data, .data, .data], laidTests := true, laidLooks := .later }
def DatesetBoundariesUptoCardSaid : Prop := Claim7.holds Tryd.pinned (.plain (OpenSpec.upto datesetBoundariesSpec)) datesetBoundariesUptoCard

/-- THE SECOND FORM's CARD OF 'pandectlaw02.DatesetBasics'. -/
def datesetBasicsUptoCard : Claim7 := { stood := { row := datesetBasicsUptoRow, standIns := [], harness := (true, "9d88ad56f37abf9fd724707b7934ebc1c6fc2bea79141f6852852254ad2bf255"), looks := false }, kinds := [], alts := [], laidByText := true, laidKinds := [.data, .data, .data], laidTests := true, laidLooks := .later }
def DatesetBasicsUptoCardSaid : Prop := Claim7.holds Tryd.pinned (.plain (OpenSpec.upto datesetBasicsSpec)) datesetBasicsUptoCard
end Rows
end Go.Proofs.YtepmaobfbfbecaaDoor
