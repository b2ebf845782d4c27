/-
  DERIVED. GIVEN WITH THE SEED: THE CARDS: each row of YtldogpfookkbaaaGreatDoorRows.lean that lists a variable, with what it lists TIED to the program's text (the seventh form; the later family's looks); each row that meets fmt, with fmt's text TOLD by the authors' own Lean function (tested against real Go, not proved from fmt's source: count such statements apart). THE CARD IS WHAT COUNTS. Prove the row's statement (the work); the ties are given (YtldogpfookkbaaaGreatDoorTie.lean); close each card by the builder's one call (the guide's Derived/Test/ToyasCard.lean, 'card_holds'). Laid BY PROGRAM, IN A SANDBOX (cutbox-door.mjs). By AI agents, Wed Nov 11 2026. No macro, syntax, notation, axiom, sorry.
-/
import Derived.Test.YtldogpfookkbaaaGreatDoorRows
import GoSem.ClaimSeven
namespace Go.Proofs.YtldogpfookkbaaaGreatDoor
namespace Rows

/-- THE TIED CARD OF 'pandectlaw38.OrdersetOrders'. -/
def ordersetOrdersCard : Claim7 := { stood := { row := ordersetOrdersRow, standIns := [], harness := (true, "e9003954af7f6ae003807f166150e18c621f55273e47ae2c001a39360f29af51"), looks := false }, kinds := [], alts := [], laidByText := true, laidKinds := [.data, .data, .widerDeep, .funcs, .pinned], laidTests := true, laidLooks := .later }
def OrdersetOrdersCardSaid : Prop := Claim7.holds Tryz.pinned (.plain (OpenSpec.ofChange ordersetOrdersSpec)) ordersetOrdersCard

/-- THE TIED CARD OF 'pandectlaw38.OrdersetRespects'. -/
def ordersetRespectsCard : Claim7 := { stood := { row := ordersetRespectsRow, standIns := [], harness := (true, "e9003954af7f6ae003807f166150e18c621f55273e47ae2c001a39360f29af51"), looks := false }, kinds := [], alts := [], laidByText := true, laidKinds := [.data, .data, .widerDeep, .funcs, .pinned], laidTests := true, laidLooks := .later }
def OrdersetRespectsCardSaid : Prop := Claim7.holds Tryz.pinned (.plain (OpenSpec.ofChange ordersetRespectsSpec)) ordersetRespectsCard

/-- THE TIED CARD OF 'pandectlaw38.OrdersetPairs'. -/
def ordersetPairsCard : Claim7 := { stood := { row := ordersetPairsRow, standIns := [], harness := (true, "e9003954af7f6ae003807f166150e18c621f55273e47ae2c001a39360f29af51"), looks := false }, kinds := [], alts := [], laidByText := true, laidKinds := [.data, .data, .widerDeep, .funcs, .pinned], laidTests := true, laidLooks := .later }
def OrdersetPairsCardSaid : Prop := Claim7.holds Tryz.pinned (.plain (OpenSpec.ofChange ordersetPairsSpec)) ordersetPairsCard

/-- THE TIED CARD OF 'pandectlaw38.OrdersetMonotonicity'. -/
def ordersetMonotonicityCard : Claim7 := { stood := { row := ordersetMonotonicityRow, standIns := [], harness := (true, "e9003954af7f6ae003807f166150e18c621f55273e47ae2c001a39360f29af51"), looks := false }, kinds := [], alts := [], laidByText := true, laidKinds := [.data, .data, .widerDeep, .funcs, .pinned], laidTests := true, laidLooks := .later }
def OrdersetMonotonicityCardSaid : Prop := Claim7.holds Tryz.pinned (.plain (OpenSpec.ofChange ordersetMonotonicitySpec)) ordersetMonotonicityCard

/-- THE TIED CARD OF 'pandectlaw38.OrdersetMinimum'. -/
def ordersetMinimumCard : Claim7 := { stood := { row := ordersetMinimumRow, standIns := [], harness := (true, "e9003954af7f6ae003807f166150e18c621f55273e47ae2c001a39360f29af51"), looks := false }, kinds := [], alts := [], laidByText := true, laidKinds := [.data, .data, .widerDeep, .funcs, .pinned], laidTests := true, laidLooks := .later }
def OrdersetMinimumCardSaid : Prop := Claim7.holds Tryz.pinned (.plain (OpenSpec.ofChange ordersetMinimumSpec)) ordersetMinimumCard

/-- THE TIED CARD OF 'pandectlaw38.OrdersetLimit'. -/
def ordersetLimitCard : Claim7 := { stood := { row := ordersetLimitRow, standIns := [], harness := (true, "e9003954af7f6ae003807f166150e18c621f55273e47ae2c001a39360f29af51"), looks := false }, kinds := [], alts := [], laidByText := true, laidKinds := [.data, .data, .widerDeep, .funcs, .pinned], laidTests := true, laidLooks := .later }
def OrdersetLimitCardSaid : Prop := Claim7.holds Tryz.pinned (.plain (OpenSpec.ofChange ordersetLimitSpec)) ordersetLimitCard

/-- THE SECOND FORM's CARD OF 'pandectlaw38.OrdersetOrders'. -/
def ordersetOrdersUptoCard : Claim7 := { stood := { row := ordersetOrdersUptoRow, standIns := [], harness := (true, "e9003954af7f6ae003807f166150e18c621f55273e47ae2c001a39360f29af51"), looks := false }, kinds := [], alts := [], laidByText := true, laidKinds := [.data, .data, .widerDeep, .funcs, .pinned], laidTests := true, laidLooks := .later }
def OrdersetOrdersUptoCardSaid : Prop := Claim7.holds Tryz.pinned (.plain (OpenSpec.upto ordersetOrdersSpec)) ordersetOrdersUptoCard

/-- THE SECOND FORM's CARD OF 'pandectlaw38.OrdersetRespects'. -/
def ordersetRespectsUptoCard : Claim7 := { stood := { row := ordersetRespectsUptoRow, standIns := [], harness := (true, "e9003954af7f6ae003807f166150e18c621f55273e47ae2c001a39360f29af51"), looks := false }, kinds := [], alts := [], laidByText := true, laidKinds := [.data, .data, .widerDeep, .funcs, .pinned], laidTests := true, laidLooks := .later }
def OrdersetRespectsUptoCardSaid : Prop := Claim7.holds Tryz.pinned (.plain (OpenSpec.upto ordersetRespectsSpec)) ordersetRespectsUptoCard

/-- THE SECOND FORM's CARD OF 'pandectlaw38.OrdersetPairs'. -/
def ordersetPairsUptoCard : Claim7 := { stood := { row := ordersetPairsUptoRow, standIns := [], harness := (true, "e9003954af7f6ae003807f166150e18c621f55273e47ae2c001a39360f29af51"), looks := false }, kinds := [], alts := [], laidByText := true, laidKinds := [.data, .data, .widerDeep, .funcs, .pinned], laidTests := true, laidLooks := .later }
def OrdersetPairsUptoCardSaid : Prop := Claim7.holds Tryz.pinned (.plain (OpenSpec.upto ordersetPairsSpec)) ordersetPairsUptoCard

/-- THE SECOND FORM's CARD OF 'pandectlaw38.OrdersetMonotonicity'. -/
def ordersetMonotonicityUptoCard : Claim7 := { stood := { row := ordersetMonotonicityUptoRow, standIns := [], harness := (true, "e9003954af7f6ae003807f166150e18c621f55273e47ae2c001a39360f29af51"), looks := false }, kinds := [], alts := [], laidByText := true, laidKinds := [.data, .data, .widerDeep, .funcs, .pinned], laidTests := true, laidLooks := .later }
def OrdersetMonotonicityUptoCardSaid : Prop := Claim7.holds Tryz.pinned (.plain (OpenSpec.upto ordersetMonotonicitySpec)) ordersetMonotonicityUptoCard

/-- THE SECOND FORM's CARD OF 'pandectlaw38.OrdersetMinimum'. -/
def ordersetMinimumUptoCard : Claim7 := { stood := { row := ordersetMinimumUptoRow, standIns := [], harness := (true, "e9003954af7f6ae003807f166150e18c621f55273e47ae2c001a39360f29af51"), looks := false }, kinds := [], alts := [], laidByText := true, laidKinds := [.data, .data, .widerDeep, .funcs, .pinned], laidTests := true, laidLooks := .later }
def OrdersetMinimumUptoCardSaid : Prop := Claim7.holds Tryz.pinned (.plain (OpenSpec.upto ordersetMinimumSpec)) ordersetMinimumUptoCard

/-- THE SECOND FORM's CARD OF 'pandectlaw38.OrdersetLimit'. -/
def ordersetLimitUptoCard : Claim7 := { stood := { row := ordersetLimitUptoRow, standIns := [], harness := (true, "e9003954af7f6ae003807f166150e18c621f55273e47ae2c001a39360f29af51"), looks := false }, kinds := [], alts := [], laidByText := true, laidKinds := [.data, .data, .widerDeep, .funcs, .pinned], laidTests := true, laidLooks := .later }
def OrdersetLimitUptoCardSaid : Prop := Claim7.holds Tryz.pinned (.plain (OpenSpec.upto ordersetLimitSpec)) ordersetLimitUptoCard
end Rows
end Go.Proofs.YtldogpfookkbaaaGreatDoor
