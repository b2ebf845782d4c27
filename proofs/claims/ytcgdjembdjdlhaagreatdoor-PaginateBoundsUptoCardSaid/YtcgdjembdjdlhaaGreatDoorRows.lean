/-
  NARROWER THAN 'FOR EVERY INPUT', by the rows' own cells (each row's printed sentence says how): PaginateBounds: loops, laid · PaginateKeepTogether: loops, laid · PaginateLines: loops, laid · PaginateSinglePage: loops, laid · PaginateComplete: loops, laid · ConcordancePaginated: loops, laid.
  DERIVED. THE GIVEN ROWS OF THIS SEAT. 6 by the template 'for every input the law returns true; each argument reads behind the call as it read before'; 0 by the template 'total and deterministic' (their statements: YtcgdjembdjdlhaaGreatDoorTotals.lean).
  GIVEN WITH THE SEED: the statements are not yours to turn. If you find one false, say at which input.
  Laid BY PROGRAM, IN A SANDBOX (cutbox-rows.mjs): the forced cells as the released guide's own fill.sh prints them over the translation 10455c0beb3977bc… (all of the seat's roots in one cut). By AI agents, Wed Nov 11 2026. No macro, syntax, notation, axiom, sorry.
-/
import Derived.Test.YtcgdjembdjdlhaaGreatDoorChecked
import GoSem.PinnedTables
import GoSem.Claim
import GoSem.ClaimJoined
import GoSem.ClaimMapViews
import Derived.JoinedTies
import Derived.KernelRfl
namespace Go.Proofs.YtcgdjembdjdlhaaGreatDoor
/- THE CELL 'sum', in the pinned program and in every row, IS THE sha256 OF THE DUMP (.gsa) THAT YtcgdjembdjdlhaaGreatDoorProg.lean LOADS. Nothing in Lean hashes anything: it is a label: what it is worth is what the hold of that sum in a sandbox is worth. -/
noncomputable def Tryz.pinned : Pinned := { name := "ytcgdjembdjdlhaagreatdoor", sum := "10455c0beb3977bc205bb55980ed208df469b49bfe1352fb9f50a8d8b7c53ef0", checked := Tryz.checked }
namespace Rows
def none {H : Type} : Left H := { results := [], args := [] }

/- WHAT THE LISTED PACKAGE-LEVEL VARIABLES READ AS WHEN THE CALL BEGINS. Each datum BY PROGRAM (the guide's laid-datum.mjs) off the statement by which the dump's own 'gosem.cut.vars' lays the variable. In a bare row this is a premise. The card (YtcgdjembdjdlhaaGreatDoorCards.lean) ties it to the program's text. -/
def laid_pandect_unit_names {H : Type} : DataW H := .agg [.lit (.string [98, 111, 111, 107]), .lit (.string [112, 97, 114, 116]), .lit (.string [115, 101, 99, 116, 105, 111, 110]), .lit (.string [112, 97, 114, 97, 103, 114, 97, 112, 104]), .lit (.string [116, 97, 98, 108, 101]), .lit (.string [114, 111, 119]), .lit (.string [99, 101, 108, 108]), .lit (.string [110, 111, 116, 101])]
def laid_pandect_unit_below {H : Type} : DataW H := .agg [.slice [.lit (.int .i64 1), .lit (.int .i64 2)] [], .slice [.lit (.int .i64 2)] [], .slice [.lit (.int .i64 3), .lit (.int .i64 4), .lit (.int .i64 7)] [], .slice [.lit (.int .i64 3), .lit (.int .i64 4), .lit (.int .i64 7)] [], .slice [.lit (.int .i64 5)] [], .slice [.lit (.int .i64 6)] [], .nil, .nil]
def laid_math_bits_deBruijn32tab {H : Type} : DataW H := .agg [.lit (.int .u8 0), .lit (.int .u8 1), .lit (.int .u8 28), .lit (.int .u8 2), .lit (.int .u8 29), .lit (.int .u8 14), .lit (.int .u8 24), .lit (.int .u8 3), .lit (.int .u8 30), .lit (.int .u8 22), .lit (.int .u8 20), .lit (.int .u8 15), .lit (.int .u8 25), .lit (.int .u8 17), .lit (.int .u8 4), .lit (.int .u8 8), .lit (.int .u8 31), .lit (.int .u8 27), .lit (.int .u8 13), .lit (.int .u8 23), .lit (.int .u8 21), .lit (.int .u8 19), .lit (.int .u8 16), .lit (.int .u8 7), .lit (.int .u8 26), .lit (.int .u8 12), .lit (.int .u8 18), .lit (.int .u8 6), .lit (.int .u8 11), .lit (.int .u8 5), .lit (.int .u8 10), .lit (.int .u8 9)]
def laid_math_bits_deBruijn64tab {H : Type} : DataW H := .agg [.lit (.int .u8 0), .lit (.int .u8 1), .lit (.int .u8 56), .lit (.int .u8 2), .lit (.int .u8 57), .lit (.int .u8 49), .lit (.int .u8 28), .lit (.int .u8 3), .lit (.int .u8 61), .lit (.int .u8 58), .lit (.int .u8 42), .lit (.int .u8 50), .lit (.int .u8 38), .lit (.int .u8 29), .lit (.int .u8 17), .lit (.int .u8 4), .lit (.int .u8 62), .lit (.int .u8 47), .lit (.int .u8 59), .lit (.int .u8 36), .lit (.int .u8 45), .lit (.int .u8 43), .lit (.int .u8 51), .lit (.int .u8 22), .lit (.int .u8 53), .lit (.int .u8 39), .lit (.int .u8 33), .lit (.int .u8 30), .lit (.int .u8 24), .lit (.int .u8 18), .lit (.int .u8 12), .lit (.int .u8 5), .lit (.int .u8 63), .lit (.int .u8 55), .lit (.int .u8 48), .lit (.int .u8 27), .lit (.int .u8 60), .lit (.int .u8 41), .lit (.int .u8 37), .lit (.int .u8 16), .lit (.int .u8 46), .lit (.int .u8 35), .lit (.int .u8 44), .lit (.int .u8 21), .lit (.int .u8 52), .lit (.int .u8 32), .lit (.int .u8 23), .lit (.int .u8 11), .lit (.int .u8 54), .lit (.int .u8 26), .lit (.int .u8 40), .lit (.int .u8 15), .lit (.int .u8 34), .lit (.int .u8 20), .lit (.int .u8 31), .lit (.int .u8 10), .lit (.int .u8 25), .lit (.int .u8 14), .lit (.int .u8 19), .lit (.int .u8 9), .lit (.int .u8 13), .lit (.int .u8 8), .lit (.int .u8 7), .lit (.int .u8 6)]
def laid_internal_strconv_uint64pow10 {H : Type} : DataW H := .agg [.lit (.int .u64 1), .lit (.int .u64 10), .lit (.int .u64 100), .lit (.int .u64 1000), .lit (.int .u64 10000), .lit (.int .u64 100000), .lit (.int .u64 1000000), .lit (.int .u64 10000000), .lit (.int .u64 100000000), .lit (.int .u64 1000000000), .lit (.int .u64 10000000000), .lit (.int .u64 100000000000), .lit (.int .u64 1000000000000), .lit (.int .u64 10000000000000), .lit (.int .u64 100000000000000), .lit (.int .u64 1000000000000000), .lit (.int .u64 10000000000000000), .lit (.int .u64 100000000000000000), .lit (.int .u64 1000000000000000000), .lit (.int .u64 10000000000000000000)]
def laid_unicode_utf8_acceptRanges {H : Type} : DataW H := .agg [.agg [.lit (.int .u8 128), .lit (.int .u8 191)], .agg [.lit (.int .u8 160), .lit (.int .u8 191)], .agg [.lit (.int .u8 128), .lit (.int .u8 159)], .agg [.lit (.int .u8 144), .lit (.int .u8 191)], .agg [.lit (.int .u8 128), .lit (.int .u8 143)], .agg [.lit (.int .u8 0), .lit (.int .u8 0)], .agg [.lit (.int .u8 0), .lit (.int .u8 0)], .agg [.lit (.int .u8 0), .lit (.int .u8 0)], .agg [.lit (.int .u8 0), .lit (.int .u8 0)], .agg [.lit (.int .u8 0), .lit (.int .u8 0)], .agg [.lit (.int .u8 0), .lit (.int .u8 0)], .agg [.lit (.int .u8 0), .lit (.int .u8 0)], .agg [.lit (.int .u8 0), .lit (.int .u8 0)], .agg [.lit (.int .u8 0), .lit (.int .u8 0)], .agg [.lit (.int .u8 0), .lit (.int .u8 0)], .agg [.lit (.int .u8 0), .lit (.int .u8 0)]]
/-- One of Go's own tables, pinned by name: the form's constant. -/
def laid_unicode_utf8_first : DataW Unit := Go.Pinned.utf8First

/-- 'pandectlaw55.PaginateBounds': WHATEVER THE INPUT: true; the input reads as it did. -/
def paginateBoundsSpec : ChangeSpec := { name := "paginateBounds", fn := fun _ => fun
  | [d1, d2, d3] => { results := [.lit (.bool true)], args := [d1, d2, d3] }
  | _ => none }
def paginateBoundsRow : OpenClaim := { program := "ytcgdjembdjdlhaagreatdoor", sum := "10455c0beb3977bc205bb55980ed208df469b49bfe1352fb9f50a8d8b7c53ef0", func := "pandect/pandectlaw55.PaginateBounds", spec := "paginateBounds", inPlace := ["internal/abi.NoEscape", "internal/bytealg.MakeNoZero"], unfollowed := true, recurses := true, named := ["pandect/unit.names", "pandect/unit.below"], loops := true, plainKeys := false, apart := false, laid := [("pandect/unit.names", laid_pandect_unit_names), ("pandect/unit.below", laid_pandect_unit_below)] }
def PaginateBoundsSaid : Prop := paginateBoundsRow.holds Tryz.pinned (OpenSpec.ofChange paginateBoundsSpec)

/-- ITS FALSE NEIGHBOUR: 'it returns false'. Refute it at one input. -/
def paginateBoundsWrong : ChangeSpec := { name := "paginateBounds", fn := fun _ => fun
  | [d1, d2, d3] => { results := [.lit (.bool false)], args := [d1, d2, d3] }
  | _ => none }
def PaginateBoundsWrongFalsely : Prop := paginateBoundsRow.holds Tryz.pinned (OpenSpec.ofChange paginateBoundsWrong)

/-- 'pandectlaw55.PaginateKeepTogether': WHATEVER THE INPUT: true; the input reads as it did. -/
def paginateKeepTogetherSpec : ChangeSpec := { name := "paginateKeepTogether", fn := fun _ => fun
  | [d1, d2, d3] => { results := [.lit (.bool true)], args := [d1, d2, d3] }
  | _ => none }
def paginateKeepTogetherRow : OpenClaim := { program := "ytcgdjembdjdlhaagreatdoor", sum := "10455c0beb3977bc205bb55980ed208df469b49bfe1352fb9f50a8d8b7c53ef0", func := "pandect/pandectlaw55.PaginateKeepTogether", spec := "paginateKeepTogether", inPlace := ["internal/abi.NoEscape", "internal/bytealg.MakeNoZero"], unfollowed := true, recurses := true, named := ["pandect/unit.names", "pandect/unit.below"], loops := true, plainKeys := false, apart := false, laid := [("pandect/unit.names", laid_pandect_unit_names), ("pandect/unit.below", laid_pandect_unit_below)] }
def PaginateKeepTogetherSaid : Prop := paginateKeepTogetherRow.holds Tryz.pinned (OpenSpec.ofChange paginateKeepTogetherSpec)

/-- ITS FALSE NEIGHBOUR: 'it returns false'. Refute it at one input. -/
def paginateKeepTogetherWrong : ChangeSpec := { name := "paginateKeepTogether", fn := fun _ => fun
  | [d1, d2, d3] => { results := [.lit (.bool false)], args := [d1, d2, d3] }
  | _ => none }
def PaginateKeepTogetherWrongFalsely : Prop := paginateKeepTogetherRow.holds Tryz.pinned (OpenSpec.ofChange paginateKeepTogetherWrong)

/-- 'pandectlaw55.PaginateLines': WHATEVER THE INPUT: true; the input reads as it did. -/
def paginateLinesSpec : ChangeSpec := { name := "paginateLines", fn := fun _ => fun
  | [d1, d2] => { results := [.lit (.bool true)], args := [d1, d2] }
  | _ => none }
def paginateLinesRow : OpenClaim := { program := "ytcgdjembdjdlhaagreatdoor", sum := "10455c0beb3977bc205bb55980ed208df469b49bfe1352fb9f50a8d8b7c53ef0", func := "pandect/pandectlaw55.PaginateLines", spec := "paginateLines", inPlace := ["internal/abi.NoEscape", "internal/bytealg.MakeNoZero"], unfollowed := true, recurses := true, named := ["pandect/unit.names", "pandect/unit.below"], loops := true, plainKeys := false, apart := false, laid := [("pandect/unit.names", laid_pandect_unit_names), ("pandect/unit.below", laid_pandect_unit_below)] }
def PaginateLinesSaid : Prop := paginateLinesRow.holds Tryz.pinned (OpenSpec.ofChange paginateLinesSpec)

/-- ITS FALSE NEIGHBOUR: 'it returns false'. Refute it at one input. -/
def paginateLinesWrong : ChangeSpec := { name := "paginateLines", fn := fun _ => fun
  | [d1, d2] => { results := [.lit (.bool false)], args := [d1, d2] }
  | _ => none }
def PaginateLinesWrongFalsely : Prop := paginateLinesRow.holds Tryz.pinned (OpenSpec.ofChange paginateLinesWrong)

/-- 'pandectlaw55.PaginateSinglePage': WHATEVER THE INPUT: true; the input reads as it did. -/
def paginateSinglePageSpec : ChangeSpec := { name := "paginateSinglePage", fn := fun _ => fun
  | [d1, d2, d3, d4] => { results := [.lit (.bool true)], args := [d1, d2, d3, d4] }
  | _ => none }
def paginateSinglePageRow : OpenClaim := { program := "ytcgdjembdjdlhaagreatdoor", sum := "10455c0beb3977bc205bb55980ed208df469b49bfe1352fb9f50a8d8b7c53ef0", func := "pandect/pandectlaw55.PaginateSinglePage", spec := "paginateSinglePage", inPlace := ["internal/abi.NoEscape", "internal/bytealg.MakeNoZero"], unfollowed := true, recurses := true, named := ["pandect/unit.names", "pandect/unit.below"], loops := true, plainKeys := false, apart := false, laid := [("pandect/unit.names", laid_pandect_unit_names), ("pandect/unit.below", laid_pandect_unit_below)] }
def PaginateSinglePageSaid : Prop := paginateSinglePageRow.holds Tryz.pinned (OpenSpec.ofChange paginateSinglePageSpec)

/-- ITS FALSE NEIGHBOUR: 'it returns false'. Refute it at one input. -/
def paginateSinglePageWrong : ChangeSpec := { name := "paginateSinglePage", fn := fun _ => fun
  | [d1, d2, d3, d4] => { results := [.lit (.bool false)], args := [d1, d2, d3, d4] }
  | _ => none }
def PaginateSinglePageWrongFalsely : Prop := paginateSinglePageRow.holds Tryz.pinned (OpenSpec.ofChange paginateSinglePageWrong)

/-- 'pandectlaw55.PaginateComplete': WHATEVER THE INPUT: true; the input reads as it did. -/
def paginateCompleteSpec : ChangeSpec := { name := "paginateComplete", fn := fun _ => fun
  | [d1, d2, d3] => { results := [.lit (.bool true)], args := [d1, d2, d3] }
  | _ => none }
def paginateCompleteRow : OpenClaim := { program := "ytcgdjembdjdlhaagreatdoor", sum := "10455c0beb3977bc205bb55980ed208df469b49bfe1352fb9f50a8d8b7c53ef0", func := "pandect/pandectlaw55.PaginateComplete", spec := "paginateComplete", inPlace := ["internal/abi.NoEscape", "internal/bytealg.MakeNoZero"], unfollowed := true, recurses := true, named := ["pandect/unit.names", "pandect/unit.below"], loops := true, plainKeys := false, apart := false, laid := [("pandect/unit.names", laid_pandect_unit_names), ("pandect/unit.below", laid_pandect_unit_below)] }
def PaginateCompleteSaid : Prop := paginateCompleteRow.holds Tryz.pinned (OpenSpec.ofChange paginateCompleteSpec)

/-- ITS FALSE NEIGHBOUR: 'it returns false'. Refute it at one input. -/
def paginateCompleteWrong : ChangeSpec := { name := "paginateComplete", fn := fun _ => fun
  | [d1, d2, d3] => { results := [.lit (.bool false)], args := [d1, d2, d3] }
  | _ => none }
def PaginateCompleteWrongFalsely : Prop := paginateCompleteRow.holds Tryz.pinned (OpenSpec.ofChange paginateCompleteWrong)

/-- 'pandectlaw56.ConcordancePaginated': WHATEVER THE INPUT: true; the input reads as it did. -/
def concordancePaginatedSpec : ChangeSpec := { name := "concordancePaginated", fn := fun _ => fun
  | [d1, d2, d3] => { results := [.lit (.bool true)], args := [d1, d2, d3] }
  | _ => none }
def concordancePaginatedRow : OpenClaim := { program := "ytcgdjembdjdlhaagreatdoor", sum := "10455c0beb3977bc205bb55980ed208df469b49bfe1352fb9f50a8d8b7c53ef0", func := "pandect/pandectlaw56.ConcordancePaginated", spec := "concordancePaginated", inPlace := ["internal/abi.NoEscape", "internal/bytealg.MakeNoZero", "internal/bytealg.IndexByteString", "internal/bytealg.IndexString"], unfollowed := true, recurses := true, named := ["internal/strconv.uint64pow10", "math/bits.deBruijn32tab", "math/bits.deBruijn64tab", "unicode/utf8.first", "unicode/utf8.acceptRanges", "pandect/unit.names", "pandect/unit.below", "internal/bytealg.MaxLen"], loops := true, plainKeys := false, apart := false, laid := [("math/bits.deBruijn32tab", laid_math_bits_deBruijn32tab), ("math/bits.deBruijn64tab", laid_math_bits_deBruijn64tab), ("internal/strconv.uint64pow10", laid_internal_strconv_uint64pow10), ("unicode/utf8.acceptRanges", laid_unicode_utf8_acceptRanges), ("pandect/unit.names", laid_pandect_unit_names), ("pandect/unit.below", laid_pandect_unit_below), ("unicode/utf8.first", laid_unicode_utf8_first)] }
def ConcordancePaginatedSaid : Prop := concordancePaginatedRow.holds Tryz.pinned (OpenSpec.ofChange concordancePaginatedSpec)

/-- ITS FALSE NEIGHBOUR: 'it returns false'. Refute it at one input. -/
def concordancePaginatedWrong : ChangeSpec := { name := "concordancePaginated", fn := fun _ => fun
  | [d1, d2, d3] => { results := [.lit (.bool false)], args := [d1, d2, d3] }
  | _ => none }
def ConcordancePaginatedWrongFalsely : Prop := concordancePaginatedRow.holds Tryz.pinned (OpenSpec.ofChange concordancePaginatedWrong)

/- THE SECOND FORM. 'bulk': how many values and letters a reading holds, each counted each time it is reached (what is shared counts as often as it is met; a slice's spare places count too). A statement '..UptoSaid' is the law's where the arguments, and the package variables that the reading takes, are together of bulk at most 1048576: NARROWER than '..Said'. Prove '..Said' where nothing that the law and all that it calls make is longer than what came in: it says more and counts as full. Else prove '..UptoSaid'. A law counts once. -/
mutual
def uptoBulk {H : Type} : DataW H → Nat
  | .lit (.string bytes) => bytes.length + 1
  | .lit _ => 1
  | .nil => 1
  | .ptr d => uptoBulk d + 1
  | .slice elems spare => uptoBulkAll elems + uptoBulkAll spare + 1
  | .agg parts => uptoBulkAll parts + 1
  | .iface _ d => uptoBulk d + 1
  | .map entries => uptoBulkEntries entries + 1
  | .held _ => 1
def uptoBulkAll {H : Type} : List (DataW H) → Nat
  | [] => 0
  | d :: r => uptoBulk d + uptoBulkAll r
def uptoBulkEntries {H : Type} : List (Lit × DataW H) → Nat
  | [] => 0
  | x :: r => uptoBulkEntry x + uptoBulkEntries r
def uptoBulkEntry {H : Type} : Lit × DataW H → Nat
  | (.string bytes, d) => bytes.length + uptoBulk d + 1
  | (_, d) => uptoBulk d + 1
 end
def uptoSmall : (H : Type) → List (DataW H) → Bool := fun _ ds => decide (uptoBulkAll ds ≤ 1048576)
def OpenSpec.upto (s : _root_.Go.ChangeSpec) : _root_.Go.OpenSpec := { _root_.Go.OpenSpec.ofChange s with cond := some uptoSmall }

/-- 'pandectlaw55.PaginateBounds', WHERE WHAT IT READS IS OF BULK AT MOST 1048576: true; the input reads as it did. -/
def paginateBoundsUptoRow : OpenClaim := { program := "ytcgdjembdjdlhaagreatdoor", sum := "10455c0beb3977bc205bb55980ed208df469b49bfe1352fb9f50a8d8b7c53ef0", func := "pandect/pandectlaw55.PaginateBounds", spec := "paginateBounds", inPlace := ["internal/abi.NoEscape", "internal/bytealg.MakeNoZero"], unfollowed := true, recurses := true, named := ["pandect/unit.names", "pandect/unit.below"], loops := true, plainKeys := false, apart := false, laid := [("pandect/unit.names", laid_pandect_unit_names), ("pandect/unit.below", laid_pandect_unit_below)], narrowed := true }
def PaginateBoundsUptoSaid : Prop := paginateBoundsUptoRow.holds Tryz.pinned (OpenSpec.upto paginateBoundsSpec)

/-- 'pandectlaw55.PaginateKeepTogether', WHERE WHAT IT READS IS OF BULK AT MOST 1048576: true; the input reads as it did. -/
def paginateKeepTogetherUptoRow : OpenClaim := { program := "ytcgdjembdjdlhaagreatdoor", sum := "10455c0beb3977bc205bb55980ed208df469b49bfe1352fb9f50a8d8b7c53ef0", func := "pandect/pandectlaw55.PaginateKeepTogether", spec := "paginateKeepTogether", inPlace := ["internal/abi.NoEscape", "internal/bytealg.MakeNoZero"], unfollowed := true, recurses := true, named := ["pandect/unit.names", "pandect/unit.below"], loops := true, plainKeys := false, apart := false, laid := [("pandect/unit.names", laid_pandect_unit_names), ("pandect/unit.below", laid_pandect_unit_below)], narrowed := true }
def PaginateKeepTogetherUptoSaid : Prop := paginateKeepTogetherUptoRow.holds Tryz.pinned (OpenSpec.upto paginateKeepTogetherSpec)

/-- 'pandectlaw55.PaginateLines', WHERE WHAT IT READS IS OF BULK AT MOST 1048576: true; the input reads as it did. -/
def paginateLinesUptoRow : OpenClaim := { program := "ytcgdjembdjdlhaagreatdoor", sum := "10455c0beb3977bc205bb55980ed208df469b49bfe1352fb9f50a8d8b7c53ef0", func := "pandect/pandectlaw55.PaginateLines", spec := "paginateLines", inPlace := ["internal/abi.NoEscape", "internal/bytealg.MakeNoZero"], unfollowed := true, recurses := true, named := ["pandect/unit.names", "pandect/unit.below"], loops := true, plainKeys := false, apart := false, laid := [("pandect/unit.names", laid_pandect_unit_names), ("pandect/unit.below", laid_pandect_unit_below)], narrowed := true }
def PaginateLinesUptoSaid : Prop := paginateLinesUptoRow.holds Tryz.pinned (OpenSpec.upto paginateLinesSpec)

/-- 'pandectlaw55.PaginateSinglePage', WHERE WHAT IT READS IS OF BULK AT MOST 1048576: true; the input reads as it did. -/
def paginateSinglePageUptoRow : OpenClaim := { program := "ytcgdjembdjdlhaagreatdoor", sum := "10455c0beb3977bc205bb55980ed208df469b49bfe1352fb9f50a8d8b7c53ef0", func := "pandect/pandectlaw55.PaginateSinglePage", spec := "paginateSinglePage", inPlace := ["internal/abi.NoEscape", "internal/bytealg.MakeNoZero"], unfollowed := true, recurses := true, named := ["pandect/unit.names", "pandect/unit.below"], loops := true, plainKeys := false, apart := false, laid := [("pandect/unit.names", laid_pandect_unit_names), ("pandect/unit.below", laid_pandect_unit_below)], narrowed := true }
def PaginateSinglePageUptoSaid : Prop := paginateSinglePageUptoRow.holds Tryz.pinned (OpenSpec.upto paginateSinglePageSpec)

/-- 'pandectlaw55.PaginateComplete', WHERE WHAT IT READS IS OF BULK AT MOST 1048576: true; the input reads as it did. -/
def paginateCompleteUptoRow : OpenClaim := { program := "ytcgdjembdjdlhaagreatdoor", sum := "10455c0beb3977bc205bb55980ed208df469b49bfe1352fb9f50a8d8b7c53ef0", func := "pandect/pandectlaw55.PaginateComplete", spec := "paginateComplete", inPlace := ["internal/abi.NoEscape", "internal/bytealg.MakeNoZero"], unfollowed := true, recurses := true, named := ["pandect/unit.names", "pandect/unit.below"], loops := true, plainKeys := false, apart := false, laid := [("pandect/unit.names", laid_pandect_unit_names), ("pandect/unit.below", laid_pandect_unit_below)], narrowed := true }
def PaginateCompleteUptoSaid : Prop := paginateCompleteUptoRow.holds Tryz.pinned (OpenSpec.upto paginateCompleteSpec)

/-- 'pandectlaw56.ConcordancePaginated', WHERE WHAT IT READS IS OF BULK AT MOST 1048576: true; the input reads as it did. -/
def concordancePaginatedUptoRow : OpenClaim := { program := "ytcgdjembdjdlhaagreatdoor", sum := "10455c0beb3977bc205bb55980ed208df469b49bfe1352fb9f50a8d8b7c53ef0", func := "pandect/pandectlaw56.ConcordancePaginated", spec := "concordancePaginated", inPlace := ["internal/abi.NoEscape", "internal/bytealg.MakeNoZero", "internal/bytealg.IndexByteString", "internal/bytealg.IndexString"], unfollowed := true, recurses := true, named := ["internal/strconv.uint64pow10", "math/bits.deBruijn32tab", "math/bits.deBruijn64tab", "unicode/utf8.first", "unicode/utf8.acceptRanges", "pandect/unit.names", "pandect/unit.below", "internal/bytealg.MaxLen"], loops := true, plainKeys := false, apart := false, laid := [("math/bits.deBruijn32tab", laid_math_bits_deBruijn32tab), ("math/bits.deBruijn64tab", laid_math_bits_deBruijn64tab), ("internal/strconv.uint64pow10", laid_internal_strconv_uint64pow10), ("unicode/utf8.acceptRanges", laid_unicode_utf8_acceptRanges), ("pandect/unit.names", laid_pandect_unit_names), ("pandect/unit.below", laid_pandect_unit_below), ("unicode/utf8.first", laid_unicode_utf8_first)], narrowed := true }
def ConcordancePaginatedUptoSaid : Prop := concordancePaginatedUptoRow.holds Tryz.pinned (OpenSpec.upto concordancePaginatedSpec)

end Rows
end Go.Proofs.YtcgdjembdjdlhaaGreatDoor
