/-
  NARROWER THAN 'FOR EVERY INPUT', by the rows' own cells (each row's printed sentence says how): LabelSplit: laid · LabelCompare: laid · LabelNext: laid · LabelBetween: laid · LabelBetweenMinimal: laid · LabelNextFree: laid · LabelSort: laid.
  DERIVED. THE GIVEN ROWS OF THIS SEAT. 7 by the template 'for every input the law returns true; each argument reads behind the call as it read before'; 0 by the template 'total and deterministic' (their statements: YtihfbefagcdpmaaDoorTotals.lean).
  GIVEN WITH THE SEED: the statements are not yours to turn. If you find one false, say at which input.
  Laid BY PROGRAM, IN A SANDBOX (cutbox-rows.mjs): the forced cells as the released guide's own fill.sh prints them over the translation 4ab418b31a3b5413… (all of the seat's roots in one cut). By AI agents, Wed Nov 11 2026. No macro, syntax, notation, axiom, sorry.
-/
import Derived.Test.YtihfbefagcdpmaaDoorChecked
import GoSem.Claim
import GoSem.ClaimJoined
import GoSem.ClaimMapViews
import Derived.JoinedTies
import Derived.KernelRfl
namespace Go.Proofs.YtihfbefagcdpmaaDoor
/- THE CELL 'sum', in the pinned program and in every row, IS THE sha256 OF THE DUMP (.gsa) THAT YtihfbefagcdpmaaDoorProg.lean LOADS. Nothing in Lean hashes anything: it is a label: what it is worth is what the hold of that sum in a sandbox is worth. -/
noncomputable def Tryd.pinned : Pinned := { name := "ytihfbefagcdpmaadoor", sum := "4ab418b31a3b5413cfe99a233a3a6e326ccc970c7bf4e58494db65150fe66dfe", checked := Tryd.checked }
namespace Rows
def none {H : Type} : Left H := { results := [], args := [] }

/- WHAT THE LISTED PACKAGE-LEVEL VARIABLES READ AS WHEN THE CALL BEGINS. Each datum BY PROGRAM (the guide's laid-datum.mjs) off the statement by which the dump's own 'gosem.cut.vars' lays the variable. In a bare row this is a premise. The card (YtihfbefagcdpmaaDoorCards.lean) ties it to the program's text. -/
def laid_math_bits_deBruijn32tab {H : Type} : DataW H := .agg [.lit (.int .u8 0), .lit (.int .u8 1), .lit (.int .u8 28), .lit (.int .u8 2), .lit (.int .u8 29), .lit (.int .u8 14), .lit (.int .u8 24), .lit (.int .u8 3), .lit (.int .u8 30), .lit (.int .u8 22), .lit (.int .u8 20), .lit (.int .u8 15), .lit (.int .u8 25), .lit (.int .u8 17), .lit (.int .u8 4), .lit (.int .u8 8), .lit (.int .u8 31), .lit (.int .u8 27), .lit (.int .u8 13), .lit (.int .u8 23), .lit (.int .u8 21), .lit (.int .u8 19), .lit (.int .u8 16), .lit (.int .u8 7), .lit (.int .u8 26), .lit (.int .u8 12), .lit (.int .u8 18), .lit (.int .u8 6), .lit (.int .u8 11), .lit (.int .u8 5), .lit (.int .u8 10), .lit (.int .u8 9)]
def laid_math_bits_deBruijn64tab {H : Type} : DataW H := .agg [.lit (.int .u8 0), .lit (.int .u8 1), .lit (.int .u8 56), .lit (.int .u8 2), .lit (.int .u8 57), .lit (.int .u8 49), .lit (.int .u8 28), .lit (.int .u8 3), .lit (.int .u8 61), .lit (.int .u8 58), .lit (.int .u8 42), .lit (.int .u8 50), .lit (.int .u8 38), .lit (.int .u8 29), .lit (.int .u8 17), .lit (.int .u8 4), .lit (.int .u8 62), .lit (.int .u8 47), .lit (.int .u8 59), .lit (.int .u8 36), .lit (.int .u8 45), .lit (.int .u8 43), .lit (.int .u8 51), .lit (.int .u8 22), .lit (.int .u8 53), .lit (.int .u8 39), .lit (.int .u8 33), .lit (.int .u8 30), .lit (.int .u8 24), .lit (.int .u8 18), .lit (.int .u8 12), .lit (.int .u8 5), .lit (.int .u8 63), .lit (.int .u8 55), .lit (.int .u8 48), .lit (.int .u8 27), .lit (.int .u8 60), .lit (.int .u8 41), .lit (.int .u8 37), .lit (.int .u8 16), .lit (.int .u8 46), .lit (.int .u8 35), .lit (.int .u8 44), .lit (.int .u8 21), .lit (.int .u8 52), .lit (.int .u8 32), .lit (.int .u8 23), .lit (.int .u8 11), .lit (.int .u8 54), .lit (.int .u8 26), .lit (.int .u8 40), .lit (.int .u8 15), .lit (.int .u8 34), .lit (.int .u8 20), .lit (.int .u8 31), .lit (.int .u8 10), .lit (.int .u8 25), .lit (.int .u8 14), .lit (.int .u8 19), .lit (.int .u8 9), .lit (.int .u8 13), .lit (.int .u8 8), .lit (.int .u8 7), .lit (.int .u8 6)]
def laid_internal_strconv_uint64pow10 {H : Type} : DataW H := .agg [.lit (.int .u64 1), .lit (.int .u64 10), .lit (.int .u64 100), .lit (.int .u64 1000), .lit (.int .u64 10000), .lit (.int .u64 100000), .lit (.int .u64 1000000), .lit (.int .u64 10000000), .lit (.int .u64 100000000), .lit (.int .u64 1000000000), .lit (.int .u64 10000000000), .lit (.int .u64 100000000000), .lit (.int .u64 1000000000000), .lit (.int .u64 10000000000000), .lit (.int .u64 100000000000000), .lit (.int .u64 1000000000000000), .lit (.int .u64 10000000000000000), .lit (.int .u64 100000000000000000), .lit (.int .u64 1000000000000000000), .lit (.int .u64 10000000000000000000)]
def laid_strconv_ErrRange {H : Type} : DataW H := .iface "*errors.errorString" (.ptr (.agg [.lit (.string [118, 97, 108, 117, 101, 32, 111, 117, 116, 32, 111, 102, 32, 114, 97, 110, 103, 101])]))
def laid_strconv_ErrSyntax {H : Type} : DataW H := .iface "*errors.errorString" (.ptr (.agg [.lit (.string [105, 110, 118, 97, 108, 105, 100, 32, 115, 121, 110, 116, 97, 120])]))

/-- 'pandectlaw03.LabelSplit': WHATEVER THE INPUT: true; the input reads as it did. -/
def labelSplitSpec : ChangeSpec := { name := "labelSplit", fn := fun _ => fun
  | [d] => { results := [.lit (.bool true)], args := [d] }
  | _ => none }
def labelSplitRow : OpenClaim := { program := "ytihfbefagcdpmaadoor", sum := "4ab418b31a3b5413cfe99a233a3a6e326ccc970c7bf4e58494db65150fe66dfe", func := "pandect/pandectlaw03.LabelSplit", spec := "labelSplit", inPlace := ["internal/abi.NoEscape", "internal/bytealg.MakeNoZero"], unfollowed := true, recurses := true, named := ["strconv.ErrSyntax", "strconv.ErrRange", "internal/strconv.uint64pow10", "math/bits.deBruijn32tab", "math/bits.deBruijn64tab"], apart := false, laid := [("math/bits.deBruijn32tab", laid_math_bits_deBruijn32tab), ("math/bits.deBruijn64tab", laid_math_bits_deBruijn64tab), ("internal/strconv.uint64pow10", laid_internal_strconv_uint64pow10), ("strconv.ErrRange", laid_strconv_ErrRange), ("strconv.ErrSyntax", laid_strconv_ErrSyntax)] }
def LabelSplitSaid : Prop := labelSplitRow.holds Tryd.pinned (OpenSpec.ofChange labelSplitSpec)

/-- ITS FALSE NEIGHBOUR: 'it returns false'. Refute it at one input. -/
def labelSplitWrong : ChangeSpec := { name := "labelSplit", fn := fun _ => fun
  | [d] => { results := [.lit (.bool false)], args := [d] }
  | _ => none }
def LabelSplitWrongFalsely : Prop := labelSplitRow.holds Tryd.pinned (OpenSpec.ofChange labelSplitWrong)

/-- 'pandectlaw03.LabelCompare': WHATEVER THE INPUT: true; the input reads as it did. -/
def labelCompareSpec : ChangeSpec := { name := "labelCompare", fn := fun _ => fun
  | [d1, d2, d3] => { results := [.lit (.bool true)], args := [d1, d2, d3] }
  | _ => none }
def labelCompareRow : OpenClaim := { program := "ytihfbefagcdpmaadoor", sum := "4ab418b31a3b5413cfe99a233a3a6e326ccc970c7bf4e58494db65150fe66dfe", func := "pandect/pandectlaw03.LabelCompare", spec := "labelCompare", inPlace := ["internal/abi.NoEscape", "internal/bytealg.MakeNoZero"], unfollowed := true, recurses := true, named := ["strconv.ErrSyntax", "strconv.ErrRange", "internal/strconv.uint64pow10", "math/bits.deBruijn32tab", "math/bits.deBruijn64tab"], apart := false, laid := [("math/bits.deBruijn32tab", laid_math_bits_deBruijn32tab), ("math/bits.deBruijn64tab", laid_math_bits_deBruijn64tab), ("internal/strconv.uint64pow10", laid_internal_strconv_uint64pow10), ("strconv.ErrRange", laid_strconv_ErrRange), ("strconv.ErrSyntax", laid_strconv_ErrSyntax)] }
def LabelCompareSaid : Prop := labelCompareRow.holds Tryd.pinned (OpenSpec.ofChange labelCompareSpec)

/-- ITS FALSE NEIGHBOUR: 'it returns false'. Refute it at one input. -/
def labelCompareWrong : ChangeSpec := { name := "labelCompare", fn := fun _ => fun
  | [d1, d2, d3] => { results := [.lit (.bool false)], args := [d1, d2, d3] }
  | _ => none }
def LabelCompareWrongFalsely : Prop := labelCompareRow.holds Tryd.pinned (OpenSpec.ofChange labelCompareWrong)

/-- 'pandectlaw03.LabelNext': WHATEVER THE INPUT: true; the input reads as it did. -/
def labelNextSpec : ChangeSpec := { name := "labelNext", fn := fun _ => fun
  | [d1, d2] => { results := [.lit (.bool true)], args := [d1, d2] }
  | _ => none }
def labelNextRow : OpenClaim := { program := "ytihfbefagcdpmaadoor", sum := "4ab418b31a3b5413cfe99a233a3a6e326ccc970c7bf4e58494db65150fe66dfe", func := "pandect/pandectlaw03.LabelNext", spec := "labelNext", inPlace := ["internal/abi.NoEscape", "internal/bytealg.MakeNoZero"], unfollowed := true, recurses := true, named := ["strconv.ErrSyntax", "strconv.ErrRange", "internal/strconv.uint64pow10", "math/bits.deBruijn32tab", "math/bits.deBruijn64tab"], apart := false, laid := [("math/bits.deBruijn32tab", laid_math_bits_deBruijn32tab), ("math/bits.deBruijn64tab", laid_math_bits_deBruijn64tab), ("internal/strconv.uint64pow10", laid_internal_strconv_uint64pow10), ("strconv.ErrRange", laid_strconv_ErrRange), ("strconv.ErrSyntax", laid_strconv_ErrSyntax)] }
def LabelNextSaid : Prop := labelNextRow.holds Tryd.pinned (OpenSpec.ofChange labelNextSpec)

/-- ITS FALSE NEIGHBOUR: 'it returns false'. Refute it at one input. -/
def labelNextWrong : ChangeSpec := { name := "labelNext", fn := fun _ => fun
  | [d1, d2] => { results := [.lit (.bool false)], args := [d1, d2] }
  | _ => none }
def LabelNextWrongFalsely : Prop := labelNextRow.holds Tryd.pinned (OpenSpec.ofChange labelNextWrong)

/-- 'pandectlaw03.LabelBetween': WHATEVER THE INPUT: true; the input reads as it did. -/
def labelBetweenSpec : ChangeSpec := { name := "labelBetween", fn := fun _ => fun
  | [d1, d2] => { results := [.lit (.bool true)], args := [d1, d2] }
  | _ => none }
def labelBetweenRow : OpenClaim := { program := "ytihfbefagcdpmaadoor", sum := "4ab418b31a3b5413cfe99a233a3a6e326ccc970c7bf4e58494db65150fe66dfe", func := "pandect/pandectlaw03.LabelBetween", spec := "labelBetween", inPlace := ["internal/abi.NoEscape", "internal/bytealg.MakeNoZero"], unfollowed := true, recurses := true, named := ["strconv.ErrSyntax", "strconv.ErrRange", "internal/strconv.uint64pow10", "math/bits.deBruijn32tab", "math/bits.deBruijn64tab"], apart := false, laid := [("math/bits.deBruijn32tab", laid_math_bits_deBruijn32tab), ("math/bits.deBruijn64tab", laid_math_bits_deBruijn64tab), ("internal/strconv.uint64pow10", laid_internal_strconv_uint64pow10), ("strconv.ErrRange", laid_strconv_ErrRange), ("strconv.ErrSyntax", laid_strconv_ErrSyntax)] }
def LabelBetweenSaid : Prop := labelBetweenRow.holds Tryd.pinned (OpenSpec.ofChange labelBetweenSpec)

/-- ITS FALSE NEIGHBOUR: 'it returns false'. Refute it at one input. -/
def labelBetweenWrong : ChangeSpec := { name := "labelBetween", fn := fun _ => fun
  | [d1, d2] => { results := [.lit (.bool false)], args := [d1, d2] }
  | _ => none }
def LabelBetweenWrongFalsely : Prop := labelBetweenRow.holds Tryd.pinned (OpenSpec.ofChange labelBetweenWrong)

/-- 'pandectlaw03.LabelBetweenMinimal': WHATEVER THE INPUT: true; the input reads as it did. -/
def labelBetweenMinimalSpec : ChangeSpec := { name := "labelBetweenMinimal", fn := fun _ => fun
  | [d1, d2, d3] => { results := [.lit (.bool true)], args := [d1, d2, d3] }
  | _ => none }
def labelBetweenMinimalRow : OpenClaim := { program := "ytihfbefagcdpmaadoor", sum := "4ab418b31a3b5413cfe99a233a3a6e326ccc970c7bf4e58494db65150fe66dfe", func := "pandect/pandectlaw03.LabelBetweenMinimal", spec := "labelBetweenMinimal", inPlace := ["internal/abi.NoEscape", "internal/bytealg.MakeNoZero"], unfollowed := true, recurses := true, named := ["strconv.ErrSyntax", "strconv.ErrRange", "internal/strconv.uint64pow10", "math/bits.deBruijn32tab", "math/bits.deBruijn64tab"], apart := false, laid := [("math/bits.deBruijn32tab", laid_math_bits_deBruijn32tab), ("math/bits.deBruijn64tab", laid_math_bits_deBruijn64tab), ("internal/strconv.uint64pow10", laid_internal_strconv_uint64pow10), ("strconv.ErrRange", laid_strconv_ErrRange), ("strconv.ErrSyntax", laid_strconv_ErrSyntax)] }
def LabelBetweenMinimalSaid : Prop := labelBetweenMinimalRow.holds Tryd.pinned (OpenSpec.ofChange labelBetweenMinimalSpec)

/-- ITS FALSE NEIGHBOUR: 'it returns false'. Refute it at one input. -/
def labelBetweenMinimalWrong : ChangeSpec := { name := "labelBetweenMinimal", fn := fun _ => fun
  | [d1, d2, d3] => { results := [.lit (.bool false)], args := [d1, d2, d3] }
  | _ => none }
def LabelBetweenMinimalWrongFalsely : Prop := labelBetweenMinimalRow.holds Tryd.pinned (OpenSpec.ofChange labelBetweenMinimalWrong)

/-- 'pandectlaw03.LabelNextFree': WHATEVER THE INPUT: true; the input reads as it did. -/
def labelNextFreeSpec : ChangeSpec := { name := "labelNextFree", fn := fun _ => fun
  | [d1, d2] => { results := [.lit (.bool true)], args := [d1, d2] }
  | _ => none }
def labelNextFreeRow : OpenClaim := { program := "ytihfbefagcdpmaadoor", sum := "4ab418b31a3b5413cfe99a233a3a6e326ccc970c7bf4e58494db65150fe66dfe", func := "pandect/pandectlaw03.LabelNextFree", spec := "labelNextFree", inPlace := ["internal/abi.NoEscape", "internal/bytealg.MakeNoZero"], unfollowed := true, recurses := true, named := ["strconv.ErrSyntax", "strconv.ErrRange", "internal/strconv.uint64pow10", "math/bits.deBruijn32tab", "math/bits.deBruijn64tab"], apart := false, laid := [("math/bits.deBruijn32tab", laid_math_bits_deBruijn32tab), ("math/bits.deBruijn64tab", laid_math_bits_deBruijn64tab), ("internal/strconv.uint64pow10", laid_internal_strconv_uint64pow10), ("strconv.ErrRange", laid_strconv_ErrRange), ("strconv.ErrSyntax", laid_strconv_ErrSyntax)] }
def LabelNextFreeSaid : Prop := labelNextFreeRow.holds Tryd.pinned (OpenSpec.ofChange labelNextFreeSpec)

/-- ITS FALSE NEIGHBOUR: 'it returns false'. Refute it at one input. -/
def labelNextFreeWrong : ChangeSpec := { name := "labelNextFree", fn := fun _ => fun
  | [d1, d2] => { results := [.lit (.bool false)], args := [d1, d2] }
  | _ => none }
def LabelNextFreeWrongFalsely : Prop := labelNextFreeRow.holds Tryd.pinned (OpenSpec.ofChange labelNextFreeWrong)

/-- 'pandectlaw03.LabelSort': WHATEVER THE INPUT: true; the input reads as it did. -/
def labelSortSpec : ChangeSpec := { name := "labelSort", fn := fun _ => fun
  | [d] => { results := [.lit (.bool true)], args := [d] }
  | _ => none }
def labelSortRow : OpenClaim := { program := "ytihfbefagcdpmaadoor", sum := "4ab418b31a3b5413cfe99a233a3a6e326ccc970c7bf4e58494db65150fe66dfe", func := "pandect/pandectlaw03.LabelSort", spec := "labelSort", inPlace := ["internal/abi.NoEscape", "internal/bytealg.MakeNoZero"], unfollowed := true, recurses := true, named := ["strconv.ErrSyntax", "strconv.ErrRange", "internal/strconv.uint64pow10", "math/bits.deBruijn32tab", "math/bits.deBruijn64tab"], apart := false, laid := [("math/bits.deBruijn32tab", laid_math_bits_deBruijn32tab), ("math/bits.deBruijn64tab", laid_math_bits_deBruijn64tab), ("internal/strconv.uint64pow10", laid_internal_strconv_uint64pow10), ("strconv.ErrRange", laid_strconv_ErrRange), ("strconv.ErrSyntax", laid_strconv_ErrSyntax)] }
def LabelSortSaid : Prop := labelSortRow.holds Tryd.pinned (OpenSpec.ofChange labelSortSpec)

/-- ITS FALSE NEIGHBOUR: 'it returns false'. Refute it at one input. -/
def labelSortWrong : ChangeSpec := { name := "labelSort", fn := fun _ => fun
  | [d] => { results := [.lit (.bool false)], args := [d] }
  | _ => none }
def LabelSortWrongFalsely : Prop := labelSortRow.holds Tryd.pinned (OpenSpec.ofChange labelSortWrong)

/- THE SECOND FORM. 'bulk': how many values and letters a reading holds, each counted each time it is reached (what is shared counts as often as it is met; a slice's spare places count too). A statement '..UptoSaid' is the law's where the arguments, and the package variables that the reading takes, are together of bulk at most 1048576: NARROWER than '..Said'. Prove '..Said' where nothing that the law and all that it calls make is longer than what came in: it says more and counts as full. Else prove '..UptoSaid'. A law counts once. -/
mutual
def uptoBulk {H : Type} : DataW H → Nat
  | .lit (.string bytes) => bytes.length + 1
  | .lit _ => 1
  | .nil => 1
  | .ptr d => uptoBulk d + 1
  | .slice elems spare => uptoBulkAll elems + uptoBulkAll spare + 1
  | .agg parts => uptoBulkAll parts + 1
  | .iface _ d => uptoBulk d + 1
  | .map entries => uptoBulkEntries entries + 1
  | .held _ => 1
def uptoBulkAll {H : Type} : List (DataW H) → Nat
  | [] => 0
  | d :: r => uptoBulk d + uptoBulkAll r
def uptoBulkEntries {H : Type} : List (Lit × DataW H) → Nat
  | [] => 0
  | x :: r => uptoBulkEntry x + uptoBulkEntries r
def uptoBulkEntry {H : Type} : Lit × DataW H → Nat
  | (.string bytes, d) => bytes.length + uptoBulk d + 1
  | (_, d) => uptoBulk d + 1
 end
def uptoSmall : (H : Type) → List (DataW H) → Bool := fun _ ds => decide (uptoBulkAll ds ≤ 1048576)
def OpenSpec.upto (s : _root_.Go.ChangeSpec) : _root_.Go.OpenSpec := { _root_.Go.OpenSpec.ofChange s with cond := some uptoSmall }

/-- 'pandectlaw03.LabelSplit', WHERE WHAT IT READS IS OF BULK AT MOST 1048576: true; the input reads as it did. -/
def labelSplitUptoRow : OpenClaim := { program := "ytihfbefagcdpmaadoor", sum := "4ab418b31a3b5413cfe99a233a3a6e326ccc970c7bf4e58494db65150fe66dfe", func := "pandect/pandectlaw03.LabelSplit", spec := "labelSplit", inPlace := ["internal/abi.NoEscape", "internal/bytealg.MakeNoZero"], unfollowed := true, recurses := true, named := ["strconv.ErrSyntax", "strconv.ErrRange", "internal/strconv.uint64pow10", "math/bits.deBruijn32tab", "math/bits.deBruijn64tab"], apart := false, laid := [("math/bits.deBruijn32tab", laid_math_bits_deBruijn32tab), ("math/bits.deBruijn64tab", laid_math_bits_deBruijn64tab), ("internal/strconv.uint64pow10", laid_internal_strconv_uint64pow10), ("strconv.ErrRange", laid_strconv_ErrRange), ("strconv.ErrSyntax", laid_strconv_ErrSyntax)], narrowed := true }
def LabelSplitUptoSaid : Prop := labelSplitUptoRow.holds Tryd.pinned (OpenSpec.upto labelSplitSpec)

/-- 'pandectlaw03.LabelCompare', WHERE WHAT IT READS IS OF BULK AT MOST 1048576: true; the input reads as it did. -/
def labelCompareUptoRow : OpenClaim := { program := "ytihfbefagcdpmaadoor", sum := "4ab418b31a3b5413cfe99a233a3a6e326ccc970c7bf4e58494db65150fe66dfe", func := "pandect/pandectlaw03.LabelCompare", spec := "labelCompare", inPlace := ["internal/abi.NoEscape", "internal/bytealg.MakeNoZero"], unfollowed := true, recurses := true, named := ["strconv.ErrSyntax", "strconv.ErrRange", "internal/strconv.uint64pow10", "math/bits.deBruijn32tab", "math/bits.deBruijn64tab"], apart := false, laid := [("math/bits.deBruijn32tab", laid_math_bits_deBruijn32tab), ("math/bits.deBruijn64tab", laid_math_bits_deBruijn64tab), ("internal/strconv.uint64pow10", laid_internal_strconv_uint64pow10), ("strconv.ErrRange", laid_strconv_ErrRange), ("strconv.ErrSyntax", laid_strconv_ErrSyntax)], narrowed := true }
def LabelCompareUptoSaid : Prop := labelCompareUptoRow.holds Tryd.pinned (OpenSpec.upto labelCompareSpec)

/-- 'pandectlaw03.LabelNext', WHERE WHAT IT READS IS OF BULK AT MOST 1048576: true; the input reads as it did. -/
def labelNextUptoRow : OpenClaim := { program := "ytihfbefagcdpmaadoor", sum := "4ab418b31a3b5413cfe99a233a3a6e326ccc970c7bf4e58494db65150fe66dfe", func := "pandect/pandectlaw03.LabelNext", spec := "labelNext", inPlace := ["internal/abi.NoEscape", "internal/bytealg.MakeNoZero"], unfollowed := true, recurses := true, named := ["strconv.ErrSyntax", "strconv.ErrRange", "internal/strconv.uint64pow10", "math/bits.deBruijn32tab", "math/bits.deBruijn64tab"], apart := false, laid := [("math/bits.deBruijn32tab", laid_math_bits_deBruijn32tab), ("math/bits.deBruijn64tab", laid_math_bits_deBruijn64tab), ("internal/strconv.uint64pow10", laid_internal_strconv_uint64pow10), ("strconv.ErrRange", laid_strconv_ErrRange), ("strconv.ErrSyntax", laid_strconv_ErrSyntax)], narrowed := true }
def LabelNextUptoSaid : Prop := labelNextUptoRow.holds Tryd.pinned (OpenSpec.upto labelNextSpec)

/-- 'pandectlaw03.LabelBetween', WHERE WHAT IT READS IS OF BULK AT MOST 1048576: true; the input reads as it did. -/
def labelBetweenUptoRow : OpenClaim := { program := "ytihfbefagcdpmaadoor", sum := "4ab418b31a3b5413cfe99a233a3a6e326ccc970c7bf4e58494db65150fe66dfe", func := "pandect/pandectlaw03.LabelBetween", spec := "labelBetween", inPlace := ["internal/abi.NoEscape", "internal/bytealg.MakeNoZero"], unfollowed := true, recurses := true, named := ["strconv.ErrSyntax", "strconv.ErrRange", "internal/strconv.uint64pow10", "math/bits.deBruijn32tab", "math/bits.deBruijn64tab"], apart := false, laid := [("math/bits.deBruijn32tab", laid_math_bits_deBruijn32tab), ("math/bits.deBruijn64tab", laid_math_bits_deBruijn64tab), ("internal/strconv.uint64pow10", laid_internal_strconv_uint64pow10), ("strconv.ErrRange", laid_strconv_ErrRange), ("strconv.ErrSyntax", laid_strconv_ErrSyntax)], narrowed := true }
def LabelBetweenUptoSaid : Prop := labelBetweenUptoRow.holds Tryd.pinned (OpenSpec.upto labelBetweenSpec)

/-- 'pandectlaw03.LabelBetweenMinimal', WHERE WHAT IT READS IS OF BULK AT MOST 1048576: true; the input reads as it did. -/
def labelBetweenMinimalUptoRow : OpenClaim := { program := "ytihfbefagcdpmaadoor", sum := "4ab418b31a3b5413cfe99a233a3a6e326ccc970c7bf4e58494db65150fe66dfe", func := "pandect/pandectlaw03.LabelBetweenMinimal", spec := "labelBetweenMinimal", inPlace := ["internal/abi.NoEscape", "internal/bytealg.MakeNoZero"], unfollowed := true, recurses := true, named := ["strconv.ErrSyntax", "strconv.ErrRange", "internal/strconv.uint64pow10", "math/bits.deBruijn32tab", "math/bits.deBruijn64tab"], apart := false, laid := [("math/bits.deBruijn32tab", laid_math_bits_deBruijn32tab), ("math/bits.deBruijn64tab", laid_math_bits_deBruijn64tab), ("internal/strconv.uint64pow10", laid_internal_strconv_uint64pow10), ("strconv.ErrRange", laid_strconv_ErrRange), ("strconv.ErrSyntax", laid_strconv_ErrSyntax)], narrowed := true }
def LabelBetweenMinimalUptoSaid : Prop := labelBetweenMinimalUptoRow.holds Tryd.pinned (OpenSpec.upto labelBetweenMinimalSpec)

/-- 'pandectlaw03.LabelNextFree', WHERE WHAT IT READS IS OF BULK AT MOST 1048576: true; the input reads as it did. -/
def labelNextFreeUptoRow : OpenClaim := { program := "ytihfbefagcdpmaadoor", sum := "4ab418b31a3b5413cfe99a233a3a6e326ccc970c7bf4e58494db65150fe66dfe", func := "pandect/pandectlaw03.LabelNextFree", spec := "labelNextFree", inPlace := ["internal/abi.NoEscape", "internal/bytealg.MakeNoZero"], unfollowed := true, recurses := true, named := ["strconv.ErrSyntax", "strconv.ErrRange", "internal/strconv.uint64pow10", "math/bits.deBruijn32tab", "math/bits.deBruijn64tab"], apart := false, laid := [("math/bits.deBruijn32tab", laid_math_bits_deBruijn32tab), ("math/bits.deBruijn64tab", laid_math_bits_deBruijn64tab), ("internal/strconv.uint64pow10", laid_internal_strconv_uint64pow10), ("strconv.ErrRange", laid_strconv_ErrRange), ("strconv.ErrSyntax", laid_strconv_ErrSyntax)], narrowed := true }
def LabelNextFreeUptoSaid : Prop := labelNextFreeUptoRow.holds Tryd.pinned (OpenSpec.upto labelNextFreeSpec)

/-- 'pandectlaw03.LabelSort', WHERE WHAT IT READS IS OF BULK AT MOST 1048576: true; the input reads as it did. -/
def labelSortUptoRow : OpenClaim := { program := "ytihfbefagcdpmaadoor", sum := "4ab418b31a3b5413cfe99a233a3a6e326ccc970c7bf4e58494db65150fe66dfe", func := "pandect/pandectlaw03.LabelSort", spec := "labelSort", inPlace := ["internal/abi.NoEscape", "internal/bytealg.MakeNoZero"], unfollowed := true, recurses := true, named := ["strconv.ErrSyntax", "strconv.ErrRange", "internal/strconv.uint64pow10", "math/bits.deBruijn32tab", "math/bits.deBruijn64tab"], apart := false, laid := [("math/bits.deBruijn32tab", laid_math_bits_deBruijn32tab), ("math/bits.deBruijn64tab", laid_math_bits_deBruijn64tab), ("internal/strconv.uint64pow10", laid_internal_strconv_uint64pow10), ("strconv.ErrRange", laid_strconv_ErrRange), ("strconv.ErrSyntax", laid_strconv_ErrSyntax)], narrowed := true }
def LabelSortUptoSaid : Prop := labelSortUptoRow.holds Tryd.pinned (OpenSpec.upto labelSortSpec)

end Rows
end Go.Proofs.YtihfbefagcdpmaaDoor
