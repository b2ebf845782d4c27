/-
  CorpusLegalOrder: the law's end.
-/
import Derived.Test.YtcjaojhbebpokaaRd
import Derived.Test.YtcjaojhbebpokaaW10
import Derived.WalkKit
import Derived.ProofKit
import Derived.OpenShut
import Derived.JoinedCond
set_option linter.all false
namespace Go.Proofs.Ytcjaojhbebpokaa.corpusLegalOrder
open Go Go.VM Go.ChangeShapes Go.WideShapes Go.ChangeAt Go.RowKit

theorem law (a b c : EI) : PCall Try.prog 5 [.agg a.enc, .agg b.enc, .agg c.enc] (.bool true) := w.sp5 a b c

theorem own : ownKnob Try.prog.godebug = none := by kernel_rfl
theorem laid : laidOutB Try.prog = true := by kernel_rfl
theorem rec44 : Try.prog.readableRec 44 = true := by kernel_rfl
theorem lt44 : (decide (44 < Try.prog.types.size)) = true := by kernel_rfl

set_option maxRecDepth 100000 in
theorem contract (H : Type) (enc : TypeId × Value → H) (W : World) (base : Nat) (args : Array Value) (ds gs : List (DataW H)) (before : List MemPlace)
    (hval : ∀ (j : Nat) t v, Try.f5.params[j]? = some t → args[j]? = some v → Value.okWide Try.prog W .any base t v)
    (hW : DataW.Whole enc Try.prog Try.f5.params.toList Rows.corpusLegalOrderSpec.vars false W args.toList ds gs before) :
    Calls Try.prog 5 args W fun e W' => ∃ v, e = .returned v ∧ Rows.corpusLegalOrderSpec.post enc Try.prog Try.f5 false true false false W args v W' := by
  have hW' := hW
  obtain ⟨p, q, hA0, hV, rfl, hfz, hnd⟩ := hW
  have hA : DataW.TrodAll enc Try.prog W 0 (fun _ => true) true Try.f5.params.toList args.toList ds p := hA0
  rw [Try.params5] at hA hval
  obtain ⟨v0, vs0, d0, ds0, p0, q0, hargs, rfl, rfl, h0, r0⟩ := trodAll_cons hA
  obtain ⟨v1, vs1, d1, ds1, p1, q1, rfl, rfl, rfl, h1, r1⟩ := trodAll_cons r0
  obtain ⟨v2, vs2, d2, ds2, p2, q2, rfl, rfl, rfl, h2, r2⟩ := trodAll_cons r1
  obtain ⟨rfl, rfl, rfl⟩ := trodAll_nil r2
  obtain rfl : args = #[v0, v1, v2] := by cases args; simp_all
  obtain ⟨rfl, rfl⟩ := trodVars_none hV
  obtain ⟨a0, e0, rep0⟩ := reads_arg hval 0 rfl rfl Try.underlying44 (fun n => rd.rEI n) h0
  obtain ⟨a1, e1, rep1⟩ := reads_arg hval 1 rfl rfl Try.underlying44 (fun n => rd.rEI n) h1
  obtain ⟨a2, e2, rep2⟩ := reads_arg hval 2 rfl rfl Try.underlying44 (fun n => rd.rEI n) h2
  refine (law a0 a1 a2).2.2 (g0 W) W _ (g0_rel W) ⟨rfl, fun j hj => ?_⟩ |>.mono ?_
  · match j with
    | 0 => exact rep0
    | 1 => exact rep1
    | 2 => exact rep2
    | n + 3 => simp at hj; omega
  · rintro x W' ⟨v, m', rfl, hrep, _, hbelow⟩
    obtain rfl := hrep.bool_inv
    exact ⟨_, rfl, post_below laid (by rw [Try.params5]; intro t ht; obtain rfl : t = 44 := by simpa using ht
                                       exact ⟨rec44, of_decide_eq_true lt44⟩) (by rfl) Try.underlying4 rfl rfl rfl rfl hW' hbelow⟩
/-- An item of zeros. -/
def zeroItem : Value := .agg #[.int .i64 0, .int .i64 0, .int .i64 0, .int .i64 0, .slice none 0 0, .slice none 0 0, .int .i64 0, .int .i64 0, .int .i64 0, .int .i64 0, .int .i64 0, .int .i64 0, .string .empty, .slice none 0 0, .slice none 0 0, .slice none 0 0, .slice none 0 0, .slice none 0 0, .string .empty, .string .empty, .int .i64 0, .int .i64 0, .string .empty, .int .i64 0, .int .i64 0, .int .i64 0, .string .empty, .slice none 0 0]
set_option maxRecDepth 100000 in
theorem lifted (os : Os) (started : os.Started) (H : Type) (enc : TypeId × Value → H) :
    ReturnsInHanded {} Try.checked os 5 .any (Rows.corpusLegalOrderSpec.pre6 enc Try.prog Try.f5 Rows.corpusLegalOrderRow.domain false) (Rows.corpusLegalOrderSpec.post enc Try.prog Try.f5 false true false false) := by
  refine returnsInHanded_of_change (C := Try.checked) own started (by kernel_rfl) Try.func5
    (ChangeSpec.witness6 (enc := enc) (C := Try.checked) false ⟨#[], #[zeroItem, zeroItem, zeroItem], []⟩ 8 (by kernel_rfl) (by kernel_rfl) (by kernel_rfl) (by kernel_rfl)) ?_
  intro W base args ds gs before hval hW hcnd _
  exact contract H enc W base args ds gs before hval hW

theorem over : Rows.corpusLegalOrderRow.holds Try.pinned (OpenSpec.ofChange Rows.corpusLegalOrderSpec) :=
  OpenClaim.holds_of_wide 5 Try.f5 rfl rfl rfl rfl rfl rfl rfl ⟨rfl, rfl, rfl, rfl, rfl⟩ rfl rfl rfl rfl rfl (by kernel_rfl) Try.func5 (by kernel_rfl)
    (of_decide_eq_true (by kernel_rfl)) (by unfold Func.isWrapper; first | (rw [if_pos (by decide +kernel)]; kernel_rfl) | (rw [if_neg (by decide +kernel)]; exact ⟨rfl, rfl⟩))
    (fun os started H enc _ => lifted os started H enc)

theorem proved : Rows.CorpusLegalOrderSaid := over
end Go.Proofs.Ytcjaojhbebpokaa.corpusLegalOrder

