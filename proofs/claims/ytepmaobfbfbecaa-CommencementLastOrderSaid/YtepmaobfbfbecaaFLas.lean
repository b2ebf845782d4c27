/-
  CommencementLastOrder: the law, for all arguments.
-/
import Derived.Test.YtepmaobfbfbecaaL6
import Derived.WalkKit
import Derived.ProofKit
import Derived.OpenShut
import Derived.JoinedCond
import Derived.Test.YtepmaobfbfbecaaVmG
set_option linter.all false
namespace Go.Proofs.Ytepmaobfbfbecaa.commencementLastOrder
open Go Go.VM Go.ChangeShapes Go.WideShapes Go.ChangeAt Go.RowKit

theorem own : ownKnob Try.prog.godebug = none := by kernel_rfl
theorem laid : laidOutB Try.prog = true := by kernel_rfl
theorem rec0 : Try.prog.readableRec 23 = true := by kernel_rfl
theorem lt0 : (decide (23 < Try.prog.types.size)) = true := by kernel_rfl
theorem rec1 : Try.prog.readableRec 49 = true := by kernel_rfl
theorem lt1 : (decide (49 < Try.prog.types.size)) = true := by kernel_rfl
theorem rec2 : Try.prog.readableRec 24 = true := by kernel_rfl
theorem lt2 : (decide (24 < Try.prog.types.size)) = true := by kernel_rfl
theorem rec3 : Try.prog.readableRec 5 = true := by kernel_rfl
theorem lt3 : (decide (5 < Try.prog.types.size)) = true := by kernel_rfl
theorem rec4 : Try.prog.readableRec 3 = true := by kernel_rfl
theorem lt4 : (decide (3 < Try.prog.types.size)) = true := by kernel_rfl

set_option maxRecDepth 100000 in
theorem contract (H : Type) (enc : TypeId × Value → H) (W : World) (base : Nat) (args : Array Value) (ds gs : List (DataW H)) (before : List MemPlace)
    (hval : ∀ (j : Nat) t v, Try.f8.params[j]? = some t → args[j]? = some v → Value.okWide Try.prog W .any base t v)
    (hW : DataW.Whole enc Try.prog Try.f8.params.toList Rows.commencementLastOrderSpec.vars false W args.toList ds gs before)
    (hsz : (DataW.weightsEach Try.prog (Try.f8.params.toList ++ Rows.commencementLastOrderSpec.plain.varTypes Try.prog) (ds ++ gs)).all (· ≤ reachBytes) = true) :
    Calls Try.prog 8 args W fun e W' => ∃ v, e = .returned v ∧ Rows.commencementLastOrderSpec.post enc Try.prog Try.f8 false true false false W args v W' := by
  have hW' := hW
  obtain ⟨p, q, hA0, hV, rfl, hfz, hnd⟩ := hW
  have hA : DataW.TrodAll enc Try.prog W 0 (fun _ => true) true Try.f8.params.toList args.toList ds p := hA0
  rw [Try.params8] at hA hval
  obtain ⟨v0, vs0, d0, ds0, p0, q0, hargs, rfl, rfl, h0, r0⟩ := trodAll_cons hA
  obtain ⟨v1, vs1, d1, ds1, p1, q1, rfl, rfl, rfl, h1, r1⟩ := trodAll_cons r0
  obtain ⟨v2, vs2, d2, ds2, p2, q2, rfl, rfl, rfl, h2, r2⟩ := trodAll_cons r1
  obtain ⟨v3, vs3, d3, ds3, p3, q3, rfl, rfl, rfl, h3, r3⟩ := trodAll_cons r2
  obtain ⟨v4, vs4, d4, ds4, p4, q4, rfl, rfl, rfl, h4, r4⟩ := trodAll_cons r3
  obtain ⟨v5, vs5, d5, ds5, p5, q5, rfl, rfl, rfl, h5, r5⟩ := trodAll_cons r4
  obtain ⟨rfl, rfl, rfl⟩ := trodAll_nil r5
  obtain rfl : args = #[v0, v1, v2, v3, v4, v5] := by cases args; simp_all
  obtain ⟨rfl, rfl⟩ := trodVars_none hV
  obtain ⟨a0, e0, rep0⟩ := reads_arg hval 0 rfl rfl Try.underlying23 (fun n => rd.rSta n) h0
  obtain ⟨a1, e1, rep1⟩ := reads_arg hval 1 rfl rfl Try.underlying49 (fun n => rd.rEI n) h1
  obtain ⟨a2, e2, rep2⟩ := reads_arg1 (enc := fun l : List EI => PV.sl 28 (l.map EI.enc)) hval 2 rfl rfl (cells_slice Try.underlying24) (fun n => rd.rEIs n) h2
  obtain ⟨a3, e3, rep3⟩ := reads_arg1 (enc := fun a : Int => PV.int .u8 a) hval 3 rfl rfl (cells_int Try.underlying5) (fun n => rd.rU8 n) h3
  obtain ⟨a4, e4, rep4⟩ := reads_arg1 (enc := fun a : Int => pI a) hval 4 rfl rfl (cells_int Try.underlying3) (fun n => rd.rI n) h4
  obtain ⟨a5, e5, rep5⟩ := reads_arg1 (enc := fun a : Int => pI a) hval 5 rfl rfl (cells_int Try.underlying3) (fun n => rd.rI n) h5
  have z2 := reach_sl hsz 2 (by rw [Try.params8]; rfl) rfl Try.underlying24 (n := 392) (by kernel_rfl : Try.prog.bytesOf 49 = 392) h2 (cells_slice Try.underlying24 (hval 2 _ _ rfl rfl)) rep2
  rw [List.length_map] at z2
  refine (w.law_CommencementLastOrder a0 a1 a2 a3 a4 a5 e0 e1 e2 e3 e4 e5 z2).2.2 (g0 W) W _ (g0_rel W) ⟨rfl, fun j hj => ?_⟩ |>.mono ?_
  · match j with
    | 0 => exact rep0
    | 1 => exact rep1
    | 2 => exact rep2
    | 3 => exact rep3
    | 4 => exact rep4
    | 5 => exact rep5
    | n + 6 => simp at hj; omega
  · rintro x W' ⟨v, m', rfl, hrep, _, hbelow⟩
    obtain rfl := hrep.bool_inv
    refine ⟨_, rfl, post_below laid ?_ (by rfl) Try.underlying4 rfl rfl rfl rfl hW' hbelow⟩
    rw [Try.params8]
    intro t ht
    have ht' : t = 23 ∨ t = 49 ∨ t = 24 ∨ t = 5 ∨ t = 3 := by simp at ht; omega
    rcases ht' with rfl | rfl | rfl | rfl | rfl
    · exact ⟨rec0, of_decide_eq_true lt0⟩
    · exact ⟨rec1, of_decide_eq_true lt1⟩
    · exact ⟨rec2, of_decide_eq_true lt2⟩
    · exact ⟨rec3, of_decide_eq_true lt3⟩
    · exact ⟨rec4, of_decide_eq_true lt4⟩
set_option maxRecDepth 100000 in
theorem lifted (os : Os) (started : os.Started) (H : Type) (enc : TypeId × Value → H) :
    ReturnsInHanded {} Try.checked os 8 .any (Rows.commencementLastOrderSpec.pre6 enc Try.prog Try.f8 Rows.commencementLastOrderRow.domain false) (Rows.commencementLastOrderSpec.post enc Try.prog Try.f8 false true false false) := by
  refine returnsInHanded_of_change_sized (C := Try.checked) own started (by kernel_rfl) Try.func8
    (ChangeSpec.witness6 (enc := enc) (C := Try.checked) false ⟨#[], #[.agg #[.int .i64 0, .int .i64 0, .string .empty], .agg #[.int .i64 0, .int .i64 0, .int .i64 0, .int .i64 0, .slice none 0 0, .slice none 0 0, .int .i64 0, .int .i64 0, .int .i64 0, .int .i64 0, .int .i64 0, .int .i64 0, .string .empty, .slice none 0 0, .slice none 0 0, .slice none 0 0, .slice none 0 0, .slice none 0 0, .string .empty, .string .empty, .int .i64 0, .int .i64 0, .string .empty, .int .i64 0, .int .i64 0, .int .i64 0, .string .empty, .slice none 0 0], .slice none 0 0, .int .u8 0, .int .i64 0, .int .i64 0], []⟩ 8 (by kernel_rfl) (by kernel_rfl) (by kernel_rfl) (by kernel_rfl)) ?_
  intro W base args ds gs before hval hW hcnd hsz _
  exact contract H enc W base args ds gs before hval hW hsz

theorem over : Rows.commencementLastOrderRow.holds Try.pinned (OpenSpec.ofChange Rows.commencementLastOrderSpec) :=
  OpenClaim.holds_of_wide 8 Try.f8 rfl rfl rfl rfl rfl rfl rfl ⟨rfl, rfl, rfl, rfl, rfl⟩ rfl rfl rfl rfl rfl (by kernel_rfl) Try.func8 (by kernel_rfl)
    (of_decide_eq_true (by kernel_rfl)) (by unfold Func.isWrapper; first | (rw [if_pos (by decide +kernel)]; kernel_rfl) | (rw [if_neg (by decide +kernel)]; exact ⟨rfl, rfl⟩))
    (fun os started H enc _ => lifted os started H enc)

theorem proved : Rows.CommencementLastOrderSaid := over
end Go.Proofs.Ytepmaobfbfbecaa.commencementLastOrder

