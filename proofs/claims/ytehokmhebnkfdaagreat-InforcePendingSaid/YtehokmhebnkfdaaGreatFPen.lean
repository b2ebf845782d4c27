import Derived.Test.YtehokmhebnkfdaaGreatLwP
import Derived.WalkKit
import Derived.ProofKit
import Derived.OpenShut
import Derived.JoinedCond
import Derived.Test.YtehokmhebnkfdaaGreatVmS
set_option linter.all false
namespace Go.Proofs.YtehokmhebnkfdaaGreat.inforcePending
open Go Go.VM Go.ChangeShapes Go.WideShapes Go.ChangeAt Go.RowKit
theorem own:ownKnob Tryz.prog.godebug = none:=by kernel_rfl
theorem laid:laidOutB Tryz.prog = true:=by kernel_rfl
theorem rec0:Tryz.prog.readableRec 22 = true:=by kernel_rfl
theorem lt0:(decide (22 < Tryz.prog.types.size)) = true:=by kernel_rfl
set_option maxRecDepth 100000 in
theorem contract (H : Type) (enc : TypeId × Value → H) (W : World) (base : Nat) (args : Array Value) (ds gs : List (DataW H)) (before : List MemPlace)
    (hval:∀ (j:Nat) t v,Tryz.f8.params[j]? = some t → args[j]? = some v → Value.okWide Tryz.prog W .any base t v)
    (hW:DataW.Whole enc Tryz.prog Tryz.f8.params.toList Rows.inforcePendingSpec.vars false W args.toList ds gs before)
    (hsz:(DataW.weightsEach Tryz.prog (Tryz.f8.params.toList ++ Rows.inforcePendingSpec.plain.varTypes Tryz.prog) (ds ++ gs)).all (· ≤ reachBytes) = true) :
    Calls Tryz.prog 8 args W fun e W'=>∃ v,e = .returned v ∧ Rows.inforcePendingSpec.post enc Tryz.prog Tryz.f8 false true false false W args v W':=by
  have hW':=hW
  have hk:KnownW W:=fun b l h=>by cases h
  obtain ⟨p,q,hA0,hV,rfl,hfz,hnd⟩:=hW
  have hA:DataW.TrodAll enc Tryz.prog W 0 (fun _=>true) true Tryz.f8.params.toList args.toList ds p:=hA0
  rw [Tryz.params8] at hA hval
  obtain ⟨v0,vs0,d0,ds0,p0,q0,hargs,rfl,rfl,h0,r0⟩:=trodAll_cons hA
  obtain ⟨rfl,rfl,rfl⟩:=trodAll_nil r0
  obtain rfl:args = #[v0]:=by cases args; simp_all
  obtain ⟨rfl,rfl⟩:=trodVars_none hV
  obtain ⟨a0,e0,rep0⟩:=readsZ_arg1 (enc:=fun l:List Gz=>PV.sl 4 (l.map Gz.enc)) hk hval 0 rfl rfl (cells_slice Tryz.underlying22) (fun n=>rd.rGzsZ n) h0 (light_arg hsz 0 (by rw [Tryz.params8]; rfl) rfl)
  have z0:=reach_sl hsz 0 (by rw [Tryz.params8]; rfl) rfl Tryz.underlying22 (n:=56) (by kernel_rfl:Tryz.prog.bytesOf 57 = 56) h0 (cells_slice Tryz.underlying22 (hval 0 _ _ rfl rfl)) rep0
  rw [List.length_map] at z0
  refine (w.law_InforcePending a0 e0 z0).2.2 (g0 W) W _ (g0_rel W hk) ⟨rfl,fun j hj=>?_⟩ |>.mono ?_
  · match j with
    | 0=>exact rep0
    | n + 1=>first | (simp at hj; done) | (simp at hj; omega)
  · rintro x W' ⟨v,m',rfl,hrep,_,hbelow⟩
    obtain rfl:=hrep.bool_inv
    refine ⟨_,rfl,post_below laid ?_ (by rfl) Tryz.underlying4 rfl rfl rfl rfl hW' hbelow⟩
    rw [Tryz.params8]
    intro t ht
    have ht':t = 22:=by first | (simp at ht; omega) | simpa using ht
    subst ht'
    · exact ⟨rec0,of_decide_eq_true lt0⟩
set_option maxRecDepth 100000 in
theorem lifted (os : Os) (started : os.Started) (H : Type) (enc : TypeId × Value → H) :
    ReturnsInHanded {} Tryz.checked os 8 .any (Rows.inforcePendingSpec.pre6 enc Tryz.prog Tryz.f8 Rows.inforcePendingRow.domain false) (Rows.inforcePendingSpec.post enc Tryz.prog Tryz.f8 false true false false):=by
  refine returnsInHanded_of_change_sized (C:=Tryz.checked) own started (by kernel_rfl) Tryz.func8
    (ChangeSpec.witness6 (enc:=enc) (C:=Tryz.checked) false ⟨#[],#[.slice none 0 0],[]⟩ 8 (by kernel_rfl) (by kernel_rfl) (by kernel_rfl) (by kernel_rfl)) ?_
  intro W base args ds gs before hval hW hcnd hsz _
  exact contract H enc W base args ds gs before hval hW hsz
theorem over:Rows.inforcePendingRow.holds Tryz.pinned (OpenSpec.ofChange Rows.inforcePendingSpec) :=
  OpenClaim.holds_of_wide 8 Tryz.f8 rfl rfl rfl rfl rfl rfl rfl ⟨rfl,rfl,rfl,rfl,rfl⟩ rfl rfl rfl rfl rfl (by kernel_rfl) Tryz.func8 (by kernel_rfl)
    (of_decide_eq_true (by kernel_rfl)) (by unfold Func.isWrapper; first | (rw [if_pos (by decide +kernel)]; kernel_rfl) | (rw [if_neg (by decide +kernel)]; exact ⟨rfl,rfl⟩))
    (fun os started H enc _=>lifted os started H enc)
theorem proved:Rows.InforcePendingSaid:=over
end Go.Proofs.YtehokmhebnkfdaaGreat.inforcePending
