import Derived.Test.YtehokmhebnkfdaaGreatLwO
import Derived.WalkKit
import Derived.ProofKit
import Derived.OpenShut
import Derived.JoinedCond
import Derived.Test.YtehokmhebnkfdaaGreatVmS
import Derived.Test.YtehokmhebnkfdaaGreatLwP
set_option linter.all false
namespace Go.Proofs.YtehokmhebnkfdaaGreat.inforceOrder
open Go Go.VM Go.ChangeShapes Go.WideShapes Go.ChangeAt Go.RowKit
theorem own:ownKnob Tryz.prog.godebug = none:=by kernel_rfl
theorem laid:laidOutB Tryz.prog = true:=by kernel_rfl
theorem rec0:Tryz.prog.readableRec 22 = true:=by kernel_rfl
theorem lt0:(decide (22 < Tryz.prog.types.size)) = true:=by kernel_rfl
theorem rec1:Tryz.prog.readableRec 3 = true:=by kernel_rfl
theorem lt1:(decide (3 < Tryz.prog.types.size)) = true:=by kernel_rfl
theorem rec2:Tryz.prog.readableRec 5 = true:=by kernel_rfl
theorem lt2:(decide (5 < Tryz.prog.types.size)) = true:=by kernel_rfl
set_option maxRecDepth 100000 in
theorem contract (H : Type) (enc : TypeId × Value → H) (W : World) (base : Nat) (args : Array Value) (ds gs : List (DataW H)) (before : List MemPlace)
    (hval:∀ (j:Nat) t v,Tryz.f5.params[j]? = some t → args[j]? = some v → Value.okWide Tryz.prog W .any base t v)
    (hW:DataW.Whole enc Tryz.prog Tryz.f5.params.toList Rows.inforceOrderSpec.vars false W args.toList ds gs before)
    (hsz:(DataW.weightsEach Tryz.prog (Tryz.f5.params.toList ++ Rows.inforceOrderSpec.plain.varTypes Tryz.prog) (ds ++ gs)).all (· ≤ reachBytes) = true) :
    Calls Tryz.prog 5 args W fun e W'=>∃ v,e = .returned v ∧ Rows.inforceOrderSpec.post enc Tryz.prog Tryz.f5 false true false false W args v W':=by
  have hW':=hW
  have hk:KnownW W:=fun b l h=>by cases h
  obtain ⟨p,q,hA0,hV,rfl,hfz,hnd⟩:=hW
  have hA:DataW.TrodAll enc Tryz.prog W 0 (fun _=>true) true Tryz.f5.params.toList args.toList ds p:=hA0
  rw [Tryz.params5] at hA hval
  obtain ⟨v0,vs0,d0,ds0,p0,q0,hargs,rfl,rfl,h0,r0⟩:=trodAll_cons hA
  obtain ⟨v1,vs1,d1,ds1,p1,q1,rfl,rfl,rfl,h1,r1⟩:=trodAll_cons r0
  obtain ⟨v2,vs2,d2,ds2,p2,q2,rfl,rfl,rfl,h2,r2⟩:=trodAll_cons r1
  obtain ⟨v3,vs3,d3,ds3,p3,q3,rfl,rfl,rfl,h3,r3⟩:=trodAll_cons r2
  obtain ⟨v4,vs4,d4,ds4,p4,q4,rfl,rfl,rfl,h4,r4⟩:=trodAll_cons r3
  obtain ⟨rfl,rfl,rfl⟩:=trodAll_nil r4
  obtain rfl:args = #[v0,v1,v2,v3,v4]:=by cases args; simp_all
  obtain ⟨rfl,rfl⟩:=trodVars_none hV
  obtain ⟨a0,e0,rep0⟩:=readsZ_arg1 (enc:=fun l:List Gz=>PV.sl 4 (l.map Gz.enc)) hk hval 0 rfl rfl (cells_slice Tryz.underlying22) (fun n=>rd.rGzsZ n) h0 (light_arg hsz 0 (by rw [Tryz.params5]; rfl) rfl)
  obtain ⟨a1,e1,rep1⟩:=reads_arg1 (enc:=fun a:Int=>pI a) hk hval 1 rfl rfl (cells_int Tryz.underlying3) (fun n=>rd.rI n) h1
  obtain ⟨a2,e2,rep2⟩:=reads_arg1 (enc:=fun a:Int=>pI a) hk hval 2 rfl rfl (cells_int Tryz.underlying3) (fun n=>rd.rI n) h2
  obtain ⟨a3,e3,rep3⟩:=reads_arg1 (enc:=fun a:Int=>PV.int .u8 a) hk hval 3 rfl rfl (cells_int Tryz.underlying5) (fun n=>rd.rU8 n) h3
  obtain ⟨a4,e4,rep4⟩:=reads_arg1 (enc:=fun a:Int=>pI a) hk hval 4 rfl rfl (cells_int Tryz.underlying3) (fun n=>rd.rI n) h4
  have z0:=reach_sl hsz 0 (by rw [Tryz.params5]; rfl) rfl Tryz.underlying22 (n:=56) (by kernel_rfl:Tryz.prog.bytesOf 57 = 56) h0 (cells_slice Tryz.underlying22 (hval 0 _ _ rfl rfl)) rep0
  rw [List.length_map] at z0
  refine (w.law_InforceOrder a0 a1 a2 a3 a4 e0 e1 e2 e3 e4 z0).2.2 (g0 W) W _ (g0_rel W hk) ⟨rfl,fun j hj=>?_⟩ |>.mono ?_
  · match j with
    | 0=>exact rep0
    | 1=>exact rep1
    | 2=>exact rep2
    | 3=>exact rep3
    | 4=>exact rep4
    | n + 5=>first | (simp at hj; done) | (simp at hj; omega)
  · rintro x W' ⟨v,m',rfl,hrep,_,hbelow⟩
    obtain rfl:=hrep.bool_inv
    refine ⟨_,rfl,post_below laid ?_ (by rfl) Tryz.underlying4 rfl rfl rfl rfl hW' hbelow⟩
    rw [Tryz.params5]
    intro t ht
    have ht':t = 22 ∨ t = 3 ∨ t = 5:=by first | (simp at ht; omega) | (simpa using ht) | (simp at ht; rcases ht with h | h | h | h <;> subst h <;> simp)
    rcases ht' with rfl | rfl | rfl
    · exact ⟨rec0,of_decide_eq_true lt0⟩
    · exact ⟨rec1,of_decide_eq_true lt1⟩
    · exact ⟨rec2,of_decide_eq_true lt2⟩
set_option maxRecDepth 100000 in
theorem lifted (os : Os) (started : os.Started) (H : Type) (enc : TypeId × Value → H) :
    ReturnsInHanded {} Tryz.checked os 5 .any (Rows.inforceOrderSpec.pre6 enc Tryz.prog Tryz.f5 Rows.inforceOrderRow.domain false) (Rows.inforceOrderSpec.post enc Tryz.prog Tryz.f5 false true false false):=by
  refine returnsInHanded_of_change_sized (C:=Tryz.checked) own started (by kernel_rfl) Tryz.func5
    (ChangeSpec.witness6 (enc:=enc) (C:=Tryz.checked) false ⟨#[],#[.slice none 0 0,.int .i64 0,.int .i64 0,.int .u8 0,.int .i64 0],[]⟩ 8 (by kernel_rfl) (by kernel_rfl) (by kernel_rfl) (by kernel_rfl)) ?_
  intro W base args ds gs before hval hW hcnd hsz _
  exact contract H enc W base args ds gs before hval hW hsz
theorem over:Rows.inforceOrderRow.holds Tryz.pinned (OpenSpec.ofChange Rows.inforceOrderSpec) :=
  OpenClaim.holds_of_wide 5 Tryz.f5 rfl rfl rfl rfl rfl rfl rfl ⟨rfl,rfl,rfl,rfl,rfl⟩ rfl rfl rfl rfl rfl (by kernel_rfl) Tryz.func5 (by kernel_rfl)
    (of_decide_eq_true (by kernel_rfl)) (by unfold Func.isWrapper; first | (rw [if_pos (by decide +kernel)]; kernel_rfl) | (rw [if_neg (by decide +kernel)]; exact ⟨rfl,rfl⟩))
    (fun os started H enc _=>lifted os started H enc)
theorem proved:Rows.InforceOrderSaid:=over
end Go.Proofs.YtehokmhebnkfdaaGreat.inforceOrder
