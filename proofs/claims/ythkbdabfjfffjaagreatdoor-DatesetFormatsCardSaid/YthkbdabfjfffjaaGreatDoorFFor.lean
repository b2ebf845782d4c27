import Derived.Test.YthkbdabfjfffjaaGreatDoorL1
import Derived.WalkKit
import Derived.ProofKit
import Derived.OpenShut
import Derived.JoinedCond
import Derived.Deep.DeepHandedRow
import Derived.Test.YthkbdabfjfffjaaGreatDoorCards
import Derived.Test.YthkbdabfjfffjaaGreatDoorTie
import Derived.Test.YthkbdabfjfffjaaGreatDoorVmG
set_option linter.all false
namespace Go.Proofs.YthkbdabfjfffjaaGreatDoor.datesetFormats
open Go Go.VM Go.ChangeShapes Go.WideShapes Go.ChangeAt Go.RowKit
theorem own:ownKnob Tryz.prog.godebug = none:=by kernel_rfl
theorem laid:laidOutB Tryz.prog = true:=by kernel_rfl
theorem rec0:Tryz.prog.readableRec 22 = true:=by kernel_rfl
theorem lt0:(decide (22 < Tryz.prog.types.size)) = true:=by kernel_rfl
theorem rec1:Tryz.prog.readableRec 9 = true:=by kernel_rfl
theorem lt1:(decide (9 < Tryz.prog.types.size)) = true:=by kernel_rfl
set_option maxRecDepth 100000 in
theorem contract (H : Type) (enc : TypeId × Value → H) (W : World) (base : Nat) (args : Array Value) (ds gs : List (DataW H)) (before : List MemPlace)
    (hk:KnownW W) (hval:∀ (j:Nat) t v,Tryz.f3.params[j]? = some t → args[j]? = some v → Value.okWide Tryz.prog W .any base t v)
    (hW:DataW.Whole enc Tryz.prog Tryz.f3.params.toList Rows.datesetFormatsSpec.vars false W args.toList ds gs before)
    (hsz:(DataW.weightsEach Tryz.prog (Tryz.f3.params.toList ++ (OpenSpec.ofChange Rows.datesetFormatsSpec).bare.plain.varTypes Tryz.prog) (ds ++ gs)).all (· ≤ reachBytes) = true) :
    Calls Tryz.prog 3 args W fun e W'=>∃ v,e = .returned v ∧ Rows.datesetFormatsSpec.post enc Tryz.prog Tryz.f3 false true false false W args v W':=by
  have hW':=hW
  obtain ⟨p,q,hA0,hV,rfl,hfz,hnd⟩:=hW
  have hA:DataW.TrodAll enc Tryz.prog W 0 (fun _=>true) true Tryz.f3.params.toList args.toList ds p:=hA0
  rw [Tryz.params3] at hA hval
  obtain ⟨v0,vs0,d0,ds0,p0,q0,hargs,rfl,rfl,h0,r0⟩:=trodAll_cons hA
  obtain ⟨v1,vs1,d1,ds1,p1,q1,rfl,rfl,rfl,h1,r1⟩:=trodAll_cons r0
  obtain ⟨rfl,rfl,rfl⟩:=trodAll_nil r1
  obtain rfl:args = #[v0,v1]:=by cases args; simp_all
  obtain ⟨rfl,rfl⟩:=trodVars_none hV
  obtain ⟨a0,e0,rep0⟩:=reads_arg1 hk (enc:=fun l:List Sp=>PV.sl 2 (l.map Sp.enc)) hval 0 rfl rfl (cells_slice Tryz.underlying22) (fun n=>rd.rSps n) h0
  obtain ⟨a1,e1,rep1⟩:=reads_arg1 hk (enc:=fun a:Str=>PV.str a) hval 1 rfl rfl (cells_string Tryz.underlying9) (fun n=>rd.rS n) h1
  have z0:=reach_sl hsz 0 (by rw [Tryz.params3]; rfl) rfl Tryz.underlying22 (n:=16) (by kernel_rfl:Tryz.prog.bytesOf 35 = 16) h0 (cells_slice Tryz.underlying22 (hval 0 _ _ rfl rfl)) rep0
  rw [List.length_map] at z0
  refine (w.law_DatesetFormats a0 a1 e0 e1 z0).2.2 (g0 W) W _ (g0_rel W hk) ⟨rfl,fun j hj=>?_⟩ |>.mono ?_
  · match j with
    | 0=>exact rep0
    | 1=>exact rep1
    | n + 2=>simp at hj <;> omega
  · rintro x W' ⟨v,m',rfl,hrep,_,hbelow⟩
    obtain rfl:=hrep.bool_inv
    refine ⟨_,rfl,post_below laid ?_ (by rfl) Tryz.underlying4 rfl rfl rfl rfl hW' hbelow⟩
    rw [Tryz.params3]
    intro t ht
    have ht':t = 22 ∨ t = 9:=by simp at ht; first | omega | exact ht | simpa using ht
    rcases ht' with rfl | rfl
    · exact ⟨rec0,of_decide_eq_true lt0⟩
    · exact ⟨rec1,of_decide_eq_true lt1⟩
noncomputable def low:Nat:=(World.holding Tryz.prog default ⟨#[],#[],[]⟩).heap.size
noncomputable def laidWorld (os:Os):World :=
  { World.holding Tryz.prog os ⟨#[.cells #[.string { data := #[118, 97, 108, 117, 101, 32, 111, 117, 116, 32, 111, 102, 32, 114, 97, 110, 103, 101] }] 154, .cells #[.string { data := #[105, 110, 118, 97, 108, 105, 100, 32, 115, 121, 110, 116, 97, 120] }] 154], #[], []⟩ with heap := ((((((((World.holding Tryz.prog os ⟨#[.cells #[.string { data := #[118, 97, 108, 117, 101, 32, 111, 117, 116, 32, 111, 102, 32, 114, 97, 110, 103, 101] }] 154, .cells #[.string { data := #[105, 110, 118, 97, 108, 105, 100, 32, 115, 121, 110, 116, 97, 120] }] 154], #[], []⟩).heap.modify 6 fun
      | .cells _ t frozen=>.cells #[.int .u8 0,.int .u8 1,.int .u8 28,.int .u8 2,.int .u8 29,.int .u8 14,.int .u8 24,.int .u8 3,.int .u8 30,.int .u8 22,.int .u8 20,.int .u8 15,.int .u8 25,.int .u8 17,.int .u8 4,.int .u8 8,.int .u8 31,.int .u8 27,.int .u8 13,.int .u8 23,.int .u8 21,.int .u8 19,.int .u8 16,.int .u8 7,.int .u8 26,.int .u8 12,.int .u8 18,.int .u8 6,.int .u8 11,.int .u8 5,.int .u8 10,.int .u8 9] t frozen
      | o=>o).modify 7 fun
      | .cells _ t frozen=>.cells #[.int .u8 0,.int .u8 1,.int .u8 56,.int .u8 2,.int .u8 57,.int .u8 49,.int .u8 28,.int .u8 3,.int .u8 61,.int .u8 58,.int .u8 42,.int .u8 50,.int .u8 38,.int .u8 29,.int .u8 17,.int .u8 4,.int .u8 62,.int .u8 47,.int .u8 59,.int .u8 36,.int .u8 45,.int .u8 43,.int .u8 51,.int .u8 22,.int .u8 53,.int .u8 39,.int .u8 33,.int .u8 30,.int .u8 24,.int .u8 18,.int .u8 12,.int .u8 5,.int .u8 63,.int .u8 55,.int .u8 48,.int .u8 27,.int .u8 60,.int .u8 41,.int .u8 37,.int .u8 16,.int .u8 46,.int .u8 35,.int .u8 44,.int .u8 21,.int .u8 52,.int .u8 32,.int .u8 23,.int .u8 11,.int .u8 54,.int .u8 26,.int .u8 40,.int .u8 15,.int .u8 34,.int .u8 20,.int .u8 31,.int .u8 10,.int .u8 25,.int .u8 14,.int .u8 19,.int .u8 9,.int .u8 13,.int .u8 8,.int .u8 7,.int .u8 6] t frozen
      | o=>o).modify 3 fun
      | .cells _ t frozen=>.cells #[.int .u64 1,.int .u64 10,.int .u64 100,.int .u64 1000,.int .u64 10000,.int .u64 100000,.int .u64 1000000,.int .u64 10000000,.int .u64 100000000,.int .u64 1000000000,.int .u64 10000000000,.int .u64 100000000000,.int .u64 1000000000000,.int .u64 10000000000000,.int .u64 100000000000000,.int .u64 1000000000000000,.int .u64 10000000000000000,.int .u64 100000000000000000,.int .u64 1000000000000000000,.int .u64 10000000000000000000] t frozen
      | o=>o).modify 5 fun
      | .cells _ t frozen=>.cells #[.int .u8 128,.int .u8 191,.int .u8 160,.int .u8 191,.int .u8 128,.int .u8 159,.int .u8 144,.int .u8 191,.int .u8 128,.int .u8 143,.int .u8 0,.int .u8 0,.int .u8 0,.int .u8 0,.int .u8 0,.int .u8 0,.int .u8 0,.int .u8 0,.int .u8 0,.int .u8 0,.int .u8 0,.int .u8 0,.int .u8 0,.int .u8 0,.int .u8 0,.int .u8 0,.int .u8 0,.int .u8 0,.int .u8 0,.int .u8 0,.int .u8 0,.int .u8 0] t frozen
      | o=>o).modify 2 fun
      | .cells _ t frozen=>.cells #[.iface 152 (.pointer (some ⟨low + 0,0,none⟩))] t frozen
      | o=>o).modify 1 fun
      | .cells _ t frozen=>.cells #[.iface 152 (.pointer (some ⟨low + 1,0,none⟩))] t frozen
      | o=>o).modify 4 fun
      | .cells _ t frozen=>.cells (Go.Pinned.utf8FirstZ.toArray.map fun z:Nat=>Value.int .u8 (z:Int)) t frozen
      | o=>o) }
theorem laid_met (os:Os):laidMet Tryz.prog Rows.datesetFormatsRow.laid ((laidWorld os).forCall (fun _ _=>0) ⟨#[],#[.slice none 0 0,.string .empty],[]⟩).memory :=
  laidMet_of_run' 8 (by kernel_rfl) (by kernel_rfl)
theorem reads (os:Os) {H:Type} (enc:TypeId × Value → H):∃ places,DataW.whole enc Tryz.prog ((laidWorld os).forCall (fun _ _=>0) ⟨#[],#[.slice none 0 0,.string .empty],[]⟩).memory Tryz.f3.params.toList Rows.datesetFormatsSpec.vars false (#[.slice none 0 0,.string .empty]:Array Value).toList 8 = some ([.nil,.lit (.string [])],[],places) :=
  ⟨[],by kernel_rfl⟩
set_option maxRecDepth 100000 in
theorem lifted (os : Os) (started : os.Started) (H : Type) (enc : TypeId × Value → H) (F : Stop.Interp) :
    ReturnsInHanded {} Tryz.checked os 3 .any ((OpenSpec.ofChange Rows.datesetFormatsSpec).preRow enc Tryz.prog Tryz.f3 Rows.datesetFormatsRow.domain false Rows.datesetFormatsRow.laid) (((OpenSpec.ofChange Rows.datesetFormatsSpec).at F).post enc Tryz.prog Tryz.f3 false true false false):=by
  obtain ⟨places,hx⟩:=reads os enc
  refine returnsInHanded_of_row (C:=Tryz.checked) (s:=OpenSpec.ofChange Rows.datesetFormatsSpec) own started (by kernel_rfl) Tryz.func3
    (witness_row_at (enc:=enc) (C:=Tryz.checked) false (laidWorld os) #[.slice none 0 0,.string .empty] rfl (by kernel_rfl) (by kernel_rfl) (by kernel_rfl)
      (OpenSpec.preRow_of_cond 8 hx (by kernel_rfl) (fun k hk=>by cases hk) (by kernel_rfl) (laid_met os))) ?_
  intro W base args ds gs before hval hW _ _ hsz hlaid hshp _
  exact contract H enc W base args ds gs before (w.knownW_of hlaid hshp (by kernel_rfl) (by kernel_rfl) (by kernel_rfl) (by kernel_rfl)) hval hW hsz
theorem said:Rows.DatesetFormatsSaid :=
  OpenClaim.holds_of_cond 3 Tryz.f3 rfl rfl rfl rfl rfl rfl rfl ⟨rfl,rfl,rfl,rfl,rfl⟩ rfl rfl rfl rfl rfl (by kernel_rfl) Tryz.func3 (by kernel_rfl)
    (of_decide_eq_true (by kernel_rfl)) (by unfold Func.isWrapper; first | (rw [if_pos (by decide +kernel)]; kernel_rfl) | (rw [if_neg (by decide +kernel)]; exact ⟨rfl,rfl⟩))
    (fun os started H enc _ F=>by rw [OpenClaim.pre_eq_preRow]; exact lifted os started H enc F)
theorem plain0:Tryz.prog.wantsStandIn 22 = false:=by kernel_rfl
theorem plain1:Tryz.prog.wantsStandIn 9 = false:=by kernel_rfl
theorem plain (f : FuncId) (fn : Func) (hf : Tryz.pinned.checked.prog.funcNamed Rows.datesetFormatsRow.func = some f) (hfn : Tryz.pinned.checked.prog.funcs[f]? = some fn) :
    true = Tryz.pinned.checked.prog.looks [] ∧ ∀ (j:Nat) t,fn.params[j]? = some t → Tryz.pinned.checked.prog.wantsStandIn t = false:=by
  obtain rfl:f = 3:=Option.some.inj ((show Tryz.prog.funcNamed Rows.datesetFormatsRow.func = some 3 by kernel_rfl).symm.trans hf) |>.symm
  obtain rfl:fn = Tryz.f3:=(Option.some.inj (Tryz.func3.symm.trans hfn)).symm
  refine ⟨by kernel_rfl,fun j t ht=>?_⟩
  rw [Tryz.params3] at ht
  have hm:=Array.mem_of_getElem? ht
  have ht':t = 22 ∨ t = 9:=by simp at hm; omega
  rcases ht' with rfl | rfl
  · exact plain0
  · exact plain1
theorem proved:Rows.DatesetFormatsCardSaid :=
  Claim7.holds_tied_plain_at .later [] _ _ _ _ said (fun _ h=>by cases h) (by kernel_rfl) (fun _ h=>by cases h) datesetFormats_row_tie rfl ⟨rfl,rfl⟩ (by kernel_rfl) rfl plain (by kernel_rfl)
end Go.Proofs.YthkbdabfjfffjaaGreatDoor.datesetFormats
