import Derived.Test.YtldogpfookkbaaaGreatDoorIv
import Derived.ProofKit
import Derived.Deep.DeepWitnessRowRef
import Derived.Test.YtldogpfookkbaaaGreatDoorCards
import Derived.Test.YtldogpfookkbaaaGreatDoorTie
set_option linter.all false
namespace Go.Proofs.YtldogpfookkbaaaGreatDoor.ordersetMinimum
open Go Go.VM Go.ChangeShapes Go.WideShapes Go.ChangeAt Go.RowKit
theorem own:ownKnob Tryz.prog.godebug=none:=by kernel_rfl
theorem laid:laidOutB Tryz.prog=true:=by kernel_rfl
theorem rec0:Tryz.prog.readableRec 39=true:=by kernel_rfl
theorem lt0:(decide (39<Tryz.prog.types.size))=true:=by kernel_rfl
theorem rec1:Tryz.prog.readableRec 46=true:=by kernel_rfl
theorem lt1:(decide (46<Tryz.prog.types.size))=true:=by kernel_rfl
set_option maxRecDepth 100000 in
theorem contract(H:Type)(enc:TypeId×Value→H)(W:World)(base:Nat)(args:Array Value)(ds gs:List (DataW H))(before:List MemPlace)
    (hk:Zdp W)(hval:∀(j:Nat) t v,Tryz.f7.params[j]?=some t→args[j]?=some v→Value.okWide Tryz.prog W .any base t v)
    (hW:DataW.Whole enc Tryz.prog Tryz.f7.params.toList Rows.ordersetMinimumSpec.vars false W args.toList ds gs before)
    (hcond:Rows.uptoSmall H (ds++gs)=true)
    (hsz:(DataW.weightsEach Tryz.prog (Tryz.f7.params.toList++(Rows.OpenSpec.upto Rows.ordersetMinimumSpec).bare.plain.varTypes Tryz.prog) (ds++gs)).all (·≤reachBytes)=true):
    Calls Tryz.prog 7 args W fun e W'=>∃v,e=.returned v∧Rows.ordersetMinimumSpec.post enc Tryz.prog Tryz.f7 false true false false W args v W':=by
  have hW':=hW;obtain⟨p,q,hA0,hV,rfl,hfz,hnd⟩:=hW;have hA:DataW.TrodAll enc Tryz.prog W 0 (fun _=>true) true Tryz.f7.params.toList args.toList ds p:=hA0;rw[Tryz.params7]at hA hval;obtain⟨v0,vs0,d0,ds0,p0,q0,hargs,rfl,rfl,h0,r0⟩:=trodAll_cons hA;obtain⟨v1,vs1,d1,ds1,p1,q1,rfl,rfl,rfl,h1,r1⟩:=trodAll_cons r0;obtain⟨rfl,rfl,rfl⟩:=trodAll_nil r1;obtain rfl:args=#[v0,v1]:=by cases args;simp_all
  obtain⟨rfl,rfl⟩:=trodVars_none hV;have hbk:=w.Z5e hcond;obtain⟨a0,e0,rep0⟩:=Z4l hk hval 0 rfl rfl Tryz.underlying39 (fun n=>rd.rUnU n) h0 Rows.uptoBulk w.bulky (hbk d0 (by simp));obtain⟨a1,e1,rep1⟩:=Z0c hk (enc:=fun l:List Ac=>PV.sl 7 (l.map Ac.enc)) hval 1 rfl rfl (Zza Tryz.underlying46) (fun n=>rd.rAcsU n) h1 Rows.uptoBulk w.bulky (hbk d1 (by simp));refine(w.Zja a0 a1 e0 e1 ).2.2 (g0 W) W _ (g0_rel W hk) ⟨rfl,fun j hj=>?_⟩|>.mono ?_
  · match j with
    |0=>exact rep0
    |1=>exact rep1
    |n+2=>simp at hj<;>omega
  · rintro x W' ⟨v,m',rfl,hrep,_,hbelow⟩
    obtain rfl:=hrep.bool_inv;refine⟨_,rfl,Z27 laid ?_ (by rfl) Tryz.underlying4 rfl rfl rfl rfl hW' hbelow⟩;rw[Tryz.params7];intro t ht;have ht':t=39∨t=46:=by simp at ht;first|omega|exact ht|(rcases ht with h|h|h|h<;>simp[h])|(rcases ht with h|h|h<;>simp[h])|(rcases ht with h|h<;>simp[h])|simpa using ht
    rcases ht' with rfl|rfl
    ·exact⟨rec0,of_decide_eq_true lt0⟩
    ·exact⟨rec1,of_decide_eq_true lt1⟩
theorem and_tt{a b:Bool}(h:a=true)(k:b=true):(a&&b)=true:=by rw[h,k];rfl
theorem j0:Rows.ordersetMinimumUptoRow.wf (OpenSpec.ofChange (Rows.OpenSpec.upto Rows.ordersetMinimumSpec).bare)=true:=by kernel_rfl
theorem j1:laidOutB Tryz.prog=true:=by kernel_rfl
theorem j2:mapsRowed Tryz.prog=true:=by kernel_rfl
theorem j3:Tryz.f7.params.all (Tryz.prog.readableRec ·)=true:=by kernel_rfl
theorem j4:namedTie Tryz.prog Rows.ordersetMinimumUptoRow.named (Rows.OpenSpec.upto Rows.ordersetMinimumSpec).bare.vars=true:=by kernel_rfl
theorem j5:(Rows.ordersetMinimumUptoRow.stops==[])=true:=by kernel_rfl
theorem j6:(Tryz.prog.stops==[])=true:=by kernel_rfl
theorem j7:(Rows.ordersetMinimumUptoRow.knobs==[])=true:=by kernel_rfl
theorem j8:(Tryz.prog.stopKnobs==[])=true:=by kernel_rfl
theorem j9:(Rows.ordersetMinimumUptoRow.inPlace==Tryz.prog.inPlace 7)=true:=by kernel_rfl
theorem j10:(Rows.ordersetMinimumUptoRow.unfollowed==Tryz.prog.unfollowed 7)=true:=by kernel_rfl
theorem j11:(Rows.ordersetMinimumUptoRow.recurses==Tryz.prog.recurses 7)=true:=by kernel_rfl
theorem j12:(Rows.ordersetMinimumUptoRow.named==Tryz.prog.varsNamed 7)=true:=by kernel_rfl
theorem j13:(Rows.ordersetMinimumUptoRow.maps==(Tryz.f7.params.toList++(Rows.OpenSpec.upto Rows.ordersetMinimumSpec).bare.plain.varTypes Tryz.prog).any (Tryz.prog.mapsRec ·))=true:=by kernel_rfl
theorem j14:(Rows.ordersetMinimumUptoRow.ifaces==(Tryz.f7.params.toList++(Rows.OpenSpec.upto Rows.ordersetMinimumSpec).bare.plain.varTypes Tryz.prog).any (Tryz.prog.ifacesRec ·))=true:=by kernel_rfl
theorem j15:(Rows.ordersetMinimumUptoRow.mapsOut==Tryz.prog.mapsAmong Tryz.f7.resultTypes.toList)=true:=by kernel_rfl
theorem j16:(Rows.ordersetMinimumUptoRow.loops==(Tryz.f7.params.toList++(Rows.OpenSpec.upto Rows.ordersetMinimumSpec).bare.plain.varTypes Tryz.prog).any (Tryz.prog.loopsFrom ·))=true:=by kernel_rfl
theorem j17:(Rows.ordersetMinimumUptoRow.wideKeys==(Tryz.f7.params.toList++(Rows.OpenSpec.upto Rows.ordersetMinimumSpec).bare.plain.varTypes Tryz.prog++Tryz.f7.resultTypes.toList).any (Tryz.prog.wideKeysFrom ·))=true:=by kernel_rfl
theorem j18:(Rows.OpenSpec.upto Rows.ordersetMinimumSpec).bare.vars.all (Tryz.prog.varReadable ·)=true:=by kernel_rfl
theorem j19:Tryz.f7.resultTypes.all (fun t=>Tryz.prog.readableRec t&&decide (t<Tryz.prog.types.size))=true:=by kernel_rfl
theorem j20:(Rows.ordersetMinimumUptoRow.ifacesOut==Tryz.f7.resultTypes.toList.any (Tryz.prog.ifacesRec ·))=true:=by kernel_rfl
theorem j21:(Rows.ordersetMinimumUptoRow.loopsOut==Tryz.f7.resultTypes.toList.any (Tryz.prog.loopsFrom ·))=true:=by kernel_rfl
theorem j22:(Rows.ordersetMinimumUptoRow.plainKeys==Tryz.prog.plainKeys)=true:=by kernel_rfl
theorem j23:Rows.ordersetMinimumUptoRow.shortTexts.isNone=true:=by kernel_rfl
theorem j24:Tryz.prog.stopsHeard=true:=by kernel_rfl
theorem j25:Tryz.prog.mayEnter=true:=by kernel_rfl
theorem j26:(Rows.ordersetMinimumUptoRow.lifted==Tryz.prog.liftsFinal)=true:=by kernel_rfl
theorem j27:(Tryz.prog.make==some Rows.ordersetMinimumUptoRow.make)=true:=by kernel_rfl
theorem j28:(Rows.ordersetMinimumUptoRow.kinds==(if Rows.ordersetMinimumUptoRow.domain.isEmpty then[]else Tryz.f7.params.toList.map fun t=>match Tryz.prog.underlying t with|some (.int k)=>some k|_=>none))=true:=by kernel_rfl
theorem j29:(Rows.ordersetMinimumUptoRow.pinned==Rows.ordersetMinimumUptoRow.pinnedBy)=true:=by kernel_rfl
theorem j30:(Rows.ordersetMinimumUptoRow.veiled==(Tryz.f7.params.toList++(Rows.OpenSpec.upto Rows.ordersetMinimumSpec).bare.plain.varTypes Tryz.prog++Tryz.f7.resultTypes.toList).any (Tryz.prog.veiledRec ·))=true:=by kernel_rfl
theorem j31:Rows.ordersetMinimumUptoRow.veiledFits Tryz.prog Tryz.f7.params.toList (Tryz.f7.params.toList++(Rows.OpenSpec.upto Rows.ordersetMinimumSpec).bare.plain.varTypes Tryz.prog++Tryz.f7.resultTypes.toList)=true:=by kernel_rfl
set_option maxRecDepth 100000 in
theorem facts:joinedFacts Tryz.prog 7 Tryz.f7 (Rows.OpenSpec.upto Rows.ordersetMinimumSpec).bare Rows.ordersetMinimumUptoRow=true:=by
 delta joinedFacts
 refine and_tt ?_ j31;refine and_tt ?_ j30;refine and_tt ?_ j29;refine and_tt ?_ j28;refine and_tt ?_ j27;refine and_tt ?_ j26;refine and_tt ?_ j25;refine and_tt ?_ j24;refine and_tt ?_ j23;refine and_tt ?_ j22;refine and_tt ?_ j21;refine and_tt ?_ j20;refine and_tt ?_ j19;refine and_tt ?_ j18;refine and_tt ?_ j17;refine and_tt ?_ j16;refine and_tt ?_ j15;refine and_tt ?_ j14;refine and_tt ?_ j13;refine and_tt ?_ j12;refine and_tt ?_ j11;refine and_tt ?_ j10;refine and_tt ?_ j9;refine and_tt ?_ j8;refine and_tt ?_ j7;refine and_tt ?_ j6;refine and_tt ?_ j5;refine and_tt ?_ j4;refine and_tt ?_ j3;refine and_tt ?_ j2;refine and_tt ?_ j1;exact j0
noncomputable def low:Nat:=(World.holding Tryz.prog default ⟨#[],#[],[]⟩).heap.size
noncomputable def laidWorld (os:Os):World:=
 { World.holding Tryz.prog os ⟨#[.cells #[.int .i64 1, .int .i64 2] 3 (0,0), .cells #[.int .i64 2] 3 (0,0), .cells #[.int .i64 3, .int .i64 4, .int .i64 7] 3 (0,0), .cells #[.int .i64 3, .int .i64 4, .int .i64 7] 3 (0,0), .cells #[.int .i64 5] 3 (0,0), .cells #[.int .i64 6] 3 (0,0)], #[],[]⟩with heap:=((((((World.holding Tryz.prog os ⟨#[.cells #[.int .i64 1, .int .i64 2] 3 (0,0), .cells #[.int .i64 2] 3 (0,0), .cells #[.int .i64 3, .int .i64 4, .int .i64 7] 3 (0,0), .cells #[.int .i64 3, .int .i64 4, .int .i64 7] 3 (0,0), .cells #[.int .i64 5] 3 (0,0), .cells #[.int .i64 6] 3 (0,0)], #[],[]⟩).heap.modify 3 fun
   | .cells _ t frozen=>.cells #[.int .u8 128,.int .u8 191,.int .u8 160,.int .u8 191,.int .u8 128,.int .u8 159,.int .u8 144,.int .u8 191,.int .u8 128,.int .u8 143,.int .u8 0,.int .u8 0,.int .u8 0,.int .u8 0,.int .u8 0,.int .u8 0,.int .u8 0,.int .u8 0,.int .u8 0,.int .u8 0,.int .u8 0,.int .u8 0,.int .u8 0,.int .u8 0,.int .u8 0,.int .u8 0,.int .u8 0,.int .u8 0,.int .u8 0,.int .u8 0,.int .u8 0,.int .u8 0] t frozen
   |o=>o).modify 4 fun
   | .cells _ t frozen=>.cells #[.string { data:=#[98,111,111,107] },.string { data:=#[112,97,114,116] },.string { data:=#[115,101,99,116,105,111,110] },.string { data:=#[112,97,114,97,103,114,97,112,104] },.string { data:=#[116,97,98,108,101] },.string { data:=#[114,111,119] },.string { data:=#[99,101,108,108] },.string { data:=#[110,111,116,101] }] t frozen
   |o=>o).modify 1 fun
   | .cells _ t frozen=>.cells #[.slice (some ⟨low+0,0,none⟩) 2 2,.slice (some ⟨low+1,0,none⟩) 1 1,.slice (some ⟨low+2,0,none⟩) 3 3,.slice (some ⟨low+3,0,none⟩) 3 3,.slice (some ⟨low+4,0,none⟩) 1 1,.slice (some ⟨low+5,0,none⟩) 1 1,.slice none 0 0,.slice none 0 0] t frozen
   |o=>o).modify 0 fun
   | .cells _ t frozen=>.cells #[.func (.func 299) #[] #[],.func (.func 300) #[] #[]] t frozen
   |o=>o).modify 2 fun
   | .cells _ t frozen=>.cells (Go.Pinned.utf8FirstZ.toArray.map fun z:Nat=>Value.int .u8 (z:Int)) t frozen
   |o=>o) }
theorem laid_met(os:Os):laidMetH Tryz.prog Rows.ordersetMinimumUptoRow.laid ((laidWorld os).forCall (fun _ _=>0) ⟨#[],#[.agg #[.int .i64 0,.int .i64 0,.int .i64 0,.int .i64 0,.string .empty,.slice none 0 0,.slice none 0 0,.slice none 0 0],.slice none 0 0],[]⟩).memory:=
 laidMetH_of_parts3 (fuel:=8) (laidMet_of_run' 8 (by kernel_rfl) (by kernel_rfl)) (by kernel_rfl) (by kernel_rfl)
theorem reads(os:Os){H:Type}(enc:TypeId×Value→H):∃places,DataW.whole enc Tryz.prog ((laidWorld os).forCall (fun _ _=>0) ⟨#[],#[.agg #[.int .i64 0,.int .i64 0,.int .i64 0,.int .i64 0,.string .empty,.slice none 0 0,.slice none 0 0,.slice none 0 0],.slice none 0 0],[]⟩).memory Tryz.f7.params.toList Rows.ordersetMinimumSpec.vars false (#[.agg #[.int .i64 0,.int .i64 0,.int .i64 0,.int .i64 0,.string .empty,.slice none 0 0,.slice none 0 0,.slice none 0 0],.slice none 0 0]:Array Value).toList 8=some ([.agg [.agg [.lit (.int .i64 0),.lit (.int .i64 0),.lit (.int .i64 0)],.lit (.int .i64 0),.lit (.string []),.nil,.nil,.nil],.nil],[],places):=
 ⟨[],by kernel_rfl⟩
set_option maxRecDepth 100000 in
theorem lifted(os:Os)(started:os.Started)(H:Type)(enc:TypeId×Value→H)(F:Stop.Interp):
  ReturnsInHanded {} Tryz.checked os 7 .any ((Rows.OpenSpec.upto Rows.ordersetMinimumSpec).preRow enc Tryz.prog Tryz.f7 Rows.ordersetMinimumUptoRow.domain false Rows.ordersetMinimumUptoRow.laid) (((Rows.OpenSpec.upto Rows.ordersetMinimumSpec).at F).post enc Tryz.prog Tryz.f7 false true false false):=by
 obtain⟨places,hx⟩:=reads os enc;refine returnsInHanded_of_row (C:=Tryz.checked) (s:=Rows.OpenSpec.upto Rows.ordersetMinimumSpec) own started (by kernel_rfl) Tryz.func7
  (witness_row_atRef (enc:=enc) (C:=Tryz.checked) false (laidWorld os) #[.agg #[.int .i64 0,.int .i64 0,.int .i64 0,.int .i64 0,.string .empty,.slice none 0 0,.slice none 0 0,.slice none 0 0],.slice none 0 0] rfl (by kernel_rfl) (by kernel_rfl) (by kernel_rfl)
   (OpenSpec.preRow_of_cond 8 hx (by kernel_rfl) (fun k hk=>by cases hk;kernel_rfl) (by kernel_rfl) (laid_met os))) ?_
 intro W base args ds gs before hval hW _ hcond hsz hlaid _ _;exact contract H enc W base args ds gs before (w.Z9r (.tail _ (.tail _ (.tail _ (.head _)))) hlaid (by kernel_rfl)) hval hW (hcond _ rfl) hsz
theorem said:Rows.OrdersetMinimumUptoSaid:=
 OpenClaim.holds_of_cond 7 Tryz.f7 rfl rfl rfl rfl rfl rfl rfl ⟨rfl,rfl,rfl,rfl,rfl⟩ rfl rfl rfl rfl rfl (by kernel_rfl) Tryz.func7 facts
  (of_decide_eq_true (by kernel_rfl)) (by unfold Func.isWrapper;first|(rw[if_pos (by decide+kernel)];kernel_rfl)|(rw[if_neg (by decide+kernel)];exact⟨rfl,rfl⟩))
  (fun os started H enc _ F=>by rw[OpenClaim.pre_eq_preRow];exact lifted os started H enc F)
theorem plain0:Tryz.prog.wantsStandIn 39=false:=by kernel_rfl
theorem plain1:Tryz.prog.wantsStandIn 46=false:=by kernel_rfl
theorem plain(f:FuncId)(fn:Func)(hf:Tryz.pinned.checked.prog.funcNamed Rows.ordersetMinimumUptoRow.func=some f)(hfn:Tryz.pinned.checked.prog.funcs[f]?=some fn):
  false=Tryz.pinned.checked.prog.looks []∧∀(j:Nat) t,fn.params[j]?=some t→Tryz.pinned.checked.prog.wantsStandIn t=false:=by
 obtain rfl:f=7:=Option.some.inj ((show Tryz.prog.funcNamed Rows.ordersetMinimumUptoRow.func=some 7 by kernel_rfl).symm.trans hf)|>.symm;obtain rfl:fn=Tryz.f7:=(Option.some.inj (Tryz.func7.symm.trans hfn)).symm;refine⟨by kernel_rfl,fun j t ht=>?_⟩;rw[Tryz.params7]at ht;have hm:=Array.mem_of_getElem? ht;have ht':t=39∨t=46:=by simp at hm;first|omega|exact hm|(rcases hm with h|h|h|h<;>simp[h])|(rcases hm with h|h|h<;>simp[h])|(rcases hm with h|h<;>simp[h])|simpa using hm
 rcases ht' with rfl|rfl
 ·exact plain0
 ·exact plain1
theorem proved:Rows.OrdersetMinimumUptoCardSaid:=
 Claim7.holds_tied_plain_at .later [] _ _ _ _ said (fun _ h=>by cases h) (by kernel_rfl) (fun _ h=>by cases h) ordersetMinimumUpto_row_tie rfl ⟨rfl,rfl⟩ (by kernel_rfl) rfl plain (by kernel_rfl)
end Go.Proofs.YtldogpfookkbaaaGreatDoor.ordersetMinimum
