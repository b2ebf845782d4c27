import Derived.Test.YtldogpfookkbaaaGreatDoorVmC
import Derived.Test.YtldogpfookkbaaaGreatDoorVmZ
import Derived.Test.YtldogpfookkbaaaGreatDoorC3
import Derived.Test.YtldogpfookkbaaaGreatDoorShI
import Derived.Lib.AppendIntMem
set_option linter.all false
set_option maxRecDepth 20000
set_option maxHeartbeats 0
namespace Go.Proofs.YtldogpfookkbaaaGreatDoor.w
open Go Go.VM
def c_label_parted_1:VC:=(ZR [ZO 2 (.mv (.c (.bool false)))] (ZR [ZM 3 0,ZO 4 (.bin .lss (.t 3) (.c (.int .i32 48))),ZM 5 4,ZG 6 (.mv (.t 0)) 5 false,ZG 7 (.bin .gtr (.t 6) (.c (.int .i32 57))) 5 false,ZO 8 (.pick (.t 5) (.c (.bool true)) (.t 7)),ZM 2 8] .ret))
def c_label_Valid_1:VC:=(ZR [ZO 2 (.mv (.c (.bool false)))] (ZR [ZM 3 0,ZO 4 (.bin .lss (.t 3) (.c (.int .i32 65))),ZM 5 4,ZG 6 (.mv (.t 0)) 5 false,ZG 7 (.bin .gtr (.t 6) (.c (.int .i32 90))) 5 false,ZO 8 (.pick (.t 5) (.c (.bool true)) (.t 7)),ZM 2 8] .ret))
def pD (x:Nat):Bool:=decide ((x:Int)<48)||decide ((57:Int)<x)
def pU (x:Nat):Bool:=decide ((x:Int)<65)||decide ((90:Int)<x)
theorem sp_label_parted_1 (x:Nat):Zan Tryz.prog 228 [.int .i32 x] (.bool (pD x)):=by
 unfold pD;refine Gp (vc:=c_label_parted_1) [.t 2] (cB _) Tryz.func228 ?_;unfold c_label_parted_1;try dsimp only [ZM,ZO,ZN,ZG,ZR,ZU]
 refine Rp0 [0] ?_;refine Rp0 [2] ?_;refine OpsW_split rfl (fun g=>?_) (fun g=>?_)
 ·refine Sp1 g ?_;refine Tp0 ?_;rw [Bool.false_or];exact View.refl _ _
 ·refine Sp1 g ?_;refine Tp0 ?_;rw [Bool.true_or];exact View.refl _ _
theorem sp_label_Valid_1 (x:Nat):Zan Tryz.prog 197 [.int .i32 x] (.bool (pU x)):=by
 unfold pU;refine Gp (vc:=c_label_Valid_1) [.t 2] (cB _) Tryz.func197 ?_;unfold c_label_Valid_1;try dsimp only [ZM,ZO,ZN,ZG,ZR,ZU]
 refine Rp0 [0] ?_;refine Rp0 [2] ?_;refine OpsW_split rfl (fun g=>?_) (fun g=>?_)
 ·refine Sp1 g ?_;refine Tp0 ?_;rw [Bool.false_or];exact View.refl _ _
 ·refine Sp1 g ?_;refine Tp0 ?_;rw [Bool.true_or];exact View.refl _ _
theorem grows_of {P:Program} {f:FuncId} {p:Nat→Bool} (H:∀ x:Nat,Zan P f [.int .i32 x] (.bool (p x))) {g:Gh} {w:World} (r:Rel g w Heap.nil):PredGrows P f #[] p w:=by
 intro W x _ hb;obtain ⟨r',_⟩:=r.below (memExt_below r hb) hb;refine ((H x).2.2 _ W (#[encR x]++#[]) r' ⟨rfl,fun j hj=>?_⟩).mono ?_
 ·obtain rfl:j=0:=by simp at hj;omega
  exact .int .i32 x
 ·rintro e w' ⟨v,m',rfl,hv,_,hb'⟩;obtain rfl:=hv.bool_inv;exact ⟨rfl,hb'⟩
theorem fn0_inv {g:Gh} {u:Value} {f:FuncId} (h:Rep g u (.fn (.func f) [] [])):u=.func (.func f) #[] #[]:=by
 obtain ⟨fs,cs,rfl,h1,h2⟩:=h.fn_inv;have e1:fs=#[]:=Array.eq_empty_of_size_eq_zero h1.1;have e2:cs=#[]:=Array.eq_empty_of_size_eq_zero h2.1;rw [e1,e2]
theorem sp_IndexD (s:Str):Zan Tryz.prog 227 [.str s,.fn (.func 228) [] []] (pI (Lib.idxFunc pD true ⟨s.toArray⟩)):=by
 refine PCall_of (by kernel_rfl) (by intro x hx;simp only [List.mem_cons,List.not_mem_nil,or_false] at hx;rcases hx with rfl|rfl;exact cS _;exact closed_fn0 _) fun g w vals r ha=>?_;obtain ⟨v,u,rfl,hv,hu⟩:=args_2 ha;obtain ⟨z,rfl,hs⟩:=hv.str_inv;obtain rfl:=fn0_inv hu;rw [str_eq hs];refine (Any.strings_IndexFunc_grows Tryz.laysIndexFunc _ #[] (enters_of Tryz.func228 (by kernel_rfl) rfl) pD _ w (grows_of sp_label_parted_1 r)).mono ?_;rintro e w' ⟨rfl,hb⟩;exact ⟨_,rfl,fun g=>.int _ _,hb⟩
theorem sp_IndexU (s:Str):Zan Tryz.prog 227 [.str s,.fn (.func 197) [] []] (pI (Lib.idxFunc pU true ⟨s.toArray⟩)):=by
 refine PCall_of (by kernel_rfl) (by intro x hx;simp only [List.mem_cons,List.not_mem_nil,or_false] at hx;rcases hx with rfl|rfl;exact cS _;exact closed_fn0 _) fun g w vals r ha=>?_;obtain ⟨v,u,rfl,hv,hu⟩:=args_2 ha;obtain ⟨z,rfl,hs⟩:=hv.str_inv;obtain rfl:=fn0_inv hu;rw [str_eq hs];refine (Any.strings_IndexFunc_grows Tryz.laysIndexFunc _ #[] (enters_of Tryz.func197 (by kernel_rfl) rfl) pU _ w (grows_of sp_label_Valid_1 r)).mono ?_;rintro e w' ⟨rfl,hb⟩;exact ⟨_,rfl,fun g=>.int _ _,hb⟩
theorem idx1:Zan Tryz.prog 227 [.str [49],.fn (.func 228) [] []] (pI (-1)):=by
 have:=sp_IndexD [49]
 rwa [show Lib.idxFunc pD true ⟨([49]:Str).toArray⟩ = -1 by kernel_rfl] at this
theorem idx2:Zan Tryz.prog 227 [.str [50],.fn (.func 228) [] []] (pI (-1)):=by
 have:=sp_IndexD [50]
 rwa [show Lib.idxFunc pD true ⟨([50]:Str).toArray⟩ = -1 by kernel_rfl] at this
theorem idx0:Zan Tryz.prog 227 [.str [],.fn (.func 197) [] []] (pI (-1)):=by
 have:=sp_IndexU []
 rwa [show Lib.idxFunc pU true ⟨([]:Str).toArray⟩ = -1 by kernel_rfl] at this
end Go.Proofs.YtldogpfookkbaaaGreatDoor.w
