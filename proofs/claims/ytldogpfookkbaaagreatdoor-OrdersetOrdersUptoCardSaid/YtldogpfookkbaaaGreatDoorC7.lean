import Derived.Test.YtldogpfookkbaaaGreatDoorC6
import Derived.Test.YtldogpfookkbaaaGreatDoorVmBo
import Derived.Test.YtldogpfookkbaaaGreatDoorVmBa
import Derived.Test.YtldogpfookkbaaaGreatDoorVmC
import Derived.Test.YtldogpfookkbaaaGreatDoorVmZ
import Derived.Test.YtldogpfookkbaaaGreatDoorRows
import Derived.Test.YtldogpfookkbaaaGreatDoorChecked
import Derived.Lib.LaidTab
import Derived.LaidSub
import Derived.KernelRfl
import Derived.OpenShut
import Derived.LaidMore
import Derived.LaidHandle
set_option linter.all false
set_option maxRecDepth 20000
set_option maxHeartbeats 0
namespace Go.Proofs.YtldogpfookkbaaaGreatDoor.w
open Go Go.VM
def L0:List (Nat×List PV×PV):=[(227,[.str [49],.fn (.func 228) [] []],pI (-1)),(227,[.str [50],.fn (.func 228) [] []],pI (-1)),(227,[.str [],.fn (.func 197) [] []],pI (-1)),(226,[.str [104]],.bool true)]
theorem L0_ok:OrOk Tryz.prog L0:=Zau idx1 (Zau idx2 (Zau idx0 (Zau word_h OrOk_nil)))
def base:CX:=elseC (orcV L0) (apX 207)
theorem base_ok:CallOk Tryz.prog base:=elseC_ok (orcV_ok L0_ok) apX_ok
def u0:PV:=.agg [pI 0,pI 0,pI 0,pI 0,.str [],.nilsl,.nilsl,.sl 8 [[pI 1,pI 0,pI 1,pI 2,.str [49],.nilsl,.nilsl,.nilsl],[pI 1,pI 0,pI 2,pI 2,.str [50],.nilsl,.nilsl,.nilsl]]]
end Go.Proofs.YtldogpfookkbaaaGreatDoor.w
namespace Go.VM
open Go
theorem Zal.nilk {P:Program} {f:FuncId} {a b p:PV} (H:Zal P f [a,.sl 1 [],b] p):Zal P f [a,.nilsl,b] p:=by
 have key:∀ g v,Rep g v .nilsl→Rep g v (.sl 1 []):=fun g v hv=>by cases hv;exact .slE _ _ _
 refine ⟨H.1,fun x hx=>?_,fun g w vals r ha=>H.2.2 g w vals r ⟨ha.1,fun j hj=>?_⟩⟩
 ·simp only [List.mem_cons,List.not_mem_nil,or_false] at hx;rcases hx with rfl|rfl|rfl
  ·exact H.2.1 _ (by simp)
  ·exact Zbo
  ·exact H.2.1 _ (by simp)
 ·have h1:=ha.2 j hj
  match j,hj with
  | 0,_=>exact h1
  | 1,_=>exact key _ _ h1
  | 2,_=>exact h1
end Go.VM
namespace Go.Proofs.YtldogpfookkbaaaGreatDoor.w
open Go Go.VM
def rw3 (a b c:Int):List PV:=[.sl 1 [[pI a],[pI b],[pI c]]]
def all3:PV:=.sl 1 [rw3 0 1 2,rw3 0 2 1,rw3 1 0 2,rw3 1 2 0,rw3 2 0 1,rw3 2 1 0]
theorem ords3:Zal Tryz.prog 11 [pI 3,.nilsl,.sl 1 [[pI 0],[pI 1],[pI 2]]] all3:=by
 have H:=sp_Orders 3 [] [0,1,2] (by decide) (by decide);rw [show (PV.sl 1 (llR ((ordsP 3 [] [0,1,2]).map nz)))=all3 by kernel_rfl] at H;exact H.nilk
def act (n:Int) (l:UInt8):List PV:=[pI n,.str [116],pI 0,pI 0,pI 0,.str [],.sl 25 [[pI 4,.sl 2 [[pI 2,.str [l]]],.nilsl,pI 0,pI 0,pI 0,pI 0,pI 0,pI 0,.str [],.nilsl,.nilsl,.nilsl,.nilsl,.sl 1 [[.str [104]]],.str [],.str [],pI 0,pI 0,.str [],pI 0,pI 0,pI 0,.str [],.nilsl]]]
def acts:PV:=.sl 7 [act 2 49,act 3 49,act 4 50]
def uu (x y:PV):PV:=.agg [pI 0,pI 0,pI 0,pI 0,.str [],.nilsl,.nilsl,.sl 8 [[pI 1,pI 0,pI 1,pI 2,.str [49],x,.nilsl,.nilsl],[pI 1,pI 0,pI 2,pI 2,.str [50],y,.nilsl,.nilsl]]]
def hd (n:Int):PV:=.sl 4 [[.str [104],pI n,pI 0,pI 0]]
theorem ap0:Zal Tryz.prog 18 [uu .nilsl .nilsl,.agg (act 2 49)] (.tup [uu (hd 2) .nilsl,.nilsl]):=Zao base_ok T_ok 100 rfl (by kernel_rfl)
theorem ap1:Zal Tryz.prog 18 [uu .nilsl .nilsl,.agg (act 3 49)] (.tup [uu (hd 3) .nilsl,.nilsl]):=Zao base_ok T_ok 100 rfl (by kernel_rfl)
theorem ap2:Zal Tryz.prog 18 [uu .nilsl .nilsl,.agg (act 4 50)] (.tup [uu .nilsl (hd 4),.nilsl]):=Zao base_ok T_ok 100 rfl (by kernel_rfl)
theorem ap3:Zal Tryz.prog 18 [uu (hd 2) .nilsl,.agg (act 3 49)] (.tup [uu (hd 3) .nilsl,.nilsl]):=Zao base_ok T_ok 100 rfl (by kernel_rfl)
theorem ap4:Zal Tryz.prog 18 [uu (hd 2) .nilsl,.agg (act 4 50)] (.tup [uu (hd 2) (hd 4),.nilsl]):=Zao base_ok T_ok 100 rfl (by kernel_rfl)
theorem ap5:Zal Tryz.prog 18 [uu (hd 3) .nilsl,.agg (act 2 49)] (.tup [uu (hd 2) .nilsl,.nilsl]):=Zao base_ok T_ok 100 rfl (by kernel_rfl)
theorem ap6:Zal Tryz.prog 18 [uu (hd 3) .nilsl,.agg (act 4 50)] (.tup [uu (hd 3) (hd 4),.nilsl]):=Zao base_ok T_ok 100 rfl (by kernel_rfl)
theorem ap7:Zal Tryz.prog 18 [uu .nilsl (hd 4),.agg (act 2 49)] (.tup [uu (hd 2) (hd 4),.nilsl]):=Zao base_ok T_ok 100 rfl (by kernel_rfl)
theorem ap8:Zal Tryz.prog 18 [uu .nilsl (hd 4),.agg (act 3 49)] (.tup [uu (hd 3) (hd 4),.nilsl]):=Zao base_ok T_ok 100 rfl (by kernel_rfl)
theorem ap9:Zal Tryz.prog 18 [uu (hd 2) (hd 4),.agg (act 3 49)] (.tup [uu (hd 3) (hd 4),.nilsl]):=Zao base_ok T_ok 100 rfl (by kernel_rfl)
theorem ap10:Zal Tryz.prog 18 [uu (hd 3) (hd 4),.agg (act 2 49)] (.tup [uu (hd 2) (hd 4),.nilsl]):=Zao base_ok T_ok 100 rfl (by kernel_rfl)
def L2:List (Nat×List PV×PV):=(11,[pI 3,.nilsl,.sl 1 [[pI 0],[pI 1],[pI 2]]],all3)::[(18,[uu .nilsl .nilsl,.agg (act 2 49)],.tup [uu (hd 2) .nilsl,.nilsl]),(18,[uu .nilsl .nilsl,.agg (act 3 49)],.tup [uu (hd 3) .nilsl,.nilsl]),(18,[uu .nilsl .nilsl,.agg (act 4 50)],.tup [uu .nilsl (hd 4),.nilsl]),(18,[uu (hd 2) .nilsl,.agg (act 3 49)],.tup [uu (hd 3) .nilsl,.nilsl]),(18,[uu (hd 2) .nilsl,.agg (act 4 50)],.tup [uu (hd 2) (hd 4),.nilsl]),(18,[uu (hd 3) .nilsl,.agg (act 2 49)],.tup [uu (hd 2) .nilsl,.nilsl]),(18,[uu (hd 3) .nilsl,.agg (act 4 50)],.tup [uu (hd 3) (hd 4),.nilsl]),(18,[uu .nilsl (hd 4),.agg (act 2 49)],.tup [uu (hd 2) (hd 4),.nilsl]),(18,[uu .nilsl (hd 4),.agg (act 3 49)],.tup [uu (hd 3) (hd 4),.nilsl]),(18,[uu (hd 2) (hd 4),.agg (act 3 49)],.tup [uu (hd 3) (hd 4),.nilsl]),(18,[uu (hd 3) (hd 4),.agg (act 2 49)],.tup [uu (hd 2) (hd 4),.nilsl])]
theorem L2_ok:OrOk Tryz.prog L2:=Zau ords3 (Zau ap0 (Zau ap1 (Zau ap2 (Zau ap3 (Zau ap4 (Zau ap5 (Zau ap6 (Zau ap7 (Zau ap8 (Zau ap9 (Zau ap10 (OrOk_nil))))))))))))
end Go.Proofs.YtldogpfookkbaaaGreatDoor.w
namespace Go.Proofs.YtldogpfookkbaaaGreatDoor.w
open Go Go.VM
def bk (x y:PV):List PV:=[pI 0,pI 0,pI 0,pI 0,.str [],.nilsl,.nilsl,.sl 8 [[pI 1,pI 0,pI 1,pI 2,.str [49],x,.nilsl,.nilsl],[pI 1,pI 0,pI 2,pI 2,.str [50],y,.nilsl,.nilsl]]]
theorem rows3:Zal Tryz.prog 42 [u0,acts] (.tup [all3,.sl 8 [bk (hd 3) (hd 4),bk (hd 3) (hd 4),bk (hd 2) (hd 4),bk (hd 2) (hd 4),bk (hd 3) (hd 4),bk (hd 2) (hd 4)]]):=Zao (orcV_ok L2_ok) T_ok 60 rfl (by kernel_rfl)
end Go.Proofs.YtldogpfookkbaaaGreatDoor.w
namespace Go.Proofs.YtldogpfookkbaaaGreatDoor.w
open Go Go.VM
def L3:List (Nat×List PV×PV):=[(42,[u0,acts],.tup [all3,.sl 8 [bk (hd 3) (hd 4),bk (hd 3) (hd 4),bk (hd 2) (hd 4),bk (hd 2) (hd 4),bk (hd 3) (hd 4),bk (hd 2) (hd 4)]])]
theorem L3_ok:OrOk Tryz.prog L3:=Zau rows3 OrOk_nil
theorem cnt3:Zal Tryz.prog 21 [u0,acts] (pI 2):=Zao (orcV_ok L3_ok) T_ok 80 rfl (by kernel_rfl)
end Go.Proofs.YtldogpfookkbaaaGreatDoor.w
namespace Go.Proofs.YtldogpfookkbaaaGreatDoor.w
open Go Go.VM
theorem min3:Zal Tryz.prog 19 [u0,acts] (.tup [.sl 1 [[pI 0]],pI 0]):=Zao (orcV_ok L3_ok) T_ok 80 rfl (by kernel_rfl)
end Go.Proofs.YtldogpfookkbaaaGreatDoor.w
namespace Go.Proofs.YtldogpfookkbaaaGreatDoor.w
open Go Go.VM
def c_pandectlaw38_awake:VC:=(ZR [ZO 0 (.mv (.c (.bool false)))] (ZR [ZO 4 (.build [.int .i64 0,.int .i64 0,.int .i64 0] [(0,(1,(.c (.int .i64 1)))),(2,(1,(.c (.int .i64 1))))]),ZO 5 (.build ZU [(3,(1,(.c (.int .i64 2)))),(4,(1,(.c (.str [49])))),(0,(3,(.t 4)))]),ZO 6 (.build [.int .i64 0,.int .i64 0,.int .i64 0] [(0,(1,(.c (.int .i64 1)))),(2,(1,(.c (.int .i64 2))))]),ZO 7 (.build ZU [(3,(1,(.c (.int .i64 2)))),(4,(1,(.c (.str [50])))),(0,(3,(.t 6)))]),ZO 8 (.bslice 8 2 ZU [(0,(.t 5)),(1,(.t 7))]),ZO 9 (.build ZU [(7,(1,(.t 8)))]),ZO 1 (.alloc ZU),ZN (.store 8 (.t 1) (.t 9))] (.seq (.region [ZO 11 (.load true 8 (.t 1)),ZO 12 (.call 26 [(.c (.int .i64 2)),(.c (.str [49]))]),ZO 13 (.call 26 [(.c (.int .i64 3)),(.c (.str [49]))]),ZO 14 (.call 26 [(.c (.int .i64 4)),(.c (.str [50]))]),ZO 15 (.bslice 7 3 [.int .i64 0,(.str []),.int .i64 0,.int .i64 0,.int .i64 0,(.str []),.nilsl] [(0,(.t 12)),(1,(.t 13)),(2,(.t 14))]),ZO 16 (.call 19 [.t 11,.t 15]),ZM 10 16,ZO 17 (.ext (.t 10) 0),ZO 18 (.ext (.t 10) 1),ZM 2 17,ZM 3 18] true) (.seq (.region [ZM 19 3,ZO 20 (.bin .eql (.t 19) (.c (.int .i64 0))),ZM 21 20,ZG 22 (.mv (.t 2)) 21 true,ZG 23 (.bslice 1 1 [.int .i64 0] [(0,(.c (.int .i64 0)))]) 21 true,ZG 24 (.call 14 [.t 22,.t 23]) 21 true,ZO 25 (.pick (.t 21) (.t 24) (.c (.bool false))),ZM 26 25,ZG 27 (.load true 8 (.t 1)) 26 true,ZG 28 (.call 26 [(.c (.int .i64 2)),(.c (.str [49]))]) 26 true,ZG 29 (.call 26 [(.c (.int .i64 3)),(.c (.str [49]))]) 26 true,ZG 30 (.call 26 [(.c (.int .i64 4)),(.c (.str [50]))]) 26 true,ZG 31 (.bslice 7 3 [.int .i64 0,(.str []),.int .i64 0,.int .i64 0,.int .i64 0,(.str []),.nilsl] [(0,(.t 28)),(1,(.t 29)),(2,(.t 30))]) 26 true,ZG 32 (.call 21 [.t 27,.t 31]) 26 true,ZG 33 (.bin .eql (.t 32) (.c (.int .i64 2))) 26 true,ZO 34 (.pick (.t 26) (.t 33) (.c (.bool false))),ZM 35 34,ZG 36 (.bslice 1 1 [.int .i64 0] [(0,(.c (.int .i64 0)))]) 35 true,ZG 37 (.bslice 1 3 [.int .i64 0] [(0,(.c (.int .i64 1))),(1,(.c (.int .i64 0))),(2,(.c (.int .i64 2)))]) 35 true,ZG 38 (.call 11 [(.c (.int .i64 3)),.t 36,.t 37]) 35 true,ZG 39 (.bslice 1 3 [.int .i64 0] [(0,(.c (.int .i64 1))),(1,(.c (.int .i64 0))),(2,(.c (.int .i64 2)))]) 35 true,ZG 40 (.bslice 1 1 [.nilsl] [(0,(.t 39))]) 35 true,ZG 41 (.call 10 [.t 38,.t 40]) 35 true,ZO 42 (.pick (.t 35) (.t 41) (.c (.bool false))),ZM 0 42] true) .ret))))
theorem hd2:Zal Tryz.prog 26 [pI 2,.str [49]] (.agg (act 2 49)):=Zao (orcV_ok OrOk_nil) T_ok 30 rfl (by kernel_rfl)
theorem hd3:Zal Tryz.prog 26 [pI 3,.str [49]] (.agg (act 3 49)):=Zao (orcV_ok OrOk_nil) T_ok 30 rfl (by kernel_rfl)
theorem hd4:Zal Tryz.prog 26 [pI 4,.str [50]] (.agg (act 4 50)):=Zao (orcV_ok OrOk_nil) T_ok 30 rfl (by kernel_rfl)
theorem ords102:Zal Tryz.prog 11 [pI 3,.sl 1 [[pI 0]],.sl 1 [[pI 1],[pI 0],[pI 2]]] (.sl 1 [rw3 1 0 2]):=by
 have H:=sp_Orders 3 [0] [1,0,2] (by decide) (by decide)
 rwa [show (PV.sl 1 (llR ((ordsP 3 [0] [1,0,2]).map nz)))=.sl 1 [rw3 1 0 2] by kernel_rfl] at H
theorem ints0:Zal Tryz.prog 14 [.sl 1 [[pI 0]],.sl 1 [[pI 0]]] (.bool true):=Zao (orcV_ok OrOk_nil) T_ok 30 rfl (by kernel_rfl)
theorem lists0:Zal Tryz.prog 10 [.sl 1 [rw3 1 0 2],.sl 1 [rw3 1 0 2]] (.bool true):=Zao (orcV_ok OrOk_nil) T_ok 30 rfl (by kernel_rfl)
theorem sp_awake:Zal Tryz.prog 9 [] (.bool true):=by
 refine Gp (vc:=c_pandectlaw38_awake) [.t 0] (cB _) Tryz.func9 ?_;unfold c_pandectlaw38_awake;try dsimp only [ZM,ZO,ZN,ZG,ZR,ZU]
 refine Rp0 [0] ?_;refine Rp0 [1] ?_;refine VW_freeze [(1,.ro [pI 0,pI 0,pI 0,pI 0,.str [],.nilsl,.nilsl,.sl 8 [[pI 1,pI 0,pI 1,pI 2,.str [49],.nilsl,.nilsl,.nilsl],[pI 1,pI 0,pI 2,pI 2,.str [50],.nilsl,.nilsl,.nilsl]]])] ⟨viewD_ok (n:=30) (by first|rfl|kernel_rfl),trivial⟩ ?_;refine Zac (VW_drawS [1,2,3] (by simp [Heap.le,HL.le]) ?_);refine Sp0 ?_;refine ⟨_,.inl hd2,_,.inl hd3,_,.inl hd4,?_⟩;refine Sp0 ?_;refine ⟨⟨rfl,rfl,rfl⟩,_,.inl min3,?_⟩;refine Sp0 ?_;refine Zac (VW_drawS [0] (by simp [Heap.le,HL.le]) ?_);refine Sp0 ?_;refine ⟨_,.inl ints0,?_⟩;refine Sp0 ?_;refine ⟨_,.inl hd2,_,.inl hd3,_,.inl hd4,?_⟩;refine Sp0 ?_;refine ⟨⟨rfl,rfl,rfl⟩,_,.inl cnt3,?_⟩;refine Sp0 ?_;refine ⟨_,.inl ords102,?_⟩;refine Sp0 ?_;refine ⟨_,.inl lists0,?_⟩;refine Sp0 ?_;exact Tv0
end Go.Proofs.YtldogpfookkbaaaGreatDoor.w
namespace Go.VM
open Go
theorem ordsP_small (n:Int) (K b:List Int):((ordsP n K b).map nz).length≤1000000∧∀ x∈(ordsP n K b).map nz,x.length≤1000000:=by
 unfold ordsP;by_cases h:0≤n∧n≤5∧ordB b n=true
 ·rw [if_pos h];have h5:n.toNat≤5:=by omega
  have hl:=rows_len n.toNat h5;refine ⟨?_,fun x hx=>?_⟩
  ·rw [List.length_map];exact Nat.le_trans (List.length_filter_le _ _) (by omega)
  ·obtain ⟨r,hr,rfl⟩:=List.mem_map.1 hx;rw [nz_len,(rows_perm h5 (List.mem_filter.1 hr).1).1];omega
 ·rw [if_neg h];exact ⟨Nat.zero_le _,fun x hx=>by simp at hx⟩
end Go.VM
namespace Go.Proofs.YtldogpfookkbaaaGreatDoor.w
open Go Go.VM
def Zbd:VC:=(ZR [ZO 6 (.mv (.c (.bool false)))] (.seq (ZR [ZO 7 (.call 9 []),ZO 8 (.un .not (.t 7))] (.cond (.t 8) (ZR [ZO 6 (.mv (.c (.bool false)))] .ret) .skip)) (.seq (ZR [ZM 9 1,ZO 10 (.len false (.t 9)),ZO 11 (.bin .gtr (.t 10) (.c (.int .i64 20))),ZM 12 11,ZG 13 (.mv (.t 2)) 12 false,ZG 14 (.len false (.t 13)) 12 false,ZG 15 (.bin .gtr (.t 14) (.c (.int .i64 20))) 12 false,ZO 16 (.pick (.t 12) (.c (.bool true)) (.t 15))] (.cond (.t 16) (ZR [ZO 6 (.mv (.c (.bool true)))] .ret) .skip)) (ZR [ZM 17 0,ZM 18 1,ZM 19 2,ZO 20 (.call 11 [.t 17,.t 18,.t 19]),ZM 21 0,ZM 22 1,ZM 23 2,ZO 24 (.call 12 [.t 21,.t 22,.t 23]),ZO 25 (.call 10 [.t 20,.t 24]),ZM 6 25] .ret))))
theorem law_OrdersetOrders (n:Int) (K b:List Int) (hn:i64 n) (hK:K.length≤1048576) (hb:b.length≤1048576):Zal Tryz.prog 3 [pI n,.sl 1 (zR K),.sl 1 (zR b)] (.bool true):=by
 have AW:=sp_awake;have hKl:=zR_len K;have hbl:=zR_len b;refine Zaf ?_ (cB _) (by intro y hy;simp only [List.mem_cons,List.not_mem_nil,or_false] at hy;rcases hy with rfl|rfl|rfl;exact cI _;exact Zav _;exact Zav _);refine Gn (vc:=Zbd) [.t 6] Tryz.func3 ?_;unfold Zbd;try dsimp only [ZM,ZO,ZN,ZG,ZR,ZU]
 refine Rp0 [0,1,2] ?_;refine Zac ?_;refine Rp0 [0,1,2,8] ?_;refine Ap0 AW ?_;refine Zat rfl (fun h1=>by cases h1) (fun _=>?_);refine Kp0 ?_;refine Zac ?_;by_cases c1:K.length≤20
 ·have g1:decide ((20:Int)<(K.length:Int))=false:=decide_eq_false (by omega);by_cases c2:b.length≤20
  ·have g2:decide ((20:Int)<(b.length:Int))=false:=decide_eq_false (by omega);refine Rp1 [0,1,2,16] (x4 g1 g2 hKl hbl) ?_;refine Zat rfl (fun h1=>by cases h1) (fun _=>?_);refine Kp0 ?_;obtain ⟨s1,s2⟩:=ordsP_small n K b;have O1:=sp_Orders n K b (by omega) (by omega);have O2:=sp_ref_Orders n K b hn (by omega) (by omega);rw [ords_eq] at O2;have LI:=sp_Lists ((ordsP n K b).map nz) ((ordsP n K b).map nz) s1 s2;rw [decide_eq_true rfl] at LI;refine Rp0 [6] ?_;refine Ap0 O1 ?_;refine Ap0 O2 ?_;refine Ap0 LI ?_;exact Tv0
  ·have g2:decide ((20:Int)<(b.length:Int))=true:=decide_eq_true (by omega);refine Rp1 [0,1,2,16] (x4 g1 g2 hKl hbl) ?_;refine Zat rfl (fun _=>?_) (fun h1=>by cases h1);exact Rv0 [6]
 ·have g1:decide ((20:Int)<(K.length:Int))=true:=decide_eq_true (by omega);refine Rp1 [0,1,2,16] (x3 g1 hKl hbl) ?_;refine Zat rfl (fun _=>?_) (fun h1=>by cases h1);exact Rv0 [6]
end Go.Proofs.YtldogpfookkbaaaGreatDoor.w
namespace Go.VM
open Go
def kindNames:List Str:=[[98,111,111,107],[112,97,114,116],[115,101,99,116,105,111,110],[112,97,114,97,103,114,97,112,104],[116,97,98,108,101],[114,111,119],[99,101,108,108],[110,111,116,101]]
def belowT:List (List Int):=[[1,2],[2],[3,4,7],[3,4,7],[5],[6],[],[]]
end Go.VM
namespace Go.VM
open Go
end Go.VM
namespace Go.Proofs.YtldogpfookkbaaaGreatDoor.w
open Go Go.VM
theorem trod_str {H : Type} {enc : TypeId × Value → H} {P : Program} {W : World} {base : Nat} {sp : Nat → Bool} {held : Bool} {m : Nat} {e : TypeId} {cs : List Value} {bs : List UInt8} {q : List MemPlace} (he : P.underlying e = some .string)
  (h:DataW.trod enc P W base sp held m e cs=some (.lit (.string bs),q)):cs=[.string ⟨bs.toArray⟩]:=by
 cases m with
 | zero=>simp [DataW.trod] at h
 | succ m =>
  unfold DataW.trod at h;rw [he] at h;split at h<;>try (simp_all;done)
  rename_i s heq;split at h
  ·simp only [Option.some.injEq,Prod.mk.injEq,DataW.lit.injEq,Lit.string.injEq] at h;obtain ⟨rfl,_⟩:=h;rfl
  ·cases h
abbrev cW (W:World) (b o:Nat):Option Value:=match W.cell? ⟨b,o,none⟩ with
 | some v=>if v.oneCell'=true then some v else none
 | none=>none
theorem trod_ints {H : Type} {enc : TypeId × Value → H} {P : Program} {W : World} {base : Nat} {sp : Nat → Bool} {held : Bool} {m : Nat} {t e : TypeId} {cs : List Value} {zs : List Int} {rest : List (DataW H)} {q : List MemPlace} (ht : P.underlying t = some (.slice e)) (he : P.underlying e = some (.int .i64)) (hc : P.cellsOf e = 1) (hz : zs ≠ [])
    (h:DataW.trod enc P W base sp held m t cs=some (.slice (zs.map fun z=>.lit (.int .i64 z)) rest,q)):∃ v,cs=[v]∧v.oneCell'=true∧SlIs (cW W) v zs:=by
  rcases DataW.trod_slice ht h with ⟨_,h2⟩|⟨a,len,cap,elems,rs,m',hm,rfl,hx,hb,hlc,hcap,hel,hread,_,_⟩
  · simp at h2
  simp only [Prod.mk.injEq,DataW.slice.injEq] at hx;obtain ⟨⟨hx,_⟩,_⟩:=hx;have hzl:zs.length=len:=by
    have:=congrArg List.length hx;simp at this;omega
  have hlen:0<len:=by rw [← hzl];exact List.length_pos_iff.2 hz
  have each:∀ i,i<len→W.cell? (a.add i)=some (.int .i64 (zs.getD i 0)):=by
    intro i hi;have hr:=hread i hi;rw [List.getElem?_eq_getElem (by omega),hc,Nat.mul_one] at hr;obtain ⟨ci,hc1,hc2⟩:=Option.bind_eq_some_iff.1 hr;obtain ⟨_,hcl,hcells⟩:=World.cells?_some hc1;obtain ⟨n,rfl,hn,_⟩:=DataW.trod_int he hc2;have h1:=hcells 0 (by omega);have e0:∀ b:Addr,b.add 0=b:=fun b=>by simp [Addr.add]
    rw [e0] at h1;rw [h1];have h2:(elems.map (·.1))[i]?=some (DataW.lit (.int .i64 n)):=by
      rw [List.getElem?_map,List.getElem?_eq_getElem (by omega),Option.map_some,hn]
    rw [← hx,List.getElem?_map,List.getElem?_eq_getElem (by omega),Option.map_some] at h2;simp only [Option.some.injEq,DataW.lit.injEq,Lit.int.injEq,true_and] at h2;have e3:zs.getD i 0=n:=by rw [← h2];simp [List.getD,show i<zs.length by omega]
    rw [e3];rfl
  have hspot:a.spot=none:=by
    have hv:=each 0 hlen;have e0:a.add 0=a:=by simp [Addr.add]
    rw [e0] at hv;unfold World.cell? at hv;split at hv
    · split at hv
      · cases hv
      · rename_i hs;simpa using hs
    · cases hv
  have hadd:∀ i,a.add i=⟨a.block,a.off+i,none⟩:=by
    intro i;obtain ⟨b,o,s⟩:=a;simp only at hspot;subst hspot;by_cases hi:i=0<;>simp [Addr.add,hi]
  refine ⟨_,rfl,rfl,.inr ⟨a.block,a.off,cap,by omega,?_,fun i hi=>?_⟩⟩
  · obtain ⟨b,o,s⟩:=a
    simp only at hspot;subst hspot;rw [hzl]
  · have:=each i (by omega)
    rw [hadd] at this;simp only [cW];rw [this];rfl
def orderF:List Value:=[.func (.func 299) #[] #[],.func (.func 300) #[] #[]]
theorem known_tab (b:Nat) (l:List Value) (h:known.lookup b=some l):(b=4∧l=kindNames.map fun s=>Value.string ⟨s.toArray⟩)∨(b=0∧l=orderF):=by
 have e:known=[(0,orderF),(4,kindNames.map fun s=>Value.string ⟨s.toArray⟩)]:=by kernel_rfl
 rw [e] at h;simp only [List.lookup] at h;split at h
 ·rename_i hb;simp only [Option.some.injEq] at h;exact .inr ⟨by simpa using hb,h.symm⟩
 ·split at h
  ·rename_i hb;simp only [Option.some.injEq] at h;exact .inl ⟨by simpa using hb,h.symm⟩
  ·cases h
def namesD {H:Type}:DataW H:=.agg (kindNames.map fun s=>.lit (.string s))
def slD {H:Type} (zs:List Int):DataW H:=if zs=[] then .nil else .slice (zs.map fun z=>.lit (.int .i64 z)) []
def belowD {H:Type}:DataW H:=.agg (belowT.map slD)
def orderD : DataW Unit := .agg [.iface "func" (.lit (.string [112, 97, 110, 100, 101, 99, 116, 47, 115, 121, 110, 116, 97, 120, 46, 111, 114, 100, 101, 114, 36, 49])), .iface "func" (.lit (.string [112, 97, 110, 100, 101, 99, 116, 47, 115, 121, 110, 116, 97, 120, 46, 111, 114, 100, 101, 114, 36, 50]))]
theorem knownW_of {W : World} {rest : List (String × DataW Unit)} (ho : ("pandect/syntax.order", DataW.iface "func table" orderD) ∈ rest) (h : laidMetH Tryz.prog rest W) (hf : (((rest.filter fun x => x.2.handleName?.isNone)).filter (fun x => x.1 == "pandect/unit.names"), ((rest.filter fun x => x.2.handleName?.isNone)).filter (fun x => x.1 == "pandect/unit.below")) = ([("pandect/unit.names", namesD)], [("pandect/unit.below", belowD)])) : Zbq W := by
  obtain ⟨f1,f2⟩:=Prod.mk.inj hf
  have h1:=(laidMetH_iff.1 h).1
  have h2 := h1.filter (fun x => x.1 == "pandect/unit.names")
  rw [f1] at h2
  have h3 := h1.filter (fun x => x.1 == "pandect/unit.below")
  rw [f2] at h3
  have g1 : Tryz.prog.globalNamed "pandect/unit.names" = some 4 := by kernel_rfl
  have g2 : Tryz.prog.globalNamed "pandect/unit.below" = some 1 := by kernel_rfl
  have t1:(Tryz.prog.globals[4]?).map (·.type)=some 290:=by kernel_rfl
  have t2:(Tryz.prog.globals[1]?).map (·.type)=some 236:=by kernel_rfl
  have cs1:Tryz.prog.cellsOf 9=1:=by kernel_rfl
  have cs2:Tryz.prog.cellsOf 290=8:=by kernel_rfl
  have cs3:Tryz.prog.cellsOf 22=1:=by kernel_rfl
  have cs4:Tryz.prog.cellsOf 236=8:=by kernel_rfl
  have cs5:Tryz.prog.cellsOf 3=1:=by kernel_rfl
  have var_heap:∀ {name:String} {b:Nat} {cs:Array Value},Tryz.prog.globalNamed name=some b→W.var? Tryz.prog name=some cs→∃ t fr,W.heap[b]?=some (.cells cs t fr):=by
    intro name b cs hg hv
    unfold World.var? at hv
    rw [hg] at hv
    simp only [Option.bind_some] at hv
    split at hv
    · rename_i c t fr hh
      simp only [Option.some.injEq] at hv
      exact ⟨t,fr,by rw [hh,hv]⟩
    · cases hv
  refine ⟨⟨fun b l hl=>?_,fun b k hb=>?_⟩,fun b ls hb j hj=>?_⟩
  · rcases known_tab b l hl with ⟨rfl,rfl⟩|⟨rfl,rfl⟩
    rotate_left
    · obtain ⟨g',t',cs,fuel,p,hg',ht',hvar,hd⟩:=h.funcs ho
      have g3 : Tryz.prog.globalNamed "pandect/syntax.order" = some 0 := by kernel_rfl
      have t3:(Tryz.prog.globals[0]?).map (·.type)=some 145:=by kernel_rfl
      obtain rfl:=Option.some.inj (g3.symm.trans hg')
      obtain rfl:=Option.some.inj (t3.symm.trans ht')
      obtain ⟨t,fr,hh⟩:=var_heap g3 hvar
      obtain ⟨xs,m,_,hx,hlen,hxs,hread⟩:=DataW.trod_struct Tryz.underlying145 hd
      have cf1:Tryz.prog.cellsOf 143=1:=by kernel_rfl
      have cf2:Tryz.prog.cellsOf 107=1:=by kernel_rfl
      have hc2:Tryz.prog.cellsOf 145=2:=by kernel_rfl
      rw [hc2] at hlen
      have hx1:=(Prod.mk.inj hx).1
      have r0:DataW.trod (funcToken Tryz.prog) Tryz.prog W 0 (fun _=>true) true m 143 ((cs.toList.drop 0).take (Tryz.prog.cellsOf 143))=xs[0]?:=hread 0 _ rfl
      have r1:DataW.trod (funcToken Tryz.prog) Tryz.prog W 0 (fun _=>true) true m 107 ((cs.toList.drop 1).take (Tryz.prog.cellsOf 107))=xs[1]?:=hread 1 _ rfl
      rw [cf1] at r0
      rw [cf2] at r1
      have hxl:xs.length=2:=hxs
      match xs,hxl with
      | [x0,x1],_ =>
      have e0:x0.1=.held [112,97,110,100,101,99,116,47,115,121,110,116,97,120,46,111,114,100,101,114,36,49]:=by
        have:(DataW.agg [.held [112,97,110,100,101,99,116,47,115,121,110,116,97,120,46,111,114,100,101,114,36,49],.held [112,97,110,100,101,99,116,47,115,121,110,116,97,120,46,111,114,100,101,114,36,50]]:DataW (List UInt8))=.agg [x0.1,x1.1]:=hx1
        simp only [DataW.agg.injEq,List.cons.injEq] at this
        exact this.1.symm
      have e1:x1.1=.held [112,97,110,100,101,99,116,47,115,121,110,116,97,120,46,111,114,100,101,114,36,50]:=by
        have:(DataW.agg [.held [112,97,110,100,101,99,116,47,115,121,110,116,97,120,46,111,114,100,101,114,36,49],.held [112,97,110,100,101,99,116,47,115,121,110,116,97,120,46,111,114,100,101,114,36,50]]:DataW (List UInt8))=.agg [x0.1,x1.1]:=hx1
        simp only [DataW.agg.injEq,List.cons.injEq] at this
        exact this.2.1.symm
      match hcl:cs.toList,hlen with
      | [v0,v1],_ =>
      rw [hcl] at r0 r1
      have k0:=func_of_trod (ps:=#[84]) (rs:=#[84]) (va:=false) (f0:=299) (q:=x0.2) (by kernel_rfl) (by kernel_rfl) (r0.trans (by rw [← e0];rfl))
      have k1:=func_of_trod (ps:=#[84]) (rs:=#[4]) (va:=false) (f0:=300) (q:=x1.2) (by kernel_rfl) (by kernel_rfl) (r1.trans (by rw [← e1];rfl))
      subst k0 k1
      have hcs:cs=orderF.toArray:=Array.ext' hcl
      exact ⟨⟨t,fr,by rw [hh,hcs]⟩,fun v hv=>by simp only [orderF,List.mem_cons,List.not_mem_nil,or_false] at hv;rcases hv with rfl|rfl<;>rfl⟩
    refine ⟨?_,fun v hv=>by obtain ⟨s,_,rfl⟩:=List.mem_map.1 hv;rfl⟩
    obtain ⟨ps,⟨g',t',cs,fuel,p,q,hg',ht',hvar,hd,_,_⟩,_⟩:=h2
    obtain rfl:=Option.some.inj (g1.symm.trans hg')
    obtain rfl:=Option.some.inj (t1.symm.trans ht')
    obtain ⟨t,fr,hh⟩:=var_heap g1 hvar
    refine ⟨t,fr,?_⟩
    suffices hcs:cs=(kindNames.map fun s=>Value.string ⟨s.toArray⟩).toArray by rw [hh,hcs]
    obtain ⟨xs,m,_,hx,hlen,hxs,hread⟩:=DataW.trod_array Tryz.underlying290 hd
    rw [cs2] at hlen
    simp only [Prod.mk.injEq] at hx
    have hx1:kindNames.map (fun s=>(DataW.lit (.string s):DataW _))=xs.map (·.1):=by
      have:=hx.1
      unfold namesD at this
      simpa using this
    apply Array.ext'
    apply List.ext_getElem?
    intro i
    by_cases hi:i<8
    · have hr:=hread i hi
      rw [cs1,Nat.mul_one,List.getElem?_eq_getElem (by omega)] at hr
      have hk:i<kindNames.length:=hi
      have h5:(xs.map (·.1))[i]?=some xs[i].1:=by rw [List.getElem?_map,List.getElem?_eq_getElem (by omega)];rfl
      rw [← hx1,List.getElem?_map,List.getElem?_eq_getElem hk] at h5
      simp only [Option.map_some,Option.some.injEq] at h5
      have h6:xs[i]=(.lit (.string kindNames[i]),xs[i].2):=Prod.ext h5.symm rfl
      rw [h6] at hr
      have h7:=trod_str Tryz.underlying9 hr
      have h8:=congrArg (·[0]?) h7
      simp only [List.getElem?_take,List.getElem?_drop] at h8
      simp only [List.getElem?_map,List.getElem?_eq_getElem hk,Option.map_some]
      simpa using h8
    · rw [List.getElem?_eq_none (by omega)]
      symm
      apply List.getElem?_eq_none
      show (List.map _ kindNames).length≤i
      rw [List.length_map]
      show 8≤i
      omega
  · exfalso
    have:knownG=[]:=by kernel_rfl
    rw [this] at hb;cases hb
  · have hS:knownS=[(1,belowT)]:=by kernel_rfl
    rw [hS] at hb
    simp only [List.lookup] at hb
    split at hb
    · rename_i hbb
      simp only [Option.some.injEq] at hb
      subst hb
      have hb':b=1:=by simpa using hbb
      subst hb'
      obtain ⟨ps,⟨g',t',cs,fuel,p,q,hg',ht',hvar,hd,_,_⟩,_⟩:=h3
      obtain rfl:=Option.some.inj (g2.symm.trans hg')
      obtain rfl:=Option.some.inj (t2.symm.trans ht')
      obtain ⟨t,fr,hh⟩:=var_heap g2 hvar
      obtain ⟨xs,m,_,hx,hlen,hxs,hread⟩:=DataW.trod_array Tryz.underlying236 hd
      rw [cs4] at hlen
      simp only [Prod.mk.injEq] at hx
      have hx1:belowT.map slD=xs.map (·.1):=by
        have:=hx.1
        unfold belowD at this
        simpa using this
      have hj8:j<8:=hj
      have hr:=hread j hj8
      rw [cs3,Nat.mul_one,List.getElem?_eq_getElem (by omega)] at hr
      have h5:(xs.map (·.1))[j]?=some xs[j].1:=by rw [List.getElem?_map,List.getElem?_eq_getElem (by omega)];rfl
      rw [← hx1,List.getElem?_map,List.getElem?_eq_getElem hj] at h5
      simp only [Option.map_some,Option.some.injEq] at h5
      have h6:xs[j]=(slD belowT[j],xs[j].2):=Prod.ext h5.symm rfl
      rw [h6] at hr
      have hgD:belowT.getD j []=belowT[j]:=by rw [List.getD_eq_getElem?_getD,List.getElem?_eq_getElem hj];rfl
      have hcell:∀ v,(cs.toList.drop j).take 1=[v]→W.cell? ⟨1,j,none⟩=some v:=by
        intro v hv
        have h8:=congrArg (·[0]?) hv
        simp only [List.getElem?_take,List.getElem?_drop] at h8
        unfold World.cell?
        rw [hh]
        simpa using h8
      rw [hgD]
      generalize belowT[j]=zs at hr
      unfold slD at hr
      by_cases hz:zs=[]
      · rw [if_pos hz] at hr
        rcases DataW.trod_slice Tryz.underlying22 hr with ⟨h7,_⟩|⟨a,len,cap,elems,rs,m',_,_,h8,_⟩
        · refine ⟨.slice none 0 0,?_,.inl ⟨hz,rfl⟩⟩
          simp only []
          rw [hcell _ h7];rfl
        · simp at h8
      · rw [if_neg hz] at hr
        obtain ⟨v,h7,h8,h9⟩:=trod_ints (W:=W) Tryz.underlying22 Tryz.underlying3 cs5 hz hr
        refine ⟨v,?_,h9⟩
        simp only []
        rw [hcell _ h7]
        simp only []
        rw [if_pos h8]
    · cases hb
end Go.Proofs.YtldogpfookkbaaaGreatDoor.w
namespace Go.Proofs.YtldogpfookkbaaaGreatDoor.rd
open Go Go.VM
variable {W : World}
theorem k3:Tryz.prog.cellsOf 3=1:=by kernel_rfl
theorem rI (n:Nat):Reads Tryz.prog W n 3 i64 (fun a=>[pI a]):=reads_int Tryz.underlying3
end Go.Proofs.YtldogpfookkbaaaGreatDoor.rd
