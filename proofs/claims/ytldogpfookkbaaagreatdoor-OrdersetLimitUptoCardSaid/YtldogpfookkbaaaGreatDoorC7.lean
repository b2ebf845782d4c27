import Derived.Test.YtldogpfookkbaaaGreatDoorC6
import Derived.Test.YtldogpfookkbaaaGreatDoorVmBo
import Derived.Test.YtldogpfookkbaaaGreatDoorVmBa
import Derived.Test.YtldogpfookkbaaaGreatDoorVmC
import Derived.Test.YtldogpfookkbaaaGreatDoorRows
set_option linter.all false
set_option maxRecDepth 20000
set_option maxHeartbeats 0
namespace Go.Proofs.YtldogpfookkbaaaGreatDoor.w
open Go Go.VM
def L0:List (Nat×List PV×PV):=[(227,[.str [49],.fn (.func 228) [] []],pI (-1)),(227,[.str [50],.fn (.func 228) [] []],pI (-1)),(227,[.str [],.fn (.func 197) [] []],pI (-1)),(226,[.str [104]],.bool true)]
theorem L0_ok:OrOk Tryz.prog L0:=Za0 idx1 (Za0 idx2 (Za0 idx0 (Za0 word_h OrOk_nil)))
def base:CX:=elseC (orcV L0) (apX 207)
theorem base_ok:CallOk Tryz.prog base:=elseC_ok (orcV_ok L0_ok) apX_ok
def u0:PV:=.agg [pI 0,pI 0,pI 0,pI 0,.str [],.nilsl,.nilsl,.sl 8 [[pI 1,pI 0,pI 1,pI 2,.str [49],.nilsl,.nilsl,.nilsl],[pI 1,pI 0,pI 2,pI 2,.str [50],.nilsl,.nilsl,.nilsl]]]
end Go.Proofs.YtldogpfookkbaaaGreatDoor.w
namespace Go.VM
open Go
theorem Zaj.nilk {P:Program} {f:FuncId} {a b p:PV} (H:Zaj P f [a,.sl 1 [],b] p):Zaj P f [a,.nilsl,b] p:=by
 have key:∀ g v,Rep g v .nilsl→Rep g v (.sl 1 []):=fun g v hv=>by cases hv;exact .slE _ _ _
 refine ⟨H.1,fun x hx=>?_,fun g w vals r ha=>H.2.2 g w vals r ⟨ha.1,fun j hj=>?_⟩⟩
 ·simp only [List.mem_cons,List.not_mem_nil,or_false] at hx;rcases hx with rfl|rfl|rfl
  ·exact H.2.1 _ (by simp)
  ·exact Zby
  ·exact H.2.1 _ (by simp)
 ·have h1:=ha.2 j hj
  match j,hj with
  | 0,_=>exact h1
  | 1,_=>exact key _ _ h1
  | 2,_=>exact h1
end Go.VM
namespace Go.Proofs.YtldogpfookkbaaaGreatDoor.w
open Go Go.VM
def rw3 (a b c:Int):List PV:=[.sl 1 [[pI a],[pI b],[pI c]]]
def all3:PV:=.sl 1 [rw3 0 1 2,rw3 0 2 1,rw3 1 0 2,rw3 1 2 0,rw3 2 0 1,rw3 2 1 0]
theorem ords3:Zaj Tryz.prog 11 [pI 3,.nilsl,.sl 1 [[pI 0],[pI 1],[pI 2]]] all3:=by
 have H:=sp_Orders 3 [] [0,1,2] (by decide) (by decide);rw [show (PV.sl 1 (llR ((ordsP 3 [] [0,1,2]).map nz)))=all3 by kernel_rfl] at H;exact H.nilk
def act (n:Int) (l:UInt8):List PV:=[pI n,.str [116],pI 0,pI 0,pI 0,.str [],.sl 25 [[pI 4,.sl 2 [[pI 2,.str [l]]],.nilsl,pI 0,pI 0,pI 0,pI 0,pI 0,pI 0,.str [],.nilsl,.nilsl,.nilsl,.nilsl,.sl 1 [[.str [104]]],.str [],.str [],pI 0,pI 0,.str [],pI 0,pI 0,pI 0,.str [],.nilsl]]]
def acts:PV:=.sl 7 [act 2 49,act 3 49,act 4 50]
def uu (x y:PV):PV:=.agg [pI 0,pI 0,pI 0,pI 0,.str [],.nilsl,.nilsl,.sl 8 [[pI 1,pI 0,pI 1,pI 2,.str [49],x,.nilsl,.nilsl],[pI 1,pI 0,pI 2,pI 2,.str [50],y,.nilsl,.nilsl]]]
def hd (n:Int):PV:=.sl 4 [[.str [104],pI n,pI 0,pI 0]]
theorem ap0:Zaj Tryz.prog 18 [uu .nilsl .nilsl,.agg (act 2 49)] (.tup [uu (hd 2) .nilsl,.nilsl]):=Zas base_ok T_ok 100 rfl (by kernel_rfl)
theorem ap1:Zaj Tryz.prog 18 [uu .nilsl .nilsl,.agg (act 3 49)] (.tup [uu (hd 3) .nilsl,.nilsl]):=Zas base_ok T_ok 100 rfl (by kernel_rfl)
theorem ap2:Zaj Tryz.prog 18 [uu .nilsl .nilsl,.agg (act 4 50)] (.tup [uu .nilsl (hd 4),.nilsl]):=Zas base_ok T_ok 100 rfl (by kernel_rfl)
theorem ap3:Zaj Tryz.prog 18 [uu (hd 2) .nilsl,.agg (act 3 49)] (.tup [uu (hd 3) .nilsl,.nilsl]):=Zas base_ok T_ok 100 rfl (by kernel_rfl)
theorem ap4:Zaj Tryz.prog 18 [uu (hd 2) .nilsl,.agg (act 4 50)] (.tup [uu (hd 2) (hd 4),.nilsl]):=Zas base_ok T_ok 100 rfl (by kernel_rfl)
theorem ap5:Zaj Tryz.prog 18 [uu (hd 3) .nilsl,.agg (act 2 49)] (.tup [uu (hd 2) .nilsl,.nilsl]):=Zas base_ok T_ok 100 rfl (by kernel_rfl)
theorem ap6:Zaj Tryz.prog 18 [uu (hd 3) .nilsl,.agg (act 4 50)] (.tup [uu (hd 3) (hd 4),.nilsl]):=Zas base_ok T_ok 100 rfl (by kernel_rfl)
theorem ap7:Zaj Tryz.prog 18 [uu .nilsl (hd 4),.agg (act 2 49)] (.tup [uu (hd 2) (hd 4),.nilsl]):=Zas base_ok T_ok 100 rfl (by kernel_rfl)
theorem ap8:Zaj Tryz.prog 18 [uu .nilsl (hd 4),.agg (act 3 49)] (.tup [uu (hd 3) (hd 4),.nilsl]):=Zas base_ok T_ok 100 rfl (by kernel_rfl)
theorem ap9:Zaj Tryz.prog 18 [uu (hd 2) (hd 4),.agg (act 3 49)] (.tup [uu (hd 3) (hd 4),.nilsl]):=Zas base_ok T_ok 100 rfl (by kernel_rfl)
theorem ap10:Zaj Tryz.prog 18 [uu (hd 3) (hd 4),.agg (act 2 49)] (.tup [uu (hd 2) (hd 4),.nilsl]):=Zas base_ok T_ok 100 rfl (by kernel_rfl)
def L2:List (Nat×List PV×PV):=(11,[pI 3,.nilsl,.sl 1 [[pI 0],[pI 1],[pI 2]]],all3)::[(18,[uu .nilsl .nilsl,.agg (act 2 49)],.tup [uu (hd 2) .nilsl,.nilsl]),(18,[uu .nilsl .nilsl,.agg (act 3 49)],.tup [uu (hd 3) .nilsl,.nilsl]),(18,[uu .nilsl .nilsl,.agg (act 4 50)],.tup [uu .nilsl (hd 4),.nilsl]),(18,[uu (hd 2) .nilsl,.agg (act 3 49)],.tup [uu (hd 3) .nilsl,.nilsl]),(18,[uu (hd 2) .nilsl,.agg (act 4 50)],.tup [uu (hd 2) (hd 4),.nilsl]),(18,[uu (hd 3) .nilsl,.agg (act 2 49)],.tup [uu (hd 2) .nilsl,.nilsl]),(18,[uu (hd 3) .nilsl,.agg (act 4 50)],.tup [uu (hd 3) (hd 4),.nilsl]),(18,[uu .nilsl (hd 4),.agg (act 2 49)],.tup [uu (hd 2) (hd 4),.nilsl]),(18,[uu .nilsl (hd 4),.agg (act 3 49)],.tup [uu (hd 3) (hd 4),.nilsl]),(18,[uu (hd 2) (hd 4),.agg (act 3 49)],.tup [uu (hd 3) (hd 4),.nilsl]),(18,[uu (hd 3) (hd 4),.agg (act 2 49)],.tup [uu (hd 2) (hd 4),.nilsl])]
theorem L2_ok:OrOk Tryz.prog L2:=Za0 ords3 (Za0 ap0 (Za0 ap1 (Za0 ap2 (Za0 ap3 (Za0 ap4 (Za0 ap5 (Za0 ap6 (Za0 ap7 (Za0 ap8 (Za0 ap9 (Za0 ap10 (OrOk_nil))))))))))))
end Go.Proofs.YtldogpfookkbaaaGreatDoor.w
namespace Go.Proofs.YtldogpfookkbaaaGreatDoor.w
open Go Go.VM
def bk (x y:PV):List PV:=[pI 0,pI 0,pI 0,pI 0,.str [],.nilsl,.nilsl,.sl 8 [[pI 1,pI 0,pI 1,pI 2,.str [49],x,.nilsl,.nilsl],[pI 1,pI 0,pI 2,pI 2,.str [50],y,.nilsl,.nilsl]]]
theorem rows3:Zaj Tryz.prog 42 [u0,acts] (.tup [all3,.sl 8 [bk (hd 3) (hd 4),bk (hd 3) (hd 4),bk (hd 2) (hd 4),bk (hd 2) (hd 4),bk (hd 3) (hd 4),bk (hd 2) (hd 4)]]):=Zas (orcV_ok L2_ok) T_ok 60 rfl (by kernel_rfl)
end Go.Proofs.YtldogpfookkbaaaGreatDoor.w
namespace Go.Proofs.YtldogpfookkbaaaGreatDoor.w
open Go Go.VM
def L3:List (Nat×List PV×PV):=[(42,[u0,acts],.tup [all3,.sl 8 [bk (hd 3) (hd 4),bk (hd 3) (hd 4),bk (hd 2) (hd 4),bk (hd 2) (hd 4),bk (hd 3) (hd 4),bk (hd 2) (hd 4)]])]
theorem L3_ok:OrOk Tryz.prog L3:=Za0 rows3 OrOk_nil
theorem cnt3:Zaj Tryz.prog 21 [u0,acts] (pI 2):=Zas (orcV_ok L3_ok) T_ok 80 rfl (by kernel_rfl)
end Go.Proofs.YtldogpfookkbaaaGreatDoor.w
namespace Go.Proofs.YtldogpfookkbaaaGreatDoor.w
open Go Go.VM
theorem min3:Zaj Tryz.prog 19 [u0,acts] (.tup [.sl 1 [[pI 0]],pI 0]):=Zas (orcV_ok L3_ok) T_ok 80 rfl (by kernel_rfl)
end Go.Proofs.YtldogpfookkbaaaGreatDoor.w
namespace Go.Proofs.YtldogpfookkbaaaGreatDoor.w
open Go Go.VM
def c_pandectlaw38_awake:VC:=(ZR [ZO 0 (.mv (.c (.bool false)))] (ZR [ZO 4 (.build [.int .i64 0,.int .i64 0,.int .i64 0] [(0,(1,(.c (.int .i64 1)))),(2,(1,(.c (.int .i64 1))))]),ZO 5 (.build ZU [(3,(1,(.c (.int .i64 2)))),(4,(1,(.c (.str [49])))),(0,(3,(.t 4)))]),ZO 6 (.build [.int .i64 0,.int .i64 0,.int .i64 0] [(0,(1,(.c (.int .i64 1)))),(2,(1,(.c (.int .i64 2))))]),ZO 7 (.build ZU [(3,(1,(.c (.int .i64 2)))),(4,(1,(.c (.str [50])))),(0,(3,(.t 6)))]),ZO 8 (.bslice 8 2 ZU [(0,(.t 5)),(1,(.t 7))]),ZO 9 (.build ZU [(7,(1,(.t 8)))]),ZO 1 (.alloc ZU),ZN (.store 8 (.t 1) (.t 9))] (.seq (.region [ZO 11 (.load true 8 (.t 1)),ZO 12 (.call 26 [(.c (.int .i64 2)),(.c (.str [49]))]),ZO 13 (.call 26 [(.c (.int .i64 3)),(.c (.str [49]))]),ZO 14 (.call 26 [(.c (.int .i64 4)),(.c (.str [50]))]),ZO 15 (.bslice 7 3 [.int .i64 0,(.str []),.int .i64 0,.int .i64 0,.int .i64 0,(.str []),.nilsl] [(0,(.t 12)),(1,(.t 13)),(2,(.t 14))]),ZO 16 (.call 19 [.t 11,.t 15]),ZM 10 16,ZO 17 (.ext (.t 10) 0),ZO 18 (.ext (.t 10) 1),ZM 2 17,ZM 3 18] true) (.seq (.region [ZM 19 3,ZO 20 (.bin .eql (.t 19) (.c (.int .i64 0))),ZM 21 20,ZG 22 (.mv (.t 2)) 21 true,ZG 23 (.bslice 1 1 [.int .i64 0] [(0,(.c (.int .i64 0)))]) 21 true,ZG 24 (.call 14 [.t 22,.t 23]) 21 true,ZO 25 (.pick (.t 21) (.t 24) (.c (.bool false))),ZM 26 25,ZG 27 (.load true 8 (.t 1)) 26 true,ZG 28 (.call 26 [(.c (.int .i64 2)),(.c (.str [49]))]) 26 true,ZG 29 (.call 26 [(.c (.int .i64 3)),(.c (.str [49]))]) 26 true,ZG 30 (.call 26 [(.c (.int .i64 4)),(.c (.str [50]))]) 26 true,ZG 31 (.bslice 7 3 [.int .i64 0,(.str []),.int .i64 0,.int .i64 0,.int .i64 0,(.str []),.nilsl] [(0,(.t 28)),(1,(.t 29)),(2,(.t 30))]) 26 true,ZG 32 (.call 21 [.t 27,.t 31]) 26 true,ZG 33 (.bin .eql (.t 32) (.c (.int .i64 2))) 26 true,ZO 34 (.pick (.t 26) (.t 33) (.c (.bool false))),ZM 35 34,ZG 36 (.bslice 1 1 [.int .i64 0] [(0,(.c (.int .i64 0)))]) 35 true,ZG 37 (.bslice 1 3 [.int .i64 0] [(0,(.c (.int .i64 1))),(1,(.c (.int .i64 0))),(2,(.c (.int .i64 2)))]) 35 true,ZG 38 (.call 11 [(.c (.int .i64 3)),.t 36,.t 37]) 35 true,ZG 39 (.bslice 1 3 [.int .i64 0] [(0,(.c (.int .i64 1))),(1,(.c (.int .i64 0))),(2,(.c (.int .i64 2)))]) 35 true,ZG 40 (.bslice 1 1 [.nilsl] [(0,(.t 39))]) 35 true,ZG 41 (.call 10 [.t 38,.t 40]) 35 true,ZO 42 (.pick (.t 35) (.t 41) (.c (.bool false))),ZM 0 42] true) .ret))))
theorem hd2:Zaj Tryz.prog 26 [pI 2,.str [49]] (.agg (act 2 49)):=Zas (orcV_ok OrOk_nil) T_ok 30 rfl (by kernel_rfl)
theorem hd3:Zaj Tryz.prog 26 [pI 3,.str [49]] (.agg (act 3 49)):=Zas (orcV_ok OrOk_nil) T_ok 30 rfl (by kernel_rfl)
theorem hd4:Zaj Tryz.prog 26 [pI 4,.str [50]] (.agg (act 4 50)):=Zas (orcV_ok OrOk_nil) T_ok 30 rfl (by kernel_rfl)
theorem ords102:Zaj Tryz.prog 11 [pI 3,.sl 1 [[pI 0]],.sl 1 [[pI 1],[pI 0],[pI 2]]] (.sl 1 [rw3 1 0 2]):=by
 have H:=sp_Orders 3 [0] [1,0,2] (by decide) (by decide)
 rwa [show (PV.sl 1 (llR ((ordsP 3 [0] [1,0,2]).map nz)))=.sl 1 [rw3 1 0 2] by kernel_rfl] at H
theorem ints0:Zaj Tryz.prog 14 [.sl 1 [[pI 0]],.sl 1 [[pI 0]]] (.bool true):=Zas (orcV_ok OrOk_nil) T_ok 30 rfl (by kernel_rfl)
theorem lists0:Zaj Tryz.prog 10 [.sl 1 [rw3 1 0 2],.sl 1 [rw3 1 0 2]] (.bool true):=Zas (orcV_ok OrOk_nil) T_ok 30 rfl (by kernel_rfl)
theorem sp_awake:Zaj Tryz.prog 9 [] (.bool true):=by
 refine Gp (vc:=c_pandectlaw38_awake) [.t 0] (cB _) Tryz.func9 ?_;unfold c_pandectlaw38_awake;try dsimp only [ZM,ZO,ZN,ZG,ZR,ZU]
 refine Rp0 [0] ?_;refine Rp0 [1] ?_;refine Zaz [(1,.ro [pI 0,pI 0,pI 0,pI 0,.str [],.nilsl,.nilsl,.sl 8 [[pI 1,pI 0,pI 1,pI 2,.str [49],.nilsl,.nilsl,.nilsl],[pI 1,pI 0,pI 2,pI 2,.str [50],.nilsl,.nilsl,.nilsl]]])] ⟨viewD_ok (n:=30) (by first|rfl|kernel_rfl),trivial⟩ ?_;refine Zab (Zbs [1,2,3] (by simp [Heap.le,HL.le]) ?_);refine Sp0 ?_;refine ⟨_,.inl hd2,_,.inl hd3,_,.inl hd4,?_⟩;refine Sp0 ?_;refine ⟨⟨rfl,rfl,rfl⟩,_,.inl min3,?_⟩;refine Sp0 ?_;refine Zab (Zbs [0] (by simp [Heap.le,HL.le]) ?_);refine Sp0 ?_;refine ⟨_,.inl ints0,?_⟩;refine Sp0 ?_;refine ⟨_,.inl hd2,_,.inl hd3,_,.inl hd4,?_⟩;refine Sp0 ?_;refine ⟨⟨rfl,rfl,rfl⟩,_,.inl cnt3,?_⟩;refine Sp0 ?_;refine ⟨_,.inl ords102,?_⟩;refine Sp0 ?_;refine ⟨_,.inl lists0,?_⟩;refine Sp0 ?_;exact Tv0
end Go.Proofs.YtldogpfookkbaaaGreatDoor.w
namespace Go.VM
open Go
end Go.VM
namespace Go.Proofs.YtldogpfookkbaaaGreatDoor.w
open Go Go.VM
end Go.Proofs.YtldogpfookkbaaaGreatDoor.w
namespace Go.Proofs.YtldogpfookkbaaaGreatDoor.rd
open Go Go.VM
variable {W : World}
theorem k3:Tryz.prog.cellsOf 3=1:=by kernel_rfl
theorem k9:Tryz.prog.cellsOf 9=1:=by kernel_rfl
theorem k95:Tryz.prog.cellsOf 95=3:=by kernel_rfl
theorem k97:Tryz.prog.cellsOf 97=4:=by kernel_rfl
theorem k35:Tryz.prog.cellsOf 35=3:=by kernel_rfl
theorem k36:Tryz.prog.cellsOf 36=1:=by kernel_rfl
theorem k37:Tryz.prog.cellsOf 37=1:=by kernel_rfl
theorem k39:Tryz.prog.cellsOf 39=8:=by kernel_rfl
theorem k100:Tryz.prog.cellsOf 100=2:=by kernel_rfl
theorem k41:Tryz.prog.cellsOf 41=3:=by kernel_rfl
theorem k84:Tryz.prog.cellsOf 84=25:=by kernel_rfl
theorem k81:Tryz.prog.cellsOf 81=1:=by kernel_rfl
theorem k82:Tryz.prog.cellsOf 82=1:=by kernel_rfl
theorem k42:Tryz.prog.cellsOf 42=1:=by kernel_rfl
theorem k44:Tryz.prog.cellsOf 44=7:=by kernel_rfl
theorem rI (n:Nat):Reads Tryz.prog W n 3 i64 (fun a=>[pI a]):=reads_int Tryz.underlying3
def enc3 (x:Int×Int×Int×Unit):List PV:=[pI x.1,pI x.2.1,pI x.2.2.1]
def ok3 (x:Int×Int×Int×Unit):Prop:=i64 x.1∧i64 x.2.1∧i64 x.2.2.1∧True
theorem r95 (n:Nat):Reads Tryz.prog W n 95 ok3 enc3:=by
 cases n with
 | zero=>exact reads_zero
 | succ n=>exact Reads.map (fun x:Int×Int×Int×Unit=>x) (reads_struct Tryz.underlying95 rfl k95 (freads_cons (by exact (rI n)) (by exact k3) (by exact (fun _=>rfl)) (by rfl) (freads_cons (by exact (rI n)) (by exact k3) (by exact (fun _=>rfl)) (by rfl) (freads_cons (by exact (rI n)) (by exact k3) (by exact (fun _=>rfl)) (by rfl) freads_nil))) (by exact fun _=>rfl)) (fun _ h=>h) (fun _=>rfl)
theorem r35 (n:Nat):Reads Tryz.prog W n 35 ok3 enc3:=by
 cases n with
 | zero=>exact reads_zero
 | succ n=>exact Reads.map (fun x:Int×Int×Int×Unit=>x) (reads_struct Tryz.underlying35 rfl k35 (freads_cons (by exact (rI n)) (by exact k3) (by exact (fun _=>rfl)) (by rfl) (freads_cons (by exact (rI n)) (by exact k3) (by exact (fun _=>rfl)) (by rfl) (freads_cons (by exact (rI n)) (by exact k3) (by exact (fun _=>rfl)) (by rfl) freads_nil))) (by exact fun _=>rfl)) (fun _ h=>h) (fun _=>rfl)
theorem un_len (u:Un):u.enc.length=8:=by rw [Un.Zay];rfl
end Go.Proofs.YtldogpfookkbaaaGreatDoor.rd
