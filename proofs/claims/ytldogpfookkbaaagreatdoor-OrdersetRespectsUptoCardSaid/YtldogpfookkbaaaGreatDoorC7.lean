import Derived.Test.YtldogpfookkbaaaGreatDoorC6
import Derived.Test.YtldogpfookkbaaaGreatDoorVmBo
import Derived.Test.YtldogpfookkbaaaGreatDoorVmBa
import Derived.Test.YtldogpfookkbaaaGreatDoorB7
set_option linter.all false
set_option maxRecDepth 20000
set_option maxHeartbeats 0
namespace Go.Proofs.YtldogpfookkbaaaGreatDoor.w
open Go Go.VM
def L0:List (Nat×List PV×PV):=[(227,[.str [49],.fn (.func 228) [] []],pI (-1)),(227,[.str [50],.fn (.func 228) [] []],pI (-1)),(227,[.str [],.fn (.func 197) [] []],pI (-1)),(226,[.str [104]],.bool true)]
theorem L0_ok:OrOk Tryz.prog L0:=Zaw idx1 (Zaw idx2 (Zaw idx0 (Zaw word_h OrOk_nil)))
def base:CX:=elseC (orcV L0) (apX 207)
theorem base_ok:CallOk Tryz.prog base:=elseC_ok (orcV_ok L0_ok) apX_ok
def u0:PV:=.agg [pI 0,pI 0,pI 0,pI 0,.str [],.nilsl,.nilsl,.sl 8 [[pI 1,pI 0,pI 1,pI 2,.str [49],.nilsl,.nilsl,.nilsl],[pI 1,pI 0,pI 2,pI 2,.str [50],.nilsl,.nilsl,.nilsl]]]
end Go.Proofs.YtldogpfookkbaaaGreatDoor.w
namespace Go.VM
open Go
theorem Zan.nilk {P:Program} {f:FuncId} {a b p:PV} (H:Zan P f [a,.sl 1 [],b] p):Zan P f [a,.nilsl,b] p:=by
 have key:∀ g v,Rep g v .nilsl→Rep g v (.sl 1 []):=fun g v hv=>by cases hv;exact .slE _ _ _
 refine ⟨H.1,fun x hx=>?_,fun g w vals r ha=>H.2.2 g w vals r ⟨ha.1,fun j hj=>?_⟩⟩
 ·simp only [List.mem_cons,List.not_mem_nil,or_false] at hx;rcases hx with rfl|rfl|rfl
  ·exact H.2.1 _ (by simp)
  ·exact Zbu
  ·exact H.2.1 _ (by simp)
 ·have h1:=ha.2 j hj
  match j,hj with
  | 0,_=>exact h1
  | 1,_=>exact key _ _ h1
  | 2,_=>exact h1
end Go.VM
namespace Go.Proofs.YtldogpfookkbaaaGreatDoor.w
open Go Go.VM
def rw3 (a b c:Int):List PV:=[.sl 1 [[pI a],[pI b],[pI c]]]
def all3:PV:=.sl 1 [rw3 0 1 2,rw3 0 2 1,rw3 1 0 2,rw3 1 2 0,rw3 2 0 1,rw3 2 1 0]
theorem ords3:Zan Tryz.prog 11 [pI 3,.nilsl,.sl 1 [[pI 0],[pI 1],[pI 2]]] all3:=by
 have H:=sp_Orders 3 [] [0,1,2] (by decide) (by decide);rw [show (PV.sl 1 (llR ((ordsP 3 [] [0,1,2]).map nz)))=all3 by kernel_rfl] at H;exact H.nilk
def act (n:Int) (l:UInt8):List PV:=[pI n,.str [116],pI 0,pI 0,pI 0,.str [],.sl 25 [[pI 4,.sl 2 [[pI 2,.str [l]]],.nilsl,pI 0,pI 0,pI 0,pI 0,pI 0,pI 0,.str [],.nilsl,.nilsl,.nilsl,.nilsl,.sl 1 [[.str [104]]],.str [],.str [],pI 0,pI 0,.str [],pI 0,pI 0,pI 0,.str [],.nilsl]]]
def acts:PV:=.sl 7 [act 2 49,act 3 49,act 4 50]
def uu (x y:PV):PV:=.agg [pI 0,pI 0,pI 0,pI 0,.str [],.nilsl,.nilsl,.sl 8 [[pI 1,pI 0,pI 1,pI 2,.str [49],x,.nilsl,.nilsl],[pI 1,pI 0,pI 2,pI 2,.str [50],y,.nilsl,.nilsl]]]
def hd (n:Int):PV:=.sl 4 [[.str [104],pI n,pI 0,pI 0]]
theorem ap0:Zan Tryz.prog 18 [uu .nilsl .nilsl,.agg (act 2 49)] (.tup [uu (hd 2) .nilsl,.nilsl]):=Zao base_ok T_ok 100 rfl (by kernel_rfl)
theorem ap1:Zan Tryz.prog 18 [uu .nilsl .nilsl,.agg (act 3 49)] (.tup [uu (hd 3) .nilsl,.nilsl]):=Zao base_ok T_ok 100 rfl (by kernel_rfl)
theorem ap2:Zan Tryz.prog 18 [uu .nilsl .nilsl,.agg (act 4 50)] (.tup [uu .nilsl (hd 4),.nilsl]):=Zao base_ok T_ok 100 rfl (by kernel_rfl)
theorem ap3:Zan Tryz.prog 18 [uu (hd 2) .nilsl,.agg (act 3 49)] (.tup [uu (hd 3) .nilsl,.nilsl]):=Zao base_ok T_ok 100 rfl (by kernel_rfl)
theorem ap4:Zan Tryz.prog 18 [uu (hd 2) .nilsl,.agg (act 4 50)] (.tup [uu (hd 2) (hd 4),.nilsl]):=Zao base_ok T_ok 100 rfl (by kernel_rfl)
theorem ap5:Zan Tryz.prog 18 [uu (hd 3) .nilsl,.agg (act 2 49)] (.tup [uu (hd 2) .nilsl,.nilsl]):=Zao base_ok T_ok 100 rfl (by kernel_rfl)
theorem ap6:Zan Tryz.prog 18 [uu (hd 3) .nilsl,.agg (act 4 50)] (.tup [uu (hd 3) (hd 4),.nilsl]):=Zao base_ok T_ok 100 rfl (by kernel_rfl)
theorem ap7:Zan Tryz.prog 18 [uu .nilsl (hd 4),.agg (act 2 49)] (.tup [uu (hd 2) (hd 4),.nilsl]):=Zao base_ok T_ok 100 rfl (by kernel_rfl)
theorem ap8:Zan Tryz.prog 18 [uu .nilsl (hd 4),.agg (act 3 49)] (.tup [uu (hd 3) (hd 4),.nilsl]):=Zao base_ok T_ok 100 rfl (by kernel_rfl)
theorem ap9:Zan Tryz.prog 18 [uu (hd 2) (hd 4),.agg (act 3 49)] (.tup [uu (hd 3) (hd 4),.nilsl]):=Zao base_ok T_ok 100 rfl (by kernel_rfl)
theorem ap10:Zan Tryz.prog 18 [uu (hd 3) (hd 4),.agg (act 2 49)] (.tup [uu (hd 2) (hd 4),.nilsl]):=Zao base_ok T_ok 100 rfl (by kernel_rfl)
def L2:List (Nat×List PV×PV):=(11,[pI 3,.nilsl,.sl 1 [[pI 0],[pI 1],[pI 2]]],all3)::[(18,[uu .nilsl .nilsl,.agg (act 2 49)],.tup [uu (hd 2) .nilsl,.nilsl]),(18,[uu .nilsl .nilsl,.agg (act 3 49)],.tup [uu (hd 3) .nilsl,.nilsl]),(18,[uu .nilsl .nilsl,.agg (act 4 50)],.tup [uu .nilsl (hd 4),.nilsl]),(18,[uu (hd 2) .nilsl,.agg (act 3 49)],.tup [uu (hd 3) .nilsl,.nilsl]),(18,[uu (hd 2) .nilsl,.agg (act 4 50)],.tup [uu (hd 2) (hd 4),.nilsl]),(18,[uu (hd 3) .nilsl,.agg (act 2 49)],.tup [uu (hd 2) .nilsl,.nilsl]),(18,[uu (hd 3) .nilsl,.agg (act 4 50)],.tup [uu (hd 3) (hd 4),.nilsl]),(18,[uu .nilsl (hd 4),.agg (act 2 49)],.tup [uu (hd 2) (hd 4),.nilsl]),(18,[uu .nilsl (hd 4),.agg (act 3 49)],.tup [uu (hd 3) (hd 4),.nilsl]),(18,[uu (hd 2) (hd 4),.agg (act 3 49)],.tup [uu (hd 3) (hd 4),.nilsl]),(18,[uu (hd 3) (hd 4),.agg (act 2 49)],.tup [uu (hd 2) (hd 4),.nilsl])]
theorem L2_ok:OrOk Tryz.prog L2:=Zaw ords3 (Zaw ap0 (Zaw ap1 (Zaw ap2 (Zaw ap3 (Zaw ap4 (Zaw ap5 (Zaw ap6 (Zaw ap7 (Zaw ap8 (Zaw ap9 (Zaw ap10 (OrOk_nil))))))))))))
end Go.Proofs.YtldogpfookkbaaaGreatDoor.w
namespace Go.Proofs.YtldogpfookkbaaaGreatDoor.w
open Go Go.VM
def bk (x y:PV):List PV:=[pI 0,pI 0,pI 0,pI 0,.str [],.nilsl,.nilsl,.sl 8 [[pI 1,pI 0,pI 1,pI 2,.str [49],x,.nilsl,.nilsl],[pI 1,pI 0,pI 2,pI 2,.str [50],y,.nilsl,.nilsl]]]
theorem rows3:Zan Tryz.prog 42 [u0,acts] (.tup [all3,.sl 8 [bk (hd 3) (hd 4),bk (hd 3) (hd 4),bk (hd 2) (hd 4),bk (hd 2) (hd 4),bk (hd 3) (hd 4),bk (hd 2) (hd 4)]]):=Zao (orcV_ok L2_ok) T_ok 60 rfl (by kernel_rfl)
end Go.Proofs.YtldogpfookkbaaaGreatDoor.w
namespace Go.Proofs.YtldogpfookkbaaaGreatDoor.w
open Go Go.VM
def L3:List (Nat×List PV×PV):=[(42,[u0,acts],.tup [all3,.sl 8 [bk (hd 3) (hd 4),bk (hd 3) (hd 4),bk (hd 2) (hd 4),bk (hd 2) (hd 4),bk (hd 3) (hd 4),bk (hd 2) (hd 4)]])]
theorem L3_ok:OrOk Tryz.prog L3:=Zaw rows3 OrOk_nil
theorem cnt3:Zan Tryz.prog 21 [u0,acts] (pI 2):=Zao (orcV_ok L3_ok) T_ok 80 rfl (by kernel_rfl)
end Go.Proofs.YtldogpfookkbaaaGreatDoor.w
namespace Go.Proofs.YtldogpfookkbaaaGreatDoor.w
open Go Go.VM
theorem min3:Zan Tryz.prog 19 [u0,acts] (.tup [.sl 1 [[pI 0]],pI 0]):=Zao (orcV_ok L3_ok) T_ok 80 rfl (by kernel_rfl)
end Go.Proofs.YtldogpfookkbaaaGreatDoor.w
namespace Go.Proofs.YtldogpfookkbaaaGreatDoor.w
open Go Go.VM
def c_pandectlaw38_awake:VC:=(ZR [ZO 0 (.mv (.c (.bool false)))] (ZR [ZO 4 (.build [.int .i64 0,.int .i64 0,.int .i64 0] [(0,(1,(.c (.int .i64 1)))),(2,(1,(.c (.int .i64 1))))]),ZO 5 (.build ZU [(3,(1,(.c (.int .i64 2)))),(4,(1,(.c (.str [49])))),(0,(3,(.t 4)))]),ZO 6 (.build [.int .i64 0,.int .i64 0,.int .i64 0] [(0,(1,(.c (.int .i64 1)))),(2,(1,(.c (.int .i64 2))))]),ZO 7 (.build ZU [(3,(1,(.c (.int .i64 2)))),(4,(1,(.c (.str [50])))),(0,(3,(.t 6)))]),ZO 8 (.bslice 8 2 ZU [(0,(.t 5)),(1,(.t 7))]),ZO 9 (.build ZU [(7,(1,(.t 8)))]),ZO 1 (.alloc ZU),ZN (.store 8 (.t 1) (.t 9))] (.seq (.region [ZO 11 (.load true 8 (.t 1)),ZO 12 (.call 26 [(.c (.int .i64 2)),(.c (.str [49]))]),ZO 13 (.call 26 [(.c (.int .i64 3)),(.c (.str [49]))]),ZO 14 (.call 26 [(.c (.int .i64 4)),(.c (.str [50]))]),ZO 15 (.bslice 7 3 [.int .i64 0,(.str []),.int .i64 0,.int .i64 0,.int .i64 0,(.str []),.nilsl] [(0,(.t 12)),(1,(.t 13)),(2,(.t 14))]),ZO 16 (.call 19 [.t 11,.t 15]),ZM 10 16,ZO 17 (.ext (.t 10) 0),ZO 18 (.ext (.t 10) 1),ZM 2 17,ZM 3 18] true) (.seq (.region [ZM 19 3,ZO 20 (.bin .eql (.t 19) (.c (.int .i64 0))),ZM 21 20,ZG 22 (.mv (.t 2)) 21 true,ZG 23 (.bslice 1 1 [.int .i64 0] [(0,(.c (.int .i64 0)))]) 21 true,ZG 24 (.call 14 [.t 22,.t 23]) 21 true,ZO 25 (.pick (.t 21) (.t 24) (.c (.bool false))),ZM 26 25,ZG 27 (.load true 8 (.t 1)) 26 true,ZG 28 (.call 26 [(.c (.int .i64 2)),(.c (.str [49]))]) 26 true,ZG 29 (.call 26 [(.c (.int .i64 3)),(.c (.str [49]))]) 26 true,ZG 30 (.call 26 [(.c (.int .i64 4)),(.c (.str [50]))]) 26 true,ZG 31 (.bslice 7 3 [.int .i64 0,(.str []),.int .i64 0,.int .i64 0,.int .i64 0,(.str []),.nilsl] [(0,(.t 28)),(1,(.t 29)),(2,(.t 30))]) 26 true,ZG 32 (.call 21 [.t 27,.t 31]) 26 true,ZG 33 (.bin .eql (.t 32) (.c (.int .i64 2))) 26 true,ZO 34 (.pick (.t 26) (.t 33) (.c (.bool false))),ZM 35 34,ZG 36 (.bslice 1 1 [.int .i64 0] [(0,(.c (.int .i64 0)))]) 35 true,ZG 37 (.bslice 1 3 [.int .i64 0] [(0,(.c (.int .i64 1))),(1,(.c (.int .i64 0))),(2,(.c (.int .i64 2)))]) 35 true,ZG 38 (.call 11 [(.c (.int .i64 3)),.t 36,.t 37]) 35 true,ZG 39 (.bslice 1 3 [.int .i64 0] [(0,(.c (.int .i64 1))),(1,(.c (.int .i64 0))),(2,(.c (.int .i64 2)))]) 35 true,ZG 40 (.bslice 1 1 [.nilsl] [(0,(.t 39))]) 35 true,ZG 41 (.call 10 [.t 38,.t 40]) 35 true,ZO 42 (.pick (.t 35) (.t 41) (.c (.bool false))),ZM 0 42] true) .ret))))
theorem hd2:Zan Tryz.prog 26 [pI 2,.str [49]] (.agg (act 2 49)):=Zao (orcV_ok OrOk_nil) T_ok 30 rfl (by kernel_rfl)
theorem hd3:Zan Tryz.prog 26 [pI 3,.str [49]] (.agg (act 3 49)):=Zao (orcV_ok OrOk_nil) T_ok 30 rfl (by kernel_rfl)
theorem hd4:Zan Tryz.prog 26 [pI 4,.str [50]] (.agg (act 4 50)):=Zao (orcV_ok OrOk_nil) T_ok 30 rfl (by kernel_rfl)
theorem ords102:Zan Tryz.prog 11 [pI 3,.sl 1 [[pI 0]],.sl 1 [[pI 1],[pI 0],[pI 2]]] (.sl 1 [rw3 1 0 2]):=by
 have H:=sp_Orders 3 [0] [1,0,2] (by decide) (by decide)
 rwa [show (PV.sl 1 (llR ((ordsP 3 [0] [1,0,2]).map nz)))=.sl 1 [rw3 1 0 2] by kernel_rfl] at H
theorem ints0:Zan Tryz.prog 14 [.sl 1 [[pI 0]],.sl 1 [[pI 0]]] (.bool true):=Zao (orcV_ok OrOk_nil) T_ok 30 rfl (by kernel_rfl)
theorem lists0:Zan Tryz.prog 10 [.sl 1 [rw3 1 0 2],.sl 1 [rw3 1 0 2]] (.bool true):=Zao (orcV_ok OrOk_nil) T_ok 30 rfl (by kernel_rfl)
theorem sp_awake:Zan Tryz.prog 9 [] (.bool true):=by
 refine Gp (vc:=c_pandectlaw38_awake) [.t 0] (cB _) Tryz.func9 ?_;unfold c_pandectlaw38_awake;try dsimp only [ZM,ZO,ZN,ZG,ZR,ZU]
 refine Rp0 [0] ?_;refine Rp0 [1] ?_;refine VW_freeze [(1,.ro [pI 0,pI 0,pI 0,pI 0,.str [],.nilsl,.nilsl,.sl 8 [[pI 1,pI 0,pI 1,pI 2,.str [49],.nilsl,.nilsl,.nilsl],[pI 1,pI 0,pI 2,pI 2,.str [50],.nilsl,.nilsl,.nilsl]]])] ⟨viewD_ok (n:=30) (by first|rfl|kernel_rfl),trivial⟩ ?_;refine Zac (VW_drawS [1,2,3] (by simp [Heap.le,HL.le]) ?_);refine Sp0 ?_;refine ⟨_,.inl hd2,_,.inl hd3,_,.inl hd4,?_⟩;refine Sp0 ?_;refine ⟨⟨rfl,rfl,rfl⟩,_,.inl min3,?_⟩;refine Sp0 ?_;refine Zac (VW_drawS [0] (by simp [Heap.le,HL.le]) ?_);refine Sp0 ?_;refine ⟨_,.inl ints0,?_⟩;refine Sp0 ?_;refine ⟨_,.inl hd2,_,.inl hd3,_,.inl hd4,?_⟩;refine Sp0 ?_;refine ⟨⟨rfl,rfl,rfl⟩,_,.inl cnt3,?_⟩;refine Sp0 ?_;refine ⟨_,.inl ords102,?_⟩;refine Sp0 ?_;refine ⟨_,.inl lists0,?_⟩;refine Sp0 ?_;exact Tv0
end Go.Proofs.YtldogpfookkbaaaGreatDoor.w
namespace Go.VM
open Go
theorem ordsP_small (n:Int) (K b:List Int):((ordsP n K b).map nz).length≤1000000∧∀ x∈(ordsP n K b).map nz,x.length≤1000000:=by
 unfold ordsP;by_cases h:0≤n∧n≤5∧ordB b n=true
 ·rw [if_pos h];have h5:n.toNat≤5:=by omega
  have hl:=rows_len n.toNat h5;refine ⟨?_,fun x hx=>?_⟩
  ·rw [List.length_map];exact Nat.le_trans (List.length_filter_le _ _) (by omega)
  ·obtain ⟨r,hr,rfl⟩:=List.mem_map.1 hx;rw [nz_len,(rows_perm h5 (List.mem_filter.1 hr).1).1];omega
 ·rw [if_neg h];exact ⟨Nat.zero_le _,fun x hx=>by simp at hx⟩
end Go.VM
namespace Go.Proofs.YtldogpfookkbaaaGreatDoor.w
open Go Go.VM
end Go.Proofs.YtldogpfookkbaaaGreatDoor.w
namespace Go.VM
open Go Go.Proofs.YtldogpfookkbaaaGreatDoor.w
theorem mem_allR (n:Nat):∀ (f:Nat) (p c:List Nat),c.length=f→(p++c).Nodup→(∀ x∈c,x<n)→p++c∈allR n f p
 | 0,p,c,hl,_,_=>by
  have:c=[]:=List.eq_nil_of_length_eq_zero hl;subst this;simp [allR]
 | f+1,p,[],hl,_,_=>by simp at hl
 | f+1,p,x::c,hl,hnd,hlt=>by
  have hx:=hlt x List.mem_cons_self;simp only [allR,List.mem_flatMap,List.mem_range];refine ⟨x,hx,?_⟩;have hnp:¬ x∈p:=by
   intro h;have:=(List.nodup_append.1 hnd).2.2 x h x List.mem_cons_self;exact this rfl
  rw [if_neg (by rw [List.contains_iff_mem];exact hnp)];have e:p++x::c=(p++[x])++c:=by simp
  rw [e] at hnd ⊢;exact mem_allR n f (p++[x]) c (by simpa using hl) hnd (fun y hy=>hlt y (List.mem_cons_of_mem _ hy))
theorem rows_has {n:Nat} (hn:n≤5) {r:List Nat} (h:permB n r):r∈Zbp n:=by
 rw [rows_all n hn];have h1:=Zbm n r h;have:=mem_allR n n [] r h.1 (by simpa using h1.1) h1.2
 simpa using this
def ahP (l:List Int) (x:Int):List Int:=if x∈l then l.take (l.idxOf x) else []
def sameP (a b:List Int):Bool:=decide (a.length=b.length)&&a.all fun x=>b.contains x
theorem idx_nz (r:List Nat) (i:Nat):(nz r).idxOf (i:Int)=r.idxOf i:=by
 induction r with
 | nil=>rfl
 | cons a r ih =>
  have e:nz (a::r)=(a:Int)::nz r:=rfl;rw [e,List.idxOf_cons,List.idxOf_cons,ih];by_cases h:a=i
  ·subst h;simp
  ·have h2:¬ ((a:Int)=(i:Int)):=by omega
   rw [beq_false_of_ne h,beq_false_of_ne h2]
theorem mem_take_idx {r:List Nat} {x j:Nat}:x∈r.take j↔x∈r∧r.idxOf x<j:=by
  constructor
  · intro h
    obtain ⟨i,hi,e⟩:=List.getElem_of_mem h;rw [List.getElem_take] at e;have hi2:i<j∧i<r.length:=by rw [List.length_take] at hi;omega
    refine ⟨List.mem_of_mem_take h,?_⟩;have:r.idxOf x≤i:=by
      rcases Nat.lt_or_ge i (r.idxOf x) with h1|h1
      · have:=List.not_of_lt_findIdx (p:=(·==x)) (xs:=r) (i:=i) h1
        simp [e] at this
      · exact h1
    omega
  · rintro ⟨h1,h2⟩
    have h3:=List.idxOf_lt_length_of_mem h1;have h4:=List.getElem_idxOf h3;rw [List.mem_take_iff_getElem];exact ⟨r.idxOf x,by omega,h4⟩
theorem nodup_same:∀ {a b:List Nat},a.Nodup→b.Nodup→(∀ x,x∈a↔x∈b)→a.length=b.length:=by
 intro a
 induction a with
 | nil =>
  intro b _ _ h;cases b with
  | nil=>rfl
  | cons y b=>have:=(h y).2 List.mem_cons_self;cases this
 | cons x a ih =>
  intro b ha hb h;have hx:=(h x).1 List.mem_cons_self;have h1:=List.nodup_cons.1 ha;have:=ih h1.2 (hb.erase x) (fun y=>by
   rw [hb.mem_erase_iff];constructor
   ·intro hy;exact ⟨fun e=>h1.1 (e▸hy),(h y).1 (List.mem_cons_of_mem _ hy)⟩
   ·rintro ⟨hne,hy⟩;rcases List.mem_cons.1 ((h y).2 hy) with e|e
    ·exact absurd e hne
    ·exact e)
  rw [List.length_cons,this,List.length_erase_of_mem hx];have:=List.length_pos_of_mem hx;omega
theorem nz_take (r:List Nat) (j:Nat):nz (r.take j)=(nz r).take j:=by unfold nz;rw [List.map_take]
theorem ah_same {n:Nat} {r b:List Nat} (hr:permB n r) (hb:permB n b) {K:List Int} (hk:Za0 r b (fun i=>K.contains (i:Int))=true) {x:Int} (hx:x∈K):sameP (ahP (nz r) x) (ahP (nz b) x)=true:=by
 have hmem:∀ {q:List Nat},permB n q→(x∈nz q↔∃ i,i<n∧(i:Int)=x):=by
  intro q hq;rw [mem_nz];constructor
  ·rintro ⟨i,hi,e⟩;exact ⟨i,(Zbm n q hq).2 i hi,e⟩
  ·rintro ⟨i,hi,e⟩;exact ⟨i,hq.2 i hi,e⟩
 by_cases hc:∃ i,i<n∧(i:Int)=x
 ·have m1:=(hmem hr).2 hc;have m2:=(hmem hb).2 hc;obtain ⟨i,hi,rfl⟩:=hc;unfold ahP;rw [if_pos m1,if_pos m2,idx_nz,idx_nz,← nz_take,← nz_take];rw [keeps_eq hr hb] at hk;unfold keepsF at hk;simp only [List.all_eq_true,List.mem_range,hr.1] at hk;have hKi:K.contains (i:Int)=true:=by rw [List.contains_iff_mem];exact hx
  have key:∀ y,y∈r.take (r.idxOf i)↔y∈b.take (b.idxOf i):=by
   intro y;rw [mem_take_idx,mem_take_idx];by_cases hy:y<n
   ·by_cases e:y=i
    ·subst e;simp
    ·have h1:=hk y hy i hi;simp only [hKi,Bool.or_true,Bool.and_true,Bool.not_eq_true',Bool.and_eq_false_imp,decide_eq_true_eq] at h1;have h2:=h1 e;unfold diffB at h2;simp only [bne_eq_false_iff_eq,decide_eq_decide] at h2;constructor
     ·rintro ⟨_,h3⟩;exact ⟨hb.2 y hy,h2.1 h3⟩
     ·rintro ⟨_,h3⟩;exact ⟨hr.2 y hy,h2.2 h3⟩
   ·constructor
    ·rintro ⟨h1,_⟩;exact absurd ((Zbm n r hr).2 y h1) hy
    ·rintro ⟨h1,_⟩;exact absurd ((Zbm n b hb).2 y h1) hy
  have hlen:=nodup_same ((Zbm n r hr).1.sublist (List.take_sublist _ _)) ((Zbm n b hb).1.sublist (List.take_sublist _ _)) key;unfold sameP;rw [nz_len,nz_len,decide_eq_true hlen,Bool.true_and,List.all_eq_true];intro y hy;obtain ⟨z,hz,e⟩:=mem_nz.1 hy;rw [List.contains_iff_mem];exact mem_nz.2 ⟨z,(key z).1 hz,e⟩
 ·unfold ahP;rw [if_neg (fun h=>hc ((hmem hr).1 h)),if_neg (fun h=>hc ((hmem hb).1 h))];rfl
theorem ords_at {n:Nat} (hn:n≤5) {K b:List Int} (hb:ordB b n=true):ordsP n K b=(Zbp n).filter fun r=>Za0 r (b.map Int.toNat) fun i=>K.contains (i:Int):=by
 unfold ordsP;rw [if_pos ⟨by omega,by omega,hb⟩,Int.toNat_natCast]
theorem ordB_nz {n:Nat} {r:List Nat} (h:permB n r):ordB (nz r) n=true:=by
 unfold ordB;rw [nz_len,h.1,decide_eq_true rfl,Bool.true_and,List.all_eq_true,Int.toNat_natCast];intro i hi;rw [List.contains_iff_mem];exact mem_nz.2 ⟨i,h.2 i (List.mem_range.1 hi),rfl⟩
theorem resp_order {n:Nat} (hn:n≤5) {K b:List Int} (hb:ordB b n=true):∀ r∈(ordsP n K b).map nz,ordB r n=true:=by
 intro r hr;obtain ⟨q,hq,rfl⟩:=List.mem_map.1 hr;rw [ords_at hn hb] at hq;have h1:=rows_perm hn (List.mem_filter.1 hq).1;exact ordB_nz (h1.1▸h1.2)
theorem resp_own {n:Nat} (hn:n≤5) {K b:List Int} (hb:ordB b n=true):b∈(ordsP n K b).map nz:=by
 have h1:=ord_nat hb;refine List.mem_map.2 ⟨b.map Int.toNat,?_,h1.1⟩;rw [ords_at hn hb];exact List.mem_filter.2 ⟨rows_has hn h1.2,keepsP_self _ _⟩
theorem resp_same {n:Nat} (hn:n≤5) {K b:List Int} (hb:ordB b n=true) {r:List Int} (hr:r∈(ordsP n K b).map nz) {x:Int} (hx:x∈K):sameP (ahP r x) (ahP b x)=true:=by
 obtain ⟨q,hq,rfl⟩:=List.mem_map.1 hr;rw [ords_at hn hb] at hq;obtain ⟨h1,h2⟩:=List.mem_filter.1 hq;have h3:=rows_perm hn h1;have h4:=ord_nat hb;have h5:=ah_same (n:=n) (h3.1▸h3.2) h4.2 h2 hx;rw [h4.1] at h5;exact h5
theorem keepsP_mono {r b:List Nat} {K K':Nat→Bool} (h:∀ i,K i=true→K' i=true) (hk:Za0 r b K'=true):Za0 r b K=true:=by
 unfold Za0 at hk ⊢;simp only [List.all_eq_true,List.mem_range,Bool.not_eq_true',Bool.and_eq_false_imp,Bool.or_eq_true] at hk ⊢;intro i hi k hk2 h3;exact hk i hi k hk2 (h3.imp (h i) (h k))
theorem filter_len_le {α:Type} {p q:α→Bool} (h:∀ a,p a=true→q a=true):∀ l:List α,(l.filter p).length≤(l.filter q).length
 | []=>Nat.le_refl _
 | a::l=>by
  have ih:=filter_len_le h l;rw [List.filter_cons,List.filter_cons];by_cases h1:p a=true
  ·rw [if_pos h1,if_pos (h a h1)];simp only [List.length_cons];omega
  ·rw [if_neg h1];by_cases h2:q a=true
   ·rw [if_pos h2];simp only [List.length_cons];omega
   ·rw [if_neg h2];exact ih
theorem resp_more {n:Nat} (hn:n≤5) {K b:List Int} (hb:ordB b n=true) (x:Int):((ordsP n (K++[x]) b).map nz).length≤((ordsP n K b).map nz).length:=by
 rw [List.length_map,List.length_map,ords_at hn hb,ords_at hn hb];refine filter_len_le (fun r h=>keepsP_mono (fun i hi=>?_) h) _;rw [List.contains_iff_mem] at hi ⊢;exact List.mem_append_left _ hi
theorem resp_none {n:Nat} (hn:n≤5) {b:List Int} (hb:ordB b n=true):(((ordsP n [] b).map nz).length:Int)=([1,1,2,6,24,120]:List Int).getD n 0:=by
 rw [List.length_map,ords_at hn hb];have e:((Zbp n).filter fun r=>Za0 r (b.map Int.toNat) fun i=>([]:List Int).contains (i:Int))=Zbp n:=by
  rw [List.filter_eq_self];intro r _;unfold Za0;simp
 rw [e];have key:((List.range 6).all fun n=>decide (((Zbp n).length:Int)=([1,1,2,6,24,120]:List Int).getD n 0))=true:=by kernel_rfl
 have:=List.all_eq_true.1 key n (by simp;omega)
 simpa using this
end Go.VM
