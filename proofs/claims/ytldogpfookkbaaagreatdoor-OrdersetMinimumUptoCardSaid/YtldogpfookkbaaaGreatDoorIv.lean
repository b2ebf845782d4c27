import Derived.Test.YtldogpfookkbaaaGreatDoorIl
import Derived.Lib.LaidTab
import Derived.LaidSub
import Derived.LaidMore
set_option linter.all false
set_option maxRecDepth 20000
set_option maxHeartbeats 0
namespace Go.VM
open Go Go.Proofs.w
def Zp5(h:Heap):List (List PV)→List (List PV)→Prop
 | [],[]=>True
 |a::r,b::q=>Zcx h a b∧Zp5 h r q
 |_,_=>False
theorem Zp5.at{h:Heap}:∀{es q:List (List PV)},Zp5 h es q→es.length=q.length∧∀i,i<q.length→Zcx h (PV.row es i) (PV.row q i)
 | [],[],_=>⟨rfl,fun i hi=>by simp at hi⟩
 |a::r,b::q,⟨v,w⟩=>by
  obtain⟨h1,h2⟩:=Zp5.at w;refine⟨by rw[Zyd,Zyd,h1],fun i hi=>?_⟩;cases i with
  |zero=>exact v
  |succ i=>exact h2 i (by simpa using hi)
 | [],_::_,w=>w.elim
 |_::_,[],w=>w.elim
theorem Zp5.sl{h:Heap}{z:Nat}{es q:List (List PV)}(hv:Zp5 h es q):View h (.sl z es) (.sl z q):=by
 obtain⟨l1,l2⟩:=hv.at
 intro g w v r hr;cases hr with
 |slE ao=>
  have:q=[]:=List.eq_nil_of_length_eq_zero (by rw[←l1];rfl);subst this;exact .slE _ _ _
 | sl b o len cap z a es vs ha hl hc hz hm hr=>
  refine .sl b o len cap z a _ vs ha (by omega) hc (fun i hi=>?_) (fun i j hi hj=>Zcl (hm i j hi hj)) (fun i j hi hj=>?_)
  ·rw[←Zcx.len (l2 i (by omega))];exact hz i hi
  ·have hj':j<(PV.row q i).length:=by rw[←Zcx.len (l2 i (by omega)),hz i hi];exact hj
   exact Zcx.nth j (l2 i (by omega)) hj' g w _ r (hr i j hi hj)
theorem View.ownR{h:Heap}{id z n:Nat}{fz:Bool}{es q:List (List PV)}(hg:h.get id=some (.arr fz z es))(hn:es.length=n)(hz:∀r∈q,r.length=z)(hv:Zp5 h es q):View h (.own id 0 n) (.sl z q):=by
 subst hn;obtain⟨l1,l2⟩:=hv.at
 have hrow:∀i,i<es.length→PV.row q i∈q:=fun i hi=>by
  unfold PV.row;rw[Zx1,Zye (by omega)];exact Zyl _
 refine View.ownV hg (by omega) l1.symm (fun i hi=>hz _ (hrow i hi)) (fun i j hi hj=>?_);rw[Nat.zero_add];exact Zcx.nth j (l2 i (by omega)) (by rw[hz _ (hrow i hi)];exact hj)
theorem View.locR{h:Heap}{id z:Nat}{fz:Bool}{e q:List PV}(hg:h.get id=some (.arr fz z [e]))(hl:q.length≤z)(hv:Zcx h e q):View h (.loc id 0 0) (.ro q):=
 View.locV hg (by simp) (by omega) (fun j hj=>by rw[Nat.zero_add];exact Zcx.nth j hv hj)
theorem Zgy.ofViews{P:Program}{f:FuncId}{args q:List PV}{p:PV}(H:Zgy P f q p)(hp:Closed p)(hc:Za8 args)(hv:Zcx Heap.nil args q):Zgy P f args p:=
 Zac (Zsf q hv (Zag H (Vr))) hp hc
def exU(h1 h2:List Wd):Un:=.mk 0 0 0 0 [] [] [] [.mk 1 0 1 2 [49] h1 [] [],.mk 1 0 2 2 [50] h2 [] []]
def exI(l:UInt8):It:=.mk 4 [⟨2,[l]⟩] [] 0 0 Zf3 [] [[104]] [] [] ⟨0,0,[]⟩ 0 0 0 [] []
def exA(n:Int)(l:UInt8):Ac:=⟨n,[116],0,⟨0,0,[]⟩,[exI l]⟩
def exW(n:Int):List Wd:=[⟨[104],n,0,0⟩]
theorem Zwm{l:UInt8}(hl:l=49∨l=50):Zmh (exI l)=true:=by
 unfold Zmh;rw[show eqB (exI l) (Zi8 (exI l) (Zpj (exI l)))=true from Zmp rfl];rcases hl with rfl|rfl<;>rfl
theorem Z9e(n:Int)(h1 h2:List Wd):Z5k (exU h1 h2) (exA n 49)=exU (exW n) h2:=by
 show(Zcd (exU h1 h2) ⟨n,0,0,exI 49⟩).1=_;unfold Zcd;rw[Zwm (.inl rfl)];rfl
theorem Z9f(n:Int)(h1 h2:List Wd):Z5k (exU h1 h2) (exA n 50)=exU h1 (exW n):=by
 show(Zcd (exU h1 h2) ⟨n,0,0,exI 50⟩).1=_;unfold Zcd;rw[Zwm (.inr rfl)];rfl
def exL:List Ac:=[exA 2 49,exA 3 49,exA 4 50]
def exE(r:List Nat):Bool:=decide (r.idxOf 0<r.idxOf 1)
def exB(n:Int):Un:=exU (exW n) (exW 4)
theorem Xc3:exB 3≠exB 2:=by
 intro h;have e:=congrArg (fun u:Un=>(u.kids.map fun k=>k.head.map Wd.act)) h
 revert e
 decide
theorem Xb9:Zck exL (exU [] [])=[exB 3,exB 3,exB 2,exB 2,exB 3,exB 2]:=by
 have hr:Za3 exL.length=[[0,1,2],[0,2,1],[1,0,2],[1,2,0],[2,0,1],[2,1,0]]:=by kernel_rfl
 have h0:exL.getD 0 default=exA 2 49:=rfl;have h1:exL.getD 1 default=exA 3 49:=rfl;have h2:exL.getD 2 default=exA 4 50:=rfl;unfold Zck;rw[hr];simp only[List.map_cons,List.map_nil,Zbu,List.foldl_cons,List.foldl_nil,h0,h1,h2,Z9e,Z9f,exB]
theorem Xca:(Zth (Zck exL (exU [] []))).length=2:=by
 have hne:=Xc3;rw[Xb9,Z0y];simp only[Zpc,List.any_cons,List.any_nil,Bool.or_false,Zmp rfl,Zel hne,Zel (Ne.symm hne),if_true,Zyu,if_false,List.cons_append,List.nil_append,Bool.true_or,Bool.or_true,Bool.false_or,reduceIte];rfl
theorem Xew:∀r∈Za3 3,Zmv exL (exU [] []) r=exE r:=by
 have hr:Za3 3=[[0,1,2],[0,2,1],[1,0,2],[1,2,0],[2,0,1],[2,1,0]]:=by kernel_rfl
 have h0:exL.getD 0 default=exA 2 49:=rfl;have h1:exL.getD 1 default=exA 3 49:=rfl;have h2:exL.getD 2 default=exA 4 50:=rfl;have hne:=Xc3;have hb:Zbu exL (exU [] []) (List.range exL.length)=exB 3:=by
  show Zbu exL (exU [] []) [0,1,2]=_;simp only[Zbu,List.foldl_cons,List.foldl_nil,h0,h1,h2,Z9e,Z9f,exB]
 rw[hr];intro r hrm;simp only[Zyb,Zya,or_false]at hrm;unfold Zmv;rw[hb];rcases hrm with rfl|rfl|rfl|rfl|rfl|rfl
 all_goals
  simp only[Zbu,List.foldl_cons,List.foldl_nil,h0,h1,h2,Z9e,Z9f]
  first|exact Zmp rfl|exact Zel (Ne.symm hne)
theorem Z5a{n:Nat}{e e':List Nat→Bool}(h:∀r∈Za3 n,e r=e' r)(K:Nat→Bool):Zbh n e K=Zbh n e' K:=by
 unfold Zbh;rw[Bool.eq_iff_iff,List.all_eq_true,List.all_eq_true];exact⟨fun H r hr=>by rw[←h r hr];exact H r hr,fun H r hr=>by rw[h r hr];exact H r hr⟩
theorem Zwn{n:Nat}{e e':List Nat→Bool}(h:∀r∈Za3 n,e r=e' r):∀k,Zkr n e k=Zkr n e' k
 |0=>rfl
 |k+1=>by
  rw[Zh8,Zh8,Zwn h k];unfold Z89;rw[Z5a h]
theorem ex_min:Zwe 3 (Zmv exL (exU [] []))=[0]:=by
 unfold Zwe;rw[Zwn Xew]
 kernel_rfl
theorem Z9g(l:Str)(hl:l.length≤30)(a i n k:Int)(ha:i64 a)(hi:i64 i)(hn:i64 n)(hk:i64 k)(ks:List Un)(h1:ks.length≤1000)(h2:∀x∈ks,SmT x):SmT (.mk a i n k l [] [] ks):=
 .mk _ ⟨⟨ha,hi,hn,hk⟩,hl,⟨Zyw _,fun w hw=>by cases hw⟩,⟨Zyw _,fun w hw=>by cases hw⟩⟩ h1 h2
theorem Z9h:VM.Good 60 (exU [] []):=by
 have z:∀n:Nat,n≤1000000→i64 (n:Int):=fun n h=>Zkk h;have k1:=Z9g [49] (by decide) 1 0 1 2 (z 1 (by omega)) (z 0 (by omega)) (z 1 (by omega)) (z 2 (by omega)) [] (by decide) (fun x hx=>by cases hx);have k2:=Z9g [50] (by decide) 1 0 2 2 (z 1 (by omega)) (z 0 (by omega)) (z 2 (by omega)) (z 2 (by omega)) [] (by decide) (fun x hx=>by cases hx);refine⟨Z9g [] (by decide) 0 0 0 0 (z 0 (by omega)) (z 0 (by omega)) (z 0 (by omega)) (z 0 (by omega)) _ (by decide) (fun x hx=>?_),by decide,by decide⟩;simp only[Zyb,Zya,or_false]at hx;rcases hx with rfl|rfl
 ·exact k1
 ·exact k2
theorem ex_unB:UnB Zf3:=.mk _ ⟨z64,z64,z64,z64⟩ (Zyw _) ⟨Zyw _,fun w hw=>by cases hw⟩ ⟨Zyw _,fun w hw=>by cases hw⟩ (Zyw _) (fun k hk=>by cases hk)
theorem Z9i(n:Nat)(hn:n≤100)(l:UInt8):SmAc (exA n l):=by
 have z:∀n:Nat,n≤1000000→i64 (n:Int):=fun n h=>Zkk h;have hs:∀s∈[([l]:Str)],s.length≤1048576:=fun s h=>by rw[List.mem_singleton.1 h];exact Zym rfl
 refine⟨⟨Zym rfl,Zym rfl,fun x hx=>?_⟩,⟨z n (by omega),Zym rfl,z 0 (by omega),⟨z 0 (by omega),z 0 (by omega),Zym rfl⟩,Zym rfl,fun x hx=>?_⟩,Zym rfl⟩
 ·rw[List.mem_singleton.1 hx];refine⟨Zym rfl,Zym rfl,Zym rfl,Zym rfl,Zym rfl,Zym rfl,Zym rfl,Zym rfl,Zym rfl,rfl,fun s h=>(by cases h),fun s h=>?_,fun s h=>?_,fun s h=>(by cases h)⟩
  ·rw[List.mem_singleton.1 h];exact Zym rfl
  ·rw[List.mem_singleton.1 h];show[l].length≤100;exact Zym rfl
 ·rw[List.mem_singleton.1 hx];refine .mk _ (z 4 (by omega)) ⟨Zym rfl,fun s h=>?_⟩ ⟨Zym rfl,fun s h=>by cases h⟩ (z 0 (by omega)) (z 0 (by omega)) ex_unB ⟨Zym rfl,fun s h=>by cases h⟩ ⟨Zym rfl,fun s h=>?_⟩ (Zym rfl) (Zym rfl) ⟨z 0 (by omega),z 0 (by omega),Zym rfl⟩ (z 0 (by omega)) (z 0 (by omega)) (z 0 (by omega)) (Zym rfl) (Zym rfl) (fun k hk=>by cases hk)
  ·rw[List.mem_singleton.1 h];exact⟨z 2 (by omega),by show[l].length≤1048576;exact Zym rfl⟩
  ·rw[List.mem_singleton.1 h];show([104]:Str).length≤1048576;exact Zym rfl
theorem Z9j:∀a∈exL,SmAc a:=by
 intro a ha;simp only[exL,Zyb,Zya,or_false]at ha;rcases ha with rfl|rfl|rfl
 ·exact Z9i 2 (by omega) 49
 ·exact Z9i 3 (by omega) 49
 ·exact Z9i 4 (by omega) 50
end Go.VM
namespace Go.Proofs.w
open Go Go.VM
def Y190:VC:=(ZR [ZO 4 (.alloc [Yo,(.str []),Yo,Yo,Yo,(.str []),.nilsl])] (ZR [ZM 5 0,ZM 6 1,ZO 7 (.build [Yo,(.str [])] [(0,(1,(Yi 2))),(1,(1,(.t 6)))]),ZO 8 (.bslice 2 1 [Yo,(.str [])] [(0,(.t 7))]),ZO 9 (.bslice 1 1 [(.str [])] [(0,(.c (.str [104])))]),ZO 10 (.build YI [(0,(1,(Yi 4))),(1,(1,(.t 8))),(14,(1,(.t 9)))]),ZO 11 (.bslice 25 1 YI [(0,(.t 10))]),ZO 12 (.build [Yo,(.str []),Yo,Yo,Yo,(.str []),.nilsl] [(0,(1,(.t 5))),(1,(1,(.c (.str [116])))),(6,(1,(.t 11)))]),Ys 7 4 12] .ret))
def Y191:VC:=(ZR [Yv 0 Yf] (ZR [ZO 4 (.build [Yo,Yo,Yo] [(0,(1,(Yi 1))),(2,(1,(Yi 1)))]),ZO 5 (.build ZU [(3,(1,(Yi 2))),(4,(1,(.c (.str [49])))),(0,(3,(.t 4)))]),ZO 6 (.build [Yo,Yo,Yo] [(0,(1,(Yi 1))),(2,(1,(Yi 2)))]),ZO 7 (.build ZU [(3,(1,(Yi 2))),(4,(1,(.c (.str [50])))),(0,(3,(.t 6)))]),ZO 8 (.bslice 8 2 ZU [(0,(.t 5)),(1,(.t 7))]),ZO 9 (.build ZU [(7,(1,(.t 8)))]),ZO 1 (.alloc ZU),Ys 8 1 9] (.seq (.region [Ym 11 8 1,ZO 12 (.call 26 [(Yi 2),(.c (.str [49]))]),ZO 13 (.call 26 [(Yi 3),(.c (.str [49]))]),ZO 14 (.call 26 [(Yi 4),(.c (.str [50]))]),ZO 15 (.bslice 7 3 [Yo,(.str []),Yo,Yo,Yo,(.str []),.nilsl] [(0,(.t 12)),(1,(.t 13)),(2,(.t 14))]),Yc 16 19 [11,15],ZM 10 16,Yp 17 10 0,Yp 18 10 1,ZM 2 17,ZM 3 18] true) (.seq (.region [ZM 19 3,Yu 20 .eql 19 0,ZM 21 20,Yg 22 2 21 true,ZG 23 (.bslice 1 1 [Yo] [(0,(Yi 0))]) 21 true,ZG 24 (.call 14 [.t 22,.t 23]) 21 true,Yz 25 21 24,ZM 26 25,Yj 27 8 1 26 true,ZG 28 (.call 26 [(Yi 2),(.c (.str [49]))]) 26 true,ZG 29 (.call 26 [(Yi 3),(.c (.str [49]))]) 26 true,ZG 30 (.call 26 [(Yi 4),(.c (.str [50]))]) 26 true,ZG 31 (.bslice 7 3 [Yo,(.str []),Yo,Yo,Yo,(.str []),.nilsl] [(0,(.t 28)),(1,(.t 29)),(2,(.t 30))]) 26 true,ZG 32 (.call 21 [.t 27,.t 31]) 26 true,ZG 33 (.bin .eql (.t 32) (Yi 2)) 26 true,Yz 34 26 33,ZM 35 34,ZG 36 (.bslice 1 1 [Yo] [(0,(Yi 0))]) 35 true,ZG 37 (.bslice 1 3 [Yo] [(0,(Yi 1)),(1,(Yi 0)),(2,(Yi 2))]) 35 true,ZG 38 (.call 11 [(Yi 3),.t 36,.t 37]) 35 true,ZG 39 (.bslice 1 3 [Yo] [(0,(Yi 1)),(1,(Yi 0)),(2,(Yi 2))]) 35 true,ZG 40 (.bslice 1 1 [.nilsl] [(0,(.t 39))]) 35 true,ZG 41 (.call 10 [.t 38,.t 40]) 35 true,Yz 42 35 41,ZM 0 42] true) .ret))))
def Xex(l:UInt8):List PV:=[pI 4,.sl 2 [[pI 2,.str [l]]],.nilsl,pI 0,pI 0,pI 0,pI 0,pI 0,pI 0,.str [],.nilsl,.nilsl,.nilsl,.nilsl,.sl 1 [[.str [104]]],.str [],.str [],pI 0,pI 0,.str [],pI 0,pI 0,pI 0,.str [],.nilsl]
def Z9z(n:Int)(l:UInt8):List PV:=[pI n,.str [116],pI 0,pI 0,pI 0,.str [],.sl 25 [Xex l]]
def Xfc:PV:=.sl 7 [Z9z 2 49,Z9z 3 49,Z9z 4 50]
def Xfd:PV:=.agg [pI 0,pI 0,pI 0,pI 0,.str [],.nilsl,.nilsl,.sl 8 [[pI 1,pI 0,pI 1,pI 2,.str [49],.nilsl,.nilsl,.nilsl],[pI 1,pI 0,pI 2,pI 2,.str [50],.nilsl,.nilsl,.nilsl]]]
theorem Z5b(l:UInt8):∀y∈Xex l,Closed y:=by
 intro y hy;simp only[Xex,Zyb,Zya,or_false]at hy;rcases hy with rfl|rfl|rfl|rfl|rfl|rfl|rfl|rfl|rfl|rfl|rfl|rfl|rfl|rfl|rfl|rfl|rfl|rfl|rfl|rfl|rfl|rfl|rfl|rfl|rfl
 all_goals first|exact cI _|exact cS _|exact Zar|exact Zro [⟨2,[l]⟩]|exact Zb0 [[104]]
theorem Zru(n:Int)(l:UInt8):∀y∈Z9z n l,Closed y:=by
 intro y hy;simp only[Z9z,Zyb,Zya,or_false]at hy;rcases hy with rfl|rfl|rfl|rfl|rfl|rfl|rfl
 all_goals first|exact cI _|exact cS _|skip
 exact Zaj (l:=[()]) (enc:=fun _=>Xex l) fun _ _=>Z5b l
theorem Xey(n:Int)(l:UInt8):Tc 26 [pI n,.str [l]] (.agg (Z9z n l)):=by
 refine Zac ?_ (Zah (Zru n l)) (CL2 (cI _) (cS _));unfold Z9z Xex;refine Gn (vc:=Y190) [.c 4 true 7] Tryz.func26 ?_;simp only[Y190,YY];refine Rp0 [0,1,4] ?_;refine Rp0 [4] ?_;refine Tp0 ?_;refine View.aggs ⟨Vr,Vr,Vr,Vr,Vr,Vr,View.ownR (fz:=false) rfl rfl (fun r hr=>by rw[List.mem_singleton.1 hr];rfl) ⟨?_,trivial⟩,trivial⟩;refine⟨Vr,View.own_all (fz:=false) rfl rfl,Vr,Vr,Vr,Vr,Vr,Vr,Vr,Vr,Vr,Vr,Vr,Vr,View.own_all (fz:=false) rfl rfl,?_⟩
 repeat' (first|exact Vr|exact trivial|refine And.intro ?_ ?_)
theorem Z5c:Closed Xfc:=Zjl (fun e he x hx=>by
 simp only[Zyb,Zya,or_false]at he;rcases he with rfl|rfl|rfl<;>exact Zru _ _ x hx)
theorem Z5d:Closed Xfd:=Zah (by
 intro y hy;simp only[Zyb,Zya,or_false]at hy;rcases hy with rfl|rfl|rfl|rfl|rfl|rfl|rfl|rfl
 all_goals first|exact cI _|exact cS _|exact Zar|skip
 refine Zjl (fun e he x hx=>?_);simp only[Zyb,Zya,or_false]at he;rcases he with rfl|rfl<;>simp only[Zyb,Zya,or_false]at hx<;>rcases hx with rfl|rfl|rfl|rfl|rfl|rfl|rfl|rfl<;>first|exact cI _|exact cS _|exact Zar)
theorem Z2q:Zcx Heap.nil [Xfd,Xfc] [.agg (exU [] []).enc,.sl 7 (exL.map Ac.enc)]:=by
 refine⟨View.aggs ?_,Zp5.sl ?_,trivial⟩
 ·rw[Un.Zaf];refine⟨Vr,Vr,Vr,Vr,Vr,View.nil _ _,View.nil _ _,Zp5.sl ?_,trivial⟩;simp only[exU,Un.kids,List.map_cons,List.map_nil];rw[Un.Zaf,Un.Zaf]
  repeat' (first|exact Vr|exact View.nil _ _|exact trivial|refine And.intro ?_ ?_)
 ·have hr:∀(n:Int) (l:UInt8),Zcx Heap.nil (Z9z n l) (exA n l).enc:=by
   intro n l;refine⟨Vr,Vr,Vr,Vr,Vr,Vr,Zp5.sl ⟨?_,trivial⟩,trivial⟩;rw[It.Zaf]
   repeat' (first|exact Vr|exact View.nil _ _|exact trivial|refine And.intro ?_ ?_)
  exact⟨hr 2 49,hr 3 49,hr 4 50,trivial⟩
theorem Zph:Za8 [Xfd,Xfc]:=by
 intro y hy;simp only[Zyb,Zya,or_false]at hy;rcases hy with rfl|rfl
 ·exact Z5d
 ·exact Z5c
theorem ex_Min:Tc 19 [Xfd,Xfc] (.tup [.sl 1 [[pI 0]],pI 0]):=by
 have H:=Zrt Z9h (l:=exL) Z9j (by decide) (by omega);rw[show Zwe exL.length (Zmv exL (exU [] []))=[0]from ex_min]at H;exact H.ofViews (Zbb (by simp only[Zyb,Zya,or_false,Zyv,forall_eq];exact⟨Zbm [0],cI _⟩)) Zph Z2q
theorem ex_Cnt:Tc 21 [Xfd,Xfc] (pI 2):=by
 have H:=Xb7 Z9h (l:=exL) Z9j (by decide) (by omega);rw[Xca]at H;exact H.ofViews (cI _) Zph Z2q
def exR:List PV:=[.sl 1 [[pI 1],[pI 0],[pI 2]]]
theorem Xez:Tc 11 [pI 3,.sl 1 [[pI 0]],.sl 1 [[pI 1],[pI 0],[pI 2]]] (.sl 1 [exR]):=by
 have H:=Zo5 3 [0] [1,0,2] (by decide) (by decide)
 rwa [show(PV.sl 1 (llR ((Zz6 3 [0] [1,0,2]).map nz)))=.sl 1 [exR] by kernel_rfl]at H
theorem Xe0:Tc 14 [.sl 1 [[pI 0]],.sl 1 [[pI 0]]] (.bool true):=by
 have H:=Z7h [0] [0] (by decide)
 rwa [Zyf rfl]at H
theorem Xcb:Tc 10 [.sl 1 [exR],.sl 1 [exR]] (.bool true):=by
 have H:=Xax [[1,0,2]] [[1,0,2]] (by decide) (by decide)
 rwa [Zyf rfl]at H
theorem Z9k:Tc 9 [] (.bool true):=by
 have MI:=ex_Min;have CN:=ex_Cnt;have OR:=Xez;have LI:=Xcb;unfold Xfd at MI CN;unfold Xfc Z9z Xex at MI CN;unfold exR at OR LI;have H:=fun n l=>Xey n l;unfold Z9z Xex at H;refine Gp (vc:=Y191) [.t 0] (cB _) Tryz.func9 ?_;simp only[Y191,YY];refine Rp0 [0] ?_;refine Rp0 [1] ?_;refine Zav [(1,.ro [pI 0,pI 0,pI 0,pI 0,.str [],.nilsl,.nilsl,.sl 8 [[pI 1,pI 0,pI 1,pI 2,.str [49],.nilsl,.nilsl,.nilsl],[pI 1,pI 0,pI 2,pI 2,.str [50],.nilsl,.nilsl,.nilsl]]])] ⟨View.locR (z:=8) (fz:=false) rfl (by simp) ⟨Vr,Vr,Vr,Vr,Vr,Vr,Vr,View.own_all (fz:=false) rfl rfl,trivial⟩,trivial⟩ ?_;refine Zaa (Zaw [1,2,3] (by simp[Vh]) ?_);refine Sp0 ?_;refine⟨_,.inl (H 2 49),_,.inl (H 3 49),_,.inl (H 4 50),?_⟩;refine Sp0 ?_;refine⟨_,.inl MI,?_⟩;refine Sp0 ?_;refine Zaa (Zaw [0] (by simp[Vh]) ?_);refine Sp0 ?_;refine⟨_,.inl Xe0,?_⟩;refine Sp0 ?_;refine⟨_,.inl (H 2 49),_,.inl (H 3 49),_,.inl (H 4 50),?_⟩;refine Sp0 ?_;refine⟨_,.inl CN,?_⟩;refine Sp0 ?_;refine⟨_,.inl OR,?_⟩
 skip
 refine⟨_,.inl LI,?_⟩
 skip
 exact Tv0
def Y192:VC:=(ZR [Yw 3 8 0,Yv 6 (Yi 0)] (.seq (ZR [ZM 9 1,Yu 10 .gtr 9 20] (YC 10 (ZR [ZM 11 2,Yu 12 .add 11 1,ZM 6 12] .ret) .skip)) (ZR [Yv 7 (Yi 1)] (.seq (ZR [Yv 8 (Yi 0)] (.block 0 (.loop (.seq (ZR [ZM 13 8,Ya 14 7 3,Yl 15 14,Ye 16 15,Yr 17 .lss 13 16,ZM 18 17,Yg 19 7 18 true,Yg 20 2 18 true,ZG 21 (.bin .leq (.t 19) (.t 20)) 18 true,Yz 22 18 21] (YC 22 .skip (.exit 0))) (.seq (.block 1 (.region [ZM 25 7,Ya 26 7 3,Yl 27 26,ZM 28 8,Yx 29 8 27 28,Ym 30 8 29,ZM 31 1,Yu 32 .add 31 1,ZM 33 2,ZM 34 7,Yr 35 .sub 33 34,Yc 36 67 [30,32,35],Yr 37 .add 25 36,ZM 7 37] false)) (.region [ZM 23 8,Yu 24 .add 23 1,ZM 8 24] false)))))) (ZR [ZM 38 7,ZM 6 38] .ret)))))
def Y193:VC:=(ZR [Yv 2 Yf] (.seq (ZR [Yv 3 (Yi 0)] (.block 0 (.loop (.seq (ZR [ZM 4 3,ZM 5 0,Ye 6 5,Yr 7 .lss 4 6] (YC 7 .skip (.exit 0))) (.seq (.block 1 (ZR [ZM 10 0,ZM 11 3,Yx 12 4 10 11,Ya 13 0 12,Yl 14 13,ZO 15 (.len true (.t 14)),Yu 16 .gtr 15 100] (YC 16 (ZR [Yv 2 Yf] .ret) .skip))) (.region [ZM 8 3,Yu 9 .add 8 1,ZM 3 9] false)))))) (ZR [ZM 17 0,Ye 18 17,Yu 19 .leq 18 300,ZM 2 19] .ret)))
def Y194:VC:=(ZR [Yw 1 8 0,Yv 2 Yf] (.seq (ZR [Ya 4 4 1,Yl 5 4,ZO 6 (.len true (.t 5)),Yu 7 .gtr 6 30,ZM 8 7,Yb 9 5 1 8 false,Yk 10 9 8 false,ZG 11 (.call 87 [.t 10]) 8 false,Yq 12 11 8 false,Yh 13 8 12,ZM 14 13,Yb 15 6 1 14 false,Yk 16 15 14 false,ZG 17 (.call 87 [.t 16]) 14 false,Yq 18 17 14 false,Yh 19 14 18] (YC 19 (ZR [Yv 2 Yf] .ret) .skip)) (.seq (ZR [Yv 3 (Yi 0)] (.block 0 (.loop (.seq (ZR [ZM 20 3,Ya 21 7 1,Yl 22 21,Ye 23 22,Yr 24 .lss 20 23] (YC 24 .skip (.exit 0))) (.seq (.block 1 (ZR [Ya 27 7 1,Yl 28 27,ZM 29 3,Yx 30 8 28 29,Ym 31 8 30,Yc 32 68 [31],Yn 33 32] (YC 33 (ZR [Yv 2 Yf] .ret) .skip))) (.region [ZM 25 3,Yu 26 .add 25 1,ZM 3 26] false)))))) (ZR [Yv 2 Yt] .ret))))
def Y195:VC:=(ZR [Yw 2 8 0,Yv 4 Yf] (ZR [Ym 5 8 2,ZM 6 1,ZO 7 (.call 67 [.t 5,(Yi 0),.t 6]),ZM 8 1,Yr 9 .leq 7 8,ZM 10 9,Yj 11 8 2 10 true,ZG 12 (.call 68 [.t 11]) 10 true,Yz 13 10 12,ZM 4 13] .ret))
theorem Zkt:∀(d:Nat) (u:Un) (m:Int),d≤21→0≤m→m≤1000→Tc 67 [.agg u.enc,pI (21-(d:Int)),pI m] (pI (Zic d u m))
 |0,u,m,hd,h0,h1=>by
  have e:(21:Int)-((0:Nat):Int)=21:=rfl;rw[e];refine Gp (vc:=Y192) [.t 6] (cI _) Tryz.func67 ?_;simp only[Y192,YY];rw[Un.Zaf];refine Rp0 [1,2,3] ?_;refine Zaa<|Rp0 [1,2,3,10] ?_;refine Zae rfl (fun h1=>?_) (fun h1=>by cases h1);refine Rp1 [6] (w64 (n:=m+1) (by omega) (by omega)) ?_;refine Tp0 ?_;rw[Zic];exact Vr
 | d+1,u,m,hd,h0,h1=>by
  have A:=fun k m' a b=>Zkt d k m' (by omega) a b;have hb:=fun k m' h=>Zsh d k m' h;rw[Zic];generalize Zic d=f at A hb⊢;obtain⟨D,hD⟩:∃D:Int,D=21-((d+1:Nat):Int):=⟨_,rfl⟩;have hD1:21-(d:Int)=D+1:=by omega
  rw[←hD];rw[hD1]at A;have hD0:0≤D∧D≤20:=by omega
  clear hD hD1;refine Gp (vc:=Y192) [.t 6] (cI _) Tryz.func67 ?_;simp only[Y192,YY];rw[Un.Zaf];refine Rp0 [1,2,3] ?_;refine Zav [(1,pI D),(2,pI m),(3,.ro [pI u.act,pI u.item,pI u.n,pI u.kind,.str u.label,.sl 4 (u.head.map Wd.enc),.sl 4 (u.words.map Wd.enc),.sl 8 (u.kids.map Un.enc)])] ⟨Vr,Vr,View.loc (z:=8) (fz:=false) (es:=[[pI u.act,pI u.item,pI u.n,pI u.kind,.str u.label,.sl 4 (u.head.map Wd.enc),.sl 4 (u.words.map Wd.enc),.sl 8 (u.kids.map Un.enc)]]) rfl (by simp) rfl (by simp),trivial⟩ ?_;generalize u.head.map Wd.enc=EH;generalize u.words.map Wd.enc=EW;generalize u.kids=L;refine Zaa<|Rp0 [1,2,3,10] ?_;refine Zae rfl (fun h1=>by simp at h1;omega) (fun h1=>?_);refine Kp0 ?_;refine Rp0 [1,2,3,7] ?_;refine Zaa<|Rp0 [1,2,3,7,8] ?_;refine Zab ?_;refine Zai (σ:={ x:Nat×Nat//x.1≤L.length∧(x.1:Int)+1≤m+2 }) (fun x=>([(1,pI D),(2,pI m),(3,.ro [pI u.act,pI u.item,pI u.n,pI u.kind,.str u.label,.sl 4 EH,.sl 4 EW,.sl 8 (L.map Un.enc)]),(7,pI ((L.take x.1.1).foldl (Zcb f m) 1)),(8,pI x.1.1)],⟨[],x.1.2⟩)) (fun x=>L.length-x.1.1) ⟨(0,1),Zyw _,by simp;omega⟩ ?_ ?_ ?_
  ·exact Fn0
  ·exact Sc0
  rintro⟨⟨k,t⟩,hk,hk2⟩;simp only[]at hk hk2⊢;have hn:=Zsg (f:=f) (m:=m) (fun k m' h=>hb k m' h) (L.take k) 1 (Int.le_refl _) (by omega);generalize hN:(L.take k).foldl (Zcb f m) 1=n at hn⊢;by_cases ka:k<L.length
  ·have hc:decide ((k:Int)<(L.length:Int))=true:=by simp;omega
   by_cases kn:n≤m
   ·have hc2:decide (n≤m)=true:=by simpa using kn
    have hst:=Z3e f m ka;rw[hN]at hst;have hs2:Zcb f m n L[k]=n+f L[k] (m-n):=by unfold Zcb;rw[if_pos kn]
    rw[hs2]at hst;have hrow:(L.map Un.enc).getD k []=L[k].enc:=Zcs ka;have R:=A L[k] (m-n) (by omega) (by omega);have hr:=hb L[k] (m-n) (by omega);have hlow:=Znz (f:=f) (m:=m) (fun k m' h=>(hb k m' h).1) (L.take k) 1 (by rw[hN];exact kn);rw[hN,Zyh]at hlow;generalize L[k]=v at hst hs2 hrow R hr;rw[Un.Zaf]at hrow R;generalize f v (m-n)=s at hst R hr;refine Zaa<|Rp1 [1,2,3,7,8,22] (x3 @xlm hc hc2) ?_;refine Ct ?_;refine Kp0 ?_;refine Zaa<|Zab ?_;refine rp1 [1,2,3,7,8] (x4 @xlm hrow (w64 (n:=m-n) (by omega) (by omega)) (w64 (n:=D+1) (by omega) (by omega))) ?_;refine⟨by omega,?_⟩;refine Ap1 R (w64 (n:=n+s) (by omega) (by omega)) ?_;refine rp1 [1,2,3,7,8] (ad1 (a:=k) (by omega)) ?_;refine⟨⟨(k+1,t),ka,by simp only[];omega⟩,?_⟩;simp only[hst]
    all_goals exact Fn0
   ·have hc2:decide (n≤m)=false:=by simpa using kn
    have hst:L.foldl (Zcb f m) 1=n:=by
     have e:L=L.take k++L.drop k:=(List.take_append_drop _ _).symm;rw[e,List.foldl_append,hN];exact Zfu f m _ n (by omega)
    rw[hst];refine Zaa<|Rp1 [1,2,3,7,8,22] (x3 @xlm hc hc2) ?_;refine Cf ?_;refine Ep0 ?_;exact Rv0 [6]
  ·have hc:decide ((k:Int)<(L.length:Int))=false:=by simp;omega
   obtain rfl:k=L.length:=by omega
   rw[List.take_length]at hN;rw[hN];refine Zaa<|Rp1 [1,2,3,7,8,22] (x2 @xlm hc) ?_;refine Cf ?_;refine Ep0 ?_;exact Rv0 [6]
theorem Ziq(l:List Wd)(hl:l.length≤1048576)(ht:∀w∈l,w.text.length≤1048576):Tc 87 [.sl 4 (l.map Wd.enc)] (.bool (Zg8 l)):=by
 have h3:decide ((l.length:Int)≤300)=decide (l.length≤300):=decide_eq_decide.2 (by omega);refine Gp (vc:=Y193) [.t 2] (cB _) Tryz.func87 ?_;simp only[Y193,YY];refine Rp0 [0] ?_;refine Zaa<|Rp0 [0,3] ?_;refine Zab ?_;refine Zai (σ:={ k:Nat//k≤l.length∧(l.all fun w=>decide (w.text.length≤100))=((l.drop k).all fun w=>decide (w.text.length≤100)) }) (fun x=>([(0,.sl 4 (l.map Wd.enc)),(3,pI x.1)],⟨[],0⟩)) (fun x=>l.length-x.1) ⟨0,Zyw _,rfl⟩ ?_ ?_ ?_
 ·refine Sp0 ?_;rfl
 ·exact Sc0
 rintro⟨k,hk,hpre⟩;simp only[];refine Zaa<|Rp1 [0,3,7] @xlm ?_;refine Zae rfl (fun h1=>?_) (fun h1=>?_)
 ·have ka:k<l.length:=by have h1:=oT h1;omega
  have hd:l.drop k=l[k]::l.drop (k+1):=List.drop_eq_getElem_cons ka;have htk:=ht _ (Zyl ka);rw[hd,List.all_cons]at hpre;have h2:decide ((100:Int)<(l[k].text.length:Int))= !(decide (l[k].text.length≤100)):=by
   by_cases h:l[k].text.length≤100
   ·rw[Zyf h,Vf];rfl
   ·rw[Zyg h,Vt];rfl
  refine Kp0 ?_;refine Zaa<|Zab ?_;refine Zaa (Zad [0,3,16] ?_);simp only[vmL,Nat.reduceEqDiff,Nat.reduceAdd,Nat.reduceLeDiff,reduceCtorEq,Zyc,Zcs ka,Wd.enc,h2];refine Ok ?_;cases hq:decide (l[k].text.length≤100)with
  |false=>
   refine Ct ?_;refine Rp0 [2] ?_;refine Tp0 ?_;unfold Zg8;rw[hpre,hq];exact Vr
  |true=>
   rw[hq,Zyt]at hpre;refine Fp0 ?_;refine rp1 [0,3] (w64 (n:=(k:Int)+1) (by omega) (by omega)) ?_;refine⟨⟨k+1,ka,hpre⟩,?_,?_⟩
   ·rfl
   ·simp only[];omega
 ·have ka:k=l.length:=by have h1:=oF h1;omega
  subst ka;rw[List.drop_length]at hpre;refine Ep0 ?_;refine Rp1 [2] (x2 @xlm h3) ?_;refine Tp0 ?_;unfold Zg8;rw[hpre];exact Vr
theorem Z9l(u:Un):Zjv u=(Zui u&&u.kids.all Zjv):=Zft Zui u
theorem Zp6{u:Un}(hu:UnB u):Tc 68 [.agg u.enc] (.bool (Zjv u)):=by
 induction hu with
 | mk u h hl hh hw hk hs ih=>
  have H:=Ziq u.head hh.1 (fun w hw=>(hh.2 w hw).text);have W:=Ziq u.words hw.1 (fun w hx=>(hw.2 w hx).text);have h2:decide ((30:Int)<(u.label.length:Int))= !(decide (u.label.length≤30)):=by
   by_cases h:u.label.length≤30
   ·rw[Zyf h,Vf];rfl
   ·rw[Zyg h,Vt];rfl
  rw[Z9l];have hbr:Zui u=(decide (u.label.length≤30)&&(Zg8 u.head&&Zg8 u.words)):=rfl;rw[hbr];refine Gp (vc:=Y194) [.t 2] (cB _) Tryz.func68 ?_;simp only[Y194,YY];rw[Un.Zaf];refine Rp0 [1] ?_;refine Zav [(1,.ro [pI u.act,pI u.item,pI u.n,pI u.kind,.str u.label,.sl 4 (u.head.map Wd.enc),.sl 4 (u.words.map Wd.enc),.sl 8 (u.kids.map Un.enc)])] ⟨View.loc (z:=8) (fz:=false) (es:=[[pI u.act,pI u.item,pI u.n,pI u.kind,.str u.label,.sl 4 (u.head.map Wd.enc),.sl 4 (u.words.map Wd.enc),.sl 8 (u.kids.map Un.enc)]]) rfl (by simp) rfl (by simp),trivial⟩ ?_;generalize u.head.map Wd.enc=EH at H⊢;generalize u.words.map Wd.enc=EW at W⊢;generalize u.kids=L at hk hs ih⊢;generalize Zg8 u.head=bh at H⊢;generalize Zg8 u.words=bw at W⊢;clear hbr;refine Zaa ?_;cases d1:decide (u.label.length≤30)with
  |false=>
   rw[d1]at h2;refine Rp1 [1,19] h2 ?_;refine Ct ?_;exact Rv0 [2]
  |true=>
  rw[d1]at h2;cases bh with
  |false=>
   refine Rp1 [1,19] h2 ?_;refine Ap0 H ?_;refine Ct ?_;exact Rv0 [2]
  |true=>
  cases bw with
  |false=>
   refine Rp1 [1,19] h2 ?_;refine Ap0 H ?_;refine Ap0 W ?_;refine Ct ?_;exact Rv0 [2]
  |true=>
  refine Rp1 [1,19] h2 ?_;refine Ap0 H ?_;refine Ap0 W ?_;refine Fp0 ?_;refine Zaa<|Rp0 [1,3] ?_;refine Zab ?_;refine Zai (σ:={ x:Nat×Nat//x.1≤L.length∧L.all Zjv=(L.drop x.1).all Zjv }) (fun x=>([(1,.ro [pI u.act,pI u.item,pI u.n,pI u.kind,.str u.label,.sl 4 EH,.sl 4 EW,.sl 8 (L.map Un.enc)]),(3,pI x.1.1)],⟨[],x.1.2⟩)) (fun x=>L.length-x.1.1) ⟨(0,1),Zyw _,rfl⟩ ?_ ?_ ?_
  ·exact Fn0
  ·exact Sc0
  rintro⟨⟨k,t⟩,hkk,hpre⟩;simp only[]at hkk hpre⊢;refine Zaa<|Rp1 [1,3,24] @xlm ?_;refine Zae rfl (fun h1=>?_) (fun h1=>?_)
  ·have ka:k<L.length:=by have h1:=oT h1;omega
   have hd:L.drop k=L[k]::L.drop (k+1):=List.drop_eq_getElem_cons ka;rw[hd,List.all_cons]at hpre;have hrow:(L.map Un.enc).getD k []=L[k].enc:=Zcs ka;have R:=ih _ (Zyl ka);generalize L[k]=v at hpre hrow R;rw[Un.Zaf]at hrow R;refine Kp0 ?_;refine Zaa<|Zab ?_;refine Rp1 [1,3,33] (x2 @xlm hrow) ?_;refine Ok ?_;refine Ap0 R ?_;cases hq:Zjv v with
   |false=>
    refine Ct ?_;refine Rp0 [2] ?_;refine Tp0 ?_;rw[hpre,hq];exact Vr
   |true=>
    rw[hq,Zyt]at hpre;refine Fp0 ?_;refine rp1 [1,3] (ad1 (a:=k) (by omega)) ?_;refine⟨⟨(k+1,t),ka,hpre⟩,?_⟩;exact Fn0
  ·have ka:k=L.length:=by have h1:=oF h1;omega
   subst ka;rw[List.drop_length]at hpre;refine Ep0 ?_;refine Rp0 [2] ?_;refine Tp0 ?_;rw[hpre];exact Vr
theorem Zmm{u:Un}(hu:UnB u)(m:Int)(h0:0≤m)(h1:m≤1000):Tc 56 [.agg u.enc,pI m] (.bool (Z3f u m)):=by
 have S:=Zkt 21 u m (Nat.le_refl _) h0 h1;have e:(21:Int)-((21:Nat):Int)=0:=rfl;rw[e]at S;have W:=Zp6 hu;unfold Z3f;refine Gp (vc:=Y195) [.t 4] (cB _) Tryz.func56 ?_;simp only[Y195,YY];rw[Un.Zaf]at S W⊢;refine Rp0 [1,2] ?_;cases d1:decide (Zic 21 u m≤m)with
 |false=>
  refine Rp0 [4] ?_;refine Zag S ?_;try simp only[vmL,Nat.reduceEqDiff,d1]
  exact Tv0
 |true=>
  refine Rp0 [4] ?_;refine Zag S ?_;try simp only[vmL,Nat.reduceEqDiff,Nat.reduceAdd,Nat.reduceLT,d1]
  refine Zag W ?_;exact Tv0
def Y196:VC:=(ZR [Yw 1 25 0,Yv 2 Yf] (.seq (ZR [Ya 8 1 1,Yl 9 8,Ye 10 9,Yu 11 .gtr 10 12,ZM 12 11,Yb 13 2 1 12 false,Yk 14 13 12 false,Yd 15 14 12 false,ZG 16 (.bin .gtr (.t 15) (Yi 12)) 12 false,Yh 17 12 16,ZM 18 17,Yb 19 13 1 18 false,Yk 20 19 18 false,Yd 21 20 18 false,ZG 22 (.bin .gtr (.t 21) (Yi 300)) 18 false,Yh 23 18 22,ZM 24 23,Yb 25 14 1 24 false,Yk 26 25 24 false,Yd 27 26 24 false,ZG 28 (.bin .gtr (.t 27) (Yi 300)) 24 false,Yh 29 24 28,ZM 30 29,Yb 31 15 1 30 false,Yk 32 31 30 false,ZG 33 (.len true (.t 32)) 30 false,ZG 34 (.bin .gtr (.t 33) (Yi 100)) 30 false,Yh 35 30 34,ZM 36 35,Yb 37 16 1 36 false,Yk 38 37 36 false,ZG 39 (.len true (.t 38)) 36 false,ZG 40 (.bin .gtr (.t 39) (Yi 100)) 36 false,Yh 41 36 40,ZM 42 41,Yb 43 17 1 42 false,Yb 44 2 43 42 false,Yk 45 44 42 false,ZG 46 (.len true (.t 45)) 42 false,ZG 47 (.bin .gtr (.t 46) (Yi 100)) 42 false,Yh 48 42 47,ZM 49 48,Yb 50 23 1 49 false,Yk 51 50 49 false,ZG 52 (.len true (.t 51)) 49 false,ZG 53 (.bin .gtr (.t 52) (Yi 100)) 49 false,Yh 54 49 53,ZM 55 54,Yb 56 24 1 55 false,Yk 57 56 55 false,Yd 58 57 55 false,ZG 59 (.bin .gtr (.t 58) (Yi 2)) 55 false,Yh 60 55 59,ZM 61 60,Yb 62 5 1 61 false,Yj 63 8 62 61 false,ZG 64 (.call 56 [.t 63,(Yi 30)]) 61 false,Yq 65 64 61 false,Yh 66 61 65] (YC 66 (ZR [Yv 2 Yf] .ret) .skip)) (.seq (ZR [Yv 3 (Yi 0)] (.block 0 (.loop (.seq (ZR [ZM 67 3,Ya 68 13 1,Yl 69 68,Ye 70 69,Yr 71 .lss 67 70] (YC 71 .skip (.exit 0))) (.seq (.block 1 (ZR [Ya 74 13 1,Yl 75 74,ZM 76 3,Yx 77 1 75 76,Yl 78 77,ZO 79 (.len true (.t 78)),Yu 80 .gtr 79 100] (YC 80 (ZR [Yv 2 Yf] .ret) .skip))) (.region [ZM 72 3,Yu 73 .add 72 1,ZM 3 73] false)))))) (.seq (ZR [Yv 4 (Yi 0)] (.block 2 (.loop (.seq (ZR [ZM 81 4,Ya 82 14 1,Yl 83 82,Ye 84 83,Yr 85 .lss 81 84] (YC 85 .skip (.exit 2))) (.seq (.block 3 (ZR [Ya 88 14 1,Yl 89 88,ZM 90 4,Yx 91 1 89 90,Yl 92 91,ZO 93 (.len true (.t 92)),Yu 94 .gtr 93 100] (YC 94 (ZR [Yv 2 Yf] .ret) .skip))) (.region [ZM 86 4,Yu 87 .add 86 1,ZM 4 87] false)))))) (.seq (ZR [Yv 5 (Yi 0)] (.block 4 (.loop (.seq (ZR [ZM 95 5,Ya 96 1 1,Yl 97 96,Ye 98 97,Yr 99 .lss 95 98] (YC 99 .skip (.exit 4))) (.seq (.block 5 (ZR [Ya 102 1 1,Yl 103 102,ZM 104 5,Yx 105 2 103 104,Ya 106 1 105,Yl 107 106,ZO 108 (.len true (.t 107)),Yu 109 .gtr 108 100] (YC 109 (ZR [Yv 2 Yf] .ret) .skip))) (.region [ZM 100 5,Yu 101 .add 100 1,ZM 5 101] false)))))) (.seq (ZR [Yv 6 (Yi 0)] (.block 6 (.loop (.seq (ZR [ZM 110 6,Ya 111 2 1,Yl 112 111,Ye 113 112,Yr 114 .lss 110 113] (YC 114 .skip (.exit 6))) (.seq (.block 7 (ZR [Ya 117 2 1,Yl 118 117,ZM 119 6,Yx 120 2 118 119,Ya 121 1 120,Yl 122 121,ZO 123 (.len true (.t 122)),Yu 124 .gtr 123 100] (YC 124 (ZR [Yv 2 Yf] .ret) .skip))) (.region [ZM 115 6,Yu 116 .add 115 1,ZM 6 116] false)))))) (.seq (ZR [Yv 7 (Yi 0)] (.block 8 (.loop (.seq (ZR [ZM 125 7,Ya 126 24 1,Yl 127 126,Ye 128 127,Yr 129 .lss 125 128] (YC 129 .skip (.exit 8))) (.seq (.block 9 (ZR [Ya 132 24 1,Yl 133 132,ZM 134 7,Yx 135 25 133 134,Ya 136 24 135,Yl 137 136,Ye 138 137,Yu 139 .gtr 138 0,ZM 140 139,Yb 141 24 1 140 true,Yk 142 141 140 true,Yg 143 7 140 true,Yy 144 25 142 143 140 true,Yb 145 24 144 140 true,Yk 146 145 140 true,ZG 147 (.iaddr 25 (.t 146) (Yi 0)) 140 true,Yb 148 24 147 140 true,Yk 149 148 140 true,Yd 150 149 140 true,ZG 151 (.bin .gtr (.t 150) (Yi 0)) 140 true,Yz 152 140 151,ZM 153 152,Yb 154 24 1 153 false,Yk 155 154 153 false,Yg 156 7 153 false,Yy 157 25 155 156 153 false,Yj 158 25 157 153 false,ZG 159 (.call 58 [.t 158]) 153 false,Yq 160 159 153 false,Yh 161 153 160] (YC 161 (ZR [Yv 2 Yf] .ret) .skip))) (.region [ZM 130 7,Yu 131 .add 130 1,ZM 7 131] false)))))) (ZR [Yv 2 Yt] .ret))))))))
theorem Xcc{x:It}(hx:ItB x):Zvv Tryz.prog 58 [.agg x.enc] (Z8b (SmI x)):=by
 induction hx with
 |mk x h1 h2 h3 h4 h5 h6 h7 h8 h9 h10 h11 h12 h13 h14 h15 h16 h17 ih=>
 have ex:=It.Zaf x;have hu:=Zmm h6 30 (by omega) (by omega);have eu:=Un.Zaf x.unit;rw[eu]at hu;have l1:=h2.1;have l2:=h3.1;have l3:=h7.1;have l4:=h8.1;refine Zhq ?_ (by intro y hy;rw[Zyr]at hy;subst hy;exact Zah (It.closed _));refine Gn (vc:=Y196) [.t 2] Tryz.func58 ?_;simp only[Y196,YY];refine Rp1 [1] ex ?_;refine Zaa<|Zc6 (σ:={ b:Bool//b=false→(x.at'.length≤12∧x.to.length≤12∧x.old.length≤300∧x.new.length≤300∧x.label.length≤100∧x.Zib.length≤100∧x.start.Zbd.length≤100∧x.Zbd.length≤100∧x.by'.length≤2)∧Z3f x.unit 30=true }) [1,66] (fun s=>[(1,.loc 0 0 0),(66,.bool s.1)]) ?_ (fun b=>?_)
 ·by_cases c0:12<x.at'.length
  ·have g0:decide ((12:Int)<(x.at'.length:Int))=true:=Vt;simp only[vmL,Nat.reduceEqDiff,Nat.reduceAdd,Nat.reduceLT,Nat.reduceLeDiff,It.strs,Zyc,g0];exact⟨⟨true,fun h=>by cases h⟩,by first|trivial|rfl⟩
  have g0:decide ((12:Int)<(x.at'.length:Int))=false:=Vf;by_cases c1:12<x.to.length
  ·have g1:decide ((12:Int)<(x.to.length:Int))=true:=Vt;simp only[vmL,Nat.reduceEqDiff,Nat.reduceAdd,Nat.reduceLT,Nat.reduceLeDiff,It.strs,Zyc,g0,g1];exact⟨⟨true,fun h=>by cases h⟩,by first|trivial|rfl⟩
  have g1:decide ((12:Int)<(x.to.length:Int))=false:=Vf;by_cases c2:300<x.old.length
  ·have g2:decide ((300:Int)<(x.old.length:Int))=true:=Vt;simp only[vmL,Nat.reduceEqDiff,Nat.reduceAdd,Nat.reduceLT,Nat.reduceLeDiff,It.strs,Zyc,g0,g1,g2];exact⟨⟨true,fun h=>by cases h⟩,by first|trivial|rfl⟩
  have g2:decide ((300:Int)<(x.old.length:Int))=false:=Vf;by_cases c3:300<x.new.length
  ·have g3:decide ((300:Int)<(x.new.length:Int))=true:=Vt;simp only[vmL,Nat.reduceEqDiff,Nat.reduceAdd,Nat.reduceLT,Nat.reduceLeDiff,It.strs,Zyc,g0,g1,g2,g3];exact⟨⟨true,fun h=>by cases h⟩,by first|trivial|rfl⟩
  have g3:decide ((300:Int)<(x.new.length:Int))=false:=Vf;by_cases c4:100<x.label.length
  ·have g4:decide ((100:Int)<(x.label.length:Int))=true:=Vt;simp only[vmL,Nat.reduceEqDiff,Nat.reduceAdd,Nat.reduceLT,Nat.reduceLeDiff,It.strs,Zyc,g0,g1,g2,g3,g4];exact⟨⟨true,fun h=>by cases h⟩,by first|trivial|rfl⟩
  have g4:decide ((100:Int)<(x.label.length:Int))=false:=Vf;by_cases c5:100<x.Zib.length
  ·have g5:decide ((100:Int)<(x.Zib.length:Int))=true:=Vt;simp only[vmL,Nat.reduceEqDiff,Nat.reduceAdd,Nat.reduceLT,Nat.reduceLeDiff,It.strs,Zyc,g0,g1,g2,g3,g4,g5];exact⟨⟨true,fun h=>by cases h⟩,by first|trivial|rfl⟩
  have g5:decide ((100:Int)<(x.Zib.length:Int))=false:=Vf;by_cases c6:100<x.start.Zbd.length
  ·have g6:decide ((100:Int)<(x.start.Zbd.length:Int))=true:=Vt;simp only[vmL,Nat.reduceEqDiff,Nat.reduceAdd,Nat.reduceLT,Nat.reduceLeDiff,It.strs,Zyc,g0,g1,g2,g3,g4,g5,g6];exact⟨⟨true,fun h=>by cases h⟩,by first|trivial|rfl⟩
  have g6:decide ((100:Int)<(x.start.Zbd.length:Int))=false:=Vf;by_cases c7:100<x.Zbd.length
  ·have g7:decide ((100:Int)<(x.Zbd.length:Int))=true:=Vt;simp only[vmL,Nat.reduceEqDiff,Nat.reduceAdd,Nat.reduceLT,Nat.reduceLeDiff,It.strs,Zyc,g0,g1,g2,g3,g4,g5,g6,g7];exact⟨⟨true,fun h=>by cases h⟩,by first|trivial|rfl⟩
  have g7:decide ((100:Int)<(x.Zbd.length:Int))=false:=Vf;by_cases c8:2<x.by'.length
  ·have g8:decide ((2:Int)<(x.by'.length:Int))=true:=Vt;simp only[vmL,Nat.reduceEqDiff,Nat.reduceAdd,Nat.reduceLT,Nat.reduceLeDiff,It.strs,Zyc,g0,g1,g2,g3,g4,g5,g6,g7,g8];exact⟨⟨true,fun h=>by cases h⟩,by first|trivial|rfl⟩
  have g8:decide ((2:Int)<(x.by'.length:Int))=false:=Vf;simp only[vmL,Nat.reduceEqDiff,Nat.reduceAdd,Nat.reduceLT,Nat.reduceLeDiff,It.strs,Zyc,g0,g1,g2,g3,g4,g5,g6,g7,g8];refine Ap0 hu ?_;exact⟨⟨!(Z3f x.unit 30),fun h=>⟨⟨by omega,by omega,by omega,by omega,by omega,by omega,by omega,by omega,by omega⟩,by simpa using h⟩⟩,by first|trivial|rfl⟩
 obtain⟨b,hb0⟩:=b;simp only[];refine Zae rfl (fun h1=>?_) (fun h1=>?_)
 ·refine Rp0 [2] ?_;refine Tp0 ?_;exact Zd3
 obtain⟨⟨q1,q2,q3,q4,q5,q6,q7,q8,q9⟩,qu⟩:=hb0 h1;refine Kp0 ?_;clear hu;refine Zaa<|Rp0 [1,3] ?_;refine Zab ?_;refine Zai (σ:={ i:Nat//i≤x.old.length∧∀(j:Nat) (hj:j<x.old.length),j<i→x.old[j].length≤100 }) (fun s=>([(1,.loc 0 0 0),(3,pI s.1)],⟨[(0,.arr false 25 [x.enc])],1⟩)) (fun s=>x.old.length-s.1) ⟨0,Zyw _,fun j _ h=>by cases h⟩ ?_ ?_ ?_
 ·exact Fn0
 ·exact Fn1 ex
 rintro⟨i,hi,hpre⟩;simp only[];refine Zaa ?_;refine Zaa (Zad [1,3,71] ?_);simp only[vmL,Nat.reduceEqDiff,Nat.reduceAdd,Nat.reduceLT,Nat.reduceLeDiff,ex,It.strs,Zyc];refine Zae rfl (fun h1=>?_) (fun h1=>?_)
 ·refine Kp0 ?_;have h1:=oT h1;have ia:i<x.old.length:=by omega
  refine Zaa<|Zab ?_;refine Zaa (Zad [1,3,80] ?_);simp only[vmL,Nat.reduceEqDiff,Nat.reduceAdd,Nat.reduceLT,Nat.reduceLeDiff,ex,It.strs,Zyc,Z8d ia];refine Ok ?_;refine Zae rfl (fun h2=>?_) (fun h2=>?_)
  ·refine Rp0 [2] ?_;refine Tp0 ?_;exact Zd3
  refine Kp0 ?_;refine rp1 [1,3] (w64 (n:=(i:Int)+1) (by omega) (by omega)) ?_;refine⟨⟨i+1,by omega,fun j hj hji=>?_⟩,?_⟩
  ·by_cases e:j=i
   ·subst e;have h2:=oF h2;omega
   ·exact hpre j hj (by omega)
  exact Fn1 ex
 have h1:=oF h1;refine Ep0 ?_;have qo:∀s∈x.old,s.length≤100:=fun s hs=>by
  obtain⟨j,hj,rfl⟩:=List.getElem_of_mem hs;exact hpre j hj (by omega)
 clear h1 hi hpre;refine Zaa<|Rp0 [1,4] ?_;refine Zab ?_;refine Zai (σ:={ i:Nat//i≤x.new.length∧∀(j:Nat) (hj:j<x.new.length),j<i→x.new[j].length≤100 }) (fun s=>([(1,.loc 0 0 0),(4,pI s.1)],⟨[(0,.arr false 25 [x.enc])],1⟩)) (fun s=>x.new.length-s.1) ⟨0,Zyw _,fun j _ h=>by cases h⟩ ?_ ?_ ?_
 ·exact Fn0
 ·exact Fn1 ex
 rintro⟨i,hi,hpre⟩;simp only[];refine Zaa ?_;refine Zaa (Zad [1,4,85] ?_);simp only[vmL,Nat.reduceEqDiff,Nat.reduceAdd,Nat.reduceLT,Nat.reduceLeDiff,ex,It.strs,Zyc];refine Zae rfl (fun h1=>?_) (fun h1=>?_)
 ·refine Kp0 ?_;have h1:=oT h1;have ia:i<x.new.length:=by omega
  refine Zaa<|Zab ?_;refine Zaa (Zad [1,4,94] ?_);simp only[vmL,Nat.reduceEqDiff,Nat.reduceAdd,Nat.reduceLT,Nat.reduceLeDiff,ex,It.strs,Zyc,Z8d ia];refine Ok ?_;refine Zae rfl (fun h2=>?_) (fun h2=>?_)
  ·refine Rp0 [2] ?_;refine Tp0 ?_;exact Zd3
  refine Kp0 ?_;refine rp1 [1,4] (w64 (n:=(i:Int)+1) (by omega) (by omega)) ?_;refine⟨⟨i+1,by omega,fun j hj hji=>?_⟩,?_⟩
  ·by_cases e:j=i
   ·subst e;have h2:=oF h2;omega
   ·exact hpre j hj (by omega)
  exact Fn1 ex
 have h1:=oF h1;refine Ep0 ?_;have qn:∀s∈x.new,s.length≤100:=fun s hs=>by
  obtain⟨j,hj,rfl⟩:=List.getElem_of_mem hs;exact hpre j hj (by omega)
 clear h1 hi hpre;refine Zaa<|Rp0 [1,5] ?_;refine Zab ?_;refine Zai (σ:={ i:Nat//i≤x.at'.length∧∀(j:Nat) (hj:j<x.at'.length),j<i→x.at'[j].label.length≤100 }) (fun s=>([(1,.loc 0 0 0),(5,pI s.1)],⟨[(0,.arr false 25 [x.enc])],1⟩)) (fun s=>x.at'.length-s.1) ⟨0,Zyw _,fun j _ h=>by cases h⟩ ?_ ?_ ?_
 ·exact Fn0
 ·exact Fn1 ex
 rintro⟨i,hi,hpre⟩;simp only[];refine Zaa ?_;refine Zaa (Zad [1,5,99] ?_);simp only[vmL,Nat.reduceEqDiff,Nat.reduceAdd,Nat.reduceLT,Nat.reduceLeDiff,ex,It.strs,Zyc];refine Zae rfl (fun h1=>?_) (fun h1=>?_)
 ·refine Kp0 ?_;have h1:=oT h1;have ia:i<x.at'.length:=by omega
  refine Zaa<|Zab ?_;refine Zaa (Zad [1,5,109] ?_);simp only[vmL,Nat.reduceEqDiff,Nat.reduceAdd,Nat.reduceLT,Nat.reduceLeDiff,ex,It.strs,Zyc,Zcs ia,St.enc];refine Ok ?_;refine Zae rfl (fun h2=>?_) (fun h2=>?_)
  ·refine Rp0 [2] ?_;refine Tp0 ?_;exact Zd3
  refine Kp0 ?_;refine rp1 [1,5] (w64 (n:=(i:Int)+1) (by omega) (by omega)) ?_;refine⟨⟨i+1,by omega,fun j hj hji=>?_⟩,?_⟩
  ·by_cases e:j=i
   ·subst e;have h2:=oF h2;omega
   ·exact hpre j hj (by omega)
  exact Fn1 ex
 have h1:=oF h1;refine Ep0 ?_;have qa:∀s∈x.at',s.label.length≤100:=fun s hs=>by
  obtain⟨j,hj,rfl⟩:=List.getElem_of_mem hs;exact hpre j hj (by omega)
 clear h1 hi hpre;refine Zaa<|Rp0 [1,6] ?_;refine Zab ?_;refine Zai (σ:={ i:Nat//i≤x.to.length∧∀(j:Nat) (hj:j<x.to.length),j<i→x.to[j].label.length≤100 }) (fun s=>([(1,.loc 0 0 0),(6,pI s.1)],⟨[(0,.arr false 25 [x.enc])],1⟩)) (fun s=>x.to.length-s.1) ⟨0,Zyw _,fun j _ h=>by cases h⟩ ?_ ?_ ?_
 ·exact Fn0
 ·exact Fn1 ex
 rintro⟨i,hi,hpre⟩;simp only[];refine Zaa ?_;refine Zaa (Zad [1,6,114] ?_);simp only[vmL,Nat.reduceEqDiff,Nat.reduceAdd,Nat.reduceLT,Nat.reduceLeDiff,ex,It.strs,Zyc];refine Zae rfl (fun h1=>?_) (fun h1=>?_)
 ·refine Kp0 ?_;have h1:=oT h1;have ia:i<x.to.length:=by omega
  refine Zaa<|Zab ?_;refine Zaa (Zad [1,6,124] ?_);simp only[vmL,Nat.reduceEqDiff,Nat.reduceAdd,Nat.reduceLT,Nat.reduceLeDiff,ex,It.strs,Zyc,Zcs ia,St.enc];refine Ok ?_;refine Zae rfl (fun h2=>?_) (fun h2=>?_)
  ·refine Rp0 [2] ?_;refine Tp0 ?_;exact Zd3
  refine Kp0 ?_;refine rp1 [1,6] (w64 (n:=(i:Int)+1) (by omega) (by omega)) ?_;refine⟨⟨i+1,by omega,fun j hj hji=>?_⟩,?_⟩
  ·by_cases e:j=i
   ·subst e;have h2:=oF h2;omega
   ·exact hpre j hj (by omega)
  exact Fn1 ex
 have h1:=oF h1;refine Ep0 ?_;have qt:∀s∈x.to,s.label.length≤100:=fun s hs=>by
  obtain⟨j,hj,rfl⟩:=List.getElem_of_mem hs;exact hpre j hj (by omega)
 clear h1 hi hpre;refine Zaa<|Rp0 [1,7] ?_;refine Zab ?_;refine Zai (σ:={ i:Nat//i≤x.by'.length }) (fun s=>([(1,.loc 0 0 0),(7,pI s.1)],⟨[(0,.arr false 25 [x.enc])],1⟩)) (fun s=>x.by'.length-s.1) ⟨0,Zyw _⟩ ?_ ?_ ?_
 ·exact Fn0
 ·exact Fn1 ex
 rintro⟨i,hi⟩;simp only[];refine Zaa<|Rp1 [1,7,129] (x2 ex @xlm) ?_;refine Zae rfl (fun h1=>?_) (fun h1=>?_)
 ·refine Kp0 ?_;have h1:=oT h1;have ia:i<x.by'.length:=by omega
  have hrec:=ih _ (Zyl ia);have ry:=Zcs (enc:=It.enc) ia;generalize x.by'[i]=y at hrec ry;refine Zaa<|Zab ?_;refine Zc6 (σ:=Bool) [1,7,161] (fun s=>[(1,.loc 0 0 0),(7,pI i),(161,.bool s)]) ?_ (fun b=>?_)
  ·cases hb:y.by' with
   |nil=>
    have e2:decide (0<(y.by'.length:Int))=false:=by rw[hb];rfl
    simp only[vmL,Nat.reduceEqDiff,Nat.reduceLT,ex,Zyc,ry,Xeh,Z8c,Znc,Zkj,e2];refine Ok ?_;refine Zki hrec ?_;rintro p ⟨b1,rfl,_⟩;refine Sp0 ?_;exact⟨!b1,by first|trivial|rfl⟩
   | cons z r=>
    have e2:decide (0<(y.by'.length:Int))=true:=by rw[hb,Zx3];simp
    have e3:(0:Int)<(y.by'.length:Int):=by simpa using e2
    have e4:(y.by'.map It.enc).getD 0 []=z.enc:=by rw[hb];rfl
    cases e5:decide (0<(z.by'.length:Int))with
    |true=>
     simp only[vmL,Nat.reduceEqDiff,Nat.reduceLT,Int.reduceToNat,ex,Zyc,ry,Xeh,Z8c,Znc,Zkj,e2,e4,e5];refine Ok ?_;exact⟨true,by first|trivial|rfl⟩
    |false=>
     simp only[vmL,Nat.reduceEqDiff,Nat.reduceLT,Int.reduceToNat,ex,Zyc,ry,Xeh,Z8c,Znc,Zkj,e2,e4,e5];refine Ok ?_;refine Zki hrec ?_;rintro p ⟨b1,rfl,_⟩;refine Sp0 ?_;exact⟨!b1,by first|trivial|rfl⟩
  refine Zae rfl (fun h2=>?_) (fun h2=>?_)
  ·refine Rp0 [2] ?_;refine Tp0 ?_;exact Zd3
  refine Kp0 ?_;refine rp1 [1,7] (w64 (n:=(i:Int)+1) (by omega) (by omega)) ?_;refine⟨⟨i+1,by omega⟩,?_⟩;exact Fn1 ex
 ·refine Ep0 ?_;refine Rp0 [2] ?_;refine Tp0 ?_;exact Zo6 ⟨q1,q2,q3,q4,q5,q6,q7,q8,q9,qu,qo,qn,qa,qt⟩
end Go.Proofs.w
namespace Go.VM
open Go
structure Sm38 (u:Un) (l:List Ac) (m:Nat):Prop where
 few:Z3f u 60=true
 stands:Zhb u=true
 len:l.length≤m
 acts:∀a∈l,SmA a∧a.items.length≤3
theorem Z9m(a:Ac):a.enc.length=7:=rfl
theorem Z2r(a:Ac):List.take 7 a.enc=a.enc:=rfl
theorem Ac.clo(a:Ac):∀y∈a.enc,Closed y:=by
 intro y hy;simp only[Z2g,Zyb,Zya,or_false]at hy;rcases hy with rfl|rfl|rfl|rfl|rfl|rfl|rfl<;>first|exact cI _|exact cS _|exact Zaj (fun x _=>It.closed x)
theorem cl_acs(l:List Ac):Closed (.sl 7 (l.map Ac.enc)):=Zaj fun a _=>Ac.clo a
theorem Xe1(u:Un):Closed (.agg u.enc):=Zah (Un.closed u)
end Go.VM
namespace Go.Proofs.w
open Go Go.VM
def Y197:VC:=(ZR [Yw 1 7 0,Yv 2 Yf] (.seq (ZR [Ya 4 6 1,Yl 5 4,Ye 6 5,Yu 7 .gtr 6 40,ZM 8 7,Yb 9 1 1 8 false,Yk 10 9 8 false,ZG 11 (.len true (.t 10)) 8 false,ZG 12 (.bin .gtr (.t 11) (Yi 300)) 8 false,Yh 13 8 12,ZM 14 13,Yb 15 3 1 14 false,Yb 16 2 15 14 false,Yk 17 16 14 false,ZG 18 (.len true (.t 17)) 14 false,ZG 19 (.bin .gtr (.t 18) (Yi 100)) 14 false,Yh 20 14 19] (YC 20 (ZR [Yv 2 Yf] .ret) .skip)) (.seq (ZR [Yv 3 (Yi 0)] (.block 0 (.loop (.seq (ZR [ZM 21 3,Ya 22 6 1,Yl 23 22,Ye 24 23,Yr 25 .lss 21 24] (YC 25 .skip (.exit 0))) (.seq (.block 1 (ZR [Ya 28 6 1,Yl 29 28,ZM 30 3,Yx 31 25 29 30,Ym 32 25 31,Yc 33 58 [32],Yn 34 33] (YC 34 (ZR [Yv 2 Yf] .ret) .skip))) (.region [ZM 26 3,Yu 27 .add 26 1,ZM 3 27] false)))))) (ZR [Yv 2 Yt] .ret))))
def Y198:VC:=(ZR [Yw 3 8 0,Yv 6 Yf] (.seq (ZR [Ym 8 8 3,ZO 9 (.call 56 [.t 8,(Yi 60)]),Yn 10 9,ZM 11 10,Yg 12 1 11 false,Yd 13 12 11 false,Yg 14 2 11 false,ZG 15 (.bin .gtr (.t 13) (.t 14)) 11 false,Yh 16 11 15] (YC 16 (ZR [Yv 6 Yf] .ret) .skip)) (.seq (ZR [Yv 7 (Yi 0)] (.block 0 (.loop (.seq (ZR [ZM 17 7,ZM 18 1,Ye 19 18,Yr 20 .lss 17 19] (YC 20 .skip (.exit 0))) (.seq (.block 1 (ZR [ZM 23 1,ZM 24 7,Yx 25 28 23 24,Ya 26 3 25,Ym 27 25 26,ZO 28 (.bslice 25 1 YI [(0,(.t 27))]),ZO 29 (.build [Yo,(.str []),Yo,Yo,Yo,(.str []),.nilsl] [(6,(1,(.t 28)))]),Yc 30 40 [29],Yn 31 30] (YC 31 (ZR [Yv 6 Yf] .ret) .skip))) (.region [ZM 21 7,Yu 22 .add 21 1,ZM 7 22] false)))))) (ZR [Yv 6 Yt] .ret))))
def Y199:VC:=(ZR [Yw 1 8 0,Yv 2 Yf] (ZR [Ym 3 8 1,Yc 4 57 [3],ZM 2 4] .ret))
def Y200:VC:=(ZR [Yw 3 8 0,Yv 6 Yf] (.seq (ZR [Ym 8 8 3,ZO 9 (.call 38 [.t 8,(.c .nilsl),(Yi 0)]),Yn 10 9,ZM 11 10,Yj 12 8 3 11 false,ZG 13 (.call 39 [.t 12]) 11 false,Yq 14 13 11 false,Yh 15 11 14,ZM 16 15,Yg 17 1 16 false,Yd 18 17 16 false,Yg 19 2 16 false,ZG 20 (.bin .gtr (.t 18) (.t 19)) 16 false,Yh 21 16 20] (YC 21 (ZR [Yv 6 Yf] .ret) .skip)) (.seq (ZR [Yv 7 (Yi 0)] (.block 0 (.loop (.seq (ZR [ZM 22 7,ZM 23 1,Ye 24 23,Yr 25 .lss 22 24] (YC 25 .skip (.exit 0))) (.seq (.block 1 (ZR [ZM 28 1,ZM 29 7,Yx 30 7 28 29,Ym 31 7 30,Yc 32 40 [31],Yn 33 32,ZM 34 33,Yg 35 1 34 false,Yg 36 7 34 false,Yy 37 7 35 36 34 false,Yb 38 6 37 34 false,Yk 39 38 34 false,Yd 40 39 34 false,ZG 41 (.bin .gtr (.t 40) (Yi 3)) 34 false,Yh 42 34 41] (YC 42 (ZR [Yv 6 Yf] .ret) .skip))) (.region [ZM 26 7,Yu 27 .add 26 1,ZM 7 27] false)))))) (ZR [Yv 6 Yt] .ret))))
theorem Xcd{a:Ac}(ha:AcB a):Zvv Tryz.prog 40 [.agg a.enc] (Z8b (SmA a)):=by
 have ea:=Z2g a;have l1:=ha.2.2.2.2.1;refine Zhq ?_ (by intro y hy;rw[Zyr]at hy;subst hy;exact Zah (Ac.clo _));refine Gn (vc:=Y197) [.t 2] Tryz.func40 ?_;simp only[Y197,YY];refine Rp1 [1] ea ?_;refine Zaa<|Zc6 (σ:={ b:Bool//b=false→(a.items.length≤40∧a.title.length≤300∧a.start.Zbd.length≤100) }) [1,20] (fun s=>[(1,.loc 0 0 0),(20,.bool s.1)]) ?_ (fun b=>?_)
 ·by_cases c0:40<a.items.length
  ·have g0:decide ((40:Int)<(a.items.length:Int))=true:=Vt;simp only[vmL,Nat.reduceEqDiff,Nat.reduceLT,Zyc,g0];exact⟨⟨true,fun h=>by cases h⟩,by first|trivial|rfl⟩
  have g0:decide ((40:Int)<(a.items.length:Int))=false:=Vf;by_cases c1:300<a.title.length
  ·have g1:decide ((300:Int)<(a.title.length:Int))=true:=Vt;simp only[vmL,Nat.reduceEqDiff,Nat.reduceAdd,Nat.reduceLT,Nat.reduceLeDiff,Zyc,g0,g1];exact⟨⟨true,fun h=>by cases h⟩,by first|trivial|rfl⟩
  have g1:decide ((300:Int)<(a.title.length:Int))=false:=Vf;by_cases c2:100<a.start.Zbd.length
  ·have g2:decide ((100:Int)<(a.start.Zbd.length:Int))=true:=Vt;simp only[vmL,Nat.reduceEqDiff,Nat.reduceAdd,Nat.reduceLT,Nat.reduceLeDiff,Zyc,g0,g1,g2];exact⟨⟨true,fun h=>by cases h⟩,by first|trivial|rfl⟩
  have g2:decide ((100:Int)<(a.start.Zbd.length:Int))=false:=Vf;simp only[vmL,Nat.reduceEqDiff,Nat.reduceAdd,Nat.reduceLT,Nat.reduceLeDiff,Zyc,g0,g1,g2];exact⟨⟨false,fun _=>⟨by omega,by omega,by omega⟩⟩,by first|trivial|rfl⟩
 obtain⟨b,hb0⟩:=b;simp only[];refine Zae rfl (fun h1=>?_) (fun h1=>?_)
 ·refine Rp0 [2] ?_;refine Tp0 ?_;exact Zd3
 obtain⟨q1,q2,q3⟩:=hb0 h1;refine Kp0 ?_;refine Zaa<|Rp0 [1,3] ?_;refine Zab ?_;refine Zai (σ:={ i:Nat//i≤a.items.length∧∀(j:Nat) (hj:j<a.items.length),j<i→SmI a.items[j] }) (fun s=>([(1,.loc 0 0 0),(3,pI s.1)],⟨[(0,.arr false 7 [a.enc])],1⟩)) (fun s=>a.items.length-s.1) ⟨0,Zyw _,fun j _ h=>by cases h⟩ ?_ ?_ ?_
 ·exact Fn0
 ·exact Fn1 ea
 rintro⟨i,hi,hpre⟩;simp only[];refine Zaa<|Rp1 [1,3,25] (x2 ea @xlm) ?_;refine Zae rfl (fun h1=>?_) (fun h1=>?_)
 ·have ia:i<a.items.length:=by have h1:=oT h1;omega
  have H:=Xcc (ha.2.2.2.2.2 _ (Zyl ia));have hrow:=Zcs (enc:=It.enc) ia;generalize hx:a.items[i]=x at H hrow;refine Kp0 ?_;refine Zaa<|Zab ?_;refine Rp1 [1,3,34] (x5 ea @xlm hrow @Znc @Zkj) ?_;refine Ok ?_;refine Zki H ?_;rintro p ⟨b1,rfl,hb1⟩;refine Sp0 ?_;cases b1 with
  |false=>
   refine Ct ?_;refine Rp0 [2] ?_;refine Tp0 ?_;exact Zd3
  | true=>
   refine Fp0 ?_;refine rp1 [1,3] (ad1 (a:=i) (by omega)) ?_;refine⟨⟨i+1,ia,fun j hj hji=>?_⟩,?_⟩
   ·by_cases e:j=i
    ·subst e;rw[hx];exact hb1 rfl
    ·exact hpre j hj (by omega)
   ·exact Fn1 ea
 ·have h1:=oF h1;refine Ep0 ?_;refine Rp0 [2] ?_;refine Tp0 ?_;refine Zo6 ⟨q2,q3,fun x hx=>?_⟩;obtain⟨j,hj,rfl⟩:=List.getElem_of_mem hx;exact hpre j hj (by omega)
theorem Xce{u:Un}(hu:UnB u):Tc 38 [.agg u.enc,.nilsl,pI 0] (.bool (Z3f u 60)):=by
 have H:=Zmm hu 60 (by omega) (by omega);refine Zac ?_ (cB _) (CL3 (Xe1 u) ((by intro g v hv;cases hv;exact .nilsl)) (cI _));rw[Un.Zaf]at H⊢;refine Gn (vc:=Y198) [.t 6] Tryz.func38 ?_;simp only[Y198,YY];refine Rp0 [1,2,3] ?_;refine Zaa<|Rp0 [1,16] ?_;refine Zag H ?_;cases hb:Z3f u 60 with
 |false=>
  refine Sp0 ?_;refine Ct ?_;exact Rv0 [6]
 |true=>
  refine Sp0 ?_;refine Fp0 ?_;refine Zaa<|Rp0 [1,7] ?_;refine Zab ?_;refine Zai (σ:=Unit) (fun _=>([(1,.nilsl),(7,pI 0)],⟨[],1⟩)) (fun _=>0) () ?_ ?_ ?_
  ·exact Fn0
  ·exact Fn0
  intro _;simp only[];refine Zaa<|Rp0 [1,7,20] ?_;refine Cf ?_;refine Ep0 ?_;exact Rv0 [6]
theorem Z9n{u:Un}(hu:SmT u)(hn:(unitsT u).length≤1000):Tc 39 [.agg u.enc] (.bool (Zhb u)):=by
 have H:=Zoc hu hn;refine Zac ?_ (cB _) (by intro y hy;rw[Zyr]at hy;subst hy;exact Xe1 u);rw[Un.Zaf]at H⊢;refine Gn (vc:=Y199) [.t 2] Tryz.func39 ?_;simp only[Y199,YY];refine Rp0 [1] ?_;refine Rp0 [2] ?_;refine Zag H ?_;exact Tv0
theorem Xcf{u:Un}(hu:UnB u){l:List Ac}(hl:l.length≤1048576)(hs:∀a∈l,AcB a)(m:Nat)(hm:m≤100):Zvv Tryz.prog 17 [.agg u.enc,.sl 7 (l.map Ac.enc),pI m] (Z8b (Sm38 u l m)):=by
 have H1:=Xce hu;refine Zhq ?_ (CL3 (Xe1 u) (cl_acs l) (cI _));have H2:=fun(h:Z3f u 60=true)=>Z9n (Zg9 hu (by omega) (by omega) h).1 (by have:=(Zg9 hu (by omega) (by omega) h).2;omega);rw[Un.Zaf]at H1 H2⊢;refine Gn (vc:=Y200) [.t 6] Tryz.func17 ?_;simp only[Y200,YY];refine Rp0 [1,2,3] ?_;refine Zaa<|Zc6 (σ:={ b:Bool//b=false→(Z3f u 60=true∧Zhb u=true∧l.length≤m) }) [1,21] (fun s=>[(1,.sl 7 (l.map Ac.enc)),(21,.bool s.1)]) ?_ (fun b=>?_)
 ·refine Sp0 ?_;refine Zag H1 ?_;cases hb:Z3f u 60 with
  |false=>
   refine Sp0 ?_;exact⟨⟨true,fun h=>by cases h⟩,by first|trivial|rfl⟩
  | true=>
   refine Sp0 ?_;refine Zag (H2 hb) ?_;cases hb2:Zhb u with
   |false=>
    refine Sp0 ?_;exact⟨⟨true,fun h=>by cases h⟩,by first|trivial|rfl⟩
   |true=>
    refine Sp1 @xlm ?_;exact⟨⟨decide ((m:Int)<(l.length:Int)),fun h=>⟨rfl,rfl,by have:=of_decide_eq_false h;omega⟩⟩,by first|trivial|rfl⟩
 obtain⟨b,hb0⟩:=b;simp only[];refine Zae rfl (fun h1=>?_) (fun h1=>?_)
 ·refine Rp0 [6] ?_;refine Tp0 ?_;exact Zd3
 obtain⟨q1,q2,q3⟩:=hb0 h1;refine Kp0 ?_;refine Zaa<|Rp0 [1,7] ?_;refine Zab ?_;refine Zai (σ:={ i:Nat//i≤l.length∧∀(j:Nat) (hj:j<l.length),j<i→SmA l[j]∧l[j].items.length≤3 }) (fun s=>([(1,.sl 7 (l.map Ac.enc)),(7,pI s.1)],⟨[],1⟩)) (fun s=>l.length-s.1) ⟨0,Zyw _,fun j _ h=>by cases h⟩ ?_ ?_ ?_
 ·exact Fn0
 ·exact Fn0
 rintro⟨i,hi,hpre⟩;simp only[];refine Zaa<|Rp1 [1,7,25] @xlm ?_;refine Zae rfl (fun h1=>?_) (fun h1=>?_)
 ·have ia:i<l.length:=by have h1:=oT h1;omega
  have H:=Xcd (hs _ (Zyl ia));have hrow:=Zcs (enc:=Ac.enc) ia;generalize hx:l[i]=x at H hrow;have ex:=Z2g x;refine Kp0 ?_;refine Zaa<|Zab ?_;refine Zc6 (σ:={ b:Bool//b=false→(SmA x∧x.items.length≤3) }) [1,7,42] (fun s=>[(1,.sl 7 (l.map Ac.enc)),(7,pI i),(42,.bool s.1)]) ?_ (fun b=>?_)
  ·refine Sp1 (x4 @xlm hrow @Z9m @Z2r) ?_;refine Ok ?_;refine Zki H ?_;rintro p ⟨b1,rfl,hb1⟩;cases b1 with
   |false=>
    refine Sp0 ?_;exact⟨⟨true,fun h=>by cases h⟩,by first|trivial|rfl⟩
   |true=>
    simp only[vmL,Nat.reduceEqDiff,Zyc,hrow,Z9m,Z2r,ex];refine Ok ?_;exact⟨⟨decide ((3:Int)<(x.items.length:Int)),fun h=>⟨hb1 rfl,by have:=of_decide_eq_false h;omega⟩⟩,by first|trivial|rfl⟩
  obtain⟨b,hb0⟩:=b;simp only[];refine Zae rfl (fun h2=>?_) (fun h2=>?_)
  ·refine Rp0 [6] ?_;refine Tp0 ?_;exact Zd3
  refine Kp0 ?_;refine rp1 [1,7] (ad1 (a:=i) (by omega)) ?_;refine⟨⟨i+1,ia,fun j hj hji=>?_⟩,?_⟩
  ·by_cases e:j=i
   ·subst e;rw[hx];exact hb0 h2
   ·exact hpre j hj (by omega)
  ·exact Fn0
 ·have h1:=oF h1;refine Ep0 ?_;refine Rp0 [6] ?_;refine Tp0 ?_;refine Zo6 ⟨q1,q2,q3,fun x hx=>?_⟩;obtain⟨j,hj,rfl⟩:=List.getElem_of_mem hx;exact hpre j hj (by omega)
end Go.Proofs.w
namespace Go.VM
open Go Go.Proofs.w
theorem Zwo{u:Un}(h:SmT u)(hs:Zhb u=true):(Zbc u).Nodup:=by
 unfold Zhb at hs;rw[Zx4]at hs;obtain⟨hv,hn⟩:=hs;unfold Zeg at hv;simp only[Zx4]at hv;obtain⟨hr,_,_,hi⟩:=hv;unfold Xdr at hi;rw[Bool.or_eq_true,Zx4,Zx3]at hi;rcases hi with hi|hi
 ·have hk:=Zzf h hr;unfold Zl7 at hn;rw[List.all_eq_true]at hi hn;have hz:unitsL u.kids=[]:=by
   cases e:unitsL u.kids with
   |nil=>rfl
   |cons x r=>
    have hx:x∈unitsL u.kids:=by rw[e];exact List.mem_cons_self
    have hx2:x∈unitsT u:=by rw[Zap];exact Zx7 _ hx
    have h1:=hn x hx2;rw[hi (idU x) (List.mem_map_of_mem hx2),Bool.not_true,Bool.or_false,beq_iff_eq]at h1;exact absurd h1 (hk x hx)
  rw[Zld,hz];simp
 ·exact hi.2
theorem Sm38.good{u:Un}{l:List Ac}{m:Nat}(h:Sm38 u l m)(hu:UnB u):Good 60 u:=by
 obtain⟨h1,h2⟩:=Zg9 hu (by omega) (by omega) h.few;exact⟨h1,Zwo h1 h.stands,by omega⟩
theorem Sm38.ac{u:Un}{l:List Ac}{m:Nat}(h:Sm38 u l m)(hl:∀a∈l,AcB a):∀a∈l,SmAc a:=fun a ha=>⟨(h.acts a ha).1,hl a ha,(h.acts a ha).2⟩
theorem Xe2(n:Nat):(nz (List.range n)).map Int.toNat=List.range n:=by
 unfold nz;rw[List.map_map];exact(List.map_congr_left fun i _=>by simp).trans (List.map_id _)
theorem Xe3{n:Nat}(hn:n≤5)(M:List Nat):Zz6 n (nz M) (nz (List.range n))=(Za3 n).filter fun r=>Za4 r (List.range n) fun i=>M.contains i:=by
 have hb:Zzq (nz (List.range n)) (n:Int)=true:=by
  unfold Zzq;rw[Zx4,Zx3,List.all_eq_true,Zyk];refine⟨by rw[Zhi,List.length_range],fun i hi=>?_⟩;rw[List.contains_iff_mem];exact Zrd.2 ⟨i,hi,rfl⟩
 unfold Zz6;rw[if_pos ⟨by omega,by omega,hb⟩,Zyk];have e:(fun i:Nat=>(nz M).contains (i:Int))=fun i=>M.contains i:=by funext i;exact Zi9 M i
 rw[e,Xe2]
theorem Xe4{n:Nat}(hn:n≤5){e:List Nat→Bool}(he:e (List.range n)=true){i:Nat}(hi:i<(Zwe n e).length):(Zbh n e fun j=>((Zwe n e).take i++(Zwe n e).drop (i+1)).contains j)=false:=by
 obtain⟨_,_,h3,h4,h5⟩:=Ztg hn he;generalize Zwe n e=M at*;cases hq:(Zbh n e fun j=>(M.take i++M.drop (i+1)).contains j)with
 |false=>rfl
 | true=>
  have hs:(M.take i++M.drop (i+1)).Sublist M:=by
   have h7:=(List.drop_sublist 1 (M.drop i));rw[List.drop_drop]at h7;have h8:=(List.Sublist.refl (M.take i)).append h7;rw[List.take_append_drop]at h8;exact h8
  have hnd:M.Nodup:=h3.imp fun h=>Nat.ne_of_lt h;have:=h5 _ (hnd.sublist hs) (fun j hj=>h4 j (hs.subset hj)) hq;rw[Zx5,Zyh,List.length_drop]at this;omega
end Go.VM
namespace Go.Proofs.w
open Go Go.VM
def Y201:VC:=(ZR [Yw 3 8 0,ZO 6 (.alloc ZU)] (.seq (ZR [Yv 7 (Yi 0)] (.block 0 (.loop (.seq (ZR [ZM 8 7,ZM 9 1,Ye 10 9,Yr 11 .lss 8 10] (YC 11 .skip (.exit 0))) (.seq (.block 1 (ZR [ZM 14 1,ZM 15 7,Yx 16 1 14 15,Yl 17 16,Yu 18 .geq 17 0,ZM 19 18,Yg 20 1 19 true,Yg 21 7 19 true,Yy 22 1 20 21 19 true,Yk 23 22 19 true,Yg 24 2 19 true,Yd 25 24 19 true,ZG 26 (.bin .lss (.t 23) (.t 25)) 19 true,Yz 27 19 26] (YC 27 (.draw2 [Ym 29 8 3,ZM 30 2,ZM 31 1,ZM 32 7,Yx 33 1 31 32,Yl 34 33,Yx 35 7 30 34,Ym 36 7 35,Yc 37 18 [29,36],ZM 28 37,Yp 38 28 0,Yp 39 28 1,Ys 8 3 38] [true,true,true,true,true,true,true,true,true,true,true,false,false]) .skip))) (.region [ZM 12 7,Yu 13 .add 12 1,ZM 7 13] false)))))) (ZR [Ym 40 8 3,Ys 8 6 40] .ret)))
def Y202:VC:=(ZR [Yw 2 8 0,Yv 4 Yf] (.seq (ZR [Yc 12 9 [],Yn 13 12] (YC 13 (ZR [Yv 4 Yf] .ret) .skip)) (.seq (ZR [Ym 14 8 2,ZM 15 1,ZO 16 (.call 17 [.t 14,.t 15,(Yi 4)]),Yn 17 16] (YC 17 (ZR [Yv 4 Yt] .ret) .skip)) (ZR [Ym 19 8 2,ZM 20 1,Yc 21 19 [19,20],ZM 18 21,Yp 22 18 0,Yp 23 18 1,ZM 5 22,ZM 6 23] (.seq (ZR [ZM 24 6,Yu 25 .neq 24 0] (YC 25 (ZR [Yv 4 Yf] .ret) .skip)) (ZR [ZM 26 1,Ye 27 26,ZM 28 5,ZM 29 1,Ye 30 29,Yc 31 23 [30],Yc 32 11 [27,28,31],ZM 7 32] (.seq (.draw2 [Ym 33 8 2,ZM 34 1,Ye 35 34,Yc 36 23 [35],ZM 37 1,Yc 38 24 [33,36,37],ZO 8 (.alloc ZU),Ys 8 8 38] [true,true,true,true,true,true,true,false]) (.seq (ZR [Yv 9 (Yi 0)] (.block 0 (.loop (.seq (ZR [ZM 39 9,ZM 40 7,Ye 41 40,Yr 42 .lss 39 41] (YC 42 .skip (.exit 0))) (.seq (.block 1 (.seq (.region [ZM 45 7,ZM 46 9,Yx 47 1 45 46,Yl 48 47,Ye 49 48,ZM 50 1,Ye 51 50,Yr 52 .neq 49 51,ZM 53 52,Yj 54 8 2 53 false,Yg 55 7 53 false,Yg 56 9 53 false,Yy 57 1 55 56 53 false,Yk 58 57 53 false,Yg 59 1 53 false,ZG 60 (.call 24 [.t 54,.t 58,.t 59]) 53 false,Yj 61 8 8 53 false,ZG 62 (.call 25 [.t 60,.t 61]) 53 false,Yq 63 62 53 false,Yh 64 53 63] true) (YC 64 (ZR [Yv 4 Yf] .ret) .skip))) (.region [ZM 43 9,Yu 44 .add 43 1,ZM 9 44] false)))))) (.seq (ZR [Yv 10 (Yi 0)] (.block 2 (.loop (.seq (ZR [ZM 65 10,ZM 66 5,Ye 67 66,Yr 68 .lss 65 67] (YC 68 .skip (.exit 2))) (.seq (.block 3 (.seq (.draw2 [ZO 71 (.fx (.mk0 1) []),ZM 72 5,ZM 73 10,ZO 74 (.slice false 1 (.t 72) none (some (.t 73))),ZO 75 (.app 1 8 [Yo] false (.t 71) (.t 74)),ZM 76 5,ZM 77 10,Yu 78 .add 77 1,ZO 79 (.slice false 1 (.t 76) (some (.t 78)) none),ZO 80 (.app 1 8 [Yo] false (.t 75) (.t 79)),ZM 11 80] [false,false,false,false,false,false,false,false,false,false,false]) (.seq (.region [Ym 81 8 2,ZM 82 11,ZM 83 1,Yc 84 22 [81,82,83],ZM 85 84,Yg 86 10 85 false,ZG 87 (.bin .gtr (.t 86) (Yi 0)) 85 false,Yg 88 87 85 false,Yg 89 5 88 true,Yg 90 10 88 true,ZG 91 (.bin .sub (.t 90) (Yi 1)) 88 true,Yy 92 1 89 91 88 true,Yk 93 92 88 true,Yg 94 5 88 true,Yg 95 10 88 true,Yy 96 1 94 95 88 true,Yk 97 96 88 true,ZG 98 (.bin .geq (.t 93) (.t 97)) 88 true,ZG 99 (.pick (.t 88) (.t 98) Yf) 85 false,Yh 100 85 99] true) (YC 100 (ZR [Yv 4 Yf] .ret) .skip)))) (.region [ZM 69 10,Yu 70 .add 69 1,ZM 10 70] false)))))) (ZR [ZM 101 7,Ye 102 101,Yu 103 .gtr 102 0,ZM 104 103,Yg 105 1 104 true,Yd 106 105 104 true,ZG 107 (.bin .eql (.t 106) (Yi 0)) 104 true,Yg 108 107 104 true,Yg 109 5 108 false,Yd 110 109 108 false,Yg 111 1 108 false,Yd 112 111 108 false,ZG 113 (.bin .lss (.t 110) (.t 112)) 108 false,ZG 114 (.pick (.t 108) Yt (.t 113)) 104 true,Yz 115 104 114,ZM 4 115] .ret))))))))))
theorem Z9o{N:Nat}{u:Un}(g:VM.Good N u){l:List Ac}(hl:∀a∈l,SmAc a){r:List Nat}(hr:∀i∈r,i<l.length)(hN:N+90*r.length≤800):
  Tc 24 [.agg u.enc,.sl 1 (nR r),.sl 7 (l.map Ac.enc)] (.agg (Zbu l u r).enc):=by
 have AP:=fun(k:Nat) (hk:k<r.length)=>Zpe (u:=Zbu l u (r.take k)) (Ze2 hl (r:=r.take k) g (fun i hi=>hr i (List.mem_of_mem_take hi)) (by rw[Zyh];omega)) (by rw[Zyh];omega) (hl _ (Zti (hr _ (Zyl hk))));refine Zac ?_ (Zak _) (CL3 (Zak u) (Zbm r) (Zc9 l));have hul:=Zao u;have hL:(l.map Ac.enc).length=l.length:=Zyc _;have hR:=Zbw r;refine Gn (vc:=Y201) [.c 6 true 8] Tryz.func24 ?_;simp only[Y201,YY];refine Rp1 [1,2,3,6] hul ?_;refine Zaa<|Rp1 [1,2,3,6,7] hR ?_;refine Zab ?_;refine Zai (σ:={ x:Nat×Nat//x.1≤r.length∧2≤x.2 }) (fun x=>([(1,.sl 1 (nR r)),(2,.sl 7 (l.map Ac.enc)),(3,.loc 0 0 0),(6,.loc 1 0 0),(7,pI x.1.1)],⟨[(1,.arr false 8 [zU]),(0,.arr false 8 [(Zbu l u (r.take x.1.1)).enc])],x.1.2⟩)) (fun x=>r.length-x.1.1) ⟨(0,2),Zyw _,Nat.le_refl _⟩ ?_ ?_ ?_
 ·refine Sp0 ?_;exact rfl
 ·simp only[vmL,reduceCtorEq,zU]
  try exact rfl
 rintro⟨⟨k,t⟩,hk,ht⟩;simp only[]at hk ht⊢;refine Zaa<|Rp1 [1,2,3,6,7,11] hR ?_;refine Zae rfl (fun h1=>?_) (fun h1=>?_)
 ·have ka:k<r.length:=by have h1:=oT h1;omega
  have hst:=Zwi (l:=l) (u:=u) ka;have hrk:(nR r).getD k []=[pI r[k]]:=Zcs ka;have hil:=hr r[k] (Zyl ka);have AP':=AP k ka;generalize r[k]=i at*;have hrow:(l.map Ac.enc).getD i []=(l.getD i default).enc:=by
   rw[Zcs hil,Zx1,Zye hil];rfl
  generalize l.getD i default=a at*;generalize Zbu l u (r.take k)=V at*;have hVt:=Zaq V;have hVl:=Zao V;have hVd:List.drop 8 V.enc=[]:=List.drop_eq_nil_of_le (by omega);have hWt:=Zaq (Z5k V a);have hWl:=Zao (Z5k V a);have g0:decide ((0:Int)≤(i:Int))=true:=Vt;have g1:decide ((i:Int)<(l.length:Int))=true:=Vt;refine Kp0 ?_;refine Zaa<|Zab ?_;refine Zaa (Zad [1,2,3,6,7,27] ?_);simp only[vmL,Nat.reduceEqDiff,hR,hrk,hL,g0,g1];refine Ok ?_;refine Ct ?_;refine Zd5 [1,2,3,6,7] (HOk.le_refl ⟨by show 1<t;omega,by omega,trivial⟩) ?_;simp only[vmL,Nat.reduceEqDiff,Nat.reduceAdd,Nat.reduceLT,hVt,hVl,hR,hrk,hL,hrow,ac_l7,ac_t7];refine Ok ?_;refine⟨_,.inl AP',?_⟩;refine Sp1 (x5 hWt hWl hVl hVd @xan) ?_;refine rp1 [1,2,3,6,7] (ad1 (a:=k) (by omega)) ?_;refine⟨⟨(k+1,t),ka,ht⟩,?_⟩;simp only[hst]
  all_goals exact Fn0
 ·have ka:k=r.length:=by have h1:=oF h1;omega
  subst ka;rw[List.take_length];have hVt:=Zaq (Zbu l u r);have hVl:=Zao (Zbu l u r);generalize(Zbu l u r).enc=VE at*;refine Ep0 ?_;refine Zaa (Zad [6] ?_);simp only[vmL,Nat.reduceEqDiff,Nat.reduceLT,reduceCtorEq,hVt,hVl,zU,Zyj];refine Zd4 ?_;try simp only[vmL,Nat.reduceEqDiff,Nat.reduceLT,reduceCtorEq,hVt,hVl,zU,Zyj]
  exact Vr
theorem Zja(u:Un)(l:List Ac)(hu:UnB u)(hs:Z4m AcB l):Tc 7 [.agg u.enc,.sl 7 (l.map Ac.enc)] (.bool true):=by
 obtain⟨hl,ha⟩:=hs;have AW:=Z9k;have FW:=Xcf hu (l:=l) hl ha 4 (by omega);refine Zac ?_ (cB _) (CL2 (Zak u) (Zc9 l));have hut:=Zaq u;have hul:=Zao u;have hL:(l.map Ac.enc).length=l.length:=Zyc _;refine Gn (vc:=Y202) [.t 4] Tryz.func7 ?_;simp only[Y202,YY];refine Rp1 [1,2] hul ?_;refine Zav [(1,.sl 7 (l.map Ac.enc)),(2,.ro u.enc)] ⟨Vr,View.loc (z:=8) (fz:=false) (es:=[u.enc]) rfl (by simp) rfl (by omega),trivial⟩ ?_;refine Zaa<|Rp0 [1,2,13] ?_;refine Ap0 AW ?_;refine Fp0 ?_;refine Zaa<|Rp1 [1,2,17] (x2 hut hul) ?_;refine Zki FW ?_;rintro p ⟨b1,rfl,hb1⟩;cases b1 with
 |false=>
  refine Sp0 ?_;refine Ct ?_;exact Rv0 [4]
 |true=>
 have q1:=hb1 rfl;have h4:=q1.len;have g:=q1.good hu;have h:=q1.ac ha;have MI:=Zrt g h (by omega) (by omega);have SU:=fun K hK=>Ztk g h (by omega) (by omega) K hK;have GI:=Zpx l.length (by omega);have D0:=Z9o g h (r:=List.range l.length) (fun i hi=>List.mem_range.1 hi) (by rw[List.length_range];omega);have ms:=Ztg (n:=l.length) (by omega) (Zpd l u);have m1:=fun i hi=>Xe4 (n:=l.length) (i:=i) (by omega) (Zpd l u) hi;have m2:=fun h0=>Z9a (n:=l.length) (by omega) h0 (Zpd l u);unfold Zpg at SU;generalize hM:Zwe l.length (Zmv l u)=M at*;obtain⟨_,e1,e2,e3,_⟩:=ms;have hz:l.length=0→M.length=0:=fun h0=>by
  cases M with
  |nil=>rfl
  |cons a r=>have:=e3 a List.mem_cons_self;omega
 have hml:M.length≤l.length:=by
  by_cases h0:l.length=0
  ·rw[hz h0];omega
  ·have:=m2 (by omega);omega
 have OR:=Zo5 (l.length:Int) (nz M) (nz (List.range l.length)) (by rw[Zhi];omega) (by rw[Zhi,List.length_range];omega);rw[Xe3 (by omega)]at OR;rw[←Zmu,←Zmu]at OR;have hO:(llR (List.map nz ((Za3 l.length).filter fun r=>Za4 r (List.range l.length) fun i=>M.contains i))).length=((Za3 l.length).filter fun r=>Za4 r (List.range l.length) fun i=>M.contains i).length:=by rw[Zzp,Zyc]
 have ho:∀r∈((Za3 l.length).filter fun r=>Za4 r (List.range l.length) fun i=>M.contains i),r∈Za3 l.length∧eqB (Zbu l u r) (Zbu l u (List.range l.length))=true:=by
  intro r hr;obtain⟨r1,r2⟩:=List.mem_filter.1 hr;refine⟨r1,?_⟩;have:=List.all_eq_true.1 e1 r r1;rw[r2,Bool.not_true,Bool.false_or]at this;exact this
 have hne:0<((Za3 l.length).filter fun r=>Za4 r (List.range l.length) fun i=>M.contains i).length:=by
  obtain⟨h0,h1⟩:=Zwk l.length (by omega);exact List.length_pos_iff.2 (List.ne_nil_of_mem (List.mem_filter.2 ⟨h1▸Zyl h0,Zzo _ _⟩))
 have hO5:((Za3 l.length).filter fun r=>Za4 r (List.range l.length) fun i=>M.contains i).length≤200:=Nat.le_trans (List.length_filter_le _ _) (by have:=Zgl l.length (by omega);omega);generalize((Za3 l.length).filter fun r=>Za4 r (List.range l.length) fun i=>M.contains i)=O at*;have hMl:=Zbw M;clear hb1 FW e1;have z1:((0:Int)==0)=true:=rfl;refine Sp0 ?_;refine Fp0 ?_;refine Rp1 [1,2,5,6] (x2 hut hul) ?_;refine Ap0 MI ?_;refine Zaa<|Rp1 [1,2,5,25] z1 ?_;refine Fp0 ?_;refine Rp1 [1,2,5,7] hL ?_;refine Zag GI ?_;refine Zag OR ?_;generalize hB0:Zbu l u (List.range l.length)=B0 at*;have h0t:=Zaq B0;have h0l:=Zao B0;have h0d:∀z:List PV,z.length=8→List.drop 8 z=[]:=fun z hz=>List.drop_eq_nil_of_le (by omega);refine Zaa (Zny 100 [1,2,5,7,8] (by simp[Vh]) ?_);simp only[vmL,Nat.reduceEqDiff,Nat.reduceAdd,Nat.reduceLT,Nat.reduceLeDiff,Ziw,VOp.writes,false_implies,implies_true,hut,hul,hL];refine⟨_,.inl GI,?_⟩;refine⟨_,.inl D0,?_⟩;simp only[vmL,Ziw,VOp.writes,false_implies,implies_true,h0t,h0l];rw[Zyj];refine Zav [(1,.sl 7 (l.map Ac.enc)),(2,.ro u.enc),(5,.sl 1 (nR M)),(7,.sl 1 (llR (O.map nz))),(8,.ro B0.enc)] ⟨Vr,Vr,Vr,Vr,View.loc (z:=8) (fz:=false) (es:=[B0.enc]) rfl (by simp) rfl (by omega),trivial⟩ ?_;have DN:=fun(k:Nat) (hk:k<O.length)=>Z9o g h (r:=O[k]) (Zpf (by omega) (ho _ (Zyl hk)).1) (by rw[(Zci (by omega) (ho _ (Zyl hk)).1).1];omega);have EQ:=fun(k:Nat) (hk:k<O.length)=>Zdm (Zbu l u O[k]) B0 (SmT.lens (Ze2 h (r:=O[k]) g (Zpf (by omega) (ho _ (Zyl hk)).1) (by rw[(Zci (by omega) (ho _ (Zyl hk)).1).1];omega)).sm) (SmT.lens (by rw[←hB0];exact(Ze2 h (r:=List.range l.length) g (fun i hi=>List.mem_range.1 hi) (by rw[List.length_range];omega)).sm));have hrl:=fun(k:Nat) (hk:k<O.length)=>(Zci (by omega) (ho _ (Zyl hk)).1).1;have hrow:∀(k:Nat) (hk:k<O.length),(llR (O.map nz)).getD k []=[.sl 1 (nR O[k])]:=by
  intro k hk;rw[Z7g (by rw[Zyc];exact hk),List.getElem_map,←Zmu]
 have hOl:O.length≤200:=hO5;clear GI OR D0;generalize hLE:l.map Ac.enc=LE at*;refine Zaa<|Rp0 [1,2,5,7,8,9] ?_;refine Zab ?_;refine Zai (σ:={ k:Nat//k≤O.length }) (fun k=>([(1,.sl 7 LE),(2,.ro u.enc),(5,.sl 1 (nR M)),(7,.sl 1 (llR (O.map nz))),(8,.ro B0.enc),(9,pI k.1)],⟨[],200⟩)) (fun k=>O.length-k.1) ⟨0,Zyw _⟩ ?_ ?_ ?_
 ·exact Fn0
 ·simp only[vmL,Nat.reduceLeDiff]
  try trivial
 rintro⟨k,hk⟩;simp only[];refine Zaa<|Rp1 [1,2,5,7,8,9,42] hO ?_;refine Zae rfl (fun h2=>?_) (fun h2=>?_)
 ·have ka:k<O.length:=by have h2:=oT h2;omega
  have DN:=DN k ka;have EQ:=EQ k ka;have hrl:=hrl k ka;have hrow:=hrow k ka;have hoe:=(ho _ (Zyl ka)).2;rw[hoe]at EQ;have hWt:=Zaq (Zbu l u O[k]);have hWl:=Zao (Zbu l u O[k]);generalize(Zbu l u O[k]).enc=W at*;generalize O[k]=r at*;have hrn:(nR r).length=l.length:=by rw[Zbw];exact hrl
  have nn:((l.length:Int) !=(l.length:Int))=false:=by simp
  refine Kp0 ?_;refine Zaa<|Zab ?_;refine Zaa (Zaw [1,2,5,7,8,9,64] (by simp[Vh]) ?_);simp only[vmL,Nat.reduceEqDiff,hO,hrow,hrn,hL,nn,hut,hul];refine Ok ?_;refine⟨_,.inl DN,?_⟩;refine Sp1 (x2 h0t h0l) ?_;refine⟨_,.inl EQ,?_⟩;refine Sp0 ?_;refine Fp0 ?_;refine rp1 [1,2,5,7,8,9] (ad1 (a:=k) (by omega)) ?_;refine⟨⟨k+1,ka⟩,?_⟩;exact Fn0
 ·have ka:k=O.length:=by have h2:=oF h2;omega
  subst ka;clear EQ DN hrl hrow;refine Ep0 ?_;refine Zaa<|Rp0 [1,2,5,7,10] ?_;refine Zab ?_;refine Zai (σ:={ x:Nat×Nat//x.1≤M.length }) (fun x=>([(1,.sl 7 LE),(2,.ro u.enc),(5,.sl 1 (nR M)),(7,.sl 1 (llR (O.map nz))),(10,pI x.1.1)],⟨[],x.1.2⟩)) (fun x=>M.length-x.1.1) ⟨(0,200),Zyw _⟩ ?_ ?_ ?_
  ·exact Fn0
  ·simp only[vmL]
   try trivial
  rintro⟨⟨k,t⟩,hk⟩;simp only[]at hk⊢;refine Zaa<|Rp1 [1,2,5,7,10,68] hMl ?_;refine Zae rfl (fun h3=>?_) (fun h3=>?_)
  ·have ka:k<M.length:=by have h3:=oT h3;omega
   have L1:=SU (nz (M.take k++M.drop (k+1))) (by rw[Zhi,Zx5,Zyh,List.length_drop];omega);have hcn:(fun i:Nat=>(nz (M.take k++M.drop (k+1))).contains (i:Int))=fun i=>(M.take k++M.drop (k+1)).contains i:=by funext i;exact Zi9 _ i
   rw[hcn,m1 k ka,←Zmu]at L1;have nt:nR (M.take k++M.drop (k+1))=List.take k (nR M)++List.drop (k+1) (nR M):=by unfold nR;rw[List.map_append,List.map_take,List.map_drop]
   rw[nt]at L1;have lt1:(List.take k (nR M)).length=k:=by rw[Zyh,hMl];omega
   refine Kp0 ?_;refine Zaa<|Zab ?_;refine Zaa (Zny (t+10) [1,2,5,7,10,11] (by simp[Vh]) ?_);have ck:IntKind.i64.wrap ((k:Int)+1)=((k+1:Nat):Int):=ad1 (a:=k) (by omega);have tkk:List.take k (List.take k (nR M))=List.take k (nR M):=Zyi (by omega);have dl:(List.drop (k+1) (nR M)).length=M.length-(k+1):=by rw[List.length_drop,hMl]
   have dtt:List.take (M.length-(k+1)) (List.drop (k+1) (nR M))=List.drop (k+1) (nR M):=Zyi (by omega);simp only[vmL,Nat.reduceEqDiff,Nat.reduceLeDiff,Ziw,VOp.writes,false_implies,implies_true,hMl,lt1,ck,Nat.sub_zero,tkk,dtt,dl];refine⟨by omega,⟨by omega,by omega,by omega⟩,by omega,by omega,by omega,⟨by omega,by omega⟩,by omega,by omega,by omega,?_⟩;refine Zav [(1,.sl 7 LE),(2,.ro u.enc),(5,.sl 1 (nR M)),(7,.sl 1 (llR (O.map nz))),(10,pI k),(11,.sl 1 (List.take k (nR M)++List.drop (k+1) (nR M)))] ⟨Vr,Vr,Vr,Vr,Vr,View.own_all (fz:=false) (by simp[Vh]) (by simp[hMl];omega),trivial⟩ ?_;simp only[];refine Zaa<|Zfa (σ:=Unit) (fun _=>([(1,.sl 7 LE),(2,.ro u.enc),(5,.sl 1 (nR M)),(7,.sl 1 (llR (O.map nz))),(10,pI k),(100,.bool false)],⟨[],t+1+1+1⟩)) ?_ (fun _=>?_)
   ·by_cases hk0:k=0
    ·have g0:decide ((0:Int)<(k:Int))=false:=Vf;refine Zaw [1,2,5,7,10,100] (by simp[Vh]) ?_;simp only[vmL,Nat.reduceEqDiff,hut,hul,g0];refine⟨_,.inl L1,?_⟩;simp only[vmL,Nat.reduceEqDiff,g0];exact⟨(),by trivial⟩
    ·obtain⟨j,rfl⟩:∃j,k=j+1:=⟨k-1,by omega⟩;have g0:decide ((0:Int)<((j+1:Nat):Int))=true:=Vt;have c2:IntKind.i64.wrap (((j+1:Nat):Int)-1)=(j:Int):=by rw[w64 (by omega) (by omega)];omega
     have r1:(nR M).getD j []=[pI M[j]]:=Z7f (by omega);have r2:(nR M).getD (j+1) []=[pI M[j+1]]:=Z7f ka;have lt:M[j]<M[j+1]:=List.pairwise_iff_getElem.1 e2 j (j+1) (by omega) ka (by omega);have g1:decide (((M[j+1]:Nat):Int)≤((M[j]:Nat):Int))=false:=Vf;refine Zaw [1,2,5,7,10,100] (by simp[Vh]) ?_;simp only[vmL,Nat.reduceEqDiff,hut,hul,g0,c2,hMl,r1,r2,g1];refine⟨_,.inl L1,?_⟩;simp only[vmL,Nat.reduceEqDiff,hut,hul,g0,c2,hMl,r1,r2,g1];exact⟨⟨by omega,by omega⟩,⟨by omega,by omega⟩,(),by trivial⟩
   simp only[];refine Fp0 ?_;refine rp1 [1,2,5,7,10] (ad1 (a:=k) (by omega)) ?_;refine⟨⟨(k+1,t+1+1+1),ka⟩,?_⟩;exact Fn0
  ·have ka:k=M.length:=by have h3:=oF h3;omega
   subst ka;refine Ep0 ?_;have g1:decide ((0:Int)<(O.length:Int))=true:=Vt;by_cases hl0:l.length=0
   ·have g2:((l.length:Int)==0)=true:=by rw[beq_iff_eq];omega
    refine Rp1 [4] (x5 hO hL g1 g2 hMl) ?_;exact Tv0
   ·have g2:((l.length:Int)==0)=false:=by rw[beq_eq_false_iff_ne];omega
    have g3:decide ((M.length:Int)<(l.length:Int))=true:=Zyf (by have:=m2 (by omega);omega);refine Zaa (Zad [4] ?_);simp only[vmL,Nat.reduceEqDiff,hO,hL,g1,g2,g3,hMl];exact Tv0
theorem Xcg{H:Type}{enc:TypeId×Value→H}{P:Program}{W:World}{base:Nat}{sp:Nat→Bool}{held:Bool}{m:Nat}{e:TypeId}{cs:List Value}{bs:List UInt8}{q:List MemPlace}(he:P.underlying e=some .string)
  (h:DataW.trod enc P W base sp held m e cs=some (.lit (.string bs),q)):cs=[.string ⟨bs.toArray⟩]:=by
 cases m with
 |zero=>simp[DataW.trod]at h
 |succ m=>
  unfold DataW.trod at h;rw[he]at h;split at h<;>try (simp_all;done)
  rename_i s heq;split at h
  ·simp only[Zx0,Prod.mk.injEq,DataW.lit.injEq,Lit.string.injEq]at h;obtain⟨rfl,_⟩:=h;rfl
  ·cases h
abbrev cW(W:World)(b o:Nat):Option Value:=match W.cell? ⟨b,o,none⟩with
 |some v=>if v.oneCell'=true then some v else none
 |none=>none
theorem Z9p{H:Type}{enc:TypeId×Value→H}{P:Program}{W:World}{base:Nat}{sp:Nat→Bool}{held:Bool}{m:Nat}{t e:TypeId}{cs:List Value}{zs:List Int}{rest:List (DataW H)}{q:List MemPlace}(ht:P.underlying t=some (.slice e))(he:P.underlying e=some (.int .i64))(hc:P.cellsOf e=1)(hz:zs≠[])
    (h:DataW.trod enc P W base sp held m t cs=some (.slice (zs.map fun z=>.lit (.int .i64 z)) rest,q)):∃v,cs=[v]∧v.oneCell'=true∧Xc6 (cW W) v zs:=by
  rcases DataW.trod_slice ht h with⟨_,h2⟩|⟨a,len,cap,elems,rs,m',hm,rfl,hx,hb,hlc,hcap,hel,hread,_,_⟩
  ·simp at h2
  simp only[Prod.mk.injEq,DataW.slice.injEq]at hx;obtain⟨⟨hx,_⟩,_⟩:=hx;have hzl:zs.length=len:=by
    have:=congrArg List.length hx;simp at this;omega
  have hlen:0<len:=by rw[←hzl];exact List.length_pos_iff.2 hz
  have each:∀i,i<len→W.cell? (a.add i)=some (.int .i64 (zs.getD i 0)):=by
    intro i hi;have hr:=hread i hi;rw[Zye (by omega),hc,Nat.mul_one]at hr;obtain⟨ci,hc1,hc2⟩:=Option.bind_eq_some_iff.1 hr;obtain⟨_,hcl,hcells⟩:=World.cells?_some hc1;obtain⟨n,rfl,hn,_⟩:=DataW.trod_int he hc2;have h1:=hcells 0 (by omega);have e0:∀b:Addr,b.add 0=b:=fun b=>by simp[Addr.add]
    rw[e0]at h1;rw[h1];have h2:(elems.map (·.1))[i]?=some (DataW.lit (.int .i64 n)):=by
      rw[List.getElem?_map,Zye (by omega),Zys,hn]
    rw[←hx,List.getElem?_map,Zye (by omega),Zys]at h2;simp only[Zx0,DataW.lit.injEq,Lit.int.injEq,true_and]at h2;have e3:zs.getD i 0=n:=by rw[←h2];simp[List.getD,show i<zs.length by omega]
    rw[e3];rfl
  have hspot:a.spot=none:=by
    have hv:=each 0 hlen;have e0:a.add 0=a:=by simp[Addr.add]
    rw[e0]at hv;unfold World.cell? at hv;split at hv
    · split at hv
      ·cases hv
      ·rename_i hs;simpa using hs
    ·cases hv
  have hadd:∀i,a.add i=⟨a.block,a.off+i,none⟩:=by
    intro i;obtain⟨b,o,s⟩:=a;simp only at hspot;subst hspot;by_cases hi:i=0<;>simp[Addr.add,hi]
  refine⟨_,rfl,rfl,.inr ⟨a.block,a.off,cap,by omega,?_,fun i hi=>?_⟩⟩
  · obtain⟨b,o,s⟩:=a
    simp only at hspot;subst hspot;rw[hzl]
  · have:=each i (by omega)
    rw[hadd]at this;simp only[cW];rw[this];rfl
def Z2s:List Value:=[.func (.func 299) #[] #[],.func (.func 300) #[] #[]]
theorem Z9q(b:Nat)(l:List Value)(h:known.lookup b=some l):(b=4∧l=Zcy.map fun s=>Value.string ⟨s.toArray⟩)∨(b=0∧l=Z2s):=by
 have e:known=[(0,Z2s),(4,Zcy.map fun s=>Value.string ⟨s.toArray⟩)]:=by kernel_rfl
 rw[e]at h;simp only[List.lookup]at h;split at h
 ·rename_i hb;simp only[Zx0]at h;exact .inr ⟨by simpa using hb,h.symm⟩
 ·split at h
  ·rename_i hb;simp only[Zx0]at h;exact .inl ⟨by simpa using hb,h.symm⟩
  ·cases h
def Xc4{H:Type}:DataW H:=.agg (Zcy.map fun s=>.lit (.string s))
def slD{H:Type}(zs:List Int):DataW H:=if zs=[]then .nil else .slice (zs.map fun z=>.lit (.int .i64 z)) []
def Xc5{H:Type}:DataW H:=.agg (Zgr.map slD)
def orderD : DataW Unit := .agg [.iface "func" (.lit (.string [112, 97, 110, 100, 101, 99, 116, 47, 115, 121, 110, 116, 97, 120, 46, 111, 114, 100, 101, 114, 36, 49])), .iface "func" (.lit (.string [112, 97, 110, 100, 101, 99, 116, 47, 115, 121, 110, 116, 97, 120, 46, 111, 114, 100, 101, 114, 36, 50]))]
theorem Z9r {W : World} {rest : List (String × DataW Unit)} (ho : ("pandect/syntax.order", DataW.iface "func table" orderD) ∈ rest) (h : laidMetH Tryz.prog rest W) (hf : (((rest.filter fun x => x.2.handleName?.isNone)).filter (fun x => x.1 == "pandect/unit.names"), ((rest.filter fun x => x.2.handleName?.isNone)).filter (fun x => x.1 == "pandect/unit.below")) = ([("pandect/unit.names", Xc4)], [("pandect/unit.below", Xc5)])) : Zdp W := by
  obtain⟨f1,f2⟩:=Prod.mk.inj hf
  have h1:=(laidMetH_iff.1 h).1
  have h2 := h1.filter (fun x => x.1 == "pandect/unit.names")
  rw[f1]at h2
  have h3 := h1.filter (fun x => x.1 == "pandect/unit.below")
  rw[f2]at h3
  have g1 : Tryz.prog.globalNamed "pandect/unit.names" = some 4 := by kernel_rfl
  have g2 : Tryz.prog.globalNamed "pandect/unit.below" = some 1 := by kernel_rfl
  have t1:(Tryz.prog.globals[4]?).map (·.type)=some 290:=by kernel_rfl
  have t2:(Tryz.prog.globals[1]?).map (·.type)=some 236:=by kernel_rfl
  have cs1:Tryz.prog.cellsOf 9=1:=by kernel_rfl
  have cs2:Tryz.prog.cellsOf 290=8:=by kernel_rfl
  have cs3:Tryz.prog.cellsOf 22=1:=by kernel_rfl
  have cs4:Tryz.prog.cellsOf 236=8:=by kernel_rfl
  have cs5:Tryz.prog.cellsOf 3=1:=by kernel_rfl
  have var_heap:∀{name:String} {b:Nat} {cs:Array Value},Tryz.prog.globalNamed name=some b→W.var? Tryz.prog name=some cs→∃t fr,W.heap[b]?=some (.cells cs t fr):=by
    intro name b cs hg hv
    unfold World.var? at hv
    rw[hg]at hv
    simp only[Option.bind_some]at hv
    split at hv
    · rename_i c t fr hh
      simp only[Zx0]at hv
      exact⟨t,fr,by rw[hh,hv]⟩
    ·cases hv
  refine⟨⟨fun b l hl=>?_,fun b k hb=>?_⟩,fun b ls hb j hj=>?_⟩
  · rcases Z9q b l hl with⟨rfl,rfl⟩|⟨rfl,rfl⟩
    rotate_left
    · obtain⟨g',t',cs,fuel,p,hg',ht',hvar,hd⟩:=h.funcs ho
      have g3 : Tryz.prog.globalNamed "pandect/syntax.order" = some 0 := by kernel_rfl
      have t3:(Tryz.prog.globals[0]?).map (·.type)=some 145:=by kernel_rfl
      obtain rfl:=Option.some.inj (g3.symm.trans hg')
      obtain rfl:=Option.some.inj (t3.symm.trans ht')
      obtain⟨t,fr,hh⟩:=var_heap g3 hvar
      obtain⟨xs,m,_,hx,hlen,hxs,hread⟩:=DataW.trod_struct Tryz.underlying145 hd
      have cf1:Tryz.prog.cellsOf 143=1:=by kernel_rfl
      have cf2:Tryz.prog.cellsOf 107=1:=by kernel_rfl
      have hc2:Tryz.prog.cellsOf 145=2:=by kernel_rfl
      rw[hc2]at hlen
      have hx1:=(Prod.mk.inj hx).1
      have r0:DataW.trod (funcToken Tryz.prog) Tryz.prog W 0 (fun _=>true) true m 143 ((cs.toList.drop 0).take (Tryz.prog.cellsOf 143))=xs[0]?:=hread 0 _ rfl
      have r1:DataW.trod (funcToken Tryz.prog) Tryz.prog W 0 (fun _=>true) true m 107 ((cs.toList.drop 1).take (Tryz.prog.cellsOf 107))=xs[1]?:=hread 1 _ rfl
      rw[cf1]at r0
      rw[cf2]at r1
      have hxl:xs.length=2:=hxs
      match xs,hxl with
      | [x0,x1],_=>
      have e0:x0.1=.held [112,97,110,100,101,99,116,47,115,121,110,116,97,120,46,111,114,100,101,114,36,49]:=by
        have:(DataW.agg [.held [112,97,110,100,101,99,116,47,115,121,110,116,97,120,46,111,114,100,101,114,36,49],.held [112,97,110,100,101,99,116,47,115,121,110,116,97,120,46,111,114,100,101,114,36,50]]:DataW (List UInt8))=.agg [x0.1,x1.1]:=hx1
        simp only[DataW.agg.injEq,List.cons.injEq]at this
        exact this.1.symm
      have e1:x1.1=.held [112,97,110,100,101,99,116,47,115,121,110,116,97,120,46,111,114,100,101,114,36,50]:=by
        have:(DataW.agg [.held [112,97,110,100,101,99,116,47,115,121,110,116,97,120,46,111,114,100,101,114,36,49],.held [112,97,110,100,101,99,116,47,115,121,110,116,97,120,46,111,114,100,101,114,36,50]]:DataW (List UInt8))=.agg [x0.1,x1.1]:=hx1
        simp only[DataW.agg.injEq,List.cons.injEq]at this
        exact this.2.1.symm
      match hcl:cs.toList,hlen with
      | [v0,v1],_=>
      rw[hcl]at r0 r1
      have k0:=func_of_trod (ps:=#[84]) (rs:=#[84]) (va:=false) (f0:=299) (q:=x0.2) (by kernel_rfl) (by kernel_rfl) (r0.trans (by rw[←e0];rfl))
      have k1:=func_of_trod (ps:=#[84]) (rs:=#[4]) (va:=false) (f0:=300) (q:=x1.2) (by kernel_rfl) (by kernel_rfl) (r1.trans (by rw[←e1];rfl))
      subst k0 k1
      have hcs:cs=Z2s.toArray:=Array.ext' hcl
      exact⟨⟨t,fr,by rw[hh,hcs]⟩,fun v hv=>by simp only[Z2s,Zyb,Zya,or_false]at hv;rcases hv with rfl|rfl<;>rfl⟩
    refine⟨?_,fun v hv=>by obtain⟨s,_,rfl⟩:=List.mem_map.1 hv;rfl⟩
    obtain⟨ps,⟨g',t',cs,fuel,p,q,hg',ht',hvar,hd,_,_⟩,_⟩:=h2
    obtain rfl:=Option.some.inj (g1.symm.trans hg')
    obtain rfl:=Option.some.inj (t1.symm.trans ht')
    obtain⟨t,fr,hh⟩:=var_heap g1 hvar
    refine⟨t,fr,?_⟩
    suffices hcs:cs=(Zcy.map fun s=>Value.string ⟨s.toArray⟩).toArray by rw[hh,hcs]
    obtain⟨xs,m,_,hx,hlen,hxs,hread⟩:=DataW.trod_array Tryz.underlying290 hd
    rw[cs2]at hlen
    simp only[Prod.mk.injEq]at hx
    have hx1:Zcy.map (fun s=>(DataW.lit (.string s):DataW _))=xs.map (·.1):=by
      have:=hx.1
      unfold Xc4 at this
      simpa using this
    apply Array.ext'
    apply List.ext_getElem?
    intro i
    by_cases hi:i<8
    · have hr:=hread i hi
      rw[cs1,Nat.mul_one,Zye (by omega)]at hr
      have hk:i<Zcy.length:=hi
      have h5:(xs.map (·.1))[i]?=some xs[i].1:=by rw[List.getElem?_map,Zye (by omega)];rfl
      rw[←hx1,List.getElem?_map,Zye hk]at h5
      simp only[Zys,Zx0]at h5
      have h6:xs[i]=(.lit (.string Zcy[i]),xs[i].2):=Prod.ext h5.symm rfl
      rw[h6]at hr
      have h7:=Xcg Tryz.underlying9 hr
      have h8:=congrArg (·[0]?) h7
      simp only[List.getElem?_take,List.getElem?_drop]at h8
      simp only[List.getElem?_map,Zye hk,Zys]
      simpa using h8
    · rw[List.getElem?_eq_none (by omega)]
      symm
      apply List.getElem?_eq_none
      show(List.map _ Zcy).length≤i
      rw[Zyc]
      show 8≤i
      omega
  · exfalso
    have:Zlx=[]:=by kernel_rfl
    rw[this]at hb;cases hb
  · have hS:Zly=[(1,Zgr)]:=by kernel_rfl
    rw[hS]at hb
    simp only[List.lookup]at hb
    split at hb
    · rename_i hbb
      simp only[Zx0]at hb
      subst hb
      have hb':b=1:=by simpa using hbb
      subst hb'
      obtain⟨ps,⟨g',t',cs,fuel,p,q,hg',ht',hvar,hd,_,_⟩,_⟩:=h3
      obtain rfl:=Option.some.inj (g2.symm.trans hg')
      obtain rfl:=Option.some.inj (t2.symm.trans ht')
      obtain⟨t,fr,hh⟩:=var_heap g2 hvar
      obtain⟨xs,m,_,hx,hlen,hxs,hread⟩:=DataW.trod_array Tryz.underlying236 hd
      rw[cs4]at hlen
      simp only[Prod.mk.injEq]at hx
      have hx1:Zgr.map slD=xs.map (·.1):=by
        have:=hx.1
        unfold Xc5 at this
        simpa using this
      have hj8:j<8:=hj
      have hr:=hread j hj8
      rw[cs3,Nat.mul_one,Zye (by omega)]at hr
      have h5:(xs.map (·.1))[j]?=some xs[j].1:=by rw[List.getElem?_map,Zye (by omega)];rfl
      rw[←hx1,List.getElem?_map,Zye hj]at h5
      simp only[Zys,Zx0]at h5
      have h6:xs[j]=(slD Zgr[j],xs[j].2):=Prod.ext h5.symm rfl
      rw[h6]at hr
      have hgD:Zgr.getD j []=Zgr[j]:=by rw[Zx1,Zye hj];rfl
      have hcell:∀v,(cs.toList.drop j).take 1=[v]→W.cell? ⟨1,j,none⟩=some v:=by
        intro v hv
        have h8:=congrArg (·[0]?) hv
        simp only[List.getElem?_take,List.getElem?_drop]at h8
        unfold World.cell?
        rw[hh]
        simpa using h8
      rw[hgD]
      generalize Zgr[j]=zs at hr
      unfold slD at hr
      by_cases hz:zs=[]
      · rw[if_pos hz]at hr
        rcases DataW.trod_slice Tryz.underlying22 hr with⟨h7,_⟩|⟨a,len,cap,elems,rs,m',_,_,h8,_⟩
        · refine⟨.slice none 0 0,?_,.inl ⟨hz,rfl⟩⟩
          simp only[]
          rw[hcell _ h7];rfl
        ·simp at h8
      · rw[if_neg hz]at hr
        obtain⟨v,h7,h8,h9⟩:=Z9p (W:=W) Tryz.underlying22 Tryz.underlying3 cs5 hz hr
        refine⟨v,?_,h9⟩
        simp only[]
        rw[hcell _ h7]
        simp only[]
        rw[if_pos h8]
    ·cases hb
theorem Zku{H:Type}{d:DataW H}:∀{l:List (DataW H)},d∈l→YtldogpfookkbaaaGreatDoor.Rows.uptoBulk d≤YtldogpfookkbaaaGreatDoor.Rows.uptoBulkAll l
 |x::r,h=>by
  simp only[YtldogpfookkbaaaGreatDoor.Rows.uptoBulkAll];rcases List.mem_cons.1 h with e|e
  ·subst e;omega
  ·have:=Zku e;omega
theorem Xch{H:Type}(d:DataW H):1≤YtldogpfookkbaaaGreatDoor.Rows.uptoBulk d:=by
 cases d with
 |lit l=>cases l<;>simp[YtldogpfookkbaaaGreatDoor.Rows.uptoBulk]
 |nil=>simp[YtldogpfookkbaaaGreatDoor.Rows.uptoBulk]
 |ptr d=>simp[YtldogpfookkbaaaGreatDoor.Rows.uptoBulk]
 |slice elems spare=>simp[YtldogpfookkbaaaGreatDoor.Rows.uptoBulk]
 |agg parts=>simp[YtldogpfookkbaaaGreatDoor.Rows.uptoBulk]
 |iface t d=>simp[YtldogpfookkbaaaGreatDoor.Rows.uptoBulk]
 |map entries=>simp[YtldogpfookkbaaaGreatDoor.Rows.uptoBulk]
 |held h=>simp[YtldogpfookkbaaaGreatDoor.Rows.uptoBulk]
theorem Z2t{H:Type}:∀l:List (DataW H),l.length≤YtldogpfookkbaaaGreatDoor.Rows.uptoBulkAll l
 | []=>by simp[YtldogpfookkbaaaGreatDoor.Rows.uptoBulkAll]
 |x::r=>by have:=Xch x;have:=Z2t r;simp only[YtldogpfookkbaaaGreatDoor.Rows.uptoBulkAll,Zyd];omega
theorem bulky{H:Type}:Bulky (YtldogpfookkbaaaGreatDoor.Rows.uptoBulk (H:=H)):=
 ⟨fun s=>by simp only[YtldogpfookkbaaaGreatDoor.Rows.uptoBulk];omega,fun es sp=>by have:=Z2t es;simp only[YtldogpfookkbaaaGreatDoor.Rows.uptoBulk];omega,fun es sp d h=>by have:=Zku h;simp only[YtldogpfookkbaaaGreatDoor.Rows.uptoBulk];omega,fun ps d h=>by have:=Zku h;simp only[YtldogpfookkbaaaGreatDoor.Rows.uptoBulk];omega⟩
theorem Z5e{H:Type}{l:List (DataW H)}(h:YtldogpfookkbaaaGreatDoor.Rows.uptoSmall H (l++[])=true):∀d∈l,YtldogpfookkbaaaGreatDoor.Rows.uptoBulk d≤Zp2:=fun d hd=>by
 rw[Zyj]at h;have h1:YtldogpfookkbaaaGreatDoor.Rows.uptoBulkAll l≤1048576:=of_decide_eq_true h;exact Nat.le_trans (Zku hd) h1
end Go.Proofs.w
