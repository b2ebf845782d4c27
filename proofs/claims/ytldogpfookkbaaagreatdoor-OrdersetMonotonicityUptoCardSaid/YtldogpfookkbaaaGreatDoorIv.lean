import Derived.Test.YtldogpfookkbaaaGreatDoorIl
set_option linter.all false
set_option maxRecDepth 20000
set_option maxHeartbeats 0
namespace Go.VM
open Go Go.Proofs.w
def Zqa(h:Heap):List (List PV)→List (List PV)→Prop
 | [],[]=>True
 |a::r,b::q=>Zc0 h a b∧Zqa h r q
 |_,_=>False
theorem Zqa.at{h:Heap}:∀{es q:List (List PV)},Zqa h es q→es.length=q.length∧∀i,i<q.length→Zc0 h (PV.row es i) (PV.row q i)
 | [],[],_=>⟨rfl,fun i hi=>by simp at hi⟩
 |a::r,b::q,⟨v,w⟩=>by
  obtain⟨h1,h2⟩:=Zqa.at w;refine⟨by rw[Zyd,Zyd,h1],fun i hi=>?_⟩;cases i with
  |zero=>exact v
  |succ i=>exact h2 i (by simpa using hi)
 | [],_::_,w=>w.elim
 |_::_,[],w=>w.elim
theorem Zqa.sl{h:Heap}{z:Nat}{es q:List (List PV)}(hv:Zqa h es q):View h (.sl z es) (.sl z q):=by
 obtain⟨l1,l2⟩:=hv.at
 intro g w v r hr;cases hr with
 |slE ao=>
  have:q=[]:=List.eq_nil_of_length_eq_zero (by rw[←l1];rfl);subst this;exact .slE _ _ _
 | sl b o len cap z a es vs ha hl hc hz hm hr=>
  refine .sl b o len cap z a _ vs ha (by omega) hc (fun i hi=>?_) (fun i j hi hj=>Zcm (hm i j hi hj)) (fun i j hi hj=>?_)
  ·rw[←Zc0.len (l2 i (by omega))];exact hz i hi
  ·have hj':j<(PV.row q i).length:=by rw[←Zc0.len (l2 i (by omega)),hz i hi];exact hj
   exact Zc0.nth j (l2 i (by omega)) hj' g w _ r (hr i j hi hj)
theorem View.ownR{h:Heap}{id z n:Nat}{fz:Bool}{es q:List (List PV)}(hg:h.get id=some (.arr fz z es))(hn:es.length=n)(hz:∀r∈q,r.length=z)(hv:Zqa h es q):View h (.own id 0 n) (.sl z q):=by
 subst hn;obtain⟨l1,l2⟩:=hv.at
 have hrow:∀i,i<es.length→PV.row q i∈q:=fun i hi=>by
  unfold PV.row;rw[Zx1,Zye (by omega)];exact Zyl _
 refine View.ownV hg (by omega) l1.symm (fun i hi=>hz _ (hrow i hi)) (fun i j hi hj=>?_);rw[Nat.zero_add];exact Zc0.nth j (l2 i (by omega)) (by rw[hz _ (hrow i hi)];exact hj)
theorem View.locR{h:Heap}{id z:Nat}{fz:Bool}{e q:List PV}(hg:h.get id=some (.arr fz z [e]))(hl:q.length≤z)(hv:Zc0 h e q):View h (.loc id 0 0) (.ro q):=
 View.locV hg (by simp) (by omega) (fun j hj=>by rw[Nat.zero_add];exact Zc0.nth j hv hj)
theorem Zg6.ofViews{P:Program}{f:FuncId}{args q:List PV}{p:PV}(H:Zg6 P f q p)(hp:Closed p)(hc:Za7 args)(hv:Zc0 Heap.nil args q):Zg6 P f args p:=
 Zac (Zlp q hv (Zag H (Vr))) hp hc
def exU(h1 h2:List Wd):Un:=.mk 0 0 0 0 [] [] [] [.mk 1 0 1 2 [49] h1 [] [],.mk 1 0 2 2 [50] h2 [] []]
def exI(l:UInt8):It:=.mk 4 [⟨2,[l]⟩] [] 0 0 Zf9 [] [[104]] [] [] ⟨0,0,[]⟩ 0 0 0 [] []
def exA(n:Int)(l:UInt8):Ac:=⟨n,[116],0,⟨0,0,[]⟩,[exI l]⟩
def exW(n:Int):List Wd:=[⟨[104],n,0,0⟩]
theorem Zwo{l:UInt8}(hl:l=49∨l=50):Zmu (exI l)=true:=by
 unfold Zmu;rw[show eqB (exI l) (Zjl (exI l) (Zpo (exI l)))=true from Zm1 rfl];rcases hl with rfl|rfl<;>rfl
theorem Z9k(n:Int)(h1 h2:List Wd):Z94 (exU h1 h2) (exA n 49)=exU (exW n) h2:=by
 show(Zcf (exU h1 h2) ⟨n,0,0,exI 49⟩).1=_;unfold Zcf;rw[Zwo (.inl rfl)];rfl
theorem Z9l(n:Int)(h1 h2:List Wd):Z94 (exU h1 h2) (exA n 50)=exU h1 (exW n):=by
 show(Zcf (exU h1 h2) ⟨n,0,0,exI 50⟩).1=_;unfold Zcf;rw[Zwo (.inr rfl)];rfl
def exL:List Ac:=[exA 2 49,exA 3 49,exA 4 50]
def exE(r:List Nat):Bool:=decide (r.idxOf 0<r.idxOf 1)
def exB(n:Int):Un:=exU (exW n) (exW 4)
theorem Xdd:exB 3≠exB 2:=by
 intro h;have e:=congrArg (fun u:Un=>(u.kids.map fun k=>k.head.map Wd.act)) h
 revert e
 decide
theorem Xcg:Zbw exL (exU [] [])=[exB 3,exB 3,exB 2,exB 2,exB 3,exB 2]:=by
 have hr:Za3 exL.length=[[0,1,2],[0,2,1],[1,0,2],[1,2,0],[2,0,1],[2,1,0]]:=by kernel_rfl
 have h0:exL.getD 0 default=exA 2 49:=rfl;have h1:exL.getD 1 default=exA 3 49:=rfl;have h2:exL.getD 2 default=exA 4 50:=rfl;unfold Zbw;rw[hr];simp only[List.map_cons,List.map_nil,Zcr,List.foldl_cons,List.foldl_nil,h0,h1,h2,Z9k,Z9l,exB]
theorem Xch:(Zgw (Zbw exL (exU [] []))).length=2:=by
 have hne:=Xdd;rw[Xcg,Zpj];simp only[Zh2,List.any_cons,List.any_nil,Bool.or_false,Zm1 rfl,Zeq hne,Zeq (Ne.symm hne),if_true,Zyu,if_false,List.cons_append,List.nil_append,Bool.true_or,Bool.or_true,Bool.false_or,reduceIte];rfl
theorem Xe5:∀r∈Za3 3,Zpk exL (exU [] []) r=exE r:=by
 have hr:Za3 3=[[0,1,2],[0,2,1],[1,0,2],[1,2,0],[2,0,1],[2,1,0]]:=by kernel_rfl
 have h0:exL.getD 0 default=exA 2 49:=rfl;have h1:exL.getD 1 default=exA 3 49:=rfl;have h2:exL.getD 2 default=exA 4 50:=rfl;have hne:=Xdd;have hb:Zcr exL (exU [] []) (List.range exL.length)=exB 3:=by
  show Zcr exL (exU [] []) [0,1,2]=_;simp only[Zcr,List.foldl_cons,List.foldl_nil,h0,h1,h2,Z9k,Z9l,exB]
 rw[hr];intro r hrm;simp only[Zyb,Zya,or_false]at hrm;unfold Zpk;rw[hb];rcases hrm with rfl|rfl|rfl|rfl|rfl|rfl
 all_goals
  simp only[Zcr,List.foldl_cons,List.foldl_nil,h0,h1,h2,Z9k,Z9l]
  first|exact Zm1 rfl|exact Zeq (Ne.symm hne)
theorem Z5h{n:Nat}{e e':List Nat→Bool}(h:∀r∈Za3 n,e r=e' r)(K:Nat→Bool):Zb6 n e K=Zb6 n e' K:=by
 unfold Zb6;rw[Bool.eq_iff_iff,List.all_eq_true,List.all_eq_true];exact⟨fun H r hr=>by rw[←h r hr];exact H r hr,fun H r hr=>by rw[h r hr];exact H r hr⟩
theorem Zwp{n:Nat}{e e':List Nat→Bool}(h:∀r∈Za3 n,e r=e' r):∀k,Ztk n e k=Ztk n e' k
 |0=>rfl
 |k+1=>by
  rw[Zmb,Zmb,Zwp h k];unfold Xcb;rw[Z5h h]
theorem ex_min:minF 3 (Zpk exL (exU [] []))=[0]:=by
 unfold minF;rw[Zwp Xe5]
 kernel_rfl
theorem Z9m(l:Str)(hl:l.length≤30)(a i n k:Int)(ha:i64 a)(hi:i64 i)(hn:i64 n)(hk:i64 k)(ks:List Un)(h1:ks.length≤1000)(h2:∀x∈ks,SmT x):SmT (.mk a i n k l [] [] ks):=
 .mk _ ⟨⟨ha,hi,hn,hk⟩,hl,⟨Zyw _,fun w hw=>by cases hw⟩,⟨Zyw _,fun w hw=>by cases hw⟩⟩ h1 h2
theorem Z9n:VM.Good 60 (exU [] []):=by
 have z:∀n:Nat,n≤1000000→i64 (n:Int):=fun n h=>Zku h;have k1:=Z9m [49] (by decide) 1 0 1 2 (z 1 (by omega)) (z 0 (by omega)) (z 1 (by omega)) (z 2 (by omega)) [] (by decide) (fun x hx=>by cases hx);have k2:=Z9m [50] (by decide) 1 0 2 2 (z 1 (by omega)) (z 0 (by omega)) (z 2 (by omega)) (z 2 (by omega)) [] (by decide) (fun x hx=>by cases hx);refine⟨Z9m [] (by decide) 0 0 0 0 (z 0 (by omega)) (z 0 (by omega)) (z 0 (by omega)) (z 0 (by omega)) _ (by decide) (fun x hx=>?_),by decide,by decide⟩;simp only[Zyb,Zya,or_false]at hx;rcases hx with rfl|rfl
 ·exact k1
 ·exact k2
theorem ex_unB:UnB Zf9:=.mk _ ⟨z64,z64,z64,z64⟩ (Zyw _) ⟨Zyw _,fun w hw=>by cases hw⟩ ⟨Zyw _,fun w hw=>by cases hw⟩ (Zyw _) (fun k hk=>by cases hk)
theorem Z9o(n:Nat)(hn:n≤100)(l:UInt8):SmAc (exA n l):=by
 have z:∀n:Nat,n≤1000000→i64 (n:Int):=fun n h=>Zku h;have hs:∀s∈[([l]:Str)],s.length≤1048576:=fun s h=>by rw[List.mem_singleton.1 h];exact Zym rfl
 refine⟨⟨Zym rfl,Zym rfl,fun x hx=>?_⟩,⟨z n (by omega),Zym rfl,z 0 (by omega),⟨z 0 (by omega),z 0 (by omega),Zym rfl⟩,Zym rfl,fun x hx=>?_⟩,Zym rfl⟩
 ·rw[List.mem_singleton.1 hx];refine⟨Zym rfl,Zym rfl,Zym rfl,Zym rfl,Zym rfl,Zym rfl,Zym rfl,Zym rfl,Zym rfl,rfl,fun s h=>(by cases h),fun s h=>?_,fun s h=>?_,fun s h=>(by cases h)⟩
  ·rw[List.mem_singleton.1 h];exact Zym rfl
  ·rw[List.mem_singleton.1 h];show[l].length≤100;exact Zym rfl
 ·rw[List.mem_singleton.1 hx];refine .mk _ (z 4 (by omega)) ⟨Zym rfl,fun s h=>?_⟩ ⟨Zym rfl,fun s h=>by cases h⟩ (z 0 (by omega)) (z 0 (by omega)) ex_unB ⟨Zym rfl,fun s h=>by cases h⟩ ⟨Zym rfl,fun s h=>?_⟩ (Zym rfl) (Zym rfl) ⟨z 0 (by omega),z 0 (by omega),Zym rfl⟩ (z 0 (by omega)) (z 0 (by omega)) (z 0 (by omega)) (Zym rfl) (Zym rfl) (fun k hk=>by cases hk)
  ·rw[List.mem_singleton.1 h];exact⟨z 2 (by omega),by show[l].length≤1048576;exact Zym rfl⟩
  ·rw[List.mem_singleton.1 h];show([104]:Str).length≤1048576;exact Zym rfl
theorem Z9p:∀a∈exL,SmAc a:=by
 intro a ha;simp only[exL,Zyb,Zya,or_false]at ha;rcases ha with rfl|rfl|rfl
 ·exact Z9o 2 (by omega) 49
 ·exact Z9o 3 (by omega) 49
 ·exact Z9o 4 (by omega) 50
end Go.VM
namespace Go.Proofs.w
open Go Go.VM
def Y190:VC:=(ZR [ZO 4 (.alloc [Yo,(.str []),Yo,Yo,Yo,(.str []),.nilsl])] (ZR [ZM 5 0,ZM 6 1,ZO 7 (.build [Yo,(.str [])] [(0,(1,(Yi 2))),(1,(1,(.t 6)))]),ZO 8 (.bslice 2 1 [Yo,(.str [])] [(0,(.t 7))]),ZO 9 (.bslice 1 1 [(.str [])] [(0,(.c (.str [104])))]),ZO 10 (.build YI [(0,(1,(Yi 4))),(1,(1,(.t 8))),(14,(1,(.t 9)))]),ZO 11 (.bslice 25 1 YI [(0,(.t 10))]),ZO 12 (.build [Yo,(.str []),Yo,Yo,Yo,(.str []),.nilsl] [(0,(1,(.t 5))),(1,(1,(.c (.str [116])))),(6,(1,(.t 11)))]),Ys 7 4 12] .ret))
def Y191:VC:=(ZR [Yv 0 Yf] (ZR [ZO 4 (.build [Yo,Yo,Yo] [(0,(1,(Yi 1))),(2,(1,(Yi 1)))]),ZO 5 (.build ZU [(3,(1,(Yi 2))),(4,(1,(.c (.str [49])))),(0,(3,(.t 4)))]),ZO 6 (.build [Yo,Yo,Yo] [(0,(1,(Yi 1))),(2,(1,(Yi 2)))]),ZO 7 (.build ZU [(3,(1,(Yi 2))),(4,(1,(.c (.str [50])))),(0,(3,(.t 6)))]),ZO 8 (.bslice 8 2 ZU [(0,(.t 5)),(1,(.t 7))]),ZO 9 (.build ZU [(7,(1,(.t 8)))]),ZO 1 (.alloc ZU),Ys 8 1 9] (.seq (.region [Ym 11 8 1,ZO 12 (.call 26 [(Yi 2),(.c (.str [49]))]),ZO 13 (.call 26 [(Yi 3),(.c (.str [49]))]),ZO 14 (.call 26 [(Yi 4),(.c (.str [50]))]),ZO 15 (.bslice 7 3 [Yo,(.str []),Yo,Yo,Yo,(.str []),.nilsl] [(0,(.t 12)),(1,(.t 13)),(2,(.t 14))]),Yc 16 19 [11,15],ZM 10 16,Yp 17 10 0,Yp 18 10 1,ZM 2 17,ZM 3 18] true) (.seq (.region [ZM 19 3,Yu 20 .eql 19 0,ZM 21 20,Yg 22 2 21 true,ZG 23 (.bslice 1 1 [Yo] [(0,(Yi 0))]) 21 true,ZG 24 (.call 14 [.t 22,.t 23]) 21 true,Yz 25 21 24,ZM 26 25,Yj 27 8 1 26 true,ZG 28 (.call 26 [(Yi 2),(.c (.str [49]))]) 26 true,ZG 29 (.call 26 [(Yi 3),(.c (.str [49]))]) 26 true,ZG 30 (.call 26 [(Yi 4),(.c (.str [50]))]) 26 true,ZG 31 (.bslice 7 3 [Yo,(.str []),Yo,Yo,Yo,(.str []),.nilsl] [(0,(.t 28)),(1,(.t 29)),(2,(.t 30))]) 26 true,ZG 32 (.call 21 [.t 27,.t 31]) 26 true,ZG 33 (.bin .eql (.t 32) (Yi 2)) 26 true,Yz 34 26 33,ZM 35 34,ZG 36 (.bslice 1 1 [Yo] [(0,(Yi 0))]) 35 true,ZG 37 (.bslice 1 3 [Yo] [(0,(Yi 1)),(1,(Yi 0)),(2,(Yi 2))]) 35 true,ZG 38 (.call 11 [(Yi 3),.t 36,.t 37]) 35 true,ZG 39 (.bslice 1 3 [Yo] [(0,(Yi 1)),(1,(Yi 0)),(2,(Yi 2))]) 35 true,ZG 40 (.bslice 1 1 [.nilsl] [(0,(.t 39))]) 35 true,ZG 41 (.call 10 [.t 38,.t 40]) 35 true,Yz 42 35 41,ZM 0 42] true) .ret))))
def Xe6(l:UInt8):List PV:=[pI 4,.sl 2 [[pI 2,.str [l]]],.nilsl,pI 0,pI 0,pI 0,pI 0,pI 0,pI 0,.str [],.nilsl,.nilsl,.nilsl,.nilsl,.sl 1 [[.str [104]]],.str [],.str [],pI 0,pI 0,.str [],pI 0,pI 0,pI 0,.str [],.nilsl]
def Z96(n:Int)(l:UInt8):List PV:=[pI n,.str [116],pI 0,pI 0,pI 0,.str [],.sl 25 [Xe6 l]]
def Xfm:PV:=.sl 7 [Z96 2 49,Z96 3 49,Z96 4 50]
def Xfn:PV:=.agg [pI 0,pI 0,pI 0,pI 0,.str [],.nilsl,.nilsl,.sl 8 [[pI 1,pI 0,pI 1,pI 2,.str [49],.nilsl,.nilsl,.nilsl],[pI 1,pI 0,pI 2,pI 2,.str [50],.nilsl,.nilsl,.nilsl]]]
theorem Z5i(l:UInt8):∀y∈Xe6 l,Closed y:=by
 intro y hy;simp only[Xe6,Zyb,Zya,or_false]at hy;rcases hy with rfl|rfl|rfl|rfl|rfl|rfl|rfl|rfl|rfl|rfl|rfl|rfl|rfl|rfl|rfl|rfl|rfl|rfl|rfl|rfl|rfl|rfl|rfl|rfl|rfl
 all_goals first|exact cI _|exact cS _|exact Zar|exact Zrr [⟨2,[l]⟩]|exact Zb5 [[104]]
theorem Zrw(n:Int)(l:UInt8):∀y∈Z96 n l,Closed y:=by
 intro y hy;simp only[Z96,Zyb,Zya,or_false]at hy;rcases hy with rfl|rfl|rfl|rfl|rfl|rfl|rfl
 all_goals first|exact cI _|exact cS _|skip
 exact Zaj (l:=[()]) (enc:=fun _=>Xe6 l) fun _ _=>Z5i l
theorem Xe7(n:Int)(l:UInt8):Tc 26 [pI n,.str [l]] (.agg (Z96 n l)):=by
 refine Zac ?_ (Zah (Zrw n l)) (CL2 (cI _) (cS _));unfold Z96 Xe6;refine Gn (vc:=Y190) [.c 4 true 7] Tryz.func26 ?_;simp only[Y190,YY];refine Rp0 [0,1,4] ?_;refine Rp0 [4] ?_;refine Tp0 ?_;refine View.aggs ⟨Vr,Vr,Vr,Vr,Vr,Vr,View.ownR (fz:=false) rfl rfl (fun r hr=>by rw[List.mem_singleton.1 hr];rfl) ⟨?_,trivial⟩,trivial⟩;refine⟨Vr,View.own_all (fz:=false) rfl rfl,Vr,Vr,Vr,Vr,Vr,Vr,Vr,Vr,Vr,Vr,Vr,Vr,View.own_all (fz:=false) rfl rfl,?_⟩
 repeat' (first|exact Vr|exact trivial|refine And.intro ?_ ?_)
theorem Z5j:Closed Xfm:=Zjx (fun e he x hx=>by
 simp only[Zyb,Zya,or_false]at he;rcases he with rfl|rfl|rfl<;>exact Zrw _ _ x hx)
theorem Z5k:Closed Xfn:=Zah (by
 intro y hy;simp only[Zyb,Zya,or_false]at hy;rcases hy with rfl|rfl|rfl|rfl|rfl|rfl|rfl|rfl
 all_goals first|exact cI _|exact cS _|exact Zar|skip
 refine Zjx (fun e he x hx=>?_);simp only[Zyb,Zya,or_false]at he;rcases he with rfl|rfl<;>simp only[Zyb,Zya,or_false]at hx<;>rcases hx with rfl|rfl|rfl|rfl|rfl|rfl|rfl|rfl<;>first|exact cI _|exact cS _|exact Zar)
theorem Z2w:Zc0 Heap.nil [Xfn,Xfm] [.agg (exU [] []).enc,.sl 7 (exL.map Ac.enc)]:=by
 refine⟨View.aggs ?_,Zqa.sl ?_,trivial⟩
 ·rw[Un.Zaf];refine⟨Vr,Vr,Vr,Vr,Vr,View.nil _ _,View.nil _ _,Zqa.sl ?_,trivial⟩;simp only[exU,Un.kids,List.map_cons,List.map_nil];rw[Un.Zaf,Un.Zaf]
  repeat' (first|exact Vr|exact View.nil _ _|exact trivial|refine And.intro ?_ ?_)
 ·have hr:∀(n:Int) (l:UInt8),Zc0 Heap.nil (Z96 n l) (exA n l).enc:=by
   intro n l;refine⟨Vr,Vr,Vr,Vr,Vr,Vr,Zqa.sl ⟨?_,trivial⟩,trivial⟩;rw[It.Zaf]
   repeat' (first|exact Vr|exact View.nil _ _|exact trivial|refine And.intro ?_ ?_)
  exact⟨hr 2 49,hr 3 49,hr 4 50,trivial⟩
theorem Zpm:Za7 [Xfn,Xfm]:=by
 intro y hy;simp only[Zyb,Zya,or_false]at hy;rcases hy with rfl|rfl
 ·exact Z5k
 ·exact Z5j
theorem ex_Min:Tc 19 [Xfn,Xfm] (.tup [.sl 1 [[pI 0]],pI 0]):=by
 have H:=Z5g Z9n (l:=exL) Z9p (by decide) (by omega);rw[show minF exL.length (Zpk exL (exU [] []))=[0]from ex_min]at H;exact H.ofViews (Zbc (by simp only[Zyb,Zya,or_false,Zyv,forall_eq];exact⟨Zbt [0],cI _⟩)) Zpm Z2w
theorem ex_Cnt:Tc 21 [Xfn,Xfm] (pI 2):=by
 have H:=Z2t Z9n (l:=exL) Z9p (by decide) (by omega);rw[Xch]at H;exact H.ofViews (cI _) Zpm Z2w
def exR:List PV:=[.sl 1 [[pI 1],[pI 0],[pI 2]]]
theorem Xe8:Tc 11 [pI 3,.sl 1 [[pI 0]],.sl 1 [[pI 1],[pI 0],[pI 2]]] (.sl 1 [exR]):=by
 have H:=Zvr 3 [0] [1,0,2] (by decide) (by decide)
 rwa [show(PV.sl 1 (llR ((Z75 3 [0] [1,0,2]).map nz)))=.sl 1 [exR] by kernel_rfl]at H
theorem Xe9:Tc 14 [.sl 1 [[pI 0]],.sl 1 [[pI 0]]] (.bool true):=by
 have H:=Z7m [0] [0] (by decide)
 rwa [Zyf rfl]at H
theorem Xci:Tc 10 [.sl 1 [exR],.sl 1 [exR]] (.bool true):=by
 have H:=Xa4 [[1,0,2]] [[1,0,2]] (by decide) (by decide)
 rwa [Zyf rfl]at H
theorem Z9q:Tc 9 [] (.bool true):=by
 have MI:=ex_Min;have CN:=ex_Cnt;have OR:=Xe8;have LI:=Xci;unfold Xfn at MI CN;unfold Xfm Z96 Xe6 at MI CN;unfold exR at OR LI;have H:=fun n l=>Xe7 n l;unfold Z96 Xe6 at H;refine Gp (vc:=Y191) [.t 0] (cB _) Tryz.func9 ?_;simp only[Y191,YY];refine Rp0 [0] ?_;refine Rp0 [1] ?_;refine Zaw [(1,.ro [pI 0,pI 0,pI 0,pI 0,.str [],.nilsl,.nilsl,.sl 8 [[pI 1,pI 0,pI 1,pI 2,.str [49],.nilsl,.nilsl,.nilsl],[pI 1,pI 0,pI 2,pI 2,.str [50],.nilsl,.nilsl,.nilsl]]])] ⟨View.locR (z:=8) (fz:=false) rfl (by simp) ⟨Vr,Vr,Vr,Vr,Vr,Vr,Vr,View.own_all (fz:=false) rfl rfl,trivial⟩,trivial⟩ ?_;refine Zaa (Zaz [1,2,3] (by simp[Vh]) ?_);refine Sp0 ?_;refine⟨_,.inl (H 2 49),_,.inl (H 3 49),_,.inl (H 4 50),?_⟩;refine Sp0 ?_;refine⟨_,.inl MI,?_⟩;refine Sp0 ?_;refine Zaa (Zaz [0] (by simp[Vh]) ?_);refine Sp0 ?_;refine⟨_,.inl Xe9,?_⟩;refine Sp0 ?_;refine⟨_,.inl (H 2 49),_,.inl (H 3 49),_,.inl (H 4 50),?_⟩;refine Sp0 ?_;refine⟨_,.inl CN,?_⟩;refine Sp0 ?_;refine⟨_,.inl OR,?_⟩
 skip
 refine⟨_,.inl LI,?_⟩
 skip
 exact Tv0
def Y192:VC:=(ZR [Yw 3 8 0,Yv 6 (Yi 0)] (.seq (ZR [ZM 9 1,Yu 10 .gtr 9 20] (YC 10 (ZR [ZM 11 2,Yu 12 .add 11 1,ZM 6 12] .ret) .skip)) (ZR [Yv 7 (Yi 1)] (.seq (ZR [Yv 8 (Yi 0)] (.block 0 (.loop (.seq (ZR [ZM 13 8,Ya 14 7 3,Yl 15 14,Ye 16 15,Yr 17 .lss 13 16,ZM 18 17,Yg 19 7 18 true,Yg 20 2 18 true,ZG 21 (.bin .leq (.t 19) (.t 20)) 18 true,Yz 22 18 21] (YC 22 .skip (.exit 0))) (.seq (.block 1 (.region [ZM 25 7,Ya 26 7 3,Yl 27 26,ZM 28 8,Yx 29 8 27 28,Ym 30 8 29,ZM 31 1,Yu 32 .add 31 1,ZM 33 2,ZM 34 7,Yr 35 .sub 33 34,Yc 36 67 [30,32,35],Yr 37 .add 25 36,ZM 7 37] false)) (.region [ZM 23 8,Yu 24 .add 23 1,ZM 8 24] false)))))) (ZR [ZM 38 7,ZM 6 38] .ret)))))
def Y193:VC:=(ZR [Yv 2 Yf] (.seq (ZR [Yv 3 (Yi 0)] (.block 0 (.loop (.seq (ZR [ZM 4 3,ZM 5 0,Ye 6 5,Yr 7 .lss 4 6] (YC 7 .skip (.exit 0))) (.seq (.block 1 (ZR [ZM 10 0,ZM 11 3,Yx 12 4 10 11,Ya 13 0 12,Yl 14 13,ZO 15 (.len true (.t 14)),Yu 16 .gtr 15 100] (YC 16 (ZR [Yv 2 Yf] .ret) .skip))) (.region [ZM 8 3,Yu 9 .add 8 1,ZM 3 9] false)))))) (ZR [ZM 17 0,Ye 18 17,Yu 19 .leq 18 300,ZM 2 19] .ret)))
def Y194:VC:=(ZR [Yw 1 8 0,Yv 2 Yf] (.seq (ZR [Ya 4 4 1,Yl 5 4,ZO 6 (.len true (.t 5)),Yu 7 .gtr 6 30,ZM 8 7,Yb 9 5 1 8 false,Yk 10 9 8 false,ZG 11 (.call 87 [.t 10]) 8 false,Yq 12 11 8 false,Yh 13 8 12,ZM 14 13,Yb 15 6 1 14 false,Yk 16 15 14 false,ZG 17 (.call 87 [.t 16]) 14 false,Yq 18 17 14 false,Yh 19 14 18] (YC 19 (ZR [Yv 2 Yf] .ret) .skip)) (.seq (ZR [Yv 3 (Yi 0)] (.block 0 (.loop (.seq (ZR [ZM 20 3,Ya 21 7 1,Yl 22 21,Ye 23 22,Yr 24 .lss 20 23] (YC 24 .skip (.exit 0))) (.seq (.block 1 (ZR [Ya 27 7 1,Yl 28 27,ZM 29 3,Yx 30 8 28 29,Ym 31 8 30,Yc 32 68 [31],Yn 33 32] (YC 33 (ZR [Yv 2 Yf] .ret) .skip))) (.region [ZM 25 3,Yu 26 .add 25 1,ZM 3 26] false)))))) (ZR [Yv 2 Yt] .ret))))
def Y195:VC:=(ZR [Yw 2 8 0,Yv 4 Yf] (ZR [Ym 5 8 2,ZM 6 1,ZO 7 (.call 67 [.t 5,(Yi 0),.t 6]),ZM 8 1,Yr 9 .leq 7 8,ZM 10 9,Yj 11 8 2 10 true,ZG 12 (.call 68 [.t 11]) 10 true,Yz 13 10 12,ZM 4 13] .ret))
theorem Zk3:∀(d:Nat) (u:Un) (m:Int),d≤21→0≤m→m≤1000→Tc 67 [.agg u.enc,pI (21-(d:Int)),pI m] (pI (Zio d u m))
 |0,u,m,hd,h0,h1=>by
  have e:(21:Int)-((0:Nat):Int)=21:=rfl;rw[e];refine Gp (vc:=Y192) [.t 6] (cI _) Tryz.func67 ?_;simp only[Y192,YY];rw[Un.Zaf];refine Rp0 [1,2,3] ?_;refine Zaa<|Rp0 [1,2,3,10] ?_;refine Zae rfl (fun h1=>?_) (fun h1=>by cases h1);refine Rp1 [6] (w64 (n:=m+1) (by omega) (by omega)) ?_;refine Tp0 ?_;rw[Zio];exact Vr
 | d+1,u,m,hd,h0,h1=>by
  have A:=fun k m' a b=>Zk3 d k m' (by omega) a b;have hb:=fun k m' h=>Zsl d k m' h;rw[Zio];generalize Zio d=f at A hb⊢;obtain⟨D,hD⟩:∃D:Int,D=21-((d+1:Nat):Int):=⟨_,rfl⟩;have hD1:21-(d:Int)=D+1:=by omega
  rw[←hD];rw[hD1]at A;have hD0:0≤D∧D≤20:=by omega
  clear hD hD1;refine Gp (vc:=Y192) [.t 6] (cI _) Tryz.func67 ?_;simp only[Y192,YY];rw[Un.Zaf];refine Rp0 [1,2,3] ?_;refine Zaw [(1,pI D),(2,pI m),(3,.ro [pI u.act,pI u.item,pI u.n,pI u.kind,.str u.label,.sl 4 (u.head.map Wd.enc),.sl 4 (u.words.map Wd.enc),.sl 8 (u.kids.map Un.enc)])] ⟨Vr,Vr,View.loc (z:=8) (fz:=false) (es:=[[pI u.act,pI u.item,pI u.n,pI u.kind,.str u.label,.sl 4 (u.head.map Wd.enc),.sl 4 (u.words.map Wd.enc),.sl 8 (u.kids.map Un.enc)]]) rfl (by simp) rfl (by simp),trivial⟩ ?_;generalize u.head.map Wd.enc=EH;generalize u.words.map Wd.enc=EW;generalize u.kids=L;refine Zaa<|Rp0 [1,2,3,10] ?_;refine Zae rfl (fun h1=>by simp at h1;omega) (fun h1=>?_);refine Kp0 ?_;refine Rp0 [1,2,3,7] ?_;refine Zaa<|Rp0 [1,2,3,7,8] ?_;refine Zab ?_;refine Zai (σ:={ x:Nat×Nat//x.1≤L.length∧(x.1:Int)+1≤m+2 }) (fun x=>([(1,pI D),(2,pI m),(3,.ro [pI u.act,pI u.item,pI u.n,pI u.kind,.str u.label,.sl 4 EH,.sl 4 EW,.sl 8 (L.map Un.enc)]),(7,pI ((L.take x.1.1).foldl (Zcd f m) 1)),(8,pI x.1.1)],⟨[],x.1.2⟩)) (fun x=>L.length-x.1.1) ⟨(0,1),Zyw _,by simp;omega⟩ ?_ ?_ ?_
  ·exact Fn0
  ·exact Sc0
  rintro⟨⟨k,t⟩,hk,hk2⟩;simp only[]at hk hk2⊢;have hn:=Zsk (f:=f) (m:=m) (fun k m' h=>hb k m' h) (L.take k) 1 (Int.le_refl _) (by omega);generalize hN:(L.take k).foldl (Zcd f m) 1=n at hn⊢;by_cases ka:k<L.length
  ·have hc:decide ((k:Int)<(L.length:Int))=true:=by simp;omega
   by_cases kn:n≤m
   ·have hc2:decide (n≤m)=true:=by simpa using kn
    have hst:=Z3j f m ka;rw[hN]at hst;have hs2:Zcd f m n L[k]=n+f L[k] (m-n):=by unfold Zcd;rw[if_pos kn]
    rw[hs2]at hst;have hrow:(L.map Un.enc).getD k []=L[k].enc:=Zcz ka;have R:=A L[k] (m-n) (by omega) (by omega);have hr:=hb L[k] (m-n) (by omega);have hlow:=Zn7 (f:=f) (m:=m) (fun k m' h=>(hb k m' h).1) (L.take k) 1 (by rw[hN];exact kn);rw[hN,Zyh]at hlow;generalize L[k]=v at hst hs2 hrow R hr;rw[Un.Zaf]at hrow R;generalize f v (m-n)=s at hst R hr;refine Zaa<|Rp1 [1,2,3,7,8,22] (x3 @xlm hc hc2) ?_;refine Ct ?_;refine Kp0 ?_;refine Zaa<|Zab ?_;refine rp1 [1,2,3,7,8] (x4 @xlm hrow (w64 (n:=m-n) (by omega) (by omega)) (w64 (n:=D+1) (by omega) (by omega))) ?_;refine⟨by omega,?_⟩;refine Ap1 R (w64 (n:=n+s) (by omega) (by omega)) ?_;refine rp1 [1,2,3,7,8] (ad1 (a:=k) (by omega)) ?_;refine⟨⟨(k+1,t),ka,by simp only[];omega⟩,?_⟩;simp only[hst]
    all_goals exact Fn0
   ·have hc2:decide (n≤m)=false:=by simpa using kn
    have hst:L.foldl (Zcd f m) 1=n:=by
     have e:L=L.take k++L.drop k:=(List.take_append_drop _ _).symm;rw[e,List.foldl_append,hN];exact Zf0 f m _ n (by omega)
    rw[hst];refine Zaa<|Rp1 [1,2,3,7,8,22] (x3 @xlm hc hc2) ?_;refine Cf ?_;refine Ep0 ?_;exact Rv0 [6]
  ·have hc:decide ((k:Int)<(L.length:Int))=false:=by simp;omega
   obtain rfl:k=L.length:=by omega
   rw[List.take_length]at hN;rw[hN];refine Zaa<|Rp1 [1,2,3,7,8,22] (x2 @xlm hc) ?_;refine Cf ?_;refine Ep0 ?_;exact Rv0 [6]
theorem Zi1(l:List Wd)(hl:l.length≤1048576)(ht:∀w∈l,w.text.length≤1048576):Tc 87 [.sl 4 (l.map Wd.enc)] (.bool (Zhg l)):=by
 have h3:decide ((l.length:Int)≤300)=decide (l.length≤300):=decide_eq_decide.2 (by omega);refine Gp (vc:=Y193) [.t 2] (cB _) Tryz.func87 ?_;simp only[Y193,YY];refine Rp0 [0] ?_;refine Zaa<|Rp0 [0,3] ?_;refine Zab ?_;refine Zai (σ:={ k:Nat//k≤l.length∧(l.all fun w=>decide (w.text.length≤100))=((l.drop k).all fun w=>decide (w.text.length≤100)) }) (fun x=>([(0,.sl 4 (l.map Wd.enc)),(3,pI x.1)],⟨[],0⟩)) (fun x=>l.length-x.1) ⟨0,Zyw _,rfl⟩ ?_ ?_ ?_
 ·refine Sp0 ?_;rfl
 ·exact Sc0
 rintro⟨k,hk,hpre⟩;simp only[];refine Zaa<|Rp1 [0,3,7] @xlm ?_;refine Zae rfl (fun h1=>?_) (fun h1=>?_)
 ·have ka:k<l.length:=by have h1:=oT h1;omega
  have hd:l.drop k=l[k]::l.drop (k+1):=List.drop_eq_getElem_cons ka;have htk:=ht _ (Zyl ka);rw[hd,List.all_cons]at hpre;have h2:decide ((100:Int)<(l[k].text.length:Int))= !(decide (l[k].text.length≤100)):=by
   by_cases h:l[k].text.length≤100
   ·rw[Zyf h,Vf];rfl
   ·rw[Zyg h,Vt];rfl
  refine Kp0 ?_;refine Zaa<|Zab ?_;refine Zaa (Zad [0,3,16] ?_);simp only[vmL,Nat.reduceEqDiff,Nat.reduceAdd,Nat.reduceLeDiff,reduceCtorEq,Zyc,Zcz ka,Wd.enc,h2];refine Ok ?_;cases hq:decide (l[k].text.length≤100)with
  |false=>
   refine Ct ?_;refine Rp0 [2] ?_;refine Tp0 ?_;unfold Zhg;rw[hpre,hq];exact Vr
  |true=>
   rw[hq,Zyt]at hpre;refine Fp0 ?_;refine rp1 [0,3] (w64 (n:=(k:Int)+1) (by omega) (by omega)) ?_;refine⟨⟨k+1,ka,hpre⟩,?_,?_⟩
   ·rfl
   ·simp only[];omega
 ·have ka:k=l.length:=by have h1:=oF h1;omega
  subst ka;rw[List.drop_length]at hpre;refine Ep0 ?_;refine Rp1 [2] (x2 @xlm h3) ?_;refine Tp0 ?_;unfold Zhg;rw[hpre];exact Vr
theorem Z9r(u:Un):Zj5 u=(Zun u&&u.kids.all Zj5):=Zfz Zun u
theorem Zqb{u:Un}(hu:UnB u):Tc 68 [.agg u.enc] (.bool (Zj5 u)):=by
 induction hu with
 | mk u h hl hh hw hk hs ih=>
  have H:=Zi1 u.head hh.1 (fun w hw=>(hh.2 w hw).text);have W:=Zi1 u.words hw.1 (fun w hx=>(hw.2 w hx).text);have h2:decide ((30:Int)<(u.label.length:Int))= !(decide (u.label.length≤30)):=by
   by_cases h:u.label.length≤30
   ·rw[Zyf h,Vf];rfl
   ·rw[Zyg h,Vt];rfl
  rw[Z9r];have hbr:Zun u=(decide (u.label.length≤30)&&(Zhg u.head&&Zhg u.words)):=rfl;rw[hbr];refine Gp (vc:=Y194) [.t 2] (cB _) Tryz.func68 ?_;simp only[Y194,YY];rw[Un.Zaf];refine Rp0 [1] ?_;refine Zaw [(1,.ro [pI u.act,pI u.item,pI u.n,pI u.kind,.str u.label,.sl 4 (u.head.map Wd.enc),.sl 4 (u.words.map Wd.enc),.sl 8 (u.kids.map Un.enc)])] ⟨View.loc (z:=8) (fz:=false) (es:=[[pI u.act,pI u.item,pI u.n,pI u.kind,.str u.label,.sl 4 (u.head.map Wd.enc),.sl 4 (u.words.map Wd.enc),.sl 8 (u.kids.map Un.enc)]]) rfl (by simp) rfl (by simp),trivial⟩ ?_;generalize u.head.map Wd.enc=EH at H⊢;generalize u.words.map Wd.enc=EW at W⊢;generalize u.kids=L at hk hs ih⊢;generalize Zhg u.head=bh at H⊢;generalize Zhg u.words=bw at W⊢;clear hbr;refine Zaa ?_;cases d1:decide (u.label.length≤30)with
  |false=>
   rw[d1]at h2;refine Rp1 [1,19] h2 ?_;refine Ct ?_;exact Rv0 [2]
  |true=>
  rw[d1]at h2;cases bh with
  |false=>
   refine Rp1 [1,19] h2 ?_;refine Ap0 H ?_;refine Ct ?_;exact Rv0 [2]
  |true=>
  cases bw with
  |false=>
   refine Rp1 [1,19] h2 ?_;refine Ap0 H ?_;refine Ap0 W ?_;refine Ct ?_;exact Rv0 [2]
  |true=>
  refine Rp1 [1,19] h2 ?_;refine Ap0 H ?_;refine Ap0 W ?_;refine Fp0 ?_;refine Zaa<|Rp0 [1,3] ?_;refine Zab ?_;refine Zai (σ:={ x:Nat×Nat//x.1≤L.length∧L.all Zj5=(L.drop x.1).all Zj5 }) (fun x=>([(1,.ro [pI u.act,pI u.item,pI u.n,pI u.kind,.str u.label,.sl 4 EH,.sl 4 EW,.sl 8 (L.map Un.enc)]),(3,pI x.1.1)],⟨[],x.1.2⟩)) (fun x=>L.length-x.1.1) ⟨(0,1),Zyw _,rfl⟩ ?_ ?_ ?_
  ·exact Fn0
  ·exact Sc0
  rintro⟨⟨k,t⟩,hkk,hpre⟩;simp only[]at hkk hpre⊢;refine Zaa<|Rp1 [1,3,24] @xlm ?_;refine Zae rfl (fun h1=>?_) (fun h1=>?_)
  ·have ka:k<L.length:=by have h1:=oT h1;omega
   have hd:L.drop k=L[k]::L.drop (k+1):=List.drop_eq_getElem_cons ka;rw[hd,List.all_cons]at hpre;have hrow:(L.map Un.enc).getD k []=L[k].enc:=Zcz ka;have R:=ih _ (Zyl ka);generalize L[k]=v at hpre hrow R;rw[Un.Zaf]at hrow R;refine Kp0 ?_;refine Zaa<|Zab ?_;refine Rp1 [1,3,33] (x2 @xlm hrow) ?_;refine Ok ?_;refine Ap0 R ?_;cases hq:Zj5 v with
   |false=>
    refine Ct ?_;refine Rp0 [2] ?_;refine Tp0 ?_;rw[hpre,hq];exact Vr
   |true=>
    rw[hq,Zyt]at hpre;refine Fp0 ?_;refine rp1 [1,3] (ad1 (a:=k) (by omega)) ?_;refine⟨⟨(k+1,t),ka,hpre⟩,?_⟩;exact Fn0
  ·have ka:k=L.length:=by have h1:=oF h1;omega
   subst ka;rw[List.drop_length]at hpre;refine Ep0 ?_;refine Rp0 [2] ?_;refine Tp0 ?_;rw[hpre];exact Vr
theorem Zmx{u:Un}(hu:UnB u)(m:Int)(h0:0≤m)(h1:m≤1000):Tc 56 [.agg u.enc,pI m] (.bool (Z3k u m)):=by
 have S:=Zk3 21 u m (Nat.le_refl _) h0 h1;have e:(21:Int)-((21:Nat):Int)=0:=rfl;rw[e]at S;have W:=Zqb hu;unfold Z3k;refine Gp (vc:=Y195) [.t 4] (cB _) Tryz.func56 ?_;simp only[Y195,YY];rw[Un.Zaf]at S W⊢;refine Rp0 [1,2] ?_;cases d1:decide (Zio 21 u m≤m)with
 |false=>
  refine Rp0 [4] ?_;refine Zag S ?_;try simp only[vmL,Nat.reduceEqDiff,d1]
  exact Tv0
 |true=>
  refine Rp0 [4] ?_;refine Zag S ?_;try simp only[vmL,Nat.reduceEqDiff,Nat.reduceAdd,Nat.reduceLT,d1]
  refine Zag W ?_;exact Tv0
def Y196:VC:=(ZR [Yw 1 25 0,Yv 2 Yf] (.seq (ZR [Ya 8 1 1,Yl 9 8,Ye 10 9,Yu 11 .gtr 10 12,ZM 12 11,Yb 13 2 1 12 false,Yk 14 13 12 false,Yd 15 14 12 false,ZG 16 (.bin .gtr (.t 15) (Yi 12)) 12 false,Yh 17 12 16,ZM 18 17,Yb 19 13 1 18 false,Yk 20 19 18 false,Yd 21 20 18 false,ZG 22 (.bin .gtr (.t 21) (Yi 300)) 18 false,Yh 23 18 22,ZM 24 23,Yb 25 14 1 24 false,Yk 26 25 24 false,Yd 27 26 24 false,ZG 28 (.bin .gtr (.t 27) (Yi 300)) 24 false,Yh 29 24 28,ZM 30 29,Yb 31 15 1 30 false,Yk 32 31 30 false,ZG 33 (.len true (.t 32)) 30 false,ZG 34 (.bin .gtr (.t 33) (Yi 100)) 30 false,Yh 35 30 34,ZM 36 35,Yb 37 16 1 36 false,Yk 38 37 36 false,ZG 39 (.len true (.t 38)) 36 false,ZG 40 (.bin .gtr (.t 39) (Yi 100)) 36 false,Yh 41 36 40,ZM 42 41,Yb 43 17 1 42 false,Yb 44 2 43 42 false,Yk 45 44 42 false,ZG 46 (.len true (.t 45)) 42 false,ZG 47 (.bin .gtr (.t 46) (Yi 100)) 42 false,Yh 48 42 47,ZM 49 48,Yb 50 23 1 49 false,Yk 51 50 49 false,ZG 52 (.len true (.t 51)) 49 false,ZG 53 (.bin .gtr (.t 52) (Yi 100)) 49 false,Yh 54 49 53,ZM 55 54,Yb 56 24 1 55 false,Yk 57 56 55 false,Yd 58 57 55 false,ZG 59 (.bin .gtr (.t 58) (Yi 2)) 55 false,Yh 60 55 59,ZM 61 60,Yb 62 5 1 61 false,Yj 63 8 62 61 false,ZG 64 (.call 56 [.t 63,(Yi 30)]) 61 false,Yq 65 64 61 false,Yh 66 61 65] (YC 66 (ZR [Yv 2 Yf] .ret) .skip)) (.seq (ZR [Yv 3 (Yi 0)] (.block 0 (.loop (.seq (ZR [ZM 67 3,Ya 68 13 1,Yl 69 68,Ye 70 69,Yr 71 .lss 67 70] (YC 71 .skip (.exit 0))) (.seq (.block 1 (ZR [Ya 74 13 1,Yl 75 74,ZM 76 3,Yx 77 1 75 76,Yl 78 77,ZO 79 (.len true (.t 78)),Yu 80 .gtr 79 100] (YC 80 (ZR [Yv 2 Yf] .ret) .skip))) (.region [ZM 72 3,Yu 73 .add 72 1,ZM 3 73] false)))))) (.seq (ZR [Yv 4 (Yi 0)] (.block 2 (.loop (.seq (ZR [ZM 81 4,Ya 82 14 1,Yl 83 82,Ye 84 83,Yr 85 .lss 81 84] (YC 85 .skip (.exit 2))) (.seq (.block 3 (ZR [Ya 88 14 1,Yl 89 88,ZM 90 4,Yx 91 1 89 90,Yl 92 91,ZO 93 (.len true (.t 92)),Yu 94 .gtr 93 100] (YC 94 (ZR [Yv 2 Yf] .ret) .skip))) (.region [ZM 86 4,Yu 87 .add 86 1,ZM 4 87] false)))))) (.seq (ZR [Yv 5 (Yi 0)] (.block 4 (.loop (.seq (ZR [ZM 95 5,Ya 96 1 1,Yl 97 96,Ye 98 97,Yr 99 .lss 95 98] (YC 99 .skip (.exit 4))) (.seq (.block 5 (ZR [Ya 102 1 1,Yl 103 102,ZM 104 5,Yx 105 2 103 104,Ya 106 1 105,Yl 107 106,ZO 108 (.len true (.t 107)),Yu 109 .gtr 108 100] (YC 109 (ZR [Yv 2 Yf] .ret) .skip))) (.region [ZM 100 5,Yu 101 .add 100 1,ZM 5 101] false)))))) (.seq (ZR [Yv 6 (Yi 0)] (.block 6 (.loop (.seq (ZR [ZM 110 6,Ya 111 2 1,Yl 112 111,Ye 113 112,Yr 114 .lss 110 113] (YC 114 .skip (.exit 6))) (.seq (.block 7 (ZR [Ya 117 2 1,Yl 118 117,ZM 119 6,Yx 120 2 118 119,Ya 121 1 120,Yl 122 121,ZO 123 (.len true (.t 122)),Yu 124 .gtr 123 100] (YC 124 (ZR [Yv 2 Yf] .ret) .skip))) (.region [ZM 115 6,Yu 116 .add 115 1,ZM 6 116] false)))))) (.seq (ZR [Yv 7 (Yi 0)] (.block 8 (.loop (.seq (ZR [ZM 125 7,Ya 126 24 1,Yl 127 126,Ye 128 127,Yr 129 .lss 125 128] (YC 129 .skip (.exit 8))) (.seq (.block 9 (ZR [Ya 132 24 1,Yl 133 132,ZM 134 7,Yx 135 25 133 134,Ya 136 24 135,Yl 137 136,Ye 138 137,Yu 139 .gtr 138 0,ZM 140 139,Yb 141 24 1 140 true,Yk 142 141 140 true,Yg 143 7 140 true,Yy 144 25 142 143 140 true,Yb 145 24 144 140 true,Yk 146 145 140 true,ZG 147 (.iaddr 25 (.t 146) (Yi 0)) 140 true,Yb 148 24 147 140 true,Yk 149 148 140 true,Yd 150 149 140 true,ZG 151 (.bin .gtr (.t 150) (Yi 0)) 140 true,Yz 152 140 151,ZM 153 152,Yb 154 24 1 153 false,Yk 155 154 153 false,Yg 156 7 153 false,Yy 157 25 155 156 153 false,Yj 158 25 157 153 false,ZG 159 (.call 58 [.t 158]) 153 false,Yq 160 159 153 false,Yh 161 153 160] (YC 161 (ZR [Yv 2 Yf] .ret) .skip))) (.region [ZM 130 7,Yu 131 .add 130 1,ZM 7 131] false)))))) (ZR [Yv 2 Yt] .ret))))))))
theorem Xcj{x:It}(hx:ItB x):Zv0 Tryz.prog 58 [.agg x.enc] (Z8h (SmI x)):=by
 induction hx with
 |mk x h1 h2 h3 h4 h5 h6 h7 h8 h9 h10 h11 h12 h13 h14 h15 h16 h17 ih=>
 have ex:=It.Zaf x;have hu:=Zmx h6 30 (by omega) (by omega);have eu:=Un.Zaf x.unit;rw[eu]at hu;have l1:=h2.1;have l2:=h3.1;have l3:=h7.1;have l4:=h8.1;refine Zhz ?_ (by intro y hy;rw[Zyr]at hy;subst hy;exact Zah (It.closed _));refine Gn (vc:=Y196) [.t 2] Tryz.func58 ?_;simp only[Y196,YY];refine Rp1 [1] ex ?_;refine Zaa<|Zcw (σ:={ b:Bool//b=false→(x.at'.length≤12∧x.to.length≤12∧x.old.length≤300∧x.new.length≤300∧x.label.length≤100∧x.Zin.length≤100∧x.start.Zbe.length≤100∧x.Zbe.length≤100∧x.by'.length≤2)∧Z3k x.unit 30=true }) [1,66] (fun s=>[(1,.loc 0 0 0),(66,.bool s.1)]) ?_ (fun b=>?_)
 ·by_cases c0:12<x.at'.length
  ·have g0:decide ((12:Int)<(x.at'.length:Int))=true:=Vt;simp only[vmL,Nat.reduceEqDiff,Nat.reduceAdd,Nat.reduceLT,Nat.reduceLeDiff,It.strs,Zyc,g0];exact⟨⟨true,fun h=>by cases h⟩,by first|trivial|rfl⟩
  have g0:decide ((12:Int)<(x.at'.length:Int))=false:=Vf;by_cases c1:12<x.to.length
  ·have g1:decide ((12:Int)<(x.to.length:Int))=true:=Vt;simp only[vmL,Nat.reduceEqDiff,Nat.reduceAdd,Nat.reduceLT,Nat.reduceLeDiff,It.strs,Zyc,g0,g1];exact⟨⟨true,fun h=>by cases h⟩,by first|trivial|rfl⟩
  have g1:decide ((12:Int)<(x.to.length:Int))=false:=Vf;by_cases c2:300<x.old.length
  ·have g2:decide ((300:Int)<(x.old.length:Int))=true:=Vt;simp only[vmL,Nat.reduceEqDiff,Nat.reduceAdd,Nat.reduceLT,Nat.reduceLeDiff,It.strs,Zyc,g0,g1,g2];exact⟨⟨true,fun h=>by cases h⟩,by first|trivial|rfl⟩
  have g2:decide ((300:Int)<(x.old.length:Int))=false:=Vf;by_cases c3:300<x.new.length
  ·have g3:decide ((300:Int)<(x.new.length:Int))=true:=Vt;simp only[vmL,Nat.reduceEqDiff,Nat.reduceAdd,Nat.reduceLT,Nat.reduceLeDiff,It.strs,Zyc,g0,g1,g2,g3];exact⟨⟨true,fun h=>by cases h⟩,by first|trivial|rfl⟩
  have g3:decide ((300:Int)<(x.new.length:Int))=false:=Vf;by_cases c4:100<x.label.length
  ·have g4:decide ((100:Int)<(x.label.length:Int))=true:=Vt;simp only[vmL,Nat.reduceEqDiff,Nat.reduceAdd,Nat.reduceLT,Nat.reduceLeDiff,It.strs,Zyc,g0,g1,g2,g3,g4];exact⟨⟨true,fun h=>by cases h⟩,by first|trivial|rfl⟩
  have g4:decide ((100:Int)<(x.label.length:Int))=false:=Vf;by_cases c5:100<x.Zin.length
  ·have g5:decide ((100:Int)<(x.Zin.length:Int))=true:=Vt;simp only[vmL,Nat.reduceEqDiff,Nat.reduceAdd,Nat.reduceLT,Nat.reduceLeDiff,It.strs,Zyc,g0,g1,g2,g3,g4,g5];exact⟨⟨true,fun h=>by cases h⟩,by first|trivial|rfl⟩
  have g5:decide ((100:Int)<(x.Zin.length:Int))=false:=Vf;by_cases c6:100<x.start.Zbe.length
  ·have g6:decide ((100:Int)<(x.start.Zbe.length:Int))=true:=Vt;simp only[vmL,Nat.reduceEqDiff,Nat.reduceAdd,Nat.reduceLT,Nat.reduceLeDiff,It.strs,Zyc,g0,g1,g2,g3,g4,g5,g6];exact⟨⟨true,fun h=>by cases h⟩,by first|trivial|rfl⟩
  have g6:decide ((100:Int)<(x.start.Zbe.length:Int))=false:=Vf;by_cases c7:100<x.Zbe.length
  ·have g7:decide ((100:Int)<(x.Zbe.length:Int))=true:=Vt;simp only[vmL,Nat.reduceEqDiff,Nat.reduceAdd,Nat.reduceLT,Nat.reduceLeDiff,It.strs,Zyc,g0,g1,g2,g3,g4,g5,g6,g7];exact⟨⟨true,fun h=>by cases h⟩,by first|trivial|rfl⟩
  have g7:decide ((100:Int)<(x.Zbe.length:Int))=false:=Vf;by_cases c8:2<x.by'.length
  ·have g8:decide ((2:Int)<(x.by'.length:Int))=true:=Vt;simp only[vmL,Nat.reduceEqDiff,Nat.reduceAdd,Nat.reduceLT,Nat.reduceLeDiff,It.strs,Zyc,g0,g1,g2,g3,g4,g5,g6,g7,g8];exact⟨⟨true,fun h=>by cases h⟩,by first|trivial|rfl⟩
  have g8:decide ((2:Int)<(x.by'.length:Int))=false:=Vf;simp only[vmL,Nat.reduceEqDiff,Nat.reduceAdd,Nat.reduceLT,Nat.reduceLeDiff,It.strs,Zyc,g0,g1,g2,g3,g4,g5,g6,g7,g8];refine Ap0 hu ?_;exact⟨⟨!(Z3k x.unit 30),fun h=>⟨⟨by omega,by omega,by omega,by omega,by omega,by omega,by omega,by omega,by omega⟩,by simpa using h⟩⟩,by first|trivial|rfl⟩
 obtain⟨b,hb0⟩:=b;simp only[];refine Zae rfl (fun h1=>?_) (fun h1=>?_)
 ·refine Rp0 [2] ?_;refine Tp0 ?_;exact Zd6
 obtain⟨⟨q1,q2,q3,q4,q5,q6,q7,q8,q9⟩,qu⟩:=hb0 h1;refine Kp0 ?_;clear hu;refine Zaa<|Rp0 [1,3] ?_;refine Zab ?_;refine Zai (σ:={ i:Nat//i≤x.old.length∧∀(j:Nat) (hj:j<x.old.length),j<i→x.old[j].length≤100 }) (fun s=>([(1,.loc 0 0 0),(3,pI s.1)],⟨[(0,.arr false 25 [x.enc])],1⟩)) (fun s=>x.old.length-s.1) ⟨0,Zyw _,fun j _ h=>by cases h⟩ ?_ ?_ ?_
 ·exact Fn0
 ·exact Fn1 ex
 rintro⟨i,hi,hpre⟩;simp only[];refine Zaa ?_;refine Zaa (Zad [1,3,71] ?_);simp only[vmL,Nat.reduceEqDiff,Nat.reduceAdd,Nat.reduceLT,Nat.reduceLeDiff,ex,It.strs,Zyc];refine Zae rfl (fun h1=>?_) (fun h1=>?_)
 ·refine Kp0 ?_;have h1:=oT h1;have ia:i<x.old.length:=by omega
  refine Zaa<|Zab ?_;refine Zaa (Zad [1,3,80] ?_);simp only[vmL,Nat.reduceEqDiff,Nat.reduceAdd,Nat.reduceLT,Nat.reduceLeDiff,ex,It.strs,Zyc,Z8j ia];refine Ok ?_;refine Zae rfl (fun h2=>?_) (fun h2=>?_)
  ·refine Rp0 [2] ?_;refine Tp0 ?_;exact Zd6
  refine Kp0 ?_;refine rp1 [1,3] (w64 (n:=(i:Int)+1) (by omega) (by omega)) ?_;refine⟨⟨i+1,by omega,fun j hj hji=>?_⟩,?_⟩
  ·by_cases e:j=i
   ·subst e;have h2:=oF h2;omega
   ·exact hpre j hj (by omega)
  exact Fn1 ex
 have h1:=oF h1;refine Ep0 ?_;have qo:∀s∈x.old,s.length≤100:=fun s hs=>by
  obtain⟨j,hj,rfl⟩:=List.getElem_of_mem hs;exact hpre j hj (by omega)
 clear h1 hi hpre;refine Zaa<|Rp0 [1,4] ?_;refine Zab ?_;refine Zai (σ:={ i:Nat//i≤x.new.length∧∀(j:Nat) (hj:j<x.new.length),j<i→x.new[j].length≤100 }) (fun s=>([(1,.loc 0 0 0),(4,pI s.1)],⟨[(0,.arr false 25 [x.enc])],1⟩)) (fun s=>x.new.length-s.1) ⟨0,Zyw _,fun j _ h=>by cases h⟩ ?_ ?_ ?_
 ·exact Fn0
 ·exact Fn1 ex
 rintro⟨i,hi,hpre⟩;simp only[];refine Zaa ?_;refine Zaa (Zad [1,4,85] ?_);simp only[vmL,Nat.reduceEqDiff,Nat.reduceAdd,Nat.reduceLT,Nat.reduceLeDiff,ex,It.strs,Zyc];refine Zae rfl (fun h1=>?_) (fun h1=>?_)
 ·refine Kp0 ?_;have h1:=oT h1;have ia:i<x.new.length:=by omega
  refine Zaa<|Zab ?_;refine Zaa (Zad [1,4,94] ?_);simp only[vmL,Nat.reduceEqDiff,Nat.reduceAdd,Nat.reduceLT,Nat.reduceLeDiff,ex,It.strs,Zyc,Z8j ia];refine Ok ?_;refine Zae rfl (fun h2=>?_) (fun h2=>?_)
  ·refine Rp0 [2] ?_;refine Tp0 ?_;exact Zd6
  refine Kp0 ?_;refine rp1 [1,4] (w64 (n:=(i:Int)+1) (by omega) (by omega)) ?_;refine⟨⟨i+1,by omega,fun j hj hji=>?_⟩,?_⟩
  ·by_cases e:j=i
   ·subst e;have h2:=oF h2;omega
   ·exact hpre j hj (by omega)
  exact Fn1 ex
 have h1:=oF h1;refine Ep0 ?_;have qn:∀s∈x.new,s.length≤100:=fun s hs=>by
  obtain⟨j,hj,rfl⟩:=List.getElem_of_mem hs;exact hpre j hj (by omega)
 clear h1 hi hpre;refine Zaa<|Rp0 [1,5] ?_;refine Zab ?_;refine Zai (σ:={ i:Nat//i≤x.at'.length∧∀(j:Nat) (hj:j<x.at'.length),j<i→x.at'[j].label.length≤100 }) (fun s=>([(1,.loc 0 0 0),(5,pI s.1)],⟨[(0,.arr false 25 [x.enc])],1⟩)) (fun s=>x.at'.length-s.1) ⟨0,Zyw _,fun j _ h=>by cases h⟩ ?_ ?_ ?_
 ·exact Fn0
 ·exact Fn1 ex
 rintro⟨i,hi,hpre⟩;simp only[];refine Zaa ?_;refine Zaa (Zad [1,5,99] ?_);simp only[vmL,Nat.reduceEqDiff,Nat.reduceAdd,Nat.reduceLT,Nat.reduceLeDiff,ex,It.strs,Zyc];refine Zae rfl (fun h1=>?_) (fun h1=>?_)
 ·refine Kp0 ?_;have h1:=oT h1;have ia:i<x.at'.length:=by omega
  refine Zaa<|Zab ?_;refine Zaa (Zad [1,5,109] ?_);simp only[vmL,Nat.reduceEqDiff,Nat.reduceAdd,Nat.reduceLT,Nat.reduceLeDiff,ex,It.strs,Zyc,Zcz ia,St.enc];refine Ok ?_;refine Zae rfl (fun h2=>?_) (fun h2=>?_)
  ·refine Rp0 [2] ?_;refine Tp0 ?_;exact Zd6
  refine Kp0 ?_;refine rp1 [1,5] (w64 (n:=(i:Int)+1) (by omega) (by omega)) ?_;refine⟨⟨i+1,by omega,fun j hj hji=>?_⟩,?_⟩
  ·by_cases e:j=i
   ·subst e;have h2:=oF h2;omega
   ·exact hpre j hj (by omega)
  exact Fn1 ex
 have h1:=oF h1;refine Ep0 ?_;have qa:∀s∈x.at',s.label.length≤100:=fun s hs=>by
  obtain⟨j,hj,rfl⟩:=List.getElem_of_mem hs;exact hpre j hj (by omega)
 clear h1 hi hpre;refine Zaa<|Rp0 [1,6] ?_;refine Zab ?_;refine Zai (σ:={ i:Nat//i≤x.to.length∧∀(j:Nat) (hj:j<x.to.length),j<i→x.to[j].label.length≤100 }) (fun s=>([(1,.loc 0 0 0),(6,pI s.1)],⟨[(0,.arr false 25 [x.enc])],1⟩)) (fun s=>x.to.length-s.1) ⟨0,Zyw _,fun j _ h=>by cases h⟩ ?_ ?_ ?_
 ·exact Fn0
 ·exact Fn1 ex
 rintro⟨i,hi,hpre⟩;simp only[];refine Zaa ?_;refine Zaa (Zad [1,6,114] ?_);simp only[vmL,Nat.reduceEqDiff,Nat.reduceAdd,Nat.reduceLT,Nat.reduceLeDiff,ex,It.strs,Zyc];refine Zae rfl (fun h1=>?_) (fun h1=>?_)
 ·refine Kp0 ?_;have h1:=oT h1;have ia:i<x.to.length:=by omega
  refine Zaa<|Zab ?_;refine Zaa (Zad [1,6,124] ?_);simp only[vmL,Nat.reduceEqDiff,Nat.reduceAdd,Nat.reduceLT,Nat.reduceLeDiff,ex,It.strs,Zyc,Zcz ia,St.enc];refine Ok ?_;refine Zae rfl (fun h2=>?_) (fun h2=>?_)
  ·refine Rp0 [2] ?_;refine Tp0 ?_;exact Zd6
  refine Kp0 ?_;refine rp1 [1,6] (w64 (n:=(i:Int)+1) (by omega) (by omega)) ?_;refine⟨⟨i+1,by omega,fun j hj hji=>?_⟩,?_⟩
  ·by_cases e:j=i
   ·subst e;have h2:=oF h2;omega
   ·exact hpre j hj (by omega)
  exact Fn1 ex
 have h1:=oF h1;refine Ep0 ?_;have qt:∀s∈x.to,s.label.length≤100:=fun s hs=>by
  obtain⟨j,hj,rfl⟩:=List.getElem_of_mem hs;exact hpre j hj (by omega)
 clear h1 hi hpre;refine Zaa<|Rp0 [1,7] ?_;refine Zab ?_;refine Zai (σ:={ i:Nat//i≤x.by'.length }) (fun s=>([(1,.loc 0 0 0),(7,pI s.1)],⟨[(0,.arr false 25 [x.enc])],1⟩)) (fun s=>x.by'.length-s.1) ⟨0,Zyw _⟩ ?_ ?_ ?_
 ·exact Fn0
 ·exact Fn1 ex
 rintro⟨i,hi⟩;simp only[];refine Zaa<|Rp1 [1,7,129] (x2 ex @xlm) ?_;refine Zae rfl (fun h1=>?_) (fun h1=>?_)
 ·refine Kp0 ?_;have h1:=oT h1;have ia:i<x.by'.length:=by omega
  have hrec:=ih _ (Zyl ia);have ry:=Zcz (enc:=It.enc) ia;generalize x.by'[i]=y at hrec ry;refine Zaa<|Zab ?_;refine Zcw (σ:=Bool) [1,7,161] (fun s=>[(1,.loc 0 0 0),(7,pI i),(161,.bool s)]) ?_ (fun b=>?_)
  ·cases hb:y.by' with
   |nil=>
    have e2:decide (0<(y.by'.length:Int))=false:=by rw[hb];rfl
    simp only[vmL,Nat.reduceEqDiff,Nat.reduceLT,ex,Zyc,ry,Xeq,Z8i,Znm,Zkt,e2];refine Ok ?_;refine Zks hrec ?_;rintro p ⟨b1,rfl,_⟩;refine Sp0 ?_;exact⟨!b1,by first|trivial|rfl⟩
   | cons z r=>
    have e2:decide (0<(y.by'.length:Int))=true:=by rw[hb,Zx3];simp
    have e3:(0:Int)<(y.by'.length:Int):=by simpa using e2
    have e4:(y.by'.map It.enc).getD 0 []=z.enc:=by rw[hb];rfl
    cases e5:decide (0<(z.by'.length:Int))with
    |true=>
     simp only[vmL,Nat.reduceEqDiff,Nat.reduceLT,Int.reduceToNat,ex,Zyc,ry,Xeq,Z8i,Znm,Zkt,e2,e4,e5];refine Ok ?_;exact⟨true,by first|trivial|rfl⟩
    |false=>
     simp only[vmL,Nat.reduceEqDiff,Nat.reduceLT,Int.reduceToNat,ex,Zyc,ry,Xeq,Z8i,Znm,Zkt,e2,e4,e5];refine Ok ?_;refine Zks hrec ?_;rintro p ⟨b1,rfl,_⟩;refine Sp0 ?_;exact⟨!b1,by first|trivial|rfl⟩
  refine Zae rfl (fun h2=>?_) (fun h2=>?_)
  ·refine Rp0 [2] ?_;refine Tp0 ?_;exact Zd6
  refine Kp0 ?_;refine rp1 [1,7] (w64 (n:=(i:Int)+1) (by omega) (by omega)) ?_;refine⟨⟨i+1,by omega⟩,?_⟩;exact Fn1 ex
 ·refine Ep0 ?_;refine Rp0 [2] ?_;refine Tp0 ?_;exact Zpe ⟨q1,q2,q3,q4,q5,q6,q7,q8,q9,qu,qo,qn,qa,qt⟩
end Go.Proofs.w
namespace Go.VM
open Go
structure Sm38 (u:Un) (l:List Ac) (m:Nat):Prop where
 few:Z3k u 60=true
 stands:Zhj u=true
 len:l.length≤m
 acts:∀a∈l,SmA a∧a.items.length≤3
theorem Z9s(a:Ac):a.enc.length=7:=rfl
theorem Z2x(a:Ac):List.take 7 a.enc=a.enc:=rfl
theorem Ac.clo(a:Ac):∀y∈a.enc,Closed y:=by
 intro y hy;simp only[Z2j,Zyb,Zya,or_false]at hy;rcases hy with rfl|rfl|rfl|rfl|rfl|rfl|rfl<;>first|exact cI _|exact cS _|exact Zaj (fun x _=>It.closed x)
theorem cl_acs(l:List Ac):Closed (.sl 7 (l.map Ac.enc)):=Zaj fun a _=>Ac.clo a
theorem Xfa(u:Un):Closed (.agg u.enc):=Zah (Un.closed u)
end Go.VM
namespace Go.Proofs.w
open Go Go.VM
def Y197:VC:=(ZR [Yw 1 7 0,Yv 2 Yf] (.seq (ZR [Ya 4 6 1,Yl 5 4,Ye 6 5,Yu 7 .gtr 6 40,ZM 8 7,Yb 9 1 1 8 false,Yk 10 9 8 false,ZG 11 (.len true (.t 10)) 8 false,ZG 12 (.bin .gtr (.t 11) (Yi 300)) 8 false,Yh 13 8 12,ZM 14 13,Yb 15 3 1 14 false,Yb 16 2 15 14 false,Yk 17 16 14 false,ZG 18 (.len true (.t 17)) 14 false,ZG 19 (.bin .gtr (.t 18) (Yi 100)) 14 false,Yh 20 14 19] (YC 20 (ZR [Yv 2 Yf] .ret) .skip)) (.seq (ZR [Yv 3 (Yi 0)] (.block 0 (.loop (.seq (ZR [ZM 21 3,Ya 22 6 1,Yl 23 22,Ye 24 23,Yr 25 .lss 21 24] (YC 25 .skip (.exit 0))) (.seq (.block 1 (ZR [Ya 28 6 1,Yl 29 28,ZM 30 3,Yx 31 25 29 30,Ym 32 25 31,Yc 33 58 [32],Yn 34 33] (YC 34 (ZR [Yv 2 Yf] .ret) .skip))) (.region [ZM 26 3,Yu 27 .add 26 1,ZM 3 27] false)))))) (ZR [Yv 2 Yt] .ret))))
def Y198:VC:=(ZR [Yw 3 8 0,Yv 6 Yf] (.seq (ZR [Ym 8 8 3,ZO 9 (.call 56 [.t 8,(Yi 60)]),Yn 10 9,ZM 11 10,Yg 12 1 11 false,Yd 13 12 11 false,Yg 14 2 11 false,ZG 15 (.bin .gtr (.t 13) (.t 14)) 11 false,Yh 16 11 15] (YC 16 (ZR [Yv 6 Yf] .ret) .skip)) (.seq (ZR [Yv 7 (Yi 0)] (.block 0 (.loop (.seq (ZR [ZM 17 7,ZM 18 1,Ye 19 18,Yr 20 .lss 17 19] (YC 20 .skip (.exit 0))) (.seq (.block 1 (ZR [ZM 23 1,ZM 24 7,Yx 25 28 23 24,Ya 26 3 25,Ym 27 25 26,ZO 28 (.bslice 25 1 YI [(0,(.t 27))]),ZO 29 (.build [Yo,(.str []),Yo,Yo,Yo,(.str []),.nilsl] [(6,(1,(.t 28)))]),Yc 30 40 [29],Yn 31 30] (YC 31 (ZR [Yv 6 Yf] .ret) .skip))) (.region [ZM 21 7,Yu 22 .add 21 1,ZM 7 22] false)))))) (ZR [Yv 6 Yt] .ret))))
def Y199:VC:=(ZR [Yw 1 8 0,Yv 2 Yf] (ZR [Ym 3 8 1,Yc 4 57 [3],ZM 2 4] .ret))
def Y200:VC:=(ZR [Yw 3 8 0,Yv 6 Yf] (.seq (ZR [Ym 8 8 3,ZO 9 (.call 38 [.t 8,(.c .nilsl),(Yi 0)]),Yn 10 9,ZM 11 10,Yj 12 8 3 11 false,ZG 13 (.call 39 [.t 12]) 11 false,Yq 14 13 11 false,Yh 15 11 14,ZM 16 15,Yg 17 1 16 false,Yd 18 17 16 false,Yg 19 2 16 false,ZG 20 (.bin .gtr (.t 18) (.t 19)) 16 false,Yh 21 16 20] (YC 21 (ZR [Yv 6 Yf] .ret) .skip)) (.seq (ZR [Yv 7 (Yi 0)] (.block 0 (.loop (.seq (ZR [ZM 22 7,ZM 23 1,Ye 24 23,Yr 25 .lss 22 24] (YC 25 .skip (.exit 0))) (.seq (.block 1 (ZR [ZM 28 1,ZM 29 7,Yx 30 7 28 29,Ym 31 7 30,Yc 32 40 [31],Yn 33 32,ZM 34 33,Yg 35 1 34 false,Yg 36 7 34 false,Yy 37 7 35 36 34 false,Yb 38 6 37 34 false,Yk 39 38 34 false,Yd 40 39 34 false,ZG 41 (.bin .gtr (.t 40) (Yi 3)) 34 false,Yh 42 34 41] (YC 42 (ZR [Yv 6 Yf] .ret) .skip))) (.region [ZM 26 7,Yu 27 .add 26 1,ZM 7 27] false)))))) (ZR [Yv 6 Yt] .ret))))
theorem Xck{a:Ac}(ha:AcB a):Zv0 Tryz.prog 40 [.agg a.enc] (Z8h (SmA a)):=by
 have ea:=Z2j a;have l1:=ha.2.2.2.2.1;refine Zhz ?_ (by intro y hy;rw[Zyr]at hy;subst hy;exact Zah (Ac.clo _));refine Gn (vc:=Y197) [.t 2] Tryz.func40 ?_;simp only[Y197,YY];refine Rp1 [1] ea ?_;refine Zaa<|Zcw (σ:={ b:Bool//b=false→(a.items.length≤40∧a.title.length≤300∧a.start.Zbe.length≤100) }) [1,20] (fun s=>[(1,.loc 0 0 0),(20,.bool s.1)]) ?_ (fun b=>?_)
 ·by_cases c0:40<a.items.length
  ·have g0:decide ((40:Int)<(a.items.length:Int))=true:=Vt;simp only[vmL,Nat.reduceEqDiff,Nat.reduceLT,Zyc,g0];exact⟨⟨true,fun h=>by cases h⟩,by first|trivial|rfl⟩
  have g0:decide ((40:Int)<(a.items.length:Int))=false:=Vf;by_cases c1:300<a.title.length
  ·have g1:decide ((300:Int)<(a.title.length:Int))=true:=Vt;simp only[vmL,Nat.reduceEqDiff,Nat.reduceAdd,Nat.reduceLT,Nat.reduceLeDiff,Zyc,g0,g1];exact⟨⟨true,fun h=>by cases h⟩,by first|trivial|rfl⟩
  have g1:decide ((300:Int)<(a.title.length:Int))=false:=Vf;by_cases c2:100<a.start.Zbe.length
  ·have g2:decide ((100:Int)<(a.start.Zbe.length:Int))=true:=Vt;simp only[vmL,Nat.reduceEqDiff,Nat.reduceAdd,Nat.reduceLT,Nat.reduceLeDiff,Zyc,g0,g1,g2];exact⟨⟨true,fun h=>by cases h⟩,by first|trivial|rfl⟩
  have g2:decide ((100:Int)<(a.start.Zbe.length:Int))=false:=Vf;simp only[vmL,Nat.reduceEqDiff,Nat.reduceAdd,Nat.reduceLT,Nat.reduceLeDiff,Zyc,g0,g1,g2];exact⟨⟨false,fun _=>⟨by omega,by omega,by omega⟩⟩,by first|trivial|rfl⟩
 obtain⟨b,hb0⟩:=b;simp only[];refine Zae rfl (fun h1=>?_) (fun h1=>?_)
 ·refine Rp0 [2] ?_;refine Tp0 ?_;exact Zd6
 obtain⟨q1,q2,q3⟩:=hb0 h1;refine Kp0 ?_;refine Zaa<|Rp0 [1,3] ?_;refine Zab ?_;refine Zai (σ:={ i:Nat//i≤a.items.length∧∀(j:Nat) (hj:j<a.items.length),j<i→SmI a.items[j] }) (fun s=>([(1,.loc 0 0 0),(3,pI s.1)],⟨[(0,.arr false 7 [a.enc])],1⟩)) (fun s=>a.items.length-s.1) ⟨0,Zyw _,fun j _ h=>by cases h⟩ ?_ ?_ ?_
 ·exact Fn0
 ·exact Fn1 ea
 rintro⟨i,hi,hpre⟩;simp only[];refine Zaa<|Rp1 [1,3,25] (x2 ea @xlm) ?_;refine Zae rfl (fun h1=>?_) (fun h1=>?_)
 ·have ia:i<a.items.length:=by have h1:=oT h1;omega
  have H:=Xcj (ha.2.2.2.2.2 _ (Zyl ia));have hrow:=Zcz (enc:=It.enc) ia;generalize hx:a.items[i]=x at H hrow;refine Kp0 ?_;refine Zaa<|Zab ?_;refine Rp1 [1,3,34] (x5 ea @xlm hrow @Znm @Zkt) ?_;refine Ok ?_;refine Zks H ?_;rintro p ⟨b1,rfl,hb1⟩;refine Sp0 ?_;cases b1 with
  |false=>
   refine Ct ?_;refine Rp0 [2] ?_;refine Tp0 ?_;exact Zd6
  | true=>
   refine Fp0 ?_;refine rp1 [1,3] (ad1 (a:=i) (by omega)) ?_;refine⟨⟨i+1,ia,fun j hj hji=>?_⟩,?_⟩
   ·by_cases e:j=i
    ·subst e;rw[hx];exact hb1 rfl
    ·exact hpre j hj (by omega)
   ·exact Fn1 ea
 ·have h1:=oF h1;refine Ep0 ?_;refine Rp0 [2] ?_;refine Tp0 ?_;refine Zpe ⟨q2,q3,fun x hx=>?_⟩;obtain⟨j,hj,rfl⟩:=List.getElem_of_mem hx;exact hpre j hj (by omega)
theorem Xcl{u:Un}(hu:UnB u):Tc 38 [.agg u.enc,.nilsl,pI 0] (.bool (Z3k u 60)):=by
 have H:=Zmx hu 60 (by omega) (by omega);refine Zac ?_ (cB _) (CL3 (Xfa u) ((by intro g v hv;cases hv;exact .nilsl)) (cI _));rw[Un.Zaf]at H⊢;refine Gn (vc:=Y198) [.t 6] Tryz.func38 ?_;simp only[Y198,YY];refine Rp0 [1,2,3] ?_;refine Zaa<|Rp0 [1,16] ?_;refine Zag H ?_;cases hb:Z3k u 60 with
 |false=>
  refine Sp0 ?_;refine Ct ?_;exact Rv0 [6]
 |true=>
  refine Sp0 ?_;refine Fp0 ?_;refine Zaa<|Rp0 [1,7] ?_;refine Zab ?_;refine Zai (σ:=Unit) (fun _=>([(1,.nilsl),(7,pI 0)],⟨[],1⟩)) (fun _=>0) () ?_ ?_ ?_
  ·exact Fn0
  ·exact Fn0
  intro _;simp only[];refine Zaa<|Rp0 [1,7,20] ?_;refine Cf ?_;refine Ep0 ?_;exact Rv0 [6]
theorem Z9t{u:Un}(hu:SmT u)(hn:(unitsT u).length≤1000):Tc 39 [.agg u.enc] (.bool (Zhj u)):=by
 have H:=Zok hu hn;refine Zac ?_ (cB _) (by intro y hy;rw[Zyr]at hy;subst hy;exact Xfa u);rw[Un.Zaf]at H⊢;refine Gn (vc:=Y199) [.t 2] Tryz.func39 ?_;simp only[Y199,YY];refine Rp0 [1] ?_;refine Rp0 [2] ?_;refine Zag H ?_;exact Tv0
theorem Xcm{u:Un}(hu:UnB u){l:List Ac}(hl:l.length≤1048576)(hs:∀a∈l,AcB a)(m:Nat)(hm:m≤100):Zv0 Tryz.prog 17 [.agg u.enc,.sl 7 (l.map Ac.enc),pI m] (Z8h (Sm38 u l m)):=by
 have H1:=Xcl hu;refine Zhz ?_ (CL3 (Xfa u) (cl_acs l) (cI _));have H2:=fun(h:Z3k u 60=true)=>Z9t (Zhh hu (by omega) (by omega) h).1 (by have:=(Zhh hu (by omega) (by omega) h).2;omega);rw[Un.Zaf]at H1 H2⊢;refine Gn (vc:=Y200) [.t 6] Tryz.func17 ?_;simp only[Y200,YY];refine Rp0 [1,2,3] ?_;refine Zaa<|Zcw (σ:={ b:Bool//b=false→(Z3k u 60=true∧Zhj u=true∧l.length≤m) }) [1,21] (fun s=>[(1,.sl 7 (l.map Ac.enc)),(21,.bool s.1)]) ?_ (fun b=>?_)
 ·refine Sp0 ?_;refine Zag H1 ?_;cases hb:Z3k u 60 with
  |false=>
   refine Sp0 ?_;exact⟨⟨true,fun h=>by cases h⟩,by first|trivial|rfl⟩
  | true=>
   refine Sp0 ?_;refine Zag (H2 hb) ?_;cases hb2:Zhj u with
   |false=>
    refine Sp0 ?_;exact⟨⟨true,fun h=>by cases h⟩,by first|trivial|rfl⟩
   |true=>
    refine Sp1 @xlm ?_;exact⟨⟨decide ((m:Int)<(l.length:Int)),fun h=>⟨rfl,rfl,by have:=of_decide_eq_false h;omega⟩⟩,by first|trivial|rfl⟩
 obtain⟨b,hb0⟩:=b;simp only[];refine Zae rfl (fun h1=>?_) (fun h1=>?_)
 ·refine Rp0 [6] ?_;refine Tp0 ?_;exact Zd6
 obtain⟨q1,q2,q3⟩:=hb0 h1;refine Kp0 ?_;refine Zaa<|Rp0 [1,7] ?_;refine Zab ?_;refine Zai (σ:={ i:Nat//i≤l.length∧∀(j:Nat) (hj:j<l.length),j<i→SmA l[j]∧l[j].items.length≤3 }) (fun s=>([(1,.sl 7 (l.map Ac.enc)),(7,pI s.1)],⟨[],1⟩)) (fun s=>l.length-s.1) ⟨0,Zyw _,fun j _ h=>by cases h⟩ ?_ ?_ ?_
 ·exact Fn0
 ·exact Fn0
 rintro⟨i,hi,hpre⟩;simp only[];refine Zaa<|Rp1 [1,7,25] @xlm ?_;refine Zae rfl (fun h1=>?_) (fun h1=>?_)
 ·have ia:i<l.length:=by have h1:=oT h1;omega
  have H:=Xck (hs _ (Zyl ia));have hrow:=Zcz (enc:=Ac.enc) ia;generalize hx:l[i]=x at H hrow;have ex:=Z2j x;refine Kp0 ?_;refine Zaa<|Zab ?_;refine Zcw (σ:={ b:Bool//b=false→(SmA x∧x.items.length≤3) }) [1,7,42] (fun s=>[(1,.sl 7 (l.map Ac.enc)),(7,pI i),(42,.bool s.1)]) ?_ (fun b=>?_)
  ·refine Sp1 (x4 @xlm hrow @Z9s @Z2x) ?_;refine Ok ?_;refine Zks H ?_;rintro p ⟨b1,rfl,hb1⟩;cases b1 with
   |false=>
    refine Sp0 ?_;exact⟨⟨true,fun h=>by cases h⟩,by first|trivial|rfl⟩
   |true=>
    simp only[vmL,Nat.reduceEqDiff,Zyc,hrow,Z9s,Z2x,ex];refine Ok ?_;exact⟨⟨decide ((3:Int)<(x.items.length:Int)),fun h=>⟨hb1 rfl,by have:=of_decide_eq_false h;omega⟩⟩,by first|trivial|rfl⟩
  obtain⟨b,hb0⟩:=b;simp only[];refine Zae rfl (fun h2=>?_) (fun h2=>?_)
  ·refine Rp0 [6] ?_;refine Tp0 ?_;exact Zd6
  refine Kp0 ?_;refine rp1 [1,7] (ad1 (a:=i) (by omega)) ?_;refine⟨⟨i+1,ia,fun j hj hji=>?_⟩,?_⟩
  ·by_cases e:j=i
   ·subst e;rw[hx];exact hb0 h2
   ·exact hpre j hj (by omega)
  ·exact Fn0
 ·have h1:=oF h1;refine Ep0 ?_;refine Rp0 [6] ?_;refine Tp0 ?_;refine Zpe ⟨q1,q2,q3,fun x hx=>?_⟩;obtain⟨j,hj,rfl⟩:=List.getElem_of_mem hx;exact hpre j hj (by omega)
end Go.Proofs.w
namespace Go.VM
open Go Go.Proofs.w
theorem Zwq{u:Un}(h:SmT u)(hs:Zhj u=true):(Zbd u).Nodup:=by
 unfold Zhj at hs;rw[Zx4]at hs;obtain⟨hv,hn⟩:=hs;unfold Zel at hv;simp only[Zx4]at hv;obtain⟨hr,_,_,hi⟩:=hv;unfold Xd0 at hi;rw[Bool.or_eq_true,Zx4,Zx3]at hi;rcases hi with hi|hi
 ·have hk:=Zzk h hr;unfold Zml at hn;rw[List.all_eq_true]at hi hn;have hz:unitsL u.kids=[]:=by
   cases e:unitsL u.kids with
   |nil=>rfl
   |cons x r=>
    have hx:x∈unitsL u.kids:=by rw[e];exact List.mem_cons_self
    have hx2:x∈unitsT u:=by rw[Zao];exact Zx7 _ hx
    have h1:=hn x hx2;rw[hi (idU x) (List.mem_map_of_mem hx2),Bool.not_true,Bool.or_false,beq_iff_eq]at h1;exact absurd h1 (hk x hx)
  rw[Zlq,hz];simp
 ·exact hi.2
theorem Sm38.good{u:Un}{l:List Ac}{m:Nat}(h:Sm38 u l m)(hu:UnB u):Good 60 u:=by
 obtain⟨h1,h2⟩:=Zhh hu (by omega) (by omega) h.few;exact⟨h1,Zwq h1 h.stands,by omega⟩
theorem Sm38.ac{u:Un}{l:List Ac}{m:Nat}(h:Sm38 u l m)(hl:∀a∈l,AcB a):∀a∈l,SmAc a:=fun a ha=>⟨(h.acts a ha).1,hl a ha,(h.acts a ha).2⟩
end Go.VM
