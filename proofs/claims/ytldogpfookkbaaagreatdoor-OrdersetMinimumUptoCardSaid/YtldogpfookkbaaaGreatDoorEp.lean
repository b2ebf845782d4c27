import Derived.Test.YtldogpfookkbaaaGreatDoorVmAy
import Derived.Test.YtldogpfookkbaaaGreatDoorW4
import Derived.Shelf.Spec.SlicesInsertGrow
set_option linter.all false
set_option maxRecDepth 20000
set_option maxHeartbeats 0
namespace Go.VM
open Go
def Zfh(w:Wd):Wd:=⟨w.text,0,0,0⟩
mutual
def strpU:Un→Un
 | .mk _ _ _ k l h w ks=> .mk 0 0 0 k l (h.map Zfh) (w.map Zfh) (strpL ks)
def strpL:List Un→List Un
 | []=>[]
 |u::r=>strpU u::strpL r
end
theorem Zu3:∀l:List Un,strpL l=l.map strpU
 | []=>rfl
 |u::r=>by simp only[strpL,List.map_cons,Zu3 r]
theorem Zsr(u:Un):strpU u=.mk 0 0 0 u.kind u.label (u.head.map Zfh) (u.words.map Zfh) (u.kids.map strpU):=by
 cases u;simp only[strpU,Zu3];rfl
theorem Zom{α:Type}(A:List α)(x:α)(B:List α)(d:α){k:Nat}(h:A.length=k):(A++x::B).getD k d=x:=by
 subst h;simp[Zx1]
theorem Zon{α:Type}(A:List α)(x y:α)(B:List α){k:Nat}(h:A.length=k):(A++x::B).set k y=A++y::B:=by
 subst h;simp
def Z66(X:List Wd)(j:Nat):List (List PV):=((X.take j).map Zfh++X.drop j).map Wd.enc
theorem Xct(X:List Wd):Z66 X 0=X.map Wd.enc:=rfl
theorem Z10(X:List Wd)(j:Nat):(Z66 X j).length=X.length:=by unfold Z66;simp;omega
theorem Z11(X:List Wd):Z66 X X.length=(X.map Zfh).map Wd.enc:=by unfold Z66;rw[List.take_length,List.drop_length,Zyj]
theorem Z67(X:List Wd){j:Nat}(h:j<X.length):∃A B:List (List PV),A.length=j∧Z66 X j=A++[.str X[j].text,pI X[j].act,pI X[j].item,pI X[j].at']::B∧Z66 X (j+1)=A++[.str X[j].text,pI 0,pI 0,pI 0]::B:=by
 refine⟨((X.take j).map Zfh).map Wd.enc,(X.drop (j+1)).map Wd.enc,by simp;omega,?_,?_⟩
 ·unfold Z66;rw[List.drop_eq_getElem_cons h,List.map_append,List.map_cons];rfl
 ·unfold Z66;rw[List.take_add_one,Zye h,List.map_append,List.map_append,List.map_append,List.append_assoc];rfl
def Z9v(X:List Un)(j:Nat):List (List PV):=((X.take j).map strpU++X.drop j).map Un.enc
theorem midU_0(X:List Un):Z9v X 0=X.map Un.enc:=rfl
theorem Xat(X:List Un)(j:Nat):(Z9v X j).length=X.length:=by unfold Z9v;simp;omega
theorem Xau(X:List Un):Z9v X X.length=(X.map strpU).map Un.enc:=by unfold Z9v;rw[List.take_length,List.drop_length,Zyj]
theorem Xdz(X:List Un){j:Nat}(h:j<X.length):∃A B:List (List PV),A.length=j∧Z9v X j=A++X[j].enc::B∧Z9v X (j+1)=A++(strpU X[j]).enc::B:=by
 refine⟨((X.take j).map strpU).map Un.enc,(X.drop (j+1)).map Un.enc,by simp;omega,?_,?_⟩
 ·unfold Z9v;rw[List.drop_eq_getElem_cons h,List.map_append,List.map_cons]
 ·unfold Z9v;rw[List.take_add_one,Zye h,List.map_append,List.map_append,List.map_append,List.append_assoc];rfl
end Go.VM
namespace Go.Proofs.w
open Go Go.VM
def Y56:VC:=(ZR [Yw 1 8 0,ZO 2 (.alloc ZU)] (ZR [Ym 7 8 1,Yc 8 106 [7],Ys 8 1 8] (ZR [ZO 9 (.build [Yo,Yo,Yo] []),Ya 10 0 1,Ys 3 10 9] (.seq (ZR [Ya 11 5 1,Yl 12 11,Ya 13 6 1,Yl 14 13,ZO 15 (.bslice 1 2 [.nilsl] [(0,(.t 12)),(1,(.t 14))]),Ye 16 15,Yv 17 (Yi 0)] (.block 0 (.loop (ZR [Yr 18 .lss 17 16] (.seq (YC 18 .skip (.exit 0)) (.seq (.block 1 (ZR [Yx 19 1 15 17,Yl 20 19,ZM 4 20] (ZR [ZM 21 4,Ye 22 21,Yv 23 (Yi 0)] (.block 2 (.loop (ZR [Yr 24 .lss 23 22] (.seq (YC 24 .skip (.exit 2)) (.seq (.block 3 (ZR [ZM 25 23,ZM 5 25] (.region [ZM 26 4,ZM 27 5,ZO 28 (.build [Yo,Yo,Yo] []),Yx 29 4 26 27,Ya 30 1 29,Ys 3 30 28] false))) (.region [Yu 31 .add 23 1,ZM 23 31] false))))))))) (.region [Yu 32 .add 17 1,ZM 17 32] false))))))) (.seq (ZR [Ya 33 7 1,Yl 34 33,Ye 35 34,Yv 36 (Yi 0)] (.block 4 (.loop (ZR [Yr 37 .lss 36 35] (.seq (YC 37 .skip (.exit 4)) (.seq (.block 5 (ZR [ZM 38 36,ZM 6 38] (.draw2 [Ya 39 7 1,Yl 40 39,ZM 41 6,Ya 42 7 1,Yl 43 42,ZM 44 6,Yx 45 8 43 44,Ym 46 8 45,Yc 47 244 [46],Yx 48 8 40 41,Ys 8 48 47] [true,true,true,true,true,true,true,true,true,true,false]))) (.region [Yu 49 .add 36 1,ZM 36 49] false))))))) (ZR [Ym 50 8 1,Ys 8 2 50] .ret))))))
theorem Zq1{L:List (Nat×AB)}{t:Nat}(hd:HL.dec L t)(l:List Wd)(hl:l.length≤1048576):Zam Tryz.prog 168 [.sl 4 (l.map Wd.enc)] ⟨L,t⟩ (fun p h'=>p=.own (t+1) 0 l.length∧h'=⟨(t+1,.arr false 4 (l.map Wd.enc))::L,t+2⟩):=by
 have d0:HL.del L t=L:=HL.del_ge hd (Nat.le_refl t);have d1:HL.del L (t+1)=L:=HL.del_ge hd (Nat.le_succ t);refine Zam.own0 4 ?_;refine Zam.drop ?_;have qq:=N2 t (t+1);refine Gn (vc:=Y10) [.t 2] Tryz.func168 ?_;simp only[Y10,YY];refine Rp0 [0] ?_;refine Zaa<|Rp0 [0,4] ?_;intro b hb1 hb2;cases b with
 | true=>
  skip
  refine Zae rfl (fun h1=>?_) (fun h1=>by cases h1);refine Rp0 [2] ?_;refine Tp0 ?_;cases l with
  |nil=>
   exact⟨⟨L,t⟩,HOk.le_refl (h:=⟨L,t⟩) hd,.inl ⟨⟨L,t+1⟩,⟨Nat.le_succ _,(HOk.le_refl (h:=⟨L,t⟩) hd).2⟩,rfl,rfl⟩⟩
  |cons a r=>simp at hb2
 |false=>
  skip
  refine Zae rfl (fun h1=>by cases h1) (fun h1=>?_);refine Kp0 ?_;refine Rp1 [2] (x4 @xlm d0 d1 qq) ?_;refine Ok ?_;refine Tp0 ?_;refine⟨⟨(t+1,.arr false 4 (l.map Wd.enc))::L,t+2⟩,⟨Nat.le_refl _,?_⟩,.inr rfl⟩;exact(HOk.le_refl (h:=⟨(t+1,.arr false 4 (l.map Wd.enc))::L,t+2⟩) ⟨Nat.lt_succ_self (t+1),HL.dec_mono hd (by omega)⟩).2
theorem Z3p{u:Un}(hu:SmT u):Zam Tryz.prog 106 [.agg u.enc] ⟨[],2⟩ (fun p h'=>∃id t:Nat,8≤id∧id<t∧p=.agg [pI u.act,pI u.item,pI u.n,pI u.kind,.str u.label,.own 5 0 u.head.length,.own 7 0 u.words.length,.own id 0 u.kids.length]∧
  h'=⟨[(id,.arr false 8 (u.kids.map Un.enc)),(7,.arr false 4 (u.words.map Wd.enc)),(5,.arr false 4 (u.head.map Wd.enc))],t⟩):=by
 obtain⟨h,hk,hs⟩:SmU u∧u.kids.length≤1000∧∀k∈u.kids,SmT k:=by cases hu with|mk _ h hk hs=>exact⟨h,hk,hs⟩
 refine Zam.drop ?_;have H:=Zq1 (L:=[(3,.arr false 8 [[pI 0,pI 0,pI 0,pI 0,.str [],.nilsl,.nilsl,.nilsl]]),(2,.arr false 8 [[pI u.act,pI u.item,pI u.n,pI u.kind,.str u.label,.sl 4 (u.head.map Wd.enc),.sl 4 (u.words.map Wd.enc),.sl 8 (u.kids.map Un.enc)]])]) (t:=4) ⟨by omega,by omega,trivial⟩ u.head (by have:=h.head.1;omega);have W:=Zq1 (L:=[(5,.arr false 4 (u.head.map Wd.enc)),(3,.arr false 8 [[pI 0,pI 0,pI 0,pI 0,.str [],.nilsl,.nilsl,.nilsl]]),(2,.arr false 8 [[pI u.act,pI u.item,pI u.n,pI u.kind,.str u.label,.sl 4 (u.head.map Wd.enc),.sl 4 (u.words.map Wd.enc),.sl 8 (u.kids.map Un.enc)]])]) (t:=6) ⟨by omega,by omega,by omega,trivial⟩ u.words (by have:=h.words.1;omega);rw[Un.Zaf];generalize hHn:u.head.length=hn at*;generalize hWn:u.words.length=wn at*;generalize u.head.map Wd.enc=EH at*;generalize u.words.map Wd.enc=EW at*;refine Z65 (ts:=[.c 2 true 8]) Tryz.func106 (by kernel_rfl) rfl rfl (Zym rfl) ?_;refine Xdy (vx:=vcL Y12) (by kernel_rfl) ?_;simp only[Y12,vcL];refine rp0 [1,2] ?_;refine Z55 ?_;refine Xar (q:=vcQ (vcL (vcR Y12))) (late:=vcT (vcL (vcR Y12))) (by kernel_rfl) (by kernel_rfl) (by kernel_rfl) (by kernel_rfl) [2,5] [1,2] ⟨[(3,.arr false 8 [[pI 0,pI 0,pI 0,pI 0,.str [],.nilsl,.nilsl,.nilsl]]),(2,.arr false 8 [[pI u.act,pI u.item,pI u.n,pI u.kind,.str u.label,.sl 4 EH,.sl 4 EW,.sl 8 (u.kids.map Un.enc)]])],30⟩ ⟨[],30⟩ (by kernel_rfl) (by simp[Vh]) (by simp[Vh]) ?_;simp only[Y12,vcL,vcR,vcQ,vcT];simp only[vmL,Nat.reduceEqDiff,Nat.reduceAdd,Nat.reduceLT,Nat.reduceLeDiff,Zlm,Zh4,Zfy,List.contains_cons,List.contains_nil,Nat.reduceBEq,Bool.or_false];refine⟨_,_,fun K' k=>Zam.mono H (by rintro p h' ⟨rfl,rfl⟩;exact k),?_⟩;refine Sp0 ?_;refine⟨_,_,fun K' k=>Zam.mono W (by rintro p h' ⟨rfl,rfl⟩;exact k),?_⟩;simp only[vmL,Nat.reduceEqDiff,Nat.reduceAdd,Nat.reduceLT,Nat.reduceLeDiff,Zlm,Zh4,Zfy,List.contains_cons,List.contains_nil,Nat.reduceBEq,Bool.or_false];refine⟨fun h=>(by cases h),fun h=>(by cases h),?_⟩;refine AW_of (vc:=vcR (vcR Y12)) (by kernel_rfl) ?_;simp only[Y12,vcR];refine Rp0 [1,2,3] ?_;refine Zc7 3 8 rfl ?_;refine Sp0 ?_;refine Zaa<|Rp1 [1,2,3,15,16,17] @xlm ?_;generalize u.kids=L at hk hs⊢;refine Zab ?_;refine Zai (σ:={ x:Nat×Nat×Nat//x.1≤L.length∧8≤x.2.1∧x.2.1<x.2.2 }) (fun x=>([(1,.loc 2 0 0),(2,.loc 3 0 0),(3,.own x.1.2.1 0 x.1.1),(15,.sl 8 (L.map Un.enc)),(16,pI L.length),(17,pI x.1.1)],⟨[(x.1.2.1,.arr false 8 ((L.take x.1.1).map Un.enc)),(7,.arr false 4 EW),(5,.arr false 4 EH),(3,.arr false 8 [[PV.int .i64 0,PV.int .i64 0,PV.int .i64 0,PV.int .i64 0,PV.str [],PV.nilsl,PV.nilsl,PV.nilsl]]),(2,.arr false 8 [[pI u.act,pI u.item,pI u.n,pI u.kind,.str u.label,.own 5 0 hn,.own 7 0 wn,.sl 8 (L.map Un.enc)]])],x.1.2.2⟩)) (fun x=>L.length-x.1.1) ⟨(0,8,9),Zyw _,by simp,by simp⟩ ?_ ?_ ?_
 ·exact Sr0
 ·exact Sr0
 rintro⟨⟨k,id,t⟩,hkk,hid1,hid⟩;simp only[]at hkk hid1 hid⊢;have qq:=N8 2 3 5 7 id t (t+1) (t+1+1);refine Rp1 [1,2,3,15,16,17,18] qq ?_;refine Zaa<|Zae rfl (fun h1=>?_) (fun h1=>?_)
 ·have ka:k<L.length:=by have h1:=oT h1;omega
  have hrow:(L.map Un.enc).getD k []=L[k].enc:=Zcs ka;have R:=Zij (hs _ (Zyl ka));have hst:(L.take (k+1)).map Un.enc=(L.take k).map Un.enc++[L[k].enc]:=by rw[List.take_add_one,Zye ka,List.map_append];rfl
  have hB:((L.take k).map Un.enc).length=k:=by simp;omega
  generalize L[k]=v at hrow R hst;generalize(L.take k).map Un.enc=B at hst hB⊢;have tk:List.take k B=B:=Zyi (by omega);rw[Un.Zaf]at hrow R hst;refine Kp1 qq ?_;refine Zaa<|Zab ?_;refine Rp1 [1,2,3,5,15,16,17] (x3 @xlm hrow qq) ?_;refine Ok ?_;refine rp1 [1,2,3,15,16,17] qq ?_;refine Ap1 R (x3 tk hB qq) ?_;refine⟨by omega,by omega,?_⟩;refine rp1 [1,2,3,15,16,17] (x2 (ad1 (a:=k) (by omega)) qq) ?_;refine⟨⟨(k+1,t+1+1,t+1+1+1),ka,by show 8≤t+1+1;omega,Nat.lt_succ_self _⟩,?_⟩;simp only[hst];simp only[vmL,qq]
  try omega
 ·have ka:k=L.length:=by have h1:=oF h1;omega
  subst ka;rw[List.take_length];refine Ep1 qq ?_;refine Rp1 [1,2] qq ?_;refine Rp1 [2] qq ?_;refine Tp1 qq ?_;refine⟨⟨[(id,.arr false 8 (L.map Un.enc)),(7,.arr false 4 EW),(5,.arr false 4 EH)],t⟩,⟨Nat.le_refl _,?_⟩,id,t,hid1,hid,rfl,rfl⟩;simp only[vmL,Nat.reduceEqDiff,qq]
  try trivial
theorem Z12{u:Un}(hu:SmT u):Tc 244 [.agg u.enc] (.agg (strpU u).enc):=by
 induction hu with
 |mk u h hk hs ih=>
 have C:=Z3p (.mk u h hk hs);refine Zac ?_ (Zak _) (by intro y hy;rw[Zyr]at hy;subst hy;exact Zak _);rw[Zsr];have eS:(Un.mk 0 0 0 u.kind u.label (u.head.map Zfh) (u.words.map Zfh) (u.kids.map strpU)).enc=[pI 0,pI 0,pI 0,pI u.kind,.str u.label,.sl 4 ((u.head.map Zfh).map Wd.enc),.sl 4 ((u.words.map Zfh).map Wd.enc),.sl 8 ((u.kids.map strpU).map Un.enc)]:=Un.Zaf _;rw[eS];rw[Un.Zaf u]at C⊢;have hHl:=h.head.1;have hWl:=h.words.1;generalize u.head=H at*;generalize u.words=W at*;generalize u.kids=L at*;refine Gn (vc:=Y56) [.c 2 true 8] Tryz.func244 ?_;simp only[Y56,YY];refine Rp0 [1,2] ?_;refine Rp0 [1,2] ?_;refine Zam.frameL (l1:=[]) (l2:=[(1,.arr false 8 [[pI 0,pI 0,pI 0,pI 0,.str [],.nilsl,.nilsl,.nilsl]]),(0,.arr false 8 [[pI u.act,pI u.item,pI u.n,pI u.kind,.str u.label,.sl 4 (H.map Wd.enc),.sl 4 (W.map Wd.enc),.sl 8 (L.map Un.enc)]])]) (t:=2) (by simp) (by simp) (C.mono ?_);rintro p h' ⟨id,t,h8,hlt,rfl,rfl⟩;have qq:=N6 0 1 5 7 id t;refine⟨by simp;omega,by simp;omega,by simp[AB.live],?_⟩;refine Sp1 qq ?_;refine Rp1 [1,2] qq ?_;refine Zaa<|Rp1 [1,2,15,16,17] qq ?_;refine Zab ?_;refine Zai (σ:={ k:Nat//k≤2 }) (fun k=>([(1,.loc 0 0 0),(2,.loc 1 0 0),(15,.own t 0 2),(16,pI 2),(17,pI k.1)],⟨[(t,.arr false 1 [[.own 5 0 H.length],[.own 7 0 W.length]]),(id,.arr false 8 (L.map Un.enc)),(7,.arr false 4 ((if k.1≤1 then W else W.map Zfh).map Wd.enc)),(5,.arr false 4 ((if k.1≤0 then H else H.map Zfh).map Wd.enc)),(1,.arr false 8 [[pI 0,pI 0,pI 0,pI 0,.str [],.nilsl,.nilsl,.nilsl]]),(0,.arr false 8 [[pI 0,pI 0,pI 0,pI u.kind,.str u.label,.own 5 0 H.length,.own 7 0 W.length,.own id 0 L.length]])],t+1⟩)) (fun k=>2-k.1) ⟨0,by omega⟩ ?_ ?_ ?_
 ·simp only[vmL,Nat.reduceEqDiff,qq]
  repeat' (first|rfl|refine And.intro ?_ ?_)
 ·simp only[vmL,Nat.reduceEqDiff,reduceCtorEq,Zyw,if_true,qq]
  try trivial
 rintro⟨k,hk2⟩;simp only[]at hk2⊢;have hk3:k=0∨k=1∨k=2:=by omega
 rcases hk3 with rfl|rfl|rfl
 ·refine Rp1 [1,2,15,16,17,18] qq ?_;refine Zaa<|Zae (b:=true) rfl (fun h1=>?_) (fun h1=>by cases h1);refine Kp1 qq ?_;refine Zaa<|Zab ?_;refine Rp1 [1,2,4,15,16,17] qq ?_;refine Ok ?_;refine Rp1 [1,2,4,15,16,17,22,23] (x2 @xlm qq) ?_;refine Zab ?_;refine Zai (σ:={ j:Nat//j≤H.length }) (fun j=>([(1,.loc 0 0 0),(2,.loc 1 0 0),(4,.own 5 0 H.length),(15,.own t 0 2),(16,pI 2),(17,pI 0),(22,pI H.length),(23,pI j.1)],⟨[(t,.arr false 1 [[.own 5 0 H.length],[.own 7 0 W.length]]),(id,.arr false 8 (L.map Un.enc)),(7,.arr false 4 (W.map Wd.enc)),(5,.arr false 4 (Z66 H j.1)),(1,.arr false 8 [[pI 0,pI 0,pI 0,pI 0,.str [],.nilsl,.nilsl,.nilsl]]),(0,.arr false 8 [[pI 0,pI 0,pI 0,pI u.kind,.str u.label,.own 5 0 H.length,.own 7 0 W.length,.own id 0 L.length]])],t+1⟩)) (fun j=>H.length-j.1) ⟨0,Zyw _⟩ ?_ ?_ ?_
  ·simp only[vmL,Nat.reduceEqDiff,qq]
   repeat' (first|rfl|refine And.intro ?_ ?_)
  ·simp only[vmL,Nat.reduceEqDiff,reduceCtorEq,Xct,qq]
   try trivial
  rintro⟨j,hj⟩;simp only[]at hj⊢;refine Rp1 [1,2,4,15,16,17,22,23,24] qq ?_;refine Zaa<|Zae rfl (fun h2=>?_) (fun h2=>?_)
  ·have ja:j<H.length:=by have h2:=oT h2;omega
   obtain⟨PA,RB,p1,p2,p3⟩:=Z67 H ja;have hM1:=fun(x:List PV) (d:List PV)=>Zom PA x RB d p1;have hM2:=fun(x y:List PV)=>Zon PA x y RB p1;have hle:(PA++RB).length+1=H.length:=by rw[←Z10 H j,p2];simp;omega
   simp only[p2];refine Kp1 qq ?_;refine Zaa<|Zab ?_;refine Rp1 [1,2,4,5,15,16,17,22,23] qq ?_;refine rp1 [1,2,4,15,16,17,22,23] (x3 hM1 hM2 qq) ?_;refine⟨⟨by omega,by omega⟩,by rw[Zx5]at hle;rw[Zx5,Zyd];omega,?_⟩;refine rp1 [1,2,4,15,16,17,22,23] (x2 (ad1 (a:=j) (by omega)) qq) ?_;refine⟨⟨j+1,ja⟩,?_⟩;simp only[p3]
   all_goals exact Fn1 qq
  ·have ja:j=H.length:=by have h2:=oF h2;omega
   subst ja;refine Ep1 qq ?_;refine rp1 [1,2,15,16,17] qq ?_;refine⟨⟨1,by omega⟩,?_⟩;simp only[Z11,Nat.reduceLeDiff,Nat.le_refl,Zyw,↓reduceIte]
   all_goals exact Fn1 qq
 ·refine Rp1 [1,2,15,16,17,18] qq ?_;refine Zaa<|Zae (b:=true) rfl (fun h1=>?_) (fun h1=>by cases h1);refine Kp1 qq ?_;refine Zaa<|Zab ?_;refine Rp1 [1,2,4,15,16,17] qq ?_;refine Ok ?_;refine Rp1 [1,2,4,15,16,17,22,23] (x2 @xlm qq) ?_;refine Zab ?_;refine Zai (σ:={ j:Nat//j≤W.length }) (fun j=>([(1,.loc 0 0 0),(2,.loc 1 0 0),(4,.own 7 0 W.length),(15,.own t 0 2),(16,pI 2),(17,pI 1),(22,pI W.length),(23,pI j.1)],⟨[(t,.arr false 1 [[.own 5 0 H.length],[.own 7 0 W.length]]),(id,.arr false 8 (L.map Un.enc)),(7,.arr false 4 (Z66 W j.1)),(5,.arr false 4 ((H.map Zfh).map Wd.enc)),(1,.arr false 8 [[pI 0,pI 0,pI 0,pI 0,.str [],.nilsl,.nilsl,.nilsl]]),(0,.arr false 8 [[pI 0,pI 0,pI 0,pI u.kind,.str u.label,.own 5 0 H.length,.own 7 0 W.length,.own id 0 L.length]])],t+1⟩)) (fun j=>W.length-j.1) ⟨0,Zyw _⟩ ?_ ?_ ?_
  ·simp only[vmL,Nat.reduceEqDiff,qq]
   repeat' (first|rfl|refine And.intro ?_ ?_)
  ·simp only[vmL,Nat.reduceEqDiff,reduceCtorEq,Xct,qq]
   try trivial
  rintro⟨j,hj⟩;simp only[]at hj⊢;refine Rp1 [1,2,4,15,16,17,22,23,24] qq ?_;refine Zaa<|Zae rfl (fun h2=>?_) (fun h2=>?_)
  ·have ja:j<W.length:=by have h2:=oT h2;omega
   obtain⟨PA,RB,p1,p2,p3⟩:=Z67 W ja;have hM1:=fun(x:List PV) (d:List PV)=>Zom PA x RB d p1;have hM2:=fun(x y:List PV)=>Zon PA x y RB p1;have hle:(PA++RB).length+1=W.length:=by rw[←Z10 W j,p2];simp;omega
   simp only[p2];refine Kp1 qq ?_;refine Zaa<|Zab ?_;refine Rp1 [1,2,4,5,15,16,17,22,23] qq ?_;refine rp1 [1,2,4,15,16,17,22,23] (x3 hM1 hM2 qq) ?_;refine⟨⟨by omega,by omega⟩,by rw[Zx5]at hle;rw[Zx5,Zyd];omega,?_⟩;refine rp1 [1,2,4,15,16,17,22,23] (x2 (ad1 (a:=j) (by omega)) qq) ?_;refine⟨⟨j+1,ja⟩,?_⟩;simp only[p3]
   all_goals exact Fn1 qq
  ·have ja:j=W.length:=by have h2:=oF h2;omega
   subst ja;refine Ep1 qq ?_;refine rp1 [1,2,15,16,17] qq ?_;refine⟨⟨2,by omega⟩,?_⟩;simp only[Z11,Nat.reduceLeDiff,Nat.le_refl,Zyw,↓reduceIte]
   all_goals exact Fn1 qq
 refine Rp1 [1,2,15,16,17,18] qq ?_;refine Zaa<|Zae (b:=false) rfl (fun h1=>by cases h1) (fun h1=>?_);refine Ep1 qq ?_;refine Zaa<|Rp1 [1,2,35,36] qq ?_;refine Zab ?_;refine Zai (σ:={ x:Nat×Nat//x.1≤L.length∧t+1≤x.2 }) (fun x=>([(1,.loc 0 0 0),(2,.loc 1 0 0),(35,pI L.length),(36,pI x.1.1)],⟨[(id,.arr false 8 (Z9v L x.1.1)),(7,.arr false 4 ((W.map Zfh).map Wd.enc)),(5,.arr false 4 ((H.map Zfh).map Wd.enc)),(1,.arr false 8 [[pI 0,pI 0,pI 0,pI 0,.str [],.nilsl,.nilsl,.nilsl]]),(0,.arr false 8 [[pI 0,pI 0,pI 0,pI u.kind,.str u.label,.own 5 0 H.length,.own 7 0 W.length,.own id 0 L.length]])],x.1.2⟩)) (fun x=>L.length-x.1.1) ⟨(0,t+1),Zyw _,Nat.le_refl _⟩ ?_ ?_ ?_
 ·simp only[vmL,Nat.reduceEqDiff,qq]
  repeat' (first|rfl|refine And.intro ?_ ?_)
 ·simp only[vmL,Nat.reduceEqDiff,reduceIte,reduceCtorEq,midU_0,Nat.reduceLeDiff,↓reduceIte,qq]
  repeat' (first|trivial|rfl|refine And.intro ?_ ?_)
 rintro⟨⟨j,n⟩,hj,hn⟩;simp only[]at hj hn⊢;have qq:=N6 0 1 5 7 id n;refine Rp1 [1,2,35,36,37] qq ?_;refine Zaa<|Zae rfl (fun h2=>?_) (fun h2=>?_)
 ·have ja:j<L.length:=by have h2:=oT h2;omega
  have I:=ih L[j] (Zyl ja);obtain⟨PA,RB,p1,p2,p3⟩:=Xdz L ja;have hle:(PA++RB).length+1=L.length:=by rw[←Xat L j,p2];simp;omega
  generalize L[j]=v at p2 p3 I;have hv:=Un.Zaf v;have hs:=Un.Zaf (strpU v);rw[hv]at p2 I;rw[hs]at p3 I;generalize strpU v=sv at p3 I;have hM1:=fun(x:List PV) (d:List PV)=>Zom PA x RB d p1;have hM2:=fun(x y:List PV)=>Zon PA x y RB p1;simp only[p2];refine Kp1 qq ?_;refine Zaa<|Zab ?_;refine Rp1 [1,2,6,35,36] qq ?_;refine Zd5 [1,2,35,36] ?_ ?_
  ·exact Sr1 qq
  refine Sp1 (x3 hM1 hM2 qq) ?_;have hl2:∀y:List PV,j<(PA++y::RB).length:=fun y=>by rw[Zx5,Zyd];rw[Zx5]at hle;omega
  refine⟨⟨by omega,by omega⟩,hl2 _,?_⟩;refine⟨_,.inl I,?_⟩;refine Sp1 (x3 hM1 hM2 qq) ?_;refine⟨⟨by omega,by omega⟩,hl2 _,?_⟩;refine rp1 [1,2,35,36] (x4 (ad1 (a:=j) (by omega)) hM1 hM2 qq) ?_;refine⟨⟨(j+1,n),ja,hn⟩,?_⟩;simp only[p3]
  all_goals exact Fn1 qq
 ·have ja:j=L.length:=by have h2:=oF h2;omega
  subst ja;refine Ep1 qq ?_;refine Rp1 [2] qq ?_;refine Tp1 qq ?_;refine View.agg rfl fun j hj=>?_;have hj':j=0∨j=1∨j=2∨j=3∨j=4∨j=5∨j=6∨j=7:=by simp only[Zyd,Zyn]at hj;omega
  rcases hj' with rfl|rfl|rfl|rfl|rfl|rfl|rfl|rfl
  ·exact Vr
  ·exact Vr
  ·exact Vr
  ·exact Vr
  ·exact Vr
  ·refine View.own_all (fz:=false) ?_ (by simp);exact Sr1 qq
  ·refine View.own_all (fz:=false) ?_ (by simp);exact Sr1 qq
  ·refine View.own_all (fz:=false) ?_ (by simp);exact Sr1 (x2 @Xau qq)
end Go.Proofs.w
namespace Go.VM
open Go Go.Proofs.w
theorem at_way{f:Un→Un}{x:Idt}{u:Un}(hu:SmT u):wayT x u≠[]↔(atT f x u).isSome=true:=by
 rcases Zj3 (x:=x) hu with⟨_,h2,h3⟩|⟨v,A,B,_,_,h3,_,h5⟩
 ·rw[h2,h3 f];simp
 ·obtain⟨u',f1,_⟩:=h5 f;rw[f1];refine⟨fun _=>rfl,fun _ h=>?_⟩;rw[h]at h3;cases h3
def unK(u:Un)(k:Nat):List PV:=[pI u.act,pI u.item,pI u.n,pI u.kind,.str u.label,.sl 4 (u.head.map Wd.enc),.sl 4 (u.words.map Wd.enc),.own k 0 u.kids.length]
def DoF(P:Program)(F:FuncId)(Zfj:List PV)(f:Un→Un)(v:Un):Prop:=
 Zam P F (.loc 0 0 0::Zfj) ⟨[(4,.arr false 8 (v.kids.map Un.enc)),(0,.arr false 8 [unK v 4])],5⟩ (fun _ h'=>∃(k t:Nat) (Z:List (List PV)),(k=4∨5≤k)∧k<t∧5≤t∧h'=⟨[(k,.arr false 8 ((f v).kids.map Un.enc++Z)),(0,.arr false 8 [unK (f v) k])],t⟩)
end Go.VM
namespace Go.Proofs.w
open Go Go.VM
def Y57:VC:=(ZR [Yw 3 8 0,Yw 4 3 1,ZO 6 (.alloc ZU)] (.seq (ZR [Ya 12 0 3,Ym 13 3 12,Ym 14 3 4,ZO 15 (.eqs false [.i,.i,.i] (.t 13) (.t 14))] (YC 15 (ZR [Ya 16 7 3,Yl 17 16,Yc 18 185 [17],Ya 19 7 3,Ys 1 19 18] (ZR [ZM 20 2,ZO 21 (.callv (.t 20) [.t 3])] (ZR [Ym 22 8 3,Ys 8 6 22] .ret))) .skip)) (ZR [Ya 23 7 3,Yl 24 23,Yc 25 185 [24],ZM 7 25] (.seq (ZR [ZM 26 7,Ye 27 26,Yv 28 (Yi 0)] (.block 0 (.loop (ZR [Yr 29 .lss 28 27] (.seq (YC 29 .skip (.exit 0)) (.seq (.block 1 (ZR [ZM 30 28,Yx 31 8 26 28,Ym 32 8 31,ZO 9 (.alloc ZU),ZM 8 30,Ys 8 9 32] (ZR [Ym 34 8 9,Ym 35 3 4,Yc 36 74 [34,35],ZM 33 36,Yp 37 33 0,Yp 38 33 1,ZO 10 (.alloc ZU),Ys 8 10 37,ZM 11 38] (ZR [ZM 39 11] (YC 39 (ZR [ZM 40 7,ZM 41 8,Ym 42 8 9,Ym 43 3 4,ZM 44 2,Yc 45 124 [42,43,44],Yx 46 8 40 41,Ys 8 46 45] (.exit 0)) .skip))))) (.region [Yu 47 .add 28 1,ZM 28 47] false))))))) (ZR [ZM 48 7,Ya 49 7 3,Ys 1 49 48] (ZR [Ym 50 8 3,Ys 8 6 50] .ret))))))
theorem Z3q{L:List (Nat×AB)}{t:Nat}(hd:HL.dec L t)(l:List Un)(hl:l.length≤1048576):Zam Tryz.prog 185 [.sl 8 (l.map Un.enc)] ⟨L,t⟩ (fun p h'=>p=.own (t+1) 0 l.length∧h'=⟨(t+1,.arr false 8 (l.map Un.enc))::L,t+2⟩):=by
 have hHL:∀x y p,HL.le L (Heap.get ⟨(t+1,x)::(t,y)::L,p⟩):=fun x y p=>HL.Zev hd fun k hk=>.inl (by show _=HL.get ((t+1,x)::(t,y)::L) k;rw[HL.get,if_neg (by omega),HL.get,if_neg (by omega)]);have d0:HL.del L t=L:=HL.del_ge hd (Nat.le_refl t);have d1:HL.del L (t+1)=L:=HL.del_ge hd (Nat.le_succ t);refine Zam.own0 8 ?_;refine Zam.drop ?_;have qq:=N2 t (t+1);refine Gn (vc:=Y11) [.t 2] Tryz.func185 ?_;simp only[Y11,YY];refine Rp0 [0] ?_;refine Zaa<|Rp0 [0,4] ?_;intro b hb1 hb2;cases b with
 | true=>
  skip
  refine Zae rfl (fun h1=>?_) (fun h1=>by cases h1);refine Rp0 [2] ?_;refine Tp0 ?_;cases l with
  |nil=>
   exact⟨⟨L,t⟩,HOk.le_refl (h:=⟨L,t⟩) hd,.inl ⟨⟨L,t+1⟩,⟨Nat.le_succ _,(HOk.le_refl (h:=⟨L,t⟩) hd).2⟩,rfl,rfl⟩⟩
  |cons a r=>simp at hb2
 |false=>
  skip
  refine Zae rfl (fun h1=>by cases h1) (fun h1=>?_);refine Kp0 ?_;refine Rp1 [2] (x4 @xlm d0 d1 qq) ?_;refine Ok ?_;refine Tp0 ?_;refine⟨⟨(t+1,.arr false 8 (l.map Un.enc))::L,t+2⟩,⟨Nat.le_refl _,?_⟩,.inr rfl⟩;exact(HOk.le_refl (h:=⟨(t+1,.arr false 8 (l.map Un.enc))::L,t+2⟩) ⟨Nat.lt_succ_self (t+1),HL.dec_mono hd (by omega)⟩).2
theorem Zj5{h:Heap}{a b c d e f g x:PV}{y:PV}(hv:View h x y):View h (.agg [a,b,c,d,e,f,g,x]) (.agg [a,b,c,d,e,f,g,y]):=by
 refine View.agg rfl fun j hj=>?_;have hj':j=0∨j=1∨j=2∨j=3∨j=4∨j=5∨j=6∨j=7:=by simp only[Zyd,Zyn]at hj;omega
 rcases hj' with rfl|rfl|rfl|rfl|rfl|rfl|rfl|rfl
 ·exact Vr
 ·exact Vr
 ·exact Vr
 ·exact Vr
 ·exact Vr
 ·exact Vr
 ·exact Vr
 ·exact hv
theorem Z68(u:Un)(ks:List Un):(Zoe u ks).enc=[pI u.act,pI u.item,pI u.n,pI u.kind,.str u.label,.sl 4 (u.head.map Wd.enc),.sl 4 (u.words.map Wd.enc),.sl 8 (ks.map Un.enc)]:=by
 rw[Un.Zaf];rfl
theorem Z3r(u:Un)(x:Idt){f:FuncId}{cap:List PV}(hc:Za8 cap):Za8 [.agg u.enc,.agg x.enc,.fn (.func f) [] cap]:=by
 intro y hy;simp only[Zyb,Zya,or_false]at hy;rcases hy with rfl|rfl|rfl
 ·exact Zak u
 ·exact Zah (Idt.closed x)
 ·exact Zbr hc
theorem Zi1{F:FuncId}{Zfj:List PV}(hc:Za8 Zfj){f:Un→Un}{x:Idt}{u:Un}(hu:SmT u):(unitsT u).length≤1000→(∀v∈unitsT u,idU v=x→DoF Tryz.prog F Zfj f v)→Tc 124 [.agg u.enc,.agg x.enc,.fn (.func F) [] Zfj] (.agg (Zcc x f u).enc):=by
 unfold Zcc
 induction hu with
 | mk u h hk hs ih=>
  intro hn hf;have hu0:SmT u:=.mk u h hk hs;rw[Zap,Zyd]at hn;have hn':∀k∈u.kids,(unitsT k).length≤1000:=fun k hk'=>by have:=Zbk hk';omega
  have ih':∀k∈u.kids,Tc 124 [.agg k.enc,.agg x.enc,.fn (.func F) [] Zfj] (.agg ((atT f x k).getD k).enc):=fun k hk'=>ih k hk' (hn' k hk') fun y hy=>hf y (Zbq hk' hy);clear ih;have hfi:∀k∈u.kids,Tc 74 [.agg k.enc,.agg x.enc] (.tup [.agg (Zbi x k).1.enc,.bool (Zbi x k).2]):=fun k hk'=>Zdb (hs k hk') (hn' k hk') x;have hf0:=hf u (Za0 u);have hat:=Z1r f x u;have hxe:x.enc=[pI x.act,pI x.item,pI x.n]:=rfl;refine Zac ?_ (Zak _) (Z3r u x hc);refine Gn (vc:=Y57) [.c 6 true 8] Tryz.func124 ?_;simp only[Y57,YY];have hue:=Un.Zaf u;have hid:=Zgu (idU u) x;have hiu:(idU u).act=u.act∧(idU u).item=u.item∧(idU u).n=u.n:=⟨rfl,rfl,rfl⟩;rw[hiu.1,hiu.2.1,hiu.2.2]at hid;rw[hue,hxe]at*;have CK:=Z3q (L:=[(2,.arr false 8 [[pI 0,pI 0,pI 0,pI 0,.str [],.nilsl,.nilsl,.nilsl]]),(1,.arr false 3 [[pI x.act,pI x.item,pI x.n]]),(0,.arr false 8 [[pI u.act,pI u.item,pI u.n,pI u.kind,.str u.label,.sl 4 (u.head.map Wd.enc),.sl 4 (u.words.map Wd.enc),.sl 8 (u.kids.map Un.enc)]])]) (t:=3) ⟨by omega,by omega,by omega,trivial⟩ u.kids (by omega);refine Rp0 [2,3,4,6] ?_;refine Zaa<|Rp1 [2,3,4,6,15] hid ?_;by_cases he:idU u=x
  ·rw[if_pos he]at hat
   have H:=hf0 he;rw[hat];have e1:((some (f u)).getD u)=f u:=rfl;rw[e1];rw[Zyf he];refine Ct ?_;refine Rp0 [2,3,6] ?_;refine Zam.mono CK ?_;rintro p h' ⟨rfl,rfl⟩;refine Sp0 ?_;refine Rp0 [3,6] ?_;unfold DoF unK at H;refine Zam.weakenL (h0:=⟨[(4,.arr false 8 (u.kids.map Un.enc)),(0,.arr false 8 [[pI u.act,pI u.item,pI u.n,pI u.kind,.str u.label,.sl 4 (u.head.map Wd.enc),.sl 4 (u.words.map Wd.enc),.own 4 0 u.kids.length]])]++[(2,.arr false 8 [[pI 0,pI 0,pI 0,pI 0,.str [],.nilsl,.nilsl,.nilsl]]),(1,.arr false 3 [[pI x.act,pI x.item,pI x.n]])],5⟩) ?_ (Zam.frameL (by simp) (by simp) (H.mono ?_))
   ·simp only[vmL,Nat.reduceEqDiff,reduceCtorEq,List.cons_append,List.nil_append]
    try trivial
   rintro p h' ⟨k,t,Z,h1,h2,h3,rfl⟩;refine⟨h3,by simp;omega,by simp[AB.live],?_⟩;have hfu:=Un.Zaf (f u);rw[hfu];generalize f u=fu;have qq:=N5 0 1 2 k t;refine Sp1 qq ?_;refine Rp1 [6] qq ?_;refine Tp1 qq ?_;refine Zj5 ?_;have hes:fu.kids.map Un.enc=((fu.kids.map Un.enc++Z).drop 0).take fu.kids.length:=by rw[List.drop_zero,List.take_left' (by rw[Zyc])]
   rw[show PV.sl 8 (fu.kids.map Un.enc)=.sl 8 (((fu.kids.map Un.enc++Z).drop 0).take fu.kids.length)from congrArg _ hes];exact View.own (fz:=false) (by simp[Vh]) (by simp)
  rw[if_neg he]at hat
  rw[Zyg he];refine Fp0 ?_;clear hf hf0;have hU2:=Un.Zaf u;have hHe:∀ks:List Un,(Zoe u ks).enc=[pI u.act,pI u.item,pI u.n,pI u.kind,.str u.label,.sl 4 (u.head.map Wd.enc),.sl 4 (u.words.map Wd.enc),.sl 8 (ks.map Un.enc)]:=Z68 u;generalize u.head.map Wd.enc=EH at*;generalize u.words.map Wd.enc=EW at*;generalize hKL:u.kids=KL at*;refine Rp0 [2,3,4,6,7] ?_;refine Zam.mono CK ?_;rintro p h' ⟨rfl,rfl⟩;refine Sp0 ?_;refine Zaa<|Rp0 [2,3,4,6,7,26,27,28] ?_;refine Zab ?_;refine Zai (σ:={ x':Nat×Nat//x'.1≤KL.length∧5≤x'.2∧∀(j:Nat) (hj:j<KL.length),j<x'.1→atT f x KL[j]=none }) (fun x'=>([(2,.fn (.func F) [] Zfj),(3,.loc 0 0 0),(4,.loc 1 0 0),(6,.loc 2 0 0),(7,.own 4 0 KL.length),(26,.own 4 0 KL.length),(27,pI KL.length),(28,pI x'.1.1)],⟨[(4,.arr false 8 (KL.map Un.enc)),(2,.arr false 8 [[pI 0,pI 0,pI 0,pI 0,.str [],.nilsl,.nilsl,.nilsl]]),(1,.arr false 3 [[pI x.act,pI x.item,pI x.n]]),(0,.arr false 8 [[pI u.act,pI u.item,pI u.n,pI u.kind,.str u.label,.sl 4 EH,.sl 4 EW,.sl 8 (KL.map Un.enc)]])],x'.1.2⟩)) (fun x'=>KL.length-x'.1.1) ⟨(0,5),Zyw _,Nat.le_refl _,fun j _ h=>by cases h⟩ ?_ ?_ ?_
  ·simp only[vmL,Nat.reduceEqDiff]
   repeat' (first|rfl|refine And.intro ?_ ?_)
  ·simp only[vmL,Nat.reduceEqDiff,reduceCtorEq]
   try trivial
  rintro⟨⟨k,t⟩,hkk,ht,hpre⟩;simp only[]at hkk ht hpre⊢;have qq:=N6 0 1 2 4 t (t+1);refine Rp1 [2,3,4,6,7,26,27,28,29] qq ?_;refine Zaa<|Zae rfl (fun h1=>?_) (fun h1=>?_)
  ·have ka:k<KL.length:=by have h1:=oT h1;omega
   have hrow:(KL.map Un.enc).getD k []=KL[k].enc:=Zcs ka;have hmem:=Zyl ka;have I:=ih' KL[k] hmem;have FI:=hfi KL[k] hmem;have hway:=at_way (f:=f) (x:=x) (hs KL[k] hmem);have hfn:=Xdu (x:=x) (u:=KL[k]);have hhit:=fun y=>Z6t (f:=f) (x:=x) (y:=y) ka hpre;have hnext:atT f x KL[k]=none→∀(j:Nat) (hj:j<KL.length),j<k+1→atT f x KL[j]=none:=fun h j hj hjk=>by
    by_cases e:j=k
    ·subst e;exact h
    ·exact hpre j hj (by omega)
   generalize KL[k]=v at hrow I hhit hnext FI hway hfn;have hrv:((atT f x v).getD v).enc=_:=Un.Zaf ((atT f x v).getD v);have hrf:(Zbi x v).1.enc=_:=Un.Zaf (Zbi x v).1;rw[Un.Zaf v]at hrow FI;rw[Un.Zaf v,hrv]at I;rw[hrf]at FI;generalize Zbi x v=R at FI hfn;refine Kp0 ?_;refine Zaa<|Zab ?_;refine Rp1 [2,3,4,6,7,8,9,26,27,28] (x3 @xlm hrow qq) ?_;refine Ok ?_;refine Rp1 [2,3,4,6,7,8,9,11,26,27,28] qq ?_;refine Ap1 FI qq ?_;refine Rp1 [2,3,4,6,7,8,9,26,27,28,39] qq ?_;cases ha:atT f x v with
   | none=>
    have e2:R.2=false:=by
     rw[hfn];rw[ha]at hway;exact Zyg (fun h=>by cases hway.1 h)
    rw[e2];refine Fp0 ?_;refine rp1 [2,3,4,6,7,26,27,28] (x2 (ad1 (a:=k) (by omega)) qq) ?_;refine⟨⟨(k+1,t+2),ka,by show 5≤t+2;omega,hnext ha⟩,?_⟩;exact Fn1 qq
   |some y=>
    rw[hhit y ha]at hat
    have e1:((some y).getD v)=y:=rfl;have e2:R.2=true:=by rw[hfn];rw[ha]at hway;exact Zyf (hway.2 rfl)
    rw[ha,e1]at I;rw[e2];refine Ct ?_;have hset:(KL.map Un.enc).set k [pI y.act,pI y.item,pI y.n,pI y.kind,.str y.label,.sl 4 (y.head.map Wd.enc),.sl 4 (y.words.map Wd.enc),.sl 8 (y.kids.map Un.enc)]=(KL.set k y).map Un.enc:=by rw[List.map_set,Un.Zaf y]
    have hsl:(KL.set k y).length=KL.length:=List.length_set;refine Rp1 [3,6,7] qq ?_;refine Ap1 I (x4 hrow hset @xlm qq) ?_;refine⟨⟨by omega,by omega⟩,ka,?_⟩;refine Ep1 qq ?_;refine Rp1 [3,6] qq ?_;refine Rp1 [6] qq ?_;refine Tp1 qq ?_;rw[hat];show View _ _ (.agg (Zoe u (KL.set k y)).enc);rw[hHe];refine Zj5 ?_;refine View.own_all (fz:=false) ?_ (by rw[Zyc,hsl]);exact Sr1 qq
  ·have ka:k=KL.length:=by have h1:=oF h1;omega
   subst ka;rw[Z1s fun j hj=>hpre j hj hj]at hat
   refine Ep1 qq ?_;refine Rp1 [3,6] qq ?_;refine Rp1 [6] qq ?_;refine Tp1 qq ?_;rw[hat];show View _ _ (.agg u.enc);rw[hU2];refine Zj5 ?_;refine View.own_all (fz:=false) ?_ (by rw[Zyc]);exact Sr1 qq
end Go.Proofs.w
namespace Go.Proofs.w
open Go Go.RowKit Go.Lib Go.Sort Go.VM Go.Shelf
set_option maxRecDepth 1000000
set_option maxHeartbeats 4000000
theorem Zu4 : (Tryz.prog.info? 39).map (fun i => (i.zero, i.size, i.bytes)) = some (some (.agg #[.int .i64 0, .int .i64 0, .int .i64 0, .int .i64 0, .string "".toByteArray, .slice none 0 0, .slice none 0 0, .slice none 0 0]), 8, 120) := by kernel_rfl
def Zeh:List Value:=[.int .i64 0,.int .i64 0,.int .i64 0,.int .i64 0,.string ByteArray.empty,.slice none 0 0,.slice none 0 0,.slice none 0 0]
theorem Zzj(w:World)(ty:TypeId)(b o c:Nat)(hc:∀j,j<8→(w.cell? ⟨b,o+j,none⟩).isSome=true)(hf:∀j,j<8→w.frozen? ⟨b,o+j,none⟩=false):
  (Builtin.clear_ #[37] ty #[.slice (some ⟨b,o,none⟩) 1 c]).run Tryz.prog w=.ok (.tuple #[]) (w.setCells b o Zeh):=by
 obtain⟨i0,hi0,hz0,hz1,hz2⟩:=info_parts Zu4;have hst:=run_storeCells_cells (P:=Tryz.prog) b o Zeh 0 w (fun j hj=>by simpa using hc j (by simpa[Zeh]using hj)) (fun j hj=>by simpa using hf j (by simpa[Zeh]using hj)) (by decide);have hzc:(Builtin.zeroCells #[.int .i64 0,.int .i64 0,.int .i64 0,.int .i64 0,.string ByteArray.empty,.slice none 0 0,.slice none 0 0,.slice none 0 0] 1).toList=Zeh:=by kernel_rfl
 have hu:=Tryz.underlying37;have hz0':i0.zero=some (.agg #[.int .i64 0,.int .i64 0,.int .i64 0,.int .i64 0,.string ByteArray.empty,.slice none 0 0,.slice none 0 0,.slice none 0 0]):=by rw[hz0];simp
 rw[Nat.add_zero]at hst;simp[Builtin.clear_,run_underlying hu,Ze6 hi0 hz0',Value.cells,hzc,hst]
theorem Zu5(blk off n cap i j:Nat)(w:World)(news:List Value)(hj:j=i+1)(hi:i<n)(hn:n≤cap)(hm:n≤1000000)
  (hnl:news.length=(n-1-i)*8)(hget:∀t u,news[t]?=some u→w.cell? ⟨blk,off+j*8+t,none⟩=some u)(h1:∀u∈news,u.oneCell'=true)
  (hsp:∀t,t<cap*8→(w.cell? ⟨blk,off+t,none⟩).isSome=true∧w.frozen? ⟨blk,off+t,none⟩=false):
  Calls Tryz.prog 189 #[.slice (some ⟨blk,off,none⟩) n cap,.int .i64 i,.int .i64 j] w fun e w'=>e=.returned (.slice (some ⟨blk,off,none⟩) (n-1) cap)∧w'=(w.drew.setCells blk (off+i*8) news).setCells blk (off+(n-1)*8) Zeh:=by
 obtain⟨i0,hi0,hz0,hz1,hz2⟩:=info_parts Zu4;obtain⟨A,hA,hsrc⟩:∃A:Addr,(if cap=j then some (⟨blk,off,none⟩:Addr)else some ⟨blk,off+j*8,none⟩)=some A∧Hid (∀t u,news[t]?=some u→w.drew.cell? (A.add t)=some u):=by
  by_cases h:cap=j
  ·refine⟨⟨blk,off,none⟩,by simp[h],fun t u hu=>?_⟩;have h0:news.length=0:=by rw[hnl];omega
   rw[List.length_eq_zero_iff.1 h0]at hu;simp at hu
  ·refine⟨⟨blk,off+j*8,none⟩,by simp[h],fun t u hu=>?_⟩;rw[Addr.add_lit];exact hget t u hu
 have s1:Hid (news.length=(n-j)*8):=by rw[hnl];congr 1;omega
 have s2:Hid (∀u∈news,u.oneCell'=true):=h1;have s3:Hid (∀t,t<news.length→(w.drew.cell? ⟨blk,off+i*8+t,none⟩).isSome=true∧w.drew.frozen? ⟨blk,off+i*8+t,none⟩=false):=by
  intro t ht;rw[Nat.add_assoc];exact hsp (i*8+t) (by rw[hnl]at ht;omega)
 obtain⟨W1,hW1⟩:∃W1,W1=w.drew.setCells blk (off+i*8) news:=⟨_,rfl⟩;have hcl:∀ty,(Builtin.clear_ #[37] ty #[.slice (some ⟨blk,off+(i+(n-j))*8,none⟩) (n-(i+(n-j))) (cap-(i+(n-j)))]).run Tryz.prog W1=.ok (.tuple #[]) (W1.setCells blk (off+(i+(n-j))*8) Zeh):=fun ty=>by
  rw[show i+(n-j)=n-1 by omega,show n-(n-1)=1 by omega];refine Zzj W1 ty blk _ _ (fun j hj=>?_) (fun j hj=>?_)
  ·rw[hW1,Nat.add_assoc];exact Go.Lib.isSome_setCells blk news _ _ _ (hsp ((n-1)*8+j) (by omega)).1
  ·rw[hW1,World.frozen?_setCells,Nat.add_assoc];exact(hsp ((n-1)*8+j) (by omega)).2
 have hW:Hid (W1=w.drew.setCells blk (off+i*8) news):=hW1;have hic:i≤cap:=by omega
 have hjc:j≤cap:=by omega
 have mixed:Tryz.prog.follows .mixedOrders=true:=by kernel_rfl
 have hij:i<j:=by omega
 have hjn:j≤n:=by omega
 have hjq:Hid (j=i+1):=hj;clear hW1 hsp hget hj
 go_enter Tryz.func189,Tryz.ntmps189
 go_wp2_with fail
 go_region_law_o (refine step_append_room rfl (.tmp 22) (.tmp 25) 37 rfl 39 i0 8 Tryz.underlying37 hi0 hz1 blk off i cap (by simp[Act.eval,Act.put]) A (n-j) (cap-j) news (by simp[Act.eval,Act.put]) s1.out hsrc.out s2.out (by omega) s3.out ?_;rw[←hW.out])
 go_wp2
 go_ret
 have e1:i+(n-j)=n-1:=by have:=hjq.out;omega
 rw[e1,hW.out];exact⟨rfl,rfl⟩
theorem Zcm(b:Nat):∀(vs:List Value) (o:Nat) (w:World) (c:Array Value) (tt:TypeId),w.heap[b]?=some (.cells c tt (0,0))→o+vs.length≤c.size→∃c':Array Value,(w.setCells b o vs).heap[b]?=some (.cells c' tt (0,0))∧c'.size=c.size∧(∀k,k<vs.length→c'.getD (o+k) Go.undef=vs.getD k Go.undef)∧(∀k,k<o∨o+vs.length≤k→c'.getD k Go.undef=c.getD k Go.undef)
 | [],o,w,c,tt,h,_=>⟨c,h,rfl,fun k hk=>by simp at hk,fun _ _=>rfl⟩
 | v::r,o,w,c,tt,h,hl=>by
  simp only[Zyd]at hl;have h1:=heap_setCell_same w b o c tt v h;obtain⟨c',k1,k2,k3,k4⟩:=Zcm b r (o+1) (w.setCell ⟨b,o,none⟩ v) (c.setIfInBounds o v) tt h1 (by rw[Array.size_setIfInBounds];omega);refine⟨c',k1,by rw[k2,Array.size_setIfInBounds],fun k hk=>?_,fun k hk=>?_⟩
  ·cases k with
   |zero=>
    rw[Nat.add_zero,k4 o (.inl (by omega))];have:o<c.size:=by omega
    simp[Zx6,this]
   |succ k=>
    have:=k3 k (by simpa using hk);rw[show o+(k+1)=o+1+k by omega,this];rfl
  ·simp only[Zyd]at hk;rw[k4 k (by omega)];have hne:o≠k:=by omega
   simp[Zx6,Array.getElem?_setIfInBounds_ne hne]
theorem Zcn(b:Nat):∀(vs:List Value) (o:Nat) (w:World),(∀k,k≠b→(w.setCells b o vs).heap[k]?=w.heap[k]?)∧(w.setCells b o vs).heap.size=w.heap.size∧(w.setCells b o vs).os=w.os∧(w.setCells b o vs).tape=w.tape∧(w.setCells b o vs).output=w.output
 | [],_,_=>⟨fun _ _=>rfl,rfl,rfl,rfl,rfl⟩
 |v::r,o,w=>by
  obtain⟨k1,k2,k3,k4,k5⟩:=Zcn b r (o+1) (w.setCell ⟨b,o,none⟩ v);refine⟨fun k hk=>(k1 k hk).trans (heap_setCell_other w _ k v hk),k2.trans (by simp[World.setCell]),k3,k4,k5⟩
theorem Zmb(b:Nat):∀(xs ys:List Value) (o:Nat) (w:World),(w.setCells b o xs).setCells b (o+xs.length) ys=w.setCells b o (xs++ys)
 | [],ys,o,w=>rfl
 |x::r,ys,o,w=>by
  have:=Zmb b r ys (o+1) (w.setCell ⟨b,o,none⟩ x);simp only[Zyd,List.cons_append,World.setCells];rw[←this,show o+(r.length+1)=o+1+r.length by omega]
def Zdh:List PV:=[pI 0,pI 0,pI 0,pI 0,.str [],.nilsl,.nilsl,.nilsl]
theorem Z3s(j:Nat)(hj:j<8):(Zeh.getD j Go.undef).oneCell'=true:=by
 match j,hj with
 |0,_|1,_|2,_|3,_|4,_|5,_|6,_|7,_=>rfl
theorem Z3t(g:Gh)(j:Nat)(hj:j<8):Rep g (Zeh.getD j Go.undef) (PV.nth Zdh j):=by
 match j,hj with
 |0,_|1,_|2,_|3,_=>exact .int _ _
 |4,_=>exact .str _ _ rfl
 |5,_|6,_|7,_=>exact .nilsl
theorem Xcu{g:Gh}{vals:Array Value}{p q s:PV}(h:Zm0 g vals [p,q,s]):∃v u x,vals=#[v,u,x]∧Rep g v p∧Rep g u q∧Rep g x s:=by
 obtain⟨h1,h2⟩:=h;have a0:=h2 0 (by simp);have a1:=h2 1 (by simp);have a2:=h2 2 (by simp);refine⟨vals[0]'(by simp[h1]),vals[1]'(by simp[h1]),vals[2]'(by simp[h1]),?_,?_,?_,?_⟩
 ·apply Array.ext
  ·simp[h1]
  ·intro i hi hj;have:i=0∨i=1∨i=2:=by simp at hj;omega
   rcases this with rfl|rfl|rfl<;>rfl
 ·simpa[Zx6,h1,PV.nth]using a0
 ·simpa[Zx6,h1,PV.nth]using a1
 ·simpa[Zx6,h1,PV.nth]using a2
theorem Z3u:Ztr Tryz.prog 189=true:=by kernel_rfl
theorem Z69{id i:Nat}{R:List (List PV)}{h:Heap}(hg:h.get id=some (.arr false 8 R))(hi:i<R.length)(hR:R.length≤1000000):
  Zam Tryz.prog 189 [.own id 0 R.length,pI i,pI ((i:Int)+1)] h (fun p h'=>p=.own id 0 (R.length-1)∧h'=h.set id (.arr false 8 (R.take i++(R.drop (i+1)++[Zdh])))):=by
 refine⟨Z3u,fun g w vals r ha=>?_⟩;obtain⟨v,u,x,rfl,hv,hu,hx⟩:=Xcu ha;cases hu;cases hx;rcases Zgb r hv hg (by omega)with⟨h0,_⟩|⟨cap,b,o,n2,c,ty,rfl,hβ,hcap,hn,hlt,hb,hcs,hra⟩
 ·omega
 rw[Nat.zero_mul,Nat.add_zero]at hn hra⊢;rw[List.drop_zero,List.take_length]at hra;have hcell:∀k,k<c.size→w.cell? ⟨b,k,none⟩=some (c.getD k Go.undef):=fun k hk=>by simp[World.cell?,hb,hk,Array.getD]
 obtain⟨news,hnews⟩:∃news:List Value,news=(List.range ((R.length-1-i)*8)).map fun t=>c.getD (o+(i+1)*8+t) Go.undef:=⟨_,rfl⟩;have hnl:news.length=(R.length-1-i)*8:=by rw[hnews];simp
 have hrow:∀i' j,i'<R.length→j<8→(c.getD (o+i'*8+j) Go.undef).oneCell'=true∧Rep g (c.getD (o+i'*8+j) Go.undef) (PV.nth (PV.row R i') j):=fun i' j h1 h2=>by
  obtain⟨y,e1,e2,e3⟩:=hra i' j h1 h2;have hlt':o+i'*8+j<c.size:=by omega
  rw[hcell _ hlt']at e1;simp only[Zx0]at e1;rw[e1];exact⟨e2,e3⟩
 have hnget:∀t,t<(R.length-1-i)*8→news.getD t Go.undef=c.getD (o+(i+1)*8+t) Go.undef:=fun t ht=>by
  rw[hnews,Zx1,List.getElem?_map,List.getElem?_range ht];rfl
 refine(Zu5 b o R.length cap i (i+1) w news rfl hi hcap hR hnl (fun t y hy=>?_) (fun y hy=>?_) (fun t ht=>?_)).mono ?_
 ·have ht:t<(R.length-1-i)*8:=by rw[←hnl];exact(List.getElem?_eq_some_iff.1 hy).1
  have:=hnget t ht;rw[Zx1,hy]at this;rw[hcell _ (by omega),←this];rfl
 ·rw[hnews]at hy;obtain⟨t,ht,rfl⟩:=List.mem_map.1 hy;rw[List.mem_range]at ht;have:=(hrow (i+1+t / 8) (t % 8) (by omega) (by omega)).1
  rwa [show o+(i+1+t / 8)*8+t % 8=o+(i+1)*8+t by omega]at this
 ·refine⟨?_,?_⟩
  ·rw[hcell _ (by omega)];rfl
  ·simp[World.frozen?,hb]
 rintro e w' ⟨rfl,rfl⟩;rw[show o+(R.length-1)*8=o+i*8+news.length by rw[hnl];omega,Zmb];have hcl:(news++Zeh).length=(R.length-i)*8:=by rw[Zx5,hnl];simp[Zeh];omega
 obtain⟨c',k1,k2,k3,k4⟩:=Zcm b (news++Zeh) (o+i*8) w.drew c ty hb (by rw[hcl];omega);obtain⟨q1,q2,q3,q4,q5⟩:=Zcn b (news++Zeh) (o+i*8) w.drew;have hnr:(R.drop (i+1)++[Zdh]).length=R.length-i:=by simp;omega
 have hrowN:∀i',i'<R.length-1-i→PV.row (R.drop (i+1)++[Zdh]) i'=PV.row R (i+1+i'):=fun i' h1=>by
  unfold PV.row;rw[Zx1,List.getElem?_append_left (by simp;omega),List.getElem?_drop,Zx1]
 have hrowZ:PV.row (R.drop (i+1)++[Zdh]) (R.length-1-i)=Zdh:=by
  unfold PV.row;rw[Zx1,List.getElem?_append_right (by simp;omega),List.length_drop,show R.length-1-i-(R.length-(i+1))=0 by omega];rfl
 have hz8:∀i',i'<R.length→(PV.row R i').length=8:=by
  rcases r.blk id _ hg with⟨hb0,_⟩|⟨_,_,_,_,_,_,_,hz,h2,_⟩
  ·rw[hβ]at hb0;cases hb0
  ·exact fun i' h1=>by rw[h2 i' h1];exact hz.symm
 have hcells:Go.VM.RowsIn g (news++Zeh) 8 (R.drop (i+1)++[Zdh]):=by
  refine⟨by rw[hcl,hnr],fun i' j h1 h2=>?_⟩;rw[hnr]at h1;by_cases h3:i'<R.length-1-i
  ·have hlt':i'*8+j<(R.length-1-i)*8:=by omega
   rw[Zx1,List.getElem?_append_left (by rw[hnl];exact hlt'),←Zx1,hnget _ hlt',hrowN i' h3];have:=hrow (i+1+i') j (by omega) h2
   rwa [show o+(i+1+i')*8+j=o+(i+1)*8+(i'*8+j) by omega]at this
  ·have e:i'=R.length-1-i:=by omega
   subst e;rw[Zx1,List.getElem?_append_right (by rw[hnl];omega),hnl,show(R.length-1-i)*8+j-(R.length-1-i)*8=j by omega,←Zx1,hrowZ];exact⟨Z3s j h2,Z3t g j h2⟩
 obtain⟨R',E'⟩:=Zqn r (off:=i) (news:=R.drop (i+1)++[Zdh]) (cs:=news++Zeh) hg hβ hcells (fun i' h1=>by
   rw[hnr]at h1;by_cases h3:i'<R.length-1-i
   ·rw[hrowN i' h3];exact hz8 _ (by omega)
   ·have e:i'=R.length-1-i:=by omega
    subst e;rw[hrowZ];rfl) (by rw[hnr];omega) (w.drew.setCells b (o+i*8) (news++Zeh)) c c' ty hb k1 k2 k3 k4 (fun k _ hk=>q1 k hk) (by rw[q2];exact Nat.le_refl _) q3 q4 q5
 have hdr:R.drop (i+(R.drop (i+1)++[Zdh]).length)=[]:=List.drop_eq_nil_of_le (by rw[hnr];omega);rw[hdr,Zyj]at R' E';exact⟨_,_,g,_,rfl,⟨rfl,rfl⟩,.own id 0 (R.length-1) cap b o n2 8 _ hβ (by simp) (by omega) (by omega),R',E'⟩
set_option maxRecDepth 1000000
set_option maxHeartbeats 4000000
theorem Zj6{w:World}{ty:TypeId}{b o dLen dCap:Nat}{a:Addr}{sLen sCap m:Nat}{cs:List Value}(hm:Nat.min sLen dLen=m)(hl:cs.length=m*8)(hsrc:∀j v,cs[j]?=some v→w.cell? (a.add j)=some v)
  (hd:∀j,j<cs.length→(w.cell? ⟨b,o+j,none⟩).isSome=true)(hf:∀j,j<cs.length→w.frozen? ⟨b,o+j,none⟩=false)(h1:∀v∈cs,v.oneCell'=true):
  (Builtin.copy_ #[37,37] ty #[.slice (some ⟨b,o,none⟩) dLen dCap,.slice (some a) sLen sCap]).run Tryz.prog w=.ok (goInt m) (w.setCells b o cs):=by
 obtain⟨i0,hi0,hz0,hz1,hz2⟩:=info_parts Zu4;have hst:=run_storeCells_cells (P:=Tryz.prog) b o cs 0 w (fun j hj=>by rw[Nat.add_zero];exact hd j hj) (fun j hj=>by rw[Nat.add_zero];exact hf j hj) h1;have hld:=run_firstCells_some (P:=Tryz.prog) w 8 m a sLen sCap cs hl hsrc;rw[Nat.add_zero]at hst;have hu:=Tryz.underlying37;have hlen:(Builtin.lenOf (.slice (some a) sLen sCap)).run Tryz.prog w=.ok sLen w:=rfl;simp[Builtin.copy_,run_underlying hu,hlen,hm,sizeOf,typeInfo,hi0,hz1,hld,hst]
theorem Zu6(b off n c i vb voff vc:Nat)(cs vs:List Value)(w:World)(hi:i<n)(hroom:n+1≤c)(hn6:n≤1000000)(hvb:vb≠b)
  (hcl:cs.length=n*8)(hvl:vs.length=8)(hcs:∀j v,cs[j]?=some v→w.cell? ⟨b,off+j,none⟩=some v)(hsp:∀j,j<(n+1)*8→(w.cell? ⟨b,off+j,none⟩).isSome=true)(hfz:∀j,j<(n+1)*8→w.frozen? ⟨b,off+j,none⟩=false)
  (hvs:∀j v,vs[j]?=some v→w.cell? ⟨vb,voff+j,none⟩=some v)(h1c:∀v∈cs,v.oneCell'=true)(h1v:∀v∈vs,v.oneCell'=true)
  (tA tB:TypeId)(kA kB:Nat)(hsa:w.shape? vb=some (tA,kA))(hsb:w.shape? b=some (tB,kB))(hkB:kB≠0)(hfa:w.frozen? ⟨vb,voff,none⟩=false)(hfe:w.frozen? ⟨vb,kA,none⟩=false):
  Calls Tryz.prog 126 #[.slice (some ⟨b,off,none⟩) n c,.int .i64 i,.slice (some ⟨vb,voff,none⟩) 1 vc] w fun e w'=>
   e=.returned (.slice (some ⟨b,off,none⟩) (n+1) c)∧w'=(w.drew.setCells b (off+(i+1)*8) (cs.drop (i*8))).setCells b (off+i*8) vs:=by
 have hov:∀lb cb,(callFunc 186 #[.slice (some ⟨vb,voff,none⟩) 1 vc,.slice (some ⟨b,off+(i+1)*8,none⟩) lb cb]).run Tryz.prog w=.ok (.value (.bool false)) w:=fun lb cb=>by
  rw[run_callFunc_extern Tryz.func186 (by kernel_rfl) (by kernel_rfl) (by kernel_rfl) (e:=Extern.SlicesOverlaps.overlaps #[37,37] #[4]) (by kernel_rfl),
   Lib.run_overlaps_apart w 37 4 39 Tryz.underlying37 8 (fun w=>by obtain⟨i0,hi0,hz0,hz1,hz2⟩:=info_parts Zu4;simp[sizeOf,typeInfo,hi0,hz1]) ⟨vb,voff,none⟩ ⟨b,off+(i+1)*8,none⟩ 1 vc lb cb hvb tA tB kA kB hsa hsb hkB hfa hfe]
  rfl
 have hdl:(cs.drop (i*8)).length=(n-i)*8:=by rw[List.length_drop,hcl];omega
 have mixed:Tryz.prog.follows .mixedOrders=true:=by kernel_rfl
 have hz2:¬((i:Int)=(n:Int)):=by omega
 have hw1:IntKind.i64.wrap ((i:Int)+1)=(i:Int)+1:=by rw[IntKind.wrap_i64];omega
 have hw2:IntKind.i64.wrap ((n:Int)+1)=(n:Int)+1:=by rw[IntKind.wrap_i64];omega
 have hb1:(0:Int)≤(i:Int)+1:=by omega
 have hin:i≤n:=by omega
 have htn:((i:Int)+1).toNat=i+1:=by omega
 have htn2:((n:Int)+1).toNat=n+1:=by omega
 have hb2:¬(c=i+1):=by omega
 have hb3:(i:Int)≤(n:Int)+1:=by omega
 have hb4:¬(c=i):=by omega
 have hgr:¬((c:Int)<(n:Int)+1):=by omega
 have hcp1:∀ty dc sc,(Builtin.copy_ #[37,37] ty #[.slice (some ⟨b,off+(i+1)*8,none⟩) (n-i) dc,.slice (some ⟨b,off+i*8,none⟩) (n+1-i) sc]).run Tryz.prog w.drew=   .ok (goInt ((n-i:Nat):Int)) (w.drew.setCells b (off+(i+1)*8) (cs.drop (i*8))):=fun ty dc sc=>by
  refine Zj6 ?_ hdl ?_ ?_ ?_ (fun v hv=>h1c v (List.mem_of_mem_drop hv))
  ·simp only[Nat.min_def];split<;>omega
  ·intro j v hj;rw[Addr.add_lit,Nat.add_assoc];exact hcs (i*8+j) v (by rwa [List.getElem?_drop]at hj)
  ·intro j hj;rw[Nat.add_assoc];exact hsp _ (by omega)
  ·intro j hj;rw[Nat.add_assoc];exact hfz _ (by omega)
 obtain⟨W1,hW1⟩:∃W1,W1=w.drew.setCells b (off+(i+1)*8) (cs.drop (i*8)):=⟨_,rfl⟩;have hsp1:∀k,k<(n+1)*8→(W1.cell? ⟨b,off+k,none⟩).isSome=true:=fun k hk=>by
  rw[hW1];exact isSome_setCells b _ _ _ (fun j hj=>by rw[Nat.add_assoc];exact hsp _ (by omega)) _ (hsp k hk)
 have hcp2:∀(W:World),(∀x,W.cell? x=W1.cell? x)→(∀x,W.frozen? x=W1.frozen? x)→∀ty dc,(Builtin.copy_ #[37,37] ty #[.slice (some ⟨b,off+i*8,none⟩) (n+1-i) dc,.slice (some ⟨vb,voff,none⟩) 1 vc]).run Tryz.prog W=.ok (goInt 1) (W.setCells b (off+i*8) vs):=fun W hWc hWf ty dc=>by
  refine Zj6 ?_ (by rw[hvl]) ?_ ?_ ?_ h1v
  ·simp only[Nat.min_def];split<;>omega
  ·intro j v hj;rw[Addr.add_lit,hWc,hW1,World.cell?_setCells_out b _ _ _ _ (fun h _=>absurd h hvb)];exact hvs j v hj
  ·intro j hj;rw[hWc,Nat.add_assoc];exact hsp1 _ (by omega)
  ·intro j hj;rw[hWf,hW1,World.frozen?_setCells,Nat.add_assoc];exact hfz _ (by omega)
 rw[←hW1]at hcp1
 go_enter Tryz.func126,Tryz.ntmps126
 go_wp2_with (simp only[hov])
 go_region_law_o (refine step_copy_runI rfl _ _ 37 37 rfl _ _ (by simp[Act.eval,Act.put]) (by simp[Act.eval,Act.put]) (hcp1 _ _ _) ?_)
 go_wp2_with (at_builtin;refine wpList_copy_runI _ rfl _ _ 37 37 rfl _ _ rfl rfl (hcp2 _ (fun _=>rfl) (fun _=>rfl) _ _) ?_)
 go_ret
 first|exact⟨rfl,rfl⟩|exact⟨rfl,by rw[hW1]⟩
def zUn:Value:=.agg #[.int .i64 0,.int .i64 0,.int .i64 0,.int .i64 0,.string ByteArray.empty,.slice none 0 0,.slice none 0 0,.slice none 0 0]
theorem Zzk(b off n c i vb voff vc:Nat)(cs vs:List Value)(w:World)(hi:i<n)(hnc:n≤c)(hroom:c<n+1)(hn:n≤1000000)
  (hcl:cs.length=n*8)(hvl:vs.length=8)(hcs:∀j v,cs[j]?=some v→w.cell? ⟨b,off+j,none⟩=some v)
  (hvs:∀j v,vs[j]?=some v→w.cell? ⟨vb,voff+j,none⟩=some v)(h1c:∀v∈cs,v.oneCell'=true)(h1v:∀v∈vs,v.oneCell'=true):
  Calls Tryz.prog 126 #[.slice (some ⟨b,off,none⟩) n c,.int .i64 i,.slice (some ⟨vb,voff,none⟩) 1 vc] w fun e w'=>
   e=.returned (.slice (some ⟨w.heap.size,0,none⟩) (n+1) (grownCap w (n+1) c 39))∧
   w'=(((w.alloc (.cells ((cs.take (i*8)).toArray++Builtin.zeroCells zUn.cells (n+1-i)++Builtin.zeroCells zUn.cells (grownCap w (n+1) c 39-(n+1))) 39)).drew.setCells w.heap.size (i*8) vs).drew).setCells w.heap.size ((i+1)*8) (cs.drop (i*8)):=by
 have mixed:Tryz.prog.follows .mixedOrders=true:=by kernel_rfl
 obtain⟨i0,hi0,hz0,hzs,hzb⟩:=info_parts Zu4;have hz0':i0.zero=some zUn:=by rw[hz0];simp[zUn]
 have hz2:¬((i:Int)=(n:Int)):=by omega
 have hz3:(c:Int)<(n:Int)+1:=by omega
 have hbw:b<w.heap.size:=block_lt_of_cell (hcs 0 _ (Zye (by omega)));have hvw:vb<w.heap.size:=block_lt_of_cell (hvs 0 _ (Zye (by omega)));have hkk:(n:Int)+1-(i:Int)=((n+1-i:Nat):Int):=by omega
 have hik:i+(n+1-i)=n+1:=by omega
 have hold:(Builtin.firstCells i0.size i (.slice (some ⟨b,off,none⟩) i c)).run Tryz.prog w.drew=.ok (cs.take (i*8)).toArray w.drew:=by
  rw[hzs];exact run_firstCells_some w.drew 8 i ⟨b,off,none⟩ i c (cs.take (i*8)) (by rw[Zyh];omega) (fun j v hj=>by
   rw[Addr.add_lit];rw[List.getElem?_take]at hj;split at hj
   ·exact hcs j v hj
   ·cases hj)
 have hrz:∀ty,(Builtin.append_ #[37,3] ty #[.slice (some ⟨b,off,none⟩) i c, .int .i64 ((n:Int)+1 - (i:Int))]).run Tryz.prog w=
   .ok (.slice (some ⟨w.heap.size,0,none⟩) (n+1) (grownCap w (n+1) c 39)) (w.drew.alloc (.cells ((cs.take (i*8)).toArray++Builtin.zeroCells zUn.cells (n+1-i)++Builtin.zeroCells zUn.cells (grownCap w (n+1) c 39-(n+1))) 39)):=fun ty=>by
  have h:=Lib.run_append_grow_zeros w 37 3 ty 39 i0 _ .i64 .i64 Tryz.underlying37 Tryz.underlying3 hi0 hz0' (some ⟨b,off,none⟩) i c (cs.take (i*8)) hold (n+1-i) (by omega) (by omega) (by omega) (by omega) (by rw[hzb];omega) (by rw[hzb,hik];exact growslice_fits hroom (by omega));rw[hik]at h;rw[hkk];exact h
 obtain⟨G,hG⟩:∃G,G=grownCap w (n+1) c 39:=⟨_,rfl⟩;obtain⟨ROW,hROW⟩:∃ROW:Array Value,ROW=(cs.take (i*8)).toArray++Builtin.zeroCells zUn.cells (n+1-i)++Builtin.zeroCells zUn.cells (G-(n+1)):=⟨_,rfl⟩;rw[←hG]at hrz⊢;rw[←hROW]at hrz⊢;have hRl:(n+1)*8≤ROW.size:=by
  rw[hROW];simp[Builtin.zeroCells,Value.cells,zUn];omega
 obtain⟨W1,hW1⟩:∃W1,W1=w.drew.alloc (.cells ROW 39):=⟨_,rfl⟩;rw[←hW1]at hrz;have hN:∀j,j<(n+1)*8→(W1.cell? ⟨w.heap.size,j,none⟩).isSome=true:=fun j hj=>by
  rw[hW1,World.cell?_alloc_at (w:=w.drew) ROW _ w.heap.size j rfl,Array.getElem?_eq_getElem (by omega)];rfl
 have hNf:∀j,W1.frozen? ⟨w.heap.size,j,none⟩=false:=fun j=>by rw[hW1];exact World.frozen?_alloc_at (w:=w.drew) ROW _ w.heap.size j rfl
 have hOb:∀j v,w.cell? ⟨b,j,none⟩=some v→W1.cell? ⟨b,j,none⟩=some v:=fun j v h=>by rw[hW1,World.cell?_alloc_past (w:=w.drew) _ b j hbw];exact h
 have hOv:∀j v,w.cell? ⟨vb,j,none⟩=some v→W1.cell? ⟨vb,j,none⟩=some v:=fun j v h=>by rw[hW1,World.cell?_alloc_past (w:=w.drew) _ vb j hvw];exact h
 have hcpA:∀(W:World),(∀x,W.cell? x=W1.cell? x)→(∀x,W.frozen? x=W1.frozen? x)→∀ty dc,(Builtin.copy_ #[37,37] ty #[.slice (some ⟨w.heap.size,i*8,none⟩) (n+1-i) dc,.slice (some ⟨vb,voff,none⟩) 1 vc]).run Tryz.prog W=.ok (goInt 1) (W.setCells w.heap.size (i*8) vs):=fun W hWc hWf ty dc=>by
  refine Zj6 ?_ (by rw[hvl]) ?_ ?_ ?_ h1v
  ·simp only[Nat.min_def];split<;>omega
  ·intro j v hj;rw[Addr.add_lit,hWc];exact hOv _ v (hvs j v hj)
  ·intro j hj;rw[hWc];exact hN _ (by omega)
  ·intro j hj;rw[hWf];exact hNf _
 have hGn:n+1≤G:=by rw[hG];exact grownCap_ge w _ _ _
 have hG63:G≤9223372036854775807:=by
  have:=grownCap_le_maxLen w (n+1) c 39 (by unfold maxLen;omega);rw[←hG]at this;unfold maxLen at this;omega
 have hGi:¬(G=i):=by omega
 have hGim:¬(G=i+1):=by omega
 have hci:¬(c=i):=by omega
 have hbN:b≠w.heap.size:=by omega
 have hdl:(cs.drop (i*8)).length=(n-i)*8:=by rw[List.length_drop,hcl];omega
 have hcpB:∀(W:World),(∀x,W.cell? x=(W1.setCells w.heap.size (i*8) vs).cell? x)→(∀x,W.frozen? x=(W1.setCells w.heap.size (i*8) vs).frozen? x)→∀ty dc sc,(Builtin.copy_ #[37,37] ty #[.slice (some ⟨w.heap.size,(i+1)*8,none⟩) (n-i) dc,.slice (some ⟨b,off+i*8,none⟩) (n-i) sc]).run Tryz.prog W=.ok (goInt ((n-i:Nat):Int)) (W.setCells w.heap.size ((i+1)*8) (cs.drop (i*8))):=fun W hWc hWf ty dc sc=>by
  refine Zj6 ?_ hdl ?_ ?_ ?_ (fun v hv=>h1c v (List.mem_of_mem_drop hv))
  ·simp only[Nat.min_def];split<;>omega
  ·intro j v hj;rw[Addr.add_lit,hWc,World.cell?_setCells_out _ _ _ _ _ (fun h _=>absurd h hbN),Nat.add_assoc];exact hOb _ v (hcs (i*8+j) v (by rwa [List.getElem?_drop]at hj))
  ·intro j hj;rw[hWc];exact isSome_setCells _ _ _ _ (fun t ht=>hN _ (by omega)) _ (hN _ (by omega))
  ·intro j hj;rw[hWf,World.frozen?_setCells];exact hNf _
 subst hW1;have hE1:∀x,((w.alloc (.cells ROW 39)).drew).cell? x=(w.drew.alloc (.cells ROW 39)).cell? x:=fun x=>rfl;have hE2:∀x,((w.alloc (.cells ROW 39)).drew).frozen? x=(w.drew.alloc (.cells ROW 39)).frozen? x:=fun x=>rfl;have hF1:∀x,(((w.alloc (.cells ROW 39)).drew.setCells w.heap.size (i*8) vs).drew).cell? x=((w.drew.alloc (.cells ROW 39)).setCells w.heap.size (i*8) vs).cell? x:=fun x=>rfl;have hF2:∀x,(((w.alloc (.cells ROW 39)).drew.setCells w.heap.size (i*8) vs).drew).frozen? x=((w.drew.alloc (.cells ROW 39)).setCells w.heap.size (i*8) vs).frozen? x:=fun x=>rfl;have hw1:IntKind.i64.wrap ((i:Int)+1)=(i:Int)+1:=by rw[IntKind.wrap_i64];omega
 have hw2:IntKind.i64.wrap ((n:Int)+1)=(n:Int)+1:=by rw[IntKind.wrap_i64];omega
 have hw3:IntKind.i64.wrap ((n:Int)+1-(i:Int))=(n:Int)+1-(i:Int):=by rw[IntKind.wrap_i64];omega
 have hb1:(0:Int)≤(i:Int)+1:=by omega
 have hin:i≤n:=by omega
 have hin2:i≤n+1:=by omega
 have hin3:i+1≤n+1:=by omega
 have htn:((i:Int)+1).toNat=i+1:=by omega
 have hb3:(i:Int)≤(n:Int):=by omega
 have hic:i≤c:=by omega
 clear hkk hik hold hROW hG hRl
 go_enter Tryz.func126,Tryz.ntmps126
 go_wp2_with (first
  |(at_builtin;refine Lib.wpList_append_run _ rfl _ _ _ _ rfl _ _ rfl rfl _ _ (hrz _) ?_)
  |(at_builtin;refine wpList_copy_runI _ rfl _ _ 37 37 rfl _ _ rfl rfl (hcpA _ hE1 hE2 _ _) ?_)
  |(at_builtin;refine wpList_copy_runI _ rfl _ _ 37 37 rfl _ _ rfl rfl (hcpB _ (fun _=>rfl) (fun _=>rfl) _ _ _) ?_))
 go_region_law_o (refine step_copy_runI rfl _ _ 37 37 rfl (.slice (some ⟨w.heap.size,(i+1)*8,none⟩) (n-i) (G-(i+1))) (.slice (some ⟨b,off+i*8,none⟩) (n-i) (c-i)) (by simp[Act.eval,Act.put]) (by simp[Act.eval,Act.put]) (hcpB _ hF1 hF2 3 (G-(i+1)) (c-i)) ?_)
 go_wp2
 go_ret
 exact⟨rfl,rfl⟩
set_option maxRecDepth 1000000
set_option maxHeartbeats 4000000
def Y58 : VC := (ZR [ZO 6 (.mv (.c .nilsl))] (ZR [ZM 10 0,ZM 11 1,ZO 12 (.slice false 8 (.t 10) (some (.t 11)) none)] (ZR [ZM 13 2,Ye 14 13,ZM 7 14] (.seq (ZR [ZM 15 7,Yu 16 .eql 15 0] (YC 16 (ZR [ZM 17 0,ZM 6 17] .ret) .skip)) (ZR [ZM 18 0,Ye 19 18,ZM 8 19] (.seq (ZR [ZM 20 1,ZM 21 8,Yr 22 .eql 20 21] (YC 22 (ZR [ZM 23 0,ZM 24 2,ZO 25 (.app 8 120 ZU false (.t 23) (.t 24)),ZM 6 25] .ret) .skip)) (.seq (ZR [ZM 26 8,ZM 27 7,Yr 28 .add 26 27,ZM 29 0,ZO 30 (.other ({ dst := some 30,op := Op.call { callee := Callee.builtin Builtin.cap,args := #[Operand.tmp 29],argTypes := #[37] },type := 3,pos := "slices.go:147",after := #[{ on := 3,ground := Ground.data }],guard := none } : Oper)),Yr 31 .gtr 28 30] (YC 31 (ZR [ZM 32 0,ZM 33 1,ZO 34 (.slice false 8 (.t 32) none (some (.t 33))),ZM 35 8,ZM 36 7,Yr 37 .add 35 36,ZM 38 1,Yr 39 .sub 37 38,ZO 40 (.other ({ dst := some 40,op := Op.call { callee := Callee.builtin Builtin.append,args := #[Operand.tmp 34,Operand.tmp 39],argTypes := #[37,3] },type := 37,pos := "slices.go:152",after := #[{ on := 2,ground := Ground.data },{ on := 7,ground := Ground.data }],guard := none } : Oper)),ZM 9 40] (ZR [ZM 41 9,ZM 42 1,ZO 43 (.slice false 8 (.t 41) (some (.t 42)) none),ZM 44 2,ZO 45 (.other ({ dst := some 45,op := Op.call { callee := Callee.builtin Builtin.copy,args := #[Operand.tmp 43,Operand.tmp 44],argTypes := #[37,37] },type := 3,pos := "slices.go:153",after := #[{ on := 2,ground := Ground.data },{ on := 3,ground := Ground.data }],guard := none } : Oper))] (.seq (.other (Code.region 11 #[{ dst := some 46,op := Op.move (Operand.tmp 9),type := 37,pos := "slices.go:154",after := #[],guard := none },{ dst := some 47,op := Op.move (Operand.tmp 1),type := 3,pos := "slices.go:154",after := #[],guard := none },{ dst := some 48,op := Op.move (Operand.tmp 7),type := 3,pos := "slices.go:154",after := #[],guard := none },{ dst := some 49,op := Op.binOp BinOp.add 3 (Operand.tmp 47) (Operand.tmp 48) 3,type := 3,pos := "slices.go:154",after := #[{ on := 1,ground := Ground.data },{ on := 2,ground := Ground.data }],guard := none },{ dst := some 50,op := Op.slice 37 (Operand.tmp 46) (some (Operand.tmp 49)) none none,type := 37,pos := "slices.go:154",after := #[{ on := 0,ground := Ground.data },{ on := 3,ground := Ground.data }],guard := none },{ dst := some 51,op := Op.move (Operand.tmp 0),type := 37,pos := "slices.go:154",after := #[],guard := none },{ dst := some 52,op := Op.move (Operand.tmp 1),type := 3,pos := "slices.go:154",after := #[],guard := none },{ dst := some 53,op := Op.slice 37 (Operand.tmp 51) (some (Operand.tmp 52)) none none,type := 37,pos := "slices.go:154",after := #[{ on := 5,ground := Ground.data },{ on := 6,ground := Ground.data }],guard := none },{ dst := some 54,op := Op.call { callee := Callee.builtin Builtin.copy,args := #[Operand.tmp 50,Operand.tmp 53],argTypes := #[37,37] },type := 3,pos := "slices.go:154",after := #[{ on := 4,ground := Ground.data },{ on := 7,ground := Ground.data }],guard := none }] true : Code)) (ZR [ZM 55 9,ZM 6 55] .ret)))) .skip)) (ZR [ZM 56 0,ZM 57 8,ZM 58 7,Yr 59 .add 57 58,ZO 60 (.slice false 8 (.t 56) none (some (.t 59))),ZM 0 60] (.seq (ZR [ZM 61 2,ZM 62 0,ZM 63 1,ZM 64 7,Yr 65 .add 63 64,ZO 66 (.slice false 8 (.t 62) (some (.t 65)) none),ZO 67 (.other ({ dst := some 67,op := Op.call { callee := Callee.value (Operand.func 186),args := #[Operand.tmp 61,Operand.tmp 66],argTypes := #[37,37] },type := 4,pos := "slices.go:173",after := #[{ on := 0,ground := Ground.data },{ on := 5,ground := Ground.data }],guard := none } : Oper)),Yn 68 67] (YC 68 (.seq (.other (Code.region 15 #[{ dst := some 69,op := Op.move (Operand.tmp 0),type := 37,pos := "slices.go:178",after := #[],guard := none },{ dst := some 70,op := Op.move (Operand.tmp 1),type := 3,pos := "slices.go:178",after := #[],guard := none },{ dst := some 71,op := Op.move (Operand.tmp 7),type := 3,pos := "slices.go:178",after := #[],guard := none },{ dst := some 72,op := Op.binOp BinOp.add 3 (Operand.tmp 70) (Operand.tmp 71) 3,type := 3,pos := "slices.go:178",after := #[{ on := 1,ground := Ground.data },{ on := 2,ground := Ground.data }],guard := none },{ dst := some 73,op := Op.slice 37 (Operand.tmp 69) (some (Operand.tmp 72)) none none,type := 37,pos := "slices.go:178",after := #[{ on := 0,ground := Ground.data },{ on := 3,ground := Ground.data }],guard := none },{ dst := some 74,op := Op.move (Operand.tmp 0),type := 37,pos := "slices.go:178",after := #[],guard := none },{ dst := some 75,op := Op.move (Operand.tmp 1),type := 3,pos := "slices.go:178",after := #[],guard := none },{ dst := some 76,op := Op.slice 37 (Operand.tmp 74) (some (Operand.tmp 75)) none none,type := 37,pos := "slices.go:178",after := #[{ on := 5,ground := Ground.data },{ on := 6,ground := Ground.data }],guard := none },{ dst := some 77,op := Op.call { callee := Callee.builtin Builtin.copy,args := #[Operand.tmp 73,Operand.tmp 76],argTypes := #[37,37] },type := 3,pos := "slices.go:178",after := #[{ on := 4,ground := Ground.data },{ on := 7,ground := Ground.data }],guard := none }] true : Code)) (ZR [ZM 78 0,ZM 79 1,ZO 80 (.slice false 8 (.t 78) (some (.t 79)) none),ZM 81 2,ZO 82 (.other ({ dst := some 82,op := Op.call { callee := Callee.builtin Builtin.copy,args := #[Operand.tmp 80,Operand.tmp 81],argTypes := #[37,37] },type := 3,pos := "slices.go:186",after := #[{ on := 2,ground := Ground.data },{ on := 3,ground := Ground.data }],guard := none } : Oper))] (ZR [ZM 83 0,ZM 6 83] .ret))) .skip)) (ZR [ZM 84 0,ZM 85 8,ZO 86 (.slice false 8 (.t 84) (some (.t 85)) none),ZM 87 2,ZO 88 (.other ({ dst := some 88,op := Op.call { callee := Callee.builtin Builtin.copy,args := #[Operand.tmp 86,Operand.tmp 87],argTypes := #[37,37] },type := 3,pos := "slices.go:200",after := #[{ on := 2,ground := Ground.data },{ on := 3,ground := Ground.data }],guard := none } : Oper))] (ZR [ZM 89 0,ZM 90 1,ZO 91 (.slice false 8 (.t 89) (some (.t 90)) none),ZM 92 7,Yc 93 187 [91,92]] (ZR [ZM 94 0,ZM 6 94] .ret))))))))))))
def Zdi(R:List (List PV))(i:Nat)(x:List PV):List (List PV):=R.take i++x::R.drop i
theorem Zj7{R:List (List PV)}{i:Nat}{x:List PV}(hi:i≤R.length):(Zdi R i x).length=R.length+1:=by unfold Zdi;simp;omega
theorem Z13{R:List (List PV)}{i:Nat}{x:List PV}{r:Nat}(hi:i≤R.length)(h:r<i):PV.row (Zdi R i x) r=PV.row R r:=by
 unfold Zdi PV.row;rw[Zx1,List.getElem?_append_left (by simp;omega),List.getElem?_take,if_pos h,Zx1]
theorem Z14{R:List (List PV)}{i:Nat}{x:List PV}(hi:i≤R.length):PV.row (Zdi R i x) i=x:=by
 unfold Zdi PV.row;rw[Zx1,List.getElem?_append_right (by simp;omega)];simp[Nat.min_eq_left hi]
theorem Z15{R:List (List PV)}{i:Nat}{x:List PV}{r:Nat}(hi:i≤R.length)(h:i≤r):PV.row (Zdi R i x) (r+1)=PV.row R r:=by
 unfold Zdi PV.row;rw[Zx1,List.getElem?_append_right (by simp;omega),Zyh,Nat.min_eq_left hi,show r+1-i=(r-i)+1 by omega,Zyo,List.getElem?_drop,show i+(r-i)=r by omega,Zx1]
theorem Zu7{g:Gh}{R:List (List PV)}{x:List PV}{i o o2 ok:Nat}{c c2 ck:Array Value}(hi:i≤R.length)
  (hrow:∀r j,r<R.length→j<8→(c.getD (o+r*8+j) Go.undef).oneCell'=true∧Rep g (c.getD (o+r*8+j) Go.undef) (PV.nth (PV.row R r) j))
  (hx:∀j,j<8→(ck.getD (ok+j) Go.undef).oneCell'=true∧Rep g (ck.getD (ok+j) Go.undef) (PV.nth x j))
  (hA:∀r j,r<i→j<8→c2.getD (o2+r*8+j) Go.undef=c.getD (o+r*8+j) Go.undef)(hB:∀j,j<8→c2.getD (o2+i*8+j) Go.undef=ck.getD (ok+j) Go.undef)
  (hC:∀r j,i≤r→r<R.length→j<8→c2.getD (o2+(r+1)*8+j) Go.undef=c.getD (o+r*8+j) Go.undef):
  ∀r j,r<(Zdi R i x).length→j<8→(c2.getD (o2+r*8+j) Go.undef).oneCell'=true∧Rep g (c2.getD (o2+r*8+j) Go.undef) (PV.nth (PV.row (Zdi R i x) r) j):=by
 intro r j hr hj;rw[Zj7 hi]at hr;rcases Nat.lt_trichotomy r i with h|h|h
 ·rw[hA r j h hj,Z13 hi h];exact hrow r j (by omega) hj
 ·subst h;rw[hB j hj,Z14 hi];exact hx j hj
 ·obtain⟨q,rfl⟩:∃q,r=q+1:=⟨r-1,by omega⟩;rw[hC q j (by omega) (by omega) hj,Z15 hi (by omega)];exact hrow q j (by omega) hj
theorem Z3v:Ztr Tryz.prog 126=true:=by kernel_rfl
theorem Z3w{R:List (List PV)}{x:List PV}{id k t i:Nat}(hid:id<t)(hk:k<t)(hne:id≠k)(hi:i≤R.length)(hR:R.length≤100000):
  Zam Tryz.prog 126 [.own id 0 R.length,pI i,.own k 0 1] ⟨[(k,.arr false 8 [x]),(id,.arr false 8 R)],t⟩ (fun p h'=>p=.own t 0 (R.length+1)∧h'=⟨[(t,.arr false 8 (Zdi R i x))],t+1⟩):=by
 refine Zam.drop ?_;rcases Nat.lt_or_ge i R.length with hin|hin
 case inr=>
  have he:i=R.length:=by omega
  subst he;have hins:Zdi R R.length x=R++[x]:=by unfold Zdi;simp
  rw[hins];have qq:=N3 id k t;refine Gn (vc:=Y58) [.t 6] Tryz.func126 ?_;simp only[Y58,YY];refine Rp1 [0,1,2,6] qq ?_;refine Rp1 [0,1,2,6] qq ?_;refine⟨by omega,?_⟩;refine Rp1 [0,1,2,6,7] qq ?_;refine Zaa<|Rp1 [0,1,2,6,7,16] qq ?_;refine Cf ?_;refine Kp1 qq ?_;refine Rp1 [0,1,2,6,7,8] qq ?_;refine Zaa<|Rp1 [0,1,2,6,7,8,22] qq ?_;refine Ct ?_;refine Zaa (Zad [6] ?_);simp only[vmL,Nat.reduceEqDiff,Nat.reduceLeDiff,reduceCtorEq,List.take_length,qq];refine⟨by omega,by omega,?_⟩;refine Tp1 qq ?_;refine⟨⟨[(t,.arr false 8 (R++[x]))],t+1⟩,⟨Nat.le_refl _,?_⟩,rfl⟩;simp only[vmL,qq]
  try trivial
 refine⟨Z3v,fun g w vals r ha=>?_⟩;obtain⟨v,u,y,rfl,hv,hu,hy⟩:=Xcu ha;obtain rfl:=hu.int_inv;have hgi:Heap.get ⟨[(k,.arr false 8 [x]),(id,.arr false 8 R)],t⟩ id=some (.arr false 8 R):=by simp[Vh,Ne.symm hne]
 have hgk:Heap.get ⟨[(k,.arr false 8 [x]),(id,.arr false 8 R)],t⟩ k=some (.arr false 8 [x]):=by simp[Vh]
 rcases Zgb r hv hgi (by omega)with⟨h0,_⟩|⟨cap,b,o,n2,c,tt,rfl,hβ,hcap,hn,hlt,hb,hcs,hra⟩
 ·omega
 rcases Zgb r hy hgk (by simp)with⟨h0,_⟩|⟨capk,vb,ok,nk,ck,ttk,rfl,hβk,hcapk,hnk,hltk,hbk,hcsk,hrak⟩
 ·cases h0
 rw[Nat.zero_mul,Nat.add_zero]at hn hra hnk hrak⊢;rw[List.drop_zero,List.take_length]at hra;have hvb:vb≠b:=(r.apart id k _ _ _ _ hne hgi hgk rfl hβ hβk).symm;have hcell:∀q,q<c.size→w.cell? ⟨b,q,none⟩=some (c.getD q Go.undef):=fun q hq=>by simp[World.cell?,hb,hq,Array.getD]
 have hcellk:∀q,q<ck.size→w.cell? ⟨vb,q,none⟩=some (ck.getD q Go.undef):=fun q hq=>by simp[World.cell?,hbk,hq,Array.getD]
 have hrow:∀r' j,r'<R.length→j<8→(c.getD (o+r'*8+j) Go.undef).oneCell'=true∧Rep g (c.getD (o+r'*8+j) Go.undef) (PV.nth (PV.row R r') j):=fun r' j h1 h2=>by
  obtain⟨y,e1,e2,e3⟩:=hra r' j h1 h2;rw[hcell _ (by omega)]at e1;simp only[Zx0]at e1;rw[e1];exact⟨e2,e3⟩
 have hx:∀j,j<8→(ck.getD (ok+j) Go.undef).oneCell'=true∧Rep g (ck.getD (ok+j) Go.undef) (PV.nth x j):=fun j h2=>by
  obtain⟨y,e1,e2,e3⟩:=hrak 0 j (by simp) h2;rw[show ok+0*8+j=ok+j by omega,hcellk _ (by omega)]at e1;simp only[Zx0]at e1;rw[e1];exact⟨e2,e3⟩
 have hx8:x.length=8:=by
  rcases r.blk k _ hgk with⟨hb0,_⟩|⟨_,_,_,_,_,_,_,hz,h2,_⟩
  ·rw[hβk]at hb0;cases hb0
  ·have:=h2 0 (by simp);rw[←hz]at this;exact this
 have hz8:∀i',i'<R.length→(PV.row R i').length=8:=by
  rcases r.blk id _ hgi with⟨hb0,_⟩|⟨_,_,_,_,_,_,_,hz,h2,_⟩
  ·rw[hβ]at hb0;cases hb0
  ·exact fun i' h1=>by rw[h2 i' h1];exact hz.symm
 have hz9:∀r',r'<(Zdi R i x).length→(PV.row (Zdi R i x) r').length=8:=fun r' hr'=>by
  rw[Zj7 hi]at hr';rcases Nat.lt_trichotomy r' i with h|h|h
  ·rw[Z13 hi h];exact hz8 _ (by omega)
  ·subst h;rw[Z14 hi];exact hx8
  ·obtain⟨q,rfl⟩:∃q,r'=q+1:=⟨r'-1,by omega⟩;rw[Z15 hi (by omega)];exact hz8 _ (by omega)
 obtain⟨cs,hcse⟩:∃cs:List Value,cs=(List.range (R.length*8)).map fun q=>c.getD (o+q) Go.undef:=⟨_,rfl⟩;obtain⟨vs,hvse⟩:∃vs:List Value,vs=(List.range 8).map fun q=>ck.getD (ok+q) Go.undef:=⟨_,rfl⟩;have hcl:cs.length=R.length*8:=by rw[hcse];simp
 have hvl:vs.length=8:=by rw[hvse];simp
 have hcg:∀q,q<R.length*8→cs.getD q Go.undef=c.getD (o+q) Go.undef:=fun q hq=>by
  rw[hcse,Zx1,List.getElem?_map,List.getElem?_range hq];rfl
 have hvg:∀q,q<8→vs.getD q Go.undef=ck.getD (ok+q) Go.undef:=fun q hq=>by
  rw[hvse,Zx1,List.getElem?_map,List.getElem?_range hq];rfl
 have hcs1:∀j v,cs[j]?=some v→w.cell? ⟨b,o+j,none⟩=some v:=fun j v hj=>by
  have hl:j<R.length*8:=by rw[←hcl];exact(List.getElem?_eq_some_iff.1 hj).1
  have:=hcg j hl;rw[Zx1,hj]at this;rw[hcell _ (by omega),←this];rfl
 have hvs1:∀j v,vs[j]?=some v→w.cell? ⟨vb,ok+j,none⟩=some v:=fun j v hj=>by
  have hl:j<8:=by rw[←hvl];exact(List.getElem?_eq_some_iff.1 hj).1
  have:=hvg j hl;rw[Zx1,hj]at this;rw[hcellk _ (by omega),←this];rfl
 have h1c:∀v∈cs,v.oneCell'=true:=fun v hv=>by
  rw[hcse]at hv;obtain⟨q,hq,rfl⟩:=List.mem_map.1 hv;rw[List.mem_range]at hq;have:=(hrow (q / 8) (q % 8) (by omega) (by omega)).1
  rwa [show o+q / 8*8+q % 8=o+q by omega]at this
 have h1v:∀v∈vs,v.oneCell'=true:=fun v hv=>by
  rw[hvse]at hv;obtain⟨q,hq,rfl⟩:=List.mem_map.1 hv;rw[List.mem_range]at hq;exact(hx q hq).1
 have hdl:(cs.drop (i*8)).length=(R.length-i)*8:=by rw[List.length_drop,hcl];omega
 have hdg:∀q,q<(R.length-i)*8→(cs.drop (i*8)).getD q Go.undef=c.getD (o+(i*8+q)) Go.undef:=fun q hq=>by
  rw[Zx1,List.getElem?_drop,←Zx1,hcg _ (by omega)]
 have hkil:(Zbp (⟨[(k,.arr false 8 [x]),(id,.arr false 8 R)],t⟩:Heap) (some id)).push (.arr false 8 (Zdi R i x))=⟨[(t,.arr false 8 (Zdi R i x)),(k,.arr false 8 [x])],t+1⟩:=by simp[Zbp,Heap.del,HL.del,Heap.push,Ne.symm hne]
 have fin:∀h':Heap,h'=⟨[(t,.arr false 8 (Zdi R i x)),(k,.arr false 8 [x])],t+1⟩→∃h0:Heap,h0.le h'∧PV.own t 0 (R.length+1)=.own t 0 (R.length+1)∧h0=⟨[(t,.arr false 8 (Zdi R i x))],t+1⟩:=fun h' e=>by
  subst e;exact⟨⟨[(t,.arr false 8 (Zdi R i x))],t+1⟩,⟨Nat.le_refl _,by simp[Vh]⟩,rfl,rfl⟩
 by_cases hroom:R.length+1≤cap
 ·refine(Zu6 b o R.length cap i vb ok capk cs vs w hin hroom (by omega) hvb hcl hvl hcs1 (fun j hj=>by rw[hcell _ (by omega)];rfl) (fun j hj=>by simp[World.frozen?,hb]) hvs1 h1c h1v ttk tt ck.size c.size (by simp[World.shape?,hbk]) (by simp[World.shape?,hb]) (by omega) (by simp[World.frozen?,hbk]) (by simp[World.frozen?,hbk])).mono ?_;rintro e w' ⟨rfl,rfl⟩;obtain⟨c1,a1,a2,a3,a4⟩:=Zcm b (cs.drop (i*8)) (o+(i+1)*8) w.drew c tt hb (by rw[hdl];omega);obtain⟨q1,q2,q3,q4,q5⟩:=Zcn b (cs.drop (i*8)) (o+(i+1)*8) w.drew;generalize w.drew.setCells b (o+(i+1)*8) (cs.drop (i*8))=W1 at*;obtain⟨c2,d1,d2,d3,d4⟩:=Zcm b vs (o+i*8) W1 c1 tt a1 (by rw[hvl,a2];omega);obtain⟨s1,s2,s3,s4,s5⟩:=Zcn b vs (o+i*8) W1;have hins:=Zu7 (c2:=c2) (o2:=o) hi hrow hx (fun r' j h1 h2=>by rw[d4 _ (.inl (by omega)),a4 _ (.inl (by omega))]) (fun j h2=>by rw[d3 j (by omega),hvg j h2])
   (fun r' j h1 h2 h3=>by
    rw[d4 _ (.inr (by rw[hvl];omega)),show o+(r'+1)*8+j=o+(i+1)*8+((r'-i)*8+j) by omega,a3 _ (by rw[hdl];omega),hdg _ (by omega)]
    congr 1;omega)
  obtain⟨g',f1,f2,f3,f4,f5⟩:=r.put (some id) b o n2 8 (.arr false 8 (Zdi R i x)) (W1.setCells b (o+i*8) vs) (.inr ⟨id,_,_,rfl,hgi,rfl,hβ,rfl⟩) (fun q _ hq=>(s1 q hq).trans (q1 q hq)) (by rw[s2,q2];exact Nat.le_refl _) (by rw[s2,q2];exact hlt) (s3.trans q3) (s4.trans q4) (s5.trans q5) rfl (fun g' hg'=>
   ⟨rfl,hz9,by rw[Zj7 hi];omega,c2,tt,d1,by rw[d2,a2,hcs],fun r' j h1 h2=>by obtain⟨e1,e2⟩:=hins r' j h1 h2;exact⟨e1,e2.mono hg',fun hh=>by cases hh⟩⟩)
  exact⟨_,_,g',_,rfl,fin _ hkil,.own t 0 (R.length+1) cap b o n2 8 _ f3 (by simp) hroom (by omega),f4,f5⟩
 ·have hz0:zUn.cells.size=8:=rfl;refine(Zzk b o R.length cap i vb ok capk cs vs w hin hcap (by omega) (by omega) hcl hvl hcs1 hvs1 h1c h1v).mono ?_;rintro e w' ⟨rfl,rfl⟩;have hGn:R.length+1≤grownCap w (R.length+1) cap 39:=grownCap_ge w _ _ _;generalize grownCap w (R.length+1) cap 39=G at*;obtain⟨ROW,hROW⟩:∃ROW:Array Value,ROW=(cs.take (i*8)).toArray++Builtin.zeroCells zUn.cells (R.length+1-i)++Builtin.zeroCells zUn.cells (G-(R.length+1)):=⟨_,rfl⟩;have hRs:ROW.size=G*8:=by
   rw[hROW];simp only[Array.size_append,List.size_toArray,Zyh,hcl,size_zeroCells,hz0];omega
  have hRg:∀q,q<i*8→ROW.getD q Go.undef=c.getD (o+q) Go.undef:=fun q hq=>by
   have h1:q<(cs.take (i*8)).length:=by rw[Zyh,hcl];omega
   have h2:=hcg q (by omega);rw[hROW,Array.append_assoc,Zx6,Array.getElem?_append_left (by simpa using h1)];rw[Zx1]at h2;rw[List.getElem?_toArray,List.getElem?_take,if_pos hq,h2]
  rw[←hROW];have hW0:((w.alloc (.cells ROW 39)).drew).heap[w.heap.size]?=some (.cells ROW 39 (0,0)):=by
   show(w.heap.push _)[w.heap.size]?=_;rw[Array.getElem?_push,if_pos rfl]
  have hW0o:∀q,q<w.heap.size→((w.alloc (.cells ROW 39)).drew).heap[q]?=w.heap[q]?:=fun q hq=>by
   show(w.heap.push _)[q]?=_;rw[Array.getElem?_push,if_neg (by omega)]
  have hW0s:((w.alloc (.cells ROW 39)).drew).heap.size=w.heap.size+1:=by
   show(w.heap.push _).size=_;rw[Array.size_push]
  have hW0w:((w.alloc (.cells ROW 39)).drew).os=w.os∧((w.alloc (.cells ROW 39)).drew).tape=w.tape∧((w.alloc (.cells ROW 39)).drew).output=w.output:=⟨rfl,rfl,rfl⟩;generalize(w.alloc (.cells ROW 39)).drew=W0 at*;obtain⟨c1,a1,a2,a3,a4⟩:=Zcm w.heap.size vs (i*8) W0 ROW 39 hW0 (by rw[hvl,hRs];omega);obtain⟨q1,q2,q3,q4,q5⟩:=Zcn w.heap.size vs (i*8) W0;have a1':((W0.setCells w.heap.size (i*8) vs).drew).heap[w.heap.size]?=some (.cells c1 39 (0,0)):=a1;have q1':∀q,q≠w.heap.size→((W0.setCells w.heap.size (i*8) vs).drew).heap[q]?=W0.heap[q]?:=q1;have q2':((W0.setCells w.heap.size (i*8) vs).drew).heap.size=W0.heap.size:=q2;have q3':((W0.setCells w.heap.size (i*8) vs).drew).os=W0.os:=q3;have q4':((W0.setCells w.heap.size (i*8) vs).drew).tape=W0.tape:=q4;have q5':((W0.setCells w.heap.size (i*8) vs).drew).output=W0.output:=q5;generalize(W0.setCells w.heap.size (i*8) vs).drew=W1 at*;obtain⟨c2,d1,d2,d3,d4⟩:=Zcm w.heap.size (cs.drop (i*8)) ((i+1)*8) W1 c1 39 a1' (by rw[hdl,a2,hRs];omega);obtain⟨s1,s2,s3,s4,s5⟩:=Zcn w.heap.size (cs.drop (i*8)) ((i+1)*8) W1;have hins:=Zu7 (c2:=c2) (o2:=0) hi hrow hx (fun r' j h1 h2=>by rw[Nat.zero_add,d4 _ (.inl (by omega)),a4 _ (.inl (by omega)),hRg _ (by omega)];congr 1;omega) (fun j h2=>by rw[Nat.zero_add,d4 _ (.inl (by omega)),a3 j (by omega),hvg j h2])
   (fun r' j h1 h2 h3=>by
    rw[Nat.zero_add,show(r'+1)*8+j=(i+1)*8+((r'-i)*8+j) by omega,d3 _ (by rw[hdl];omega),hdg _ (by omega)]
    congr 1;omega)
  obtain⟨g',f1,f2,f3,f4,f5⟩:=r.put (some id) w.heap.size 0 (G*8) 8 (.arr false 8 (Zdi R i x)) (W1.setCells w.heap.size ((i+1)*8) (cs.drop (i*8))) (.inl (Nat.le_refl _)) (fun q hl hq=>((s1 q hq).trans (q1' q hq)).trans (hW0o q hl)) (by rw[s2,q2',hW0s];omega) (by rw[s2,q2',hW0s];omega) ((s3.trans q3').trans hW0w.1) ((s4.trans q4').trans hW0w.2.1) ((s5.trans q5').trans hW0w.2.2) rfl (fun g' hg'=>
   ⟨rfl,hz9,by rw[Zj7 hi];omega,c2,_,d1,by rw[d2,a2,hRs],fun r' j h1 h2=>by obtain⟨e1,e2⟩:=hins r' j h1 h2;exact⟨e1,e2.mono hg',fun hh=>by cases hh⟩⟩)
  exact⟨_,_,g',_,rfl,fin _ hkil,.own t 0 (R.length+1) G w.heap.size 0 (G*8) 8 _ f3 (by simp) hGn (by omega),f4,f5⟩
end Go.Proofs.w
