import Derived.Test.YtldogpfookkbaaaGreatDoorB7
import Derived.Test.YtldogpfookkbaaaGreatDoorVmBm
import Derived.Test.YtldogpfookkbaaaGreatDoorEs
import Derived.Test.YtldogpfookkbaaaGreatDoorRows
set_option linter.all false
set_option maxRecDepth 20000
set_option maxHeartbeats 0
namespace Go.Proofs.w
open Go Go.VM
def Y95:VC:=(ZR [Yw 2 8 0,Yw 3 2 1,Yv 4 Yf] (ZR [Ya 5 3 2,Yl 6 5,Ya 7 0 3,Yl 8 7,Yr 9 .eql 6 8,ZM 10 9,Yb 11 4 2 10 true,Yk 12 11 10 true,Yb 13 1 3 10 true,Yk 14 13 10 true,ZG 15 (.bin .eql (.t 12) (.t 14)) 10 true,Yz 16 10 15,ZM 4 16] .ret))
def Y96 : VC := (ZR [Yw 3 8 0] (.seq (.region [Ym 4 8 3,Yl 5 1,ZO 6 (.iaddr 2 (.t 5) (Yi 0)),Ym 7 2 6,Yc 8 208 [4,7]] true) (YC 8 (.other (Code.region 2 #[{ dst := some 9,op := Op.load 37 (Operand.tmp 2),type := 37,pos := "address.go:119",after := #[],guard := none },{ dst := some 10,op := Op.load 39 (Operand.tmp 3),type := 39,pos := "address.go:119",after := #[],guard := none },{ dst := some 11,op := Op.call { callee := Callee.builtin Builtin.len,args := #[Operand.tmp 9],argTypes := #[37] },type := 3,pos := "address.go:119",after := #[{ on := 0,ground := Ground.data }],guard := none },{ dst := some 12,op := Op.buildSlice 37 1 #[(0,Operand.const (Value.agg #[Value.int IntKind.i64 0,Value.int IntKind.i64 0,Value.int IntKind.i64 0,Value.int IntKind.i64 0,Value.string { data := #[] },Value.slice none 0 0,Value.slice none 0 0,Value.slice none 0 0]))],type := 37,pos := "address.go:119",after := #[],guard := none },{ dst := some 13,op := Op.call { callee := Callee.builtin Builtin.append,args := #[Operand.tmp 9,Operand.tmp 12],argTypes := #[37,37] },type := 37,pos := "address.go:119",after := #[{ on := 0,ground := Ground.data },{ on := 3,ground := Ground.data },{ on := 0,ground := Ground.phase },{ on := 1,ground := Ground.phase },{ on := 2,ground := Ground.phase },{ on := 3,ground := Ground.phase }],guard := none },{ dst := some 14,op := Op.indexAddr 37 (Operand.tmp 13) (Operand.tmp 11),type := 0,pos := "address.go:119",after := #[{ on := 4,ground := Ground.data },{ on := 2,ground := Ground.data },{ on := 0,ground := Ground.phase },{ on := 1,ground := Ground.phase },{ on := 2,ground := Ground.phase },{ on := 3,ground := Ground.phase },{ on := 4,ground := Ground.phase },{ on := 7,ground := Ground.gcOnly Departure.appendInPlace }],guard := none },{ dst := none,op := Op.store 39 (Operand.tmp 14) (Operand.tmp 10),type := 0,pos := "address.go:119",after := #[{ on := 5,ground := Ground.data },{ on := 1,ground := Ground.data },{ on := 4,ground := Ground.chain },{ on := 0,ground := Ground.phase },{ on := 1,ground := Ground.phase },{ on := 2,ground := Ground.phase },{ on := 3,ground := Ground.phase },{ on := 4,ground := Ground.phase },{ on := 7,ground := Ground.gcOnly Departure.appendInPlace }],guard := none },{ dst := none,op := Op.store 37 (Operand.tmp 2) (Operand.tmp 13),type := 0,pos := "address.go:119",after := #[{ on := 4,ground := Ground.data },{ on := 4,ground := Ground.chain },{ on := 6,ground := Ground.textOnly Departure.appendInPlace },{ on := 0,ground := Ground.phase },{ on := 1,ground := Ground.phase },{ on := 2,ground := Ground.phase },{ on := 3,ground := Ground.phase },{ on := 4,ground := Ground.phase },{ on := 5,ground := Ground.textOnly Departure.appendInPlace },{ on := 6,ground := Ground.textOnly Departure.appendInPlace }],guard := none }] true : Code)) .skip)))
theorem Zvn(a i n k:Int)(lab:List UInt8)(hd wd kd:PV)(j:Int)(l2:List UInt8)(h1:Closed hd)(h2:Closed wd)(h3:Closed kd):
  Tc 208 [.agg [pI a,pI i,pI n,pI k,.str lab,hd,wd,kd],.agg [pI j,.str l2]] (.bool (k==j&&lab==l2)):=by
 refine Zac ?_ (cB _) (by
  intro y hy;simp only[Zyb,Zya,or_false]at hy;rcases hy with rfl|rfl
  ·refine Zah fun z hz=>?_;simp only[Zyb,Zya,or_false]at hz;rcases hz with rfl|rfl|rfl|rfl|rfl|rfl|rfl|rfl<;>first|exact cI _|exact cS _|assumption
  ·refine Zah fun z hz=>?_;simp only[Zyb,Zya,or_false]at hz;rcases hz with rfl|rfl<;>first|exact cI _|exact cS _)
 refine Gn (vc:=Y95) [.t 4] Tryz.func208 ?_;simp only[Y95,YY];refine Rp0 [2,3,4] ?_;cases hk:(k==j)with
 |true=>
  refine Zaa (Zad [4] ?_);simp only[vmL,Nat.reduceEqDiff,Nat.reduceAdd,Nat.reduceLT,Nat.reduceLeDiff,reduceCtorEq,hk];exact Tv0
 |false=>
  refine Zaa (Zad [4] ?_);simp only[vmL,Nat.reduceEqDiff,Nat.reduceAdd,Nat.reduceLT,Nat.reduceLeDiff,reduceCtorEq,hk];exact Tv0
theorem Z71(g:Gh):Rep g (Value.agg #[Value.int IntKind.i64 0,Value.int IntKind.i64 0,Value.int IntKind.i64 0,Value.int IntKind.i64 0,Value.string { data:=#[] },Value.slice none 0 0,Value.slice none 0 0,Value.slice none 0 0]) (.agg [pI 0,pI 0,pI 0,pI 0,.str [],.nilsl,.nilsl,.nilsl]):=by
 refine .agg _ _ rfl (fun j hj=>?_) (fun j hj=>?_)
 ·match j,hj with
  |0,_|1,_|2,_|3,_|4,_|5,_|6,_|7,_=>rfl
 ·match j,hj with
  |0,_|1,_|2,_|3,_=>exact .int _ _
  |4,_=>exact .str _ _ rfl
  |5,_|6,_|7,_=>exact .nilsl
theorem Xba{h:Heap}(ok:HOk h)(y:AB):HOk (h.push y):=⟨Nat.lt_succ_self _,ok⟩
open Go.VM.Ap in
theorem Z4i{a i n k:Int}{lab:List UInt8}{hd wd kd:PV}{j:Int}{l2:List UInt8}{st:List (List PV)}(h1:Closed hd)(h2:Closed wd)(h3:Closed kd)
  {h:Heap}(ok:HOk h){ip ia:Nat}{at0:PV}{rows:List (List PV)}(hp:Has h ip (Zjb (.sl 2 ([pI j,.str l2]::st))))(ha:Has h ia (Zjb at0))(ho:(k==j&&lab==l2)=true→Z3l ip ia h.top h at0 rows)(hpa:ip≠ia)(hn:rows.length≤1000000){K:PV→Heap→Prop}
  (hK1:(k==j&&lab==l2)=false→K (.tup []) (h.push (.arr false 8 [[pI a,pI i,pI n,pI k,.str lab,hd,wd,kd]])))
  (hK2:(k==j&&lab==l2)=true→∃L:List (Nat×AB),(∀h':Heap,h'.top=h.top+3→Fr (h.push (.arr false 8 [[pI a,pI i,pI n,pI k,.str lab,hd,wd,kd]])) h' ia at0→Has h' ia (Zjb (.own (h.top+2) 0 (rows.length+1)))→Has h' (h.top+2) (.arr false 8 (rows++[[pI a,pI i,pI n,pI k,.str lab,hd,wd,kd]]))→Heap.le ⟨L,h.top+3⟩ h')∧K (.tup []) ⟨L,h.top+3⟩):
  Zam Tryz.prog 207 [.agg [pI a,pI i,pI n,pI k,.str lab,hd,wd,kd],.loc ip 0 0,.loc ia 0 0] h K:=by
 have CA:=Zvn a i n k lab hd wd kd j l2 h1 h2 h3;have gp:=hp.1;have ga:=ha.1;have np:h.top≠ip:=by have:=hp.2;omega
 have na:h.top≠ia:=by have:=ha.2;omega
 unfold Zjb at gp ga;refine Zam.drop ?_;refine Gn (vc:=Y96) [] Tryz.func207 ?_;simp only[Y96,YY];refine Rp0 [1,2,3] ?_;refine Zaa (Ziv [1,2,3,8] ⟨[(h.top,.arr false 8 [[pI a,pI i,pI n,pI k,.str lab,hd,wd,kd]]),(ip,.arr false 1 [[.sl 2 ([pI j,.str l2]::st)]])],h.top+1⟩ ?_ ?_)
 ·exact⟨Nat.le_refl _,by simp[Vh],by simp only[Heap.get,HL.get,if_neg np];exact gp,trivial⟩
 ·refine Sp1 np ?_;refine⟨⟨Int.le_refl _,by omega⟩,_,.inl CA,?_⟩
  skip
  cases hc:(k==j&&lab==l2)with
  |false=>
   refine Fp0 ?_;exact⟨_,(Xba ok _).le_refl,hK1 hc⟩
  |true=>
   refine Ct ?_;refine VW_ap (B:=120) (zs:=[pI 0,pI 0,pI 0,pI 0,.str [],.nilsl,.nilsl,.nilsl]) (ip:=ip) (ia:=ia) (ix:=h.top) (pv:=.sl 2 ([pI j,.str l2]::st)) (at0:=at0) (rows:=rows) [] rfl (by kernel_rfl) (by kernel_rfl) rfl (by kernel_rfl) rfl Tryz.underlying37 (by kernel_rfl) (by kernel_rfl) Z71 rfl rfl (by decide) hn rfl rfl (hp.push _) (Has.new _ _) (ha.push _) ((ho hc).push _) hpa na.symm ?_;intro e' h' d q1 q2 q3 q4 q5 q6 q7 q8;have q9:d=h.top+2:=q2;subst q9;obtain⟨L,k1,k2⟩:=hK2 hc;refine⟨?_,_,k1 h' q1 q3 q5 q6,k2⟩
   first|trivial|trace_state
end Go.Proofs.w
namespace Go.VM
open Go Go.VM.Ap
def fndS(ip ia:Nat)(p:List St)(s:St)(pre:List Un)(L:List (Nat×AB)):Prop:=
 ∃b,ia<b∧L=[(b,.arr false 8 ((pre.filter fun x=>Zbe x s).map Un.enc)),(ia,Zjb (.own b 0 (pre.filter fun x=>Zbe x s).length)),(ip,Zjb (.sl 2 (p.map St.enc)))]
end Go.VM
namespace Go.Proofs.w
open Go Go.VM Go.VM.Ap
theorem Xee{ip ia:Nat}(hia:ip<ia)(p:List St)(s:St)(r:List St)(hp:p=s::r):EaB 207 [.loc ip 0 0,.loc ia 0 0] (fndS ip ia p s) 1000:=by
 intro pre u hpre hu L t hS hlt hnod hlive;have hpe:p.map St.enc=[pI s.kind,.str s.label]::r.map St.enc:=by rw[hp];rfl
 have hfl:((pre++[u]).filter fun x=>Zbe x s)=(pre.filter fun x=>Zbe x s)++(if Zbe u s=true then[u]else[]):=by
  rw[List.filter_append,List.filter_cons,List.filter_nil]
 have hle:(pre.filter fun x=>Zbe x s).length≤1000:=Nat.le_trans (List.length_filter_le _ _) (by omega);have hc1:Closed (.sl 4 (u.head.map Wd.enc)):=Za9 _;have hc2:Closed (.sl 4 (u.words.map Wd.enc)):=Za9 _;have hc3:Closed (.sl 8 (u.kids.map Un.enc)):=Zhz _;refine Zam.drop ?_;rw[Un.Zaf];unfold fndS at hS⊢;rw[hfl];generalize hF:(pre.filter fun x=>Zbe x s)=F at hS hle⊢;rw[hpe]at hS⊢;have nia:ip≠ia:=by omega
 obtain⟨b,hb,hL⟩:=hS;have ht:b<t:=hlt (b,.arr false 8 (F.map Un.enc)) (by rw[hL];simp);subst hL;refine Z4i (h:=⟨[(b,.arr false 8 (F.map Un.enc)),(ia,Zjb (.own b 0 F.length)),(ip,Zjb (.sl 2 ([pI s.kind,.str s.label]::r.map St.enc)))],t⟩) (j:=s.kind) (l2:=s.label) (st:=r.map St.enc) (ip:=ip) (ia:=ia) (at0:=.own b 0 F.length) (rows:=F.map Un.enc) hc1 hc2 hc3 (show HL.dec _ _ from⟨ht,hb,hia,trivial⟩) ⟨by simp[Vh,show ¬ia=ip by omega,show ¬b=ip by omega],by show ip<t;omega⟩ ⟨by simp[Vh,show ¬b=ia by omega],by show ia<t;omega⟩ (fun _=>.inr ⟨b,by rw[Zyc],⟨by simp[Vh],ht⟩,by omega,by omega,by show b≠t;omega⟩) nia (by rw[Zyc];omega) (fun hc=>?_) (fun hc=>?_)
 ·have hcc:Zbe u s=false:=hc;refine⟨⟨[(b,.arr false 8 (F.map Un.enc)),(ia,Zjb (.own b 0 F.length)),(ip,Zjb (.sl 2 ([pI s.kind,.str s.label]::r.map St.enc)))],t+1⟩,?_,rfl,_,t+1,by omega,rfl,⟨b,hb,by simp[hcc]⟩,hnod,fun q hq=>by have:=hlt q hq;omega,fun q hq=>.inl ⟨q,hq,rfl⟩,hlive⟩;refine⟨Nat.le_refl _,?_⟩;have qq:=N4 ip ia b t;exact Sc1 qq
 ·have hcc:Zbe u s=true:=hc;rw[Zyc];refine⟨[(t+2,.arr false 8 (F.map Un.enc++[u.enc])),(ia,Zjb (.own (t+2) 0 (F.length+1))),(ip,Zjb (.sl 2 ([pI s.kind,.str s.label]::r.map St.enc)))],fun h' h1 h2 h3 h4=>⟨by show h'.top≤t+3;rw[h1];exact Nat.le_refl _,?_⟩,⟨_,t+3⟩,HOk.le_refl (show HL.dec _ _ from⟨by show t+2<t+3;omega,by omega,hia,trivial⟩),rfl,_,t+3,by omega,rfl,⟨t+2,by omega,by simp[hcc]⟩,?_,?_,?_,?_⟩
  ·have h5:Has h' ip (Zjb (.sl 2 ([pI s.kind,.str s.label]::r.map St.enc))):=h2 ip _ nia (by simp only[Zga];intro e;simp only[Zx0]at e;omega) (Has.push _ ⟨by simp[Vh,show ¬ia=ip by omega,show ¬b=ip by omega],by show ip<t;omega⟩);have h6:h'.get (t+2)=some (.arr false 8 (F.map Un.enc++[u.enc])):=by rw[Un.Zaf u];exact h4.1
   exact⟨h6,h3.1,h5.1,trivial⟩
  ·simp only[Nod];simp;omega
  ·intro q hq;simp only[Zyb,Zya,or_false]at hq;rcases hq with rfl|rfl|rfl<;>simp only[]<;>omega
  ·intro q hq;simp only[Zyb,Zya,or_false]at hq;rcases hq with rfl|rfl|rfl
   ·exact .inr (by show t≤t+2;omega)
   ·exact .inl ⟨(ia,Zjb (.own b 0 F.length)),by simp,rfl⟩
   ·exact .inl ⟨(ip,Zjb (.sl 2 ([pI s.kind,.str s.label]::r.map St.enc))),by simp,rfl⟩
  ·intro q hq;simp only[Zyb,Zya,or_false]at hq;rcases hq with rfl|rfl|rfl<;>rfl
end Go.Proofs.w
namespace Go.VM
open Go Go.Proofs.w
def wtL(A:List Un):Nat:=(A.map fun x=>(unitsT x).length).sum
theorem Zgm(x:Un)(A:List Un):wtL (x::A)=(unitsT x).length+wtL A:=by unfold wtL;rw[List.map_cons,List.sum_cons]
theorem Z72(A B:List Un):wtL (A++B)=wtL A+wtL B:=by unfold wtL;rw[List.map_append,List.sum_append]
theorem Zs0:∀A:List Un,A.length≤wtL A
 | []=>Zyw _
 |x::A=>by rw[Zgm,Zyd];have:=Zs0 A;have:=Zeo x;omega
theorem Zrf(p:Un→Bool):∀A:List Un,wtL (A.filter p)≤wtL A
 | []=>Nat.le_refl _
 |x::A=>by
  have:=Zrf p A;rw[List.filter_cons,Zgm];split
  ·rw[Zgm];omega
  ·omega
theorem Zvo:∀L:List Un,wtL L=(unitsL L).length
 | []=>rfl
 |x::L=>by rw[Zgm,unitsL,Zx5,Zvo L]
theorem Znb(s:St):∀A:List Un,wtL (Zkv A s)≤wtL A
 | []=>Nat.le_refl _
 |x::A=>by
  have h1:=Znb s A;have e:Zkv (x::A) s=(x.kids.filter fun k=>Zbe k s)++Zkv A s:=rfl;rw[e,Z72,Zgm,Zap,Zyd];have h2:=Zrf (fun k=>Zbe k s) x.kids;rw[Zvo x.kids]at h2;omega
theorem Zz9{u:Un}(hu:SmT u):∀{A:List Un},(∀x∈A,x∈unitsT u)→wtL A≤A.length*(unitsT u).length
 | [],_=>Zyw _
 |x::A,h=>by
  have h1:=Zz9 hu (A:=A) (fun y hy=>h y (Zx7 _ hy));have h2:=Zh1 hu x (h x List.mem_cons_self);rw[Zgm,Zyd,Nat.succ_mul];omega
theorem Z73{A:List Un}{i:Nat}(h:i<A.length)(s:St):Zkv (A.take (i+1)) s=Zkv (A.take i) s++(A[i].kids.filter fun k=>Zbe k s):=by
 unfold Zkv;rw[List.take_add_one,Zye h,List.flatMap_append];simp
theorem Z0a{L:List Un}{j:Nat}(h:j<L.length)(p:Un→Bool):(L.take (j+1)).filter p=(L.take j).filter p++(if p L[j]=true then[L[j]]else[]):=by
 rw[List.take_add_one,Zye h,List.filter_append];simp only[Option.toList_some,List.filter_cons,List.filter_nil]
theorem Zs1{A:List Un}{i j:Nat}(hi:i<A.length)(hj:j≤A[i].kids.length)(s:St):(Zkv (A.take i) s++(A[i].kids.take j).filter fun k=>Zbe k s).length≤wtL A:=by
 have h1:wtL (Zkv (A.take i) s)≤wtL (A.take i):=Znb s _;have h2:=Zs0 (Zkv (A.take i) s);have h3:((A[i].kids.take j).filter fun k=>Zbe k s).length≤(unitsT A[i]).length:=by
  have a1:=List.length_filter_le (fun k=>Zbe k s) (A[i].kids.take j);have a2:(A[i].kids.take j).length≤A[i].kids.length:=by rw[Zyh];omega
  have a3:=Zgg A[i].kids;rw[Zap,Zyd];omega
 have h4:wtL A=wtL (A.take i)+((unitsT A[i]).length+wtL (A.drop (i+1))):=by
  rw[←Zgm,←List.drop_eq_getElem_cons hi,←Z72,List.take_append_drop]
 rw[Zx5];omega
end Go.VM
namespace Go.Proofs.w
open Go Go.VM Go.VM.Ap
def Y97:VC:=(ZR [Yw 2 8 0,Yw 3 1 1,ZO 4 (.mv (.c .nilsl))] (.seq (ZR [Yl 13 3,Yc 14 100 [13],Yn 15 14] (YC 15 (ZR [ZO 4 (.mv (.c .nilsl))] .ret) .skip)) (ZR [ZO 5 (.alloc [.nilsl])] (.seq (.block 0 (ZR [Yl 20 3,Ye 21 20,Yu 22 .eql 21 0,ZM 19 22] (YC 19 (ZR [Ym 23 8 2,ZO 24 (.bslice 8 1 ZU [(0,(.t 23))]),ZM 4 24] .ret) (ZR [Yl 26 3,ZO 27 (.iaddr 2 (.t 26) (Yi 0)),Ym 28 2 27,Yc 29 162 [28],ZM 25 29] (YC 25 (.region [Ym 30 8 2,ZO 31 (.bslice 8 1 ZU [(0,(.t 30))]),Ys 1 5 31] false) (.region [Ym 16 8 2,ZO 17 (.mkfn (.func 207) [] [.t 3,.t 5]),Yc 18 206 [16,17]] false)))))) (.seq (ZR [Yl 32 3,ZO 33 (.slice false 2 (.t 32) (some (Yi 1)) none),Ye 34 33,Yv 35 (Yi 0)] (.block 1 (.loop (ZR [Yr 36 .lss 35 34] (.seq (YC 36 .skip (.exit 1)) (.seq (.block 2 (ZR [Yx 37 2 33 35,Ym 38 2 37,ZO 7 (.alloc [Yo,(.str [])]),Ys 2 7 38] (ZR [ZO 8 (.mv (.c .nilsl))] (.seq (ZR [Yl 39 5,Ye 40 39,Yv 41 (Yi 0)] (.block 3 (.loop (ZR [Yr 42 .lss 41 40] (.seq (YC 42 .skip (.exit 3)) (.seq (.block 4 (ZR [Yx 43 8 39 41,Ym 44 8 43,ZO 10 (.alloc ZU),Ys 8 10 44] (ZR [Ya 45 7 10,Yl 46 45,Ye 47 46,Yv 48 (Yi 0)] (.block 5 (.loop (ZR [Yr 49 .lss 48 47] (.seq (YC 49 .skip (.exit 5)) (.seq (.block 6 (ZR [Yx 50 8 46 48,Ym 51 8 50,ZO 12 (.alloc ZU),Ys 8 12 51] (ZR [Ym 52 8 12,Ym 53 2 7,Yc 54 208 [52,53]] (YC 54 (.region [ZM 55 8,Ym 56 8 12,ZO 57 (.bslice 8 1 ZU [(0,(.t 56))]),ZO 58 (.app 8 120 ZU false (.t 55) (.t 57)),ZM 8 58] false) .skip)))) (.region [Yu 59 .add 48 1,ZM 48 59] false))))))))) (.region [Yu 60 .add 41 1,ZM 41 60] false))))))) (.region [ZM 61 8,Ys 1 5 61] false))))) (.region [Yu 62 .add 35 1,ZM 35 62] false))))))) (ZR [Yl 63 5,ZM 4 63] .ret))))))
def Zkg(u:Un)(s:St):List Un:=if Zln s=true then[u]else(unitsT u).filter fun x=>Zbe x s
theorem Xbb{u:Un}(hu:SmT u)(hn:(unitsT u).length≤1000)(p:List St)(hl:p.length≤1000)(hs:∀s∈p,s.label.length≤1000000):Tc 167 [.agg u.enc,.sl 2 (p.map St.enc)] (.sl 8 ((Zdr u p).map Un.enc)):=by
 have AV:=Zea p (by omega) hs;refine Zac ?_ (Zhz _) (CL2 (Zak u) (Zf1 p));have eu:=Un.Zaf u;have hut:=Zaq u;have hul:=Zao u;generalize hU:u.enc=U at*;refine Gn (vc:=Y97) [.t 4] Tryz.func167 ?_;simp only[Y97,YY];refine Rp1 [2,3] hul ?_;refine Zaa<|Rp0 [2,3,15] ?_;refine Ap0 AV ?_;cases hv:Zlo p with
 |false=>
  refine Ct ?_;refine Rp0 [4] ?_;refine Tp0 ?_;have e:Zdr u p=[]:=by unfold Zdr;rw[hv];rfl
  rw[e];exact View.nil _ _
 | true=>
  refine Fp0 ?_;refine Rp0 [2,3,5] ?_;refine Z1j 2 8 (by simp[Vh]) ?_;refine Sp0 ?_;cases p with
  |nil=>
   refine Zaa<|Zab ?_;refine Rp0 [2,3,5,19] ?_;refine Ct ?_;refine Rp1 [4] (x2 hut hul) ?_;refine Tp0 ?_;have e:Zdr u []=[u]:=by unfold Zdr;rw[hv];rfl
   rw[e];exact View.own_all (fz:=false) (by simp[Vh,hU]) rfl
  | cons s r=>
   have eF:Zdr u (s::r)=r.foldl Zkv (Zkg u s):=by unfold Zdr;rw[hv];rfl
   rw[eF];have BK:=Zho s;have g0:(((s::r).length:Int)==0)=false:=by rw[beq_eq_false_iff_ne];simp only[Zyd];omega
   have hpl:((s::r).map St.enc).length=(s::r).length:=Zyc _;have hp0:((s::r).map St.enc).getD 0 []=s.enc:=rfl;have hpd:((s::r).map St.enc).drop 1=r.map St.enc:=rfl;have hmem:∀x∈Zkg u s,x∈unitsT u:=fun x hx=>by
    unfold Zkg at hx;split at hx
    ·rw[List.mem_singleton.1 hx];exact Za0 u
    ·exact(List.mem_filter.1 hx).1
   have hwt:wtL (Zkg u s)≤1000000:=by
    have h1:=Zz9 hu hmem;have h2:(Zkg u s).length≤(unitsT u).length:=by
     unfold Zkg;split
     ·exact Zeo u
     ·exact List.length_filter_le _ _
    exact Nat.le_trans h1 (Nat.le_trans (Nat.mul_le_mul h2 (Nat.le_refl _)) (Nat.mul_le_mul hn hn))
   refine Zaa (Zfa (σ:={ x:Nat×Nat//2<x.1∧x.1<x.2 }) (fun x=>([(3,.loc 1 0 0),(5,.loc 2 0 0)],⟨[(x.1.1,.arr false 8 ((Zkg u s).map Un.enc)),(2,.arr false 1 [[.own x.1.1 0 (Zkg u s).length]]),(1,.arr false 1 [[.sl 2 ((s::r).map St.enc)]])],x.1.2⟩)) ?_ ?_)
   ·refine Zab ?_;refine Zaa (Zad [2,3,5,19] ?_);simp only[vmL,Nat.reduceEqDiff,Nat.reduceLT,reduceCtorEq,hpl,g0];refine Cf ?_;refine Rp1 [2,3,5,25] (x4 hpl hp0 @Zsy @Zm9) ?_;refine Ok ?_;refine Zag BK ?_;cases hb:Zln s with
    |true=>
     refine Ct ?_;refine rp1 [3,5] (x2 hut hul) ?_;have e:Zkg u s=[u]:=by unfold Zkg;rw[if_pos hb]
     rw[e];refine⟨⟨(4,5),by simp only[];omega,by simp only[];omega⟩,?_⟩;exact Fn1 hU
    |false=>
     refine Cf ?_;have E:=Z37 (Xee (ip:=1) (ia:=2) (by omega) (s::r) s r rfl) (Nat.le_refl _) hu [] (by simpa using hn) [(3,.arr false 8 []),(2,Zjb (.own 3 0 0)),(1,Zjb (.sl 2 ((s::r).map St.enc)))] 4 ⟨3,by omega,rfl⟩ (by simp) (by simp[Nod]) (by simp[AB.live,Zjb]);rw[hU]at E;refine rp1 [3,5] (x2 hut hul) ?_;refine Zam.weakenL (h0:=⟨[(3,.arr false 8 []),(2,Zjb (.own 3 0 0)),(1,Zjb (.sl 2 ((s::r).map St.enc)))],4⟩) (by simp[Vh,Zjb]) (Zam.mono E ?_);rintro q h' ⟨rfl,L',t',ht,rfl,⟨b,hb3,rfl⟩,-,hlt',-,-⟩;have e:Zkg u s=(unitsT u).filter fun x=>Zbe x s:=by unfold Zkg;rw[if_neg (by rw[hb];exact Bool.false_ne_true)]
     rw[e];have hbt:b<t':=hlt' _ List.mem_cons_self;refine Sp0 ?_;refine⟨⟨(b,t'),hb3,hbt⟩,?_⟩;simp only[List.nil_append,Zjb];have qq:=N3 1 2 b;exact Fn1 qq
   rintro⟨⟨b0,t0⟩,hb0,ht0⟩;simp only[]at hb0 ht0⊢;have hrl:(r.map St.enc).length=r.length:=Zyc _;have hrn:r.length≤999:=by simpa using hl
   have hsm:∀x∈Zkg u s,x∈unitsT u:=hmem;generalize Zkg u s=A0 at hwt hsm⊢;clear hmem BK AV hv eF;refine Zaa ?_;refine Zaa (Zad [5,33,34,35] ?_);have qq:=N3 1 2 b0;have hrt:List.take (r.length+1-1) (r.map St.enc)=r.map St.enc:=by rw[Nat.add_sub_cancel,←hrl,List.take_length]
   refine Sp1 (x5 hpl hpd hrl hrt qq) ?_;refine⟨by omega,?_⟩;refine Zab ?_;refine Zai (σ:={ x:Nat×Nat×Nat//x.1≤r.length∧2<x.2.1∧x.2.1<x.2.2 }) (fun x=>([(5,.loc 2 0 0),(33,.sl 2 (r.map St.enc)),(34,pI r.length),(35,pI x.1.1)],⟨[(x.1.2.1,.arr false 8 (((r.take x.1.1).foldl Zkv A0).map Un.enc)),(2,.arr false 1 [[.own x.1.2.1 0 ((r.take x.1.1).foldl Zkv A0).length]])],x.1.2.2⟩)) (fun x=>r.length-x.1.1) ⟨(0,b0,t0),Zyw _,hb0,ht0⟩ ?_ ?_ ?_
   ·exact Fn0
   ·try simp only[vmL,Nat.reduceEqDiff,qq,List.take_zero,List.foldl_nil]
    all_goals (repeat' (first|rfl|trivial|omega|(simp only[];omega)|refine And.intro ?_ ?_))
   clear hb0 ht0 qq;rintro⟨⟨i,b,t⟩,hi,hb,ht⟩;simp only[]at hi hb ht⊢;refine Rp0 [5,33,34,35,36] ?_;refine Zaa<|Zae rfl (fun h1=>?_) (fun h1=>?_)
   ·have ia:i<r.length:=by have h1:=oT h1;omega
    have hrow:=Zcs (enc:=St.enc) ia;have hfs:(r.take (i+1)).foldl Zkv A0=Zkv ((r.take i).foldl Zkv A0) r[i]:=by
     rw[List.take_add_one,Zye ia,Option.toList_some,List.foldl_append];rfl
    have hwA:wtL ((r.take i).foldl Zkv A0)≤1000000:=by
     have key:∀(q:List St) (A:List Un),wtL (q.foldl Zkv A)≤wtL A:=by
      intro q
      induction q with
      |nil=>intro A;exact Nat.le_refl _
      |cons y q ih=>intro A;rw[List.foldl_cons];exact Nat.le_trans (ih _) (Znb y A)
     exact Nat.le_trans (key _ _) hwt
    have hAs:∀x∈(r.take i).foldl Zkv A0,SmT x:=fun x hx=>hu.units x (Zlp hu _ _ hsm x hx);generalize(r.take i).foldl Zkv A0=A at hfs hwA hAs⊢;generalize r[i]=y at hrow hfs;have ye:=Z7u y;have hAl:=Zs0 A;have hAn:(A.map Un.enc).length=A.length:=Zyc _;refine Kp0 ?_;refine Zaa<|Zab ?_;have qq:=N4 2 b t (t+1);refine Zaa (Zad [5,7,33,34,35] ?_);simp only[vmL,Nat.reduceEqDiff,Nat.reduceAdd,Nat.reduceLT,hrl,hrow,Zsy,Zm9,qq];refine Ok ?_;refine Rp0 [5,7,8,33,34,35] ?_;refine Zc7 8 8 rfl ?_;refine Sp0 ?_;refine Zaa<|Rp1 [5,7,8,33,34,35,39,40,41] qq ?_;refine Zab ?_;refine Zai (σ:={ x:Nat×Nat×Nat//x.1≤A.length∧t<x.2.1∧x.2.1<x.2.2 }) (fun x=>([(5,.loc 2 0 0),(7,.loc t 0 0),(8,.own x.1.2.1 0 (Zkv (A.take x.1.1) y).length),(33,.sl 2 (r.map St.enc)),(34,pI r.length),(35,pI i),(39,.own b 0 A.length),(40,pI A.length),(41,pI x.1.1)],⟨[(x.1.2.1,.arr false 8 ((Zkv (A.take x.1.1) y).map Un.enc)),(t,.arr false 2 [y.enc]),(b,.arr false 8 (A.map Un.enc)),(2,.arr false 1 [[.own b 0 A.length]])],x.1.2.2⟩)) (fun x=>A.length-x.1.1) ⟨(0,t+1,t+2),Zyw _,by simp only[];omega,by simp only[];omega⟩ ?_ ?_ ?_
    ·try simp only[vmL,Nat.reduceEqDiff,List.take_zero,Zkv,List.flatMap_nil,Zyn]
     all_goals (repeat' (first|rfl|trivial|omega|(simp only[];omega)|refine And.intro ?_ ?_))
    ·try simp only[vmL,qq,List.take_zero,Zkv,List.flatMap_nil,List.map_nil,ye]
     all_goals (repeat' (first|rfl|trivial|omega|(simp only[];omega)|refine And.intro ?_ ?_))
    clear qq;rintro⟨⟨j,c,t1⟩,hj,hc,ht1⟩;simp only[]at hj hc ht1⊢;refine Rp0 [5,7,8,33,34,35,39,40,41,42] ?_;refine Zaa<|Zae rfl (fun h2=>?_) (fun h2=>?_)
    ·have ja:j<A.length:=by have h2:=oT h2;omega
     have hrowA:=Zcs (enc:=Un.enc) ja;have hst:=Z73 ja y;have hbd:=fun(m:Nat) (hm:m≤A[j].kids.length)=>Zs1 ja hm y;have hxs:=hAs _ (Zyl ja);generalize A[j]=x at hrowA hst hbd hxs;have hxl:=Zao x;have hxt:=Zaq x;have hxe:=Un.Zaf x;have hkl:=hxs.kids.1;generalize Zkv (A.take j) y=N at hst hbd⊢;refine Kp0 ?_;refine Zaa<|Zab ?_;have qq:=N6 2 b t c t1 (t1+1);refine Rp1 [5,7,8,10,33,34,35,39,40,41] (x5 hAn hrowA hxl hxt qq) ?_;refine Ok ?_;refine Rp1 [5,7,8,33,34,35,39,40,41,46,47,48] (x3 hxe @xlm qq) ?_;refine Zab ?_;refine Zai (σ:={ z:Nat×Nat×Nat//z.1≤x.kids.length∧t<z.2.1∧z.2.1<z.2.2 }) (fun z=>([(5,.loc 2 0 0),(7,.loc t 0 0),(8,.own z.1.2.1 0 (N++(x.kids.take z.1.1).filter fun k=>Zbe k y).length),(33,.sl 2 (r.map St.enc)),(34,pI r.length),(35,pI i),(39,.own b 0 A.length),(40,pI A.length),(41,pI j),(46,.sl 8 (x.kids.map Un.enc)),(47,pI x.kids.length),(48,pI z.1.1)],⟨[(z.1.2.1,.arr false 8 ((N++(x.kids.take z.1.1).filter fun k=>Zbe k y).map Un.enc)),(t,.arr false 2 [y.enc]),(b,.arr false 8 (A.map Un.enc)),(2,.arr false 1 [[.own b 0 A.length]])],z.1.2.2⟩)) (fun z=>x.kids.length-z.1.1) ⟨(0,c,t1+1),Zyw _,hc,by simp only[];omega⟩ ?_ ?_ ?_
     ·try simp only[vmL,Nat.reduceEqDiff,List.take_zero,List.filter_nil,Zyj]
      all_goals (repeat' (first|rfl|trivial|omega|(simp only[];omega)|refine And.intro ?_ ?_))
     ·try simp only[vmL,qq,List.take_zero,List.filter_nil,Zyj]
      all_goals (repeat' (first|rfl|trivial|omega|(simp only[];omega)|refine And.intro ?_ ?_))
     clear hc ht1 qq;rintro⟨⟨m,c,t1⟩,hm,hc,ht1⟩;simp only[]at hm hc ht1⊢;refine Rp0 [5,7,8,33,34,35,39,40,41,46,47,48,49] ?_;refine Zaa<|Zae rfl (fun h3=>?_) (fun h3=>?_)
     ·have ma:m<x.kids.length:=by have h3:=oT h3;omega
      have hrowK:=Zcs (enc:=Un.enc) ma;have hft:=Z0a ma (fun k=>Zbe k y);have hb1:=hbd m (by omega);have hb2:=hbd (m+1) (by omega);rw[hft]at hb2;generalize x.kids[m]=k at hrowK hft hb2;have hke:=Un.Zaf k;have hkl2:=Zao k;have hkt:=Zaq k;have CA:=Zvn k.act k.item k.n k.kind k.label (.sl 4 (k.head.map Wd.enc)) (.sl 4 (k.words.map Wd.enc)) (.sl 8 (k.kids.map Un.enc)) y.kind y.label (Za9 _) (Za9 _) (Zhz _);rw[←hke,←ye]at CA;have hcb:(k.kind==y.kind&&k.label==y.label)=Zbe k y:=rfl;rw[hcb]at CA;rw[←List.append_assoc]at hb2;have hnx:N++(x.kids.take (m+1)).filter (fun k=>Zbe k y)=(N++(x.kids.take m).filter (fun k=>Zbe k y))++(if Zbe k y=true then[k]else[]):=by rw[hft,List.append_assoc]
      generalize N++(x.kids.take m).filter (fun k=>Zbe k y)=M at hb1 hb2 hnx⊢;have hMl:(M.map Un.enc).length=M.length:=Zyc _;have hMt:List.take M.length (M.map Un.enc)=M.map Un.enc:=by rw[←hMl,List.take_length]
      have hyl:=Zsy y;have hyt:=Zm9 y;refine Kp0 ?_;refine Zaa<|Zab ?_;have qq:=N7 2 b t c t1 (t1+1) (t1+1+1);refine Zaa (Zad [5,7,8,12,33,34,35,39,40,41,46,47,48] ?_);simp only[vmL,Nat.reduceEqDiff,Nat.reduceAdd,Nat.reduceLT,Zyc,hrowK,hkl2,hkt,Zyj,qq];refine Ok ?_;refine Rp1 [5,7,8,12,33,34,35,39,40,41,46,47,48,54] (x5 hkl2 hkt hyl hyt qq) ?_;refine Zag CA ?_;cases hcc:Zbe k y with
      |true=>
       rw[hcc]at hb2;refine Ct ?_;refine rp1 [5,7,8,33,34,35,39,40,41,46,47,48] (x5 hkl2 hkt hMl hMt qq) ?_;rw[if_pos rfl,Zx5,List.length_singleton]at hb2;refine⟨by omega,by omega,?_⟩;refine rp1 [5,7,8,33,34,35,39,40,41,46,47,48] (x2 (ad1 (a:=m) (by omega)) qq) ?_;refine⟨⟨(m+1,t1+2,t1+3),ma,by simp only[];omega,by simp only[];omega⟩,?_⟩;rw[hcc,if_pos rfl]at hnx;simp only[hnx,List.map_append,List.map_cons,List.map_nil,Zx5,List.length_singleton]
       all_goals exact Fn1 qq
      |false=>
       refine Fp0 ?_;refine rp1 [5,7,8,33,34,35,39,40,41,46,47,48] (x2 (ad1 (a:=m) (by omega)) qq) ?_;refine⟨⟨(m+1,c,t1+1),ma,hc,by simp only[];omega⟩,?_⟩;rw[hcc,if_neg Bool.false_ne_true,Zyj]at hnx;simp only[hnx]
       all_goals exact Fn1 qq
     ·have ma:m=x.kids.length:=by have h3:=oF h3;omega
      subst ma;rw[List.take_length,←hst];refine Ep0 ?_;refine rp1 [5,7,8,33,34,35,39,40,41] (ad1 (a:=j) (by omega)) ?_;refine⟨⟨(j+1,c,t1),ja,hc,ht1⟩,?_⟩;have qq:=N5 2 b t c t1;exact Fn1 qq
    ·have ja:j=A.length:=by have h2:=oF h2;omega
     subst ja;rw[List.take_length,←hfs];refine Ep0 ?_;have qq:=N5 2 b t c t1;refine rp1 [5,33,34,35] qq ?_;refine rp1 [5,33,34,35] (ad1 (a:=i) (by omega)) ?_;refine⟨⟨(i+1,c,t1),ia,by simp only[];omega,ht1⟩,?_⟩;exact Fn1 qq
   ·have ia:i=r.length:=by have h1:=oF h1;omega
    subst ia;rw[List.take_length];refine Ep0 ?_;have qq:=N3 2 b t;refine Rp1 [4] qq ?_;refine Tp0 ?_;exact View.own_all (fz:=false) (by simp[Vh]) (by simp)
end Go.Proofs.w
namespace Go.Proofs.w
open Go Go.VM
def Y98:VC:=(ZR [Yw 2 8 0,ZO 4 (.mv (.c .nilsl))] (ZR [ZO 5 (.mv (.c .nilsl))] (.seq (ZR [Ym 8 8 2,ZM 9 1,Yc 10 167 [8,9],Ye 11 10,Yv 12 (Yi 0)] (.block 0 (.loop (ZR [Yr 13 .lss 12 11] (.seq (YC 13 .skip (.exit 0)) (.seq (.block 1 (ZR [Yx 14 8 10 12,Ym 15 8 14,ZO 7 (.alloc ZU),Ys 8 7 15] (.region [ZM 16 5,Ya 17 0 7,Ym 18 3 17,ZO 19 (.bslice 3 1 [Yo,Yo,Yo] [(0,(.t 18))]),ZO 20 (.app 3 24 [Yo,Yo,Yo] false (.t 16) (.t 19)),ZM 5 20] false))) (.region [Yu 21 .add 12 1,ZM 12 21] false))))))) (ZR [ZM 22 5,ZM 4 22] .ret))))
def Y99:VC:=(ZR [Yw 2 8 0,ZO 4 (.alloc [Yo,Yo,Yo]),Yv 5 (Yi 0)] (ZR [Ym 7 8 2,ZM 8 1,Yc 9 104 [7,8],ZM 6 9] (.seq (ZR [ZM 10 6,Ye 11 10] (.block 0 (ZR [Yu 13 .eql 11 0,ZM 12 13] (YC 12 (ZR [ZO 14 (.build [Yo,Yo,Yo] []),Ys 3 4 14,Yv 5 (Yi 7)] .ret) (ZR [Yu 16 .eql 11 1,ZM 15 16] (YC 15 (ZR [ZM 17 6,ZO 18 (.iaddr 3 (.t 17) (Yi 0)),Ym 19 3 18,Ys 3 4 19,Yv 5 (Yi 0)] .ret) .skip)))))) (ZR [ZO 20 (.build [Yo,Yo,Yo] []),Ys 3 4 20,Yv 5 (Yi 8)] .ret))))
theorem Zvp{u:Un}(hu:SmT u)(hn:(unitsT u).length≤1000)(p:List St):(Zdr u p).length≤1000000:=by
 have hb:∀A:List Un,(∀x∈A,x∈unitsT u)→A.length≤(unitsT u).length→wtL A≤1000000:=fun A h1 h2=>
  Nat.le_trans (Zz9 hu h1) (Nat.le_trans (Nat.mul_le_mul h2 (Nat.le_refl _)) (Nat.mul_le_mul hn hn))
 have key:∀(q:List St) (A:List Un),wtL (q.foldl Zkv A)≤wtL A:=by
  intro q
  induction q with
  |nil=>intro A;exact Nat.le_refl _
  |cons y q ih=>intro A;rw[List.foldl_cons];exact Nat.le_trans (ih _) (Znb y A)
 have hp:=Zeo u;unfold Zdr;split
 ·cases p with
  |nil=>show 1≤1000000;omega
  | cons s r=>
   refine Nat.le_trans (Zs0 _) (Nat.le_trans (key r _) (hb _ (fun x hx=>?_) ?_))
   ·split at hx
    ·rw[List.mem_singleton.1 hx];exact Za0 u
    ·exact(List.mem_filter.1 hx).1
   ·split
    ·exact hp
    ·exact List.length_filter_le _ _
 ·exact Zyw _
theorem Z4j{u:Un}(hu:SmT u)(hn:(unitsT u).length≤1000)(p:List St)(hl:p.length≤1000)(hs:∀s∈p,s.label.length≤1000000):Tc 104 [.agg u.enc,.sl 2 (p.map St.enc)] (.sl 3 (((Zdr u p).map idU).map Idt.enc)):=by
 have F:=Xbb hu hn p hl hs;have hfl:=Zvp hu hn p;refine Zac ?_ (Zhy _) (CL2 (Zak u) (Zf1 p));have hut:=Zaq u;have hul:=Zao u;generalize hU:u.enc=U at*;generalize Zdr u p=A at*;have hAn:(A.map Un.enc).length=A.length:=Zyc _;refine Gn (vc:=Y98) [.t 4] Tryz.func104 ?_;simp only[Y98,YY];refine Rp1 [1,2] hul ?_;refine Rp0 [1,2,5] ?_;refine Zc7 5 3 rfl ?_;refine Sp0 ?_;refine Zaa<|Rp1 [5,10,11,12] (x2 hut hul) ?_;refine Ap1 F hAn ?_;refine Zab ?_;refine Zai (σ:={ x:Nat×Nat×Nat//x.1≤A.length∧x.2.1<x.2.2 }) (fun x=>([(5,.own x.1.2.1 0 x.1.1),(10,.sl 8 (A.map Un.enc)),(11,pI A.length),(12,pI x.1.1)],⟨[(x.1.2.1,.arr false 3 (((A.take x.1.1).map idU).map Idt.enc))],x.1.2.2⟩)) (fun x=>A.length-x.1.1) ⟨(0,1,2),Zyw _,by simp only[];omega⟩ ?_ ?_ ?_
 ·exact Fn0
 ·try simp only[vmL,reduceCtorEq,List.take_zero,List.map_nil]
  all_goals (repeat' (first|rfl|trivial|omega|(simp only[];omega)|refine And.intro ?_ ?_))
 rintro⟨⟨k,id,t⟩,hk,hid⟩;simp only[]at hk hid⊢;have qq:=N4 id t (t+1) (t+1+1);refine Rp0 [5,10,11,12,13] ?_;refine Zaa<|Zae rfl (fun h1=>?_) (fun h1=>?_)
 ·have ka:k<A.length:=by have h1:=oT h1;omega
  have hrow:=Zcs (enc:=Un.enc) ka;have hst:((A.take (k+1)).map idU).map Idt.enc=((A.take k).map idU).map Idt.enc++[(idU A[k]).enc]:=by
   rw[List.take_add_one,Zye ka,List.map_append,List.map_append];rfl
  have hBl:(((A.take k).map idU).map Idt.enc).length=k:=by simp;omega
  generalize A[k]=x at hrow hst;have hxl:=Zao x;have hxt:=Zaq x;have hxe:=Un.Zaf x;have hxi:(idU x).enc=[pI x.act,pI x.item,pI x.n]:=rfl;rw[hxi]at hst;generalize((A.take k).map idU).map Idt.enc=B at hst hBl⊢;have hBt:List.take k B=B:=by rw[←hBl,List.take_length]
  refine Kp0 ?_;refine Zaa<|Zab ?_;refine Zaa (Zad [5,7,10,11,12] ?_);simp only[vmL,Nat.reduceEqDiff,Nat.reduceAdd,Nat.reduceLT,hAn,hrow,hxl,hxt,Zyj,qq];refine Ok ?_;refine rp1 [5,10,11,12] (x4 hxe hBl hBt qq) ?_;refine⟨by omega,by omega,?_⟩;refine rp1 [5,10,11,12] (x2 (ad1 (a:=k) (by omega)) qq) ?_;refine⟨⟨(k+1,t+2,t+3),ka,by simp only[];omega⟩,?_⟩;simp only[hst]
  all_goals exact Fn1 qq
 ·have ka:k=A.length:=by have h1:=oF h1;omega
  subst ka;rw[List.take_length];refine Ep0 ?_;refine Rp0 [4] ?_;refine Tp0 ?_;exact View.own_all (fz:=false) (by simp[Vh]) (by simp)
theorem Z4k(x:Idt)(e:Int):Closed (.tup [.agg x.enc,pI e]):=Zbb (by simp only[Zyb,Zya,or_false,Zyv,forall_eq];exact⟨Zah (Idt.closed x),cI _⟩)
theorem Zf2{u:Un}(hu:SmT u)(hn:(unitsT u).length≤1000)(p:List St)(hl:p.length≤1000)(hs:∀s∈p,s.label.length≤1000000):Tc 73 [.agg u.enc,.sl 2 (p.map St.enc)] (.tup [.agg (Zdw u p).1.enc,pI (Zdw u p).2]):=by
 have F:=Z4j hu hn p hl hs;have hfl:=Zvp hu hn p;refine Zac ?_ (Z4k _ _) (CL2 (Zak u) (Zf1 p));have hut:=Zaq u;have hul:=Zao u;generalize hU:u.enc=U at*;unfold Zdw;have hml:((Zdr u p).map idU).length=(Zdr u p).length:=Zyc _;generalize(Zdr u p).map idU=B at*;have hBl:(B.map Idt.enc).length=B.length:=Zyc _;refine Gn (vc:=Y99) [.c 4 true 3,.t 5] Tryz.func73 ?_;simp only[Y99,YY];refine Rp1 [1,2,4] hul ?_;refine Rp1 [4,6] (x2 hut hul) ?_;refine Zag F ?_;refine Zaa<|Rp1 [4,6,11] hBl ?_
 match B with
 | []=>
  refine Zab ?_;refine Rp0 [4,6,11,12] ?_;refine Ct ?_;exact Rv0 [4,5]
 | [x]=>
  have hr:x.enc=[pI x.act,pI x.item,pI x.n]:=rfl;refine Zab ?_;refine Rp0 [4,6,11,12] ?_;refine Cf ?_;refine Rp0 [4,6,15] ?_;refine Ct ?_;refine Rp1 [4,5] hr ?_;refine Ok ?_;exact Tv0
 |x::y::r=>
  have g0:(((x::y::r).length:Int)==0)=false:=by rw[beq_eq_false_iff_ne];simp only[Zyd];omega
  have g1:(((x::y::r).length:Int)==1)=false:=by rw[beq_eq_false_iff_ne];simp only[Zyd];omega
  generalize((x::y::r).length:Int)=N at*;refine Zab ?_;refine Zaa (Zad [4,6,11,12] ?_);simp only[vmL,Nat.reduceEqDiff,g0];refine Cf ?_;refine Rp1 [4,6,15] g1 ?_;refine Fp0 ?_;exact Rv0 [4,5]
end Go.Proofs.w
namespace Go.VM
open Go Go.Proofs.w
def spE(s:Idt×Int):List PV:=[pI s.1.act,pI s.1.item,pI s.1.n,pI s.2]
theorem Zdy(s:Idt×Int)(e:Int):Closed (.tup [.agg (spE s),pI e]):=Zbb (by
 simp only[Zyb,Zya,or_false,Zyv,forall_eq];refine⟨Zah fun y hy=>?_,cI _⟩;simp only[spE,Zyb,Zya,or_false]at hy;rcases hy with rfl|rfl|rfl|rfl<;>exact cI _)
end Go.VM
namespace Go.Proofs.w
open Go Go.VM
def Y100:VC:=(ZR [Yv 2 Yf] (ZR [ZM 3 0,Yu 4 .geq 3 0,ZM 5 4,Yg 6 0 5 true,ZG 7 (.bin .leq (.t 6) (Yi 3)) 5 true,Yz 8 5 7,ZM 2 8] .ret))
def Y101:VC:=(ZR [Yw 3 8 0,Yw 4 3 1,ZO 6 (.alloc [Yo,Yo,Yo,Yo]),Yv 7 (Yi 0)] (ZR [Ym 11 8 3,Ym 12 3 4,Yc 13 74 [11,12],ZM 10 13,Yp 14 10 0,Yp 15 10 1,ZO 8 (.alloc ZU),Ys 8 8 14,ZM 9 15] (.seq (.draw2 [Ym 16 3 4,ZM 17 2,Ya 18 7 8,Yl 19 18,Ye 20 19,ZO 21 (.callv (.t 17) [.t 20]),ZO 22 (.build [Yo,Yo,Yo,Yo] [(0,(3,(.t 16))),(3,(1,(.t 21)))]),Ys 4 6 22,Yv 7 (Yi 0)] [true,true,true,true,true,true,true,false,false]) .ret)))
def Y102:VC:=(ZR [Yw 3 8 0,Yw 4 3 1,ZO 6 (.alloc [Yo,Yo,Yo,Yo]),Yv 7 (Yi 0)] (ZR [Ym 12 8 3,Ym 13 3 4,Yc 14 134 [12,13],ZM 11 14,Yp 15 11 0,Yp 16 11 1,Yp 17 11 2,ZO 8 (.alloc [Yo,Yo,Yo]),Ys 3 8 15,ZM 9 16,ZM 10 17] (.seq (ZR [ZM 18 10,Yn 19 18] (YC 19 (ZR [ZO 20 (.build [Yo,Yo,Yo,Yo] []),Ys 4 6 20,Yv 7 (Yi 9)] .ret) .skip)) (ZR [Ym 21 3 8,ZM 22 9,ZM 23 2,Yr 24 .add 22 23,ZO 25 (.build [Yo,Yo,Yo,Yo] [(0,(3,(.t 21))),(3,(1,(.t 24)))]),Ys 4 6 25,Yv 7 (Yi 0)] .ret))))
def Y103:VC:=(ZR [ZO 0 (.alloc [.nilfn,.nilfn,.nilfn,.nilfn])] (ZR [ZO 1 (.build [.nilfn,.nilfn,.nilfn,.nilfn] [(0,(1,(.c (.fn (.func 234) [] [])))),(1,(1,(.c (.fn (.func 237) [] [])))),(2,(1,(.c (.fn (.func 239) [] [])))),(3,(1,(.c (.fn (.func 241) [] []))))]),Ys 4 0 1] .ret))
def Y104:VC:=(ZR [Yw 2 8 0,Yw 3 3 1,ZO 4 (.alloc [Yo,Yo,Yo,Yo]),Yv 5 (Yi 0)] (ZR [Ym 6 8 2,Ym 7 3 3,ZO 8 (.call 235 [.t 6,.t 7,(.c (.fn (.func 236) [] []))]),Yp 9 8 0,Yp 10 8 1,Ys 4 4 9,ZM 5 10] .ret))
def Y105:VC:=(ZR [Yv 2 (Yi 0)] (ZR [Yv 2 (Yi 0)] .ret))
def Y106:VC:=(ZR [Yw 2 8 0,Yw 3 3 1,ZO 4 (.alloc [Yo,Yo,Yo,Yo]),Yv 5 (Yi 0)] (ZR [Ym 6 8 2,Ym 7 3 3,ZO 8 (.call 235 [.t 6,.t 7,(.c (.fn (.func 238) [] []))]),Yp 9 8 0,Yp 10 8 1,Ys 4 4 9,ZM 5 10] .ret))
def Y107:VC:=(ZR [Yv 2 (Yi 0)] (ZR [ZM 3 0,ZM 2 3] .ret))
def Y108:VC:=(ZR [Yw 2 8 0,Yw 3 3 1,ZO 4 (.alloc [Yo,Yo,Yo,Yo]),Yv 5 (Yi 0)] (ZR [Ym 6 8 2,Ym 7 3 3,ZO 8 (.call 240 [.t 6,.t 7,(Yi 1)]),Yp 9 8 0,Yp 10 8 1,Ys 4 4 9,ZM 5 10] .ret))
def Y109:VC:=(ZR [Yw 2 8 0,Yw 3 3 1,ZO 4 (.alloc [Yo,Yo,Yo,Yo]),Yv 5 (Yi 0)] (ZR [Ym 6 8 2,Ym 7 3 3,ZO 8 (.call 240 [.t 6,.t 7,(Yi 0)]),Yp 9 8 0,Yp 10 8 1,Ys 4 4 9,ZM 5 10] .ret))
theorem Zrg(w:Int):Tc 173 [pI w] (.bool (Zfc w)):=by
 refine Gp (vc:=Y100) [.t 2] (cB _) Tryz.func173 ?_;simp only[Y100,YY];refine Rp0 [0] ?_;unfold Zfc;cases h:decide (0≤w)with
 |true=>
  refine Zaa (Zad [2] ?_);simp only[vmL,Nat.reduceEqDiff,reduceCtorEq,h];exact Tv0
 |false=>
  refine Zaa (Zad [2] ?_);simp only[vmL,Nat.reduceEqDiff,reduceCtorEq,h];exact Tv0
theorem Z74{u:Un}(hu:SmT u)(hn:(unitsT u).length≤1000)(x:Idt)(f:FuncId)(q:Nat→Int)(hf:∀n:Nat,Tc f [pI n] (pI (q n))):
  Tc 235 [.agg u.enc,.agg x.enc,.fn (.func f) [] []] (.tup [.agg (spE (x,q (Zbi x u).1.kids.length)),pI 0]):=by
 have F:=Zdb hu hn x;have hq:=hf (Zbi x u).1.kids.length;refine Zac ?_ (Zdy _ _) (CL3 (Zak u) (Zah (Idt.closed x)) (Zbr (by intro x hx;cases hx)));have hxe:x.enc=[pI x.act,pI x.item,pI x.n]:=rfl;have hut:=Zaq u;have hul:=Zao u;rw[hxe]at F⊢;have eF:=Un.Zaf (Zbi x u).1;rw[eF]at F;generalize u.enc=U at*;generalize Zbi x u=R at*;have hkl:(R.1.kids.map Un.enc).length=R.1.kids.length:=Zyc _;refine Gn (vc:=Y101) [.c 6 true 4,.t 7] Tryz.func235 ?_;simp only[Y101,YY];refine Rp1 [2,3,4,6] hul ?_;refine Rp1 [2,4,6,8] (x2 hut hul) ?_;refine Ap0 F ?_;refine Zaa (Zd5 [6,7] (by simp[Vh]) ?_);refine Sp1 hkl ?_;refine⟨_,.inl hq,?_⟩;refine Sp0 ?_;exact Tv0
theorem Zvq(n:Int):Tc 236 [pI n] (pI 0):=by
 refine Gp (vc:=Y105) [.t 2] (cI _) Tryz.func236 ?_;simp only[Y105,YY];refine Rp0 [] ?_;exact Rv0 [2]
theorem Zvr(n:Int):Tc 238 [pI n] (pI n):=by
 refine Gp (vc:=Y107) [.t 2] (cI _) Tryz.func238 ?_;simp only[Y107,YY];refine Rp0 [0] ?_;exact Rv0 [2]
theorem Zvs{u:Un}(hu:SmT u)(hn:(unitsT u).length≤1000)(x:Idt)(b:Nat)(hb:b≤1):
  Tc 240 [.agg u.enc,.agg x.enc,pI b] (.tup [.agg (spE (if(Zcv x u).2.2=true then((Zcv x u).1,(Zcv x u).2.1+b)else(idZ,0))),pI (if(Zcv x u).2.2=true then 0 else 9)]):=by
 have F:=Zcz hu hn x;have hpa:=fun h=>Zuv (x:=x) hu h;refine Zac ?_ (Zdy _ _) (CL3 (Zak u) (Zah (Idt.closed x)) (cI _));have hxe:x.enc=[pI x.act,pI x.item,pI x.n]:=rfl;have hut:=Zaq u;have hul:=Zao u;have hkb:∀p∈unitsT u,p.kids.length≤1000:=fun p hp=>(hu.units p hp).kids.1;rw[hxe]at F⊢;generalize hU:u.enc=U at*;generalize Zcv x u=R at*;obtain⟨r,at',ok⟩:=R;have hre:r.enc=[pI r.act,pI r.item,pI r.n]:=rfl;simp only[]at F hpa⊢;rw[hre]at F;refine Gn (vc:=Y102) [.c 6 true 4,.t 7] Tryz.func240 ?_;simp only[Y102,YY];refine Rp1 [2,3,4,6] hul ?_;refine Rp1 [2,6,8,9,10] (x2 hut hul) ?_;refine Ap0 F ?_;refine Zaa ?_;cases ok with
 |false=>
  refine Rp0 [2,6,8,9,19] ?_;refine Ct ?_;exact Rv0 [6,7]
 |true=>
  obtain⟨p,p1,_,i,i1,i2,_⟩:=hpa rfl;have hk:=hkb p p1;have hw:=w64 (n:=at'+(b:Int)) (by omega) (by omega);refine Rp0 [2,6,8,9,19] ?_;refine Fp0 ?_;refine Rp1 [6,7] hw ?_;exact Tv0
def Y110:VC:=(ZR [Yw 3 3 1,Yv 4 (Yi 0)] (.seq (ZR [ZM 6 0,Ye 7 6,Yv 8 (Yi 0)] (.block 0 (.loop (ZR [Yr 9 .lss 8 7] (.seq (YC 9 .skip (.exit 0)) (.seq (.block 1 (ZR [ZM 10 8,ZM 5 10] (.seq (.region [Ym 11 3 3,ZM 12 0,ZM 13 5,Yx 14 3 12 13,Ym 15 3 14,ZO 16 (.eqs false [.i,.i,.i] (.t 11) (.t 15))] true) (YC 16 (ZR [ZM 17 5,ZM 4 17] .ret) .skip)))) (.region [Yu 18 .add 8 1,ZM 8 18] false))))))) (ZR [Yv 4 (Yi (-1))] .ret)))
def Y111:VC:=(ZR [Yw 3 3 1,Yv 4 Yf] (ZR [ZM 5 0,Ym 6 3 3,Yc 7 184 [5,6],Yu 8 .geq 7 0,ZM 4 8] .ret))
theorem Z0b(l:List Idt)(s:Idt)(hl:l.length≤1000000):Tc 184 [.sl 3 (l.map Idt.enc),.agg s.enc] (pI (Zuh (fun x=>decide (s=x)) l)):=by
 refine Zac ?_ (cI _) (by intro x hx;simp only[Zyb,Zya,or_false]at hx;rcases hx with rfl|rfl;exact Zaj (fun a _ x hx=>by exact Idt.closed a x hx);exact Zah (Idt.closed s));have hse:s.enc=[pI s.act,pI s.item,pI s.n]:=rfl;rw[hse];have hL:(l.map Idt.enc).length=l.length:=Zyc _;refine Gn (vc:=Y110) [.t 4] Tryz.func184 ?_;simp only[Y110,YY];refine Rp0 [0,3] ?_;refine Zav [(0,.sl 3 (l.map Idt.enc)),(3,.ro [pI s.act,pI s.item,pI s.n])] ⟨Vr,View.loc (z:=3) (fz:=false) (es:=[[pI s.act,pI s.item,pI s.n]]) rfl (by simp) rfl (by simp),trivial⟩ ?_;refine Zaa<|Rp1 [0,3,7,8] hL ?_;refine Zab ?_;refine Zai (σ:={ k:Nat//k≤l.length∧∀(j:Nat) (hj:j<l.length),j<k→decide (s=l[j])=false }) (fun x=>([(0,.sl 3 (l.map Idt.enc)),(3,.ro [pI s.act,pI s.item,pI s.n]),(7,pI l.length),(8,pI x.1)],⟨[],1⟩)) (fun x=>l.length-x.1) ⟨0,Zyw _,fun j _ h=>by cases h⟩ ?_ ?_ ?_
 ·refine Sp0 ?_;rfl
 ·exact Sc0
 rintro⟨k,hk,hpre⟩;simp only[];refine Rp0 [0,3,7,8,9] ?_;refine Zaa<|Zae rfl (fun h1=>?_) (fun h1=>?_)
 ·have ka:k<l.length:=by have h1:=oT h1;omega
  have hrow:(l.map Idt.enc).getD k []=l[k].enc:=Zcs ka;have he:=Zgu s l[k];have hpk:=hpre;generalize hx:l[k]=y at hrow he;have hye:y.enc=[pI y.act,pI y.item,pI y.n]:=rfl;rw[hye]at hrow;refine Kp0 ?_;refine Zaa<|Zab ?_;refine Rp0 [0,3,5,7,8] ?_;refine Zaa (Zaw [0,3,5,7,8,16] (by simp[Vh]) ?_);refine Sp1 (x2 hL hrow) ?_;refine Ok ?_;rw[he];cases hq:decide (s=y)with
  |true=>
   refine Ct ?_;refine Rp0 [4] ?_;refine Tp0 ?_;rw[Zix (fun x=>decide (s=x)) l k ka hpre (by rw[hx];exact hq)];exact Vr
  | false=>
   refine Fp0 ?_;refine rp1 [0,3,7,8] (w64 (n:=(k:Int)+1) (by omega) (by omega)) ?_;refine⟨⟨k+1,ka,fun j hj hjk=>?_⟩,?_,?_⟩
   ·by_cases e:j=k
    ·subst e;rw[hx];exact hq
    ·exact hpre j hj (by omega)
   ·rfl
   ·simp only[];omega
 ·have ka:k=l.length:=by have h1:=oF h1;omega
  refine Ep0 ?_;refine Rp0 [4] ?_;refine Tp0 ?_;rw[Zew (fun x=>decide (s=x)) l (fun j hj=>hpre j hj (by omega))];exact Vr
theorem Zik(l:List Idt)(s:Idt)(hl:l.length≤1000000):Tc 123 [.sl 3 (l.map Idt.enc),.agg s.enc] (.bool (l.contains s)):=by
 have hc:l.contains s=l.any fun x=>decide (s=x):=by
  clear hl
  induction l with
  |nil=>rfl
  |cons a r ih=>rw[List.contains_cons,List.any_cons,ih];rfl
 have F:=Z0b l s hl;refine Zac ?_ (cB _) (by intro x hx;simp only[Zyb,Zya,or_false]at hx;rcases hx with rfl|rfl;exact Zaj (fun a _ x hx=>by exact Idt.closed a x hx);exact Zah (Idt.closed s));have hse:s.enc=[pI s.act,pI s.item,pI s.n]:=rfl;rw[hse]at F⊢;refine Gn (vc:=Y111) [.t 4] Tryz.func123 ?_;simp only[Y111,YY];refine Rp0 [0,3] ?_;refine Rp0 [4] ?_;refine Ap0 F ?_;refine Tp0 ?_;rw[Zgf,hc];exact Vr
def Y112:VC:=(ZR [Yw 3 8 0,ZO 6 (.alloc [Yo,Yo,Yo]),Yv 7 (Yi 0),Yv 8 (Yi 0)] (.seq (ZR [ZM 12 2,Yc 13 173 [12],Yn 14 13] (YC 14 (ZR [ZO 15 (.build [Yo,Yo,Yo] []),Ys 3 6 15,Yv 7 (Yi 0),Yv 8 (Yi 1)] .ret) .skip)) (ZR [Ym 17 8 3,ZM 18 1,Yc 19 73 [17,18],ZM 16 19,Yp 20 16 0,Yp 21 16 1,ZO 9 (.alloc [Yo,Yo,Yo]),Ys 3 9 20,ZM 10 21] (.seq (ZR [ZM 22 10,Yu 23 .neq 22 0] (YC 23 (ZR [ZO 24 (.build [Yo,Yo,Yo] []),ZM 25 10,Ys 3 6 24,Yv 7 (Yi 0),ZM 8 25] .ret) .skip)) (.seq (.draw2 [Yc 27 212 [],ZM 28 2,ZO 29 (.px (.ixv 4) [.t 27,.t 28]),Ym 30 8 3,Ym 31 3 9,ZO 32 (.callv (.t 29) [.t 30,.t 31]),ZM 26 32,Yp 33 26 0,Yp 34 26 1,ZO 11 (.alloc [Yo,Yo,Yo,Yo]),Ys 4 11 33,ZM 10 34] [true,true,true,true,true,true,true,true,false,true,false,false]) (.seq (ZR [ZM 35 10,Yu 36 .neq 35 0] (YC 36 (ZR [ZO 37 (.build [Yo,Yo,Yo] []),ZM 38 10,Ys 3 6 37,Yv 7 (Yi 0),ZM 8 38] .ret) .skip)) (.seq (.draw2 [Ya 39 0 11,Ym 40 3 39,Ya 41 3 11,Yl 42 41,Ys 3 6 40,ZM 7 42,Yv 8 (Yi 0)] [true,true,false,false,false,false,false]) .ret)))))))
def Y113:VC:=(ZR [Yw 4 8 0,Yw 5 3 1,Yw 6 3 2,ZO 8 (.alloc [Yo,Yo,Yo,Yo]),Yv 9 (Yi 0)] (ZR [ZM 17 3,Yu 18 .eql 17 2,ZM 19 18,Yg 20 3 19 false,ZG 21 (.bin .eql (.t 20) (Yi 3)) 19 false,Yh 22 19 21,ZM 10 22] (ZR [Ym 24 8 4,Ym 25 3 5,Yc 26 134 [24,25],ZM 23 26,Yp 27 23 0,Yp 28 23 1,Yp 29 23 2,ZO 11 (.alloc [Yo,Yo,Yo]),Ys 3 11 27,ZM 12 28,ZM 13 29] (.seq (.region [Ym 30 3 6,Ym 31 3 5,ZO 32 (.eqs true [.i,.i,.i] (.t 30) (.t 31)),ZM 33 32,Yj 34 8 4 33 true,Yj 35 3 6 33 true,ZG 36 (.call 178 [.t 34,.t 35]) 33 true,Yj 37 3 5 33 true,ZG 38 (.call 123 [.t 36,.t 37]) 33 true,Yz 39 33 38,ZM 14 39] true) (.seq (ZR [ZM 40 13,Yn 41 40,ZM 42 41,Yg 43 14 42 false,Yh 44 42 43,ZM 45 44,Yj 46 3 6 45 false,Yj 47 3 5 45 false,ZG 48 (.eqs false [.i,.i,.i] (.t 46) (.t 47)) 45 false,Yg 49 48 45 false,Yg 50 10 49 true,Yq 51 50 49 true,ZG 52 (.pick (.t 49) (.t 51) Yf) 45 false,Yh 53 45 52] (YC 53 (ZR [ZO 54 (.build [Yo,Yo,Yo,Yo] []),Ys 4 8 54,Yv 9 (Yi 9)] .ret) .skip)) (.seq (ZR [Ym 55 3 6,Ym 56 3 5,ZO 57 (.eqs false [.i,.i,.i] (.t 55) (.t 56))] (YC 57 (ZR [Ym 58 3 11,ZM 59 12,ZO 60 (.build [Yo,Yo,Yo,Yo] [(0,(3,(.t 58))),(3,(1,(.t 59)))]),Ys 4 8 60,Yv 9 (Yi 0)] .ret) .skip)) (.seq (.draw2 [Yc 62 212 [],ZM 63 3,ZO 64 (.px (.ixv 4) [.t 62,.t 63]),Ym 65 8 4,Ym 66 3 6,ZO 67 (.callv (.t 64) [.t 65,.t 66]),ZM 61 67,Yp 68 61 0,Yp 69 61 1,ZO 15 (.alloc [Yo,Yo,Yo,Yo]),Ys 4 15 68,ZM 16 69] [true,true,true,true,true,true,true,true,false,true,false,false]) (.seq (ZR [ZM 70 16,Yu 71 .eql 70 0,ZM 72 71,Yb 73 0 15 72 true,Yj 74 3 73 72 true,Yj 75 3 11 72 true,ZG 76 (.eqs false [.i,.i,.i] (.t 74) (.t 75)) 72 true,Yz 77 72 76,ZM 78 77,Yg 79 12 78 true,Yb 80 3 15 78 true,Yk 81 80 78 true,ZG 82 (.bin .lss (.t 79) (.t 81)) 78 true,Yz 83 78 82] (YC 83 (.region [Ya 84 3 15,Yl 85 84,Yu 86 .sub 85 1,Ya 87 3 15,Ys 1 87 86] false) .skip)) (ZR [Ym 88 4 15,ZM 89 16,Ys 4 8 88,ZM 9 89] .ret)))))))))
def Y114:VC:=(ZR [Yw 2 8 0,Yw 3 25 1,ZO 4 (.alloc [Yo,Yo,Yo]),Yv 5 (Yi 0),Yv 6 (Yi 0)] (.seq (ZR [Ya 11 0 3,Yl 12 11,Yu 13 .eql 12 0] (YC 13 (ZR [Ym 14 8 2,Ya 15 1 3,Yl 16 15,Ya 17 3 3,Yl 18 17,Yc 19 172 [14,16,18],Yp 20 19 0,Yp 21 19 1,Yp 22 19 2,Ys 3 4 20,ZM 5 21,ZM 6 22] .ret) .skip)) (.seq (ZR [Ya 23 0 3,Yl 24 23,Yu 25 .neq 24 6,ZM 26 25,Yb 27 3 3 26 false,Yk 28 27 26 false,ZG 29 (.call 173 [.t 28]) 26 false,Yq 30 29 26 false,Yh 31 26 30] (YC 31 (ZR [ZO 32 (.build [Yo,Yo,Yo] []),Ys 3 4 32,Yv 5 (Yi 0),Yv 6 (Yi 1)] .ret) .skip)) (ZR [Ym 34 8 2,Ya 35 1 3,Yl 36 35,Yc 37 73 [34,36],ZM 33 37,Yp 38 33 0,Yp 39 33 1,ZO 7 (.alloc [Yo,Yo,Yo]),Ys 3 7 38,ZM 8 39] (.seq (ZR [ZM 40 8,Yu 41 .neq 40 0] (YC 41 (ZR [ZO 42 (.build [Yo,Yo,Yo] []),ZM 43 8,Ys 3 4 42,Yv 5 (Yi 0),ZM 6 43] .ret) .skip)) (ZR [Ym 45 8 2,Ya 46 2 3,Yl 47 46,Yc 48 73 [45,47],ZM 44 48,Yp 49 44 0,Yp 50 44 1,ZO 9 (.alloc [Yo,Yo,Yo]),Ys 3 9 49,ZM 8 50] (.seq (ZR [ZM 51 8,Yu 52 .neq 51 0] (YC 52 (ZR [ZO 53 (.build [Yo,Yo,Yo] []),ZM 54 8,Ys 3 4 53,Yv 5 (Yi 0),ZM 6 54] .ret) .skip)) (ZR [Ym 56 8 2,Ym 57 3 7,Ym 58 3 9,Ya 59 3 3,Yl 60 59,Yc 61 174 [56,57,58,60],ZM 55 61,Yp 62 55 0,Yp 63 55 1,ZO 10 (.alloc [Yo,Yo,Yo,Yo]),Ys 4 10 62,ZM 8 63] (.seq (ZR [ZM 64 8,Yu 65 .neq 64 0] (YC 65 (ZR [ZO 66 (.build [Yo,Yo,Yo] []),ZM 67 8,Ys 3 4 66,Yv 5 (Yi 0),ZM 6 67] .ret) .skip)) (.seq (.draw2 [Ya 68 0 10,Ym 69 3 68,Ya 70 3 10,Yl 71 70,Ys 3 4 69,ZM 5 71,Yv 6 (Yi 0)] [true,true,false,false,false,false,false]) .ret))))))))))
def leadF(w:Int):FuncId:=if w=0 then 234 else if w=1 then 237 else if w=2 then 239 else 241
theorem Z75{u:Un}(hu:SmT u)(hn:(unitsT u).length≤1000)(x:Idt):
  Tc 234 [.agg u.enc,.agg x.enc] (.tup [.agg (spE (Zbx 0 u x).1),pI (Zbx 0 u x).2]):=by
 have F:=Z74 hu hn x 236 (fun _=>0) (fun n=>Zvq n);refine Zac ?_ (Zdy _ _) (CL2 (Zak u) (Zah (Idt.closed x)));have hxe:x.enc=[pI x.act,pI x.item,pI x.n]:=rfl;have hut:=Zaq u;have hul:=Zao u;change Zgy _ _ _ (.tup [.agg (spE (Zbx 0 u x).1),pI (Zbx 0 u x).2])at F;generalize Zbx 0 u x=L at*;have hs:spE L.1=[pI L.1.1.act,pI L.1.1.item,pI L.1.1.n,pI L.1.2]:=rfl;rw[hxe,hs]at F;rw[hxe,hs];generalize u.enc=U at*;refine Gn (vc:=Y104) [.c 4 true 4,.t 5] Tryz.func234 ?_;simp only[Y104,YY];refine Rp1 [2,3,4] hul ?_;refine Rp1 [4,5] (x2 hut hul) ?_;refine Ap0 F ?_;exact Tv0
theorem Z76{u:Un}(hu:SmT u)(hn:(unitsT u).length≤1000)(x:Idt):
  Tc 237 [.agg u.enc,.agg x.enc] (.tup [.agg (spE (Zbx 1 u x).1),pI (Zbx 1 u x).2]):=by
 have F:=Z74 hu hn x 238 (fun n=>(n:Int)) (fun n=>Zvr n);refine Zac ?_ (Zdy _ _) (CL2 (Zak u) (Zah (Idt.closed x)));have hxe:x.enc=[pI x.act,pI x.item,pI x.n]:=rfl;have hut:=Zaq u;have hul:=Zao u;change Zgy _ _ _ (.tup [.agg (spE (Zbx 1 u x).1),pI (Zbx 1 u x).2])at F;generalize Zbx 1 u x=L at*;have hs:spE L.1=[pI L.1.1.act,pI L.1.1.item,pI L.1.1.n,pI L.1.2]:=rfl;rw[hxe,hs]at F;rw[hxe,hs];generalize u.enc=U at*;refine Gn (vc:=Y106) [.c 4 true 4,.t 5] Tryz.func237 ?_;simp only[Y106,YY];refine Rp1 [2,3,4] hul ?_;refine Rp1 [4,5] (x2 hut hul) ?_;refine Ap0 F ?_;exact Tv0
theorem Z77{u:Un}(hu:SmT u)(hn:(unitsT u).length≤1000)(x:Idt):
  Tc 239 [.agg u.enc,.agg x.enc] (.tup [.agg (spE (Zbx 2 u x).1),pI (Zbx 2 u x).2]):=by
 have F:=Zvs hu hn x 1 (by omega);refine Zac ?_ (Zdy _ _) (CL2 (Zak u) (Zah (Idt.closed x)));have hxe:x.enc=[pI x.act,pI x.item,pI x.n]:=rfl;have hut:=Zaq u;have hul:=Zao u;have hL:(spE (Zbx 2 u x).1,(Zbx 2 u x).2)=(spE (if(Zcv x u).2.2=true then((Zcv x u).1,(Zcv x u).2.1+(1:Nat))else(idZ,0)),if(Zcv x u).2.2=true then 0 else 9):=by
  unfold Zbx;split<;>rename_i h
  ·cases h
  ·split<;>rename_i h'
   ·cases h'
   ·split<;>rfl
 injection hL with hL hM
 rw[←hL,←hM]at F;generalize Zbx 2 u x=L at*;have hs:spE L.1=[pI L.1.1.act,pI L.1.1.item,pI L.1.1.n,pI L.1.2]:=rfl;rw[hxe,hs]at F;rw[hxe,hs];generalize u.enc=U at*;refine Gn (vc:=Y108) [.c 4 true 4,.t 5] Tryz.func239 ?_;simp only[Y108,YY];refine Rp1 [2,3,4] hul ?_;refine Rp1 [4,5] (x2 hut hul) ?_;refine Ap0 F ?_;exact Tv0
theorem Z78{u:Un}(hu:SmT u)(hn:(unitsT u).length≤1000)(x:Idt):
  Tc 241 [.agg u.enc,.agg x.enc] (.tup [.agg (spE (Zbx 3 u x).1),pI (Zbx 3 u x).2]):=by
 have F:=Zvs hu hn x 0 (by omega);refine Zac ?_ (Zdy _ _) (CL2 (Zak u) (Zah (Idt.closed x)));have hxe:x.enc=[pI x.act,pI x.item,pI x.n]:=rfl;have hut:=Zaq u;have hul:=Zao u;have hL:(spE (Zbx 3 u x).1,(Zbx 3 u x).2)=(spE (if(Zcv x u).2.2=true then((Zcv x u).1,(Zcv x u).2.1+(0:Nat))else(idZ,0)),if(Zcv x u).2.2=true then 0 else 9):=by
  unfold Zbx;split<;>rename_i h
  ·cases h
  ·split<;>rename_i h'
   ·cases h'
   ·split<;>rfl
 injection hL with hL hM
 rw[←hL,←hM]at F;generalize Zbx 3 u x=L at*;have hs:spE L.1=[pI L.1.1.act,pI L.1.1.item,pI L.1.1.n,pI L.1.2]:=rfl;rw[hxe,hs]at F;rw[hxe,hs];generalize u.enc=U at*;refine Gn (vc:=Y109) [.c 4 true 4,.t 5] Tryz.func241 ?_;simp only[Y109,YY];refine Rp1 [2,3,4] hul ?_;refine Rp1 [4,5] (x2 hut hul) ?_;refine Ap0 F ?_;exact Tv0
theorem Z2e:Tc 212 [] (.agg [.fn (.func 234) [] [],.fn (.func 237) [] [],.fn (.func 239) [] [],.fn (.func 241) [] []]):=by
 refine Zac ?_ (Zah fun y hy=>?_) (by intro y hy;cases hy)
 ·refine Gn (vc:=Y103) [.c 0 true 4] Tryz.func212 ?_;simp only[Y103,YY];refine Rp0 [0] ?_;exact Rv0 [0]
 ·simp only[Zyb,Zya,or_false]at hy;rcases hy with rfl|rfl|rfl|rfl<;>exact Zbr (by intro x hx;cases hx)
theorem Z79{u:Un}(hu:SmT u)(hn:(unitsT u).length≤1000)(x:Idt){w:Int}(hw:Zfc w=true):
  Tc (leadF w) [.agg u.enc,.agg x.enc] (.tup [.agg (spE (Zbx w u x).1),pI (Zbx w u x).2]):=by
 have h:w=0∨w=1∨w=2∨w=3:=by unfold Zfc at hw;simp at hw;omega
 rcases h with rfl|rfl|rfl|rfl
 ·exact Z75 hu hn x
 ·exact Z76 hu hn x
 ·exact Z77 hu hn x
 ·exact Z78 hu hn x
theorem Z2f{w:Int}(hw:Zfc w=true):w<4∧0≤w∧[PV.fn (.func 234) [] [],.fn (.func 237) [] [],.fn (.func 239) [] [],.fn (.func 241) [] []].getD w.toNat .any=.fn (.func (leadF w)) [] []:=by
 have h:w=0∨w=1∨w=2∨w=3:=by unfold Zfc at hw;simp at hw;omega
 rcases h with rfl|rfl|rfl|rfl<;>exact⟨by omega,by omega,rfl⟩
theorem Zvt(x:Idt)(a b:Int):Closed (.tup [.agg x.enc,pI a,pI b]):=Zbb (by simp only[Zyb,Zya,or_false,Zyv,forall_eq];exact⟨Zah (Idt.closed x),cI _,cI _⟩)
def Zkh(w:Int)(u:Un)(p:List St):(Idt×Int)×Int:=
 if Zfc w=true then(if(Zdw u p).2=0 then(if(Zbx w u (Zdw u p).1).2=0 then Zbx w u (Zdw u p).1 else((idZ,0),(Zbx w u (Zdw u p).1).2))else((idZ,0),(Zdw u p).2))else((idZ,0),1)
theorem Zlu{u:Un}(hu:SmT u)(hn:(unitsT u).length≤1000)(p:List St)(hl:p.length≤1000)(hs:∀s∈p,s.label.length≤1000000)(w:Int):
  Tc 172 [.agg u.enc,.sl 2 (p.map St.enc),pI w] (.tup [.agg (Zkh w u p).1.1.enc,pI (Zkh w u p).1.2,pI (Zkh w u p).2]):=by
 have F:=Zf2 hu hn p hl hs;have W:=Zrg w;have L:=fun h=>Z79 hu hn (Zdw u p).1 (w:=w) h;refine Zac ?_ (Zvt _ _ _) (CL3 (Zak u) (Zf1 p) (cI _));have hut:=Zaq u;have hul:=Zao u;unfold Zkh;generalize hU:u.enc=U at*;generalize p.map St.enc=PE at*;generalize Zdw u p=O at*;generalize Zbx w u O.1=R at*;have hxe:O.1.enc=[pI O.1.act,pI O.1.item,pI O.1.n]:=rfl;have hse:spE R.1=[pI R.1.1.act,pI R.1.1.item,pI R.1.1.n,pI R.1.2]:=rfl;rw[hxe]at F L;rw[hse]at L;refine Gn (vc:=Y112) [.c 6 true 3,.t 7,.t 8] Tryz.func172 ?_;simp only[Y112,YY];refine Rp1 [1,2,3,6] hul ?_;refine Zaa<|Rp0 [1,2,3,6,14] ?_;refine Ap0 W ?_;cases hw:Zfc w with
 |false=>
  refine Ct ?_;exact Rv0 [6,7,8]
 | true=>
  obtain⟨l1,l2,l3⟩:=Z2f hw
  replace L:=L hw
  refine Fp0 ?_;refine Rp1 [2,3,6,9,10] (x2 hut hul) ?_;refine Ap0 F ?_;refine Zaa<|Rp0 [2,3,6,9,10,23] ?_;refine Zae rfl (fun h2=>?_) (fun h2=>?_)
  ·have h2':¬O.2=0:=by simpa using h2
   rw[if_neg h2'];exact Rv0 [6,7,8]
  have h2':O.2=0:=by simpa using h2
  rw[if_pos h2'];refine Kp0 ?_;refine Zaa (Zfs [6,10,11] ⟨[(0,.arr false 8 [U]),(2,.arr false 3 [[pI O.1.act,pI O.1.item,pI O.1.n]])],23⟩ (by simp[Vh]) ?_);refine Sp1 hul ?_;refine⟨_,.inl Z2e,?_⟩;refine Sp1 (x2 hut hul) ?_;refine⟨⟨l2,by omega⟩,?_⟩;rw[l3];refine⟨_,.inl L,?_⟩;refine Sp0 ?_;refine Zaa<|Rp0 [6,10,11,36] ?_;refine Zae rfl (fun h3=>?_) (fun h3=>?_)
  ·have h3':¬R.2=0:=by simpa using h3
   rw[if_neg h3'];exact Rv0 [6,7,8]
  have h3':R.2=0:=by simpa using h3
  rw[if_pos h3'];have hye:R.1.1.enc=[pI R.1.1.act,pI R.1.1.item,pI R.1.1.n]:=rfl;rw[hye,h3'];refine Kp0 ?_;refine Zaa (Zfs [6,7,8] ⟨[(3,.arr false 4 [[pI R.1.1.act,pI R.1.1.item,pI R.1.1.n,pI R.1.2]])],24⟩ (by simp[Vh]) ?_);refine Sp0 ?_;exact Tv0
theorem Xef{u:Un}(hu:SmT u)(hn:(unitsT u).length≤1000)(id tu:Idt)(htu:tu∈Zbc u){w:Int}(hw:Zfc w=true):
  Tc 174 [.agg u.enc,.agg id.enc,.agg tu.enc,pI w] (.tup [.agg (spE (Zi4 u id tu w).1),pI (Zi4 u id tu w).2]):=by
 have FP:=Zcz hu hn id;have FA:=Zmc hu hn tu;have FC:=Zik (Z5j tu u) id (by unfold Z5j;have:=Zli (x:=tu) hu;simp;omega);have L:=Z79 hu hn tu hw;have hkb:(Zbx w u tu).2=0→0≤(Zbx w u tu).1.2∧(Zbx w u tu).1.2≤1000:=fun h=>by
  obtain⟨q,q1,_,n,n1,n2⟩:=Zka hu htu h;have:=(hu.units q q1).kids.1;omega
 obtain⟨l1,l2,l3⟩:=Z2f hw;refine Zac ?_ (Zdy _ _) (CL4 (Zak u) (Zah (Idt.closed id)) (Zah (Idt.closed tu)) (cI _));have hut:=Zaq u;have hul:=Zao u;unfold Zi4;generalize hU:u.enc=U at*;generalize Zcv id u=O at*;generalize Zbx w u tu=R at*;generalize Z5j tu u=A at*;generalize hB:(decide (w=2)||decide (w=3))=B at*;have hie:id.enc=[pI id.act,pI id.item,pI id.n]:=rfl;have hte:tu.enc=[pI tu.act,pI tu.item,pI tu.n]:=rfl;have hoe:O.1.enc=[pI O.1.act,pI O.1.item,pI O.1.n]:=rfl;have hse:spE R.1=[pI R.1.1.act,pI R.1.1.item,pI R.1.1.n,pI R.1.2]:=rfl;rw[hoe]at FP;rw[hse]at L;rw[hie]at FP FC;rw[hte]at FA L;rw[hie,hte];refine Gn (vc:=Y113) [.c 8 true 4,.t 9] Tryz.func174 ?_;simp only[Y113,YY];refine Rp1 [3,4,5,6,8] hul ?_;refine Zaa (Zad [3,4,5,6,8,10] ?_);have hc:((w==2)=true∧B=true)∨((w==2)=false∧(w==3)=B):=by
  rw[←hB];by_cases h:w=2
  ·exact .inl ⟨by simp[h],by simp[h]⟩
  ·exact .inr ⟨by simp[h],by simp[h];rfl⟩
 clear hB;have e0:=Zgu tu id;have e1:((tu.act==id.act&&(tu.item==id.item&&(tu.n==id.n&&true))) !=true)= !decide (tu=id):=by rw[←e0];cases(tu.act==id.act&&(tu.item==id.item&&(tu.n==id.n&&true)))<;>rfl
 by_cases hti:tu=id
 ·rw [Zyf hti]at e0 e1;rw[show(!true)=false from rfl]at e1;rw[if_pos hti];have hd1:decide (tu≠id)=false:=by simp[hti]
  rw[hd1,Zyf hti];rcases hc with⟨c1,c2⟩|⟨c1,c2⟩
  all_goals
   refine Sp1 (x2 c1 c2) ?_;refine Rp1 [3,4,5,6,8,10,11,12,13] (x2 hut hul) ?_;refine Ap0 FP ?_;refine Zaa (Zaw [3,4,5,6,8,10,11,12,13,14] (by simp[Vh]) ?_);refine Sp1 (x2 e0 e1) ?_;refine Zaa ?_;refine Zaa (Zad [3,4,5,6,8,11,12,53] ?_);cases hok:O.2.2 with
   |false=>
    simp only[vmL,Nat.reduceEqDiff,e0,e1,hok];refine Ct ?_;exact Rv0 [8,9]
   | true=>
    cases B with
    | false=>
     try (cases c2;done)
     all_goals
      refine Sp1 (x3 e0 e1 hok) ?_;refine Ct ?_;exact Rv0 [8,9]
    |true=>
     refine Sp1 (x3 e0 e1 hok) ?_;refine Fp0 ?_;refine Zaa<|Rp1 [3,4,6,8,11,12,57] e0 ?_;refine Ct ?_;exact Rv0 [8,9]
 ·rw [Zyg hti]at e0 e1;rw[show(!false)=true from rfl]at e1;rw[if_neg hti];have hd1:decide (tu≠id)=true:=by simp[hti]
  rw[hd1,Zyg hti];rcases hc with⟨c1,c2⟩|⟨c1,c2⟩
  all_goals
   refine Sp1 (x2 c1 c2) ?_;refine Rp1 [3,4,5,6,8,10,11,12,13] (x2 hut hul) ?_;refine Ap0 FP ?_;refine Zaa (Zaw [3,4,5,6,8,10,11,12,13,14] (by simp[Vh]) ?_);refine Sp1 (x4 e0 e1 hut hul) ?_;refine⟨_,.inl FA,?_⟩
   skip
   refine⟨_,.inl FC,?_⟩
   skip
   refine Zaa ?_;refine Zaa (Zad [3,4,5,6,8,11,12,53] ?_);cases hok:O.2.2 with
   |false=>
    refine Sp1 (x3 e0 e1 hok) ?_;refine Ct ?_;exact Rv0 [8,9]
   | true=>
    cases hct:A.contains id with
    |true=>
     simp only[vmL,Nat.reduceEqDiff,e0,e1,hok,hct];refine Ct ?_;exact Rv0 [8,9]
    | false=>
     refine Sp1 (x4 e0 e1 hok hct) ?_;refine Fp0 ?_;refine Zaa<|Rp1 [3,4,6,8,11,12,57] e0 ?_;refine Fp0 ?_;refine Zaa (Zfs [8,11,12,15,16] ⟨[(0,.arr false 8 [U]),(2,.arr false 3 [[pI tu.act,pI tu.item,pI tu.n]])],25⟩ (by simp[Vh]) ?_);refine Sp1 hul ?_;refine⟨_,.inl Z2e,?_⟩;refine Sp1 (x2 hut hul) ?_;refine⟨⟨l2,by omega⟩,?_⟩;rw[l3];refine⟨_,.inl L,?_⟩;refine Sp0 ?_;have hne:∀c:Bool,((false||true&&false||false&&c)=true)=False:=by decide
     simp only[hne,↓reduceIte];refine Zaa ?_;refine Zaa (Zad [8,15,16,83] ?_);by_cases hR2:R.2=0
     case neg=>
      rw[if_neg (fun h=>hR2 h.1)];have g2:(R.2==0)=false:=by simpa using hR2
      refine Sp1 g2 ?_;refine Fp0 ?_;refine Rp0 [8,9] ?_;refine Tp0 ?_;rw[hse];exact Vr
     have g2:(R.2==0)=true:=by simpa using hR2
     have e2:=Zgu R.1.1 O.1;by_cases hR1:R.1.1=O.1
     case neg=>
      rw[if_neg (fun h=>hR1 h.2.1)];rw[Zyg hR1]at e2;refine Sp1 (x2 g2 e2) ?_;refine Fp0 ?_;refine Rp0 [8,9] ?_;refine Tp0 ?_;rw[hse];exact Vr
     rw[Zyf hR1]at e2;by_cases hlt:O.2.1<R.1.2
     case neg=>
      rw[if_neg (fun h=>hlt h.2.2)];have g3:decide (O.2.1<R.1.2)=false:=Zyg hlt;refine Sp1 (x3 g2 e2 g3) ?_;refine Fp0 ?_;refine Rp0 [8,9] ?_;refine Tp0 ?_;rw[hse];exact Vr
     have g3:decide (O.2.1<R.1.2)=true:=Zyf hlt;rw[if_pos ⟨hR2,hR1,hlt⟩];obtain⟨k1,k2⟩:=hkb hR2;have hw1:=w64 (n:=R.1.2-1) (by omega) (by omega);refine Sp1 (x3 g2 e2 g3) ?_;refine Ct ?_;refine rp1 [8,15,16] hw1 ?_;exact Rv0 [8,9]
end Go.Proofs.w
namespace Go.Proofs.YtldogpfookkbaaaGreatDoor.rd
open Go Go.VM
variable {W:World}
theorem k3:Tryz.prog.cellsOf 3=1:=by kernel_rfl
theorem k9:Tryz.prog.cellsOf 9=1:=by kernel_rfl
theorem k95:Tryz.prog.cellsOf 95=3:=by kernel_rfl
theorem k97:Tryz.prog.cellsOf 97=4:=by kernel_rfl
theorem k35:Tryz.prog.cellsOf 35=3:=by kernel_rfl
theorem k36:Tryz.prog.cellsOf 36=1:=by kernel_rfl
theorem k37:Tryz.prog.cellsOf 37=1:=by kernel_rfl
theorem k39:Tryz.prog.cellsOf 39=8:=by kernel_rfl
theorem k100:Tryz.prog.cellsOf 100=2:=by kernel_rfl
theorem k41:Tryz.prog.cellsOf 41=3:=by kernel_rfl
theorem k84:Tryz.prog.cellsOf 84=25:=by kernel_rfl
theorem k81:Tryz.prog.cellsOf 81=1:=by kernel_rfl
theorem k82:Tryz.prog.cellsOf 82=1:=by kernel_rfl
theorem k42:Tryz.prog.cellsOf 42=1:=by kernel_rfl
theorem k44:Tryz.prog.cellsOf 44=7:=by kernel_rfl
theorem rI(n:Nat):Reads Tryz.prog W n 3 i64 (fun a=>[pI a]):=Z6a Tryz.underlying3
def enc3(x:Int×Int×Int×Unit):List PV:=[pI x.1,pI x.2.1,pI x.2.2.1]
def ok3(x:Int×Int×Int×Unit):Prop:=i64 x.1∧i64 x.2.1∧i64 x.2.2.1∧True
theorem r95(n:Nat):Reads Tryz.prog W n 95 ok3 enc3:=by
 cases n with
 |zero=>exact Zlc
 |succ n=>exact Reads.map (fun x:Int×Int×Int×Unit=>x) (Zl4 Tryz.underlying95 rfl k95 (Zdu (by exact(rI n)) (by exact k3) (by exact(fun _=>rfl)) (by rfl) (Zdu (by exact(rI n)) (by exact k3) (by exact(fun _=>rfl)) (by rfl) (Zdu (by exact(rI n)) (by exact k3) (by exact(fun _=>rfl)) (by rfl) Zqs))) (by exact fun _=>rfl)) (fun _ h=>h) (fun _=>rfl)
theorem r35(n:Nat):Reads Tryz.prog W n 35 ok3 enc3:=by
 cases n with
 |zero=>exact Zlc
 |succ n=>exact Reads.map (fun x:Int×Int×Int×Unit=>x) (Zl4 Tryz.underlying35 rfl k35 (Zdu (by exact(rI n)) (by exact k3) (by exact(fun _=>rfl)) (by rfl) (Zdu (by exact(rI n)) (by exact k3) (by exact(fun _=>rfl)) (by rfl) (Zdu (by exact(rI n)) (by exact k3) (by exact(fun _=>rfl)) (by rfl) Zqs))) (by exact fun _=>rfl)) (fun _ h=>h) (fun _=>rfl)
theorem Z8a(u:Un):u.enc.length=8:=by rw[Un.Zaf];rfl
end Go.Proofs.YtldogpfookkbaaaGreatDoor.rd
