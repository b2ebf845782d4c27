import Derived.Test.YtldogpfookkbaaaGreatDoorIh
set_option linter.all false
set_option maxRecDepth 20000
set_option maxHeartbeats 0
namespace Go.VM
open Go Go.Proofs.w
def Z9y(k:Int):FuncId:=if k=0 then 137 else if k=1 then 141 else if k=2 then 143 else if k=3 then 147 else if k=4 then 149 else if k=5 then 151 else 154
def mayF(k:Int):FuncId:=if k=0 then 138 else if k=1 then 142 else if k=2 then 144 else if k=3 then 148 else if k=4 then 150 else if k=5 then 152 else 155
theorem Ze0{k:Int}(h:Zc1 k=true):k=0∨k=1∨k=2∨k=3∨k=4∨k=5∨k=6:=by
 unfold Zc1 at h;rw[Zx4,Zx3,Zx3]at h;omega
end Go.VM
namespace Go.Proofs.w
open Go Go.VM
def Y175:VC:=(ZR [Yw 1 25 0,Yv 2 Yf] (.seq (.draw2 [Yc 7 99 [],Ya 8 0 1,Yl 9 8,ZO 10 (.lookup (.one .i) (.agg [.nilfn,.nilfn]) true (.t 7) (.t 9)),ZM 6 10,Yp 11 6 0,Yp 12 6 1,ZO 3 (.alloc [.nilfn,.nilfn]),Ys 2 3 11,ZM 4 12] [true,true,true,true,true,true,false,true,false,false]) (.seq (ZR [ZM 13 4,Yn 14 13] (YC 14 (ZR [Yv 2 Yf] .ret) .skip)) (ZR [Ya 15 0 3,Yl 16 15,Ym 17 25 1,ZO 18 (.callv (.t 16) [.t 17]),ZO 5 (.alloc YI),Ys 25 5 18] (ZR [Ya 19 0 1,Yl 20 19,Ya 21 0 5,Ys 1 21 20] (.seq (ZR [Ya 22 0 1,Yl 23 22,Yc 24 59 [23]] (YC 24 (.seq (.draw2 [Ya 25 1 1,Yl 26 25,Ya 27 16 1,Yl 28 27,Ya 29 17 1,Ym 30 3 29,Ya 31 1 5,Ys 1 31 26,Ya 32 16 5,Ys 1 32 28,Ya 33 17 5,Ys 3 33 30] [true,true,false,false,false,false,true,false,false,false,false,false]) (ZR [Ya 34 1 1,Yl 35 34,Yc 36 100 [35],Yn 37 36,ZM 38 37,Yb 39 16 1 38 false,Yk 40 39 38 false,ZG 41 (.bin .neq (.t 40) (.c (.str []))) 38 false,Yg 42 41 38 false,Yb 43 16 1 42 true,Yk 44 43 42 true,ZG 45 (.call 101 [.t 44]) 42 true,Yq 46 45 42 true,ZG 47 (.pick (.t 42) (.t 46) Yf) 38 false,Yh 48 38 47,ZM 49 48,Yb 50 17 1 49 false,Yj 51 3 50 49 false,ZG 52 (.call 102 [.t 51]) 49 false,Yq 53 52 49 false,Yh 54 49 53] (YC 54 (ZR [Yv 2 Yf] .ret) .skip))) .skip)) (ZR [Ym 55 25 1,Ym 56 25 5,Yc 57 103 [55,56],ZM 58 57,Yb 59 1 3 58 true,Yk 60 59 58 true,Yj 61 25 1 58 true,ZG 62 (.callv (.t 60) [.t 61]) 58 true,Yz 63 58 62,ZM 2 63] .ret)))))))
def Y176:VC:=(ZR [Yv 2 Yf] (ZR [ZM 3 0,Yu 4 .geq 3 0,ZM 5 4,Yg 6 0 5 true,ZG 7 (.bin .leq (.t 6) (Yi 6)) 5 true,Yz 8 5 7,ZM 2 8] .ret))
theorem Z42{k:Int}(h:Zc1 k=true):Zbn (pI k) Zrp=some (.agg [.fn (.func (Z9y k)) [] [],.fn (.func (mayF k)) [] []]):=by
 rcases Ze0 h with rfl|rfl|rfl|rfl|rfl|rfl|rfl<;>rfl
theorem Z43:∀p∈Zrp,∃n:Int,p.1=pI n:=by
 intro p hp;simp only[Zrp,Zyb,Zya,or_false]at hp;rcases hp with rfl|rfl|rfl|rfl|rfl|rfl|rfl|rfl|rfl|rfl|rfl|rfl<;>exact⟨_,rfl⟩
theorem Zcx.len{h:Heap}:∀{a b:List PV},Zcx h a b→a.length=b.length
 | [],[],_=>rfl
 |_::a,_::b,⟨_,r⟩=>by rw[Zyd,Zyd,Zcx.len r]
 | [],_::_,r=>r.elim
 |_::_,[],r=>r.elim
theorem Zcx.nth{h:Heap}:∀{a b:List PV} (j:Nat),Zcx h a b→j<b.length→View h (PV.nth a j) (PV.nth b j)
 |_::_,_::_,0,⟨v,_⟩,_=>v
 |_::a,_::b,j+1,⟨_,r⟩,hj=>Zcx.nth (a:=a) (b:=b) j r (by simpa using hj)
 | [],[],_,_,hj=>by simp at hj
 | [],_::_,_,r,_=>r.elim
 |_::_,[],_,r,_=>r.elim
theorem View.aggs{h:Heap}{a b:List PV}(hv:Zcx h a b):View h (.agg a) (.agg b):=View.agg (Zcx.len hv) fun j hj=>Zcx.nth j hv hj
theorem has_ex{x:It}(ha:Zc1 x.kind=true):∃(T O NW U5 U6 U7:PV) (W N a b c k:Int) (lb LB:Str),
  Tc (Z9y x.kind) [.agg x.enc] (.agg [pI 0,.nilsl,T,pI W,pI N,pI a,pI b,pI c,pI k,.str lb,U5,U6,U7,O,NW,.str LB,.str [],pI 0,pI 0,.str [],pI 0,pI 0,pI 0,.str [],.nilsl])∧
  ∀h,View h (.agg [pI x.kind,.sl 2 (x.at'.map St.enc),T,pI W,pI N,pI a,pI b,pI c,pI k,.str lb,U5,U6,U7,O,NW,.str LB,.str x.Zib,pI x.start.kind,pI x.start.day,.str x.start.Zbd,pI 0,pI 0,pI 0,.str [],.nilsl]) (.agg (Zi8 x (Zpj x)).enc):=by
 rcases Ze0 ha with hk|hk|hk|hk|hk|hk|hk
 ·have hF:Z9y x.kind=137:=by rw[hk];rfl
  have H:=Xbq x;have hj:Zpj x=.mk 0 [] [] x.Zff 0 x.unit [] [] [] [] ⟨0,0,[]⟩ 0 0 0 [] []:=by unfold Zpj;rw[hk];rfl
  rw[hF,hj];rw[Un.Zaf x.unit]at H;refine⟨.nilsl,.nilsl,.nilsl,.sl 4 (x.unit.head.map Wd.enc),.sl 4 (x.unit.words.map Wd.enc),.sl 8 (x.unit.kids.map Un.enc),x.Zff,0,x.unit.act,x.unit.item,x.unit.n,x.unit.kind,x.unit.label,[],H,fun h=>View.aggs ?_⟩;unfold Zi8;rw[It.Zaf]
  repeat' (first|exact Vr|exact View.nil _ _|exact trivial|refine And.intro ?_ ?_)
 ·have hF:Z9y x.kind=141:=by rw[hk];rfl
  have H:=Xbr x;have hj:Zpj x=Xc0:=by unfold Zpj;rw[hk];rfl
  rw[hF,hj];unfold zU at H;refine⟨.nilsl,.nilsl,.nilsl,.nilsl,.nilsl,.nilsl,0,0,0,0,0,0,[],[],H,fun h=>View.aggs ?_⟩;unfold Zi8;rw[It.Zaf]
  repeat' (first|exact Vr|exact View.nil _ _|exact trivial|refine And.intro ?_ ?_)
 ·have hF:Z9y x.kind=143:=by rw[hk];rfl
  have H:=Xbs x;have hj:Zpj x=.mk 0 [] [] 0 x.nth Zf3 x.old x.new [] [] ⟨0,0,[]⟩ 0 0 0 [] []:=by unfold Zpj;rw[hk];rfl
  rw[hF,hj];unfold zU at H;refine⟨.nilsl,(It.strs x.old),(It.strs x.new),.nilsl,.nilsl,.nilsl,0,x.nth,0,0,0,0,[],[],H,fun h=>View.aggs ?_⟩;unfold Zi8;rw[It.Zaf]
  repeat' (first|exact Vr|exact View.nil _ _|exact trivial|refine And.intro ?_ ?_)
 ·have hF:Z9y x.kind=147:=by rw[hk];rfl
  have H:=Xbt x;have hj:Zpj x=.mk 0 [] [] 0 x.nth Zf3 x.old x.new [] [] ⟨0,0,[]⟩ 0 0 0 [] []:=by unfold Zpj;rw[hk];rfl
  rw[hF,hj];unfold zU at H;refine⟨.nilsl,(It.strs x.old),(It.strs x.new),.nilsl,.nilsl,.nilsl,0,x.nth,0,0,0,0,[],[],H,fun h=>View.aggs ?_⟩;unfold Zi8;rw[It.Zaf]
  repeat' (first|exact Vr|exact View.nil _ _|exact trivial|refine And.intro ?_ ?_)
 ·have hF:Z9y x.kind=149:=by rw[hk];rfl
  have H:=Xbu x;have hj:Zpj x=.mk 0 [] [] 0 0 Zf3 [] x.new [] [] ⟨0,0,[]⟩ 0 0 0 [] []:=by unfold Zpj;rw[hk];rfl
  rw[hF,hj];unfold zU at H;refine⟨.nilsl,.nilsl,(It.strs x.new),.nilsl,.nilsl,.nilsl,0,0,0,0,0,0,[],[],H,fun h=>View.aggs ?_⟩;unfold Zi8;rw[It.Zaf]
  repeat' (first|exact Vr|exact View.nil _ _|exact trivial|refine And.intro ?_ ?_)
 ·have hF:Z9y x.kind=151:=by rw[hk];rfl
  have H:=Z8z x;have hj:Zpj x=.mk 0 [] [] 0 0 Zf3 [] [] x.label [] ⟨0,0,[]⟩ 0 0 0 [] []:=by unfold Zpj;rw[hk];rfl
  rw[hF,hj];unfold zU at H;refine⟨.nilsl,.nilsl,.nilsl,.nilsl,.nilsl,.nilsl,0,0,0,0,0,0,[],x.label,H,fun h=>View.aggs ?_⟩;unfold Zi8;rw[It.Zaf]
  repeat' (first|exact Vr|exact View.nil _ _|exact trivial|refine And.intro ?_ ?_)
 ·have hF:Z9y x.kind=154:=by rw[hk];rfl
  have H:=Z80 x;have hj:Zpj x=.mk 0 [] x.to x.Zff 0 Zf3 [] [] [] [] ⟨0,0,[]⟩ 0 0 0 [] []:=by unfold Zpj;rw[hk];rfl
  rw[hF,hj];unfold zU at H;refine⟨(.sl 2 (x.to.map St.enc)),.nilsl,.nilsl,.nilsl,.nilsl,.nilsl,x.Zff,0,0,0,0,0,[],[],H,fun h=>View.aggs ?_⟩;unfold Zi8;rw[It.Zaf]
  repeat' (first|exact Vr|exact View.nil _ _|exact trivial|refine And.intro ?_ ?_)
theorem may_ok{x:It}(h:SmI x)(hb:ItB x)(ha:Zc1 x.kind=true):Tc (mayF x.kind) [.agg x.enc] (.bool (mayI x)):=by
 have hu:SmT x.unit∧(unitsT x.unit).length≤1000:=by
  obtain⟨h1,h2⟩:=Zg9 hb.unit (by omega) (by omega) h.unit;exact⟨h1,by omega⟩
 have e:∀k:Int,x.kind=k→mayF x.kind=mayF k:=fun k hk=>by rw[hk]
 rcases Ze0 ha with hk|hk|hk|hk|hk|hk|hk<;>rw[e _ hk]<;>unfold mayI<;>rw[hk]
 ·exact Xbv hu.1 hu.2
 ·exact Xbw x
 ·exact Xbx h
 ·exact Xby h
 ·exact Z81 h
 ·exact Z82 h
 ·exact Z83 h
theorem Zip(k:Int):Tc 59 [pI k] (.bool (Zc1 k)):=by
 refine Gp (vc:=Y176) [.t 2] (cB _) Tryz.func59 ?_;simp only[Y176,YY];unfold Zc1;refine Rp0 [0] ?_;refine Zaa (Zad [2] ?_);cases h:decide (0≤k)with
 |false=>
  simp only[vmL,Nat.reduceEqDiff,reduceCtorEq,h];exact Tv0
 |true=>
  simp only[vmL,Nat.reduceEqDiff,reduceCtorEq,h];exact Tv0
theorem Z86{x:It}(hb:ItB x):LenI (Zi8 x (Zpj x)):=by
 have hx:=ItB.lens hb;have hz:LenU Zf3:=.mk _ (Zyw _) (Zyw _) (Zyw _) (fun k hk=>by cases hk);have ho:=Xeq hx;unfold Zi8;refine .mk _ ho.at' ?_ ?_ ?_ ?_ ?_ ?_
 all_goals unfold Zpj
 all_goals (repeat' split)
 all_goals first|exact ho.tu|exact ho.unit|exact hz|exact ho.old|exact ho.new|exact Zyw _|(intro k hk;cases hk)
theorem Xb1{x:It}(h:SmI x)(hb:ItB x)(ha:Zc1 x.kind=true):Tc 72 [.agg x.enc] (.bool (Zmh x)):=by
 refine Zac ?_ (cB _) (by intro y hy;rw[Zyr]at hy;subst hy;exact Zah (It.closed x));have hxe:=It.Zaf x;have hxl:=It.Zd8 x;have RU:=Xb0;have LK:=Z42 ha;rw[hxe];refine Gn (vc:=Y175) [.t 2] Tryz.func72 ?_;simp only[Y175,YY];refine Rp0 [1] ?_;refine Zaa (Zfs [1,3,4] ⟨[(0,.arr false 25 [[pI x.kind,.sl 2 (x.at'.map St.enc),.sl 2 (x.to.map St.enc),pI x.Zff,pI x.nth,pI x.unit.act,pI x.unit.item,pI x.unit.n,pI x.unit.kind,.str x.unit.label,.sl 4 (x.unit.head.map Wd.enc),.sl 4 (x.unit.words.map Wd.enc),.sl 8 (x.unit.kids.map Un.enc),It.strs x.old,It.strs x.new,.str x.label,.str x.Zib,pI x.start.kind,pI x.start.day,.str x.start.Zbd,pI x.act,pI x.item,pI x.day,.str x.Zbd,.sl 25 (x.by'.map It.enc)]])],20⟩ (by simp[Vh]) ?_);refine Sp0 ?_;refine⟨_,.inl RU,?_⟩;simp only[List.length,List.getD_cons_zero,List.getD_cons_succ,List.drop,List.drop_succ_cons,List.cons_append,List.nil_append,Nat.reduceAdd,Nat.reduceLT,true_and,BEq.rfl,Nat.zero_add,Zyd,LK];refine⟨fun p hp=>by obtain⟨n,e⟩:=Z43 p hp;rw[e],?_⟩;obtain⟨T,O,NW,U5,U6,U7,W,N,a,b,c,k,lb,LB,HC,HV⟩:=has_ex ha;have MC:=may_ok h hb ha;have AM:=Zip x.kind;rw[ha]at AM;have AV:=Zea x.at' (by have:=h.at';omega) (fun s hs=>by have:=h.ats s hs;omega);have NM:=Zwa x.Zib (by have:=h.Zib;omega);have BG:=Z8y x.start (by have:=h.start;omega);have EQ:=Zhs x (Zi8 x (Zpj x)) (ItB.lens hb) (Z86 hb);have hse:x.start.enc=[pI x.start.kind,pI x.start.day,.str x.start.Zbd]:=rfl;rw[hse]at BG;rw[hxe]at HC MC EQ;have V1:=HV;refine Zaa<|Rp0 [1,3,14] ?_;refine Fp0 ?_;refine Rp0 [1,3,5] ?_;refine Ap0 HC ?_;refine Rp0 [1,3,5] ?_;refine Zaa<|Rp0 [1,3,5,24] ?_;refine Zag AM ?_;refine Ct ?_;refine Zaa (Zfs [1,3,5] ⟨[(0,.arr false 25 [[pI x.kind,.sl 2 (x.at'.map St.enc),.sl 2 (x.to.map St.enc),pI x.Zff,pI x.nth,pI x.unit.act,pI x.unit.item,pI x.unit.n,pI x.unit.kind,.str x.unit.label,.sl 4 (x.unit.head.map Wd.enc),.sl 4 (x.unit.words.map Wd.enc),.sl 8 (x.unit.kids.map Un.enc),It.strs x.old,It.strs x.new,.str x.label,.str x.Zib,pI x.start.kind,pI x.start.day,.str x.start.Zbd,pI x.act,pI x.item,pI x.day,.str x.Zbd,.sl 25 (x.by'.map It.enc)]])],20⟩ (by simp[Vh]) ?_);refine Sp0 ?_;have hne:(x.Zib !=[])= !(x.Zib==[]):=rfl;unfold Zmh;refine Zc6 (σ:={ b:Bool//b= !(Zlo x.at'&&((x.Zib==[]||Zi6 x.Zib)&&Zi7 x.start)) }) [1,3,5,54] (fun b=>[(1,.loc 0 0 0),(3,.loc 1 0 0),(5,.loc 2 0 0),(54,.bool b.1)]) ?_ (fun b=>?_)
 ·refine Sp0 ?_;refine Zag AV ?_;cases Zlo x.at' with
  |false=>
   refine Sp0 ?_;exact⟨⟨true,rfl⟩,rfl⟩
  |true=>
  cases hf:(x.Zib==[])with
  |true=>
   rw[hf]at hne;refine Sp1 hne ?_;refine Ap0 BG ?_;exact⟨⟨!Zi7 x.start,rfl⟩,rfl⟩
  |false=>
  rw[hf]at hne;refine Sp1 hne ?_;refine Zag NM ?_;cases Zi6 x.Zib with
  |false=>
   refine Sp0 ?_;exact⟨⟨true,rfl⟩,rfl⟩
  |true=>
   refine Sp0 ?_;refine Ap0 BG ?_;exact⟨⟨!Zi7 x.start,rfl⟩,rfl⟩
 obtain⟨b1,hb1⟩:=b;simp only[];cases hc:Zlo x.at'&&((x.Zib==[]||Zi6 x.Zib)&&Zi7 x.start)with
 |false=>
  rw[hc]at hb1;subst hb1;refine Ct ?_;exact Rv0 [2]
 |true=>
 rw[hc]at hb1;subst hb1;refine Fp0 ?_;refine Rp0 [2] ?_;refine Zco (q:=[.agg [pI x.kind,.sl 2 (x.at'.map St.enc),.sl 2 (x.to.map St.enc),pI x.Zff,pI x.nth,pI x.unit.act,pI x.unit.item,pI x.unit.n,pI x.unit.kind,.str x.unit.label,.sl 4 (x.unit.head.map Wd.enc),.sl 4 (x.unit.words.map Wd.enc),.sl 8 (x.unit.kids.map Un.enc),It.strs x.old,It.strs x.new,.str x.label,.str x.Zib,pI x.start.kind,pI x.start.day,.str x.start.Zbd,pI x.act,pI x.item,pI x.day,.str x.Zbd,.sl 25 (x.by'.map It.enc)],.agg (Zi8 x (Zpj x)).enc]) [] [(1,.arr false 2 [[.fn (.func (Z9y x.kind)) [] [],.fn (.func (mayF x.kind)) [] []]]),(0,.arr false 25 [[pI x.kind,.sl 2 (x.at'.map St.enc),.sl 2 (x.to.map St.enc),pI x.Zff,pI x.nth,pI x.unit.act,pI x.unit.item,pI x.unit.n,pI x.unit.kind,.str x.unit.label,.sl 4 (x.unit.head.map Wd.enc),.sl 4 (x.unit.words.map Wd.enc),.sl 8 (x.unit.kids.map Un.enc),It.strs x.old,It.strs x.new,.str x.label,.str x.Zib,pI x.start.kind,pI x.start.day,.str x.start.Zbd,pI x.act,pI x.item,pI x.day,.str x.Zbd,.sl 25 (x.by'.map It.enc)]])] 3 (by simp[Vh]) (by simp) ⟨Vr,HV _,trivial⟩ EQ ?_;cases eqB x (Zi8 x (Zpj x))with
 |false=>
  refine Sp0 ?_;exact Tv0
 |true=>
  refine Sp0 ?_;refine Zag MC ?_;exact Tv0
end Go.Proofs.w
namespace Go.VM
open Go Go.Proofs.w
noncomputable def Zcd (u:Un)(d:EI):Un×Int:=
  if (Zc1 d.it.kind&&Zmh d.it)=true then
    (if(Zdw u d.it.at').2=0 then
      (if(Zdw u d.it.at').1≠idU u∨d.it.kind=0 then doD u (Zbi (Zdw u d.it.at').1 u).1 d
       else if d.it.kind=6∧(Zdw u d.it.to).2≠0 then(u,(Zdw u d.it.to).2)else(u,9))
     else(u,(Zdw u d.it.at').2))
  else(u,1)
noncomputable def Zpk (u:Un)(l:List EI):Un:=l.foldl (fun v d=>if Zc1 d.it.kind=true then(Zcd v d).1 else v) u
noncomputable def Zfi:Un→List EI→List (Int×Int×Int)
 |_,[]=>[]
 |u,d::r=>if Zc1 d.it.kind=true then(if(Zcd u d).2=0 then Zfi (Zcd u d).1 r else(d.act,d.item,(Zcd u d).2)::Zfi (Zcd u d).1 r)else Zfi u r
def Zce(a:Ac):List EI:=a.items.mapIdx fun i x=>⟨a.number,(i:Int),a.day,x⟩
noncomputable def Z5k (u:Un)(a:Ac):Un:=Zpk u (Zce a)
theorem Xet{N:Nat}{u x:Un}(g:Good N u)(hN:N≤900){d:EI}(hd:SmD d)(hl:d.it.kind=5→d.it.label.length≤30)(hx:Zbi (idU x) u=(x,true))(hm:x∈unitsT u)(hp:d.it.kind≠0→(Zcv (idU x) u).2.2=true):Good (30+N) (doD u x d).1:=by
 have up:∀{v:Un},Good N v→Good (30+N) v:=fun h=>h.mono (by omega);have hs:=g.sm.units x hm;unfold doD;split
 ·exact Xbh g hN hd
 ·rename_i h0;split
  ·exact up (Xbi g x)
  ·split
   ·exact up (Z4v g hs hd)
   ·split
    ·exact up (Xbj g hs hd)
    ·split
     ·exact up (Z8j g x hd)
     ·split
      ·rename_i h5;exact up (Xbk g x (hl h5))
      ·exact up (Z8k g hN (hp h0) hx d)
theorem Z44{N:Nat}{u:Un}(g:Good N u)(hN:N≤900){d:EI}(hd:SmD d):Good (30+N) (Zcd u d).1:=by
 have g':Good (30+N) u:=g.mono (by omega);unfold Zcd;split
 ·rename_i hv;rw[Zx4]at hv;split
  ·rename_i h1;have hm:=Zop g.sm h1;obtain⟨f1,f2,f3⟩:=Zj4 g.sm ((Zi0 g.sm).2 hm);split
   ·rename_i h2;refine Xet g hN hd (Z0n hv.2) ?_ f1 (fun h0=>?_)
    ·rw[f2];exact Prod.ext rfl f3
    ·rw[f2];exact Z6y hm g.sm fun e=>(h2.resolve_right h0) e.symm
   ·split<;>exact g'
  ·exact g'
 ·exact g'
theorem all_good:∀{l:List EI} {N:Nat} {u:Un},Good N u→N+30*l.length≤930→(∀d∈l,SmD d)→Good (30*l.length+N) (Zpk u l)
 | [],N,u,g,_,_=>g.mono (by omega)
 |d::r,N,u,g,h,hd=>by
  rw[Zyd]at h⊢;show Good _ (Zpk (if Zc1 d.it.kind=true then(Zcd u d).1 else u) r);have hr:=fun y hy=>hd y (Zx7 d hy);split
  ·exact(all_good (Z44 g (by omega) (hd d List.mem_cons_self)) (by omega) hr).mono (by omega)
  ·exact(all_good g (by omega) hr).mono (by omega)
theorem Ze1(a:Ac):(Zce a).length=a.items.length:=List.length_mapIdx
def doF(k:Int):FuncId:=if k=0 then 92 else if k=1 then 93 else if k=2 then 94 else if k=3 then 95 else if k=4 then 96 else if k=5 then 97 else 98
end Go.VM
namespace Go.Proofs.w
open Go Go.VM
def Y177:VC:=(ZR [Yw 2 8 0,Yw 3 28 1,ZO 4 (.alloc ZU),Yv 5 (Yi 0)] (.seq (.region [Yc 15 71 [],Ya 16 3 3,Ya 17 0 16,Yl 18 17,ZO 19 (.lookup (.one .i) .nilfn true (.t 15) (.t 18)),ZM 14 19,Yp 20 14 0,Yp 21 14 1,ZM 6 20,ZM 7 21] true) (.seq (ZR [ZM 22 7,Yn 23 22,ZM 24 23,Yb 25 3 3 24 false,Yj 26 25 25 24 false,ZG 27 (.call 72 [.t 26]) 24 false,Yq 28 27 24 false,Yh 29 24 28] (YC 29 (ZR [Ym 30 8 2,Ys 8 4 30,Yv 5 (Yi 1)] .ret) .skip)) (ZR [Ym 32 8 2,Ya 33 3 3,Ya 34 1 33,Yl 35 34,Yc 36 73 [32,35],ZM 31 36,Yp 37 31 0,Yp 38 31 1,ZO 8 (.alloc [Yo,Yo,Yo]),Ys 3 8 37,ZM 9 38] (.seq (ZR [ZM 39 9,Yu 40 .neq 39 0] (YC 40 (ZR [Ym 41 8 2,ZM 42 9,Ys 8 4 41,ZM 5 42] .ret) .skip)) (ZR [Ym 44 8 2,Ym 45 3 8,Yc 46 74 [44,45],ZM 43 46,Yp 47 43 0,Yp 48 43 1,ZO 10 (.alloc ZU),Ys 8 10 47,ZM 11 48] (.seq (ZR [Ym 49 3 8,Ya 50 0 2,Ym 51 3 50,ZO 52 (.eqs true [.i,.i,.i] (.t 49) (.t 51)),ZM 53 52,Yb 54 3 3 53 false,Yb 55 0 54 53 false,Yk 56 55 53 false,ZG 57 (.bin .eql (.t 56) (Yi 0)) 53 false,Yh 58 53 57] (YC 58 (ZR [ZM 59 6,Ym 60 8 2,Ym 61 8 10,Ym 62 28 3,ZO 63 (.callv (.t 59) [.t 60,.t 61,.t 62]),Yp 64 63 0,Yp 65 63 1,Ys 8 4 64,ZM 5 65] .ret) .skip)) (.seq (ZR [Ya 66 3 3,Ya 67 0 66,Yl 68 67,Yu 69 .eql 68 6] (YC 69 (ZR [Ym 71 8 2,Ya 72 3 3,Ya 73 2 72,Yl 74 73,Yc 75 73 [71,74],ZM 70 75,Yp 76 70 0,Yp 77 70 1,ZO 12 (.alloc [Yo,Yo,Yo]),Ys 3 12 76,ZM 13 77] (ZR [ZM 78 13,Yu 79 .neq 78 0] (YC 79 (ZR [Ym 80 8 2,ZM 81 13,Ys 8 4 80,ZM 5 81] .ret) .skip))) .skip)) (ZR [Ym 82 8 2,Ys 8 4 82,Yv 5 (Yi 9)] .ret)))))))))
theorem Z45{k:Int}(h:Zc1 k=true):Zbn (pI k) Zmj=some (.fn (.func (doF k)) [] []):=by
 rcases Ze0 h with rfl|rfl|rfl|rfl|rfl|rfl|rfl<;>rfl
theorem Zte{k:Int}(h:Zc1 k=false):Zbn (pI k) Zmj=none:=by
 have e:∀n:Int,0≤n→n≤6→(k==n)=false:=by
  intro n h0 h6;rw[beq_eq_false_iff_ne];intro e;subst e;unfold Zc1 at h;rw[Zyf h0,Zyf h6]at h;cases h
 simp[Zmj,Zbn,Zc4,Zay,Zbo,PV.cells,e]
theorem Zrq:∀p∈Zmj,∃n:Int,p.1=pI n:=by
 intro p hp;simp only[Zmj,Zyb,Zya,or_false]at hp;rcases hp with rfl|rfl|rfl|rfl|rfl|rfl|rfl<;>exact⟨_,rfl⟩
theorem do_ok{N:Nat}{u x:Un}(g:VM.Good N u)(hN:N≤900){d:EI}(hd:SmD d)(ha:Zc1 d.it.kind=true)(hx:Zbi (idU x) u=(x,true))(hm:x∈unitsT u)(ho:(Zdw u d.it.at').1=idU x)(hp:d.it.kind≠0→(Zcv (idU x) u).2.2=true):
  Tc (doF d.it.kind) [.agg u.enc,.agg x.enc,.agg d.enc] (.tup [.agg (doD u x d).1.enc,pI (doD u x d).2]):=by
 have hn:(unitsT u).length≤1000:=by have:=g.len;omega
 have e:∀k:Int,d.it.kind=k→doF d.it.kind=doF k:=fun k hk=>by rw[hk]
 have hne:∀k:Int,d.it.kind=k→k≠0→d.it.kind≠0:=fun k h1 h2=>by rw[h1];exact h2
 rcases Ze0 ha with hk|hk|hk|hk|hk|hk|hk<;>rw[e _ hk]<;>unfold doD<;>rw[hk]
 ·exact Z8t g hN x hd hk
 ·exact Z8l g.sm g.nd hn (hp (hne _ hk (by decide))) d
 ·exact Zp3 g.sm hn (g.sm.units x hm) hd
 ·exact Zvz g.sm hn (g.sm.units x hm) hd
 ·exact Z4w g.sm hn hd
 ·exact Z40 g.sm hn d
 ·exact Xeo g hN hx hm (hp (hne _ hk (by decide))) hd hk ho
theorem Xb2{N:Nat}{u:Un}(g:VM.Good N u)(hN:N≤900){d:EI}(hd:SmD d):Tc 60 [.agg u.enc,.agg d.enc] (.tup [.agg (Zcd u d).1.enc,pI (Zcd u d).2]):=by
 have hn:(unitsT u).length≤1000:=by have:=g.len;omega
 have VA':=fun ha=>Xb1 hd.it hd.ok ha;have F1:=Zf2 g.sm hn d.it.at' (by have:=hd.it.at';omega) (fun s hs=>by have:=hd.it.ats s hs;omega);have F2:=Zf2 g.sm hn d.it.to (by have:=hd.it.tu;omega) (fun s hs=>by have:=hd.it.tos s hs;omega);have FI:=Zdb g.sm hn (Zdw u d.it.at').1;have DO:=Xbz;refine Zac ?_ (Zdd _ _) (CL2 (Zak u) (Zah (EI.closed d)));unfold Zcd;have hut:=Zaq u;have hul:=Zao u;have hie:=It.Zaf d.it;have hde:d.enc=pI d.act::pI d.item::pI d.day::d.it.enc:=rfl;rw[hie]at hde VA';rw[hde];generalize hU:u.enc=U at*;refine Gn (vc:=Y177) [.c 4 true 8,.t 5] Tryz.func60 ?_;simp only[Y177,YY];refine Rp1 [2,3,4,5] hul ?_;refine Zaa (Zaw [2,3,4,5,6,7] (by simp[Vh]) ?_);refine Sp0 ?_;refine⟨_,.inl DO,?_⟩;cases ha:Zc1 d.it.kind with
 |false=>
  have LK:=Zte ha;simp only[List.length,List.getD_cons_zero,List.getD_cons_succ,Nat.reduceAdd,Nat.reduceLT,true_and,Nat.zero_add,LK];refine⟨fun p hp=>by obtain⟨n,e⟩:=Zrq p hp;rw[e],?_⟩;rw[Bool.false_and,if_neg Bool.false_ne_true];refine Zaa<|Rp0 [2,3,4,6,29] ?_;refine Ct ?_;refine Rp1 [4,5] (x3 hut hul @xan) ?_;refine Tp1 (x3 hut hul @xan) ?_;rw[hU];exact Vr
 |true=>
 rw[Zyt];have LK:=Z45 ha
 replace VA':=VA' ha
 simp only[List.length,List.getD_cons_zero,List.getD_cons_succ,Nat.reduceAdd,Nat.reduceLT,true_and,Nat.zero_add,LK];refine⟨fun p hp=>by obtain⟨n,e⟩:=Zrq p hp;rw[e],?_⟩;refine Zaa<|Rp0 [2,3,4,6,29] ?_;refine Ap0 VA' ?_;cases hv:Zmh d.it with
 |false=>
  rw[if_neg Bool.false_ne_true];refine Ct ?_;refine Rp1 [4,5] (x3 hut hul @xan) ?_;refine Tp1 (x3 hut hul @xan) ?_;rw[hU];exact Vr
 |true=>
 rw[if_pos rfl];refine Fp0 ?_;have hone:=fun h=>Zop g.sm (p:=d.it.at') h;have hfm:=fun(h:(Zdw u d.it.at').2=0)=>Zj4 g.sm ((Zi0 g.sm).2 (hone h));have hdo:=fun(h1:(Zdw u d.it.at').2=0) (h2:(Zdw u d.it.at').1≠idU u∨d.it.kind=0)=>
  do_ok (x:=(Zbi (Zdw u d.it.at').1 u).1) g hN hd ha (by rw[(hfm h1).2.1];exact Prod.ext rfl (hfm h1).2.2) (hfm h1).1 (hfm h1).2.1.symm (fun h0=>by
   rw[(hfm h1).2.1];exact Z6y (hone h1) g.sm fun e=>(h2.resolve_right h0) e.symm)
 clear hone hfm;have e0:=Zgu (Zdw u d.it.at').1 (idU u);have hiu:(idU u).act=u.act∧(idU u).item=u.item∧(idU u).n=u.n:=⟨rfl,rfl,rfl⟩;have hpe:=Un.Zaf (Zbi (Zdw u d.it.at').1 u).1;generalize Zbi (Zdw u d.it.at').1 u=Pp at*;rw[hpe]at FI;generalize Zdw u d.it.at'=Q at*;generalize Zdw u d.it.to=Q2 at*;have hqe:Q.1.enc=[pI Q.1.act,pI Q.1.item,pI Q.1.n]:=rfl;have hq2:Q2.1.enc=[pI Q2.1.act,pI Q2.1.item,pI Q2.1.n]:=rfl;rw[hqe]at F1 FI;rw[hq2]at F2;refine Rp1 [2,3,4,6,8,9] (x2 hut hul) ?_;refine Ap0 F1 ?_;refine Zaa ?_;refine Zaa (Zad [2,3,4,6,8,9,40] ?_);by_cases c1:Q.2=0
 case neg=>
  have g1:(Q.2 !=0)=true:=by simpa using c1
  rw[if_neg c1];refine Sp1 g1 ?_;refine Ct ?_;refine Rp1 [4,5] (x3 hut hul @xan) ?_;refine Tp1 (x3 hut hul @xan) ?_;rw[hU];exact Vr
 have g1:(Q.2 !=0)=false:=by simpa using c1
 rw[if_pos c1];refine Sp1 g1 ?_;refine Fp0 ?_;refine Rp1 [2,3,4,6,8,10] (x2 hut hul) ?_;refine Ap0 FI ?_;refine Zaa ?_;refine Zaa (Zad [2,3,4,6,10,58] ?_);have hue:=Un.Zaf u;rw[hU]at hue;subst hue;rw[hiu.1,hiu.2.1,hiu.2.2]at e0;have k0:(d.it.kind==0)=decide (d.it.kind=0):=by by_cases h:d.it.kind=0<;>simp[h]
 have hrun:∀(H:(if Q.1≠idU u∨d.it.kind=0 then doD u Pp.1 d else if d.it.kind=6∧Q2.2≠0 then(u,Q2.2)else(u,9))=doD u Pp.1 d),Q.1≠idU u∨d.it.kind=0→Tc (doF d.it.kind) [.agg [pI u.act,pI u.item,pI u.n,pI u.kind,.str u.label,.sl 4 (u.head.map Wd.enc),.sl 4 (u.words.map Wd.enc),.sl 8 (u.kids.map Un.enc)],.agg Pp.1.enc,.agg d.enc] (.tup [.agg (doD u Pp.1 d).1.enc,pI (doD u Pp.1 d).2]):=fun _ h=>by rw[←hU];exact hdo c1 h
 clear hdo;rw[hpe,hde]at hrun;have e1:((Q.1.act==u.act&&(Q.1.item==u.item&&(Q.1.n==u.n&&true))) !=true)= !decide (Q.1=idU u):=by rw[←e0];cases(Q.1.act==u.act&&(Q.1.item==u.item&&(Q.1.n==u.n&&true)))<;>rfl
 clear e0;cases hq:decide (Q.1=idU u)with
 |false=>
  rw[hq,show(!false)=true from rfl]at e1;have hqn:Q.1≠idU u:=of_decide_eq_false hq;have DD:=hrun (if_pos (.inl hqn)) (.inl hqn);rw[if_pos (.inl hqn)];have hre:=Un.Zaf (doD u Pp.1 d).1;generalize doD u Pp.1 d=R at*;rw[hre]at DD⊢;refine Sp1 e1 ?_;refine Ct ?_;refine Rp0 [4,5] ?_;refine Ap0 DD ?_;exact Tv0
 |true=>
 rw[hq,show(!true)=false from rfl]at e1;have hqe2:Q.1=idU u:=of_decide_eq_true hq;by_cases k00:d.it.kind=0
 ·have DD:=hrun (if_pos (.inr k00)) (.inr k00);rw[if_pos (.inr k00)];rw[Zyf k00]at k0;have hre:=Un.Zaf (doD u Pp.1 d).1;generalize doD u Pp.1 d=R at*;rw[hre]at DD⊢;refine Sp1 (x2 e1 k0) ?_;refine Ct ?_;refine Rp0 [4,5] ?_;refine Ap0 DD ?_;exact Tv0
 rw[Zyg k00]at k0;rw[if_neg (fun h=>h.elim (fun h=>h hqe2) k00)];refine Sp1 (x2 e1 k0) ?_;refine Fp0 ?_;refine Zaa ?_;refine Zaa (Zad [2,3,4,69] ?_);by_cases k6:d.it.kind=6
 case neg=>
  have g6:(d.it.kind==6)=false:=by rw[beq_eq_false_iff_ne];exact k6
  rw[if_neg (fun h=>k6 h.1)];refine Sp1 g6 ?_;refine Fp0 ?_;refine Rp0 [4,5] ?_;refine Tp0 ?_;rw[hU];exact Vr
 have g6:(d.it.kind==6)=true:=by rw[beq_iff_eq];exact k6
 refine Sp1 g6 ?_;refine Ct ?_;refine Rp0 [2,4,13] ?_;refine Ap0 F2 ?_;refine Zaa (Zad [2,4,13,79] ?_);by_cases c2:Q2.2=0
 ·have g2:(Q2.2 !=0)=false:=by simpa using c2
  rw[if_neg (fun h=>h.2 c2)];refine Sp1 g2 ?_;refine Fp0 ?_;refine Rp0 [4,5] ?_;refine Tp0 ?_;rw[hU];exact Vr
 ·have g2:(Q2.2 !=0)=true:=by simpa using c2
  rw[if_pos ⟨k6,c2⟩];refine Sp1 g2 ?_;refine Ct ?_;refine Rp0 [4,5] ?_;refine Tp0 ?_;rw[hU];exact Vr
end Go.Proofs.w
namespace Go.VM
open Go Go.Proofs.w
def msE(m:Int×Int×Int):List PV:=[pI m.1,pI m.2.1,pI m.2.2]
theorem Z87(u:Un){l:List EI}{k:Nat}(h:k<l.length):Zpk u (l.take (k+1))=if Zc1 l[k].it.kind=true then(Zcd (Zpk u (l.take k)) l[k]).1 else Zpk u (l.take k):=by
 unfold Zpk;rw[List.take_add_one,Zye h,List.foldl_append];rfl
theorem Zkp:∀(l:List EI) (u:Un) (d:EI),Zfi u (l++[d])=Zfi u l++Zfi (Zpk u l) [d]
 | [],u,d=>rfl
 | e::r,u,d=>by
  rw[List.cons_append,Zfi,Zfi];show _=_++Zfi (Zpk (if Zc1 e.it.kind=true then(Zcd u e).1 else u) r) [d];split
  ·split
   ·exact Zkp r _ d
   ·rw[Zkp r _ d];rfl
  ·exact Zkp r _ d
theorem Z46(u:Un){l:List EI}{k:Nat}(h:k<l.length):Zfi u (l.take (k+1))=Zfi u (l.take k)++Zfi (Zpk u (l.take k)) [l[k]]:=by
 rw[List.take_add_one,Zye h];exact Zkp _ _ _
theorem Z88(v:Un)(d:EI):Zfi v [d]=if Zc1 d.it.kind=true then(if(Zcd v d).2=0 then[]else[(d.act,d.item,(Zcd v d).2)])else[]:=by
 rw[Zfi];split
 ·split<;>rfl
 ·rfl
theorem Zkq:∀(l:List EI) (u:Un),(Zfi u l).length≤l.length
 | [],_=>Nat.le_refl _
 | d::r,u=>by
  rw[Zfi,Zyd];split
  ·split
   ·have:=Zkq r (Zcd u d).1;omega
   ·have:=Zkq r (Zcd u d).1;rw[Zyd];omega
  ·have:=Zkq r u;omega
end Go.VM
namespace Go.Proofs.w
open Go Go.VM
def Y178:VC:=(ZR [Yw 2 8 0,ZO 4 (.alloc ZU),ZO 5 (.mv (.c .nilsl))] (ZR [ZO 6 (.mv (.c .nilsl))] (.seq (ZR [ZM 11 1,Ye 12 11,Yv 13 (Yi 0)] (.block 0 (.loop (ZR [Yr 14 .lss 13 12] (.seq (YC 14 .skip (.exit 0)) (.seq (.block 1 (ZR [Yx 15 28 11 13,Ym 16 28 15,ZO 8 (.alloc [Yo,Yo,Yo,Yo,.nilsl,.nilsl,Yo,Yo,Yo,Yo,Yo,Yo,(.str []),.nilsl,.nilsl,.nilsl,.nilsl,.nilsl,(.str []),(.str []),Yo,Yo,(.str []),Yo,Yo,Yo,(.str []),.nilsl]),Ys 28 8 16] (.seq (ZR [Ya 17 3 8,Ya 18 0 17,Yl 19 18,Yc 20 59 [19],Yn 21 20] (YC 21 (.exit 1) .skip)) (ZR [Ym 23 8 2,Ym 24 28 8,Yc 25 60 [23,24],ZM 22 25,Yp 26 22 0,Yp 27 22 1,ZO 9 (.alloc ZU),Ys 8 9 26,ZM 10 27] (.seq (ZR [ZM 28 10,Yu 29 .neq 28 0] (YC 29 (.region [ZM 30 6,Ya 31 0 8,Yl 32 31,Ya 33 1 8,Yl 34 33,ZM 35 10,ZO 36 (.build [Yo,Yo,Yo] [(0,(1,(.t 32))),(1,(1,(.t 34))),(2,(1,(.t 35)))]),ZO 37 (.bslice 3 1 [Yo,Yo,Yo] [(0,(.t 36))]),ZO 38 (.app 3 24 [Yo,Yo,Yo] false (.t 30) (.t 37)),ZM 6 38] false) .skip)) (.region [Ym 39 8 9,Ys 8 2 39] false)))))) (.region [Yu 40 .add 13 1,ZM 13 40] false))))))) (ZR [Ym 41 8 2,ZM 42 6,Ys 8 4 41,ZM 5 42] .ret))))
theorem Zwd(l:List (Int×Int×Int)):Closed (.sl 3 (l.map msE)):=Zaj fun a _ y hy=>by
 simp only[msE,Zyb,Zya,or_false]at hy;rcases hy with rfl|rfl|rfl<;>exact cI _
theorem Z0u(l:List EI):Closed (.sl 28 (l.map EI.enc)):=Zaj fun a _=>EI.closed a
theorem Z0v{N:Nat}{u:Un}(g:VM.Good N u){l:List EI}(hl:N+30*l.length≤900)(hd:∀d∈l,SmD d):Tc 41 [.agg u.enc,.sl 28 (l.map EI.enc)] (.tup [.agg (Zpk u l).enc,.sl 3 ((Zfi u l).map msE)]):=by
 have AM:=fun k=>Zip k;have AP:=fun(k:Nat) (hk:k<l.length)=>Xb2 (u:=Zpk u (l.take k)) (all_good (l:=l.take k) g (by rw[Zyh];omega) (fun d hd'=>hd d (List.mem_of_mem_take hd'))) (by rw[Zyh];omega) (hd _ (Zyl hk));refine Zac ?_ (Zbb (by simp only[Zyb,Zya,or_false,Zyv,forall_eq];exact⟨Zak _,Zwd _⟩)) (CL2 (Zak u) (Z0u l));have hul:=Zao u;have hL:(l.map EI.enc).length=l.length:=Zyc _;have hml:=fun k=>Zkq (l.take k) u;refine Gn (vc:=Y178) [.c 4 true 8,.t 5] Tryz.func41 ?_;simp only[Y178,YY];refine Rp1 [1,2,4] hul ?_;refine Rp0 [1,2,4,6] ?_;refine Zc7 6 3 rfl ?_;refine Sp0 ?_;refine Zaa<|Rp1 [2,4,6,11,12,13] hL ?_;refine Zab ?_;refine Zai (σ:={ x:Nat×Nat×Nat//x.1≤l.length∧1<x.2.1∧x.2.1<x.2.2 }) (fun x=>([(2,.loc 0 0 0),(4,.loc 1 0 0),(6,.own x.1.2.1 0 (Zfi u (l.take x.1.1)).length),(11,.sl 28 (l.map EI.enc)),(12,pI l.length),(13,pI x.1.1)],⟨[(x.1.2.1,.arr false 3 ((Zfi u (l.take x.1.1)).map msE)),(1,.arr false 8 [zU]),(0,.arr false 8 [(Zpk u (l.take x.1.1)).enc])],x.1.2.2⟩)) (fun x=>l.length-x.1.1) ⟨(0,2,3),Zyw _,by decide,by decide⟩ ?_ ?_ ?_
 ·simp only[vmL,Nat.reduceEqDiff]
  try exact⟨rfl,rfl⟩
 ·simp only[vmL,Nat.reduceEqDiff,reduceCtorEq,zU]
  try trivial
 rintro⟨⟨k,id,t⟩,hk,hid1,hid⟩;simp only[]at hk hid1 hid⊢;have qq:=N7 0 1 id t (t+1) (t+1+1) (t+1+1+1);refine Rp0 [2,4,6,11,12,13,14] ?_;refine Zaa<|Zae rfl (fun h1=>?_) (fun h1=>?_)
 ·have ka:k<l.length:=by have h1:=oT h1;omega
  have hst:=Z87 u ka;have hmt:=Z46 u ka;have hrow:(l.map EI.enc).getD k []=l[k].enc:=Zcs ka;have AP':=AP k ka;have hm1:=Z88 (Zpk u (l.take k)) l[k];have hdl:=Zs6 l[k];have hml':=hml k;have hlt:(l.take k).length≤1000:=by rw[Zyh];omega
  generalize l[k]=d at*;generalize Zpk u (l.take k)=V at*;generalize Zfi u (l.take k)=M at*;have hVt:=Zaq V;have hVl:=Zao V;have hVd:List.drop 8 V.enc=[]:=List.drop_eq_nil_of_le (by omega);have hMl:(M.map msE).length=M.length:=Zyc _;refine Kp0 ?_;refine Zaa<|Zab ?_;refine Zaa (Zad [2,4,6,8,11,12,13] ?_);have hie:=It.Zaf d.it;have hde:d.enc=pI d.act::pI d.item::pI d.day::d.it.enc:=rfl;rw[hie]at hde;rw[hde]at hrow AP';refine Sp1 (x3 hL hrow qq) ?_;refine Ok ?_;refine Zaa<|Rp1 [2,4,6,8,11,12,13,21] qq ?_;refine Ap0 (AM d.it.kind) ?_;cases ha:Zc1 d.it.kind with
  |false=>
   rw[ha,if_neg Bool.false_ne_true]at hst hm1;rw[hm1,Zyj]at hmt;refine Ct ?_;refine Ep0 ?_;refine rp1 [2,4,6,11,12,13] (x2 (ad1 (a:=k) (by omega)) qq) ?_;refine⟨⟨(k+1,id,t+1),ka,hid1,by show id<t+1;omega⟩,?_⟩;simp only[hst,hmt]
   all_goals exact Fn1 qq
  |true=>
  rw[ha,if_pos rfl]at hst hm1;refine Fp0 ?_;have hRt:=Zaq (Zcd V d).1;have hRl:=Zao (Zcd V d).1;generalize hR:Zcd V d=R at*;refine Rp1 [2,4,6,8,9,10,11,12,13] (x3 hVt hVl qq) ?_;refine Ap1 AP' (x2 hRl qq) ?_;refine Zaa ?_;refine Zaa (Zad [2,4,6,8,9,10,11,12,13,29] ?_);by_cases hz:R.2=0
  ·have g1:(R.2 !=0)=false:=by simpa using hz
   rw[if_pos hz]at hm1;rw[hm1,Zyj]at hmt;refine Sp1 (x2 g1 qq) ?_;refine Fp0 ?_;refine Zad [2,4,6,11,12,13] ?_;simp only[vmL,Nat.reduceEqDiff,Nat.reduceLT,hRt,hRl,hVl,hVd,Zyj,qq];refine rp1 [2,4,6,11,12,13] (x2 (ad1 (a:=k) (by omega)) qq) ?_;refine⟨⟨(k+1,id,t+2),ka,hid1,by show id<t+2;omega⟩,?_⟩;simp only[hst,hmt]
   all_goals exact Fn1 qq
  ·have g1:(R.2 !=0)=true:=by simpa using hz
   rw[if_neg hz]at hm1;rw[hm1]at hmt;have hBm:M.map msE++[[pI d.act,pI d.item,pI R.2]]=(M++[(d.act,d.item,R.2)]).map msE:=by rw[List.map_append];rfl
   have hBl:(M++[(d.act,d.item,R.2)]).length=M.length+1:=by simp
   have hMt:List.take M.length (M.map msE)=M.map msE:=Zyi (by omega);refine Sp1 (x2 g1 qq) ?_;refine Ct ?_;refine rp1 [2,4,6,9,11,12,13] (x3 hMl hMt qq) ?_;refine Ok ?_;refine Zad [2,4,6,11,12,13] ?_;simp only[vmL,Nat.reduceEqDiff,Nat.reduceLT,hRt,hRl,hVl,hVd,Zyj,qq];refine rp1 [2,4,6,11,12,13] (x2 (ad1 (a:=k) (by omega)) qq) ?_;refine⟨⟨(k+1,t+1+1+1,t+1+1+1+1),ka,by show 1<t+1+1+1;omega,Nat.lt_succ_self _⟩,?_⟩;simp only[hst,hmt,hBm,hBl]
   all_goals exact Fn1 (x3 hBm hBl qq)
 ·have ka:k=l.length:=by have h1:=oF h1;omega
  subst ka;rw[List.take_length];refine Ep1 qq ?_;have hVt:=Zaq (Zpk u l);have hVl:=Zao (Zpk u l);generalize(Zpk u l).enc=VE at*;refine Zaa (Zad [4,5] ?_);simp only[vmL,Nat.reduceEqDiff,Nat.reduceLT,reduceCtorEq,hVt,hVl,zU,Zyj,qq];refine Zd4 ?_;try simp only[vmL,Nat.reduceEqDiff,Nat.reduceLT,reduceCtorEq,hVt,hVl,zU,Zyj,qq]
  exact View.tup2 (Vr) (View.own_all (fz:=false) (by simp[Vh,qq]) (by simp))
end Go.Proofs.w
namespace Go.VM
def Ztf(n s:Nat):List Nat:=(List.range n).filter fun i=>s.testBit i
def Zbh(n:Nat)(e:List Nat→Bool)(K:Nat→Bool):Bool:=(Za3 n).all fun r=>!(Za4 r (List.range n) K)||e r
def Xb3:List Nat→List Nat→Int
 | [],[]=>0
 | [],_::_=>-1
 |_::_,[]=>1
 |a::r,b::q=>if a<b then -1 else if b<a then 1 else Xb3 r q
def Zmk(row best:List Nat)(found:Bool):Bool:=!found||(decide (row.length<best.length)||(decide (row.length=best.length)&&decide (Xb3 row best<0)))
def Z89(n:Nat)(e:List Nat→Bool)(st:List Nat×Bool)(s:Nat):List Nat×Bool:=
 if(Zmk (Ztf n s) st.1 st.2&&Zbh n e fun i=>(Ztf n s).contains i)=true then(Ztf n s,true)else st
def Zkr(n:Nat)(e:List Nat→Bool)(k:Nat):List Nat×Bool:=(List.range k).foldl (Z89 n e) ([],false)
def Zwe(n:Nat)(e:List Nat→Bool):List Nat:=(Zkr n e (2 ^ n)).1
theorem Zh8(n:Nat)(e:List Nat→Bool)(k:Nat):Zkr n e (k+1)=Z89 n e (Zkr n e k) k:=by
 unfold Zkr;rw[List.range_succ,List.foldl_append];rfl
theorem Zwf{r b:List Nat}{K K':Nat→Bool}(h:∀i,i<r.length→K i=true→K' i=true)(hk:Za4 r b K'=true):Za4 r b K=true:=by
 unfold Za4 at hk⊢;simp only[List.all_eq_true,List.mem_range,Bool.not_eq_true',Bool.and_eq_false_imp,Bool.or_eq_true]at hk⊢;intro i hi k hki h3;exact hk i hi k hki (h3.imp (h i hi) (h k (by omega)))
theorem Zrr{n:Nat}(hn:n≤5){r:List Nat}(h:r∈Za3 n):r.length=n:=by
 have hok:=Zzn n hn r h;unfold Z7d at hok;simp only[Zx4,Zx3,List.all_eq_true]at hok;exact hok.1.1.1
theorem Zpa{n:Nat}(hn:n≤5){e:List Nat→Bool}{K K':Nat→Bool}(h:∀i,i<n→K i=true→K' i=true)(hk:Zbh n e K=true):Zbh n e K'=true:=by
 unfold Zbh at hk⊢;rw[List.all_eq_true]at hk⊢;intro r hr;have h1:=hk r hr;rw[Bool.or_eq_true,Bool.not_eq_true']at h1⊢;rcases h1 with h1|h1
 ·left
  cases hq:Za4 r (List.range n) K' with
  |false=>rfl
  |true=>rw[Zwf (by rw[Zrr hn hr];exact h) hq]at h1;cases h1
 ·exact .inr h1
theorem Zwg{n:Nat}(hn:n≤5){e:List Nat→Bool}{K K':Nat→Bool}(h:∀i,i<n→K i=K' i):Zbh n e K=Zbh n e K':=by
 rw[Bool.eq_iff_iff];exact⟨Zpa hn fun i hi hk=>by rw[←h i hi];exact hk,Zpa hn fun i hi hk=>by rw[h i hi];exact hk⟩
theorem Z47{n:Nat}(hn:n≤5){K:Nat→Bool}(hK:∀i,1≤i→i<n→K i=true){r:List Nat}(hr:r∈Za3 n)(h:Za4 r (List.range n) K=true):r=List.range n:=by
 have key:((List.range 6).all fun n=>(Za3 n).all fun r=>!(Za4 r (List.range n) fun i=>decide (1≤i))||decide (r=List.range n))=true:=by kernel_rfl
 have h1:=List.all_eq_true.1 (List.all_eq_true.1 key n (by simp;omega)) r hr;rw[Zwf (K':=K) (by
  rw[Zrr hn hr];intro i hi h1;exact hK i (of_decide_eq_true h1) hi) h]at h1
 simpa using h1
theorem Zpb{n:Nat}(hn:n≤5){e:List Nat→Bool}(he:e (List.range n)=true){K:Nat→Bool}(hK:∀i,1≤i→i<n→K i=true):Zbh n e K=true:=by
 unfold Zbh;rw[List.all_eq_true];intro r hr;cases hq:Za4 r (List.range n) K with
 |false=>rfl
 |true=>rw[Z47 hn hK hr hq,he];rfl
theorem Z0w(r b:List Nat):Za4 r b (fun _=>false)=true:=by
 unfold Za4;simp
theorem Xc2(n:Nat)(K:Nat→Bool):∃s,s<2 ^ n∧∀i,i<n→s.testBit i=K i:=by
 induction n with
 |zero=>exact⟨0,by decide,fun i hi=>by omega⟩
 | succ n ih=>
  obtain⟨s,h1,h2⟩:=ih;cases hk:K n with
  |false=>
   refine⟨s,by rw[Nat.pow_succ];omega,fun i hi=>?_⟩;by_cases e:i=n
   ·subst e;rw[hk];exact Nat.testBit_lt_two_pow h1
   ·exact h2 i (by omega)
  |true=>
   refine⟨2 ^ n+s,by rw[Nat.pow_succ];omega,fun i hi=>?_⟩;by_cases e:i=n
   ·subst e;rw[hk,Nat.testBit_two_pow_add_eq,Nat.testBit_lt_two_pow h1];rfl
   ·rw[Nat.testBit_two_pow_add_gt (by omega)];exact h2 i (by omega)
theorem Z0x{n s i:Nat}:i∈Ztf n s↔i<n∧s.testBit i=true:=by unfold Ztf;rw[List.mem_filter,List.mem_range]
theorem Zml{n s i:Nat}(hi:i<n):(Ztf n s).contains i=s.testBit i:=by
 rw[Bool.eq_iff_iff,List.contains_iff_mem,Z0x];exact⟨fun h=>h.2,fun h=>⟨hi,h⟩⟩
theorem Zrs(n s:Nat):(Ztf n s).Pairwise (·<·):=List.Pairwise.filter _ List.pairwise_lt_range
structure MinI (n:Nat) (e:List Nat→Bool) (k:Nat) (st:List Nat×Bool):Prop where
 is:st.2=true→(Zbh n e fun i=>st.1.contains i)=true∧ ∃s,s<k∧st.1=Ztf n s
 no:st.2=false→ ∀s,s<k→(Zbh n e fun i=>(Ztf n s).contains i)=false
 lst:st.2=true→ ∀s,s<k→(Zbh n e fun i=>(Ztf n s).contains i)=true→st.1.length≤(Ztf n s).length
theorem minI(n:Nat)(e:List Nat→Bool):∀k,MinI n e k (Zkr n e k)
 |0=>⟨fun h=>(by cases h),fun _ s hs=>by omega,fun h=>(by cases h)⟩
 | k+1=>by
  have I:=minI n e k;rw[Zh8];generalize Zkr n e k=st at I;unfold Z89;split
  ·rename_i h;rw[Zx4]at h;refine⟨fun _=>⟨h.2,k,by omega,rfl⟩,fun h=>(by cases h),fun _ s hs hq=>?_⟩;by_cases es:s=k
   ·rw[es];exact Nat.le_refl _
   ·cases hf:st.2 with
    |false=>rw[I.no hf s (by omega)]at hq;cases hq
    |true=>
     have h1:=I.lst hf s (by omega) hq;have h2:=h.1;unfold Zmk at h2;rw[hf]at h2;simp only[Bool.not_true,Bool.false_or,Bool.or_eq_true,Zx4,Zx3]at h2;show(Ztf n k).length≤_;omega
  ·rename_i h;refine⟨fun hf=>?_,fun hf s hs=>?_,fun hf s hs hq=>?_⟩
   ·obtain⟨h1,s,h2,h3⟩:=I.is hf;exact⟨h1,s,by omega,h3⟩
   ·by_cases es:s=k
    ·subst es;cases hq:(Zbh n e fun i=>(Ztf n s).contains i)with
     |false=>rfl
     |true=>exact absurd (by rw[hq];unfold Zmk;rw[hf];rfl) h
    ·exact I.no hf s (by omega)
   ·by_cases es:s=k
    ·subst es;cases ha:Zmk (Ztf n s) st.1 st.2 with
     |true=>exact absurd (by rw[ha,hq];rfl) h
     |false=>
      unfold Zmk at ha;rw[hf]at ha;simp only[Bool.not_true,Bool.false_or,Bool.or_eq_false_iff,Zx2]at ha;omega
    ·exact I.lst hf s (by omega) hq
theorem Ztg{n:Nat}(hn:n≤5){e:List Nat→Bool}(he:e (List.range n)=true):
    (Zkr n e (2 ^ n)).2=true∧(Zbh n e fun i=>(Zwe n e).contains i)=true∧(Zwe n e).Pairwise (·<·)∧(∀i∈Zwe n e,i<n)∧
    ∀L:List Nat,L.Nodup→(∀i∈L,i<n)→(Zbh n e fun i=>L.contains i)=true→(Zwe n e).length≤L.length:=by
  have I:=minI n e (2 ^ n);obtain⟨s0,s1,s2⟩:=Xc2 n (fun _=>true);have h0:(Zbh n e fun i=>(Ztf n s0).contains i)=true:=Zpb hn he fun i _ hi=>by rw[Zml hi,s2 i hi]
  have hf:(Zkr n e (2 ^ n)).2=true:=by
    cases hf:(Zkr n e (2 ^ n)).2 with
    |true=>rfl
    |false=>rw[I.no hf s0 s1]at h0;cases h0
  obtain⟨h1,s,h2,h3⟩:=I.is hf;refine⟨hf,h1,by unfold Zwe;rw[h3];exact Zrs _ _,fun i hi=>by unfold Zwe at hi;rw[h3]at hi;exact(Z0x.1 hi).1,fun L hL hl hq=>?_⟩;obtain⟨t,t1,t2⟩:=Xc2 n (fun i=>L.contains i);have h4:=I.lst hf t t1 (by rw[←hq];exact Zwg hn fun i hi=>by rw[Zml hi,t2 i hi]);have hp:(Ztf n t).Perm L:=(List.perm_ext_iff_of_nodup ((Zrs n t).imp fun h=>Nat.ne_of_lt h) hL).2 fun i=>by
    rw[Z0x];constructor
    · rintro⟨h5,h6⟩
      rw[t2 i h5]at h6;exact List.contains_iff_mem.1 h6
    · intro h5
      refine⟨hl i h5,?_⟩;rw[t2 i (hl i h5)];exact List.contains_iff_mem.2 h5
  rw[←hp.length_eq];exact h4
theorem Z9a{n:Nat}(hn:n≤5)(h0:0<n){e:List Nat→Bool}(he:e (List.range n)=true):(Zwe n e).length<n:=by
 have h:=(Ztg hn he).2.2.2.2 ((List.range n).filter fun i=>decide (1≤i)) (List.nodup_range.filter _) (fun i hi=>List.mem_range.1 (List.mem_filter.1 hi).1) (Zpb hn he fun i h1 hi=>List.contains_iff_mem.2 (List.mem_filter.2 ⟨List.mem_range.2 hi,Zyf h1⟩));have h2:((List.range n).filter fun i=>decide (1≤i)).length<n:=by
  obtain⟨m,rfl⟩:∃m,n=m+1:=⟨n-1,by omega⟩;rw[List.range_succ_eq_map,List.filter_cons];have:=List.length_filter_le (fun i=>decide (1≤i)) ((List.range m).map Nat.succ);rw[Zyc,List.length_range]at this;simp only[show ¬(1≤0) by omega,decide_false,Zyu,if_false];omega
 omega
noncomputable def Zwh {α:Type}(acc:List α)(l:List α):List α:=l.foldl (fun acc b=>if(acc.any fun x=>eqB x b)=true then acc else acc++[b]) acc
theorem Zpc{α:Type}(acc:List α)(b:α)(r:List α):Zwh acc (b::r)=Zwh (if(acc.any fun x=>eqB x b)=true then acc else acc++[b]) r:=rfl
noncomputable def Zth {α:Type}(l:List α):List α:=Zwh [] l
theorem Z0y{α:Type}(b:α)(r:List α):Zth (b::r)=Zwh [b] r:=by
 show Zwh (if(([]:List α).any fun x=>eqB x b)=true then[]else[]++[b]) r=_;rw[if_neg (by simp)];rfl
theorem Z9b{α:Type}(acc:List α){l:List α}{k:Nat}(h:k<l.length):Zwh acc (l.take (k+1))=if((Zwh acc (l.take k)).any fun x=>eqB x l[k])=true then Zwh acc (l.take k)else Zwh acc (l.take k)++[l[k]]:=by
 unfold Zwh;rw[List.take_add_one,Zye h,List.foldl_append];rfl
theorem Z0z{α:Type}:∀(l acc:List α),(Zwh acc l).length≤acc.length+l.length
 | [],_=>Nat.le_refl _
 |b::r,acc=>by
  rw[Zpc];split
  ·have:=Z0z r acc;rw[Zyd];omega
  ·have:=Z0z r (acc++[b]);rw[Zx5,List.length_singleton]at this;rw[Zyd];omega
end Go.VM
namespace Go.VM
open Go Go.Proofs.w
structure SmAc (a:Ac):Prop where
 sm:SmA a
 ok:AcB a
 few:a.items.length≤3
theorem Z2n{a:Ac}(h:SmAc a):∀d∈Zce a,SmD d:=by
 intro d hd;unfold Zce at hd;obtain⟨i,hi,rfl⟩:=List.mem_mapIdx.1 hd;have hm:=Zyl hi;exact⟨h.sm.items _ hm,h.ok.2.2.2.2.2 _ hm,h.ok.1,Zkk (by have:=h.few;omega)⟩
theorem Xb4{N:Nat}{u:Un}(g:Good N u){a:Ac}(ha:SmAc a)(h:N≤840):Good (90+N) (Z5k u a):=by
 have hl:=ha.few;exact(all_good g (l:=Zce a) (by rw[Ze1];omega) (Z2n ha)).mono (by rw[Ze1];omega)
noncomputable def Zbu (l:List Ac)(u:Un)(r:List Nat):Un:=r.foldl (fun v i=>Z5k v (l.getD i default)) u
theorem Zti{l:List Ac}{i:Nat}(h:i<l.length):l.getD i default∈l:=by
 rw[Zx1,Zye h];exact Zyl h
theorem Ze2{l:List Ac}(hl:∀a∈l,SmAc a):∀{r:List Nat} {N:Nat} {u:Un},Good N u→(∀i∈r,i<l.length)→N+90*r.length≤930→Good (90*r.length+N) (Zbu l u r)
 | [],N,u,g,_,_=>g.mono (by omega)
 |i::r,N,u,g,hr,h=>by
  rw[Zyd]at h⊢;show Good _ (Zbu l (Z5k u (l.getD i default)) r);exact(Ze2 hl (Xb4 g (hl _ (Zti (hr i List.mem_cons_self))) (by omega)) (fun j hj=>hr j (Zx7 _ hj)) (by omega)).mono (by omega)
theorem Zwi{l:List Ac}{u:Un}{r:List Nat}{k:Nat}(h:k<r.length):Zbu l u (r.take (k+1))=Z5k (Zbu l u (r.take k)) (l.getD r[k] default):=by
 unfold Zbu;rw[List.take_add_one,Zye h,List.foldl_append];rfl
noncomputable def Zmv (l:List Ac)(u:Un)(r:List Nat):Bool:=eqB (Zbu l u r) (Zbu l u (List.range l.length))
theorem Zpd(l:List Ac)(u:Un):Zmv l u (List.range l.length)=true:=Zmp rfl
noncomputable def Zck (l:List Ac)(u:Un):List Un:=(Za3 l.length).map (Zbu l u)
theorem Xb5{a:Ac}{k:Nat}(h:k<a.items.length):∃hk:k<(Zce a).length,(Zce a)[k]=⟨a.number,(k:Int),a.day,a.items[k]⟩:=by
 refine⟨by rw[Ze1];exact h,?_⟩;simp only[Zce,List.getElem_mapIdx]
theorem Z48{a:Ac}{k:Nat}(h:k<a.items.length):((Zce a).take (k+1)).map EI.enc=((Zce a).take k).map EI.enc++[(EI.mk a.number (k:Int) a.day a.items[k]).enc]:=by
 obtain⟨hk,e⟩:=Xb5 h;rw[List.take_add_one,Zye hk,e,List.map_append];rfl
end Go.VM
namespace Go.Proofs.w
open Go Go.VM
def Y179:VC:=(ZR [Yw 2 8 0,Yw 3 7 1,ZO 4 (.alloc ZU),ZO 5 (.mv (.c .nilsl))] (ZR [ZO 6 (.mv (.c .nilsl))] (.seq (ZR [Ya 9 6 3,Yl 10 9,Ye 11 10,Yv 12 (Yi 0)] (.block 0 (.loop (ZR [Yr 13 .lss 12 11] (.seq (YC 13 .skip (.exit 0)) (.seq (.block 1 (ZR [ZM 14 12,Yx 15 25 10 12,Ym 16 25 15,ZO 8 (.alloc YI),ZM 7 14,Ys 25 8 16] (.region [ZM 17 6,Ya 18 0 3,Yl 19 18,ZM 20 7,Ya 21 2 3,Yl 22 21,Ym 23 25 8,ZO 24 (.build [Yo,Yo,Yo,Yo,.nilsl,.nilsl,Yo,Yo,Yo,Yo,Yo,Yo,(.str []),.nilsl,.nilsl,.nilsl,.nilsl,.nilsl,(.str []),(.str []),Yo,Yo,(.str []),Yo,Yo,Yo,(.str []),.nilsl] [(0,(1,(.t 19))),(1,(1,(.t 20))),(2,(1,(.t 22))),(3,(25,(.t 23)))]),ZO 25 (.bslice 28 1 [Yo,Yo,Yo,Yo,.nilsl,.nilsl,Yo,Yo,Yo,Yo,Yo,Yo,(.str []),.nilsl,.nilsl,.nilsl,.nilsl,.nilsl,(.str []),(.str []),Yo,Yo,(.str []),Yo,Yo,Yo,(.str []),.nilsl] [(0,(.t 24))]),ZO 26 (.app 28 392 [Yo,Yo,Yo,Yo,.nilsl,.nilsl,Yo,Yo,Yo,Yo,Yo,Yo,(.str []),.nilsl,.nilsl,.nilsl,.nilsl,.nilsl,(.str []),(.str []),Yo,Yo,(.str []),Yo,Yo,Yo,(.str []),.nilsl] false (.t 17) (.t 25)),ZM 6 26] false))) (.region [Yu 27 .add 12 1,ZM 12 27] false))))))) (ZR [Ym 28 8 2,ZM 29 6,Yc 30 41 [28,29],Yp 31 30 0,Yp 32 30 1,Ys 8 4 31,ZM 5 32] .ret))))
theorem Zpe{N:Nat}{u:Un}(g:VM.Good N u)(hN:N≤800){a:Ac}(ha:SmAc a):Tc 18 [.agg u.enc,.agg a.enc] (.tup [.agg (Z5k u a).enc,.sl 3 ((Zfi u (Zce a)).map msE)]):=by
 have hf:=ha.few;have AA:=Z0v g (l:=Zce a) (by rw[Ze1];omega) (Z2n ha);refine Zac ?_ (Zbb (by simp only[Zyb,Zya,or_false,Zyv,forall_eq];exact⟨Zak _,Zwd _⟩)) (CL2 (Zak u) (Zah (Ac.closed a)));have hul:=Zao u;have hut:=Zaq u;have hL:(a.items.map It.enc).length=a.items.length:=Zyc _;have hE:Z5k u a=Zpk u (Zce a):=rfl;rw[hE];have hRt:=Zaq (Zpk u (Zce a));have hRl:=Zao (Zpk u (Zce a));generalize(Zpk u (Zce a)).enc=RE at*;generalize u.enc=U at*;rw[Z2g a];refine Gn (vc:=Y179) [.c 4 true 8,.t 5] Tryz.func18 ?_;simp only[Y179,YY];refine Rp1 [2,3,4] hul ?_;refine Rp0 [2,3,4,6] ?_;refine Zc7 6 28 rfl ?_;refine Sp0 ?_;refine Zaa<|Rp1 [2,3,4,6,10,11,12] hL ?_;refine Zab ?_;refine Zai (σ:={ x:Nat×Nat×Nat//x.1≤a.items.length∧2<x.2.1∧x.2.1<x.2.2 }) (fun x=>([(2,.loc 0 0 0),(3,.loc 1 0 0),(4,.loc 2 0 0),(6,.own x.1.2.1 0 x.1.1),(10,.sl 25 (a.items.map It.enc)),(11,pI a.items.length),(12,pI x.1.1)],⟨[(x.1.2.1,.arr false 28 (((Zce a).take x.1.1).map EI.enc)),(2,.arr false 8 [zU]),(1,.arr false 7 [[pI a.number,.str a.title,pI a.day,pI a.start.kind,pI a.start.day,.str a.start.Zbd,.sl 25 (a.items.map It.enc)]]),(0,.arr false 8 [U])],x.1.2.2⟩)) (fun x=>a.items.length-x.1.1) ⟨(0,3,4),Zyw _,by decide,by decide⟩ ?_ ?_ ?_
 ·refine Sp0 ?_;exact rfl
 ·simp only[vmL,Nat.reduceEqDiff,reduceCtorEq,zU]
  try trivial
 rintro⟨⟨k,id,t⟩,hk,hid1,hid⟩;simp only[]at hk hid1 hid⊢;have qq:=N8 0 1 2 id t (t+1) (t+1+1) (t+1+1+1);refine Rp0 [2,3,4,6,10,11,12,13] ?_;refine Zaa<|Zae rfl (fun h1=>?_) (fun h1=>?_)
 ·have ka:k<a.items.length:=by have h1:=oT h1;omega
  have hst:=Z48 ka;have hrow:(a.items.map It.enc).getD k []=a.items[k].enc:=Zcs ka;have hml:(((Zce a).take k).map EI.enc).length=k:=by rw[Zyc,Zyh,Ze1];omega
  generalize a.items[k]=x at*;generalize((Zce a).take k).map EI.enc=M at*;have hMt:List.take k M=M:=Zyi (by omega);have hie:=It.Zaf x;have hde:(EI.mk a.number (k:Int) a.day x).enc=pI a.number::pI k::pI a.day::x.enc:=rfl;rw[hde]at hst;rw[hie]at hrow hst;refine Kp0 ?_;refine Zaa<|Zab ?_;refine Rp1 [2,3,4,6,7,8,10,11,12] (x3 hL hrow qq) ?_;refine Ok ?_;refine rp1 [2,3,4,6,10,11,12] (x3 hml hMt qq) ?_;refine Ok ?_;refine rp1 [2,3,4,6,10,11,12] (x2 (ad1 (a:=k) (by omega)) qq) ?_;refine⟨⟨(k+1,t+1+1,t+1+1+1),ka,by show 2<t+1+1;omega,Nat.lt_succ_self _⟩,?_⟩;simp only[hst]
  all_goals exact Fn1 qq
 ·have ka:k=a.items.length:=by have h1:=oF h1;omega
  subst ka;have hta:(Zce a).take a.items.length=Zce a:=Zyi (by rw[Ze1];exact Nat.le_refl _);rw[hta];have hdl:((Zce a).map EI.enc).length=a.items.length:=by rw[Zyc,Ze1]
  refine Ep1 qq ?_;refine Rp1 [4,5] (x3 hut hul qq) ?_;refine Zco (q:=[.agg U,.sl 28 ((Zce a).map EI.enc)]) [(id,.arr false 28 ((Zce a).map EI.enc))] [(2,.arr false 8 [zU])] t (by simp[Vh,qq]) (by simp;omega) ⟨Vr,View.own_all (fz:=false) (by simp[Vh]) hdl.symm,trivial⟩ AA ?_;simp only[vmL,Nat.reduceAdd,Nat.reduceLT,hRt,hRl,zU,Zyj,qq];refine Zd4 ?_;try simp only[vmL,Nat.reduceEqDiff,Nat.reduceLT,hRt,hRl,zU,Zyj,qq]
  exact Vr
def Y180:VC:=(ZR [Yw 3 8 0,ZO 6 (.alloc ZU)] (.seq (ZR [ZM 9 1,Ye 10 9,Yv 11 (Yi 0)] (.block 0 (.loop (ZR [Yr 12 .lss 11 10] (.seq (YC 12 .skip (.exit 0)) (.seq (.block 1 (ZR [Yx 13 1 9 11,Yl 14 13,ZM 8 14] (.draw2 [Ym 16 8 3,ZM 17 2,ZM 18 8,Yx 19 7 17 18,Ym 20 7 19,Yc 21 18 [16,20],ZM 15 21,Yp 22 15 0,Yp 23 15 1,Ys 8 3 22] [true,true,true,true,true,true,true,true,false,false]))) (.region [Yu 24 .add 11 1,ZM 11 24] false))))))) (ZR [Ym 25 8 3,Ys 8 6 25] .ret)))
def Y181:VC:=(ZR [Yw 2 8 0,ZO 4 (.mv (.c .nilsl)),ZO 5 (.mv (.c .nilsl))] (ZR [ZM 10 1,Ye 11 10,ZM 12 1,Ye 13 12,Yc 14 30 [13],ZO 15 (.call 11 [.t 11,(.c .nilsl),.t 14]),ZM 6 15] (ZR [ZO 7 (.mv (.c .nilsl))] (.seq (ZR [ZM 16 6,Ye 17 16,Yv 18 (Yi 0)] (.block 0 (.loop (ZR [Yr 19 .lss 18 17] (.seq (YC 19 .skip (.exit 0)) (.seq (.block 1 (ZR [Yx 20 1 16 18,Yl 21 20,ZM 9 21] (.region [ZM 22 7,Ym 23 8 2,ZM 24 9,ZM 25 1,Yc 26 61 [23,24,25],ZO 27 (.bslice 8 1 ZU [(0,(.t 26))]),ZO 28 (.app 8 120 ZU false (.t 22) (.t 27)),ZM 7 28] false))) (.region [Yu 29 .add 18 1,ZM 18 29] false))))))) (ZR [ZM 30 6,ZM 31 7,ZM 4 30,ZM 5 31] .ret)))))
theorem Zc9(l:List Ac):Closed (.sl 7 (l.map Ac.enc)):=Zaj fun a _=>Ac.closed a
theorem ac_l7(a:Ac):a.enc.length=7:=rfl
theorem ac_t7(a:Ac):List.take 7 a.enc=a.enc:=rfl
theorem Xeu{N:Nat}{u:Un}(g:VM.Good N u){l:List Ac}(hl:∀a∈l,SmAc a){r:List Nat}(hr:∀i∈r,i<l.length)(hN:N+90*r.length≤800):
  Tc 61 [.agg u.enc,.sl 1 (nR r),.sl 7 (l.map Ac.enc)] (.agg (Zbu l u r).enc):=by
 have AP:=fun(k:Nat) (hk:k<r.length)=>Zpe (u:=Zbu l u (r.take k)) (Ze2 hl (r:=r.take k) g (fun i hi=>hr i (List.mem_of_mem_take hi)) (by rw[Zyh];omega)) (by rw[Zyh];omega) (hl _ (Zti (hr _ (Zyl hk))));refine Zac ?_ (Zak _) (CL3 (Zak u) (Zbm r) (Zc9 l));have hul:=Zao u;have hL:(l.map Ac.enc).length=l.length:=Zyc _;have hR:=Zbw r;refine Gn (vc:=Y180) [.c 6 true 8] Tryz.func61 ?_;simp only[Y180,YY];refine Rp1 [1,2,3,6] hul ?_;refine Zaa<|Rp1 [2,3,6,9,10,11] hR ?_;refine Zab ?_;refine Zai (σ:={ x:Nat×Nat//x.1≤r.length∧2≤x.2 }) (fun x=>([(2,.sl 7 (l.map Ac.enc)),(3,.loc 0 0 0),(6,.loc 1 0 0),(9,.sl 1 (nR r)),(10,pI r.length),(11,pI x.1.1)],⟨[(1,.arr false 8 [zU]),(0,.arr false 8 [(Zbu l u (r.take x.1.1)).enc])],x.1.2⟩)) (fun x=>r.length-x.1.1) ⟨(0,2),Zyw _,Nat.le_refl _⟩ ?_ ?_ ?_
 ·refine Sp0 ?_;exact rfl
 ·simp only[vmL,reduceCtorEq,zU]
  try trivial
 rintro⟨⟨k,t⟩,hk,ht⟩;simp only[]at hk ht⊢;refine Rp0 [2,3,6,9,10,11,12] ?_;refine Zaa<|Zae rfl (fun h1=>?_) (fun h1=>?_)
 ·have ka:k<r.length:=by have h1:=oT h1;omega
  have hst:=Zwi (l:=l) (u:=u) ka;have hrk:(nR r).getD k []=[pI r[k]]:=Zcs ka;have hil:=hr r[k] (Zyl ka);have AP':=AP k ka;generalize r[k]=i at*;have hrow:(l.map Ac.enc).getD i []=(l.getD i default).enc:=by
   rw[Zcs hil,Zx1,Zye hil];rfl
  generalize l.getD i default=a at*;generalize Zbu l u (r.take k)=V at*;have hVt:=Zaq V;have hVl:=Zao V;have hVd:List.drop 8 V.enc=[]:=List.drop_eq_nil_of_le (by omega);have hWt:=Zaq (Z5k V a);have hWl:=Zao (Z5k V a);refine Kp0 ?_;refine Zaa<|Zab ?_;refine Rp1 [2,3,6,8,9,10,11] (x2 hR hrk) ?_;refine Ok ?_;refine Zd5 [2,3,6,9,10,11] (HOk.le_refl ⟨by show 1<t;omega,by omega,trivial⟩) ?_;simp only[vmL,Nat.reduceEqDiff,Nat.reduceAdd,Nat.reduceLT,hVt,hVl,hL,hrow,ac_l7,ac_t7];refine Ok ?_;refine⟨_,.inl AP',?_⟩;refine Sp1 (x5 hWt hWl hVl hVd @xan) ?_;refine rp1 [2,3,6,9,10,11] (ad1 (a:=k) (by omega)) ?_;refine⟨⟨(k+1,t),ka,ht⟩,?_⟩;simp only[hst]
  all_goals exact Fn0
 ·have ka:k=r.length:=by have h1:=oF h1;omega
  subst ka;rw[List.take_length];have hVt:=Zaq (Zbu l u r);have hVl:=Zao (Zbu l u r);generalize(Zbu l u r).enc=VE at*;refine Ep0 ?_;refine Zaa (Zad [6] ?_);simp only[vmL,Nat.reduceEqDiff,Nat.reduceLT,reduceCtorEq,hVt,hVl,zU,Zyj];refine Zd4 ?_;try simp only[vmL,Nat.reduceEqDiff,Nat.reduceLT,reduceCtorEq,hVt,hVl,zU,Zyj]
  exact Vr
theorem Zwj(O:List (List Nat)):Closed (.sl 1 (oR O)):=Zaj fun r _ y hy=>by rw[Zyr]at hy;subst hy;exact Zbm r
theorem Z00{l:List Ac}{u:Un}{k:Nat}(hk:k<(Za3 l.length).length):((Zck l u).take (k+1)).map Un.enc=((Zck l u).take k).map Un.enc++[(Zbu l u (Za3 l.length)[k]).enc]:=by
 unfold Zck;rw[List.take_add_one,Zye (by rw[Zyc];exact hk),List.getElem_map,List.map_append];rfl
theorem Zpf{n:Nat}(hn:n≤5){r:List Nat}(h:r∈Za3 n):∀i∈r,i<n:=by
 obtain⟨h1,h2⟩:=Zci hn h;have:=(Zlt _ _ h2).2;rw[h1]at this;exact this
theorem Xb6{n:Nat}(hn:n≤5):Zz6 n [] (nz (List.range n))=Za3 n:=by
 have hb:Zzq (nz (List.range n)) (n:Int)=true:=by
  unfold Zzq;rw[Zx4,Zx3,List.all_eq_true,Zyk];refine⟨by rw[Zhi,List.length_range],fun i hi=>?_⟩;rw[List.contains_iff_mem];exact Zrd.2 ⟨i,hi,rfl⟩
 unfold Zz6;rw[if_pos ⟨by omega,by omega,hb⟩,Zyk];refine List.filter_eq_self.2 fun r _=>?_;have e:(fun i:Nat=>([]:List Int).contains (i:Int))=fun _=>false:=by funext i;rfl
 rw[e];exact Z0w _ _
theorem Ztj{N:Nat}{u:Un}(g:VM.Good N u){l:List Ac}(hl:∀a∈l,SmAc a)(h5:l.length≤5)(hN:N≤300):
  Tc 42 [.agg u.enc,.sl 7 (l.map Ac.enc)] (.tup [.sl 1 (oR (Za3 l.length)),.sl 8 ((Zck l u).map Un.enc)]):=by
 have BK:=fun(k:Nat) (hk:k<(Za3 l.length).length)=>Xeu g hl (r:=(Za3 l.length)[k]) (Zpf h5 (Zyl hk)) (by rw[(Zci h5 (Zyl hk)).1];omega);have GI:=Zst l.length (by omega);have OR:=Zo5 (l.length:Int) [] (nz (List.range l.length)) (by simp) (by rw[Zhi,List.length_range];omega);rw[Xb6 h5,←Xed,←Zmu]at OR;have hrl:=Zgl l.length h5;refine Zac ?_ (Zbb (by simp only[Zyb,Zya,or_false,Zyv,forall_eq];exact⟨Zwj _,Zaj fun w _=>Un.closed w⟩)) (CL2 (Zak u) (Zc9 l));have hul:=Zao u;have hut:=Zaq u;have hL:(l.map Ac.enc).length=l.length:=Zyc _;have hO:=Zvi (Za3 l.length);have hbs:=fun(k:Nat) (hk:k<(Za3 l.length).length)=>Z00 (l:=l) (u:=u) hk;have hbl:(Zck l u).length=(Za3 l.length).length:=Zyc _;generalize hRW:Za3 l.length=RW at*;generalize u.enc=U at*;refine Gn (vc:=Y181) [.t 4,.t 5] Tryz.func42 ?_;simp only[Y181,YY];refine Rp1 [1,2] hul ?_;refine Rp1 [1,2,6] hL ?_;refine Zag GI ?_;refine Zco (q:=[pI l.length,.sl 1 (zR []),.sl 1 (nR (List.range l.length))]) [] [(0,.arr false 8 [U])] 1 (by simp[Vh]) (by simp) ⟨Vr,View.nil _ _,Vr,trivial⟩ OR ?_
 skip
 refine Rp0 [1,2,6,7] ?_;refine Zc7 7 8 rfl ?_;refine Sp0 ?_;refine Zaa<|Rp1 [1,2,6,7,16,17,18] hO ?_;refine Zab ?_;refine Zai (σ:={ x:Nat×Nat×Nat//x.1≤RW.length∧0<x.2.1∧x.2.1<x.2.2 }) (fun x=>([(1,.sl 7 (l.map Ac.enc)),(2,.loc 0 0 0),(6,.sl 1 (oR RW)),(7,.own x.1.2.1 0 x.1.1),(16,.sl 1 (oR RW)),(17,pI RW.length),(18,pI x.1.1)],⟨[(x.1.2.1,.arr false 8 (((Zck l u).take x.1.1).map Un.enc)),(0,.arr false 8 [U])],x.1.2.2⟩)) (fun x=>RW.length-x.1.1) ⟨(0,1,2),Zyw _,by decide,by decide⟩ ?_ ?_ ?_
 ·simp only[vmL,Nat.reduceEqDiff]
  try exact rfl
 ·simp only[vmL,reduceCtorEq]
  try trivial
 rintro⟨⟨k,id,t⟩,hk,hid1,hid⟩;simp only[]at hk hid1 hid⊢;have qq:=N5 0 id t (t+1) (t+1+1);refine Rp0 [1,2,6,7,16,17,18,19] ?_;refine Zaa<|Zae rfl (fun h1=>?_) (fun h1=>?_)
 ·have ka:k<RW.length:=by have h1:=oT h1;omega
  have hst:=hbs k ka;have hrow:(oR RW).getD k []=[.sl 1 (nR RW[k])]:=Zcs ka;have BK':=BK k ka;have hml:(((Zck l u).take k).map Un.enc).length=k:=by rw[Zyc,Zyh,hbl];omega
  have hve:=Un.Zaf (Zbu l u RW[k]);generalize Zbu l u RW[k]=V at*;generalize((Zck l u).take k).map Un.enc=M at*;have hMt:List.take k M=M:=Zyi (by omega);rw[hve]at BK' hst;refine Kp0 ?_;refine Zaa<|Zab ?_;refine Rp1 [1,2,6,7,9,16,17,18] (x2 hO hrow) ?_;refine Ok ?_;refine rp1 [1,2,6,7,16,17,18] (x3 hut hul qq) ?_;refine Ap1 BK' (x3 hml hMt qq) ?_;refine Ok ?_;refine rp1 [1,2,6,7,16,17,18] (x2 (ad1 (a:=k) (by omega)) qq) ?_;refine⟨⟨(k+1,t+1,t+1+1),ka,by show 0<t+1;omega,Nat.lt_succ_self _⟩,?_⟩;simp only[hst]
  all_goals exact Fn1 qq
 ·have ka:k=RW.length:=by have h1:=oF h1;omega
  subst ka;have hta:(Zck l u).take RW.length=Zck l u:=Zyi (by omega);rw[hta];refine Ep1 qq ?_;refine Rp1 [4,5] qq ?_;refine Tp1 qq ?_;exact View.tup2 (Vr) (View.own_all (fz:=false) (by simp[Vh]) (by rw[Zyc];exact hbl.symm))
end Go.Proofs.w
namespace Go.VM
open Go Go.Proofs.w
noncomputable def Zpg (l:List Ac)(u:Un)(K:List Int):Bool:=Zbh l.length (Zmv l u) fun i=>K.contains (i:Int)
theorem Z49{n:Nat}{e:List Nat→Bool}{K:Nat→Bool}(h:∀(k:Nat) (hk:k<(Za3 n).length),Za4 (Za3 n)[k] (List.range n) K=true→e (Za3 n)[k]=true):Zbh n e K=true:=by
 unfold Zbh;rw[List.all_eq_true];intro r hr;obtain⟨k,hk,rfl⟩:=List.mem_iff_getElem.1 hr;cases hq:Za4 (Za3 n)[k] (List.range n) K with
 |false=>rfl
 |true=>rw[h k hk hq];rfl
theorem Z9c{n:Nat}{e:List Nat→Bool}{K:Nat→Bool}{k:Nat}(hk:k<(Za3 n).length)(h1:Za4 (Za3 n)[k] (List.range n) K=true)(h2:e (Za3 n)[k]=false):Zbh n e K=false:=by
 cases hq:Zbh n e K with
 |false=>rfl
 |true=>
  have:=List.all_eq_true.1 hq _ (Zyl hk);rw[h1,h2]at this;cases this
theorem Zwk(n:Nat)(h:n≤5):∃h0:0<(Za3 n).length,(Za3 n)[0]=List.range n:=by
 obtain⟨h1,h2,_⟩:=Zos n h;have h0:=List.length_pos_iff.2 h2;refine⟨h0,?_⟩;rw[Zx1,Zye h0]at h1;exact h1
end Go.VM
namespace Go.Proofs.w
open Go Go.VM
def Y182:VC:=(ZR [Yw 5 5 2,Yv 6 Yf] (.seq (ZR [ZM 9 0,Ye 10 9,Yv 11 (Yi 0)] (.block 0 (.loop (ZR [Yr 12 .lss 11 10] (.seq (YC 12 .skip (.exit 0)) (.seq (.block 1 (ZR [ZM 13 11,Yx 14 1 9 11,Yl 15 14,ZM 7 13,ZM 8 15] (.seq (.region [ZM 16 8,ZM 17 0,ZO 18 (.iaddr 1 (.t 17) (Yi 0)),Yl 19 18,Ym 20 5 5,Yc 21 32 [16,19,20],ZM 22 21,Yg 23 1 22 true,Yg 24 7 22 true,Yy 25 8 23 24 22 true,Yj 26 8 25 22 true,Yg 27 1 22 true,ZG 28 (.iaddr 8 (.t 27) (Yi 0)) 22 true,Yj 29 8 28 22 true,ZG 30 (.call 25 [.t 26,.t 29]) 22 true,Yq 31 30 22 true,Yz 32 22 31] true) (YC 32 (ZR [Yv 6 Yf] .ret) .skip)))) (.region [Yu 33 .add 11 1,ZM 11 33] false))))))) (ZR [Yv 6 Yt] .ret)))
def Y183:VC:=(ZR [Yw 3 8 0,Yv 6 Yf] (.seq (ZR [ZM 9 2,Ye 10 9,Yu 11 .gtr 10 5] (YC 11 (ZR [Yv 6 Yf] .ret) .skip)) (ZR [Ym 13 8 3,ZM 14 2,Yc 15 42 [13,14],ZM 12 15,Yp 16 12 0,Yp 17 12 1,ZM 7 16,ZM 8 17] (ZR [ZM 18 7,ZM 19 8,ZM 20 1,Yc 21 33 [20],Yc 22 44 [18,19,21],ZM 6 22] .ret))))
theorem Zwl{N:Nat}{u:Un}(g:VM.Good N u){l:List Ac}(hl:∀a∈l,SmAc a)(h5:l.length≤5)(hN:N≤300)(K:List Int):
  Tc 44 [.sl 1 (oR (Za3 l.length)),.sl 8 ((Zck l u).map Un.enc),.agg (Zdl K)] (.bool (Zpg l u K)):=by
 obtain⟨hz0,hz1⟩:=Zwk l.length h5;have KP:=fun(k:Nat) (hk:k<(Za3 l.length).length)=>Zsx (Za3 l.length)[k] (List.range l.length) K (by have:=(Zci h5 (Zyl hk));exact this.2) (by
  have:=(Zci h5 (Zyl hk)).1;rw[this];exact⟨List.length_range,fun i hi=>List.mem_range.2 hi⟩) (by rw[(Zci h5 (Zyl hk)).1];exact h5)
 have sm:=fun(r:List Nat) (hr:r∈Za3 l.length)=>(Ze2 hl (r:=r) g (Zpf h5 hr) (by rw[(Zci h5 hr).1];omega)).sm;have EQ:=fun(k:Nat) (hk:k<(Za3 l.length).length)=>Zdm (Zbu l u (Za3 l.length)[k]) (Zbu l u (List.range l.length)) (SmT.lens (sm _ (Zyl hk))) (SmT.lens (sm _ (hz1▸Zyl hz0)));have hrl:=Zgl l.length h5;have hO:=Zvi (Za3 l.length);have hbl:((Zck l u).map Un.enc).length=(Za3 l.length).length:=by rw[Zyc];exact Zyc _
 have hbk:∀(k:Nat) (hk:k<(Za3 l.length).length),((Zck l u).map Un.enc).getD k []=(Zbu l u (Za3 l.length)[k]).enc:=by
  intro k hk;unfold Zck;rw[Zcs (by rw[Zyc];exact hk),List.getElem_map]
 have hb0:=hbk 0 hz0;rw[hz1]at hb0;have hok:∀(k:Nat) (hk:k<(Za3 l.length).length),(oR (Za3 l.length)).getD k []=[.sl 1 (nR (Za3 l.length)[k])]:=fun k hk=>Zcs hk;have ho0:=hok 0 hz0;rw[hz1]at ho0;have yes:=Z49 (n:=l.length) (e:=Zmv l u) (K:=fun i=>K.contains (i:Int));have no:=fun(k:Nat) (hk:k<(Za3 l.length).length)=>Z9c (n:=l.length) (e:=Zmv l u) (K:=fun i=>K.contains (i:Int)) hk;refine Zac ?_ (cB _) (CL3 (Zwj _) (Zaj fun w _=>Un.closed w) (Zhm K));unfold Zpg;unfold Zmv at yes no⊢;have hkl:=Zhl K;have hkt:List.take 5 (Zdl K)=Zdl K:=Zyi (by omega);generalize Za3 l.length=RW at*;generalize hB0:Zbu l u (List.range l.length)=B0 at*;generalize List.range l.length=R0 at*;generalize Zbh l.length _ _=RES at*;generalize Zdl K=KC at*;generalize(Zck l u).map Un.enc=BE at*;refine Gn (vc:=Y182) [.t 6] Tryz.func44 ?_;simp only[Y182,YY];refine Rp1 [0,1,5] hkl ?_;refine Zaa<|Rp1 [0,1,5,9,10,11] hO ?_;refine Zab ?_;refine Zai (σ:={ x:Nat×Nat//x.1≤RW.length∧1≤x.2∧∀(k:Nat) (hk:k<RW.length),k<x.1→Za4 RW[k] R0 (fun i=>K.contains (i:Int))=true→eqB (Zbu l u RW[k]) B0=true }) (fun x=>([(0,.sl 1 (oR RW)),(1,.sl 8 BE),(5,.loc 0 0 0),(9,.sl 1 (oR RW)),(10,pI RW.length),(11,pI x.1.1)],⟨[(0,.arr false 5 [KC])],x.1.2⟩)) (fun x=>RW.length-x.1.1) ⟨(0,1),Zyw _,Nat.le_refl _,fun k _ h=>by cases h⟩ ?_ ?_ ?_
 ·simp only[vmL,Nat.reduceEqDiff,reduceCtorEq]
  try exact rfl
 ·simp only[vmL]
  try trivial
 rintro⟨⟨k,t⟩,hk,ht,hpre⟩;simp only[]at hk ht hpre⊢;refine Rp0 [0,1,5,9,10,11,12] ?_;refine Zaa<|Zae rfl (fun h1=>?_) (fun h1=>?_)
 ·have ka:k<RW.length:=by have h1:=oT h1;omega
  have KP':=KP k ka;have EQ':=EQ k ka;have hbk':=hbk k ka;have hok':=hok k ka;have no':=no k ka;have hpk:Za4 RW[k] R0 (fun i=>K.contains (i:Int))=true→eqB (Zbu l u RW[k]) B0=true→∀(j:Nat) (hj:j<RW.length),j<k+1→Za4 RW[j] R0 (fun i=>K.contains (i:Int))=true→eqB (Zbu l u RW[j]) B0=true:=by
   intro h1 h2 j hj hjk h3;by_cases e:j=k
   ·subst e;exact h2
   ·exact hpre j hj (by omega) h3
  have hpn:Za4 RW[k] R0 (fun i=>K.contains (i:Int))=false→∀(j:Nat) (hj:j<RW.length),j<k+1→Za4 RW[j] R0 (fun i=>K.contains (i:Int))=true→eqB (Zbu l u RW[j]) B0=true:=by
   intro h1 j hj hjk h3;by_cases e:j=k
   ·subst e;rw[h1]at h3;cases h3
   ·exact hpre j hj (by omega) h3
  generalize Zbu l u RW[k]=V at*;have hVt:=Zaq V;have hVl:=Zao V;have h0t:=Zaq B0;have h0l:=Zao B0;generalize RW[k]=r at*;refine Kp0 ?_;refine Zaa<|Zab ?_;refine Rp1 [0,1,5,7,8,9,10,11] (x2 hO hok') ?_;refine Ok ?_;refine Zaa (Zaw [0,1,5,9,10,11,32] (by simp[Vh]) ?_);refine Sp1 (x4 hkl hkt hO ho0) ?_;refine⟨⟨by omega,by omega⟩,?_⟩;refine⟨_,.inl KP',?_⟩;cases hkp:Za4 r R0 (fun i=>K.contains (i:Int))with
  |false=>
   refine Sp0 ?_;refine Fp0 ?_;refine rp1 [0,1,5,9,10,11] (ad1 (a:=k) (by omega)) ?_;refine⟨⟨(k+1,t),ka,ht,hpn hkp⟩,?_⟩;exact Fn0
  | true=>
   simp only[vmL,Nat.reduceEqDiff,reduceCtorEq,Int.reduceToNat,hbl,hbk',hb0,hVt,hVl,h0t,h0l];refine Ok ?_;refine⟨_,.inl EQ',?_⟩;cases heq:eqB V B0 with
   |true=>
    refine Sp0 ?_;refine Fp0 ?_;refine rp1 [0,1,5,9,10,11] (ad1 (a:=k) (by omega)) ?_;refine⟨⟨(k+1,t),ka,ht,hpk hkp heq⟩,?_⟩;exact Fn0
   |false=>
    refine Sp0 ?_;rw[no' hkp heq];refine Ct ?_;exact Rv0 [6]
 ·have ka:k=RW.length:=by have h1:=oF h1;omega
  subst ka;refine Ep0 ?_;rw[yes fun k hk=>hpre k hk hk];exact Rv0 [6]
theorem Ztk{N:Nat}{u:Un}(g:VM.Good N u){l:List Ac}(hl:∀a∈l,SmAc a)(h5:l.length≤5)(hN:N≤300)(K:List Int)(hK:K.length≤1000000):
  Tc 22 [.agg u.enc,.sl 1 (zR K),.sl 7 (l.map Ac.enc)] (.bool (Zpg l u K)):=by
 have RO:=Ztj g hl h5 hN;have KE:=Zsw K hK;have EN:=Zwl g hl h5 hN K;refine Zac ?_ (cB _) (CL3 (Zak u) (Zb5 K) (Zc9 l));have hul:=Zao u;have hut:=Zaq u;have hL:(l.map Ac.enc).length=l.length:=Zyc _;have g5:decide ((5:Int)<(l.length:Int))=false:=Vf;generalize u.enc=U at*;refine Gn (vc:=Y183) [.t 6] Tryz.func22 ?_;simp only[Y183,YY];refine Rp1 [1,2,3] hul ?_;refine Zaa<|Rp1 [1,2,3,11] (x2 hL g5) ?_;refine Fp0 ?_;refine Rp1 [1,7,8] (x2 hut hul) ?_;refine Ap0 RO ?_;refine Rp0 [6] ?_;refine Zag KE ?_;refine Zag EN ?_;exact Tv0
def Y184:VC:=(ZR [Yw 2 8 0,Yv 3 Yf] (ZR [Ym 4 8 2,Ym 5 8 1,Yc 6 25 [4,5],ZM 3 6] .ret))
def Y185:VC:=(ZR [Yw 2 8 0,Yv 4 (Yi 0)] (.seq (ZR [ZM 10 1,Ye 11 10,Yu 12 .gtr 11 5] (YC 12 (ZR [Yv 4 (Yi 0)] .ret) .skip)) (ZR [Ym 14 8 2,ZM 15 1,Yc 16 42 [14,15],ZM 13 16,Yp 17 13 0,Yp 18 13 1,ZM 5 17,ZM 6 18] (ZR [ZO 7 (.mv (.c .nilsl))] (.seq (ZR [ZM 19 6,Ye 20 19,Yv 21 (Yi 0)] (.block 0 (.loop (ZR [Yr 22 .lss 21 20] (.seq (YC 22 .skip (.exit 0)) (.seq (.block 1 (ZR [Yx 23 8 19 21,Ym 24 8 23,ZO 9 (.alloc ZU),Ys 8 9 24] (ZR [ZM 25 7,ZO 26 (.mkfn (.func 47) [] [.t 9]),Yc 27 46 [25,26],Yn 28 27] (YC 28 (.region [ZM 29 7,Ym 30 8 9,ZO 31 (.bslice 8 1 ZU [(0,(.t 30))]),ZO 32 (.app 8 120 ZU false (.t 29) (.t 31)),ZM 7 32] false) .skip)))) (.region [Yu 33 .add 21 1,ZM 21 33] false))))))) (ZR [ZM 34 7,Ye 35 34,ZM 4 35] .ret))))))
theorem Zks{x b:Un}(hx:LenU x)(hb:LenU b):Tc 47 [.agg x.enc,.ro b.enc] (.bool (eqB x b)):=by
 have E:=Zdm x b hx hb;refine Zac ?_ (cB _) (CL2 (Zak x) (Zep b));have hxt:=Zaq x;have hxl:=Zao x;have hbt:=Zaq b;have hbl:=Zao b;generalize x.enc=X at*;generalize b.enc=B at*;refine Gn (vc:=Y184) [.t 3] Tryz.func47 ?_;simp only[Y184,YY];refine Rp1 [1,2] hxl ?_;refine Rp1 [3] (x4 hxt hxl hbt hbl) ?_;refine Zag E ?_;exact Tv0
theorem Xb7{N:Nat}{u:Un}(g:VM.Good N u){l:List Ac}(hl:∀a∈l,SmAc a)(h5:l.length≤5)(hN:N≤300):
  Tc 21 [.agg u.enc,.sl 7 (l.map Ac.enc)] (pI (Zth (Zck l u)).length):=by
 have RO:=Ztj g hl h5 hN;have hbl0:(Zck l u).length=(Za3 l.length).length:=Zyc _;have hlen:=Zgl l.length h5;have sm:∀v∈Zck l u,LenU v:=by
  intro v hv;obtain⟨r,hr,rfl⟩:=List.mem_map.1 hv;exact SmT.lens (Ze2 hl (r:=r) g (Zpf h5 hr) (by rw[(Zci h5 hr).1];omega)).sm
 refine Zac ?_ (cI _) (CL2 (Zak u) (Zc9 l));have hul:=Zao u;have hut:=Zaq u;have hL:(l.map Ac.enc).length=l.length:=Zyc _;have g5:decide ((5:Int)<(l.length:Int))=false:=Vf;unfold Zth;generalize Zck l u=BD at*;have hB:(BD.map Un.enc).length=BD.length:=Zyc _;generalize u.enc=U at*;refine Gn (vc:=Y185) [.t 4] Tryz.func21 ?_;simp only[Y185,YY];refine Rp1 [1,2] hul ?_;refine Zaa<|Rp1 [1,2,12] (x2 hL g5) ?_;refine Fp0 ?_;refine Rp1 [6] (x2 hut hul) ?_;refine Ap0 RO ?_;refine Rp0 [6,7] ?_;refine Zc7 7 8 rfl ?_;refine Sp0 ?_;refine Zaa<|Rp1 [7,19,20,21] hB ?_;refine Zab ?_;refine Zai (σ:={ x:Nat×Nat×Nat//x.1≤BD.length∧0<x.2.1∧x.2.1<x.2.2 }) (fun x=>([(7,.own x.1.2.1 0 (Zwh [] (BD.take x.1.1)).length),(19,.sl 8 (BD.map Un.enc)),(20,pI BD.length),(21,pI x.1.1)],⟨[(x.1.2.1,.arr false 8 ((Zwh [] (BD.take x.1.1)).map Un.enc))],x.1.2.2⟩)) (fun x=>BD.length-x.1.1) ⟨(0,1,2),Zyw _,by decide,by decide⟩ ?_ ?_ ?_
 ·refine Sp0 ?_;exact⟨rfl,rfl⟩
 ·simp only[vmL,reduceCtorEq]
  try trivial
 rintro⟨⟨k,id,t⟩,hk,hid1,hid⟩;simp only[]at hk hid1 hid⊢;have qq:=N5 0 id t (t+1) (t+1+1);refine Rp0 [7,19,20,21,22] ?_;refine Zaa<|Zae rfl (fun h1=>?_) (fun h1=>?_)
 ·have ka:k<BD.length:=by have h1:=oT h1;omega
  have hst:=Z9b [] ka;have hrow:(BD.map Un.enc).getD k []=BD[k].enc:=Zcs ka;have hv:=sm BD[k] (Zyl ka);have hmem:∀y∈Zwh [] (BD.take k),y∈BD:=by
   have key:∀(L acc:List Un),(∀y∈acc,y∈BD)→(∀y∈L,y∈BD)→∀y∈Zwh acc L,y∈BD:=by
    intro L
    induction L with
    |nil=>intro acc h _ y hy;exact h y hy
    | cons b r ih=>
     intro acc h h2 y hy;rw[Zpc]at hy;refine ih _ ?_ (fun z hz=>h2 z (Zx7 _ hz)) y hy;intro z hz;split at hz
     ·exact h z hz
     ·rcases List.mem_append.1 hz with hz|hz
      ·exact h z hz
      ·rw[List.mem_singleton.1 hz];exact h2 b List.mem_cons_self
   exact key _ [] (fun y hy=>by cases hy) (fun y hy=>List.mem_of_mem_take hy)
  have hml:(Zwh [] (BD.take k)).length≤1000:=by
   have:=Z0z (BD.take k) [];rw[Zyh,Zyn]at this;omega
  generalize BD[k]=V at*;generalize Zwh [] (BD.take k)=M at*;have CF:=Zef M 47 [.ro V.enc] (fun x=>eqB x V) (by omega) (by intro y hy;rw[Zyr]at hy;subst hy;exact Zep V) (fun x hx=>Zks (sm x (hmem x hx)) hv);have hVt:=Zaq V;have hVl:=Zao V;have hMl:(M.map Un.enc).length=M.length:=Zyc _;have hMt:List.take M.length (M.map Un.enc)=M.map Un.enc:=Zyi (by omega);have hve:=Un.Zaf V;rw[hve]at hrow CF;refine Kp0 ?_;refine Zaa<|Zab ?_;refine Rp1 [7,9,19,20,21] (x3 hB hrow qq) ?_;refine Ok ?_;refine Rp1 [7,9,19,20,21,28] qq ?_;refine Xdj [.sl 8 (M.map Un.enc),.fn (.func 47) [] [.ro [pI V.act,pI V.item,pI V.n,pI V.kind,.str V.label,.sl 4 (V.head.map Wd.enc),.sl 4 (V.words.map Wd.enc),.sl 8 (V.kids.map Un.enc)]]] ⟨View.own_all (fz:=false) (by simp[Vh,qq]) (by simp),Zgn (by simp[Vh,qq]),trivial⟩ CF (Zbs _) ?_;cases ha:M.any fun x=>eqB x V with
  |true=>
   rw[ha,if_pos rfl]at hst;refine Sp1 qq ?_;refine Fp0 ?_;refine rp1 [7,19,20,21] (x2 (ad1 (a:=k) (by omega)) qq) ?_;refine⟨⟨(k+1,id,t+1),ka,hid1,by show id<t+1;omega⟩,?_⟩;simp only[hst]
   all_goals exact Fn1 qq
  |false=>
   rw[ha,if_neg Bool.false_ne_true]at hst;have hBm:M.map Un.enc++[[pI V.act,pI V.item,pI V.n,pI V.kind,.str V.label,.sl 4 (V.head.map Wd.enc),.sl 4 (V.words.map Wd.enc),.sl 8 (V.kids.map Un.enc)]]=(M++[V]).map Un.enc:=by rw[List.map_append,←hve];rfl
   have hBl:(M++[V]).length=M.length+1:=by simp
   refine Sp1 qq ?_;refine Ct ?_;refine rp1 [7,19,20,21] (x3 hMl hMt qq) ?_;refine Ok ?_;refine rp1 [7,19,20,21] (x2 (ad1 (a:=k) (by omega)) qq) ?_;refine⟨⟨(k+1,t+1+1,t+1+1+1),ka,by show 0<t+1+1;omega,Nat.lt_succ_self _⟩,?_⟩;simp only[hst,hBm,hBl]
   all_goals exact Fn1 (x3 hBm hBl qq)
 ·have ka:k=BD.length:=by have h1:=oF h1;omega
  subst ka;rw[List.take_length];refine Ep1 qq ?_;refine Rp1 [4] qq ?_;exact Tv1 qq
end Go.Proofs.w
namespace Go.VM
open Go
theorem Ztl:∀(k:Nat) (a b:List Nat),a.take k=b.take k→k≤a.length→k≤b.length→Xb3 a b=Xb3 (a.drop k) (b.drop k)
 |0,a,b,_,_,_=>rfl
 |k+1,[],b,_,h,_=>by simp at h
 |k+1,x::a,[],_,_,h=>by simp at h
 |k+1,x::a,y::b,h,ha,hb=>by
  rw[List.take_succ_cons,List.take_succ_cons,List.cons.injEq]at h;obtain⟨h1,h2⟩:=h;subst h1;rw[List.drop_succ_cons,List.drop_succ_cons,Xb3,if_neg (Nat.lt_irrefl x),if_neg (Nat.lt_irrefl x)];exact Ztl k a b h2 (by simpa using ha) (by simpa using hb)
def cmpJ(x y:Int):Int:=if x<y then -1 else if y<x then 1 else 0
end Go.VM
namespace Go.Proofs.w
open Go Go.VM
def Y186:VC:=(ZR [Yv 2 Yf] (ZR [ZM 3 0,ZM 4 0,Yr 5 .neq 3 4,ZM 2 5] .ret))
def Y187:VC:=(ZR [Yv 4 (Yi 0)] (ZR [ZM 7 0,Yc 8 75 [7],ZM 5 8] (ZR [ZM 9 1,Yc 10 75 [9],ZM 6 10] (.seq (ZR [ZM 11 5] (YC 11 (.seq (ZR [ZM 12 6] (YC 12 (ZR [Yv 4 (Yi 0)] .ret) .skip)) (ZR [Yv 4 (Yi (-1))] .ret)) .skip)) (.seq (ZR [ZM 13 6] (YC 13 (ZR [Yv 4 (Yi 1)] .ret) .skip)) (.seq (ZR [ZM 14 0,ZM 15 1,Yr 16 .lss 14 15] (YC 16 (ZR [Yv 4 (Yi (-1))] .ret) .skip)) (.seq (ZR [ZM 17 0,ZM 18 1,Yr 19 .gtr 17 18] (YC 19 (ZR [Yv 4 (Yi 1)] .ret) .skip)) (ZR [Yv 4 (Yi 0)] .ret))))))))
def Y188:VC:=(ZR [Yv 4 (Yi 0)] (.seq (ZR [ZM 9 0,Ye 10 9,Yv 11 (Yi 0)] (.block 0 (.loop (ZR [Yr 12 .lss 11 10] (.seq (YC 12 .skip (.exit 0)) (.seq (.block 1 (ZR [ZM 13 11,Yx 14 1 9 11,Yl 15 14,ZM 5 13,ZM 6 15] (.seq (ZR [ZM 16 5,ZM 17 1,Ye 18 17,Yr 19 .geq 16 18] (YC 19 (ZR [Yv 4 (Yi 1)] .ret) .skip)) (ZR [ZM 20 1,ZM 21 5,Yx 22 1 20 21,Yl 23 22,ZM 7 23] (ZR [ZM 24 6,ZM 25 7,Yc 26 62 [24,25],ZM 8 26] (ZR [ZM 27 8,Yu 28 .neq 27 0] (YC 28 (ZR [ZM 29 8,ZM 4 29] .ret) .skip))))))) (.region [Yu 30 .add 11 1,ZM 11 30] false))))))) (.seq (ZR [ZM 31 0,Ye 32 31,ZM 33 1,Ye 34 33,Yr 35 .lss 32 34] (YC 35 (ZR [Yv 4 (Yi (-1))] .ret) .skip)) (ZR [Yv 4 (Yi 0)] .ret))))
theorem Z2o(x:Int):Tc 75 [pI x] (.bool false):=by
 refine Gp (vc:=Y186) [.t 2] (cB _) Tryz.func75 ?_;simp only[Y186,YY];refine Rp0 [0] ?_;refine Rp0 [2] ?_;refine Tp0 ?_;simp only[bne_self_eq_false];exact Vr
theorem Xev(x y:Int):Tc 62 [pI x,pI y] (pI (cmpJ x y)):=by
 refine Gp (vc:=Y187) [.t 4] (cI _) Tryz.func62 ?_;simp only[Y187,YY];refine Rp0 [0,1] ?_;refine Rp0 [0,1,5] ?_;refine Zag (Z2o ..) ?_;refine Rp0 [0,1,5,6] ?_;refine Zag (Z2o ..) ?_;refine Zaa<|Rp0 [0,1,6,11] ?_;refine Fp0 ?_;refine Zaa<|Rp0 [0,1,13] ?_;refine Fp0 ?_;refine Zaa<|Rp0 [0,1,16] ?_;unfold cmpJ;by_cases h1:x<y
 ·have g1:decide (x<y)=true:=Zyf h1;rw[if_pos h1,g1];refine Ct ?_;exact Rv0 [4]
 have g1:decide (x<y)=false:=Zyg h1;rw[if_neg h1,g1];refine Fp0 ?_;refine Zaa<|Rp0 [19] ?_;by_cases h2:y<x
 ·have g2:decide (y<x)=true:=Zyf h2;rw[if_pos h2,g2];refine Ct ?_;exact Rv0 [4]
 have g2:decide (y<x)=false:=Zyg h2;rw[if_neg h2,g2];refine Fp0 ?_;exact Rv0 [4]
theorem Zp4(a b:List Nat)(ha:a.length≤1000)(hb:b.length≤1000):Tc 43 [.sl 1 (nR a),.sl 1 (nR b)] (pI (Xb3 a b)):=by
 have hA:=Zbw a;have hB:=Zbw b;refine Zac ?_ (cI _) (CL2 (Zbm _) (Zbm _));refine Gn (vc:=Y188) [.t 4] Tryz.func43 ?_;simp only[Y188,YY];refine Rp0 [0,1] ?_;refine Zaa<|Rp1 [0,1,9,10,11] hA ?_;refine Zab ?_;refine Zai (σ:={ x:Nat×Nat//x.1≤a.length∧x.1≤b.length∧a.take x.1=b.take x.1 }) (fun x=>([(0,.sl 1 (nR a)),(1,.sl 1 (nR b)),(9,.sl 1 (nR a)),(10,pI a.length),(11,pI x.1.1)],⟨[],x.1.2⟩)) (fun x=>a.length-x.1.1) ⟨(0,0),Zyw _,Zyw _,rfl⟩ ?_ ?_ ?_
 ·simp only[vmL,Nat.reduceEqDiff,reduceCtorEq]
  try exact rfl
 ·simp only[vmL]
  try trivial
 rintro⟨⟨k,t⟩,hk,hkb,hpre⟩;simp only[]at hk hkb hpre⊢;refine Rp0 [0,1,9,10,11,12] ?_;refine Zaa<|Zae rfl (fun h1=>?_) (fun h1=>?_)
 ·have ka:k<a.length:=by have h1:=oT h1;omega
  have hra:(nR a).getD k []=[pI a[k]]:=Zcs ka;have hpr:=Ztl k a b hpre hk hkb;rw[List.drop_eq_getElem_cons ka]at hpr;refine Kp0 ?_;refine Zaa<|Zab ?_;refine Rp1 [0,1,5,6,9,10,11] (x2 hA hra) ?_;refine Ok ?_;refine Zaa ?_;refine Zaa (Zad [0,1,5,6,9,10,11,19] ?_);by_cases hb1:b.length≤k
  ·have g1:decide ((b.length:Int)≤(k:Int))=true:=Vt;rw[List.drop_eq_nil_of_le hb1]at hpr;refine Sp1 (x2 hB g1) ?_;refine Ct ?_;refine Rp0 [4] ?_;refine Tp0 ?_;rw[hpr];exact Vr
  have g1:decide ((b.length:Int)≤(k:Int))=false:=Vf;have kb:k<b.length:=by omega
  have hrb:(nR b).getD k []=[pI b[k]]:=Zcs kb;rw[List.drop_eq_getElem_cons kb,Xb3]at hpr;have CJ:=Xev (a[k]:Int) (b[k]:Int);have hstep:a[k]=b[k]→a.take (k+1)=b.take (k+1):=fun e=>Zg6 hpre ka kb e;generalize a[k]=x at*;generalize b[k]=y at*;refine Sp1 (x2 hB g1) ?_;refine Fp0 ?_;refine Rp1 [0,1,6,7,9,10,11] (x2 hB hrb) ?_;refine Ok ?_;refine Rp0 [0,1,8,9,10,11] ?_;refine Zag CJ ?_;unfold cmpJ;refine Zaa (Zad [0,1,8,9,10,11,28] ?_);by_cases h1:x<y
  ·rw[if_pos h1]at hpr;rw[if_pos (show(x:Int)<(y:Int) by omega)];have gm:((-1:Int) !=0)=true:=rfl;refine Sp1 gm ?_;refine Ct ?_;refine Rp0 [4] ?_;refine Tp0 ?_;rw[hpr];exact Vr
  rw[if_neg h1]at hpr;rw[if_neg (show ¬(x:Int)<(y:Int) by omega)];by_cases h2:y<x
  ·rw[if_pos h2]at hpr;rw[if_pos (show(y:Int)<(x:Int) by omega)];have gm:((1:Int) !=0)=true:=rfl;refine Sp1 gm ?_;refine Ct ?_;refine Rp0 [4] ?_;refine Tp0 ?_;rw[hpr];exact Vr
  rw[if_neg (show ¬(y:Int)<(x:Int) by omega)];have gm:((0:Int) !=0)=false:=rfl;refine Sp1 gm ?_;refine Fp0 ?_;refine rp1 [0,1,9,10,11] (ad1 (a:=k) (by omega)) ?_;refine⟨⟨(k+1,t),ka,kb,hstep (by omega)⟩,?_⟩;exact Fn0
 ·have ka:k=a.length:=by have h1:=oF h1;omega
  subst ka;have hpr:=Ztl a.length a b hpre hk hkb;rw[List.drop_length]at hpr;refine Ep0 ?_;refine Zaa ?_;refine Zaa (Zad [35] ?_);by_cases hb1:a.length<b.length
  ·have g1:decide ((a.length:Int)<(b.length:Int))=true:=Vt;rw[List.drop_eq_getElem_cons hb1]at hpr;refine Sp1 (x3 hA hB g1) ?_;refine Ct ?_;refine Rp0 [4] ?_;refine Tp0 ?_;rw[hpr];exact Vr
  have g1:decide ((a.length:Int)<(b.length:Int))=false:=Vf;rw[List.drop_eq_nil_of_le (by omega)]at hpr;refine Sp1 (x3 hA hB g1) ?_;refine Fp0 ?_;refine Rp0 [4] ?_;refine Tp0 ?_;rw[hpr];exact Vr
end Go.Proofs.w
namespace Go.VM
open Go Go.Proofs.w
def Zlj(k i:Nat):List Nat:=(List.range i).filter fun j=>k.testBit j
theorem Z9d(k i:Nat):Zlj k (i+1)=if k.testBit i=true then Zlj k i++[i]else Zlj k i:=by
 unfold Zlj;rw[List.range_succ,List.filter_append,List.filter_cons];split<;>simp
theorem Z2p(k i:Nat):(Zlj k i).length≤i:=by
 unfold Zlj;have:=List.length_filter_le (fun j=>k.testBit j) (List.range i);rw[List.length_range]at this;exact this
theorem bit_eq{k i:Nat}(hk:k<32)(hi:i<5):(IntKind.i64.wrap ↑(BitVec.ofInt IntKind.i64.bits ((k:Int).fdiv (2 ^ min i IntKind.i64.bits)) &&& BitVec.ofInt IntKind.i64.bits 1).toNat==1)=k.testBit i:=by
 have key:((List.range 32).all fun k=>(List.range 5).all fun i=>(IntKind.i64.wrap ↑(BitVec.ofInt IntKind.i64.bits ((k:Int).fdiv (2 ^ min i IntKind.i64.bits)) &&& BitVec.ofInt IntKind.i64.bits 1).toNat==1)==k.testBit i)=true:=by kernel_rfl
 exact beq_iff_eq.1 (List.all_eq_true.1 (List.all_eq_true.1 key k (List.mem_range.2 hk)) i (List.mem_range.2 hi))
theorem Zi9(P:List Nat)(i:Nat):(nz P).contains (i:Int)=P.contains i:=by
 rw[Bool.eq_iff_iff,List.contains_iff_mem,List.contains_iff_mem,Zrd];constructor
 ·rintro⟨j,hj,e⟩;have:j=i:=by omega
  exact this▸hj
 ·intro h;exact⟨i,h,rfl⟩
theorem Xb8(P B:List Nat)(f:Bool):Zmk P B f=(!f||(decide ((P.length:Int)<(B.length:Int))||(((P.length:Int)==(B.length:Int))&&decide (Xb3 P B<0)))):=by
 unfold Zmk;have e1:decide ((P.length:Int)<(B.length:Int))=decide (P.length<B.length):=decide_eq_decide.2 (by omega);have e2:((P.length:Int)==(B.length:Int))=decide (P.length=B.length):=by
  by_cases h:P.length=B.length
  ·rw[h];simp
  ·rw[Zyg h,beq_eq_false_iff_ne];omega
 rw[e1,e2]
end Go.VM
namespace Go.Proofs.w
open Go Go.VM
def Y189:VC:=(ZR [Yw 2 8 0,ZO 4 (.mv (.c .nilsl)),Yv 5 (Yi 0)] (.seq (ZR [ZM 14 1,Ye 15 14,Yu 16 .gtr 15 5] (YC 16 (ZR [ZO 4 (.mv (.c .nilsl)),Yv 5 (Yi 6)] .ret) .skip)) (ZR [Ym 18 8 2,ZM 19 1,Yc 20 42 [18,19],ZM 17 20,Yp 21 17 0,Yp 22 17 1,ZM 6 21,ZM 7 22] (ZR [ZO 8 (.mv (.c .nilsl))] (ZR [Yv 9 Yf] (.seq (ZR [ZM 23 1,Ye 24 23,ZO 25 (.bin .shl (Yi 1) (.t 24)),Yv 26 (Yi 0)] (.block 0 (.loop (ZR [Yr 27 .lss 26 25] (.seq (YC 27 .skip (.exit 0)) (.seq (.block 1 (ZR [ZM 28 26,ZM 10 28] (ZR [ZO 11 (.mv (.c .nilsl))] (.seq (ZR [ZM 29 1,Ye 30 29,Yv 31 (Yi 0)] (.block 2 (.loop (ZR [Yr 32 .lss 31 30] (.seq (YC 32 .skip (.exit 2)) (.seq (.block 3 (ZR [ZM 33 31,ZM 12 33] (ZR [ZM 34 10,ZM 35 12,Yr 36 .shr 34 35,Yu 37 .and 36 1,Yu 38 .eql 37 1] (YC 38 (.region [ZM 39 11,ZM 40 12,ZO 41 (.bslice 1 1 [Yo] [(0,(.t 40))]),ZO 42 (.app 1 8 [Yo] false (.t 39) (.t 41)),ZM 11 42] false) .skip)))) (.region [Yu 43 .add 31 1,ZM 31 43] false))))))) (ZR [ZM 44 9,Yn 45 44,ZM 46 45,Yg 47 11 46 false,Yd 48 47 46 false,Yg 49 8 46 false,Yd 50 49 46 false,ZG 51 (.bin .lss (.t 48) (.t 50)) 46 false,Yh 52 46 51,ZM 53 52,Yg 54 11 53 false,Yd 55 54 53 false,Yg 56 8 53 false,Yd 57 56 53 false,ZG 58 (.bin .eql (.t 55) (.t 57)) 53 false,Yg 59 58 53 false,Yg 60 11 59 true,Yg 61 8 59 true,ZG 62 (.call 43 [.t 60,.t 61]) 59 true,ZG 63 (.bin .lss (.t 62) (Yi 0)) 59 true,ZG 64 (.pick (.t 59) (.t 63) Yf) 53 false,Yh 65 53 64,ZM 13 65] (ZR [ZM 66 13,ZM 67 66,Yg 68 6 67 true,Yg 69 7 67 true,Yg 70 11 67 true,ZG 71 (.call 33 [.t 70]) 67 true,ZG 72 (.call 44 [.t 68,.t 69,.t 71]) 67 true,Yz 73 67 72] (YC 73 (.region [ZM 74 11,ZM 8 74,Yv 9 Yt] false) .skip))))))) (.region [Yu 75 .add 26 1,ZM 26 75] false))))))) (ZR [ZM 76 8,ZM 4 76,Yv 5 (Yi 0)] .ret)))))))
theorem Zrt{N:Nat}{u:Un}(g:VM.Good N u){l:List Ac}(hl:∀a∈l,SmAc a)(h5:l.length≤5)(hN:N≤300):
  Tc 19 [.agg u.enc,.sl 7 (l.map Ac.enc)] (.tup [.sl 1 (nR (Zwe l.length (Zmv l u))),pI 0]):=by
 have RO:=Ztj g hl h5 hN;have EN:=fun K=>Zwl g hl h5 hN K;refine Zac ?_ (Zbb (by simp only[Zyb,Zya,or_false,Zyv,forall_eq];exact⟨Zbm _,cI _⟩)) (CL2 (Zak u) (Zc9 l));unfold Zpg at EN;have hul:=Zao u;have hut:=Zaq u;have hL:(l.map Ac.enc).length=l.length:=Zyc _;have g5:decide ((5:Int)<(l.length:Int))=false:=Vf;unfold Zwe;generalize Zmv l u=E at*;generalize(Zck l u).map Un.enc=BE at*;generalize oR (Za3 l.length)=OE at*;generalize u.enc=U at*;generalize l.map Ac.enc=LE at*;generalize l.length=n at*;refine Gn (vc:=Y189) [.t 4,.t 5] Tryz.func19 ?_;simp only[Y189,YY];refine Rp1 [1,2] hul ?_;refine Zaa<|Rp1 [1,2,16] (x2 hL g5) ?_;refine Fp0 ?_;refine Rp1 [1,6,7] (x2 hut hul) ?_;refine Ap0 RO ?_;refine Rp0 [1,6,7,8] ?_;refine Rp0 [1,6,7,8,9] ?_;refine Zav [(1,.sl 7 LE),(6,.sl 1 OE),(7,.sl 8 BE),(8,.sl 1 []),(9,.bool false)] ⟨Vr,Vr,Vr,View.nil _ _,Vr,trivial⟩ ?_;refine Zaa ?_;refine Zaa (Zad [1,6,7,8,9,25,26] ?_);have e25:IntKind.i64.wrap (1*2 ^ min n IntKind.i64.bits)=((2 ^ n:Nat):Int):=by
  have:n=0∨n=1∨n=2∨n=3∨n=4∨n=5:=by omega
  rcases this with rfl|rfl|rfl|rfl|rfl|rfl<;>rfl
 have hpow:2 ^ n≤32:=by
  have:n=0∨n=1∨n=2∨n=3∨n=4∨n=5:=by omega
  rcases this with rfl|rfl|rfl|rfl|rfl|rfl<;>decide
 refine Sp1 (x2 hL e25) ?_;refine⟨by omega,?_⟩;refine Zab ?_;refine Zai (σ:={ x:Nat×Nat//x.1≤2 ^ n }) (fun x=>([(1,.sl 7 LE),(6,.sl 1 OE),(7,.sl 8 BE),(8,.sl 1 (nR (Zkr n E x.1.1).1)),(9,.bool (Zkr n E x.1.1).2),(25,pI ((2 ^ n:Nat):Int)),(26,pI x.1.1)],⟨[],x.1.2⟩)) (fun x=>2 ^ n-x.1.1) ⟨(0,10),Zyw _⟩ ?_ ?_ ?_
 ·refine Sp0 ?_;exact⟨rfl,rfl,rfl⟩
 ·exact Sc0
 rintro⟨⟨k,t⟩,hk⟩;simp only[]at hk⊢;refine Rp0 [1,6,7,8,9,25,26,27] ?_;refine Zaa<|Zae rfl (fun h1=>?_) (fun h1=>?_)
 ·have ka:k<2 ^ n:=by have h1:=oT h1;exact_mod_cast h1
  have hst:=Zh8 n E k;generalize Zkr n E k=ST at*;refine Kp0 ?_;refine Zaa<|Zab ?_;refine Rp0 [1,6,7,8,9,10,25,26] ?_;refine Rp0 [1,6,7,8,9,10,11,25,26] ?_;refine Zc7 11 1 rfl ?_;refine Sp0 ?_;refine Zaa<|Rp1 [1,6,7,8,9,10,11,25,26,30,31] hL ?_;refine Zab ?_;refine Zai (σ:={ x:Nat×Nat×Nat//x.1≤n∧x.2.1<x.2.2 }) (fun x=>([(1,.sl 7 LE),(6,.sl 1 OE),(7,.sl 8 BE),(8,.sl 1 (nR ST.1)),(9,.bool ST.2),(10,pI k),(11,.own x.1.2.1 0 (Zlj k x.1.1).length),(25,pI ((2 ^ n:Nat):Int)),(26,pI k),(30,pI n),(31,pI x.1.1)],⟨[(x.1.2.1,.arr false 1 (nR (Zlj k x.1.1)))],x.1.2.2⟩)) (fun x=>n-x.1.1) ⟨(0,t,t+1),Zyw _,Nat.lt_succ_self _⟩ ?_ ?_ ?_
  ·refine Sp0 ?_;exact⟨rfl,rfl⟩
  ·simp only[vmL]
   try trivial
  rintro⟨⟨i,id,t2⟩,hi,hid⟩;simp only[]at hi hid⊢;have qq:=N4 id t2 (t2+1) (t2+1+1);refine Rp0 [1,6,7,8,9,10,11,25,26,30,31,32] ?_;refine Zaa<|Zae rfl (fun h3=>?_) (fun h3=>?_)
  ·have ia:i<n:=by have h3:=oT h3;omega
   have hps:=Z9d k i;have hpl:(Zlj k i).length≤1000:=by have:=Z2p k i;omega
   generalize Zlj k i=P at*;have hPl:=Zbw P;have hPt:List.take P.length (nR P)=nR P:=Zyi (by omega);refine Kp0 ?_;refine Zaa<|Zab ?_;refine Rp0 [1,6,7,8,9,10,11,12,25,26,30,31] ?_;refine Rp0 [1,6,7,8,9,10,11,12,25,26,30,31,38] ?_;refine⟨by omega,?_⟩;have hb:=bit_eq (k:=k) (i:=i) (by omega) (by omega);rw[hb];cases hbt:k.testBit i with
   |false=>
    rw[hbt,if_neg Bool.false_ne_true]at hps;refine Fp0 ?_;refine rp1 [1,6,7,8,9,10,11,25,26,30,31] (x2 (ad1 (a:=i) (by omega)) qq) ?_;refine⟨⟨(i+1,id,t2),ia,hid⟩,?_⟩;simp only[hps]
    all_goals exact Fn1 qq
   |true=>
    rw[hbt,if_pos rfl]at hps;have hPm:nR P++[[pI i]]=nR (P++[i]):=by unfold nR;rw[List.map_append];rfl
    have hPn:(P++[i]).length=P.length+1:=by simp
    refine Ct ?_;refine rp1 [1,6,7,8,9,10,11,25,26,30,31] (x3 hPl hPt qq) ?_;refine Ok ?_;refine rp1 [1,6,7,8,9,10,11,25,26,30,31] (x2 (ad1 (a:=i) (by omega)) qq) ?_;refine⟨⟨(i+1,t2+1,t2+1+1),ia,Nat.lt_succ_self _⟩,?_⟩;simp only[hps,hPn]
    all_goals exact Fn1 (x3 hPm hPn qq)
  ·have ia:i=n:=by have h3:=oF h3;omega
   subst ia;have hset:Zlj k i=Ztf i k:=rfl;rw[hset];unfold Z89 at hst;have hPlen:(Ztf i k).length≤1000:=by have:=Z2p k i;rw[hset]at this;omega
   generalize Ztf i k=P at*;have hPl:=Zbw P;have KE:=Zsw (nz P) (by rw[Zhi];omega);rw[←Zmu]at KE;have EN':=EN (nz P);have hfun:(fun j:Nat=>(nz P).contains (j:Int))=fun j=>P.contains j:=funext fun j=>Zi9 P j;rw[hfun]at EN';have hah:=Xb8 P ST.1 ST.2;have CM:=fun(h:ST.1.length=P.length)=>Zp4 P ST.1 hPlen (by omega);have hBl:=Zbw ST.1;generalize Zdl (nz P)=KC at*;generalize Zbh i E (fun j=>P.contains j)=EF at*;refine Ep0 ?_;refine Zav [(1,.sl 7 LE),(6,.sl 1 OE),(7,.sl 8 BE),(8,.sl 1 (nR ST.1)),(9,.bool ST.2),(11,.sl 1 (nR P)),(25,pI ((2 ^ i:Nat):Int)),(26,pI k)] ⟨Vr,Vr,Vr,Vr,Vr,View.own_all (fz:=false) (by simp[Vh]) hPl.symm,Vr,Vr,trivial⟩ ?_;refine Zc6 (σ:={ b:Bool//b=Zmk P ST.1 ST.2 }) [1,6,7,8,9,11,13,25,26] (fun b=>[(1,.sl 7 LE),(6,.sl 1 OE),(7,.sl 8 BE),(8,.sl 1 (nR ST.1)),(9,.bool ST.2),(11,.sl 1 (nR P)),(13,.bool b.1),(25,pI ((2 ^ i:Nat):Int)),(26,pI k)]) ?_ (fun b=>?_)
   ·rw[hah];cases hf:ST.2 with
    |false=>
     refine Sp0 ?_;exact⟨⟨true,rfl⟩,rfl⟩
    |true=>
    cases h1:decide ((P.length:Int)<(ST.1.length:Int))with
    |true=>
     refine Sp1 (x3 hPl hBl h1) ?_;exact⟨⟨true,rfl⟩,rfl⟩
    |false=>
    cases h2:((P.length:Int)==(ST.1.length:Int))with
    |false=>
     simp only[vmL,Nat.reduceEqDiff,hPl,hBl,h1,h2];exact⟨⟨false,rfl⟩,rfl⟩
    |true=>
     refine Sp1 (x4 hPl hBl h1 h2) ?_;refine Ap0 (CM (by have:=beq_iff_eq.1 h2;omega)) ?_;exact⟨⟨decide (Xb3 P ST.1<0),rfl⟩,rfl⟩
   obtain⟨b,hb⟩:=b;simp only[];rw[←hb]at hst;refine Zaa (Zad [1,6,7,8,9,11,25,26,73] ?_);clear hb;cases b with
   |false=>
    rw[Bool.false_and,if_neg Bool.false_ne_true]at hst;refine Sp0 ?_;refine Fp0 ?_;refine rp1 [1,6,7,8,9,25,26] (ad1 (a:=k) (by omega)) ?_;refine⟨⟨(k+1,t2),ka⟩,?_⟩;simp only[hst]
    all_goals exact Fn0
   |true=>
   rw[Zyt]at hst;refine Sp0 ?_;refine Zag KE ?_;refine Zag EN' ?_;cases EF with
   |false=>
    rw[if_neg Bool.false_ne_true]at hst;refine Fp0 ?_;refine rp1 [1,6,7,8,9,25,26] (ad1 (a:=k) (by omega)) ?_;refine⟨⟨(k+1,t2),ka⟩,?_⟩;simp only[hst]
    all_goals exact Fn0
   |true=>
    rw[if_pos rfl]at hst;refine Ct ?_;refine rp0 [1,6,7,8,9,25,26] ?_;refine rp1 [1,6,7,8,9,25,26] (ad1 (a:=k) (by omega)) ?_;refine⟨⟨(k+1,t2),ka⟩,?_⟩;simp only[hst]
    all_goals exact Fn0
 ·have ka:k=2 ^ n:=by have h1:=oF h1;have h2:¬k<2 ^ n:=fun h=>h1 (by exact_mod_cast h);omega
  subst ka;refine Ep0 ?_;exact Rv0 [4,5]
end Go.Proofs.w
