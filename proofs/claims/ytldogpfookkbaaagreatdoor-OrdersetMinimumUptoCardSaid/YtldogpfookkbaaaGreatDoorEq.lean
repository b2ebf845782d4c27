import Derived.Test.YtldogpfookkbaaaGreatDoorB1
import Derived.Test.YtldogpfookkbaaaGreatDoorEp
import Derived.Test.YtldogpfookkbaaaGreatDoorVmBr
set_option linter.all false
set_option maxRecDepth 20000
set_option maxHeartbeats 0
namespace Go.VM
open Go Go.Proofs.w
theorem Zi5(a i:Int):∀(A:List Un) (k:Un) (s:Nat×Nat),stampL a i (A++[k]) s=((stampL a i A s).1++[(stampT a i k (stampL a i A s).2).1],(stampT a i k (stampL a i A s).2).2)
 | [],k,s=>by simp[stampL]
 |x::r,k,s=>by
  rw[List.cons_append,stampL,stampL,Zi5 a i r k];rfl
theorem Zh7(a i:Int):∀(A:List Un) (s:Nat×Nat),(stampL a i A s).1.length=A.length
 | [],s=>by rw[stampL]
 |x::r,s=>by rw[stampL,Zyd,Zyd,Zh7 a i r]
def stR(a i:Int)(L:List Un)(s:Nat×Nat)(j:Nat):List (List PV):=((stampL a i (L.take j) s).1++L.drop j).map Un.enc
theorem stR_0(a i:Int)(L:List Un)(s:Nat×Nat):stR a i L s 0=L.map Un.enc:=by unfold stR;rw[List.take_zero,stampL];rfl
theorem Xd5(a i:Int)(L:List Un)(s:Nat×Nat)(j:Nat):(stR a i L s j).length=L.length:=by unfold stR;simp[Zh7];omega
theorem Xd6(a i:Int)(L:List Un)(s:Nat×Nat):stR a i L s L.length=(stampL a i L s).1.map Un.enc:=by unfold stR;rw[List.take_length,List.drop_length,Zyj]
theorem stR_at(a i:Int)(L:List Un)(s:Nat×Nat){j:Nat}(h:j<L.length):∃A B:List (List PV),A.length=j∧stR a i L s j=A++L[j].enc::B∧stR a i L s (j+1)=A++(stampT a i L[j] (stampL a i (L.take j) s).2).1.enc::B∧(stampL a i (L.take (j+1)) s).2=(stampT a i L[j] (stampL a i (L.take j) s).2).2:=by
 have e:L.take (j+1)=L.take j++[L[j]]:=by rw[List.take_add_one,Zye h];rfl
 refine⟨((stampL a i (L.take j) s).1).map Un.enc,(L.drop (j+1)).map Un.enc,by rw[Zyc,Zh7,Zyh];omega,?_,?_,?_⟩
 ·unfold stR;rw[List.drop_eq_getElem_cons h,List.map_append,List.map_cons]
 ·unfold stR;rw[e,Zi5,List.map_append,List.map_append,List.append_assoc];rfl
 ·rw[e,Zi5]
theorem Zq8(a i:Int):∀{L:List Un},(∀k∈L,SmT k)→∀s:Nat×Nat,(stampL a i L s).2=(s.1+(unitsL L).length,s.2+Zbt (unitsL L))
 | [],_,s=>by rw[stampL];simp[unitsL,Zbt]
 |k::r,h,s=>by
  have e:=(Zlr (h k List.mem_cons_self) a i s).1;rw[stampL];simp only[];rw[Zq8 a i (fun y hy=>h y (Zx7 _ hy)),e,unitsL];simp only[Zx5,Zbt,List.map_append,List.sum_append,Nat.add_assoc]
theorem Xa0{L:List Un}{j:Nat}(h:j<L.length):(unitsL (L.take j)).length+(unitsT L[j]).length≤(unitsL L).length∧Zbt (unitsL (L.take j))+Zbt (unitsT L[j])≤Zbt (unitsL L):=by
 have ap:∀A B:List Un,unitsL (A++B)=unitsL A++unitsL B:=fun A B=>by rw[Za5,Za5,Za5,List.flatMap_append]
 have e:unitsL L=unitsL (L.take j)++(unitsT L[j]++unitsL (L.drop (j+1))):=by
  have:=ap (L.take j) (L.drop j);rw[List.take_append_drop,List.drop_eq_getElem_cons h,unitsL]at this;exact this
 refine⟨?_,?_⟩
 ·rw[e,Zx5,Zx5];omega
 ·rw[e];simp only[Zbt,List.map_append,List.sum_append];omega
theorem Zzv{l:List Un}(h:∀x∈l,SmT x):Zbt l≤600*l.length:=by
 induction l with
 |nil=>exact Nat.le_refl _
 |cons x r ih=>
  have h1:=(h x List.mem_cons_self).u.head.1;have h2:=(h x List.mem_cons_self).u.words.1;have:=ih fun y hy=>h y (Zx7 _ hy);simp only[Zbt,List.map_cons,List.sum_cons,Zyd,Z17]at this⊢;omega
theorem Zam.at1{P:Program}{f:FuncId}{args:List PV}{K:PV→Heap→Prop}{sid t:Nat}{b b':AB}{p:PV}{h:Heap}(l2:List (Nat×AB))(H:Zam P f args ⟨[(sid,b)],t⟩ (fun q h'=>q=p∧∃t',t≤t'∧h'=⟨[(sid,b')],t'⟩))(hh:Heap.le ⟨(sid,b)::l2,t⟩ h)(hne:∀x∈l2,x.1≠sid)(hc:∀x∈l2,∀fz z,x.2≠.arr fz z [])
  (hb:b'.live=true)(hk:∀t',t≤t'→K p ⟨(sid,b')::l2,t'⟩):Zam P f args h K:=by
 refine Zam.weakenL hh (Zam.frameL (l1:=[(sid,b)]) (l2:=l2) (t:=t) (fun x hx y hy=>by rw[Zyr]at hy;subst hy;exact hne x hx) hc (H.mono ?_));rintro q h' ⟨rfl,t',ht,rfl⟩;exact⟨ht,fun x hx y hy=>by rw[Zyr]at hy;subst hy;exact hne x hx,fun y hy=>by rw[Zyr]at hy;subst hy;exact hb,hk t' ht⟩
def sB(a i:Int)(n m:Nat):AB:=.arr false 4 [[pI a,pI i,pI (n:Int),pI (m:Int)]]
theorem Zpy(u:Un):Zbt (unitsT u)=u.head.length+u.words.length+Zbt (unitsL u.kids):=by rw[Zap];simp[Zbt,Z17]
end Go.VM
namespace Go.Proofs.w
open Go Go.VM
def Y75:VC:=(ZR [ZO 4 (.mv (.c .nilsl))] (.seq (.region [ZM 6 1,Yc 7 217 [6],ZM 8 0,ZO 9 (.px .nck [.t 8]),Ya 10 0 9,Yl 11 10,ZM 12 0,ZO 13 (.px .nck [.t 12]),Ya 14 1 13,Yl 15 14,ZM 16 0,ZO 17 (.px .nck [.t 16]),Ya 18 3 17,Yl 19 18,Yc 20 132 [7,11,15,19],ZM 5 20] true) (ZR [ZM 21 0,ZO 22 (.px .nck [.t 21]),Ya 23 3 22,Yl 24 23,ZM 25 5,Ye 26 25,Yr 27 .add 24 26,ZO 28 (.px .nck [.t 21]),Ya 29 3 28,Ys 1 29 27] (ZR [ZM 30 5,ZM 4 30] .ret))))
def Y76 : VC := (ZR [Yw 3 8 1,ZO 4 (.alloc ZU)] (ZR [ZM 7 0,ZO 8 (.px .nck [.t 7]),Ya 9 2 8,Yl 10 9,Yu 11 .add 10 1,ZO 12 (.px .nck [.t 7]),Ya 13 2 12,Ys 1 13 11] (.seq (.draw2 [ZM 14 0,ZO 15 (.px .nck [.t 14]),Ya 16 0 15,Yl 17 16,ZM 18 0,ZO 19 (.px .nck [.t 18]),Ya 20 1 19,Yl 21 20,ZM 22 0,ZO 23 (.px .nck [.t 22]),Ya 24 2 23,Yl 25 24,ZO 26 (.build [Yo,Yo,Yo] [(0,(1,(.t 17))),(1,(1,(.t 21))),(2,(1,(.t 25)))]),Ya 27 0 3,Ys 3 27 26] [true,true,true,true,true,true,true,true,true,true,true,true,true,true,false]) (ZR [ZM 28 0,Ya 29 5 3,Yl 30 29,Yc 31 213 [28,30],Ya 32 5 3,Ys 1 32 31] (ZR [ZM 33 0,Ya 34 6 3,Yl 35 34,Yc 36 213 [33,35],Ya 37 6 3,Ys 1 37 36] (ZR [Ya 38 7 3,Yl 39 38,Ye 40 39,ZO 41 (.other ({ dst := some 41,op := Op.makeSlice 37 (Operand.tmp 40) (Operand.tmp 40),type := 37,pos := "wording.go:46",after := #[{ on := 2,ground := Ground.data },{ on := 2,ground := Ground.data }],guard := none } : Oper)),ZM 5 41] (ZR [ZM 42 5,Ya 43 7 3,Yl 44 43,ZO 45 (.other ({ dst := some 45,op := Op.call { callee := Callee.builtin Builtin.copy,args := #[Operand.tmp 42,Operand.tmp 44],argTypes := #[37,37] },type := 3,pos := "wording.go:47",after := #[{ on := 0,ground := Ground.data },{ on := 2,ground := Ground.data }],guard := none } : Oper))] (.seq (ZR [ZM 46 5,Ye 47 46,Yv 48 (Yi 0)] (.block 0 (.loop (ZR [Yr 49 .lss 48 47] (.seq (YC 49 .skip (.exit 0)) (.seq (.block 1 (ZR [ZM 50 48,ZM 6 50] (.region [ZM 51 5,ZM 52 6,ZM 53 0,ZM 54 5,ZM 55 6,Yx 56 8 54 55,Ym 57 8 56,Yc 58 175 [53,57],Yx 59 8 51 52,Ys 8 59 58] false))) (.region [Yu 60 .add 48 1,ZM 48 60] false))))))) (ZR [ZM 61 5,Ya 62 7 3,Ys 1 62 61] (ZR [Ym 63 8 3,Ys 8 4 63] .ret))))))))))
def Y77:VC:=(ZR [Yw 3 8 0,ZO 6 (.alloc ZU)] (ZR [ZM 8 1,ZM 9 2,ZO 10 (.build [Yo,Yo,Yo,Yo] [(0,(1,(.t 8))),(1,(1,(.t 9)))]),ZO 7 (.alloc [Yo,Yo,Yo,Yo]),Ys 4 7 10] (ZR [Ym 11 8 3,Yc 12 175 [7,11],Ys 8 6 12] .ret)))
theorem Xcv(w:List Wd)(hw:w.length≤1000)(a i:Int)(n m sid t:Nat)(ht:sid<t)(hm:m≤100000000):Zam Tryz.prog 213 [.loc sid 0 0,.sl 4 (w.map Wd.enc)] ⟨[(sid,sB a i n m)],t⟩ (fun p h'=>p=.sl 4 ((Zb4 a i m (w.map Wd.text)).map Wd.enc)∧∃t',t≤t'∧h'=⟨[(sid,sB a i n (m+w.length))],t'⟩):=by
 have S:=Zq6 w (by omega);have M:=Zzs (w.map Wd.text) a i m (by rw[Zyc];omega) (by omega);have hl:((Zb4 a i (m:Int) (w.map Wd.text)).map Wd.enc).length=w.length:=by rw[Zyc,Zez,Zyc]
 refine Zam.drop ?_;have qq:=N2 sid t;unfold sB;refine Gn (vc:=Y75) [.t 4] Tryz.func213 ?_;simp only[Y75,YY];refine Rp1 [0,1] qq ?_;refine Zaa (Zaw [0,5] ?_ ?_)
 ·exact Sc1 qq
 refine Sp1 qq ?_;refine⟨_,.inl S,?_⟩
 skip
 refine⟨_,.inl M,?_⟩
 skip
 refine Rp1 [5] (x3 hl (w64 (n:=(m:Int)+(w.length:Int)) (by omega) (by omega)) qq) ?_;refine Rp1 [4] qq ?_;refine Tp1 qq ?_;refine⟨⟨[(sid,.arr false 4 [[pI a,pI i,pI n,pI (m+w.length:Nat)]])],t⟩,⟨Nat.le_refl _,?_⟩,t,Nat.le_refl _,rfl⟩;simp only[vmL,qq,Int.natCast_add]
theorem Xd7{u:Un}(hu:SmT u)(a i:Int):∀(n m sid t:Nat),sid<t→n+(unitsT u).length≤100000→m+Zbt (unitsT u)≤100000000→Zam Tryz.prog 175 [.loc sid 0 0,.agg u.enc] ⟨[(sid,sB a i n m)],t⟩
  (fun p h'=>p=.agg (stampT a i u (n,m)).1.enc∧∃t',t≤t'∧h'=⟨[(sid,sB a i (stampT a i u (n,m)).2.1 (stampT a i u (n,m)).2.2)],t'⟩):=by
 induction hu with
 |mk u h hk hs ih=>
 intro n m sid t ht hn hm;have hHl:=h.head.1;have hWl:=h.words.1;rw[Zpy]at hm;rw[Zap,Zyd]at hn;have R1:=Xcv u.head (by omega) a i (n+1) m sid (t+2) (by omega) (by omega);have R2:=fun(t':Nat) (h':t+2≤t')=>Xcv u.words (by omega) a i (n+1) (m+u.head.length) sid t' (by omega) (by omega);rw[Zoq];simp only[];have eS:(Un.mk a i ((n+1:Nat):Int) u.kind u.label (Zb4 a i (m:Int) (u.head.map Wd.text)) (Zb4 a i ((m+u.head.length:Nat):Int) (u.words.map Wd.text)) (stampL a i u.kids (n+1,m+u.head.length+u.words.length)).1).enc=[pI a,pI i,pI ((n+1:Nat):Int),pI u.kind,.str u.label,.sl 4 ((Zb4 a i (m:Int) (u.head.map Wd.text)).map Wd.enc),.sl 4 ((Zb4 a i ((m+u.head.length:Nat):Int) (u.words.map Wd.text)).map Wd.enc),.sl 8 ((stampL a i u.kids (n+1,m+u.head.length+u.words.length)).1.map Un.enc)]:=Un.Zaf _;rw[eS];rw[Un.Zaf u];generalize Zb4 a i (m:Int) (u.head.map Wd.text)=MH at*;generalize Zb4 a i ((m+u.head.length:Nat):Int) (u.words.map Wd.text)=MW at*;refine Zam.frzR ?_;have qq:=N5 sid t (t+1) (t+1+1) (t+1+1+1);unfold sB at R1 R2⊢;refine Gn (vc:=Y76) [.c 4 true 8] Tryz.func175 ?_;simp only[Y76,YY];refine Rp1 [0,3,4] qq ?_;refine Rp1 [0,3,4] (x2 (ad1 (a:=n) (by omega)) qq) ?_;refine Zaa (Zd5 [0,3,4] ?_ ?_)
 ·exact Sc1 qq
 refine Sp1 qq ?_;refine Rp1 [0,3,4] qq ?_;refine Zam.at1 [(t+1,.arr false 8 [[pI 0,pI 0,pI 0,pI 0,.str [],.nilsl,.nilsl,.nilsl]]),(t,.arr false 8 [[pI a,pI i,pI ((n+1:Nat):Int),pI u.kind,.str u.label,.sl 4 (u.head.map Wd.enc),.sl 4 (u.words.map Wd.enc),.sl 8 (u.kids.map Un.enc)]])] R1 ?_ ?_ ?_ rfl ?_
 ·exact Sc1 qq
 ·simp;omega
 ·simp
 intro t1 ht1;refine Sp1 qq ?_;refine Rp1 [0,3,4] qq ?_;refine Zam.at1 [(t+1,.arr false 8 [[pI 0,pI 0,pI 0,pI 0,.str [],.nilsl,.nilsl,.nilsl]]),(t,.arr false 8 [[pI a,pI i,pI ((n+1:Nat):Int),pI u.kind,.str u.label,.sl 4 (MH.map Wd.enc),.sl 4 (u.words.map Wd.enc),.sl 8 (u.kids.map Un.enc)]])] (R2 t1 ht1) ?_ ?_ ?_ rfl ?_
 ·exact Sc1 qq
 ·simp;omega
 ·simp
 intro t2 ht2;refine Sp1 qq ?_;refine Rp1 [0,3,4,5] (x2 @xlm qq) ?_;refine Zvb (n:=u.kids.length) (z:=8) (kx:=.i64) (ky:=.i64) (zr:=[pI 0,pI 0,pI 0,pI 0,.str [],.nilsl,.nilsl,.nilsl]) rfl Tryz.underlying37 (by kernel_rfl) (by kernel_rfl) rfl rfl rfl rfl rfl (by omega) ?_;have qq:=N5 sid t (t+1) t2 (t2+1);refine Sp1 qq ?_;refine Rp1 [0,3,4,5] qq ?_;refine Zvc (n:=u.kids.length) (z:=8) (es:=List.replicate u.kids.length [pI 0,pI 0,pI 0,pI 0,.str [],.nilsl,.nilsl,.nilsl]) (id:=t2) rfl Tryz.underlying37 (by kernel_rfl) rfl rfl rfl ?_ (by rw[List.length_replicate]) ?_ ?_ ?_ ?_
 ·exact Sr1 qq
 ·simp only[vmL,Nat.reduceEqDiff,reduceCtorEq,qq]
  try trivial
 ·exact Sc1 (x2 @xlm qq)
 ·exact Sc1 qq
 refine Sp1 (x2 @xlm qq) ?_;refine Zaa<|Rp1 [0,3,4,5,47,48] qq ?_;generalize hL:u.kids=L at*;refine Zab ?_;refine Zai (σ:={ x:Nat×Nat//x.1≤L.length∧t2+1≤x.2 }) (fun x=>([(0,.loc sid 0 0),(3,.loc t 0 0),(4,.loc (t+1) 0 0),(5,.own t2 0 L.length),(47,pI L.length),(48,pI x.1.1)],⟨[(t2,.arr false 8 (stR a i L (n+1,m+u.head.length+u.words.length) x.1.1)),(sid,.arr false 4 [[pI a,pI i,pI ((stampL a i (L.take x.1.1) (n+1,m+u.head.length+u.words.length)).2.1:Int),pI ((stampL a i (L.take x.1.1) (n+1,m+u.head.length+u.words.length)).2.2:Int)]]),(t+1,.arr false 8 [[pI 0,pI 0,pI 0,pI 0,.str [],.nilsl,.nilsl,.nilsl]]),(t,.arr false 8 [[pI a,pI i,pI ((n+1:Nat):Int),pI u.kind,.str u.label,.sl 4 (MH.map Wd.enc),.sl 4 (MW.map Wd.enc),.sl 8 (L.map Un.enc)]])],x.1.2⟩)) (fun x=>L.length-x.1.1) ⟨(0,t2+1),Zyw _,Nat.le_refl _⟩ ?_ ?_ ?_
 ·simp only[vmL,Nat.reduceEqDiff,reduceCtorEq,qq]
  repeat' (first|rfl|refine And.intro ?_ ?_)
 ·simp only[vmL,stR_0,List.take_zero,stampL,qq]
  try trivial
 rintro⟨⟨j,T⟩,hj,hT⟩;simp only[]at hj hT⊢;have qq:=N5 sid t (t+1) t2 T;refine Rp1 [0,3,4,5,47,48,49] qq ?_;refine Zaa<|Zae rfl (fun h2=>?_) (fun h2=>?_)
 ·have ja:j<L.length:=by have h2:=oT h2;omega
  obtain⟨PA,RB,p1,p2,p3,p4⟩:=stR_at a i L (n+1,m+u.head.length+u.words.length) ja;have hle:(PA++RB).length+1=L.length:=by rw[←Xd5 a i L (n+1,m+u.head.length+u.words.length) j,p2];simp;omega
  have hcnt:=Zq8 a i (fun k hk'=>hs k (List.mem_of_mem_take hk'):∀k∈L.take j,SmT k) (n+1,m+u.head.length+u.words.length);obtain⟨q1,q2⟩:=Xa0 ja;have I:=ih L[j] (Zyl ja) (stampL a i (L.take j) (n+1,m+u.head.length+u.words.length)).2.1 (stampL a i (L.take j) (n+1,m+u.head.length+u.words.length)).2.2 sid T (by omega) (by rw[hcnt];simp only[];omega) (by rw[hcnt];simp only[];omega);rw[show((stampL a i (L.take j) (n+1,m+u.head.length+u.words.length)).2.1,(stampL a i (L.take j) (n+1,m+u.head.length+u.words.length)).2.2)=(stampL a i (L.take j) (n+1,m+u.head.length+u.words.length)).2 from rfl]at I;generalize stampT a i L[j] (stampL a i (L.take j) (n+1,m+u.head.length+u.words.length)).2=NV at p3 p4 I;generalize(stampL a i (L.take j) (n+1,m+u.head.length+u.words.length)).2=CS at I⊢;generalize L[j]=v at p2 I;have hv:=Un.Zaf v;have hs2:=Un.Zaf NV.1;rw[hv]at p2 I;rw[hs2]at p3 I;have hM1:=fun(x:List PV) (d:List PV)=>Zom PA x RB d p1;have hM2:=fun(x y:List PV)=>Zon PA x y RB p1;have hl2:∀y:List PV,j<(PA++y::RB).length:=fun y=>by rw[Zx5,Zyd];rw[Zx5]at hle;omega
  simp only[p2];refine Kp1 qq ?_;refine Zaa<|Zab ?_;refine Rp1 [0,3,4,5,6,47,48] qq ?_;refine rp1 [0,3,4,5,47,48] (x3 hM1 hM2 qq) ?_;refine⟨⟨by omega,by omega⟩,hl2 _,?_⟩;refine Zam.at1 [(t2,.arr false 8 (PA++[pI v.act,pI v.item,pI v.n,pI v.kind,.str v.label,.sl 4 (v.head.map Wd.enc),.sl 4 (v.words.map Wd.enc),.sl 8 (v.kids.map Un.enc)]::RB)),(t+1,.arr false 8 [[pI 0,pI 0,pI 0,pI 0,.str [],.nilsl,.nilsl,.nilsl]]),(t,.arr false 8 [[pI a,pI i,pI ((n+1:Nat):Int),pI u.kind,.str u.label,.sl 4 (MH.map Wd.enc),.sl 4 (MW.map Wd.enc),.sl 8 (L.map Un.enc)]])] I ?_ ?_ ?_ rfl ?_
  ·unfold sB;exact Sc1 qq
  ·simp;omega
  ·simp
  intro T2 hT2;unfold sB;refine Sp1 (x3 hM1 hM2 qq) ?_;refine⟨⟨by omega,by omega⟩,hl2 _,?_⟩;refine rp1 [0,3,4,5,47,48] (x4 (ad1 (a:=j) (by omega)) hM1 hM2 qq) ?_;refine⟨⟨(j+1,T2),ja,by show t2+1≤T2;omega⟩,?_⟩;simp only[p3,p4]
  all_goals exact Fn1 qq
 ·have ja:j=L.length:=by have h2:=oF h2;omega
  subst ja;refine Ep1 qq ?_;refine Rp1 [3,4] qq ?_;refine Rp1 [4] qq ?_;refine Tp1 qq ?_;rw[List.take_length];refine⟨[(t2,.arr false 8 ((stampL a i L (n+1,m+u.head.length+u.words.length)).1.map Un.enc))],[(sid,.arr false 4 [[pI a,pI i,pI ((stampL a i L (n+1,m+u.head.length+u.words.length)).2.1:Int),pI ((stampL a i L (n+1,m+u.head.length+u.words.length)).2.2:Int)]])],T,.agg [pI a,pI i,pI ((n+1:Nat):Int),pI u.kind,.str u.label,.sl 4 (MH.map Wd.enc),.sl 4 (MW.map Wd.enc),.sl 8 ((stampL a i L (n+1,m+u.head.length+u.words.length)).1.map Un.enc)],?_,?_,?_,?_,rfl,T,by omega,rfl⟩
  ·exact Sc1 (x2 @Xd6 qq)
  ·simp;omega
  ·simp
  ·refine View.agg rfl fun j hj=>?_;have hj':j=0∨j=1∨j=2∨j=3∨j=4∨j=5∨j=6∨j=7:=by simp only[Zyd,Zyn]at hj;omega
   rcases hj' with rfl|rfl|rfl|rfl|rfl|rfl|rfl|rfl
   ·exact Vr
   ·exact Vr
   ·exact Vr
   ·exact Vr
   ·exact Vr
   ·exact Vr
   ·exact Vr
   ·exact View.own_all (fz:=false) (by simp[Vh]) (by rw[Zyc,Zh7])
theorem Xa1{u:Un}(hu:SmT u)(hn:(unitsT u).length≤1000)(a i:Int):Tc 116 [.agg u.enc,pI a,pI i] (.agg (Zdj a i u).enc):=by
 have hw:=Zzv (fun x hx=>hu.units x hx);have T:=fun(t:Nat) (ht:2<t)=>Xd7 hu a i 0 0 2 t ht (by omega) (by omega);refine Zac ?_ (Zak _) (CL3 (Zak _) (cI _) (cI _));unfold Zdj;have hut:=Zaq u;have hul:=Zao u;have hut2:=Zaq (stampT a i u (0,0)).1;have hul2:=Zao (stampT a i u (0,0)).1;have hs:=Un.Zaf (stampT a i u (0,0)).1;unfold sB at T;rw[hs]at T⊢;generalize u.enc=U at*;refine Gn (vc:=Y77) [.c 6 true 8] Tryz.func116 ?_;simp only[Y77,YY];refine Rp1 [1,2,3,6] hul ?_;refine Rp0 [3,6,7] ?_;refine Rp1 [6] (x2 hut hul) ?_;refine Zam.at1 [(1,.arr false 8 [[pI 0,pI 0,pI 0,pI 0,.str [],.nilsl,.nilsl,.nilsl]]),(0,.arr false 8 [U])] (T 3 (by omega)) ?_ ?_ ?_ rfl ?_
 ·simp only[vmL,Nat.reduceEqDiff,reduceCtorEq]
  try trivial
 ·simp
 ·simp
 intro t' ht';refine Sp0 ?_;exact Tv0
end Go.Proofs.w
