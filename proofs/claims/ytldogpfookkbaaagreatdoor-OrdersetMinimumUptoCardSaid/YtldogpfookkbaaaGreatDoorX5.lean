import Derived.Test.YtldogpfookkbaaaGreatDoorV0
import Derived.Test.YtldogpfookkbaaaGreatDoorVmPk
import Derived.Lib.ItoaNum
import Derived.Lib.Atoi
import Derived.Shelf.GgClosure.StringsIndexFunc
import Derived.Lib.Repeat
set_option linter.all false
set_option maxRecDepth 20000
set_option maxHeartbeats 0
namespace Go.Proofs.w
open Go Go.VM
def Y10:VC:=(ZR [ZO 2 (.mv (.c .nilsl))] (.seq (ZR [ZM 3 0,ZO 4 (.nd false (.t 3))] (YC 4 (ZR [ZO 2 (.mv (.c .nilsl))] .ret) .skip)) (ZR [ZO 5 (.fx (.mk0 4) []),ZM 6 0,ZO 7 (.app 4 40 [(.str []),Yo,Yo,Yo] false (.t 5) (.t 6)),ZM 2 7] .ret)))
def Y11:VC:=(ZR [ZO 2 (.mv (.c .nilsl))] (.seq (ZR [ZM 3 0,ZO 4 (.nd false (.t 3))] (YC 4 (ZR [ZO 2 (.mv (.c .nilsl))] .ret) .skip)) (ZR [ZO 5 (.fx (.mk0 8) []),ZM 6 0,ZO 7 (.app 8 120 ZU false (.t 5) (.t 6)),ZM 2 7] .ret)))
def Y12:VC:=(ZR [Yw 1 8 0,ZO 2 (.alloc ZU)] (.seq (.draw2 [Ya 6 5 1,Yl 7 6,Yc 8 168 [7],Ya 9 6 1,Yl 10 9,Yc 11 168 [10],Ya 12 5 1,Ys 1 12 8,Ya 13 6 1,Ys 1 13 11] [true,true,true,true,true,true,true,false,false,false]) (ZR [ZO 3 (.mv (.c .nilsl))] (.seq (ZR [Ya 14 7 1,Yl 15 14,Ye 16 15,Yv 17 (Yi 0)] (.block 0 (.loop (ZR [Yr 18 .lss 17 16] (.seq (YC 18 .skip (.exit 0)) (.seq (.block 1 (ZR [Yx 19 8 15 17,Ym 20 8 19,ZO 5 (.alloc ZU),Ys 8 5 20] (.region [ZM 21 3,Ym 22 8 5,Yc 23 106 [22],ZO 24 (.bslice 8 1 ZU [(0,(.t 23))]),ZO 25 (.app 8 120 ZU false (.t 21) (.t 24)),ZM 3 25] false))) (.region [Yu 26 .add 17 1,ZM 17 26] false))))))) (ZR [ZM 27 3,Ya 28 7 1,Ys 1 28 27] (ZR [Ym 29 8 1,Ys 8 2 29] .ret))))))
theorem Za9(l:List Wd):Closed (.sl 4 (l.map Wd.enc)):=Zaj fun w _ y hy=>w.closed y hy
theorem Zhz(l:List Un):Closed (.sl 8 (l.map Un.enc)):=Zaj fun u _ y hy=>Un.closed u y hy
theorem Zak(u:Un):Closed (.agg u.enc):=Zah fun y hy=>Un.closed u y hy
abbrev _root_.Go.VM.Tc:=Zgy Go.Proofs.Tryz.prog
theorem sp_Clone_Word(l:List Wd)(hl:l.length≤1048576):Tc 168 [.sl 4 (l.map Wd.enc)] (.sl 4 (l.map Wd.enc)):=by
 refine Gp (vc:=Y10) [.t 2] (Za9 _) Tryz.func168 ?_;simp only[Y10,YY];refine Rp0 [0] ?_;refine Zaa<|Rp0 [0,4] ?_;intro b hb1 hb2;cases b with
 |true=>
  skip
  refine Zae rfl (fun h1=>?_) (fun h1=>by cases h1);refine Rp0 [2] ?_;refine Tp0 ?_;cases l with
  |nil=>exact View.nil _ _
  |cons a r=>simp at hb2
 |false=>
  skip
  refine Zae rfl (fun h1=>by cases h1) (fun h1=>?_);refine Kp0 ?_;refine Rp1 [2] @xlm ?_;refine Ok ?_;refine Tp0 ?_;exact View.own_all (fz:=false) (by simp[Vh]) (by rw[Zyc])
theorem Xad{h:Heap}{id:Nat}{fz:Bool}{a b c d e f g:PV}{n:Nat}{R:List Un}(hg:h.get id=some (.arr fz 8 (R.map Un.enc)))(hn:R.length=n):View h (.agg [a,b,c,d,e,f,g,.own id 0 n]) (.agg [a,b,c,d,e,f,g,.sl 8 (R.map Un.enc)]):=by
 refine View.agg rfl fun j hj=>?_;have hj':j=0∨j=1∨j=2∨j=3∨j=4∨j=5∨j=6∨j=7:=by simp only[Zyd,Zyn]at hj;omega
 rcases hj' with rfl|rfl|rfl|rfl|rfl|rfl|rfl|rfl
 ·exact Vr
 ·exact Vr
 ·exact Vr
 ·exact Vr
 ·exact Vr
 ·exact Vr
 ·exact Vr
 ·show View _ (.own id 0 n) (.sl 8 (R.map Un.enc));exact View.own_all (fz:=fz) hg (by rw[Zyc,hn])
theorem Zij{u:Un}(hu:SmT u):Tc 106 [.agg u.enc] (.agg u.enc):=by
 induction hu with
 | mk u h hk hs ih=>
  have H:=sp_Clone_Word u.head (by have:=h.head.1;omega);have W:=sp_Clone_Word u.words (by have:=h.words.1;omega);refine Zac ?_ (Zak _) (by intro y hy;rw[Zyr]at hy;subst hy;exact Zak _);refine Gn (vc:=Y12) [.c 2 true 8] Tryz.func106 ?_;simp only[Y12,YY];rw[Un.Zaf];generalize u.head.map Wd.enc=EH at H⊢;generalize u.words.map Wd.enc=EW at W⊢;refine Rp0 [1,2] ?_;refine Zaa (Zd5 [1,2] (by simp[Vh]) ?_);refine Sp0 ?_;refine⟨_,.inl H,_,.inl W,?_⟩;refine Sp0 ?_;refine Rp0 [1,2,3] ?_;refine Zc7 3 8 rfl ?_;refine Sp0 ?_;refine Zaa<|Rp1 [1,2,3,15,16,17] @xlm ?_;generalize u.kids=L at hk hs ih⊢;refine Zab ?_;refine Zai (σ:={ x:Nat×Nat×Nat//x.1≤L.length∧1<x.2.1∧x.2.1<x.2.2 }) (fun x=>([(1,.loc 0 0 0),(2,.loc 1 0 0),(3,.own x.1.2.1 0 x.1.1),(15,.sl 8 (L.map Un.enc)),(16,pI L.length),(17,pI x.1.1)],⟨[(x.1.2.1,.arr false 8 ((L.take x.1.1).map Un.enc)),(1,.arr false 8 [[PV.int .i64 0,PV.int .i64 0,PV.int .i64 0,PV.int .i64 0,PV.str [],PV.nilsl,PV.nilsl,PV.nilsl]]),(0,.arr false 8 [[pI u.act,pI u.item,pI u.n,pI u.kind,.str u.label,.sl 4 EH,.sl 4 EW,.sl 8 (L.map Un.enc)]])],x.1.2.2⟩)) (fun x=>L.length-x.1.1) ⟨(0,2,3),Zyw _,by simp,by simp⟩ ?_ ?_ ?_
  ·refine Sp0 ?_;rfl
  ·exact Sr0
  rintro⟨⟨k,id,t⟩,hkk,hid1,hid⟩;simp only[]at hkk hid1 hid⊢;have qq:=N6 0 1 id t (t+1) (t+1+1);refine Rp1 [1,2,3,15,16,17,18] qq ?_;refine Zaa<|Zae rfl (fun h1=>?_) (fun h1=>?_)
  ·have ka:k<L.length:=by have h1:=oT h1;omega
   have hrow:(L.map Un.enc).getD k []=L[k].enc:=Zcs ka;have R:=ih _ (Zyl ka);have hst:(L.take (k+1)).map Un.enc=(L.take k).map Un.enc++[L[k].enc]:=by rw[List.take_add_one,Zye ka,List.map_append];rfl
   have hB:((L.take k).map Un.enc).length=k:=by simp;omega
   generalize L[k]=v at hrow R hst;generalize(L.take k).map Un.enc=B at hst hB⊢;have tk:List.take k B=B:=Zyi (by omega);rw[Un.Zaf]at hrow R hst;refine Kp1 qq ?_;refine Zaa<|Zab ?_;refine Rp1 [1,2,3,5,15,16,17] (x3 @xlm hrow qq) ?_;refine Ok ?_;refine rp1 [1,2,3,15,16,17] qq ?_;refine Ap1 R (x3 tk hB qq) ?_;refine⟨by omega,by omega,?_⟩;refine rp1 [1,2,3,15,16,17] (x2 (ad1 (a:=k) (by omega)) qq) ?_;refine⟨⟨(k+1,t+1+1,t+1+1+1),ka,by show 1<t+1+1;omega,Nat.lt_succ_self _⟩,?_⟩;simp only[hst];refine Sp1 qq ?_;omega
  ·have ka:k=L.length:=by have h1:=oF h1;omega
   subst ka;rw[List.take_length];refine Ep1 qq ?_;refine Rp1 [1,2] qq ?_;refine Rp1 [2] qq ?_;refine Tp1 qq ?_;refine Xad (fz:=false) (by simp[Vh,show ¬0=id by omega,show ¬1=id by omega]) rfl
def Y13:VC:=(ZR [Yv 4 (Yi 0)] (.seq (ZR [ZM 6 0,Ye 7 6,Yv 8 (Yi 0)] (.block 0 (.loop (ZR [Yr 9 .lss 8 7] (.seq (YC 9 .skip (.exit 0)) (.seq (.block 1 (ZR [ZM 10 8,ZM 5 10] (ZR [ZM 11 1,ZM 12 0,ZM 13 5,Yx 14 1 12 13,Yl 15 14,ZO 16 (.callv (.t 11) [.t 15])] (YC 16 (ZR [ZM 17 5,ZM 4 17] .ret) .skip)))) (.region [Yu 18 .add 8 1,ZM 8 18] false))))))) (ZR [Yv 4 (Yi (-1))] .ret)))
def Y14:VC:=(ZR [Yv 4 (Yi 0)] (.seq (ZR [ZM 6 0,Ye 7 6,Yv 8 (Yi 0)] (.block 0 (.loop (ZR [Yr 9 .lss 8 7] (.seq (YC 9 .skip (.exit 0)) (.seq (.block 1 (ZR [ZM 10 8,ZM 5 10] (ZR [ZM 11 1,ZM 12 0,ZM 13 5,Yx 14 1 12 13,Yl 15 14,ZO 16 (.callv (.t 11) [.t 15])] (YC 16 (ZR [ZM 17 5,ZM 4 17] .ret) .skip)))) (.region [Yu 18 .add 8 1,ZM 8 18] false))))))) (ZR [Yv 4 (Yi (-1))] .ret)))
def Y15:VC:=(ZR [Yv 4 (Yi 0)] (.seq (ZR [ZM 6 0,Ye 7 6,Yv 8 (Yi 0)] (.block 0 (.loop (ZR [Yr 9 .lss 8 7] (.seq (YC 9 .skip (.exit 0)) (.seq (.block 1 (ZR [ZM 10 8,ZM 5 10] (ZR [ZM 11 1,ZM 12 0,ZM 13 5,Yx 14 4 12 13,Ym 15 4 14,ZO 16 (.callv (.t 11) [.t 15])] (YC 16 (ZR [ZM 17 5,ZM 4 17] .ret) .skip)))) (.region [Yu 18 .add 8 1,ZM 8 18] false))))))) (ZR [Yv 4 (Yi (-1))] .ret)))
def Y16:VC:=(ZR [Yv 4 (Yi 0)] (.seq (ZR [ZM 6 0,Ye 7 6,Yv 8 (Yi 0)] (.block 0 (.loop (ZR [Yr 9 .lss 8 7] (.seq (YC 9 .skip (.exit 0)) (.seq (.block 1 (ZR [ZM 10 8,ZM 5 10] (ZR [ZM 11 1,ZM 12 0,ZM 13 5,Yx 14 3 12 13,Ym 15 3 14,ZO 16 (.callv (.t 11) [.t 15])] (YC 16 (ZR [ZM 17 5,ZM 4 17] .ret) .skip)))) (.region [Yu 18 .add 8 1,ZM 8 18] false))))))) (ZR [Yv 4 (Yi (-1))] .ret)))
def Y17:VC:=(ZR [Yv 4 (Yi 0)] (.seq (ZR [ZM 6 0,Ye 7 6,Yv 8 (Yi 0)] (.block 0 (.loop (ZR [Yr 9 .lss 8 7] (.seq (YC 9 .skip (.exit 0)) (.seq (.block 1 (ZR [ZM 10 8,ZM 5 10] (ZR [ZM 11 1,ZM 12 0,ZM 13 5,Yx 14 8 12 13,Ym 15 8 14,ZO 16 (.callv (.t 11) [.t 15])] (YC 16 (ZR [ZM 17 5,ZM 4 17] .ret) .skip)))) (.region [Yu 18 .add 8 1,ZM 8 18] false))))))) (ZR [Yv 4 (Yi (-1))] .ret)))
def Y18:VC:=(ZR [Yv 4 Yf] (ZR [ZM 5 0,ZM 6 1,Yc 7 253 [5,6],Yu 8 .geq 7 0,ZM 4 8] .ret))
def Y19:VC:=(ZR [Yv 4 Yf] (ZR [ZM 5 0,ZM 6 1,Yc 7 267 [5,6],Yu 8 .geq 7 0,ZM 4 8] .ret))
def Y20:VC:=(ZR [Yv 4 Yf] (ZR [ZM 5 0,ZM 6 1,Yc 7 183 [5,6],Yu 8 .geq 7 0,ZM 4 8] .ret))
def Y21:VC:=(ZR [Yv 4 Yf] (ZR [ZM 5 0,ZM 6 1,Yc 7 252 [5,6],Yu 8 .geq 7 0,ZM 4 8] .ret))
def Y22:VC:=(ZR [Yv 4 Yf] (ZR [ZM 5 0,ZM 6 1,Yc 7 63 [5,6],Yu 8 .geq 7 0,ZM 4 8] .ret))
theorem Ziy(l:List Str)(f:FuncId)(cap:List PV)(p:Str→Bool)(hl:l.length≤1000000)(hc:Za8 cap)(hp:∀x∈l,Tc f ((PV.str x)::cap) (.bool (p x))):
  Tc 253 [.sl 1 (l.map fun x=>[PV.str x]),.fn (.func f) [] cap] (pI (Zuh p l)):=by
 refine Zac ?_ (cI _) (by intro x hx;simp only[Zyb,Zya,or_false]at hx;rcases hx with rfl|rfl;exact Zaj (fun a _ x hx=>by simp only[Zyb,Zya,or_false]at hx;subst hx;exact Closed.of_scalar (by first|exact Zda _ _|exact Zen _));exact Zbr hc);refine Gn (vc:=Y13) [.t 4] Tryz.func253 ?_;simp only[Y13,YY];refine Rp0 [0,1] ?_;refine Zaa<|Rp1 [0,1,7,8] @xlm ?_;refine Zab ?_;refine Zai (σ:={ k:Nat//k≤l.length∧∀(j:Nat) (hj:j<l.length),j<k→p l[j]=false }) (fun x=>([(0,.sl 1 (l.map fun x=>[PV.str x])),(1,.fn (.func f) [] cap),(7,pI l.length),(8,pI x.1)],⟨[],0⟩)) (fun x=>l.length-x.1) ⟨0,Zyw _,fun j _ h=>by cases h⟩ ?_ ?_ ?_
 ·refine Sp0 ?_;rfl
 ·exact Sc0
 rintro⟨k,hk,hpre⟩;simp only[];refine Rp0 [0,1,7,8,9] ?_;refine Zaa<|Zae rfl (fun h1=>?_) (fun h1=>?_)
 ·have ka:k<l.length:=by have h1:=oT h1;omega
  have hcall:=hp l[k] (Zyl ka);have hrow:(l.map fun x=>[PV.str x]).getD k []=(fun x:Str=>[PV.str x]) l[k]:=Zcs ka;simp only[]at hrow;generalize hx:l[k]=y at hcall hrow;refine Kp0 ?_;refine Zaa<|Zab ?_;refine Rp0 [0,1,5,7,8] ?_;refine Rp1 [0,1,5,7,8,16] (x2 @xlm hrow) ?_;refine Ok ?_;refine Zag hcall ?_;cases hq:p y with
  |true=>
   refine Ct ?_;refine Rp0 [4] ?_;refine Tp0 ?_;rw[Zix p l k ka hpre (by rw[hx];exact hq)];exact Vr
  | false=>
   refine Fp0 ?_;refine rp1 [0,1,7,8] (w64 (n:=(k:Int)+1) (by omega) (by omega)) ?_;refine⟨⟨k+1,ka,fun j hj hjk=>?_⟩,?_,?_⟩
   ·by_cases e:j=k
    ·subst e;rw[hx];exact hq
    ·exact hpre j hj (by omega)
   ·rfl
   ·simp only[];omega
 ·have ka:k=l.length:=by have h1:=oF h1;omega
  refine Ep0 ?_;refine Rp0 [4] ?_;refine Tp0 ?_;rw[Zew p l (fun j hj=>hpre j hj (by omega))];exact Vr
theorem Zle(l:List UInt8)(f:FuncId)(cap:List PV)(p:UInt8→Bool)(hl:l.length≤1000000)(hc:Za8 cap)(hp:∀x∈l,Tc f ((PV.int .u8 (x.toNat:Int))::cap) (.bool (p x))):
  Tc 267 [.sl 1 (l.map fun x=>[PV.int .u8 (x.toNat:Int)]),.fn (.func f) [] cap] (pI (Zuh p l)):=by
 refine Zac ?_ (cI _) (by intro x hx;simp only[Zyb,Zya,or_false]at hx;rcases hx with rfl|rfl;exact Zaj (fun a _ x hx=>by simp only[Zyb,Zya,or_false]at hx;subst hx;exact Closed.of_scalar (by first|exact Zda _ _|exact Zen _));exact Zbr hc);refine Gn (vc:=Y14) [.t 4] Tryz.func267 ?_;simp only[Y14,YY];refine Rp0 [0,1] ?_;refine Zaa<|Rp1 [0,1,7,8] @xlm ?_;refine Zab ?_;refine Zai (σ:={ k:Nat//k≤l.length∧∀(j:Nat) (hj:j<l.length),j<k→p l[j]=false }) (fun x=>([(0,.sl 1 (l.map fun x=>[PV.int .u8 (x.toNat:Int)])),(1,.fn (.func f) [] cap),(7,pI l.length),(8,pI x.1)],⟨[],0⟩)) (fun x=>l.length-x.1) ⟨0,Zyw _,fun j _ h=>by cases h⟩ ?_ ?_ ?_
 ·refine Sp0 ?_;rfl
 ·exact Sc0
 rintro⟨k,hk,hpre⟩;simp only[];refine Rp0 [0,1,7,8,9] ?_;refine Zaa<|Zae rfl (fun h1=>?_) (fun h1=>?_)
 ·have ka:k<l.length:=by have h1:=oT h1;omega
  have hcall:=hp l[k] (Zyl ka);have hrow:(l.map fun x=>[PV.int .u8 (x.toNat:Int)]).getD k []=(fun x:UInt8=>[PV.int .u8 (x.toNat:Int)]) l[k]:=Zcs ka;simp only[]at hrow;generalize hx:l[k]=y at hcall hrow;refine Kp0 ?_;refine Zaa<|Zab ?_;refine Rp0 [0,1,5,7,8] ?_;refine Rp1 [0,1,5,7,8,16] (x2 @xlm hrow) ?_;refine Ok ?_;refine Zag hcall ?_;cases hq:p y with
  |true=>
   refine Ct ?_;refine Rp0 [4] ?_;refine Tp0 ?_;rw[Zix p l k ka hpre (by rw[hx];exact hq)];exact Vr
  | false=>
   refine Fp0 ?_;refine rp1 [0,1,7,8] (w64 (n:=(k:Int)+1) (by omega) (by omega)) ?_;refine⟨⟨k+1,ka,fun j hj hjk=>?_⟩,?_,?_⟩
   ·by_cases e:j=k
    ·subst e;rw[hx];exact hq
    ·exact hpre j hj (by omega)
   ·rfl
   ·simp only[];omega
 ·have ka:k=l.length:=by have h1:=oF h1;omega
  refine Ep0 ?_;refine Rp0 [4] ?_;refine Tp0 ?_;rw[Zew p l (fun j hj=>hpre j hj (by omega))];exact Vr
theorem Zlf(l:List Wd)(f:FuncId)(cap:List PV)(p:Wd→Bool)(hl:l.length≤1000000)(hc:Za8 cap)(hp:∀x∈l,Tc f ((PV.agg x.enc)::cap) (.bool (p x))):
  Tc 252 [.sl 4 (l.map fun x=>x.enc),.fn (.func f) [] cap] (pI (Zuh p l)):=by
 refine Zac ?_ (cI _) (by intro x hx;simp only[Zyb,Zya,or_false]at hx;rcases hx with rfl|rfl;exact Zaj (fun a _ x hx=>by exact Wd.closed a x hx);exact Zbr hc);refine Gn (vc:=Y15) [.t 4] Tryz.func252 ?_;simp only[Y15,YY];refine Rp0 [0,1] ?_;refine Zaa<|Rp1 [0,1,7,8] @xlm ?_;refine Zab ?_;refine Zai (σ:={ k:Nat//k≤l.length∧∀(j:Nat) (hj:j<l.length),j<k→p l[j]=false }) (fun x=>([(0,.sl 4 (l.map fun x=>x.enc)),(1,.fn (.func f) [] cap),(7,pI l.length),(8,pI x.1)],⟨[],0⟩)) (fun x=>l.length-x.1) ⟨0,Zyw _,fun j _ h=>by cases h⟩ ?_ ?_ ?_
 ·refine Sp0 ?_;rfl
 ·exact Sc0
 rintro⟨k,hk,hpre⟩;simp only[];refine Rp0 [0,1,7,8,9] ?_;refine Zaa<|Zae rfl (fun h1=>?_) (fun h1=>?_)
 ·have ka:k<l.length:=by have h1:=oT h1;omega
  have hcall:=hp l[k] (Zyl ka);have hrow:(l.map fun x=>x.enc).getD k []=(fun x:Wd=>x.enc) l[k]:=Zcs ka;simp only[]at hrow;generalize hx:l[k]=y at hcall hrow;refine Kp0 ?_;refine Zaa<|Zab ?_;refine Rp0 [0,1,5,7,8] ?_;refine Rp1 [0,1,5,7,8,16] (x4 @xlm hrow @Xab @Xac) ?_;refine Ok ?_;refine Zag hcall ?_;cases hq:p y with
  |true=>
   refine Ct ?_;refine Rp0 [4] ?_;refine Tp0 ?_;rw[Zix p l k ka hpre (by rw[hx];exact hq)];exact Vr
  | false=>
   refine Fp0 ?_;refine rp1 [0,1,7,8] (w64 (n:=(k:Int)+1) (by omega) (by omega)) ?_;refine⟨⟨k+1,ka,fun j hj hjk=>?_⟩,?_,?_⟩
   ·by_cases e:j=k
    ·subst e;rw[hx];exact hq
    ·exact hpre j hj (by omega)
   ·rfl
   ·simp only[];omega
 ·have ka:k=l.length:=by have h1:=oF h1;omega
  refine Ep0 ?_;refine Rp0 [4] ?_;refine Tp0 ?_;rw[Zew p l (fun j hj=>hpre j hj (by omega))];exact Vr
theorem Zn2(l:List Idt)(f:FuncId)(cap:List PV)(p:Idt→Bool)(hl:l.length≤1000000)(hc:Za8 cap)(hp:∀x∈l,Tc f ((PV.agg x.enc)::cap) (.bool (p x))):
  Tc 183 [.sl 3 (l.map fun x=>x.enc),.fn (.func f) [] cap] (pI (Zuh p l)):=by
 refine Zac ?_ (cI _) (by intro x hx;simp only[Zyb,Zya,or_false]at hx;rcases hx with rfl|rfl;exact Zaj (fun a _ x hx=>by exact Idt.closed a x hx);exact Zbr hc);refine Gn (vc:=Y16) [.t 4] Tryz.func183 ?_;simp only[Y16,YY];refine Rp0 [0,1] ?_;refine Zaa<|Rp1 [0,1,7,8] @xlm ?_;refine Zab ?_;refine Zai (σ:={ k:Nat//k≤l.length∧∀(j:Nat) (hj:j<l.length),j<k→p l[j]=false }) (fun x=>([(0,.sl 3 (l.map fun x=>x.enc)),(1,.fn (.func f) [] cap),(7,pI l.length),(8,pI x.1)],⟨[],0⟩)) (fun x=>l.length-x.1) ⟨0,Zyw _,fun j _ h=>by cases h⟩ ?_ ?_ ?_
 ·refine Sp0 ?_;rfl
 ·exact Sc0
 rintro⟨k,hk,hpre⟩;simp only[];refine Rp0 [0,1,7,8,9] ?_;refine Zaa<|Zae rfl (fun h1=>?_) (fun h1=>?_)
 ·have ka:k<l.length:=by have h1:=oT h1;omega
  have hcall:=hp l[k] (Zyl ka);have hrow:(l.map fun x=>x.enc).getD k []=(fun x:Idt=>x.enc) l[k]:=Zcs ka;simp only[]at hrow;generalize hx:l[k]=y at hcall hrow;refine Kp0 ?_;refine Zaa<|Zab ?_;refine Rp0 [0,1,5,7,8] ?_;refine Rp1 [0,1,5,7,8,16] (x4 @xlm hrow @Z6h @Z6i) ?_;refine Ok ?_;refine Zag hcall ?_;cases hq:p y with
  |true=>
   refine Ct ?_;refine Rp0 [4] ?_;refine Tp0 ?_;rw[Zix p l k ka hpre (by rw[hx];exact hq)];exact Vr
  | false=>
   refine Fp0 ?_;refine rp1 [0,1,7,8] (w64 (n:=(k:Int)+1) (by omega) (by omega)) ?_;refine⟨⟨k+1,ka,fun j hj hjk=>?_⟩,?_,?_⟩
   ·by_cases e:j=k
    ·subst e;rw[hx];exact hq
    ·exact hpre j hj (by omega)
   ·rfl
   ·simp only[];omega
 ·have ka:k=l.length:=by have h1:=oF h1;omega
  refine Ep0 ?_;refine Rp0 [4] ?_;refine Tp0 ?_;rw[Zew p l (fun j hj=>hpre j hj (by omega))];exact Vr
theorem Zfv(l:List Un)(f:FuncId)(cap:List PV)(p:Un→Bool)(hl:l.length≤1000000)(hc:Za8 cap)(hp:∀x∈l,Tc f ((PV.agg x.enc)::cap) (.bool (p x))):
  Tc 63 [.sl 8 (l.map fun x=>x.enc),.fn (.func f) [] cap] (pI (Zuh p l)):=by
 refine Zac ?_ (cI _) (by intro x hx;simp only[Zyb,Zya,or_false]at hx;rcases hx with rfl|rfl;exact Zaj (fun a _ x hx=>by exact Un.closed a x hx);exact Zbr hc);refine Gn (vc:=Y17) [.t 4] Tryz.func63 ?_;simp only[Y17,YY];refine Rp0 [0,1] ?_;refine Zaa<|Rp1 [0,1,7,8] @xlm ?_;refine Zab ?_;refine Zai (σ:={ k:Nat//k≤l.length∧∀(j:Nat) (hj:j<l.length),j<k→p l[j]=false }) (fun x=>([(0,.sl 8 (l.map fun x=>x.enc)),(1,.fn (.func f) [] cap),(7,pI l.length),(8,pI x.1)],⟨[],0⟩)) (fun x=>l.length-x.1) ⟨0,Zyw _,fun j _ h=>by cases h⟩ ?_ ?_ ?_
 ·refine Sp0 ?_;rfl
 ·exact Sc0
 rintro⟨k,hk,hpre⟩;simp only[];refine Rp0 [0,1,7,8,9] ?_;refine Zaa<|Zae rfl (fun h1=>?_) (fun h1=>?_)
 ·have ka:k<l.length:=by have h1:=oT h1;omega
  have hcall:=hp l[k] (Zyl ka);have hrow:(l.map fun x=>x.enc).getD k []=(fun x:Un=>x.enc) l[k]:=Zcs ka;simp only[]at hrow;generalize hx:l[k]=y at hcall hrow;refine Kp0 ?_;refine Zaa<|Zab ?_;refine Rp0 [0,1,5,7,8] ?_;refine Rp1 [0,1,5,7,8,16] (x4 @xlm hrow @Zaq @Zao) ?_;refine Ok ?_;refine Zag hcall ?_;cases hq:p y with
  |true=>
   refine Ct ?_;refine Rp0 [4] ?_;refine Tp0 ?_;rw[Zix p l k ka hpre (by rw[hx];exact hq)];exact Vr
  | false=>
   refine Fp0 ?_;refine rp1 [0,1,7,8] (w64 (n:=(k:Int)+1) (by omega) (by omega)) ?_;refine⟨⟨k+1,ka,fun j hj hjk=>?_⟩,?_,?_⟩
   ·by_cases e:j=k
    ·subst e;rw[hx];exact hq
    ·exact hpre j hj (by omega)
   ·rfl
   ·simp only[];omega
 ·have ka:k=l.length:=by have h1:=oF h1;omega
  refine Ep0 ?_;refine Rp0 [4] ?_;refine Tp0 ?_;rw[Zew p l (fun j hj=>hpre j hj (by omega))];exact Vr
theorem Zgz(l:List Str)(f:FuncId)(cap:List PV)(p:Str→Bool)(hl:l.length≤1000000)(hc:Za8 cap)(hp:∀x∈l,Tc f ((PV.str x)::cap) (.bool (p x))):
  Tc 224 [.sl 1 (l.map fun x=>[PV.str x]),.fn (.func f) [] cap] (.bool (l.any p)):=by
 have H:=Ziy l f cap p hl hc hp;refine Zac ?_ (cB _) (by intro x hx;simp only[Zyb,Zya,or_false]at hx;rcases hx with rfl|rfl;exact Zaj (fun a _ x hx=>by simp only[Zyb,Zya,or_false]at hx;subst hx;exact Closed.of_scalar (by first|exact Zda _ _|exact Zen _));exact Zbr hc);refine Gn (vc:=Y18) [.t 4] Tryz.func224 ?_;simp only[Y18,YY];refine Rp0 [0,1] ?_;refine Rp0 [4] ?_;refine Ap0 H ?_;refine Tp0 ?_;rw[Zgf];exact Vr
theorem Zid(l:List UInt8)(f:FuncId)(cap:List PV)(p:UInt8→Bool)(hl:l.length≤1000000)(hc:Za8 cap)(hp:∀x∈l,Tc f ((PV.int .u8 (x.toNat:Int))::cap) (.bool (p x))):
  Tc 255 [.sl 1 (l.map fun x=>[PV.int .u8 (x.toNat:Int)]),.fn (.func f) [] cap] (.bool (l.any p)):=by
 have H:=Zle l f cap p hl hc hp;refine Zac ?_ (cB _) (by intro x hx;simp only[Zyb,Zya,or_false]at hx;rcases hx with rfl|rfl;exact Zaj (fun a _ x hx=>by simp only[Zyb,Zya,or_false]at hx;subst hx;exact Closed.of_scalar (by first|exact Zda _ _|exact Zen _));exact Zbr hc);refine Gn (vc:=Y19) [.t 4] Tryz.func255 ?_;simp only[Y19,YY];refine Rp0 [0,1] ?_;refine Rp0 [4] ?_;refine Ap0 H ?_;refine Tp0 ?_;rw[Zgf];exact Vr
theorem Zjx(l:List Idt)(f:FuncId)(cap:List PV)(p:Idt→Bool)(hl:l.length≤1000000)(hc:Za8 cap)(hp:∀x∈l,Tc f ((PV.agg x.enc)::cap) (.bool (p x))):
  Tc 121 [.sl 3 (l.map fun x=>x.enc),.fn (.func f) [] cap] (.bool (l.any p)):=by
 have H:=Zn2 l f cap p hl hc hp;refine Zac ?_ (cB _) (by intro x hx;simp only[Zyb,Zya,or_false]at hx;rcases hx with rfl|rfl;exact Zaj (fun a _ x hx=>by exact Idt.closed a x hx);exact Zbr hc);refine Gn (vc:=Y20) [.t 4] Tryz.func121 ?_;simp only[Y20,YY];refine Rp0 [0,1] ?_;refine Rp0 [4] ?_;refine Ap0 H ?_;refine Tp0 ?_;rw[Zgf];exact Vr
theorem Zee(l:List Wd)(f:FuncId)(cap:List PV)(p:Wd→Bool)(hl:l.length≤1000000)(hc:Za8 cap)(hp:∀x∈l,Tc f ((PV.agg x.enc)::cap) (.bool (p x))):
  Tc 223 [.sl 4 (l.map fun x=>x.enc),.fn (.func f) [] cap] (.bool (l.any p)):=by
 have H:=Zlf l f cap p hl hc hp;refine Zac ?_ (cB _) (by intro x hx;simp only[Zyb,Zya,or_false]at hx;rcases hx with rfl|rfl;exact Zaj (fun a _ x hx=>by exact Wd.closed a x hx);exact Zbr hc);refine Gn (vc:=Y21) [.t 4] Tryz.func223 ?_;simp only[Y21,YY];refine Rp0 [0,1] ?_;refine Rp0 [4] ?_;refine Ap0 H ?_;refine Tp0 ?_;rw[Zgf];exact Vr
theorem Zef(l:List Un)(f:FuncId)(cap:List PV)(p:Un→Bool)(hl:l.length≤1000000)(hc:Za8 cap)(hp:∀x∈l,Tc f ((PV.agg x.enc)::cap) (.bool (p x))):
  Tc 46 [.sl 8 (l.map fun x=>x.enc),.fn (.func f) [] cap] (.bool (l.any p)):=by
 have H:=Zfv l f cap p hl hc hp;refine Zac ?_ (cB _) (by intro x hx;simp only[Zyb,Zya,or_false]at hx;rcases hx with rfl|rfl;exact Zaj (fun a _ x hx=>by exact Un.closed a x hx);exact Zbr hc);refine Gn (vc:=Y22) [.t 4] Tryz.func46 ?_;simp only[Y22,YY];refine Rp0 [0,1] ?_;refine Rp0 [4] ?_;refine Ap0 H ?_;refine Tp0 ?_;rw[Zgf];exact Vr
end Go.Proofs.w
namespace Go.VM
open Go
def Zcy:List Str:=[[98,111,111,107],[112,97,114,116],[115,101,99,116,105,111,110],[112,97,114,97,103,114,97,112,104],[116,97,98,108,101],[114,111,119],[99,101,108,108],[110,111,116,101]]
def Zgr:List (List Int):=[[1,2],[2],[3,4,7],[3,4,7],[5],[6],[],[]]
def Zgh(k:Int):Str:=if 0≤k∧k<8 then Zcy.getD k.toNat []else[]
def Zfw(p k:Int):Bool:=if p=0 then(k==1)||(k==2)else if p=1 then k==2 else if p=2∨p=3 then(k==3)||((k==4)||(k==7))else if p=4 then k==5 else if p=5 then k==6 else false
theorem Z3g{i:Nat}(h:i<8)(k:Int):(Zgr.getD i []).contains k=Zfw i k:=by
 have:i=0∨i=1∨i=2∨i=3∨i=4∨i=5∨i=6∨i=7:=by omega
 rcases this with rfl|rfl|rfl|rfl|rfl|rfl|rfl|rfl<;>simp[Zgr,Zfw,List.contains,List.elem]<;>(try (cases(k==1)<;>cases(k==2)<;>cases(k==3)<;>cases(k==4)<;>cases(k==5)<;>cases(k==6)<;>cases(k==7)<;>rfl))
end Go.VM
namespace Go.Proofs.w
open Go Go.VM
def Y23:VC:=(ZR [ZO 2 (.mv (.c (.str [])))] (.seq (ZR [ZM 3 0,Yu 4 .lss 3 0,ZM 5 4,Yg 6 0 5 false,ZG 7 (.bin .geq (.t 6) (Yi 8)) 5 false,Yh 8 5 7] (YC 8 (ZR [ZO 2 (.mv (.c (.str [])))] .ret) .skip)) (ZR [ZM 9 0,ZO 10 (.px (.aix 8) [(.c (.ro [(.str [98,111,111,107]),(.str [112,97,114,116]),(.str [115,101,99,116,105,111,110]),(.str [112,97,114,97,103,114,97,112,104]),(.str [116,97,98,108,101]),(.str [114,111,119]),(.str [99,101,108,108]),(.str [110,111,116,101])])),.t 9]),Yl 11 10,ZM 2 11] .ret)))
def Y24 : VC := (ZR [Yv 4 Yf] (ZR [ZM 5 0,Yu 6 .geq 5 0,ZM 7 6,Yg 8 0 7 true,ZG 9 (.bin .lss (.t 8) (Yi 8)) 7 true,Yz 10 7 9,ZM 11 10,Yg 12 0 11 true,ZG 13 (.other ({ dst := some 13,op := Op.indexAddr 236 (Operand.global 1) (Operand.tmp 12),type := 0,pos := "unit.go:29",after := #[{ on := 7,ground := Ground.data },{ on := 6,ground := Ground.guard }],guard := some (6,true) } : Oper)) 11 true,Yk 14 13 11 true,Yg 15 1 11 true,ZG 16 (.call 214 [.t 14,.t 15]) 11 true,Yz 17 11 16,ZM 4 17] .ret))
def Y25:VC:=(ZR [Yv 4 Yf] (.seq (ZR [ZM 5 0] (.block 0 (ZR [Yu 7 .eql 5 0,ZM 6 7] (YC 6 (ZR [ZM 8 1,Yu 9 .eql 8 1,ZM 10 9,Yg 11 1 10 false,ZG 12 (.bin .eql (.t 11) (Yi 2)) 10 false,Yh 13 10 12,ZM 4 13] .ret) (ZR [Yu 15 .eql 5 1,ZM 14 15] (YC 14 (ZR [ZM 16 1,Yu 17 .eql 16 2,ZM 4 17] .ret) (.seq (ZR [Yu 19 .eql 5 2,ZM 18 19] (YC 18 .skip (.region [Yu 20 .eql 5 3,ZM 18 20] false))) (YC 18 (ZR [ZM 21 1,Yu 22 .eql 21 3,ZM 23 22,Yg 24 1 23 false,ZG 25 (.bin .eql (.t 24) (Yi 4)) 23 false,Yh 26 23 25,ZM 27 26,Yg 28 1 27 false,ZG 29 (.bin .eql (.t 28) (Yi 7)) 27 false,Yh 30 27 29,ZM 4 30] .ret) (ZR [Yu 32 .eql 5 4,ZM 31 32] (YC 31 (ZR [ZM 33 1,Yu 34 .eql 33 5,ZM 4 34] .ret) (ZR [Yu 36 .eql 5 5,ZM 35 36] (YC 35 (ZR [ZM 37 1,Yu 38 .eql 37 6,ZM 4 38] .ret) .skip)))))))))))) (ZR [Yv 4 Yf] .ret)))
def Y26:VC:=(ZR [Yv 4 (Yi 0)] (.seq (ZR [ZM 6 0,Ye 7 6,Yv 8 (Yi 0)] (.block 0 (.loop (ZR [Yr 9 .lss 8 7] (.seq (YC 9 .skip (.exit 0)) (.seq (.block 1 (ZR [ZM 10 8,ZM 5 10] (ZR [ZM 11 1,ZM 12 0,ZM 13 5,Yx 14 1 12 13,Yl 15 14,Yr 16 .eql 11 15] (YC 16 (ZR [ZM 17 5,ZM 4 17] .ret) .skip)))) (.region [Yu 18 .add 8 1,ZM 8 18] false))))))) (ZR [Yv 4 (Yi (-1))] .ret)))
def Y27:VC:=(ZR [Yv 4 Yf] (ZR [ZM 5 0,ZM 6 1,Yc 7 242 [5,6],Yu 8 .geq 7 0,ZM 4 8] .ret))
theorem Zn3(k:Int):Tc 262 [pI k] (.str (Zgh k)):=by
 refine Gp (vc:=Y23) [.t 2] (cS _) Tryz.func262 ?_;simp only[Y23,YY];refine Rp0 [0] ?_;refine Zaa ?_;by_cases h0:k<0
 ·have e0:decide (k<0)=true:=Zyf h0;refine Rp1 [0,8] e0 ?_;refine Ct ?_;refine Rp0 [2] ?_;refine Tp0 ?_;have:Zgh k=[]:=by unfold Zgh;rw[if_neg (by omega)]
  rw[this];exact Vr
 have e0:decide (k<0)=false:=Zyg h0;by_cases h8:8≤k
 ·have e8:decide (8≤k)=true:=Zyf h8;refine Rp1 [0,8] (x2 e0 e8) ?_;refine Ct ?_;refine Rp0 [2] ?_;refine Tp0 ?_;have:Zgh k=[]:=by unfold Zgh;rw[if_neg (by omega)]
  rw[this];exact Vr
 have e8:decide (8≤k)=false:=Zyg h8;obtain⟨i,rfl⟩:∃i:Nat,k=(i:Int):=⟨k.toNat,by omega⟩;have hi:i<8:=by omega
 refine Rp1 [0,8] (x2 e0 e8) ?_;refine Fp0 ?_;have hn:Zgh (i:Int)=Zcy.getD i []:=by unfold Zgh;rw[if_pos (by omega),Zyk]
 have hi8:i=0∨i=1∨i=2∨i=3∨i=4∨i=5∨i=6∨i=7:=by omega
 rw[hn];clear e0 e8 h0 h8 hi hn;rcases hi8 with rfl|rfl|rfl|rfl|rfl|rfl|rfl|rfl
 all_goals
  refine Rp0 [2] ?_;refine⟨⟨by decide,by decide⟩,?_⟩;exact Tv0
theorem Zuj(l:List Int)(s:Int)(hl:l.length≤1000000):Tc 242 [.sl 1 (l.map fun x=>[pI x]),pI s] (pI (Zuh (fun x=>s==x) l)):=by
 refine Gp (vc:=Y26) [.t 4] (cI _) Tryz.func242 ?_;simp only[Y26,YY];refine Rp0 [0,1] ?_;refine Zaa<|Rp1 [0,1,7,8] @xlm ?_;refine Zab ?_;refine Zai (σ:={ k:Nat//k≤l.length∧∀(j:Nat) (hj:j<l.length),j<k→(s==l[j])=false }) (fun x=>([(0,.sl 1 (l.map fun x=>[pI x])),(1,pI s),(7,pI l.length),(8,pI x.1)],⟨[],0⟩)) (fun x=>l.length-x.1) ⟨0,Zyw _,fun j _ h=>by cases h⟩ ?_ ?_ ?_
 ·refine Sp0 ?_;rfl
 ·exact Sc0
 rintro⟨k,hk,hpre⟩;simp only[];refine Rp0 [0,1,7,8,9] ?_;refine Zaa<|Zae rfl (fun h1=>?_) (fun h1=>?_)
 ·have ka:k<l.length:=by have h1:=oT h1;omega
  have hrow:(l.map fun x=>[pI x]).getD k []=(fun x:Int=>[pI x]) l[k]:=Zcs ka;simp only[]at hrow;generalize hx:l[k]=y at hrow;refine Kp0 ?_;refine Zaa<|Zab ?_;refine Rp0 [0,1,5,7,8] ?_;refine Rp1 [0,1,5,7,8,16] (x2 @xlm hrow) ?_;refine Ok ?_;cases hq:s==y with
  |true=>
   refine Ct ?_;refine Rp0 [4] ?_;refine Tp0 ?_;rw[Zix (fun x=>s==x) l k ka hpre (by rw[hx];exact hq)];exact Vr
  | false=>
   refine Fp0 ?_;refine rp1 [0,1,7,8] (w64 (n:=(k:Int)+1) (by omega) (by omega)) ?_;refine⟨⟨k+1,ka,fun j hj hjk=>?_⟩,?_,?_⟩
   ·by_cases e:j=k
    ·subst e;rw[hx];exact hq
    ·exact hpre j hj (by omega)
   ·rfl
   ·simp only[];omega
 ·have ka:k=l.length:=by have h1:=oF h1;omega
  refine Ep0 ?_;refine Rp0 [4] ?_;refine Tp0 ?_;rw[Zew (fun x=>s==x) l (fun j hj=>hpre j hj (by omega))];exact Vr
theorem Zn4(l:List Int)(s:Int)(hl:l.length≤1000000):Tc 214 [.sl 1 (l.map fun x=>[pI x]),pI s] (.bool (l.contains s)):=by
 have hc:l.contains s=l.any fun x=>s==x:=by
  induction l with
  |nil=>rfl
  |cons a r ih=>rw[List.contains_cons,List.any_cons,ih (by simp at hl;omega)]
 refine Gp (vc:=Y27) [.t 4] (cB _) Tryz.func214 ?_;simp only[Y27,YY];refine Rp0 [0,1] ?_;refine Rp0 [4] ?_;refine Ap0 (Zuj l s hl) ?_;refine Tp0 ?_;rw[Zgf,hc];exact Vr
theorem Zjy(p k:Int):Tc 176 [pI p,pI k] (.bool (Zfw p k)):=by
 refine Gp (vc:=Y24) [.t 4] (cB _) Tryz.func176 ?_;simp only[Y24,YY];refine Rp0 [0,1] ?_;by_cases h0:0≤p
 ·by_cases h8:p<8
  ·obtain⟨i,rfl⟩:∃i:Nat,p=(i:Int):=⟨p.toNat,by omega⟩;have hi:i<8:=by omega
   have e0:decide ((0:Int)≤(i:Int))=true:=Zyf h0;have e8:decide ((i:Int)<8)=true:=Zyf h8;have hal:Tryz.prog.arrayLen 236=8:=by kernel_rfl
   have hks:Zly.lookup 1=some Zgr:=by kernel_rfl
   have hlen:(Zgr.getD i []).length≤1000000:=by
    have:i=0∨i=1∨i=2∨i=3∨i=4∨i=5∨i=6∨i=7:=by omega
    rcases this with rfl|rfl|rfl|rfl|rfl|rfl|rfl|rfl<;>decide
   refine Rp1 [4] (x2 e0 e8) ?_;refine Z3c (k:=i) (kk:=.i64) (ls:=Zgr) rfl (by kernel_rfl) (by kernel_rfl) rfl rfl (by rw[hal];exact hi) hks hi ?_;refine Sp0 ?_;refine Ap0 (Zn4 _ k hlen) ?_;refine Tp0 ?_;rw[Z3g hi];exact Vr
  ·have e0:decide ((0:Int)≤p)=true:=Zyf h0;have e8:decide (p<8)=false:=Zyg h8;refine Rp1 [4] (x2 e0 e8) ?_;refine Tp0 ?_;have:Zfw p k=false:=by
    unfold Zfw;rw[if_neg (by omega),if_neg (by omega),if_neg (by omega),if_neg (by omega),if_neg (by omega)]
   rw[this];exact Vr
 ·have e0:decide ((0:Int)≤p)=false:=Zyg h0;refine Rp1 [4] e0 ?_;refine Tp0 ?_;have:Zfw p k=false:=by
   unfold Zfw;rw[if_neg (by omega),if_neg (by omega),if_neg (by omega),if_neg (by omega),if_neg (by omega)]
  rw[this];exact Vr
theorem Zpq(p k:Int):Tc 113 [pI p,pI k] (.bool (Zfw p k)):=by
 refine Gp (vc:=Y25) [.t 4] (cB _) Tryz.func113 ?_;simp only[Y25,YY];refine Rp0 [0,1] ?_;refine Zaa<|Rp0 [0,1,5] ?_;refine Zab ?_;unfold Zfw;refine Rp0 [1,5,6] ?_;by_cases h0:p=0
 ·rw[if_pos h0];refine Zae rfl (fun _=>?_) (fun h=>by simp[h0]at h);cases e1:k==1 with
  |true=>
   refine Zaa (Zad [4] ?_);simp only[vmL,Nat.reduceEqDiff,Nat.reduceAdd,Nat.reduceLT,Nat.reduceLeDiff,Nat.reduceSub,Nat.reduceMul,reduceIte,reduceCtorEq,Int.reduceToNat,e1];exact Tv0
  |false=>
   refine Zaa (Zad [4] ?_);simp only[vmL,Nat.reduceEqDiff,Nat.reduceAdd,Nat.reduceLT,Nat.reduceLeDiff,Nat.reduceSub,Nat.reduceMul,reduceIte,reduceCtorEq,Int.reduceToNat,e1];exact Tv0
 rw[if_neg h0];refine Zae rfl (fun h=>absurd (by simpa using h) h0) (fun _=>?_);refine Rp0 [1,5,14] ?_;by_cases h1:p=1
 ·rw[if_pos h1];refine Zae rfl (fun _=>?_) (fun h=>by simp[h1]at h);exact Rv0 [4]
 rw[if_neg h1];refine Zae rfl (fun h=>absurd (by simpa using h) h1) (fun _=>?_);refine Zaa (Zfa (σ:=Unit) (fun _=>([(1,pI k),(5,pI p),(18,.bool (decide (p=2∨p=3)))],⟨[],0⟩)) ?_ (fun _=>?_))
 ·refine Rp0 [1,5,18] ?_;by_cases h2:p=2
  ·refine Zae rfl (fun _=>?_) (fun h=>by simp[h2]at h);refine Kp0 ?_;have e:decide (p=2∨p=3)=true:=Zyf (.inl h2);have e':(p==2)=true:=by simp[h2]
   rw[e,e'];exact⟨(),by first|trivial|rfl⟩
  ·refine Zae rfl (fun h=>absurd (by simpa using h) h2) (fun _=>?_);refine rp0 [1,5,18] ?_;have e:decide (p=2∨p=3)=(p==3):=by
    rw[Bool.eq_iff_iff];simp[h2]
   rw[e];exact⟨(),by first|trivial|rfl⟩
 by_cases h2:p=2∨p=3
 ·rw[if_pos h2];refine Zae rfl (fun _=>?_) (fun h=>by have h:=oF h;exact absurd h2 h);cases e3:k==3 with
  |true=>
   refine Zaa (Zad [4] ?_);simp only[vmL,Nat.reduceEqDiff,Nat.reduceAdd,Nat.reduceLT,Nat.reduceLeDiff,Nat.reduceSub,Nat.reduceMul,reduceIte,reduceCtorEq,Int.reduceToNat,e3];exact Tv0
  | false=>
   cases e4:k==4 with
   |true=>
    refine Zaa (Zad [4] ?_);simp only[vmL,Nat.reduceEqDiff,Nat.reduceAdd,Nat.reduceLT,Nat.reduceLeDiff,Nat.reduceSub,Nat.reduceMul,reduceIte,reduceCtorEq,Int.reduceToNat,e3,e4];exact Tv0
   |false=>
    refine Zaa (Zad [4] ?_);simp only[vmL,Nat.reduceEqDiff,Nat.reduceAdd,Nat.reduceLT,Nat.reduceLeDiff,Nat.reduceSub,Nat.reduceMul,reduceIte,reduceCtorEq,Int.reduceToNat,e3,e4];exact Tv0
 rw[if_neg h2];refine Zae rfl (fun h=>by have h:=oT h;exact absurd h h2) (fun _=>?_);refine Rp0 [1,5,31] ?_;by_cases h4:p=4
 ·rw[if_pos h4];refine Zae rfl (fun _=>?_) (fun h=>by simp[h4]at h);exact Rv0 [4]
 rw[if_neg h4];refine Zae rfl (fun h=>absurd (by simpa using h) h4) (fun _=>?_);refine Rp0 [1,5,35] ?_;by_cases h5:p=5
 ·rw[if_pos h5];refine Zae rfl (fun _=>?_) (fun h=>by simp[h5]at h);exact Rv0 [4]
 rw[if_neg h5];refine Zae rfl (fun h=>absurd (by simpa using h) h5) (fun _=>?_);refine Kp0 ?_;exact Rv0 [4]
end Go.Proofs.w
namespace Go.VM
open Go
def okC(c:UInt8):Bool:=decide (33≤c.toNat)&&decide (c.toNat≤126)
def Zmq(s:Str):Bool:=decide (1≤s.length)&&(decide (s.length≤24)&&s.all okC)
def Zgs(l:List Str):Bool:=decide (l.length≤256)&&l.all Zmq
def Zm6(l:List Wd):Bool:=Zgs (l.map Wd.text)
end Go.VM
namespace Go.Proofs.w
open Go Go.VM
def Y28:VC:=(ZR [Yv 2 Yf] (ZR [ZM 3 0,ZO 4 (.bin .lss (.t 3) (.c (.int .u8 33))),ZM 5 4,Yg 6 0 5 false,ZG 7 (.bin .gtr (.t 6) (.c (.int .u8 126))) 5 false,Yh 8 5 7,ZM 2 8] .ret))
def Y29 : VC := (ZR [Yv 2 Yf] (ZR [ZO 3 (.mv (.c (.fn (.func 254) [] [])))] (ZR [ZM 4 0,ZO 5 (.bin .neq (.t 4) (.c (.str []))),ZM 6 5,Yg 7 0 6 true,ZG 8 (.len true (.t 7)) 6 true,ZG 9 (.bin .leq (.t 8) (Yi 24)) 6 true,Yz 10 6 9,ZM 11 10,Yg 12 0 11 true,ZG 13 (.other ({ dst := some 13,op := Op.convert 9 256 (Operand.tmp 12),type := 256,pos := "wordseq.go:14",after := #[{ on := 8,ground := Ground.data },{ on := 7,ground := Ground.guard }],guard := some (7,true) } : Oper)) 11 true,Yg 14 3 11 true,ZG 15 (.call 255 [.t 13,.t 14]) 11 true,Yq 16 15 11 true,Yz 17 11 16,ZM 2 17] .ret)))
def Y30:VC:=(ZR [Yv 2 Yf] (ZR [ZM 3 0,Yc 4 226 [3],Yn 5 4,ZM 2 5] .ret))
def Y31:VC:=(ZR [Yv 2 Yf] (ZR [ZM 3 0,Ye 4 3,Yu 5 .leq 4 256,ZM 6 5,Yg 7 0 6 true,ZG 8 (.call 224 [.t 7,(.c (.fn (.func 225) [] []))]) 6 true,Yq 9 8 6 true,Yz 10 6 9,ZM 2 10] .ret))
def Y32:VC:=(ZR [Yv 2 Yf] (ZR [ZO 3 (.mv (.c .nilsl))] (.seq (ZR [ZM 6 0,Ye 7 6,Yv 8 (Yi 0)] (.block 0 (.loop (ZR [Yr 9 .lss 8 7] (.seq (YC 9 .skip (.exit 0)) (.seq (.block 1 (ZR [Yx 10 4 6 8,Ym 11 4 10,ZO 5 (.alloc [(.str []),Yo,Yo,Yo]),Ys 4 5 11] (.region [ZM 12 3,Ya 13 0 5,Yl 14 13,ZO 15 (.bslice 1 1 [(.str [])] [(0,(.t 14))]),ZO 16 (.app 1 16 [(.str [])] false (.t 12) (.t 15)),ZM 3 16] false))) (.region [Yu 17 .add 8 1,ZM 8 17] false))))))) (ZR [ZM 18 0,Ye 19 18,Yu 20 .leq 19 256,ZM 21 20,Yg 22 3 21 true,ZG 23 (.call 195 [.t 22]) 21 true,Yz 24 21 23,ZM 2 24] .ret))))
def Y33:VC:=(ZR [Yv 2 Yf] (.seq (ZR [ZM 4 0,ZO 5 (.len true (.t 4)),Yu 6 .lss 5 1,ZM 7 6,Yg 8 0 7 false,ZG 9 (.len true (.t 8)) 7 false,ZG 10 (.bin .gtr (.t 9) (Yi 24)) 7 false,Yh 11 7 10] (YC 11 (ZR [Yv 2 Yf] .ret) .skip)) (.seq (ZR [Yv 3 (Yi 0)] (.block 0 (.loop (.seq (ZR [ZM 12 3,ZM 13 0,ZO 14 (.len true (.t 13)),Yr 15 .lss 12 14] (YC 15 .skip (.exit 0))) (.seq (.block 1 (ZR [ZM 18 0,ZM 19 3,ZO 20 (.idx (.t 18) (.t 19)),ZO 21 (.bin .lss (.t 20) (.c (.int .u8 33))),ZM 22 21,Yg 23 0 22 false,Yg 24 3 22 false,ZG 25 (.idx (.t 23) (.t 24)) 22 false,ZG 26 (.bin .gtr (.t 25) (.c (.int .u8 126))) 22 false,Yh 27 22 26] (YC 27 (ZR [Yv 2 Yf] .ret) .skip))) (.region [ZM 16 3,Yu 17 .add 16 1,ZM 3 17] false)))))) (ZR [Yv 2 Yt] .ret))))
def Y34:VC:=(ZR [Yv 2 Yf] (.seq (ZR [ZM 4 0,Ye 5 4,Yu 6 .gtr 5 256] (YC 6 (ZR [Yv 2 Yf] .ret) .skip)) (.seq (ZR [Yv 3 (Yi 0)] (.block 0 (.loop (.seq (ZR [ZM 7 3,ZM 8 0,Ye 9 8,Yr 10 .lss 7 9] (YC 10 .skip (.exit 0))) (.seq (.block 1 (ZR [ZM 13 0,ZM 14 3,Yx 15 1 13 14,Yl 16 15,Yc 17 233 [16],Yn 18 17] (YC 18 (ZR [Yv 2 Yf] .ret) .skip))) (.region [ZM 11 3,Yu 12 .add 11 1,ZM 3 12] false)))))) (ZR [Yv 2 Yt] .ret))))
def Y35:VC:=(ZR [ZO 2 (.mv (.c .nilsl))] (ZR [ZO 5 (.fx (.mk0 1) []),ZM 3 5] (.seq (ZR [Yv 4 (Yi 0)] (.block 0 (.loop (.seq (ZR [ZM 6 4,ZM 7 0,Ye 8 7,Yr 9 .lss 6 8] (YC 9 .skip (.exit 0))) (.seq (.block 1 (.region [ZM 12 3,ZM 13 0,ZM 14 4,Yx 15 4 13 14,Ya 16 0 15,Yl 17 16,ZO 18 (.bslice 1 1 [(.str [])] [(0,(.t 17))]),ZO 19 (.app 1 16 [(.str [])] false (.t 12) (.t 18)),ZM 3 19] false)) (.region [ZM 10 4,Yu 11 .add 10 1,ZM 4 11] false)))))) (ZR [ZM 20 3,ZM 2 20] .ret))))
def Y36:VC:=(ZR [Yv 2 Yf] (ZR [ZM 3 0,Ye 4 3,Yu 5 .leq 4 256,ZM 6 5,Yg 7 0 6 true,ZG 8 (.call 210 [.t 7]) 6 true,ZG 9 (.call 209 [.t 8]) 6 true,Yz 10 6 9,ZM 2 10] .ret))
theorem c_lo(c:UInt8):decide ((c.toNat:Int)<33)= !(decide (33≤c.toNat)):=by
 by_cases h:33≤c.toNat
 ·rw[Zyf h,Vf];rfl
 ·rw[Zyg h,Vt];rfl
theorem c_hi(c:UInt8):decide ((126:Int)<(c.toNat:Int))= !(decide (c.toNat≤126)):=by
 by_cases h:c.toNat≤126
 ·rw[Zyf h,Vf];rfl
 ·rw[Zyg h,Vt];rfl
theorem Zlg(c:UInt8):Tc 254 [.int .u8 (c.toNat:Int)] (.bool (!(okC c))):=by
 refine Gp (vc:=Y28) [.t 2] (cB _) Tryz.func254 ?_;simp only[Y28,YY];refine Rp0 [0] ?_;refine Zaa (Zad [2] ?_);unfold okC;have h1:=c_lo c;have h2:=c_hi c;cases d1:decide (33≤c.toNat)with
 |false=>
  rw[d1]at h1;simp only[vmL,Nat.reduceEqDiff,reduceCtorEq,h1,h2,d1,Bool.not_false,Bool.not_true];exact Tv0
 |true=>
  rw[d1]at h1;refine Sp1 (x3 h1 h2 d1) ?_;exact Tv0
theorem ne_len(s:Str):(s !=[])=decide (1≤s.length):=by cases s<;>simp
theorem Z6j{α:Type}(l:List α)(p:α→Bool):(!(l.any fun c=>!(p c)))=l.all p:=by
 induction l with
 |nil=>rfl
 |cons a r ih=>rw[List.any_cons,List.all_cons,←ih];cases p a<;>simp
theorem Zn5(s:Str)(hl:s.length≤1000000):Tc 226 [.str s] (.bool (Zmq s)):=by
 have H:=Zid s 254 [] (fun c=>!(okC c)) hl (by intro x hx;cases hx) (fun x _=>Zlg x);have hany:=Z6j s okC;have h1:=ne_len s;have h2:decide ((s.length:Int)≤24)=decide (s.length≤24):=decide_eq_decide.2 (by omega);refine Gp (vc:=Y29) [.t 2] (cB _) Tryz.func226 ?_;simp only[Y29,YY];refine Rp0 [0] ?_;refine Rp0 [0,3] ?_;refine Zaa (Zad [2] ?_);unfold Zmq;rw[←hany];cases d1:decide (1≤s.length)with
 |false=>
  rw[d1]at h1;refine Sp1 h1 ?_;exact Tv0
 |true=>
 rw[d1]at h1;cases d2:decide (s.length≤24)with
 |false=>
  rw[d2]at h2;refine Sp1 (x2 h1 h2) ?_;exact Tv0
 |true=>
  rw[d2]at h2;refine Sp1 (x2 h1 h2) ?_;refine Z6g (el:=5) rfl Tryz.underlying9 (by kernel_rfl) (by kernel_rfl) rfl rfl ?_
  skip
  refine Ap0 H ?_;exact Tv0
theorem Zjz(s:Str)(hl:s.length≤1000000):Tc 225 [.str s] (.bool (!(Zmq s))):=by
 refine Gp (vc:=Y30) [.t 2] (cB _) Tryz.func225 ?_;simp only[Y30,YY];refine Rp0 [0] ?_;refine Rp0 [2] ?_;refine Ap0 (Zn5 s hl) ?_;exact Tv0
theorem Zgt(l:List Str)(hl:l.length≤1000000)(ht:∀s∈l,s.length≤1000000):Tc 195 [.sl 1 (l.map fun x=>[PV.str x])] (.bool (Zgs l)):=by
 have H:=Zgz l 225 [] (fun c=>!(Zmq c)) hl (by intro x hx;cases hx) (fun x hx=>Zjz x (ht x hx));have hany:=Z6j l Zmq;have h2:decide ((l.length:Int)≤256)=decide (l.length≤256):=decide_eq_decide.2 (by omega);refine Gp (vc:=Y31) [.t 2] (cB _) Tryz.func195 ?_;simp only[Y31,YY];refine Rp0 [0] ?_;refine Zaa (Zad [2] ?_);unfold Zgs;rw[←hany];cases d2:decide (l.length≤256)with
 |false=>
  rw[d2]at h2;refine Sp1 (x2 @xlm h2) ?_;exact Tv0
 |true=>
  rw[d2]at h2;refine Sp1 (x2 @xlm h2) ?_;refine Ap0 H ?_;exact Tv0
theorem Zsi(s:Str)(hl:s.length≤1000000):Tc 233 [.str s] (.bool (Zmq s)):=by
 have h1:decide ((s.length:Int)<1)= !(decide (1≤s.length)):=by
  by_cases h:1≤s.length
  ·rw[Zyf h,Vf];rfl
  ·rw[Zyg h,Vt];rfl
 have h2:decide ((24:Int)<(s.length:Int))= !(decide (s.length≤24)):=by
  by_cases h:s.length≤24
  ·rw[Zyf h,Vf];rfl
  ·rw[Zyg h,Vt];rfl
 refine Gp (vc:=Y33) [.t 2] (cB _) Tryz.func233 ?_;simp only[Y33,YY];refine Rp0 [0] ?_;refine Zaa ?_;unfold Zmq;cases d1:decide (1≤s.length)with
 |false=>
  rw[d1]at h1;refine Rp1 [0,11] h1 ?_;refine Ct ?_;exact Rv0 [2]
 |true=>
 rw[d1]at h1;cases d2:decide (s.length≤24)with
 |false=>
  rw[d2]at h2;refine Rp1 [0,11] (x2 h1 h2) ?_;refine Ct ?_;exact Rv0 [2]
 |true=>
 rw[d2]at h2;refine Rp1 [0,11] (x2 h1 h2) ?_;refine Fp0 ?_;refine Zaa<|Rp0 [0,3] ?_;refine Zab ?_;refine Zai (σ:={ k:Nat//k≤s.length∧s.all okC=(s.drop k).all okC }) (fun x=>([(0,.str s),(3,pI x.1)],⟨[],0⟩)) (fun x=>s.length-x.1) ⟨0,Zyw _,rfl⟩ ?_ ?_ ?_
 ·refine Sp0 ?_;rfl
 ·exact Sc0
 rintro⟨k,hk,hpre⟩;simp only[];refine Zaa<|Rp0 [0,3,15] ?_;refine Zae rfl (fun h3=>?_) (fun h3=>?_)
 ·have ka:k<s.length:=by have h3:=oT h3;omega
  have hd:s.drop k=s[k]::s.drop (k+1):=List.drop_eq_getElem_cons ka;have hgd:s.getD k 0=s[k]:=by simp[Zx1,ka]
  rw[hd,List.all_cons]at hpre;generalize s[k]=c at hpre hgd;have g1:=c_lo c;have g2:=c_hi c;refine Kp0 ?_;refine Zaa<|Zab ?_;refine Zaa (Zfa (σ:=Unit) (fun _=>([(0,.str s),(3,pI k),(27,.bool (!(okC c)))],⟨[],0⟩)) (Zad [0,3,27] ?_) (fun _=>?_))
  ·unfold okC;cases e1:decide (33≤c.toNat)with
   |false=>
    rw[e1]at g1;refine Sp1 (x2 hgd g1) ?_;refine⟨⟨by omega,by omega⟩,?_⟩;exact⟨(),by first|trivial|rfl⟩
   |true=>
    rw[e1]at g1;refine Sp1 (x3 hgd g1 g2) ?_;refine⟨⟨by omega,by omega⟩,⟨by omega,by omega⟩,?_⟩;exact⟨(),by first|trivial|rfl⟩
  cases hq:okC c with
  |false=>
   refine Ct ?_;refine Rp0 [2] ?_;refine Tp0 ?_;rw[hpre,hq];exact Vr
  |true=>
   rw[hq,Zyt]at hpre;refine Fp0 ?_;refine rp1 [0,3] (w64 (n:=(k:Int)+1) (by omega) (by omega)) ?_;refine⟨⟨k+1,ka,hpre⟩,?_,?_⟩
   ·rfl
   ·simp only[];omega
 ·have ka:k=s.length:=by have h3:=oF h3;omega
  subst ka;rw[List.drop_length]at hpre;refine Ep0 ?_;refine Rp0 [2] ?_;refine Tp0 ?_;rw[hpre];exact Vr
theorem Zuk(l:List Str)(hl:l.length≤1000000)(ht:∀s∈l,s.length≤1000000):Tc 209 [.sl 1 (l.map fun x=>[PV.str x])] (.bool (Zgs l)):=by
 have h2:decide ((256:Int)<(l.length:Int))= !(decide (l.length≤256)):=by
  by_cases h:l.length≤256
  ·rw[Zyf h,Vf];rfl
  ·rw[Zyg h,Vt];rfl
 refine Gp (vc:=Y34) [.t 2] (cB _) Tryz.func209 ?_;simp only[Y34,YY];refine Rp0 [0] ?_;refine Zaa ?_;unfold Zgs;cases d2:decide (l.length≤256)with
 |false=>
  rw[d2]at h2;refine Rp1 [0,6] (x2 @xlm h2) ?_;refine Ct ?_;exact Rv0 [2]
 |true=>
 rw[d2]at h2;refine Rp1 [0,6] (x2 @xlm h2) ?_;refine Fp0 ?_;refine Zaa<|Rp0 [0,3] ?_;refine Zab ?_;refine Zai (σ:={ k:Nat//k≤l.length∧l.all Zmq=(l.drop k).all Zmq }) (fun x=>([(0,.sl 1 (l.map fun x=>[PV.str x])),(3,pI x.1)],⟨[],0⟩)) (fun x=>l.length-x.1) ⟨0,Zyw _,rfl⟩ ?_ ?_ ?_
 ·refine Sp0 ?_;rfl
 ·exact Sc0
 rintro⟨k,hk,hpre⟩;simp only[];refine Zaa<|Rp1 [0,3,10] @xlm ?_;refine Zae rfl (fun h3=>?_) (fun h3=>?_)
 ·have ka:k<l.length:=by have h3:=oT h3;omega
  have hd:l.drop k=l[k]::l.drop (k+1):=List.drop_eq_getElem_cons ka;rw[hd,List.all_cons]at hpre;have R:=Zsi l[k] (ht _ (Zyl ka));refine Kp0 ?_;refine Zaa<|Zab ?_;refine Zaa (Zad [0,3,18] ?_);simp only[vmL,Nat.reduceEqDiff,reduceCtorEq,Zyc,Zcs ka];refine Ok ?_;refine Ap0 R ?_;cases hq:Zmq l[k]with
  |false=>
   refine Ct ?_;refine Rp0 [2] ?_;refine Tp0 ?_;rw[hpre,hq];exact Vr
  |true=>
   rw[hq,Zyt]at hpre;refine Fp0 ?_;refine rp1 [0,3] (w64 (n:=(k:Int)+1) (by omega) (by omega)) ?_;refine⟨⟨k+1,ka,hpre⟩,?_,?_⟩
   ·rfl
   ·simp only[];omega
 ·have ka:k=l.length:=by have h3:=oF h3;omega
  subst ka;rw[List.drop_length]at hpre;refine Ep0 ?_;refine Rp0 [2] ?_;refine Tp0 ?_;rw[hpre];exact Vr
theorem Zqx{l:List Wd}{k:Nat}(h:k<l.length):(l.take (k+1)).map (fun w=>[PV.str w.text])=(l.take k).map (fun w=>[PV.str w.text])++[[PV.str l[k].text]]:=by
 rw[List.take_add_one,Zye h,List.map_append];rfl
theorem Zul(l:List Wd):(l.map Wd.text).map (fun x=>[PV.str x])=l.map fun w=>[PV.str w.text]:=by rw[List.map_map];rfl
theorem Zn6(l:List Wd)(hl:l.length≤1000000)(ht:∀w∈l,w.text.length≤1000000):Tc 266 [.sl 4 (l.map Wd.enc)] (.bool (Zm6 l)):=by
 have V:=Zgt (l.map Wd.text) (by simpa using hl) (by intro s hs;obtain⟨w,hw,rfl⟩:=List.mem_map.1 hs;exact ht w hw);rw[Zul]at V;have h2:decide ((l.length:Int)≤256)=decide (l.length≤256):=decide_eq_decide.2 (by omega);refine Gp (vc:=Y32) [.t 2] (cB _) Tryz.func266 ?_;simp only[Y32,YY];refine Rp0 [0] ?_;refine Rp0 [0,3] ?_;refine Zc7 3 1 rfl ?_;refine Sp0 ?_;refine Zaa<|Rp1 [0,3,6,7,8] @xlm ?_;refine Zab ?_;refine Zai (σ:={ x:Nat×Nat×Nat//x.1≤l.length∧x.2.1<x.2.2 }) (fun x=>([(0,.sl 4 (l.map Wd.enc)),(3,.own x.1.2.1 0 x.1.1),(6,.sl 4 (l.map Wd.enc)),(7,pI l.length),(8,pI x.1.1)],⟨[(x.1.2.1,.arr false 1 ((l.take x.1.1).map fun w=>[PV.str w.text]))],x.1.2.2⟩)) (fun x=>l.length-x.1.1) ⟨(0,0,1),Zyw _,Nat.one_pos⟩ ?_ ?_ ?_
 ·refine Sp0 ?_;rfl
 ·exact Sr0
 rintro⟨⟨k,id,t⟩,hk,hid⟩;simp only[]at hk hid⊢;have qq:=N4 id t (t+1) (t+1+1);refine Rp1 [0,3,6,7,8,9] qq ?_;refine Zaa<|Zae rfl (fun h1=>?_) (fun h1=>?_)
 ·have ka:k<l.length:=by have h1:=oT h1;omega
  have hst:=Zqx ka;have hB:((l.take k).map fun w=>[PV.str w.text]).length=k:=by simp;omega
  generalize(l.take k).map (fun w=>[PV.str w.text])=B at hst hB⊢;have tk:List.take k B=B:=Zyi (by omega);refine Kp1 qq ?_;refine Zaa<|Zab ?_;refine Zaa (Zad [0,3,5,6,7,8] ?_);simp only[vmL,Nat.reduceEqDiff,Nat.reduceAdd,Nat.reduceLT,reduceCtorEq,Zyc,Zcs ka,Wd.enc,qq];refine Ok ?_;refine rp1 [0,3,6,7,8] (x3 tk hB qq) ?_;refine⟨by omega,by omega,?_⟩;refine rp1 [0,3,6,7,8] (x2 qq (w64 (n:=(k:Int)+1) (by omega) (by omega))) ?_;refine⟨⟨(k+1,t+2,t+3),by show k+1≤l.length;omega,Nat.lt_succ_self _⟩,⟨rfl,rfl⟩,⟨Nat.le_refl _,?_⟩,by show l.length-(k+1)<l.length-k;omega⟩;show(if t+1+1=t+2 then some (AB.arr false 1 (B++[[PV.str l[k].text]]))else _)=some (AB.arr false 1 ((l.take (k+1)).map fun w=>[PV.str w.text]));rw[if_pos rfl,hst]
 ·have ka:k=l.length:=by have h1:=oF h1;omega
  subst ka;rw[List.take_length];refine Ep1 qq ?_;refine Zav [(0,.sl 4 (l.map Wd.enc)),(3,.sl 1 (l.map fun w=>[PV.str w.text]))] ⟨Vr,View.own_all (fz:=false) (by simp[Vh]) (by rw[Zyc]),trivial⟩ ?_;have hr:Zm6 l=(decide (l.length≤256)&&Zgs (l.map Wd.text)):=by
   unfold Zm6 Zgs;rw[Zyc];cases decide (l.length≤256)<;>rfl
  rw[hr];cases d2:decide (l.length≤256)with
  |false=>
   rw[d2]at h2;refine Rp1 [2] (x2 @xlm h2) ?_;exact Tv0
  |true=>
   rw[d2]at h2;refine Rp1 [2] (x2 @xlm h2) ?_;refine Zag V ?_;exact Tv0
theorem Zsj(l:List Wd):Closed (.sl 1 (l.map fun w=>[PV.str w.text])):=Zaj (fun a _ x hx=>by simp only[Zyb,Zya,or_false]at hx;subst hx;exact cS _)
theorem Zpr(l:List Wd)(hl:l.length≤1000000):Tc 210 [.sl 4 (l.map Wd.enc)] (.sl 1 (l.map fun w=>[PV.str w.text])):=by
 refine Gp (vc:=Y35) [.t 2] (Zsj _) Tryz.func210 ?_;simp only[Y35,YY];refine Rp0 [0] ?_;refine Rp0 [0,3] ?_;refine Zaa<|Rp0 [0,3,4] ?_;refine Zab ?_;refine Zai (σ:={ x:Nat×Nat×Nat//x.1≤l.length∧x.2.1<x.2.2 }) (fun x=>([(0,.sl 4 (l.map Wd.enc)),(3,.own x.1.2.1 0 x.1.1),(4,pI x.1.1)],⟨[(x.1.2.1,.arr false 1 ((l.take x.1.1).map fun w=>[PV.str w.text]))],x.1.2.2⟩)) (fun x=>l.length-x.1.1) ⟨(0,0,1),Zyw _,Nat.one_pos⟩ ?_ ?_ ?_
 ·exact Sr0
 ·exact Sr0
 rintro⟨⟨k,id,t⟩,hk,hid⟩;simp only[]at hk hid⊢;have qq:=N4 id t (t+1) (t+1+1);refine Zaa<|Rp1 [0,3,4,9] (x2 @xlm qq) ?_;refine Zae rfl (fun h1=>?_) (fun h1=>?_)
 ·have ka:k<l.length:=by have h1:=oT h1;omega
  have hst:=Zqx ka;have hB:((l.take k).map fun w=>[PV.str w.text]).length=k:=by simp;omega
  generalize(l.take k).map (fun w=>[PV.str w.text])=B at hst hB⊢;have tk:List.take k B=B:=Zyi (by omega);refine Kp1 qq ?_;refine Zaa<|Zab ?_;refine Zad [0,3,4] ?_;simp only[vmL,Nat.reduceEqDiff,Nat.reduceAdd,Nat.reduceLT,Nat.reduceLeDiff,reduceCtorEq,Zyc,Zcs ka,Wd.enc,tk,hB,qq];refine Ok ?_;refine rp1 [0,3,4] (x2 qq (w64 (n:=(k:Int)+1) (by omega) (by omega))) ?_;refine⟨⟨(k+1,t+1,t+2),by show k+1≤l.length;omega,Nat.lt_succ_self _⟩,⟨rfl,rfl⟩,⟨Nat.le_refl _,?_⟩,by show l.length-(k+1)<l.length-k;omega⟩;show(if t+1=t+1 then some (AB.arr false 1 (B++[[PV.str l[k].text]]))else _)=some (AB.arr false 1 ((l.take (k+1)).map fun w=>[PV.str w.text]));rw[if_pos rfl,hst]
 ·have ka:k=l.length:=by have h1:=oF h1;omega
  subst ka;rw[List.take_length];refine Ep1 qq ?_;refine Rp1 [2] qq ?_;refine Tp0 ?_;exact View.own_all (fz:=false) (by simp[Vh]) (by rw[Zyc])
theorem Zl5(l:List Wd)(hl:l.length≤1000000)(ht:∀w∈l,w.text.length≤1000000):Tc 170 [.sl 4 (l.map Wd.enc)] (.bool (Zm6 l)):=by
 have V:=Zuk (l.map Wd.text) (by simpa using hl) (by intro s hs;obtain⟨w,hw,rfl⟩:=List.mem_map.1 hs;exact ht w hw);rw[Zul]at V;have X:=Zpr l hl;have h2:decide ((l.length:Int)≤256)=decide (l.length≤256):=decide_eq_decide.2 (by omega);refine Gp (vc:=Y36) [.t 2] (cB _) Tryz.func170 ?_;simp only[Y36,YY];refine Rp0 [0] ?_;have hr:Zm6 l=(decide (l.length≤256)&&Zgs (l.map Wd.text)):=by
  unfold Zm6 Zgs;rw[Zyc];cases decide (l.length≤256)<;>rfl
 rw[hr];cases d2:decide (l.length≤256)with
 |false=>
  rw[d2]at h2;refine Rp1 [2] (x2 @xlm h2) ?_;exact Tv0
 |true=>
  rw[d2]at h2;refine Rp1 [2] (x2 @xlm h2) ?_;refine Zag X ?_;refine Zag V ?_;exact Tv0
end Go.Proofs.w
namespace Go.VM
open Go
def isD(b:UInt8):Bool:=decide (48≤b.toNat)&&decide (b.toNat≤57)
def isU(b:UInt8):Bool:=decide (65≤b.toNat)&&decide (b.toNat≤90)
def dgs(s:Str):Str:=s.takeWhile isD
def Zfj(s:Str):Str:=s.dropWhile isD
def may(s:Str):Bool:=decide (1≤(dgs s).length)&&decide ((dgs s).length≤4)&&(s.head? !=some 48)&&decide ((Zfj s).length≤3)&&(Zfj s).all isU
theorem Zm7(s:Str):dgs s++Zfj s=s:=List.takeWhile_append_dropWhile
theorem Zze(s:Str):(dgs s).length+(Zfj s).length=s.length:=by rw[←Zx5,Zm7]
theorem Zum(s:Str):Zfj s=s.drop (dgs s).length:=by
 have h:(dgs s++Zfj s).drop (dgs s).length=Zfj s:=List.drop_left;rw[Zm7]at h;exact h.symm
theorem Z1m(s:Str):dgs s=s.take (dgs s).length:=by
 have h:(dgs s++Zfj s).take (dgs s).length=dgs s:=List.take_left;rw[Zm7]at h;exact h.symm
theorem Zn7{k:Nat}(h:k<256):(UInt8.ofNat k).toNat=k:=by simp[UInt8.toNat_ofNat'];omega
theorem tw_at{q:UInt8→Bool}:∀{s:Str} {k:Nat},k<(s.takeWhile q).length→q (s.getD k 0)=true
 | [],k,h=>by simp at h
 | a::r,k,h=>by
  rw[List.takeWhile_cons]at h;split at h
  ·cases k with
   |zero=>simpa
   |succ k=>simpa using tw_at (s:=r) (k:=k) (by simpa using h)
  ·simp at h
theorem Xcm{q:UInt8→Bool}:∀{s:Str},(s.takeWhile q).length<s.length→q (s.getD (s.takeWhile q).length 0)=false
 | [],h=>by simp at h
 |a::r,h=>by
  rw[List.takeWhile_cons]at h⊢;split at h
  ·rename_i e;rw[if_pos e,Zyd,List.getD_cons_succ];exact Xcm (by simpa using h)
  ·rename_i e;rw[if_neg e];simpa using e
theorem Xcn{s:Str}{k:Nat}(h:k<(dgs s).length):48≤(s.getD k 0).toNat∧(s.getD k 0).toNat≤57:=by
 have:=tw_at (q:=isD) h;simpa[isD]using this
theorem Xdo{s:Str}(h:(dgs s).length<s.length):¬(48≤(s.getD (dgs s).length 0).toNat∧(s.getD (dgs s).length 0).toNat≤57):=by
 have:=Xcm (q:=isD) h;intro k;have e:isD (s.getD (dgs s).length 0)=true:=by unfold isD;rw[Zyf k.1,Zyf k.2];rfl
 rw[show(s.takeWhile isD).length=(dgs s).length from rfl,e]at this;cases this
theorem Z1n(s:Str):(dgs s).length≤s.length:=by rw[←Zze s];omega
theorem Z6k(s:Str)(i:Nat):(Zfj s).getD i 0=s.getD ((dgs s).length+i) 0:=by
 rw[Zum,Zx1,List.getElem?_drop,←Zx1]
theorem Xco{l:Str}:l.all isU=true↔∀i,i<l.length→isU (l.getD i 0)=true:=by
 rw[List.all_eq_true];constructor
 ·intro h i hi;rw[Zx1,Zye hi];exact h _ (Zyl hi)
 ·intro h b hb;obtain⟨i,hi,rfl⟩:=List.mem_iff_getElem.1 hb;have:=h i hi;rw[Zx1,Zye hi]at this;exact this
theorem u8_inj{a b:UInt8}(h:a.toNat=b.toNat):a=b:=UInt8.toNat_inj.1 h
theorem Zun{s:Str}(h:s≠[]):(s.head? !=some 48)= !decide ((s.getD 0 0).toNat=48):=by
 cases s with
 |nil=>exact absurd rfl h
 |cons b r=>
  simp only[List.head?_cons,List.getD_cons_zero];by_cases e:b=48
  ·subst e;rfl
  ·have:b.toNat≠48:=fun h=>e (u8_inj h);simp[e,this]
theorem Z3h(s:ByteArray)(i:Nat)(h:(s.get! i).toNat<128):Utf8.decode s i=((s.get! i).toNat,1):=by
 simp[Utf8.decode,h]
theorem decode_high(s:ByteArray)(i:Nat)(h:¬(s.get! i).toNat<128):128≤(Utf8.decode s i).1:=by
 have h':¬(s.get! (i+0)).toNat<0x80:=h;unfold Utf8.decode;simp only[h',if_false,Utf8.runeError]
 repeat' split
 all_goals first|omega|(simp only[];omega)|(simp_all;omega)|skip
def Zdq(q:UInt8→Bool)(x:Nat):Bool:=decide (x<128)&&q (UInt8.ofNat x)
theorem get!_at(s:ByteArray)(i:Nat)(h:i<s.size):s.get! i=s.data.toList[i]'(by simpa using h):=by
 have h2:i<s.data.size:=h;have:s.get! i=s.data[i]!:=rfl;rw[this,getElem!_pos s.data i h2,Array.getElem_toList]
theorem Z1o(q:UInt8→Bool)(hq:∀b,q b=true→b.toNat<128)(s:ByteArray):∀(f pos:Nat),s.size≤pos+f→pos≤s.size→
  Lib.idxFuncFrom (fun x=>!(Zdq q x)) true s f pos=(let k:=pos+((s.data.toList.drop pos).takeWhile q).length;if k<s.size then(k:Int)else -1)
 | f,pos,hf,hp=>by
  by_cases hlt:pos<s.size
  ·obtain⟨f',rfl⟩:∃f',f=f'+1:=⟨f-1,by omega⟩;have hl:pos<s.data.toList.length:=by simpa using hlt
   rw[List.drop_eq_getElem_cons hl,List.takeWhile_cons];have hg:=get!_at s pos hlt;rw[←hg];simp only[Lib.idxFuncFrom,hlt,if_true];by_cases h1:(s.get! pos).toNat<128
   ·rw[Z3h s pos h1];have e1:Zdq q (s.get! pos).toNat=q (s.get! pos):=by simp[Zdq,h1]
    simp only[e1];by_cases h2:q (s.get! pos)=true
    ·rw[h2];simp only[Bool.not_true,Zyu,if_false,if_true];rw[Z1o q hq s f' (pos+1) (by omega) (by omega)];simp only[Zyd];rw[show pos+1+((s.data.toList.drop (pos+1)).takeWhile q).length=pos+(((s.data.toList.drop (pos+1)).takeWhile q).length+1) by omega]
    ·rw[Bool.not_eq_true]at h2;rw[h2];simp[hlt]
   ·have h2:=decode_high s pos h1;have e1:Zdq q (Utf8.decode s pos).1=false:=by simp[Zdq];omega
    have e2:q (s.get! pos)=false:=by
     cases e:q (s.get! pos)with
     |false=>rfl
     |true=>exact absurd (hq _ e) h1
    simp[e1,e2,hlt]
  ·have e1:s.data.toList.drop pos=[]:=List.drop_eq_nil_of_le (by simp;exact Nat.le_of_not_lt hlt);rw[Lib.idxFuncFrom_end _ _ _ _ _ hlt,e1];exact(if_neg (by simpa using hlt)).symm
theorem Zuo(q:UInt8→Bool)(hq:∀b,q b=true→b.toNat<128)(l:Str):Lib.idxFunc (fun x=>!(Zdq q x)) true ⟨l.toArray⟩=if(l.takeWhile q).length<l.length then((l.takeWhile q).length:Int)else -1:=by
 have e0:(⟨l.toArray⟩:ByteArray).size=l.length:=by show l.toArray.size=_;simp
 have:=Z1o q hq ⟨l.toArray⟩ l.length 0 (by rw[e0];omega) (by omega);unfold Lib.idxFunc;rw[e0,this,e0];simp
theorem Xdp(b:UInt8)(h:isD b=true):b.toNat<128:=by simp[isD]at h;omega
theorem Xdq(b:UInt8)(h:isU b=true):b.toNat<128:=by simp[isU]at h;omega
theorem Z3i(s:Str):Lib.idxFunc (fun x=>!(Zdq isD x)) true ⟨s.toArray⟩=if(dgs s).length<s.length then((dgs s).length:Int)else -1:=Zuo isD Xdp s
theorem Zgi{q:UInt8→Bool}:∀{l:Str},(l.takeWhile q).length<l.length↔l.all q=false
 | []=>by simp
 |a::r=>by
  rw[List.takeWhile_cons];by_cases h:q a=true
  ·rw[if_pos h,Zyd,Zyd,Nat.succ_lt_succ_iff,Zgi,List.all_cons,h,Zyt]
  ·rw[Bool.not_eq_true]at h;simp[h]
theorem Xae(s:Str):decide (0≤Lib.idxFunc (fun x=>!(Zdq isU x)) true ⟨s.toArray⟩)= !(s.all isU):=by
 rw[Zuo isU Xdq];by_cases h:(s.takeWhile isU).length<s.length
 ·rw[if_pos h,Zgi.1 h];simp
 ·rw[if_neg h];have:s.all isU=true:=by
   cases e:s.all isU with
   |true=>rfl
   |false=>exact absurd (Zgi.2 e) h
  rw[this];simp
def idZ:Idt:=⟨0,0,0⟩
def Zl6(u:Un):Bool:=(decide (0≤u.kind)&&decide (u.kind≤7))&&(decide (u.kids.length≤64)&&(Zm6 u.head&&(Zm6 u.words&&(if u.kind=0 then(u.label==[])&&((u.head.length==0)&&(u.words.length==0))else may u.label))))
def Zdn(a b:Un):Bool:=(a.kind==b.kind)&&(a.label==b.label)
mutual
def rightT:Un→Bool
 | .mk a i n k l h w ks=>Zl6 (.mk a i n k l h w ks) && rightL k [] ks
def rightL:Int→List Un→List Un→Bool
 |_,_,[]=>true
 |p,pre,k::r=>(Zfw p k.kind && rightT k) && ((!(pre.any fun x=>Zdn x k)) && rightL p (pre++[k]) r)
end
theorem Zj0(u:Un):rightT u=(Zl6 u&&rightL u.kind [] u.kids):=by cases u;rw[rightT];rfl
def Zto(p:Int):List Un→List Un→Bool
 |_,[]=>true
 |pre,k::r=>Zfw p k.kind&&((!(pre.any fun x=>Zdn x k))&&Zto p (pre++[k]) r)
theorem Zn8(p:Int):∀(l pre:List Un),rightL p pre l=(Zto p pre l&&l.all rightT)
 | [],pre=>by rw[rightL];rfl
 |k::r,pre=>by
  rw[rightL,Zn8 p r,Zto,List.all_cons];cases Zfw p k.kind<;>cases rightT k<;>cases(pre.any fun x=>Zdn x k)<;>cases Zto p (pre++[k]) r<;>simp
def Xaf(u:Un):Bool:=if u.kind=0 then(u.label==[]) && !(decide (0<u.head.length+u.words.length))else(Zgh u.kind !=[])&&(may u.label&&(Zm6 u.head&&Zm6 u.words))
def Zn9(u:Un):Bool:=Xaf u&&(Zto u.kind [] u.kids&&decide (u.kids.length≤64))
theorem Xag(k:Int):(Zgh k !=[])=(decide (0≤k)&&decide (k≤7)):=by
 unfold Zgh;split
 ·rename_i h;obtain⟨i,rfl⟩:∃i:Nat,k=(i:Int):=⟨k.toNat,by omega⟩;have:i=0∨i=1∨i=2∨i=3∨i=4∨i=5∨i=6∨i=7:=by omega
  rcases this with rfl|rfl|rfl|rfl|rfl|rfl|rfl|rfl<;>rfl
 ·rename_i h
  symm
  show _=false;rw[Bool.and_eq_false_iff];by_cases h0:0≤k
  ·exact .inr (Vf)
  ·exact .inl (Zyg h0)
theorem Xah:Zm6 []=true:=rfl
theorem Xai(u:Un):Zn9 u=(Zl6 u&&Zto u.kind [] u.kids):=by
 unfold Zn9 Zl6 Xaf;by_cases h0:u.kind=0
 ·rw[if_pos h0,if_pos h0,h0];have e1:(decide ((0:Int)≤0)&&decide ((0:Int)≤7))=true:=rfl;rw[e1,Zyt];by_cases hh:u.head.length=0
  ·by_cases hw:u.words.length=0
   ·have e2:=List.eq_nil_of_length_eq_zero hh;have e3:=List.eq_nil_of_length_eq_zero hw;rw[e2,e3,Xah];cases Zto 0 [] u.kids<;>cases decide (u.kids.length≤64)<;>cases(u.label==[])<;>rfl
   ·have e2:decide (0<u.head.length+u.words.length)=true:=Vt;have e3:(u.words.length==0)=false:=by rw[beq_eq_false_iff_ne];exact hw
    rw[e2,e3];cases Zto 0 [] u.kids<;>cases decide (u.kids.length≤64)<;>cases(u.label==[])<;>cases(u.head.length==0)<;>cases Zm6 u.head<;>cases Zm6 u.words<;>rfl
  ·have e2:decide (0<u.head.length+u.words.length)=true:=Vt;have e3:(u.head.length==0)=false:=by rw[beq_eq_false_iff_ne];exact hh
   rw[e2,e3];cases Zto 0 [] u.kids<;>cases decide (u.kids.length≤64)<;>cases(u.label==[])<;>cases Zm6 u.head<;>cases Zm6 u.words<;>rfl
 ·rw[if_neg h0,if_neg h0,Xag];cases decide (0≤u.kind)<;>cases decide (u.kind≤7)<;>cases Zto u.kind [] u.kids<;>cases decide (u.kids.length≤64)<;>cases may u.label<;>cases Zm6 u.head<;>cases Zm6 u.words<;>rfl
theorem Z6l{u:Un}(h:SmT u):(unitsT u).all Zn9=rightT u:=by
 induction h with
 | mk u h hk hs ih=>
  rw[Zft,Zj0,Zn8,Xai];have:(u.kids.all fun k=>(unitsT k).all Zn9)=u.kids.all rightT:=by
   rw[Bool.eq_iff_iff,List.all_eq_true,List.all_eq_true];exact⟨fun H k hk=>by rw[←ih k hk];exact H k hk,fun H k hk=>by rw[ih k hk];exact H k hk⟩
  rw[this,Bool.and_assoc]
theorem Xaj{p k:Int}(h:Zfw p k=true):k≠0:=by
 rintro rfl;unfold Zfw at h;split at h
 ·cases h
 ·split at h
  ·cases h
  ·split at h
   ·cases h
   ·split at h
    ·cases h
    ·split at h<;>cases h
theorem Zqy(p:Int):∀(l pre:List Un),Zto p pre l=true→∀k∈l,k.kind≠0
 | [],_,_,k,h=>by cases h
 |a::r,pre,H,k,h=>by
  rw[Zto]at H;simp only[Zx4]at H;rcases List.mem_cons.1 h with rfl|h
  ·exact Xaj H.1
  ·exact Zqy p r _ H.2.2 k h
theorem Zzf{u:Un}(h:SmT u):rightT u=true→∀x∈unitsL u.kids,x.kind≠0:=by
 induction h with
 |mk u h hk hs ih=>
  intro H x hx;rw[Zj0,Zn8]at H;simp only[Zx4,List.all_eq_true]at H;rw[Za5]at hx;obtain⟨k,h1,h2⟩:=List.mem_flatMap.1 hx;rw[Zap]at h2;rcases List.mem_cons.1 h2 with rfl|h2
  ·exact Zqy _ _ _ H.2.1 _ h1
  ·exact ih k h1 (H.2.2 k h1) x h2
def Xdr(u:Un):Bool:=((Zbc u).all fun x=>decide (x=idZ))||(((u.kind==0)==decide (idU u=idZ))&&decide (Zbc u).Nodup)
def Zeg(u:Un):Bool:=rightT u&&(decide (depthT u≤8)&&(decide ((unitsT u).length≤1024)&&Xdr u))
def Zl7(u:Un):Bool:=(unitsT u).all fun x=>(x.kind==0)|| !(decide (idU x=idZ))
def Zhb(u:Un):Bool:=Zeg u&&Zl7 u
end Go.VM
