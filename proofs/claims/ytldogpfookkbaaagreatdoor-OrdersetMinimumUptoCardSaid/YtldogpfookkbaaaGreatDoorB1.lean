import Derived.Test.YtldogpfookkbaaaGreatDoorW7
import Derived.Test.YtldogpfookkbaaaGreatDoorVmBa
set_option linter.all false
set_option maxRecDepth 20000
set_option maxHeartbeats 0
namespace Go.VM
open Go
def nR(r:List Nat):List (List PV):=r.map fun(x:Nat)=>[pI x]
def zR(r:List Int):List (List PV):=r.map fun x=>[pI x]
theorem Zbw(r:List Nat):(nR r).length=r.length:=Zyc _
theorem Zu9(r:List Int):(zR r).length=r.length:=Zyc _
theorem Zss(r:List Nat):List.take r.length (nR r)=nR r:=Zyi (by rw[Zbw];exact Nat.le_refl _)
theorem Z7e{r:List Int}{k:Nat}(h:k<r.length):(zR r).getD k []=[pI r[k]]:=Zcs h
theorem Z7f{r:List Nat}{k:Nat}(h:k<r.length):(nR r).getD k []=[pI (r[k]:Nat)]:=Zcs h
def nz(r:List Nat):List Int:=r.map fun(x:Nat)=>(x:Int)
theorem Zmu(r:List Nat):nR r=zR (nz r):=by unfold nR zR nz;rw[List.map_map];rfl
theorem Zhi(r:List Nat):(nz r).length=r.length:=Zyc _
theorem Z19(k:Nat):nR (List.range (k+1))=nR (List.range k)++[[pI k]]:=by unfold nR;rw[List.range_succ,List.map_append];rfl
def llR(l:List (List Int)):List (List PV):=l.map fun r=>[.sl 1 (zR r)]
theorem Zzp(r:List (List Int)):(llR r).length=r.length:=Zyc _
theorem Z7g{r:List (List Int)}{k:Nat}(h:k<r.length):(llR r).getD k []=[.sl 1 (zR r[k])]:=Zcs h
theorem Zb5(r:List Int):Closed (.sl 1 (zR r)):=Zaj (fun s _ x hx=>by rw[Zyr]at hx;subst hx;exact cI _)
theorem Zbm(r:List Nat):Closed (.sl 1 (nR r)):=Zaj (fun s _ x hx=>by rw[Zyr]at hx;subst hx;exact cI _)
theorem Zh6(r:List (List Int)):Closed (.sl 1 (llR r)):=Zaj (fun s _ x hx=>by rw[Zyr]at hx;subst hx;exact Zb5 _)
def Zzq(l:List Int)(n:Int):Bool:=decide ((l.length:Int)=n)&&(List.range n.toNat).all fun i=>l.contains (i:Int)
end Go.VM
namespace Go.Proofs.w
open Go Go.VM
def Y66:VC:=(ZR [ZO 2 (.mv (.c .nilsl))] (ZR [ZO 3 (.mv (.c .nilsl))] (.seq (ZR [ZM 5 0,Yv 6 (Yi 0)] (.block 0 (.loop (ZR [Yr 7 .lss 6 5] (.seq (YC 7 .skip (.exit 0)) (.seq (.block 1 (ZR [ZM 8 6,ZM 4 8] (.region [ZM 9 3,ZM 10 4,ZO 11 (.bslice 1 1 [Yo] [(0,(.t 10))]),ZO 12 (.app 1 8 [Yo] false (.t 9) (.t 11)),ZM 3 12] false))) (.region [Yu 13 .add 6 1,ZM 6 13] false))))))) (ZR [ZM 14 3,ZM 2 14] .ret))))
def Y67:VC:=(ZR [ZO 2 (.mv (.c .nilsl))] (ZR [ZO 5 (.fx (.mk0 1) []),ZM 3 5] (.seq (ZR [Yv 4 (Yi 0)] (.block 0 (.loop (.seq (ZR [ZM 6 4,ZM 7 0,Yr 8 .lss 6 7] (YC 8 .skip (.exit 0))) (.seq (.block 1 (.region [ZM 11 3,ZM 12 4,ZO 13 (.bslice 1 1 [Yo] [(0,(.t 12))]),ZO 14 (.app 1 8 [Yo] false (.t 11) (.t 13)),ZM 3 14] false)) (.region [ZM 9 4,Yu 10 .add 9 1,ZM 4 10] false)))))) (ZR [ZM 15 3,ZM 2 15] .ret))))
def Y68:VC:=(ZR [Yv 4 Yf] (.seq (ZR [ZM 6 0,Ye 7 6,ZM 8 1,Ye 9 8,Yr 10 .neq 7 9] (YC 10 (ZR [Yv 4 Yf] .ret) .skip)) (.seq (ZR [Yv 5 (Yi 0)] (.block 0 (.loop (.seq (ZR [ZM 11 5,ZM 12 0,Ye 13 12,Yr 14 .lss 11 13] (YC 14 .skip (.exit 0))) (.seq (.block 1 (.seq (.region [ZM 17 0,ZM 18 5,Yx 19 1 17 18,Yl 20 19,ZM 21 1,ZM 22 5,Yx 23 1 21 22,Yl 24 23,Yr 25 .neq 20 24] true) (YC 25 (ZR [Yv 4 Yf] .ret) .skip))) (.region [ZM 15 5,Yu 16 .add 15 1,ZM 5 16] false)))))) (ZR [Yv 4 Yt] .ret))))
def Y69:VC:=(ZR [Yv 4 Yf] (.seq (ZR [ZM 6 0,Ye 7 6,ZM 8 1,Ye 9 8,Yr 10 .neq 7 9] (YC 10 (ZR [Yv 4 Yf] .ret) .skip)) (.seq (ZR [Yv 5 (Yi 0)] (.block 0 (.loop (.seq (ZR [ZM 11 5,ZM 12 0,Ye 13 12,Yr 14 .lss 11 13] (YC 14 .skip (.exit 0))) (.seq (.block 1 (.seq (.region [ZM 17 0,ZM 18 5,Yx 19 1 17 18,Yl 20 19,ZM 21 1,ZM 22 5,Yx 23 1 21 22,Yl 24 23,Yc 25 14 [20,24],Yn 26 25] true) (YC 26 (ZR [Yv 4 Yf] .ret) .skip))) (.region [ZM 15 5,Yu 16 .add 15 1,ZM 5 16] false)))))) (ZR [Yv 4 Yt] .ret))))
theorem Zva(n:Nat)(hn:n≤1000)(t0:Nat):Zam Tryz.prog 30 [pI n] ⟨[],t0⟩ (fun p h'=>∃id t',t0≤id∧id<t'∧p=.own id 0 n∧h'=⟨[(id,.arr false 1 (nR (List.range n)))],t'⟩):=by
 refine Zam.drop ?_;refine Gn (vc:=Y66) [.t 2] Tryz.func30 ?_;simp only[Y66,YY];refine Rp0 [0] ?_;refine Rp0 [0,3] ?_;refine Zc7 3 1 rfl ?_;refine Sp0 ?_;refine Zaa<|Rp0 [3,5,6] ?_;refine Zab ?_;refine Zai (σ:={ x:Nat×Nat×Nat//x.1≤n∧t0≤x.2.1∧x.2.1<x.2.2 }) (fun x=>([(3,.own x.1.2.1 0 x.1.1),(5,pI n),(6,pI x.1.1)],⟨[(x.1.2.1,.arr false 1 (nR (List.range x.1.1)))],x.1.2.2⟩)) (fun x=>n-x.1.1) ⟨(0,t0,t0+1),Zyw _,Nat.le_refl _,Nat.lt_succ_self _⟩ ?_ ?_ ?_
 ·exact Fn0
 ·simp only[vmL]
  first|done|rfl|exact⟨rfl,rfl⟩|trivial
 rintro⟨⟨k,id,t⟩,hk,hid0,hid⟩;simp only[]at hk hid hid0⊢;have qq:=N4 id t (t+1) (t+1+1);have hl:=Zbw (List.range k);have htk:=Zss (List.range k);rw[List.length_range]at hl htk;have hst:=Z19 k;refine Rp1 [3,5,6,7] qq ?_;refine Zaa<|Zae rfl (fun h1=>?_) (fun h1=>?_)
 ·have ka:k<n:=by have h1:=oT h1;omega
  generalize nR (List.range k)=A at*;refine Kp0 ?_;refine Zaa<|Zab ?_;refine Rp1 [3,4,5,6] qq ?_;refine rp1 [3,5,6] (x3 hl htk qq) ?_;refine⟨by omega,by omega,?_⟩;refine rp1 [3,5,6] (x2 (ad1 (a:=k) (by omega)) qq) ?_;refine⟨⟨(k+1,t+1,t+2),ka,by simp only[];omega,by simp only[];omega⟩,?_⟩;simp only[hst]
  all_goals exact Fn1 qq
 ·have ka:k=n:=by have h1:=oF h1;omega
  subst ka;refine Ep0 ?_;refine Rp0 [2] ?_;refine Tp0 ?_;refine⟨_,?_,id,t,hid0,hid,rfl,rfl⟩;exact⟨Nat.le_refl _,by simp[Vh]⟩
theorem Zst(n:Nat)(hn:n≤1000):Tc 30 [pI n] (.sl 1 (nR (List.range n))):=by
 refine Zac (Zam.mono (Zva n hn 0) ?_) (Zbm _) (by intro y hy;rw[Zyr]at hy;subst hy;exact cI _);rintro p h' ⟨id,t',q1,q2,rfl,rfl⟩;exact View.own_all (fz:=false) (by simp[Vh]) (by rw[Zbw,List.length_range])
theorem Zpx(n:Nat)(hn:n≤1000):Tc 23 [pI n] (.sl 1 (nR (List.range n))):=by
 refine Gp (vc:=Y67) [.t 2] (Zbm _) Tryz.func23 ?_;simp only[Y67,YY];refine Rp0 [0] ?_;refine Rp0 [0,3] ?_;refine Zaa<|Rp0 [0,3,4] ?_;refine Zab ?_;refine Zai (σ:={ x:Nat×Nat×Nat//x.1≤n∧x.2.1<x.2.2 }) (fun x=>([(0,pI n),(3,.own x.1.2.1 0 x.1.1),(4,pI x.1.1)],⟨[(x.1.2.1,.arr false 1 (nR (List.range x.1.1)))],x.1.2.2⟩)) (fun x=>n-x.1.1) ⟨(0,0,1),Zyw _,Nat.lt_succ_self _⟩ ?_ ?_ ?_
 ·exact Fn0
 ·simp only[vmL]
  first|done|rfl|exact⟨rfl,rfl⟩|trivial
 rintro⟨⟨k,id,t⟩,hk,hid⟩;simp only[]at hk hid⊢;have qq:=N4 id t (t+1) (t+1+1);have hl:=Zbw (List.range k);have htk:=Zss (List.range k);rw[List.length_range]at hl htk;have hst:=Z19 k;refine Zaa<|Rp1 [0,3,4,8] qq ?_;refine Zae rfl (fun h1=>?_) (fun h1=>?_)
 ·have ka:k<n:=by have h1:=oT h1;omega
  generalize nR (List.range k)=A at*;refine Kp0 ?_;refine Zaa<|Zab ?_;refine rp1 [0,3,4] (x3 hl htk qq) ?_;refine⟨by omega,by omega,?_⟩;refine rp1 [0,3,4] (x2 (ad1 (a:=k) (by omega)) qq) ?_;refine⟨⟨(k+1,t+1,t+2),ka,by simp only[];omega⟩,?_⟩;simp only[hst]
  all_goals exact Fn1 qq
 ·have ka:k=n:=by have h1:=oF h1;omega
  subst ka;refine Ep0 ?_;refine Rp0 [2] ?_;refine Tp0 ?_;exact View.own_all (fz:=false) (by simp[Vh]) (by rw[Zbw,List.length_range])
theorem Z7h(a b:List Int)(ha:a.length≤1000000):Tc 14 [.sl 1 (zR a),.sl 1 (zR b)] (.bool (decide (a=b))):=by
 have hA:=Zu9 a;have hB:=Zu9 b;have hra:=fun(k:Nat) (h:k<a.length)=>Z7e h;have hrb:=fun(k:Nat) (h:k<b.length)=>Z7e h;refine Zac ?_ (cB _) (CL2 (Zb5 _) (Zb5 _));refine Gn (vc:=Y68) [.t 4] Tryz.func14 ?_;simp only[Y68,YY];generalize zR a=ZA at*;generalize zR b=ZB at*;refine Rp0 [0,1] ?_;refine Zaa ?_;by_cases he:a.length=b.length
 ·have g1:((a.length:Int) !=(b.length:Int))=false:=by rw[bne_eq_false_iff_eq];omega
  refine Rp1 [0,1,10] (x3 hA hB g1) ?_;refine Fp0 ?_;refine Zaa<|Rp0 [0,1,5] ?_;refine Zab ?_;refine Zai (σ:={ k:Nat//k≤a.length∧∀(j:Nat) (hj:j<a.length),j<k→a[j]=b[j]'(by omega) }) (fun s=>([(0,.sl 1 ZA),(1,.sl 1 ZB),(5,pI s.1)],⟨[],0⟩)) (fun s=>a.length-s.1) ⟨0,Zyw _,fun j _ h=>by cases h⟩ ?_ ?_ ?_
  ·exact Fn0
  ·simp only[vmL]
   try trivial
  rintro⟨k,hk,hpre⟩;simp only[];refine Zaa<|Rp1 [0,1,5,14] hA ?_;refine Zae rfl (fun h1=>?_) (fun h1=>?_)
  ·have ka:k<a.length:=by have h1:=oT h1;omega
   have kb:k<b.length:=by omega
   have r1:=hra k ka;have r2:=hrb k kb;refine Kp0 ?_;refine Zaa<|Zab ?_;by_cases e:a[k]=b[k]
   ·have g:(a[k] !=b[k])=false:=by rw[bne_eq_false_iff_eq];exact e
    have hp2:∀(j:Nat) (hj:j<a.length),j<k+1→a[j]=b[j]'(by omega):=fun j hj hjk=>by
     by_cases ej:j=k
     ·subst ej;exact e
     ·exact hpre j hj (by omega)
    generalize a[k]=y at r1 g;generalize b[k]=z at r2 g;refine Zaa (Zaw [0,1,5,25] (by simp[Vh]) ?_);refine Sp1 (x5 hA hB r1 r2 g) ?_;refine⟨⟨by omega,by omega⟩,⟨by omega,by omega⟩,?_⟩;refine Fp0 ?_;refine rp1 [0,1,5] (ad1 (a:=k) (by omega)) ?_;refine⟨⟨k+1,ka,hp2⟩,?_⟩;exact Fn0
   ·have g:(a[k] !=b[k])=true:=by rw[bne_iff_ne];exact e
    have hne:decide (a=b)=false:=Zyg fun h=>e (by subst h;rfl);generalize a[k]=y at r1 g;generalize b[k]=z at r2 g;refine Zaa (Zaw [0,1,5,25] (by simp[Vh]) ?_);refine Sp1 (x5 hA hB r1 r2 g) ?_;refine⟨⟨by omega,by omega⟩,⟨by omega,by omega⟩,?_⟩;refine Ct ?_;refine Rp0 [4] ?_;refine Tp0 ?_;rw[hne];exact Vr
  ·have ka:k=a.length:=by have h1:=oF h1;omega
   have hee:decide (a=b)=true:=Zyf (List.ext_getElem he fun j h1 h2=>hpre j h1 (by omega));refine Ep0 ?_;refine Rp0 [4] ?_;refine Tp0 ?_;rw[hee];exact Vr
 ·have g1:((a.length:Int) !=(b.length:Int))=true:=by rw[bne_iff_ne];omega
  have hne:decide (a=b)=false:=Zyg fun h=>he (by rw[h]);refine Rp1 [0,1,10] (x3 hA hB g1) ?_;refine Ct ?_;refine Rp0 [4] ?_;refine Tp0 ?_;rw[hne];exact Vr
theorem Xax(a b:List (List Int))(ha:a.length≤1000000)(hs:∀x∈a,x.length≤1000000):Tc 10 [.sl 1 (llR a),.sl 1 (llR b)] (.bool (decide (a=b))):=by
 have hA:=Zzp a;have hB:=Zzp b;have hra:=fun(k:Nat) (h:k<a.length)=>Z7g h;have hrb:=fun(k:Nat) (h:k<b.length)=>Z7g h;refine Zac ?_ (cB _) (CL2 (Zh6 _) (Zh6 _));refine Gn (vc:=Y69) [.t 4] Tryz.func10 ?_;simp only[Y69,YY];generalize llR a=ZA at*;generalize llR b=ZB at*;refine Rp0 [0,1] ?_;refine Zaa ?_;by_cases he:a.length=b.length
 ·have g1:((a.length:Int) !=(b.length:Int))=false:=by rw[bne_eq_false_iff_eq];omega
  refine Rp1 [0,1,10] (x3 hA hB g1) ?_;refine Fp0 ?_;refine Zaa<|Rp0 [0,1,5] ?_;refine Zab ?_;refine Zai (σ:={ k:Nat//k≤a.length∧∀(j:Nat) (hj:j<a.length),j<k→a[j]=b[j]'(by omega) }) (fun s=>([(0,.sl 1 ZA),(1,.sl 1 ZB),(5,pI s.1)],⟨[],0⟩)) (fun s=>a.length-s.1) ⟨0,Zyw _,fun j _ h=>by cases h⟩ ?_ ?_ ?_
  ·exact Fn0
  ·simp only[vmL]
   try trivial
  rintro⟨k,hk,hpre⟩;simp only[];refine Zaa<|Rp1 [0,1,5,14] hA ?_;refine Zae rfl (fun h1=>?_) (fun h1=>?_)
  ·have ka:k<a.length:=by have h1:=oT h1;omega
   have kb:k<b.length:=by omega
   have r1:=hra k ka;have r2:=hrb k kb;have II:=Z7h a[k] b[k] (hs _ (Zyl ka));refine Kp0 ?_;refine Zaa<|Zab ?_;by_cases e:a[k]=b[k]
   ·have g:decide (a[k]=b[k])=true:=Zyf e;rw[g]at II;have hp2:∀(j:Nat) (hj:j<a.length),j<k+1→a[j]=b[j]'(by omega):=fun j hj hjk=>by
     by_cases ej:j=k
     ·subst ej;exact e
     ·exact hpre j hj (by omega)
    generalize zR a[k]=y at*;generalize zR b[k]=z at*;refine Zaa (Zaw [0,1,5,26] (by simp[Vh]) ?_);refine Sp1 (x4 hA hB r1 r2) ?_;refine⟨⟨by omega,by omega⟩,⟨by omega,by omega⟩,_,.inl II,?_⟩;refine Sp0 ?_;refine Fp0 ?_;refine rp1 [0,1,5] (ad1 (a:=k) (by omega)) ?_;refine⟨⟨k+1,ka,hp2⟩,?_⟩;exact Fn0
   ·have g:decide (a[k]=b[k])=false:=Zyg e;rw[g]at II;have hne:decide (a=b)=false:=Zyg fun h=>e (by subst h;rfl);generalize zR a[k]=y at*;generalize zR b[k]=z at*;refine Zaa (Zaw [0,1,5,26] (by simp[Vh]) ?_);refine Sp1 (x4 hA hB r1 r2) ?_;refine⟨⟨by omega,by omega⟩,⟨by omega,by omega⟩,_,.inl II,?_⟩;refine Sp0 ?_;refine Ct ?_;refine Rp0 [4] ?_;refine Tp0 ?_;rw[hne];exact Vr
  ·have ka:k=a.length:=by have h1:=oF h1;omega
   have hee:decide (a=b)=true:=Zyf (List.ext_getElem he fun j h1 h2=>hpre j h1 (by omega));refine Ep0 ?_;refine Rp0 [4] ?_;refine Tp0 ?_;rw[hee];exact Vr
 ·have g1:((a.length:Int) !=(b.length:Int))=true:=by rw[bne_iff_ne];omega
  have hne:decide (a=b)=false:=Zyg fun h=>he (by rw[h]);refine Rp1 [0,1,10] (x3 hA hB g1) ?_;refine Ct ?_;refine Rp0 [4] ?_;refine Tp0 ?_;rw[hne];exact Vr
end Go.Proofs.w
namespace Go.VM
open Go Go.Proofs.w
def sR(l:List Str):List (List PV):=l.map fun x=>[PV.str x]
theorem Zhj(l:List Str):(sR l).length=l.length:=Zyc _
theorem Xd2{l:List Str}{k:Nat}(h:k<l.length):(sR l).getD k []=[.str l[k]]:=by simp[sR,Zx1,h]
theorem Zb9(l:List Str):Closed (.sl 1 (sR l)):=Zaj fun a _ x hx=>by rw[Zyr]at hx;subst hx;exact cS _
theorem Xd3(l:List Str)(k:Nat):sR (l.take k)=(sR l).take k:=by unfold sR;rw[List.map_take]
theorem Xd4(l:List Str)(k:Nat):sR (l.drop k)=(sR l).drop k:=by unfold sR;rw[List.map_drop]
theorem Zkc(part:List Str):∀(f g i:Nat) (l:List Str),part≠[]→l.length<f→l.length<g→Zwp part f i l=Zwp part g i l
 |0,_,_,_,_,h,_=>absurd h (Nat.not_lt_zero _)
 |_,0,_,_,_,_,h=>absurd h (Nat.not_lt_zero _)
 |f+1,g+1,i,l,hp,hf,hg=>by
  have h1:1≤part.length:=List.length_pos_iff.2 hp;rw[Zwp,Zwp];by_cases hle:part.length≤l.length
  ·rw[if_pos hle,if_pos hle,Zkc part f g (i+part.length) (l.drop part.length) hp (by rw[List.length_drop];omega) (by rw[List.length_drop];omega),Zkc part f g (i+1) (l.drop 1) hp (by rw[List.length_drop];omega) (by rw[List.length_drop];omega)]
  ·rw[if_neg hle,if_neg hle]
def Zkd(part l:List Str)(k:Nat):List Nat:=Zwp part (l.length+1) k (l.drop k)
theorem Xay{part l:List Str}{k:Nat}(hp:part≠[])(hk:k+part.length≤l.length)(h:(l.drop k).take part.length=part):Zkd part l k=k::Zkd part l (k+part.length):=by
 unfold Zkd;have h1:1≤part.length:=List.length_pos_iff.2 hp;rw[Zwp,if_pos (by rw[List.length_drop];omega),if_pos h,List.drop_drop]
 congr 1
 exact Zkc part _ _ _ _ hp (by rw[List.length_drop];omega) (by rw[List.length_drop];omega)
theorem Z7i{part l:List Str}{k:Nat}(hp:part≠[])(hk:k+part.length≤l.length)(h:(l.drop k).take part.length≠part):Zkd part l k=Zkd part l (k+1):=by
 unfold Zkd;have h1:1≤part.length:=List.length_pos_iff.2 hp;rw[Zwp,if_pos (by rw[List.length_drop];omega),if_neg h,List.drop_drop];exact Zkc part _ _ _ _ hp (by rw[List.length_drop];omega) (by rw[List.length_drop];omega)
theorem Xaz{part l:List Str}{k:Nat}(hp:part≠[])(hk:l.length<k+part.length):Zkd part l k=[]:=by
 unfold Zkd;have h1:1≤part.length:=List.length_pos_iff.2 hp;rw[Zwp,if_neg (by rw[List.length_drop];omega)]
theorem Z2a{part l:List Str}(hp:part≠[])(k:Nat):(Zkd part l k).length≤l.length:=by
 have key:∀(f i:Nat) (m:List Str),(Zwp part f i m).length≤m.length:=by
  intro f
  induction f with
  |zero=>intro i m;rw[Zwp];exact Zyw _
  | succ f ih=>
   intro i m;have h1:1≤part.length:=List.length_pos_iff.2 hp;rw[Zwp];split
   ·split
    ·have:=ih (i+part.length) (m.drop part.length);rw[List.length_drop]at this;rw[Zyd];omega
    ·have:=ih (i+1) (m.drop 1);rw[List.length_drop]at this;omega
   ·exact Zyw _
 have:=key (l.length+1) k (l.drop k);rw[List.length_drop]at this;unfold Zkd;omega
theorem Zzr(l part:List Str):(Zdk l part).length≤l.length:=by
 unfold Zdk;split
 ·exact Zyw _
 ·rename_i hp;exact Z2a (l:=l) hp 0
end Go.VM
namespace Go.Proofs.w
open Go Go.VM
def Y70:VC:=(ZR [Yv 4 Yf] (.seq (ZR [ZM 6 0,Ye 7 6,ZM 8 1,Ye 9 8,Yr 10 .neq 7 9] (YC 10 (ZR [Yv 4 Yf] .ret) .skip)) (.seq (ZR [ZM 11 0,Ye 12 11,Yv 13 (Yi 0)] (.block 0 (.loop (ZR [Yr 14 .lss 13 12] (.seq (YC 14 .skip (.exit 0)) (.seq (.block 1 (ZR [ZM 15 13,ZM 5 15] (.seq (.region [ZM 16 0,ZM 17 5,Yx 18 1 16 17,Yl 19 18,ZM 20 1,ZM 21 5,Yx 22 1 20 21,Yl 23 22,Yr 24 .neq 19 23] true) (YC 24 (ZR [Yv 4 Yf] .ret) .skip)))) (.region [Yu 25 .add 13 1,ZM 13 25] false))))))) (ZR [Yv 4 Yt] .ret))))
def Y71:VC:=(ZR [ZO 8 (.mv (.c .nilsl))] (ZR [ZO 9 (.mv (.c .nilsl))] (.seq (ZR [ZM 12 0,Ye 13 12,Yv 14 (Yi 0)] (.block 0 (.loop (ZR [Yr 15 .lss 14 13] (.seq (YC 15 .skip (.exit 0)) (.seq (.block 1 (ZR [ZM 16 14,Yx 17 1 12 14,Yl 18 17,ZM 10 16,ZM 11 18] (.region [ZM 19 9,ZM 20 11,ZM 21 1,ZM 22 2,ZM 23 3,ZM 24 10,Yr 25 .add 23 24,ZO 26 (.build [Yo,Yo,Yo] [(0,(1,(.t 21))),(1,(1,(.t 22))),(2,(1,(.t 25)))]),ZO 27 (.build [(.str []),Yo,Yo,Yo] [(0,(1,(.t 20))),(1,(3,(.t 26)))]),ZO 28 (.bslice 4 1 [(.str []),Yo,Yo,Yo] [(0,(.t 27))]),ZO 29 (.app 4 40 [(.str []),Yo,Yo,Yo] false (.t 19) (.t 28)),ZM 9 29] false))) (.region [Yu 30 .add 14 1,ZM 14 30] false))))))) (ZR [ZM 31 9,ZM 8 31] .ret))))
def Y72:VC:=(ZR [ZO 2 (.mv (.c .nilsl))] (ZR [ZO 3 (.mv (.c .nilsl))] (.seq (ZR [ZM 6 0,Ye 7 6,Yv 8 (Yi 0)] (.block 0 (.loop (ZR [Yr 9 .lss 8 7] (.seq (YC 9 .skip (.exit 0)) (.seq (.block 1 (ZR [Yx 10 4 6 8,Ym 11 4 10,ZO 5 (.alloc [(.str []),Yo,Yo,Yo]),Ys 4 5 11] (.region [ZM 12 3,Ya 13 0 5,Yl 14 13,ZO 15 (.bslice 1 1 [(.str [])] [(0,(.t 14))]),ZO 16 (.app 1 16 [(.str [])] false (.t 12) (.t 15)),ZM 3 16] false))) (.region [Yu 17 .add 8 1,ZM 8 17] false))))))) (ZR [ZM 18 3,ZM 2 18] .ret))))
def Y73:VC:=(ZR [ZO 4 (.mv (.c .nilsl))] (ZR [ZO 5 (.mv (.c .nilsl))] (.seq (ZR [ZM 7 1,Ye 8 7,Yu 9 .eql 8 0] (YC 9 (ZR [ZO 4 (.mv (.c .nilsl))] .ret) .skip)) (.seq (ZR [Yv 6 (Yi 0)] (.block 0 (.loop (.seq (ZR [ZM 10 6,ZM 11 1,Ye 12 11,Yr 13 .add 10 12,ZM 14 0,Ye 15 14,Yr 16 .leq 13 15] (YC 16 .skip (.exit 0))) (.block 1 (.seq (ZR [ZM 17 0,ZM 18 6,ZM 19 6,ZM 20 1,Ye 21 20,Yr 22 .add 19 21,ZO 23 (.slice false 1 (.t 17) (some (.t 18)) (some (.t 22))),ZM 24 1,Yc 25 165 [23,24],Yn 26 25] (YC 26 (ZR [ZM 27 6,Yu 28 .add 27 1,ZM 6 28] (.exit 1)) .skip)) (ZR [ZM 29 5,ZM 30 6,ZO 31 (.bslice 1 1 [Yo] [(0,(.t 30))]),ZO 32 (.app 1 8 [Yo] false (.t 29) (.t 31)),ZM 5 32] (.region [ZM 33 6,ZM 34 1,Ye 35 34,Yr 36 .add 33 35,ZM 6 36] false)))))))) (ZR [ZM 37 5,ZM 4 37] .ret)))))
def Y74:VC:=(ZR [ZO 6 (.mv (.c .nilsl))] (ZR [ZM 8 0,Yc 9 217 [8],ZM 10 1,Yc 11 216 [9,10],ZM 7 11] (.seq (.block 0 (ZR [ZM 13 2,Yu 14 .eql 13 0,ZM 12 14] (YC 12 (ZR [ZM 15 7,ZM 6 15] .ret) (ZR [ZM 17 2,ZM 18 7,Ye 19 18,Yr 20 .gtr 17 19,ZM 16 20] (YC 16 (ZR [ZO 6 (.mv (.c .nilsl))] .ret) .skip))))) (ZR [ZM 21 7,ZM 22 2,Yu 23 .sub 22 1,ZM 24 2,ZO 25 (.slice false 1 (.t 21) (some (.t 23)) (some (.t 24))),ZM 6 25] .ret))))
theorem Zhk(a b:List Str)(ha:a.length≤1048576):Tc 165 [.sl 1 (sR a),.sl 1 (sR b)] (.bool (decide (a=b))):=by
 have hA:=Zhj a;have hB:=Zhj b;have hra:=fun(k:Nat) (h:k<a.length)=>Xd2 h;have hrb:=fun(k:Nat) (h:k<b.length)=>Xd2 h;refine Zac ?_ (cB _) (CL2 (Zb9 _) (Zb9 _));refine Gn (vc:=Y70) [.t 4] Tryz.func165 ?_;simp only[Y70,YY];generalize sR a=ZA at*;generalize sR b=ZB at*;refine Rp0 [0,1] ?_;refine Zaa ?_;by_cases he:a.length=b.length
 ·have g1:((a.length:Int) !=(b.length:Int))=false:=by rw[bne_eq_false_iff_eq];omega
  refine Rp1 [0,1,10] (x3 hA hB g1) ?_;refine Fp0 ?_;refine Zaa<|Rp1 [0,1,12,13] hA ?_;refine Zab ?_;refine Zai (σ:={ k:Nat//k≤a.length∧∀(j:Nat) (hj:j<a.length),j<k→a[j]=b[j]'(by omega) }) (fun s=>([(0,.sl 1 ZA),(1,.sl 1 ZB),(12,pI a.length),(13,pI s.1)],⟨[],0⟩)) (fun s=>a.length-s.1) ⟨0,Zyw _,fun j _ h=>by cases h⟩ ?_ ?_ ?_
  ·exact Fn0
  ·simp only[vmL]
   try trivial
  rintro⟨k,hk,hpre⟩;simp only[];refine Rp1 [0,1,12,13,14] hA ?_;refine Zaa<|Zae rfl (fun h1=>?_) (fun h1=>?_)
  ·have ka:k<a.length:=by have h1:=oT h1;omega
   have kb:k<b.length:=by omega
   have r1:=hra k ka;have r2:=hrb k kb;refine Kp0 ?_;refine Zaa<|Zab ?_;refine Rp0 [0,1,5,12,13] ?_;by_cases e:a[k]=b[k]
   ·have g:(a[k] !=b[k])=false:=by rw[bne_eq_false_iff_eq];exact e
    have hp2:∀(j:Nat) (hj:j<a.length),j<k+1→a[j]=b[j]'(by omega):=fun j hj hjk=>by
     by_cases ej:j=k
     ·subst ej;exact e
     ·exact hpre j hj (by omega)
    generalize a[k]=y at r1 g;generalize b[k]=z at r2 g;refine Zaa (Zaw [0,1,12,13,24] (by simp[Vh]) ?_);refine Sp1 (x5 hA hB r1 r2 g) ?_;refine⟨⟨by omega,by omega⟩,⟨by omega,by omega⟩,?_⟩;refine Fp0 ?_;refine rp1 [0,1,12,13] (ad1 (a:=k) (by omega)) ?_;refine⟨⟨k+1,ka,hp2⟩,?_⟩;exact Fn0
   ·have g:(a[k] !=b[k])=true:=by rw[bne_iff_ne];exact e
    have hne:decide (a=b)=false:=Zyg fun h=>e (by subst h;rfl);generalize a[k]=y at r1 g;generalize b[k]=z at r2 g;refine Zaa (Zaw [0,1,12,13,24] (by simp[Vh]) ?_);refine Sp1 (x5 hA hB r1 r2 g) ?_;refine⟨⟨by omega,by omega⟩,⟨by omega,by omega⟩,?_⟩;refine Ct ?_;refine Rp0 [4] ?_;refine Tp0 ?_;rw[hne];exact Vr
  ·have ka:k=a.length:=by have h1:=oF h1;omega
   have hee:decide (a=b)=true:=Zyf (List.ext_getElem he fun j h1 h2=>hpre j h1 (by omega));refine Ep0 ?_;refine Rp0 [4] ?_;refine Tp0 ?_;rw[hee];exact Vr
 ·have g1:((a.length:Int) !=(b.length:Int))=true:=by rw[bne_iff_ne];omega
  have hne:decide (a=b)=false:=Zyg fun h=>he (by rw[h]);refine Rp1 [0,1,10] (x3 hA hB g1) ?_;refine Ct ?_;refine Rp0 [4] ?_;refine Tp0 ?_;rw[hne];exact Vr
theorem Zzs(l:List Str)(a i:Int)(f:Nat)(hl:l.length≤100000)(hf:f≤1000000000):Tc 132 [.sl 1 (sR l),pI a,pI i,pI f] (.sl 4 ((Zb4 a i f l).map Wd.enc)):=by
 have hA:=Zhj l;have hra:=fun(k:Nat) (h:k<l.length)=>Xd2 h;refine Zac ?_ (Za9 _) (CL4 (Zb9 _) (cI _) (cI _) (cI _));refine Gn (vc:=Y71) [.t 8] Tryz.func132 ?_;simp only[Y71,YY];generalize sR l=ZA at*;refine Rp0 [0,1,2,3] ?_;refine Rp0 [0,1,2,3,9] ?_;refine Zc7 9 4 rfl ?_;refine Sp0 ?_;refine Zaa<|Rp1 [1,2,3,9,12,13,14] hA ?_;refine Zab ?_;refine Zai (σ:={ x:Nat×Nat×Nat//x.1≤l.length∧x.2.1<x.2.2 }) (fun x=>([(1,pI a),(2,pI i),(3,pI f),(9,.own x.1.2.1 0 x.1.1),(12,.sl 1 ZA),(13,pI l.length),(14,pI x.1.1)],⟨[(x.1.2.1,.arr false 4 ((Zb4 a i f (l.take x.1.1)).map Wd.enc))],x.1.2.2⟩)) (fun x=>l.length-x.1.1) ⟨(0,0,1),Zyw _,by simp only[];omega⟩ ?_ ?_ ?_
 ·exact Fn0
 ·try simp only[vmL,List.take_zero,Zb4,List.mapIdx_nil,List.map_nil]
  all_goals (repeat' (first|rfl|trivial|omega|(simp only[];omega)|refine And.intro ?_ ?_))
 rintro⟨⟨k,id,t⟩,hk,hid⟩;simp only[]at hk hid⊢;have qq:=N4 id t (t+1) (t+1+1);refine Rp0 [1,2,3,9,12,13,14,15] ?_;refine Zaa<|Zae rfl (fun h1=>?_) (fun h1=>?_)
 ·have ka:k<l.length:=by have h1:=oT h1;omega
  have r1:=hra k ka;have hst:(Zb4 a i f (l.take (k+1))).map Wd.enc=(Zb4 a i f (l.take k)).map Wd.enc++[[.str l[k],pI a,pI i,pI ((f+k:Nat):Int)]]:=by
   rw[Z3y a i f ka,List.map_append,List.map_singleton];have e:((f:Int)+(k:Int))=((f+k:Nat):Int):=by omega
   rw[e];rfl
  have hBl:((Zb4 a i f (l.take k)).map Wd.enc).length=k:=by rw[Zyc,Zez,Zyh];omega
  generalize(Zb4 a i f (l.take k)).map Wd.enc=B at hst hBl⊢;generalize l[k]=y at r1 hst;have hBt:List.take k B=B:=by rw[←hBl,List.take_length]
  have hw:=w64 (n:=(f:Int)+(k:Int)) (by omega) (by omega);have he:((f:Int)+(k:Int))=((f+k:Nat):Int):=by omega
  refine Kp0 ?_;refine Zaa<|Zab ?_;refine Rp1 [1,2,3,9,10,11,12,13,14] (x3 hA r1 qq) ?_;refine Ok ?_;refine rp1 [1,2,3,9,12,13,14] (x4 hw hBl hBt qq) ?_;refine⟨by omega,by omega,?_⟩;refine rp1 [1,2,3,9,12,13,14] (x2 (ad1 (a:=k) (by omega)) qq) ?_;refine⟨⟨(k+1,t+1,t+2),ka,by simp only[];omega⟩,?_⟩;simp only[hst];rw[he]
  all_goals exact Fn1 qq
 ·have ka:k=l.length:=by have h1:=oF h1;omega
  subst ka;rw[List.take_length];refine Ep0 ?_;refine Rp0 [8] ?_;refine Tp0 ?_;exact View.own_all (fz:=false) (by simp[Vh]) (by rw[Zyc,Zez])
theorem Zq6(w:List Wd)(hl:w.length≤100000):Tc 217 [.sl 4 (w.map Wd.enc)] (.sl 1 (sR (w.map Wd.text))):=by
 have hA:(w.map Wd.enc).length=w.length:=Zyc _;refine Zac ?_ (Zb9 _) (by intro y hy;rw[Zyr]at hy;subst hy;exact Za9 _);refine Gn (vc:=Y72) [.t 2] Tryz.func217 ?_;simp only[Y72,YY];refine Rp0 [0] ?_;refine Rp0 [0,3] ?_;refine Zc7 3 1 rfl ?_;refine Sp0 ?_;refine Zaa<|Rp1 [3,6,7,8] hA ?_;refine Zab ?_;refine Zai (σ:={ x:Nat×Nat×Nat//x.1≤w.length∧x.2.1<x.2.2 }) (fun x=>([(3,.own x.1.2.1 0 x.1.1),(6,.sl 4 (w.map Wd.enc)),(7,pI w.length),(8,pI x.1.1)],⟨[(x.1.2.1,.arr false 1 (sR ((w.take x.1.1).map Wd.text)))],x.1.2.2⟩)) (fun x=>w.length-x.1.1) ⟨(0,0,1),Zyw _,by simp only[];omega⟩ ?_ ?_ ?_
 ·exact Fn0
 ·try simp only[vmL,List.take_zero,sR,List.map_nil]
  all_goals (repeat' (first|rfl|trivial|omega|(simp only[];omega)|refine And.intro ?_ ?_))
 rintro⟨⟨k,id,t⟩,hk,hid⟩;simp only[]at hk hid⊢;have qq:=N4 id t (t+1) (t+1+1);refine Rp0 [3,6,7,8,9] ?_;refine Zaa<|Zae rfl (fun h1=>?_) (fun h1=>?_)
 ·have ka:k<w.length:=by have h1:=oT h1;omega
  have r1:=Zcs (enc:=Wd.enc) ka;have hst:sR ((w.take (k+1)).map Wd.text)=sR ((w.take k).map Wd.text)++[[.str w[k].text]]:=by
   rw[List.take_add_one,Zye ka,List.map_append];unfold sR;rw[List.map_append];rfl
  have hBl:(sR ((w.take k).map Wd.text)).length=k:=by rw[Zhj,Zyc,Zyh];omega
  generalize sR ((w.take k).map Wd.text)=B at hst hBl⊢;generalize w[k]=y at r1 hst;have hye:y.enc=[.str y.text,pI y.act,pI y.item,pI y.at']:=rfl;have hBt:List.take k B=B:=by rw[←hBl,List.take_length]
  refine Kp0 ?_;refine Zaa<|Zab ?_;refine Rp1 [3,5,6,7,8] (x4 hA r1 hye qq) ?_;refine Ok ?_;refine rp1 [3,6,7,8] (x3 hBl hBt qq) ?_;refine⟨by omega,by omega,?_⟩;refine rp1 [3,6,7,8] (x2 (ad1 (a:=k) (by omega)) qq) ?_;refine⟨⟨(k+1,t+2,t+3),ka,by simp only[];omega⟩,?_⟩;simp only[hst]
  all_goals exact Fn1 qq
 ·have ka:k=w.length:=by have h1:=oF h1;omega
  subst ka;rw[List.take_length];refine Ep0 ?_;refine Rp0 [2] ?_;refine Tp0 ?_;exact View.own_all (fz:=false) (by simp[Vh]) (by rw[Zhj,Zyc])
theorem Zzt(l part:List Str)(hl:l.length≤100000)(hpl:part.length≤100000):Tc 216 [.sl 1 (sR l),.sl 1 (sR part)] (.sl 1 (nR (Zdk l part))):=by
 have hA:=Zhj l;have hP:=Zhj part;refine Zac ?_ (Zbm _) (CL2 (Zb9 _) (Zb9 _));refine Gn (vc:=Y73) [.t 4] Tryz.func216 ?_;simp only[Y73,YY];refine Rp0 [0,1] ?_;refine Rp0 [0,1,5] ?_;refine Zaa ?_;by_cases hp:part=[]
 ·have g0:((part.length:Int)==0)=true:=by rw[hp];rfl
  refine Zaa (Zad [0,1,5,9] ?_);simp only[vmL,Nat.reduceEqDiff,reduceCtorEq,hP,g0];refine Ct ?_;refine Rp0 [4] ?_;refine Tp0 ?_;have e:Zdk l part=[]:=by unfold Zdk;rw[if_pos hp]
  rw[e];exact View.nil _ _
 have h1:1≤part.length:=List.length_pos_iff.2 hp;have g0:((part.length:Int)==0)=false:=by rw[beq_eq_false_iff_ne];omega
 refine Zaa (Zad [0,1,5,9] ?_);simp only[vmL,Nat.reduceEqDiff,reduceCtorEq,hP,g0];refine Fp0 ?_;refine Zc7 5 1 rfl ?_;refine Sp0 ?_;have e0:Zdk l part=Zkd part l 0:=by unfold Zdk Zkd;rw[if_neg hp];rfl
 rw[e0];have hdl:=Z2a (l:=l) hp 0;refine Zaa<|Rp0 [0,1,5,6] ?_;refine Zab ?_;refine Zai (σ:={ x:Nat×List Nat×Nat×Nat//x.1≤l.length∧Zkd part l 0=x.2.1++Zkd part l x.1∧x.2.2.1<x.2.2.2 }) (fun x=>([(0,.sl 1 (sR l)),(1,.sl 1 (sR part)),(5,.own x.1.2.2.1 0 x.1.2.1.length),(6,pI x.1.1)],⟨[(x.1.2.2.1,.arr false 1 (nR x.1.2.1))],x.1.2.2.2⟩)) (fun x=>l.length-x.1.1) ⟨(0,[],0,1),Zyw _,rfl,by simp only[];omega⟩ ?_ ?_ ?_
 ·exact Fn0
 ·try simp only[vmL,nR,List.map_nil]
  all_goals (repeat' (first|rfl|trivial|omega|(simp only[];omega)|refine And.intro ?_ ?_))
 rintro⟨⟨k,D,id,t⟩,hk,hD,hid⟩;simp only[]at hk hD hid⊢;have qq:=N4 id t (t+1) (t+1+1);have hw:=w64 (n:=(k:Int)+(part.length:Int)) (by omega) (by omega);refine Zaa<|Rp1 [0,1,5,6,16] (x3 hA hP hw) ?_;refine Zae rfl (fun h2=>?_) (fun h2=>?_)
 ·have ka:k+part.length≤l.length:=by have h2:=oT h2;omega
  have EQ:=Zhk ((l.drop k).take part.length) part (by rw[Zyh,List.length_drop];omega);rw[Xd3,Xd4]at EQ;have hk2:((k:Int)+(part.length:Int))=((k+part.length:Nat):Int):=by omega
  have hsub:(k+part.length)-k=part.length:=by omega
  have hDl:D.length≤l.length:=by
   have:=congrArg List.length hD;rw[Zx5]at this;omega
  refine Kp0 ?_;refine Zab ?_;refine Zaa ?_;have hw2:IntKind.i64.wrap ((k:Int)+(part.length:Int))=((k+part.length:Nat):Int):=by rw[hw,hk2]
  refine Rp1 [0,1,5,6,26] (x4 hA hP hw2 hsub) ?_;refine⟨⟨by omega,by omega,by omega,by omega⟩,?_⟩;refine Ap0 EQ ?_;by_cases he:(l.drop k).take part.length=part
  ·have hit:=Xay hp ka he;have hDl2:=congrArg List.length hD;rw[Zx5,hit,Zyd]at hDl2;have hnl:(nR D).length=D.length:=Zbw D;have hnt:List.take D.length (nR D)=nR D:=Zss D;have hst:nR (D++[k])=nR D++[[pI k]]:=by unfold nR;rw[List.map_append];rfl
   rw[Zyf he];refine Fp0 ?_;generalize nR D=B at*;refine Rp1 [0,1,5,6] (x3 hnl hnt qq) ?_;refine⟨by omega,by omega,?_⟩;refine rp1 [0,1,5,6] (x3 hP hw2 qq) ?_;refine⟨⟨(k+part.length,D++[k],t+1,t+2),by simp only[];omega,by simp only[];rw[hD,hit,List.append_assoc];rfl,by simp only[];omega⟩,?_⟩;simp only[hst,Zx5,List.length_singleton]
   all_goals exact Fn1 qq
  ·have miss:=Z7i hp ka he;rw[Zyg he];refine Ct ?_;refine Rp1 [0,1,5,6] (ad1 (a:=k) (by omega)) ?_;refine Ep0 ?_;refine⟨⟨(k+1,D,id,t),by simp only[];omega,by simp only[];rw[hD,miss],hid⟩,?_⟩;exact Fn1 qq
 ·have ka:l.length<k+part.length:=by have h2:=oF h2;omega
  rw[Xaz hp ka,Zyj]at hD;rw[hD];refine Ep0 ?_;refine Rp0 [4] ?_;refine Tp0 ?_;exact View.own_all (fz:=false) (by simp[Vh]) (Zbw D).symm
theorem Zq7(w:List Wd)(part:List Str)(nth:Int)(hw:w.length≤100000)(hpl:part.length≤100000)(h0:0≤nth):Tc 190 [.sl 4 (w.map Wd.enc),.sl 1 (sR part),pI nth] (.sl 1 (nR (Zcw w part nth))):=by
 have S:=Zq6 w hw;have F:=Zzt (w.map Wd.text) part (by rw[Zyc];exact hw) hpl;refine Zac ?_ (Zbm _) (CL3 (Za9 _) (Zb9 _) (cI _));unfold Zcw;simp only[];have hLb:=Zzr (w.map Wd.text) part;rw[Zyc]at hLb;generalize Zdk (w.map Wd.text) part=L at*;have hL:=Zbw L;refine Gn (vc:=Y74) [.t 6] Tryz.func190 ?_;simp only[Y74,YY];refine Rp0 [0,1,2] ?_;refine Rp0 [2,7] ?_;refine Zag S ?_;refine Zag F ?_;refine Zaa ?_;by_cases c0:nth=0
 ·have g0:(nth==0)=true:=by rw[beq_iff_eq];exact c0
  refine Zab ?_;refine Zaa (Zad [2,7,12] ?_);simp only[vmL,Nat.reduceEqDiff,g0];refine Ct ?_;refine Rp0 [6] ?_;refine Tp0 ?_;rw[if_pos c0];exact Vr
 have g0:(nth==0)=false:=by rw[beq_eq_false_iff_ne];exact c0
 by_cases c1:(L.length:Int)<nth
 ·have g1:decide ((L.length:Int)<nth)=true:=Zyf c1;refine Zab ?_;refine Zaa (Zad [2,7,12] ?_);simp only[vmL,Nat.reduceEqDiff,g0];refine Cf ?_;refine Rp1 [2,7,16] (x2 hL g1) ?_;refine Ct ?_;refine Rp0 [6] ?_;refine Tp0 ?_;rw[if_neg c0,if_pos c1];exact View.nil _ _
 have g1:decide ((L.length:Int)<nth)=false:=Zyg c1;refine Zab ?_;refine Zaa (Zad [2,7,12] ?_);simp only[vmL,Nat.reduceEqDiff,g0];refine Cf ?_;refine Rp1 [2,7,16] (x2 hL g1) ?_;refine Fp0 ?_;obtain⟨m,rfl⟩:∃m:Nat,nth=((m+1:Nat):Int):=⟨(nth-1).toNat,by omega⟩;have hm:m<L.length:=by omega
 have hw1:=w64 (n:=((m+1:Nat):Int)-1) (by omega) (by omega);have hm1:(((m+1:Nat):Int)-1)=(m:Int):=by omega
 rw[hm1]at hw1;have hs1:m+1-m=1:=by omega
 rw[if_neg c0,if_neg c1];have e:nR ((L.drop ((((m+1:Nat):Int)).toNat-1)).take 1)=((nR L).drop m).take 1:=by
  have e1:(((m+1:Nat):Int)).toNat-1=m:=by omega
  rw[e1];unfold nR;rw[List.map_take,List.map_drop]
 rw[e];generalize nR L=B at*;refine Rp1 [6] (x4 hL hw1 hm1 hs1) ?_;refine⟨⟨by omega,by omega,by omega,by omega⟩,?_⟩;exact Tv0
end Go.Proofs.w
