import Derived.Test.YtldogpfookkbaaaGreatDoorX5
import Derived.Test.YtldogpfookkbaaaGreatDoorShAll
set_option linter.all false
set_option maxRecDepth 20000
set_option maxHeartbeats 0
namespace Go.Proofs.w
open Go Go.VM
def Y37:VC:=(ZR [Yv 2 Yf] (ZR [ZM 3 0,ZO 4 (.bin .lss (.t 3) (.c (.int .i32 48))),ZM 5 4,Yg 6 0 5 false,ZG 7 (.bin .gtr (.t 6) (.c (.int .i32 57))) 5 false,Yh 8 5 7,ZM 2 8] .ret))
def Y38:VC:=(ZR [Yv 2 Yf] (ZR [ZM 3 0,ZO 4 (.bin .lss (.t 3) (.c (.int .i32 65))),ZM 5 4,Yg 6 0 5 false,ZG 7 (.bin .gtr (.t 6) (.c (.int .i32 90))) 5 false,Yh 8 5 7,ZM 2 8] .ret))
def Y39:VC:=(ZR [ZO 2 (.mv (.c (.str []))),ZO 3 (.mv (.c (.str [])))] (ZR [ZM 5 0,ZO 6 (.call 227 [.t 5,(.c (.fn (.func 228) [] []))]),ZM 4 6] (.seq (ZR [ZM 7 4,Yu 8 .lss 7 0] (YC 8 (ZR [ZM 9 0,ZM 2 9,ZO 3 (.mv (.c (.str [])))] .ret) .skip)) (.seq (.region [ZM 10 0,ZM 11 4,ZO 12 (.slice true 0 (.t 10) none (some (.t 11))),ZM 13 0,ZM 14 4,ZO 15 (.slice true 0 (.t 13) (some (.t 14)) none),ZM 2 12,ZM 3 15] true) .ret))))
def Y40:VC:=(ZR [Yv 2 Yf] (ZR [ZM 7 0,Yc 8 196 [7],ZM 6 8,Yp 9 6 0,Yp 10 6 1,ZM 3 9,ZM 4 10] (ZR [ZO 5 (.mv (.c (.fn (.func 197) [] [])))] (ZR [ZM 11 3,ZO 12 (.len true (.t 11)),Yu 13 .geq 12 1,ZM 14 13,Yg 15 3 14 true,ZG 16 (.len true (.t 15)) 14 true,ZG 17 (.bin .leq (.t 16) (Yi 4)) 14 true,Yz 18 14 17,ZM 19 18,Yg 20 3 19 true,ZG 21 (.idx (.t 20) (Yi 0)) 19 true,ZG 22 (.bin .neq (.t 21) (.c (.int .u8 48))) 19 true,Yz 23 19 22,ZM 24 23,Yg 25 4 24 true,ZG 26 (.len true (.t 25)) 24 true,ZG 27 (.bin .leq (.t 26) (Yi 3)) 24 true,Yz 28 24 27,ZM 29 28,Yg 30 4 29 true,Yg 31 5 29 true,ZG 32 (.call 198 [.t 30,.t 31]) 29 true,Yq 33 32 29 true,Yz 34 29 33,ZM 2 34] .ret))))
def Y41:VC:=(ZR [Yv 2 (Yi 0)] (ZR [Yv 3 (Yi 0)] (.seq (.block 0 (.loop (.seq (ZR [ZM 4 3,ZM 5 0,ZO 6 (.len true (.t 5)),Yr 7 .lss 4 6,ZM 8 7,Yg 9 0 8 true,Yg 10 3 8 true,ZG 11 (.idx (.t 9) (.t 10)) 8 true,ZG 12 (.bin .geq (.t 11) (.c (.int .u8 48))) 8 true,Yz 13 8 12,ZM 14 13,Yg 15 0 14 true,Yg 16 3 14 true,ZG 17 (.idx (.t 15) (.t 16)) 14 true,ZG 18 (.bin .leq (.t 17) (.c (.int .u8 57))) 14 true,Yz 19 14 18] (YC 19 .skip (.exit 0))) (.block 1 (.region [ZM 20 3,Yu 21 .add 20 1,ZM 3 21] false))))) (ZR [ZM 22 3,ZM 2 22] .ret))))
def Y42:VC:=(ZR [Yv 2 Yf] (ZR [ZM 5 0,Yc 6 211 [5],ZM 3 6] (.seq (ZR [ZM 7 3,Yu 8 .lss 7 1,ZM 9 8,Yg 10 3 9 false,ZG 11 (.bin .gtr (.t 10) (Yi 4)) 9 false,Yh 12 9 11,ZM 13 12,Yg 14 0 13 false,ZG 15 (.idx (.t 14) (Yi 0)) 13 false,ZG 16 (.bin .eql (.t 15) (.c (.int .u8 48))) 13 false,Yh 17 13 16,ZM 18 17,Yg 19 0 18 false,ZG 20 (.len true (.t 19)) 18 false,Yg 21 3 18 false,ZG 22 (.bin .sub (.t 20) (.t 21)) 18 false,ZG 23 (.bin .gtr (.t 22) (Yi 3)) 18 false,Yh 24 18 23] (YC 24 (ZR [Yv 2 Yf] .ret) .skip)) (.seq (ZR [ZM 25 3,ZM 4 25] (.block 0 (.loop (.seq (ZR [ZM 26 4,ZM 27 0,ZO 28 (.len true (.t 27)),Yr 29 .lss 26 28] (YC 29 .skip (.exit 0))) (.seq (.block 1 (ZR [ZM 32 0,ZM 33 4,ZO 34 (.idx (.t 32) (.t 33)),ZO 35 (.bin .lss (.t 34) (.c (.int .u8 65))),ZM 36 35,Yg 37 0 36 false,Yg 38 4 36 false,ZG 39 (.idx (.t 37) (.t 38)) 36 false,ZG 40 (.bin .gtr (.t 39) (.c (.int .u8 90))) 36 false,Yh 41 36 40] (YC 41 (ZR [Yv 2 Yf] .ret) .skip))) (.region [ZM 30 4,Yu 31 .add 30 1,ZM 4 31] false)))))) (ZR [Yv 2 Yt] .ret)))))
theorem Xak(x:Nat):(!(Zdq isD x))=(decide ((x:Int)<48)||decide ((57:Int)<x)):=by
 by_cases h:x<128
 ·have:(UInt8.ofNat x).toNat=x:=Zn7 (by omega);simp only[Zdq,isD,this,h,decide_true,Zyt,Bool.not_and];by_cases h1:48≤x<;>by_cases h2:x≤57<;>simp[h1,h2]<;>omega
 ·simp only[Zdq,h,decide_false,Bool.false_and,Bool.not_false]
  symm;simp;omega
theorem Xal(x:Nat):(!(Zdq isU x))=(decide ((x:Int)<65)||decide ((90:Int)<x)):=by
 by_cases h:x<128
 ·have:(UInt8.ofNat x).toNat=x:=Zn7 (by omega);simp only[Zdq,isU,this,h,decide_true,Zyt,Bool.not_and];by_cases h1:65≤x<;>by_cases h2:x≤90<;>simp[h1,h2]<;>omega
 ·simp only[Zdq,h,decide_false,Bool.false_and,Bool.not_false]
  symm;simp;omega
theorem Zlh(x:Nat):Tc 228 [.int .i32 x] (.bool (!(Zdq isD x))):=by
 rw[Xak];refine Gp (vc:=Y37) [.t 2] (cB _) Tryz.func228 ?_;simp only[Y37,YY];refine Rp0 [0] ?_;refine Rp0 [2] ?_;refine Za1 rfl (fun g=>?_) (fun g=>?_)
 ·refine Sp1 g ?_;refine Tp0 ?_;rw[Bool.false_or];exact Vr
 ·refine Sp1 g ?_;refine Tp0 ?_;rw[Bool.true_or];exact Vr
theorem Zmr(x:Nat):Tc 197 [.int .i32 x] (.bool (!(Zdq isU x))):=by
 rw[Xal];refine Gp (vc:=Y38) [.t 2] (cB _) Tryz.func197 ?_;simp only[Y38,YY];refine Rp0 [0] ?_;refine Rp0 [2] ?_;refine Za1 rfl (fun g=>?_) (fun g=>?_)
 ·refine Sp1 g ?_;refine Tp0 ?_;rw[Bool.false_or];exact Vr
 ·refine Sp1 g ?_;refine Tp0 ?_;rw[Bool.true_or];exact Vr
theorem Z1p{P:Program}{f:FuncId}{p:Nat→Bool}(H:∀x:Nat,Zgy P f [.int .i32 x] (.bool (p x))){g:Gh}{w:World}(r:Rel g w Heap.nil):PredGrows P f #[] p w:=by
 intro W x _ hb;obtain⟨r',_⟩:=r.below (Zfb r hb) hb;refine((H x).2.2 _ W (#[encR x]++#[]) r' ⟨rfl,fun j hj=>?_⟩).mono ?_
 ·obtain rfl:j=0:=by simp at hj;omega
  exact .int .i32 x
 ·rintro e w' ⟨v,m',rfl,hv,_,hb'⟩;obtain rfl:=hv.bool_inv;exact⟨rfl,hb'⟩
theorem Z6m{g:Gh}{u:Value}{f:FuncId}(h:Rep g u (.fn (.func f) [] [])):u=.func (.func f) #[] #[]:=by
 obtain⟨fs,cs,rfl,h1,h2⟩:=h.fn_inv;have e1:fs=#[]:=Array.eq_empty_of_size_eq_zero h1.1;have e2:cs=#[]:=Array.eq_empty_of_size_eq_zero h2.1;rw[e1,e2]
theorem Zup(s:Str):Tc 227 [.str s,.fn (.func 228) [] []] (pI (if(dgs s).length<s.length then((dgs s).length:Int)else -1)):=by
 refine Zju (by kernel_rfl) (by intro x hx;simp only[Zyb,Zya,or_false]at hx;rcases hx with rfl|rfl;exact cS _;exact Zfr _) fun g w vals r ha=>?_;obtain⟨v,u,rfl,hv,hu⟩:=Zuf ha;obtain⟨z,rfl,hs⟩:=hv.str_inv;obtain rfl:=Z6m hu;rw[Znx hs];refine(Tryz.strings_IndexFunc_grows _ #[] (enters_of Tryz.func228 (by kernel_rfl) rfl) (fun x=>!(Zdq isD x)) _ w (Z1p Zlh r)).mono ?_;rintro e w' ⟨rfl,hb⟩;rw[Z3i];exact⟨_,rfl,fun g=>.int _ _,hb⟩
theorem Zoa(s:Str):Tc 198 [.str s,.fn (.func 197) [] []] (.bool (!(s.all isU))):=by
 refine Zju (by kernel_rfl) (by intro x hx;simp only[Zyb,Zya,or_false]at hx;rcases hx with rfl|rfl;exact cS _;exact Zfr _) fun g w vals r ha=>?_;obtain⟨v,u,rfl,hv,hu⟩:=Zuf ha;obtain⟨z,rfl,hs⟩:=hv.str_inv;obtain rfl:=Z6m hu;rw[Znx hs];refine(Tryz.strings_ContainsFunc_grows _ #[] (enters_of Tryz.func197 (by kernel_rfl) rfl) (fun x=>!(Zdq isU x)) _ w (Z1p Zmr r)).mono ?_;rintro e w' ⟨rfl,hb⟩;rw[Xae];exact⟨_,rfl,fun g=>.bool _,hb⟩
theorem Zg0(s:Str)(hl:s.length≤1000000):Tc 211 [.str s] (pI (dgs s).length):=by
 have hdl:=Z1n s;refine Gp (vc:=Y41) [.t 2] (cI _) Tryz.func211 ?_;simp only[Y41,YY];refine Rp0 [0] ?_;refine Rp0 [0,3] ?_;refine Zaa<|Zab ?_;refine Zai (σ:={ k:Nat//k≤(dgs s).length }) (fun x=>([(0,.str s),(3,pI x.1)],⟨[],0⟩)) (fun x=>s.length-x.1) ⟨0,Zyw _⟩ ?_ ?_ ?_
 ·refine Sp0 ?_;rfl
 ·exact Sc0
 rintro⟨k,hk⟩;simp only[];refine Zaa<|Zc6 (σ:={ b:Bool//b=decide (k<(dgs s).length) }) [0,3,19] (fun b=>[(0,.str s),(3,pI k),(19,.bool b.1)]) ?_ ?_
 ·by_cases c1:k<s.length
  ·have e1:decide ((k:Int)<(s.length:Int))=true:=by simp;omega
   by_cases c2:48≤(s.getD k 0).toNat
   ·have e2:decide ((48:Int)≤((s.getD k 0).toNat:Int))=true:=by simp only[Zx3];omega
    refine Sp1 (x2 e1 e2) ?_;refine Ok ?_;refine⟨⟨decide (((s.getD k 0).toNat:Int)≤57),?_⟩,rfl⟩
    ·by_cases c:k<(dgs s).length
     ·have:=Xcn c;rw[Zyf c,Zx3];omega
     ·obtain rfl:k=(dgs s).length:=by omega
      have:=Xdo c1;rw[Zyg c,Zx2];omega
   ·have e2:decide ((48:Int)≤((s.getD k 0).toNat:Int))=false:=by simp only[Zx2];omega
    have c:¬k<(dgs s).length:=fun c=>c2 (Xcn c).1;refine Sp1 (x2 e1 e2) ?_;refine Ok ?_;exact⟨⟨false,(Zyg c).symm⟩,rfl⟩
  ·have e1:decide ((k:Int)<(s.length:Int))=false:=by simp;omega
   refine Sp1 e1 ?_;exact⟨⟨false,(Vf).symm⟩,rfl⟩
 rintro⟨b,hb⟩;simp only[];refine Zae rfl (fun h1=>?_) (fun h1=>?_)
 ·have c:k<(dgs s).length:=by rw[h1]at hb;exact of_decide_eq_true hb.symm
  refine Kp0 ?_;refine Zab ?_;refine rp1 [0,3] (w64 (n:=(k:Int)+1) (by omega) (by omega)) ?_;refine⟨⟨k+1,c⟩,?_,?_⟩
  ·simp
  ·simp only[];omega
 ·have c:¬k<(dgs s).length:=by rw[h1]at hb;exact of_decide_eq_false hb.symm
  obtain rfl:k=(dgs s).length:=by omega
  refine Ep0 ?_;exact Rv0 [2]
theorem caps_len'(s:Str):(Zfj s).length=s.length-(dgs s).length:=by have:=Zze s;omega
def Z9u(s:Str):Bool:=decide (1≤(dgs s).length)&&decide ((dgs s).length≤4)&&(s.head? !=some 48)&&decide ((Zfj s).length≤3)
theorem Xds(s:Str):may s=(Z9u s&&(Zfj s).all isU):=rfl
theorem Ziz(s:Str)(hl:s.length≤1000000):Tc 171 [.str s] (.bool (may s)):=by
 have hdl:=Z1n s;have hcl:=caps_len' s;refine Gp (vc:=Y42) [.t 2] (cB _) Tryz.func171 ?_;simp only[Y42,YY];refine Rp0 [0] ?_;refine Rp0 [0,3] ?_;refine Zag (Zg0 s hl) ?_;refine Zaa<|Zc6 (σ:={ b:Bool//b= !(Z9u s) }) [0,3,24] (fun b=>[(0,.str s),(3,pI (dgs s).length),(24,.bool b.1)]) ?_ ?_
 ·by_cases c1:(dgs s).length<1
  ·have e1:decide (((dgs s).length:Int)<1)=true:=by simp only[Zx3];omega
   refine Sp1 e1 ?_;exact⟨⟨true,by unfold Z9u;rw[Zyg (show ¬1≤(dgs s).length by omega)];rfl⟩,rfl⟩
  have e1:decide (((dgs s).length:Int)<1)=false:=by simp only[Zx2];omega
  by_cases c2:(dgs s).length>4
  ·have e2:decide ((4:Int)<((dgs s).length:Int))=true:=by simp only[Zx3];omega
   refine Sp1 (x2 e1 e2) ?_;exact⟨⟨true,by unfold Z9u;rw[Zyg (show ¬(dgs s).length≤4 by omega),Bool.and_false];rfl⟩,rfl⟩
  have e2:decide ((4:Int)<((dgs s).length:Int))=false:=by simp only[Zx2];omega
  have hne:s≠[]:=by intro e;subst e;exact c1 (by simp[dgs])
  have hh:=Zun hne;have hp:0<s.length:=by cases s with|nil=>exact absurd rfl hne|cons=>simp
  by_cases c3:(s.getD 0 0).toNat=48
  ·have e3:(((s.getD 0 0).toNat:Int)==48)=true:=by simp only[beq_iff_eq];omega
   simp only[vmL,Nat.reduceEqDiff,reduceCtorEq,e1,e2,e3,Int.toNat_zero];refine Ok ?_;refine⟨⟨true,?_⟩,rfl⟩;rw[Zyf c3]at hh;simp only[Z9u,hh];simp
  have e3:(((s.getD 0 0).toNat:Int)==48)=false:=by rw[beq_eq_false_iff_ne];omega
  simp only[vmL,Nat.reduceEqDiff,reduceCtorEq,e1,e2,e3,Int.toNat_zero,w64 (n:=(s.length:Int)-(dgs s).length) (by omega) (by omega)];refine Ok ?_;refine⟨⟨decide ((3:Int)<(s.length:Int)-(dgs s).length),?_⟩,rfl⟩;rw[Zyg c3]at hh;simp only[Z9u,hh,hcl];rw[Zyf (show 1≤(dgs s).length by omega),Zyf (show(dgs s).length≤4 by omega)];simp only[Zyt,Bool.not_false];by_cases c4:s.length-(dgs s).length≤3
  ·rw[Zyf c4];simp only[Bool.not_true,Zx2];omega
  ·rw[Zyg c4];simp only[Bool.not_false,Zx3];omega
 rintro⟨b,hb⟩;simp only[];refine Zae rfl (fun h1=>?_) (fun h1=>?_)
 ·rw[h1]at hb;refine Rp0 [2] ?_;refine Tp0 ?_;have e:may s=false:=by rw[Xds,show Z9u s=false by cases h:Z9u s;rfl;rw[h]at hb;cases hb];rfl
  rw[e];exact Vr
 rw[h1]at hb;have hA:Z9u s=true:=by cases h:Z9u s;rw[h]at hb;cases hb;rfl
 refine Kp0 ?_;refine Zaa<|Rp0 [0,4] ?_;refine Zab ?_;refine Zai (σ:={ k:Nat//k≤(Zfj s).length∧∀j,j<k→isU ((Zfj s).getD j 0)=true }) (fun x=>([(0,.str s),(4,pI ((dgs s).length+x.1:Nat))],⟨[],0⟩)) (fun x=>(Zfj s).length-x.1) ⟨0,Zyw _,fun j h=>by cases h⟩ ?_ ?_ ?_
 ·exact Sc0
 ·exact Sc0
 rintro⟨k,hk,hall⟩;simp only[];have hgd:=Z6k s k;refine Zaa<|Rp0 [0,4,29] ?_;refine Zae rfl (fun h2=>?_) (fun h2=>?_)
 ·have hk':k<(Zfj s).length:=by have h2:=oT h2;omega
  refine Kp0 ?_;refine Zaa<|Zab ?_;have hsk:(dgs s).length+k<s.length:=by omega
  refine Zc6 (σ:={ b:Bool//b= !(isU ((Zfj s).getD k 0)) }) [0,4,41] (fun b=>[(0,.str s),(4,pI ((dgs s).length+k:Nat)),(41,.bool b.1)]) ?_ ?_
  ·rw[hgd];by_cases c1:(s.getD ((dgs s).length+k) 0).toNat<65
   ·have e1:decide (((s.getD ((dgs s).length+k) 0).toNat:Int)<65)=true:=by simp only[Zx3];omega
    refine Sp1 e1 ?_;refine Ok ?_;exact⟨⟨true,by simp only[isU];rw[Zyg (show ¬65≤(s.getD ((dgs s).length+k) 0).toNat by omega)];rfl⟩,rfl⟩
   ·have e1:decide (((s.getD ((dgs s).length+k) 0).toNat:Int)<65)=false:=by simp only[Zx2];omega
    refine Sp1 e1 ?_;refine Ok ?_;refine⟨⟨decide ((90:Int)<((s.getD ((dgs s).length+k) 0).toNat:Int)),?_⟩,rfl⟩;simp only[isU];rw[Zyf (show 65≤(s.getD ((dgs s).length+k) 0).toNat by omega),Zyt];by_cases c2:(s.getD ((dgs s).length+k) 0).toNat≤90
    ·rw[Zyf c2,Vf];rfl
    ·rw[Zyg c2,Vt];rfl
  rintro⟨b,hb2⟩;simp only[];refine Zae rfl (fun h3=>?_) (fun h3=>?_)
  ·rw[h3]at hb2;refine Rp0 [2] ?_;refine Tp0 ?_;have e:may s=false:=by
    rw[Xds,hA,Zyt];cases h:(Zfj s).all isU with
    |false=>rfl
    |true=>rw[Xco.1 h k hk']at hb2;cases hb2
   rw[e];exact Vr
  rw[h3]at hb2;refine Kp0 ?_;refine rp1 [0,4] (w64 (n:=(((dgs s).length+k:Nat):Int)+1) (by omega) (by omega)) ?_;refine⟨⟨k+1,hk',fun j hj=>?_⟩,?_,?_⟩
  ·by_cases e:j=k
   ·subst e;cases h:isU ((Zfj s).getD j 0);rw[h]at hb2;cases hb2;rfl
   ·exact hall j (by omega)
  ·simp only[pI,PV.int.injEq,true_and];omega
  ·simp only[];omega
 ·have hk':k=(Zfj s).length:=by have h2:=oF h2;omega
  refine Ep0 ?_;refine Rp0 [2] ?_;refine Tp0 ?_;have e:may s=true:=by
   rw[Xds,hA,Zyt,Xco];rw[←hk'];exact hall
  rw[e];exact Vr
theorem Z6n(a b:Str):Closed (.tup [.str a,.str b]):=Zbb (by simp only[Zyb,Zya,or_false,Zyv,forall_eq];exact⟨cS _,cS _⟩)
theorem Zob(s:Str)(hl:s.length≤1000000):Tc 196 [.str s] (.tup [.str (dgs s),.str (Zfj s)]):=by
 have hdl:=Z1n s;have hcl:=caps_len' s;have A:=Zup s;refine Gp (vc:=Y39) [.t 2,.t 3] (Z6n _ _) Tryz.func196 ?_;simp only[Y39,YY];refine Rp0 [0] ?_;refine Rp0 [0,4] ?_;refine Zag A ?_;refine Zaa ?_;rcases Nat.lt_or_ge (dgs s).length s.length with c|c
 ·rw[if_pos c];refine Rp0 [0,4,8] ?_;refine Zae rfl (fun h1=>by simp at h1;omega) (fun h1=>?_);refine Kp0 ?_;refine Zaa (Zaw [2,3] (by simp[Vh]) ?_);simp only[vmL,Nat.reduceEqDiff,reduceCtorEq,Nat.sub_zero];refine Ok ?_;refine Tp0 ?_;have e2:List.take (s.length-(dgs s).length) (List.drop (dgs s).length s)=Zfj s:=by
   rw[Zum,Zyi (by simp)]
  rw[←Z1m,e2];exact Vr
 ·rw[if_neg (by omega)];have e0:Zfj s=[]:=List.eq_nil_of_length_eq_zero (by omega);have e1:dgs s=s:=by have:=Zm7 s;rw[e0,Zyj]at this;exact this
  refine Rp0 [0,4,8] ?_;refine Zae rfl (fun h1=>?_) (fun h1=>by simp at h1);refine Rp0 [2,3] ?_;refine Tp0 ?_;rw[e0,e1];exact Vr
theorem Zfg(s:Str)(hl:s.length≤1000000):Tc 153 [.str s] (.bool (may s)):=by
 have hdl:=Z1n s;have hcl:=caps_len' s;refine Gp (vc:=Y40) [.t 2] (cB _) Tryz.func153 ?_;simp only[Y40,YY];refine Rp0 [0] ?_;refine Rp0 [3,4] ?_;refine Ap0 (Zob s hl) ?_;refine Rp0 [3,4,5] ?_;have A:=Zoa (Zfj s);have fin:∀b,b=may s→View ⟨[],0⟩ (PV.bool b) (.bool (may s)):=fun b e=>by rw[e];exact Vr
 refine Zaa (Zad [2] ?_);by_cases c1:(dgs s).length<1
 ·have e1:decide ((1:Int)≤((dgs s).length:Int))=false:=by simp only[Zx2];omega
  refine Sp1 e1 ?_;refine Tp0 ?_;refine fin _ ?_;unfold may;rw[Zyg (show ¬1≤(dgs s).length by omega)];rfl
 have e1:decide ((1:Int)≤((dgs s).length:Int))=true:=by simp only[Zx3];omega
 by_cases c2:(dgs s).length>4
 ·have e2:decide (((dgs s).length:Int)≤4)=false:=by simp only[Zx2];omega
  refine Sp1 (x2 e1 e2) ?_;refine Tp0 ?_;refine fin _ ?_;unfold may;rw[Zyg (show ¬(dgs s).length≤4 by omega),Bool.and_false];rfl
 have e2:decide (((dgs s).length:Int)≤4)=true:=by simp only[Zx3];omega
 have hne:s≠[]:=by intro e;subst e;exact c1 (by simp[dgs])
 have hh:=Zun hne;have hp:0<s.length:=by cases s with|nil=>exact absurd rfl hne|cons=>simp
 have hd0:(dgs s).getD 0 0=s.getD 0 0:=by
  rw[Z1m,Zx1,List.getElem?_take,if_pos (by omega),←Zx1]
 by_cases c3:(s.getD 0 0).toNat=48
 ·have e3:(((s.getD 0 0).toNat:Int) !=48)=false:=by rw[bne_eq_false_iff_eq];omega
  simp only[vmL,Nat.reduceEqDiff,e1,e2,e3,Int.toNat_zero,hd0];refine Ok ?_;refine Tp0 ?_;refine fin _ ?_;rw[Zyf c3]at hh;unfold may;rw[hh];simp
 have e3:(((s.getD 0 0).toNat:Int) !=48)=true:=by rw[bne_iff_ne];omega
 rw[Zyg c3]at hh;by_cases c4:(Zfj s).length≤3
 ·have e4:decide (((Zfj s).length:Int)≤3)=true:=by simp only[Zx3];omega
  simp only[vmL,Nat.reduceEqDiff,e1,e2,e3,e4,Int.toNat_zero,hd0];refine Ok ?_;refine Ap0 A ?_;refine Tp0 ?_;refine fin _ ?_;unfold may;rw[hh,Zyf (show 1≤(dgs s).length by omega),Zyf (show(dgs s).length≤4 by omega),Zyf c4];simp
 ·have e4:decide (((Zfj s).length:Int)≤3)=false:=by simp only[Zx2];omega
  simp only[vmL,Nat.reduceEqDiff,e1,e2,e3,e4,Int.toNat_zero,hd0];refine Ok ?_;refine Tp0 ?_;refine fin _ ?_;unfold may;rw[Zyg c4];simp
def Y43:VC:=(ZR [Yw 1 8 0,Yv 2 Yf] (.seq (ZR [Ya 3 3 1,Yl 4 3,Yu 5 .lss 4 0,ZM 6 5,Yb 7 3 1 6 false,Yk 8 7 6 false,ZG 9 (.bin .gtr (.t 8) (Yi 7)) 6 false,Yh 10 6 9,ZM 11 10,Yb 12 7 1 11 false,Yk 13 12 11 false,Yd 14 13 11 false,ZG 15 (.bin .gtr (.t 14) (Yi 64)) 11 false,Yh 16 11 15,ZM 17 16,Yb 18 5 1 17 false,Yk 19 18 17 false,ZG 20 (.call 170 [.t 19]) 17 false,Yq 21 20 17 false,Yh 22 17 21,ZM 23 22,Yb 24 6 1 23 false,Yk 25 24 23 false,ZG 26 (.call 170 [.t 25]) 23 false,Yq 27 26 23 false,Yh 28 23 27] (YC 28 (ZR [Yv 2 Yf] .ret) .skip)) (.seq (ZR [Ya 29 3 1,Yl 30 29,Yu 31 .eql 30 0] (YC 31 (ZR [Ya 32 4 1,Yl 33 32,ZO 34 (.bin .eql (.t 33) (.c (.str []))),ZM 35 34,Yb 36 5 1 35 true,Yk 37 36 35 true,Yd 38 37 35 true,ZG 39 (.bin .eql (.t 38) (Yi 0)) 35 true,Yz 40 35 39,ZM 41 40,Yb 42 6 1 41 true,Yk 43 42 41 true,Yd 44 43 41 true,ZG 45 (.bin .eql (.t 44) (Yi 0)) 41 true,Yz 46 41 45,ZM 2 46] .ret) .skip)) (ZR [Ya 47 4 1,Yl 48 47,Yc 49 171 [48],ZM 2 49] .ret))))
def Y44:VC:=(ZR [Yw 1 8 0,Yv 2 Yf] (.seq (ZR [Ya 4 3 1,Yl 5 4,Yu 6 .neq 5 0,ZM 7 6,Yb 8 0 1 7 true,Yj 9 3 8 7 true,ZG 10 (.build [Yo,Yo,Yo] []) 7 true,ZG 11 (.eqs false [.i,.i,.i] (.t 9) (.t 10)) 7 true,Yz 12 7 11] (YC 12 (ZR [Yv 2 Yf] .ret) .skip)) (.seq (ZR [Yv 3 (Yi 0)] (.block 0 (.loop (.seq (ZR [ZM 13 3,Ya 14 7 1,Yl 15 14,Ye 16 15,Yr 17 .lss 13 16] (YC 17 .skip (.exit 0))) (.seq (.block 1 (ZR [Ya 20 7 1,Yl 21 20,ZM 22 3,Yx 23 8 21 22,Ym 24 8 23,Yc 25 70 [24],Yn 26 25] (YC 26 (ZR [Yv 2 Yf] .ret) .skip))) (.region [ZM 18 3,Yu 19 .add 18 1,ZM 3 19] false)))))) (ZR [Yv 2 Yt] .ret))))
theorem Zps{u:Un}(h:SmU u)(hk:u.kids.length≤1000):Tc 112 [.agg u.enc] (.bool (Zl6 u)):=by
 have H:=Zl5 u.head (by have:=h.head.1;omega) (fun w hw=>by have:=h.head.2 w hw;omega);have W:=Zl5 u.words (by have:=h.words.1;omega) (fun w hw=>by have:=h.words.2 w hw;omega);have M:=Ziz u.label (by have:=h.label;omega);have n0:decide (u.kind<0)= !(decide (0≤u.kind)):=by
  by_cases h:0≤u.kind
  ·rw[Zyf h,Vf];rfl
  ·rw[Zyg h,Vt];rfl
 have n7:decide (7<u.kind)= !(decide (u.kind≤7)):=by
  by_cases h:u.kind≤7
  ·rw[Zyf h,Vf];rfl
  ·rw[Zyg h,Vt];rfl
 have n64:decide ((64:Int)<(u.kids.length:Int))= !(decide (u.kids.length≤64)):=by
  by_cases h:u.kids.length≤64
  ·rw[Zyf h,Vf];rfl
  ·rw[Zyg h,Vt];rfl
 unfold Zl6;refine Gp (vc:=Y43) [.t 2] (cB _) Tryz.func112 ?_;simp only[Y43,YY];rw[Un.Zaf];refine Rp0 [1] ?_;refine Zav [(1,.ro [pI u.act,pI u.item,pI u.n,pI u.kind,.str u.label,.sl 4 (u.head.map Wd.enc),.sl 4 (u.words.map Wd.enc),.sl 8 (u.kids.map Un.enc)])] ⟨View.loc (z:=8) (fz:=false) (es:=[[pI u.act,pI u.item,pI u.n,pI u.kind,.str u.label,.sl 4 (u.head.map Wd.enc),.sl 4 (u.words.map Wd.enc),.sl 8 (u.kids.map Un.enc)]]) rfl (by simp) rfl (by simp),trivial⟩ ?_;generalize hEH:u.head.map Wd.enc=EH at H⊢;generalize hEW:u.words.map Wd.enc=EW at W⊢;have lEH:EH.length=u.head.length:=by rw[←hEH,Zyc]
 have lEW:EW.length=u.words.length:=by rw[←hEW,Zyc]
 refine Zaa ?_;cases d0:decide (0≤u.kind)with
 |false=>
  rw[d0]at n0;refine Rp1 [1,28] n0 ?_;refine Ct ?_;exact Rv0 [2]
 |true=>
 rw[d0]at n0;cases d7:decide (u.kind≤7)with
 |false=>
  rw[d7]at n7;refine Rp1 [1,28] (x2 n0 n7) ?_;refine Ct ?_;exact Rv0 [2]
 |true=>
 rw[d7]at n7;cases d64:decide (u.kids.length≤64)with
 |false=>
  rw[d64]at n64;refine Rp1 [1,28] (x4 n0 n7 n64 @xlm) ?_;refine Ct ?_;exact Rv0 [2]
 |true=>
 rw[d64]at n64;cases dh:Zm6 u.head with
 |false=>
  rw[dh]at H;refine Rp1 [1,28] (x4 n0 n7 n64 @xlm) ?_;refine Ap0 H ?_;refine Ct ?_;exact Rv0 [2]
 |true=>
 rw[dh]at H;cases dw:Zm6 u.words with
 |false=>
  rw[dw]at W;refine Rp1 [1,28] (x4 n0 n7 n64 @xlm) ?_;refine Ap0 H ?_;refine Ap0 W ?_;refine Ct ?_;exact Rv0 [2]
 |true=>
 rw[dw]at W;refine Rp1 [1,28] (x4 n0 n7 n64 @xlm) ?_;refine Ap0 H ?_;refine Ap0 W ?_;refine Fp0 ?_;refine Zaa<|Rp0 [1,31] ?_;by_cases hk0:u.kind=0
 ·rw[if_pos hk0];refine Zae rfl (fun _=>?_) (fun h=>by simp[hk0]at h);have zh:((u.head.length:Int)==0)=(u.head.length==0):=by rw[Bool.eq_iff_iff];simp
  have zw:((u.words.length:Int)==0)=(u.words.length==0):=by rw[Bool.eq_iff_iff];simp
  cases e1:u.label==[]with
  |false=>
   refine Zaa (Zad [2] ?_);simp only[vmL,Nat.reduceEqDiff,Nat.reduceAdd,Nat.reduceLeDiff,e1];exact Tv0
  |true=>
  cases e2:u.head.length==0 with
  |false=>
   rw[e2]at zh;refine Zaa (Zad [2] ?_);simp only[vmL,Nat.reduceEqDiff,Nat.reduceAdd,Nat.reduceLeDiff,e1,lEH,lEW,zh];exact Tv0
  |true=>
   rw[e2]at zh;refine Zaa (Zad [2] ?_);simp only[vmL,Nat.reduceEqDiff,Nat.reduceAdd,Nat.reduceLeDiff,e1,lEH,lEW,zh,zw];exact Tv0
 ·rw[if_neg hk0];refine Zae rfl (fun h=>absurd (by simpa using h) hk0) (fun _=>?_);refine Kp0 ?_;refine Rp0 [2] ?_;refine Zag M ?_;exact Tv0
theorem Xam(u:Un):Zl7 u=(((u.kind==0)|| !(decide (idU u=idZ)))&&u.kids.all Zl7):=Zft _ u
theorem idz_eq(a b c:Int):((a==0&&(b==0&&(c==0&&true))) !=false)=decide ((⟨a,b,c⟩:Idt)=idZ):=by
 rw[Bool.eq_iff_iff];simp[idZ]
theorem Zpt{u:Un}(hu:SmT u):Tc 70 [.agg u.enc] (.bool (Zl7 u)):=by
 induction hu with
 | mk u h hk hs ih=>
  rw[Xam];refine Gp (vc:=Y44) [.t 2] (cB _) Tryz.func70 ?_;simp only[Y44,YY];rw[Un.Zaf];refine Rp0 [1] ?_;refine Zav [(1,.ro [pI u.act,pI u.item,pI u.n,pI u.kind,.str u.label,.sl 4 (u.head.map Wd.enc),.sl 4 (u.words.map Wd.enc),.sl 8 (u.kids.map Un.enc)])] ⟨View.loc (z:=8) (fz:=false) (es:=[[pI u.act,pI u.item,pI u.n,pI u.kind,.str u.label,.sl 4 (u.head.map Wd.enc),.sl 4 (u.words.map Wd.enc),.sl 8 (u.kids.map Un.enc)]]) rfl (by simp) rfl (by simp),trivial⟩ ?_;generalize u.head.map Wd.enc=EH;generalize u.words.map Wd.enc=EW;have hid:=idz_eq u.act u.item u.n;generalize hnz:decide ((⟨u.act,u.item,u.n⟩:Idt)=idZ)=nz at hid;have hid2:decide (idU u=idZ)=nz:=hnz;rw[hid2];generalize u.kids=L at hk hs ih⊢;refine Zaa ?_;refine Zaa (Zfa (σ:=Unit) (fun _=>([(1,.ro [pI u.act,pI u.item,pI u.n,pI u.kind,.str u.label,.sl 4 EH,.sl 4 EW,.sl 8 (L.map Un.enc)]),(12,.bool (!((u.kind==0)|| !nz)))],⟨[],1⟩)) ?_ (fun _=>?_))
  ·cases k0:u.kind==0 with
   |false=>
    have k0':(u.kind !=0)=true:=by rw[bne,k0];rfl
    refine rp1 [1,12] (x2 k0' hid) ?_;exact⟨(),by cases nz<;>rfl⟩
   |true=>
    have k0':(u.kind !=0)=false:=by rw[bne,k0];rfl
    refine rp1 [1,12] k0' ?_;exact⟨(),by cases nz<;>rfl⟩
  cases hq:((u.kind==0)|| !nz)with
  |false=>
   refine Ct ?_;exact Rv0 [2]
  |true=>
  refine Fp0 ?_;refine Zaa<|Rp0 [1,3] ?_;refine Zab ?_;refine Zai (σ:={ x:Nat×Nat//x.1≤L.length∧L.all Zl7=(L.drop x.1).all Zl7 }) (fun x=>([(1,.ro [pI u.act,pI u.item,pI u.n,pI u.kind,.str u.label,.sl 4 EH,.sl 4 EW,.sl 8 (L.map Un.enc)]),(3,pI x.1.1)],⟨[],x.1.2⟩)) (fun x=>L.length-x.1.1) ⟨(0,1),Zyw _,rfl⟩ ?_ ?_ ?_
  ·exact Fn0
  ·exact Sc0
  rintro⟨⟨k,t⟩,hkk,hpre⟩;simp only[]at hkk hpre⊢;refine Zaa<|Rp1 [1,3,17] @xlm ?_;refine Zae rfl (fun h1=>?_) (fun h1=>?_)
  ·have ka:k<L.length:=by have h1:=oT h1;omega
   have hd:L.drop k=L[k]::L.drop (k+1):=List.drop_eq_getElem_cons ka;rw[hd,List.all_cons]at hpre;have hrow:(L.map Un.enc).getD k []=L[k].enc:=Zcs ka;have R:=ih _ (Zyl ka);generalize L[k]=v at hpre hrow R;rw[Un.Zaf]at hrow R;refine Kp0 ?_;refine Zaa<|Zab ?_;refine Rp1 [1,3,26] (x2 @xlm hrow) ?_;refine Ok ?_;refine Ap0 R ?_;cases hq:Zl7 v with
   |false=>
    refine Ct ?_;refine Rp0 [2] ?_;refine Tp0 ?_;rw[hpre,hq];exact Vr
   |true=>
    rw[hq,Zyt]at hpre;refine Fp0 ?_;refine rp1 [1,3] (ad1 (a:=k) (by omega)) ?_;refine⟨⟨(k+1,t),ka,hpre⟩,?_⟩;exact Fn0
  ·have ka:k=L.length:=by have h1:=oF h1;omega
   subst ka;rw[List.drop_length]at hpre;refine Ep0 ?_;refine Rp0 [2] ?_;refine Tp0 ?_;rw[hpre];exact Vr
def Y45:VC:=(ZR [Yw 1 8 0,Yv 2 Yf] (.seq (ZR [Ym 5 8 1,Yc 6 112 [5],Yn 7 6] (YC 7 (ZR [Yv 2 Yf] .ret) .skip)) (.seq (ZR [Yv 3 (Yi 0)] (.block 0 (.loop (.seq (ZR [ZM 8 3,Ya 9 7 1,Yl 10 9,Ye 11 10,Yr 12 .lss 8 11] (YC 12 .skip (.exit 0))) (.seq (.block 1 (.seq (.seq (.region [Ya 15 3 1,Yl 16 15,Ya 17 7 1,Yl 18 17,ZM 19 3,Yx 20 8 18 19,Ya 21 3 20,Yl 22 21,Yc 23 113 [16,22],Yn 24 23,ZM 25 24,Yb 26 7 1 25 false,Yk 27 26 25 false,Yg 28 3 25 false,Yy 29 8 27 28 25 false,Yj 30 8 29 25 false,ZG 31 (.call 88 [.t 30]) 25 false,Yq 32 31 25 false,Yh 33 25 32] true) (YC 33 (ZR [Yv 2 Yf] .ret) .skip)) (ZR [Yv 4 (Yi 0)] (.block 2 (.loop (.seq (ZR [ZM 34 4,ZM 35 3,Yr 36 .lss 34 35] (YC 36 .skip (.exit 2))) (.seq (.block 3 (.seq (.region [Ya 39 7 1,Yl 40 39,ZM 41 4,Yx 42 8 40 41,Ya 43 3 42,Yl 44 43,Ya 45 7 1,Yl 46 45,ZM 47 3,Yx 48 8 46 47,Ya 49 3 48,Yl 50 49,Yr 51 .eql 44 50,ZM 52 51,Yb 53 7 1 52 true,Yk 54 53 52 true,Yg 55 4 52 true,Yy 56 8 54 55 52 true,Yb 57 4 56 52 true,Yk 58 57 52 true,Yb 59 7 1 52 true,Yk 60 59 52 true,Yg 61 3 52 true,Yy 62 8 60 61 52 true,Yb 63 4 62 52 true,Yk 64 63 52 true,ZG 65 (.bin .eql (.t 58) (.t 64)) 52 true,Yz 66 52 65] true) (YC 66 (ZR [Yv 2 Yf] .ret) .skip))) (.region [ZM 37 4,Yu 38 .add 37 1,ZM 4 38] false)))))))) (.region [ZM 13 3,Yu 14 .add 13 1,ZM 3 14] false)))))) (ZR [Yv 2 Yt] .ret))))
theorem right_step{p:Int}{L:List Un}{i:Nat}(h:i<L.length):rightL p (L.take i) (L.drop i)=((Zfw p L[i].kind&&rightT L[i])&&((!((L.take i).any fun x=>Zdn x L[i]))&&rightL p (L.take (i+1)) (L.drop (i+1)))):=by
 have hd:L.drop i=L[i]::L.drop (i+1):=List.drop_eq_getElem_cons h;have ht:L.take i++[L[i]]=L.take (i+1):=by rw[List.take_add_one,Zye h];rfl
 rw[hd,rightL,ht]
theorem Z6o{L:List Un}{v:Un}{k:Nat}(h:k<L.length):((L.take (k+1)).any fun x=>Zdn x v)=(((L.take k).any fun x=>Zdn x v)||Zdn L[k] v):=by
 rw[List.take_add_one,Zye h,List.any_append];simp
theorem Zpu{u:Un}(hu:SmT u):Tc 88 [.agg u.enc] (.bool (rightT u)):=by
 induction hu with
 | mk u h hk hs ih=>
  have A:=Zps h hk;rw[Zj0];refine Gp (vc:=Y45) [.t 2] (cB _) Tryz.func88 ?_;simp only[Y45,YY];rw[Un.Zaf]at A⊢;refine Rp0 [1] ?_;refine Zav [(1,.ro [pI u.act,pI u.item,pI u.n,pI u.kind,.str u.label,.sl 4 (u.head.map Wd.enc),.sl 4 (u.words.map Wd.enc),.sl 8 (u.kids.map Un.enc)])] ⟨View.loc (z:=8) (fz:=false) (es:=[[pI u.act,pI u.item,pI u.n,pI u.kind,.str u.label,.sl 4 (u.head.map Wd.enc),.sl 4 (u.words.map Wd.enc),.sl 8 (u.kids.map Un.enc)]]) rfl (by simp) rfl (by simp),trivial⟩ ?_;generalize u.head.map Wd.enc=EH at A⊢;generalize u.words.map Wd.enc=EW at A⊢;generalize Zl6 u=al at A⊢;generalize u.kids=L at hk hs ih A⊢;refine Zaa<|Rp0 [1,7] ?_;refine Ap0 A ?_;cases al with
  |false=>
   refine Ct ?_;exact Rv0 [2]
  |true=>
  refine Fp0 ?_;refine Zaa<|Rp0 [1,3] ?_;refine Zab ?_;refine Zai (σ:={ x:Nat×Nat//x.1≤L.length∧rightL u.kind [] L=rightL u.kind (L.take x.1) (L.drop x.1) }) (fun x=>([(1,.ro [pI u.act,pI u.item,pI u.n,pI u.kind,.str u.label,.sl 4 EH,.sl 4 EW,.sl 8 (L.map Un.enc)]),(3,pI x.1.1)],⟨[],x.1.2⟩)) (fun x=>L.length-x.1.1) ⟨(0,1),Zyw _,rfl⟩ ?_ ?_ ?_
  ·exact Fn0
  ·exact Sc0
  rintro⟨⟨i,t⟩,hii,hpre⟩;simp only[]at hii hpre⊢;refine Zaa<|Rp1 [1,3,12] @xlm ?_;refine Zae rfl (fun h1=>?_) (fun h1=>?_)
  ·have ia:i<L.length:=by have h1:=oT h1;omega
   rw[right_step ia]at hpre;have hrow:(L.map Un.enc).getD i []=L[i].enc:=Zcs ia;have R:=ih _ (Zyl ia);generalize hv:L[i]=v at hpre hrow R;rw[Un.Zaf]at hrow R;have N:=Zpq u.kind v.kind;refine Kp0 ?_;refine Zaa<|Zab ?_;refine Zaa ?_;have fin:∀b,b=rightL u.kind [] L→View ⟨[],t⟩ (PV.bool b) (.bool (rightL u.kind [] L)):=fun b e=>by rw[e];exact Vr
   have fin2:∀{t:Nat} (b:Bool),b=rightL u.kind [] L→View ⟨[],t⟩ (PV.bool b) (.bool (rightL u.kind [] L)):=fun b e=>by rw[e];exact Vr
   cases hnst:Zfw u.kind v.kind with
   |false=>
    rw[hnst]at N hpre;refine Zaa (Zaw [1,3,33] (by simp[Vh]) ?_);refine Sp1 (x2 @xlm hrow) ?_;refine⟨⟨by omega,by omega⟩,_,.inl N,?_⟩;try simp only[vmL,Nat.reduceEqDiff]
    repeat (first|refine⟨fun h=>h.elim,?_⟩|refine⟨PV.undef,fun h=>h.elim,?_⟩)
    skip
    refine Ct ?_;refine Rp0 [2] ?_;refine Tp0 ?_;exact fin _ (by rw[hpre];rfl)
   |true=>
   rw[hnst]at N hpre;cases hrt:rightT v with
   |false=>
    rw[hrt]at R hpre;refine Zaa (Zaw [1,3,33] (by simp[Vh]) ?_);refine Sp1 (x2 @xlm hrow) ?_;refine⟨⟨by omega,by omega⟩,_,.inl N,?_⟩;refine Sp1 (x2 @xlm hrow) ?_;refine⟨⟨by omega,by omega⟩,_,.inl R,?_⟩;refine Sp0 ?_;refine Ct ?_;refine Rp0 [2] ?_;refine Tp0 ?_;exact fin _ (by rw[hpre];rfl)
   |true=>
   rw[hrt]at R hpre;rw[Zyt,Zyt]at hpre;refine Zaa (Zaw [1,3,33] (by simp[Vh]) ?_);refine Sp1 (x2 @xlm hrow) ?_;refine⟨⟨by omega,by omega⟩,_,.inl N,?_⟩;refine Sp1 (x2 @xlm hrow) ?_;refine⟨⟨by omega,by omega⟩,_,.inl R,?_⟩;refine Sp0 ?_;refine Fp0 ?_;refine Rp0 [1,3,4] ?_;refine Zab ?_;refine Zai (σ:={ x:Nat×Nat//x.1≤i∧((L.take x.1).any fun x=>Zdn x v)=false }) (fun x=>([(1,.ro [pI u.act,pI u.item,pI u.n,pI u.kind,.str u.label,.sl 4 EH,.sl 4 EW,.sl 8 (L.map Un.enc)]),(3,pI i),(4,pI x.1.1)],⟨[],x.1.2⟩)) (fun x=>i-x.1.1) ⟨(0,t),Zyw _,rfl⟩ ?_ ?_ ?_
   ·exact Fn0
   ·exact Sc0
   rintro⟨⟨k,t2⟩,hkk,hdis⟩;simp only[]at hkk hdis⊢;refine Zaa<|Rp0 [1,3,4,36] ?_;refine Zae rfl (fun h2=>?_) (fun h2=>?_)
   ·have ki:k<i:=by have h2:=oT h2;omega
    have ka:k<L.length:=by omega
    have hss:=Z6o (v:=v) ka;rw[hdis,Bool.false_or]at hss;have hrk:(L.map Un.enc).getD k []=L[k].enc:=Zcs ka;have hmem:((L.take i).any fun x=>Zdn x v)=true∨Zdn L[k] v=false:=by
     cases hs:Zdn L[k] v with
     |false=>exact .inr rfl
     |true=>exact .inl (List.any_eq_true.2 ⟨L[k],List.mem_take_iff_getElem.2 ⟨k,by omega,rfl⟩,hs⟩)
    generalize L[k]=w at hss hrk hmem;rw[Un.Zaf]at hrk;refine Kp0 ?_;refine Zaa<|Zab ?_;refine Zaa (Zfa (σ:=Unit) (fun _=>([(1,.ro [pI u.act,pI u.item,pI u.n,pI u.kind,.str u.label,.sl 4 EH,.sl 4 EW,.sl 8 (L.map Un.enc)]),(3,pI i),(4,pI k),(66,.bool (Zdn w v))],⟨[],t2⟩)) ?_ (fun _=>?_))
    ·unfold Zdn;cases e1:w.kind==v.kind with
     |false=>
      refine Zaw [1,3,4,66] (by simp[Vh]) ?_;simp only[vmL,Nat.reduceEqDiff,Nat.reduceAdd,Nat.reduceLeDiff,Zyc,hrow,hrk,e1];refine⟨⟨by omega,by omega⟩,⟨by omega,by omega⟩,?_⟩
      skip
      exact⟨(),by first|trivial|rfl⟩
     |true=>
      refine Zaw [1,3,4,66] (by simp[Vh]) ?_;refine Sp1 (x4 @xlm hrow hrk e1) ?_;refine⟨⟨by omega,by omega⟩,⟨by omega,by omega⟩,⟨by omega,by omega⟩,⟨by omega,by omega⟩,?_⟩
      skip
      exact⟨(),by first|trivial|rfl⟩
    cases hs:Zdn w v with
    |true=>
     refine Ct ?_;refine Rp0 [2] ?_;refine Tp0 ?_;rcases hmem with hm|hm
     ·rw[hm]at hpre;exact fin2 _ (by rw[hpre];rfl)
     ·rw[hs]at hm;cases hm
    |false=>
     rw[hs]at hss;refine Fp0 ?_;refine rp1 [1,3,4] (ad1 (a:=k) (by omega)) ?_;refine⟨⟨(k+1,t2),by show k+1≤i;omega,hss⟩,?_⟩;exact Fn0
   ·have ki:k=i:=by have h2:=oF h2;omega
    subst ki;rw[hdis,Bool.not_false,Zyt]at hpre;refine Ep0 ?_;refine rp1 [1,3] (ad1 (a:=k) (by omega)) ?_;refine⟨⟨(k+1,t2),ia,hpre⟩,?_⟩;exact Fn0
  ·have ka:i=L.length:=by have h1:=oF h1;omega
   subst ka;rw[List.drop_length,rightL]at hpre;refine Ep0 ?_;refine Rp0 [2] ?_;refine Tp0 ?_;rw[hpre];exact Vr
def Y46:VC:=(ZR [Yw 1 8 0,Yv 2 (Yi 0)] (ZR [Yv 3 (Yi 0)] (.seq (ZR [Ya 6 7 1,Yl 7 6,Ye 8 7,Yv 9 (Yi 0)] (.block 0 (.loop (ZR [Yr 10 .lss 9 8] (.seq (YC 10 .skip (.exit 0)) (.seq (.block 1 (ZR [Yx 11 8 7 9,Ym 12 8 11,ZO 5 (.alloc ZU),Ys 8 5 12] (.region [ZM 13 3,Ym 14 8 5,Yc 15 179 [14],ZO 16 (.bin .add (Yi 1) (.t 15)),ZO 17 (.mm true [.t 13,.t 16]),ZM 3 17] false))) (.region [Yu 18 .add 9 1,ZM 9 18] false))))))) (ZR [ZM 19 3,ZM 2 19] .ret))))
def Y47:VC:=(ZR [Yw 1 8 0,Yv 2 (Yi 0)] (ZR [Yv 3 (Yi 0)] (.seq (ZR [Yv 4 (Yi 0)] (.block 0 (.loop (.seq (ZR [ZM 5 4,Ya 6 7 1,Yl 7 6,Ye 8 7,Yr 9 .lss 5 8] (YC 9 .skip (.exit 0))) (.seq (.block 1 (.region [ZM 12 3,Ya 13 7 1,Yl 14 13,ZM 15 4,Yx 16 8 14 15,Ym 17 8 16,Yc 18 89 [17],ZO 19 (.bin .add (Yi 1) (.t 18)),ZO 20 (.mm true [.t 12,.t 19]),ZM 3 20] false)) (.region [ZM 10 4,Yu 11 .add 10 1,ZM 4 11] false)))))) (ZR [ZM 21 3,ZM 2 21] .ret))))
def Y48:VC:=(ZR [Yw 1 8 0,Yv 2 (Yi 0)] (ZR [Yv 3 (Yi 1)] (.seq (ZR [Yv 4 (Yi 0)] (.block 0 (.loop (.seq (ZR [ZM 5 4,Ya 6 7 1,Yl 7 6,Ye 8 7,Yr 9 .lss 5 8] (YC 9 .skip (.exit 0))) (.seq (.block 1 (.region [ZM 12 3,Ya 13 7 1,Yl 14 13,ZM 15 4,Yx 16 8 14 15,Ym 17 8 16,Yc 18 90 [17],Yr 19 .add 12 18,ZM 3 19] false)) (.region [ZM 10 4,Yu 11 .add 10 1,ZM 4 11] false)))))) (ZR [ZM 20 3,ZM 2 20] .ret))))
def Y49:VC:=(ZR [Yw 1 8 0,ZO 2 (.mv (.c .nilsl))] (ZR [Ya 5 0 1,Ym 6 3 5,ZO 7 (.bslice 3 1 [Yo,Yo,Yo] [(0,(.t 6))]),ZM 3 7] (.seq (ZR [Yv 4 (Yi 0)] (.block 0 (.loop (.seq (ZR [ZM 8 4,Ya 9 7 1,Yl 10 9,Ye 11 10,Yr 12 .lss 8 11] (YC 12 .skip (.exit 0))) (.seq (.block 1 (.region [ZM 15 3,Ya 16 7 1,Yl 17 16,ZM 18 4,Yx 19 8 17 18,Ym 20 8 19,Yc 21 114 [20],ZO 22 (.app 3 24 [Yo,Yo,Yo] false (.t 15) (.t 21)),ZM 3 22] false)) (.region [ZM 13 4,Yu 14 .add 13 1,ZM 4 14] false)))))) (ZR [ZM 23 3,ZM 2 23] .ret))))
theorem Zpv{u:Un}(hu:SmT u)(hn:(unitsT u).length≤1000):Tc 89 [.agg u.enc] (pI (depthT u)):=by
 induction hu with
 | mk u h hk hs ih=>
  have hb:∀k∈u.kids,1+depthT k≤1000:=fun k hk'=>by have:=Zjw (hs k hk');have:=Zbk hk';rw[Zap,Zyd]at hn;omega
  have ih':∀k∈u.kids,Tc 89 [.agg k.enc] (pI (depthT k)):=fun k hk'=>ih k hk' (by have:=Zbk hk';rw[Zap,Zyd]at hn;omega);rw[Zha];refine Gp (vc:=Y47) [.t 2] (cI _) Tryz.func89 ?_;simp only[Y47,YY];rw[Un.Zaf];refine Rp0 [1] ?_;refine Zav [(1,.ro [pI u.act,pI u.item,pI u.n,pI u.kind,.str u.label,.sl 4 (u.head.map Wd.enc),.sl 4 (u.words.map Wd.enc),.sl 8 (u.kids.map Un.enc)])] ⟨View.loc (z:=8) (fz:=false) (es:=[[pI u.act,pI u.item,pI u.n,pI u.kind,.str u.label,.sl 4 (u.head.map Wd.enc),.sl 4 (u.words.map Wd.enc),.sl 8 (u.kids.map Un.enc)]]) rfl (by simp) rfl (by simp),trivial⟩ ?_;generalize u.head.map Wd.enc=EH;generalize u.words.map Wd.enc=EW;generalize u.kids=L at hk hb ih'⊢;refine Rp0 [1,3] ?_;refine Zaa<|Rp0 [1,3,4] ?_;refine Zab ?_;refine Zai (σ:={ x:Nat×Nat//x.1≤L.length }) (fun x=>([(1,.ro [pI u.act,pI u.item,pI u.n,pI u.kind,.str u.label,.sl 4 EH,.sl 4 EW,.sl 8 (L.map Un.enc)]),(3,pI ((L.take x.1.1).foldl dpF 0:Nat)),(4,pI x.1.1)],⟨[],x.1.2⟩)) (fun x=>L.length-x.1.1) ⟨(0,1),Zyw _⟩ ?_ ?_ ?_
  ·exact Fn0
  ·exact Sc0
  rintro⟨⟨k,t⟩,hkk⟩;simp only[]at hkk⊢;refine Zaa<|Rp1 [1,3,4,9] @xlm ?_;refine Zae rfl (fun h1=>?_) (fun h1=>?_)
  ·have ka:k<L.length:=by have h1:=oT h1;omega
   have hst:=Z1l ka;have hrow:(L.map Un.enc).getD k []=L[k].enc:=Zcs ka;have R:=ih' _ (Zyl ka);have hkb:=hb _ (Zyl ka);have hd:=Z1k (L.take k) 0 1000 (by omega) (fun x hx=>hb x (List.mem_of_mem_take hx));generalize L[k]=v at hst hrow R hkb;generalize(L.take k).foldl dpF 0=D at hst hd⊢;rw[Un.Zaf]at hrow R;generalize depthT v=dv at hst R hkb;refine Kp0 ?_;refine Zaa<|Zab ?_;refine rp1 [1,3,4] (x2 @xlm hrow) ?_;refine Ok ?_;refine Ap1 R (w64 (n:=(1:Int)+dv) (by omega) (by omega)) ?_;have e:(if(1:Int)+dv>D then(1:Int)+dv else(D:Int))=((max D (1+dv):Nat):Int):=by split<;>omega
   rw[e];refine rp1 [1,3,4] (ad1 (a:=k) (by omega)) ?_;refine⟨⟨(k+1,t),ka⟩,?_⟩;simp only[hst]
   all_goals exact Fn0
  ·have ka:k=L.length:=by have h1:=oF h1;omega
   subst ka;rw[List.take_length];refine Ep0 ?_;exact Rv0 [2]
theorem Zj1{u:Un}(hu:SmT u)(hn:(unitsT u).length≤1000):Tc 179 [.agg u.enc] (pI (depthT u)):=by
 induction hu with
 | mk u h hk hs ih=>
  have hb:∀k∈u.kids,1+depthT k≤1000:=fun k hk'=>by have:=Zjw (hs k hk');have:=Zbk hk';rw[Zap,Zyd]at hn;omega
  have ih':∀k∈u.kids,Tc 179 [.agg k.enc] (pI (depthT k)):=fun k hk'=>ih k hk' (by have:=Zbk hk';rw[Zap,Zyd]at hn;omega);rw[Zha];refine Gp (vc:=Y46) [.t 2] (cI _) Tryz.func179 ?_;simp only[Y46,YY];rw[Un.Zaf];refine Rp0 [1] ?_;refine Zav [(1,.ro [pI u.act,pI u.item,pI u.n,pI u.kind,.str u.label,.sl 4 (u.head.map Wd.enc),.sl 4 (u.words.map Wd.enc),.sl 8 (u.kids.map Un.enc)])] ⟨View.loc (z:=8) (fz:=false) (es:=[[pI u.act,pI u.item,pI u.n,pI u.kind,.str u.label,.sl 4 (u.head.map Wd.enc),.sl 4 (u.words.map Wd.enc),.sl 8 (u.kids.map Un.enc)]]) rfl (by simp) rfl (by simp),trivial⟩ ?_;generalize u.head.map Wd.enc=EH;generalize u.words.map Wd.enc=EW;generalize u.kids=L at hk hb ih'⊢;refine Rp0 [1,3] ?_;refine Zaa<|Rp1 [3,7,8,9] @xlm ?_;refine Zab ?_;refine Zai (σ:={ x:Nat×Nat//x.1≤L.length }) (fun x=>([(3,pI ((L.take x.1.1).foldl dpF 0:Nat)),(7,.sl 8 (L.map Un.enc)),(8,pI L.length),(9,pI x.1.1)],⟨[],x.1.2⟩)) (fun x=>L.length-x.1.1) ⟨(0,1),Zyw _⟩ ?_ ?_ ?_
  ·exact Fn0
  ·exact Sc0
  rintro⟨⟨k,t⟩,hkk⟩;simp only[]at hkk⊢;refine Rp0 [3,7,8,9,10] ?_;refine Zaa<|Zae rfl (fun h1=>?_) (fun h1=>?_)
  ·have ka:k<L.length:=by have h1:=oT h1;omega
   have hst:=Z1l ka;have hrow:(L.map Un.enc).getD k []=L[k].enc:=Zcs ka;have R:=ih' _ (Zyl ka);have hkb:=hb _ (Zyl ka);have hd:=Z1k (L.take k) 0 1000 (by omega) (fun x hx=>hb x (List.mem_of_mem_take hx));generalize L[k]=v at hst hrow R hkb;generalize(L.take k).foldl dpF 0=D at hst hd⊢;rw[Un.Zaf]at hrow R;generalize depthT v=dv at hst R hkb;refine Kp0 ?_;refine Zaa<|Zab ?_;refine Rp1 [3,5,7,8,9] (x2 @xlm hrow) ?_;refine Ok ?_;refine rp0 [3,7,8,9] ?_;refine Ap1 R (w64 (n:=(1:Int)+dv) (by omega) (by omega)) ?_;have e:(if(1:Int)+dv>D then(1:Int)+dv else(D:Int))=((max D (1+dv):Nat):Int):=by split<;>omega
   rw[e];refine rp1 [3,7,8,9] (ad1 (a:=k) (by omega)) ?_;refine⟨⟨(k+1,t+1),ka⟩,?_⟩;simp only[hst]
   all_goals exact Fn0
  ·have ka:k=L.length:=by have h1:=oF h1;omega
   subst ka;rw[List.take_length];refine Ep0 ?_;exact Rv0 [2]
theorem Zpw{u:Un}(hu:SmT u)(hn:(unitsT u).length≤1000):Tc 90 [.agg u.enc] (pI (unitsT u).length):=by
 induction hu with
 | mk u h hk hs ih=>
  rw[Zap,Zyd]at hn⊢;have ih':∀k∈u.kids,Tc 90 [.agg k.enc] (pI (unitsT k).length):=fun k hk'=>ih k hk' (by have:=Zbk hk';omega);refine Gp (vc:=Y48) [.t 2] (cI _) Tryz.func90 ?_;simp only[Y48,YY];rw[Un.Zaf];refine Rp0 [1] ?_;refine Zav [(1,.ro [pI u.act,pI u.item,pI u.n,pI u.kind,.str u.label,.sl 4 (u.head.map Wd.enc),.sl 4 (u.words.map Wd.enc),.sl 8 (u.kids.map Un.enc)])] ⟨View.loc (z:=8) (fz:=false) (es:=[[pI u.act,pI u.item,pI u.n,pI u.kind,.str u.label,.sl 4 (u.head.map Wd.enc),.sl 4 (u.words.map Wd.enc),.sl 8 (u.kids.map Un.enc)]]) rfl (by simp) rfl (by simp),trivial⟩ ?_;generalize u.head.map Wd.enc=EH;generalize u.words.map Wd.enc=EW;generalize u.kids=L at hk hn ih'⊢;refine Rp0 [1,3] ?_;refine Zaa<|Rp0 [1,3,4] ?_;refine Zab ?_;refine Zai (σ:={ x:Nat×Nat//x.1≤L.length }) (fun x=>([(1,.ro [pI u.act,pI u.item,pI u.n,pI u.kind,.str u.label,.sl 4 EH,.sl 4 EW,.sl 8 (L.map Un.enc)]),(3,pI ((unitsL (L.take x.1.1)).length+1:Nat)),(4,pI x.1.1)],⟨[],x.1.2⟩)) (fun x=>L.length-x.1.1) ⟨(0,1),Zyw _⟩ ?_ ?_ ?_
  ·refine Sp0 ?_;simp[unitsL]
  ·exact Sc0
  rintro⟨⟨k,t⟩,hkk⟩;simp only[]at hkk⊢;refine Zaa<|Rp1 [1,3,4,9] @xlm ?_;refine Zae rfl (fun h1=>?_) (fun h1=>?_)
  ·have ka:k<L.length:=by have h1:=oT h1;omega
   have hst:=Zex ka;have htk:=Zey L (k+1);have hrow:(L.map Un.enc).getD k []=L[k].enc:=Zcs ka;have R:=ih' _ (Zyl ka);rw[hst,Zx5]at htk;generalize L[k]=v at hst hrow R htk;rw[Un.Zaf]at hrow R;have hst':(unitsL (L.take (k+1))).length+1=(unitsL (L.take k)).length+1+(unitsT v).length:=by
    have:=congrArg List.length hst;rw[Zx5]at this;omega
   generalize(unitsL (L.take k)).length=A at hst' htk⊢;generalize(unitsT v).length=B at hst' htk R;refine Kp0 ?_;refine Zaa<|Zab ?_;refine rp1 [1,3,4] (x2 @xlm hrow) ?_;refine Ok ?_;refine Ap1 R (w64 (n:=((A+1:Nat):Int)+(B:Int)) (by omega) (by omega)) ?_;refine rp1 [1,3,4] (ad1 (a:=k) (by omega)) ?_;refine⟨⟨(k+1,t),ka⟩,?_⟩;have e:((A+1:Nat):Int)+(B:Int)=((A+1+B:Nat):Int):=by omega
   simp only[hst',e]
   all_goals exact Fn0
  ·have ka:k=L.length:=by have h1:=oF h1;omega
   subst ka;rw[List.take_length];refine Ep0 ?_;exact Rv0 [2]
def idK(u:Un)(L:List Un)(k:Nat):List Idt:=idU u::(unitsL (L.take k)).map idU
theorem Zuq{u:Un}(hu:SmT u)(hn:(unitsT u).length≤1000):Tc 114 [.agg u.enc] (.sl 3 ((Zbc u).map Idt.enc)):=by
 induction hu with
 | mk u h hk hs ih=>
  rw[Zap,Zyd]at hn;rw[Zld];have ih':∀k∈u.kids,Tc 114 [.agg k.enc] (.sl 3 ((Zbc k).map Idt.enc)):=fun k hk'=>ih k hk' (by have:=Zbk hk';omega);have hidu:(idU u).enc=[pI u.act,pI u.item,pI u.n]:=rfl;refine Gp (vc:=Y49) [.t 2] (Zhy _) Tryz.func114 ?_;simp only[Y49,YY];rw[Un.Zaf];refine Rp0 [1,2] ?_;refine Zav [(1,.ro [pI u.act,pI u.item,pI u.n,pI u.kind,.str u.label,.sl 4 (u.head.map Wd.enc),.sl 4 (u.words.map Wd.enc),.sl 8 (u.kids.map Un.enc)])] ⟨View.loc (z:=8) (fz:=false) (es:=[[pI u.act,pI u.item,pI u.n,pI u.kind,.str u.label,.sl 4 (u.head.map Wd.enc),.sl 4 (u.words.map Wd.enc),.sl 8 (u.kids.map Un.enc)]]) rfl (by simp) rfl (by simp),trivial⟩ ?_;generalize u.head.map Wd.enc=EH;generalize u.words.map Wd.enc=EW;refine Rp0 [1,3] ?_;generalize u.kids=L at hk hn ih'⊢;refine Zaa<|Rp0 [1,3,4] ?_;refine Zab ?_;refine Zai (σ:={ x:Nat×Nat×Nat//x.1≤L.length∧x.2.1<x.2.2 }) (fun x=>([(1,.ro [pI u.act,pI u.item,pI u.n,pI u.kind,.str u.label,.sl 4 EH,.sl 4 EW,.sl 8 (L.map Un.enc)]),(3,.own x.1.2.1 0 (idK u L x.1.1).length),(4,pI x.1.1)],⟨[(x.1.2.1,.arr false 3 ((idK u L x.1.1).map Idt.enc))],x.1.2.2⟩)) (fun x=>L.length-x.1.1) ⟨(0,1,2),Zyw _,by simp⟩ ?_ ?_ ?_
  ·refine Sp0 ?_;simp[idK,unitsL]
  ·refine Sp0 ?_;simp[idK,unitsL,hidu]
  rintro⟨⟨k,id,t⟩,hkk,hid⟩;simp only[]at hkk hid⊢;have qq:=N4 id t (t+1) (t+1+1);refine Zaa<|Rp1 [1,3,4,12] (x2 @xlm qq) ?_;refine Zae rfl (fun h1=>?_) (fun h1=>?_)
  ·have ka:k<L.length:=by have h1:=oT h1;omega
   have hst:=Zex ka;have htk:=Zey L (k+1);have hrow:(L.map Un.enc).getD k []=L[k].enc:=Zcs ka;have R:=ih' _ (Zyl ka);have hkl:=Zbk (Zyl ka);rw[hst,Zx5]at htk;have hst':idK u L (k+1)=idK u L k++Zbc L[k]:=by
    unfold idK Zbc;rw[hst,List.map_append];rfl
   have hAl:(idK u L k).length=(unitsL (L.take k)).length+1:=by unfold idK;simp
   have hBl:(Zbc L[k]).length=(unitsT L[k]).length:=by unfold Zbc;simp
   generalize L[k]=v at hst' hrow R htk hBl hkl;rw[Un.Zaf]at hrow R;generalize idK u L k=A at hst' hAl⊢;generalize Zbc v=B at hst' R hBl;have hale:(A.map Idt.enc).length=A.length:=Zyc _;have hatk:List.take A.length (A.map Idt.enc)=A.map Idt.enc:=Zyi (by omega);refine Kp0 ?_;refine Zaa<|Zab ?_;refine rp1 [1,3,4] (x3 @xlm hrow qq) ?_;refine Ok ?_;refine Ap1 R (x4 @xlm hale hatk qq) ?_;refine⟨by omega,by omega,?_⟩;refine rp1 [1,3,4] (x2 (ad1 (a:=k) (by omega)) qq) ?_;refine⟨⟨(k+1,t,t+1),ka,Nat.lt_succ_self _⟩,⟨?_,rfl⟩,⟨Nat.le_refl _,?_⟩,by show L.length-(k+1)<L.length-k;omega⟩
   ·show PV.own t 0 (A.length+B.length)=PV.own t 0 (idK u L (k+1)).length;rw[hst',Zx5]
   ·show(if t=t then some (AB.arr false 3 (A.map Idt.enc++B.map Idt.enc))else none)=some (AB.arr false 3 ((idK u L (k+1)).map Idt.enc));rw[if_pos rfl,hst',List.map_append]
  ·have ka:k=L.length:=by have h1:=oF h1;omega
   subst ka;have e:idK u L L.length=idU u::(unitsL L).map idU:=by unfold idK;rw[List.take_length]
   rw[e];refine Ep0 ?_;refine Rp1 [2] qq ?_;refine Tp0 ?_;exact View.own_all (fz:=false) (by simp[Vh]) (by simp)
def Y50:VC:=(ZR [Yw 1 8 0,Yv 2 Yf] (ZR [Ym 8 8 1,Yc 9 114 [8],ZM 3 9] (ZR [Yv 4 Yt] (.seq (ZR [Yv 5 (Yi 0)] (.block 0 (.loop (.seq (ZR [ZM 10 5,ZM 11 3,Ye 12 11,Yr 13 .lss 10 12] (YC 13 .skip (.exit 0))) (.seq (.block 1 (.region [ZM 16 4,ZM 17 16,Yg 18 3 17 true,Yg 19 5 17 true,Yy 20 3 18 19 17 true,Yj 21 3 20 17 true,ZG 22 (.build [Yo,Yo,Yo] []) 17 true,ZG 23 (.eqs false [.i,.i,.i] (.t 21) (.t 22)) 17 true,Yz 24 17 23,ZM 4 24] false)) (.region [ZM 14 5,Yu 15 .add 14 1,ZM 5 15] false)))))) (.seq (ZR [ZM 25 4] (YC 25 (ZR [Yv 2 Yt] .ret) .skip)) (.seq (.seq (.region [ZM 26 3,ZO 27 (.iaddr 3 (.t 26) (Yi 0)),Ym 28 3 27,ZO 29 (.build [Yo,Yo,Yo] []),ZO 30 (.eqs false [.i,.i,.i] (.t 28) (.t 29)),Ya 31 3 1,Yl 32 31,Yu 33 .eql 32 0,ZO 34 (.binb .neq (.t 30) (.t 33))] true) (YC 34 (ZR [Yv 2 Yf] .ret) .skip)) (.seq (ZR [Yv 6 (Yi 0)] (.block 2 (.loop (.seq (ZR [ZM 35 6,ZM 36 3,Ye 37 36,Yr 38 .lss 35 37] (YC 38 .skip (.exit 2))) (.seq (.block 3 (ZR [Yv 7 (Yi 0)] (.block 4 (.loop (.seq (ZR [ZM 41 7,ZM 42 6,Yr 43 .lss 41 42] (YC 43 .skip (.exit 4))) (.seq (.block 5 (.seq (.region [ZM 46 3,ZM 47 7,Yx 48 3 46 47,Ym 49 3 48,ZM 50 3,ZM 51 6,Yx 52 3 50 51,Ym 53 3 52,ZO 54 (.eqs false [.i,.i,.i] (.t 49) (.t 53))] true) (YC 54 (ZR [Yv 2 Yf] .ret) .skip))) (.region [ZM 44 7,Yu 45 .add 44 1,ZM 7 45] false))))))) (.region [ZM 39 6,Yu 40 .add 39 1,ZM 6 40] false)))))) (ZR [Yv 2 Yt] .ret))))))))
def Y51:VC:=(ZR [Yw 1 8 0,Yv 2 Yf] (ZR [Ym 3 8 1,Yc 4 88 [3],ZM 5 4,Yj 6 8 1 5 true,ZG 7 (.call 89 [.t 6]) 5 true,ZG 8 (.bin .leq (.t 7) (Yi 8)) 5 true,Yz 9 5 8,ZM 10 9,Yj 11 8 1 10 true,ZG 12 (.call 90 [.t 11]) 10 true,ZG 13 (.bin .leq (.t 12) (Yi 1024)) 10 true,Yz 14 10 13,ZM 15 14,Yj 16 8 1 15 true,ZG 17 (.call 91 [.t 16]) 15 true,Yz 18 15 17,ZM 2 18] .ret))
def Y52:VC:=(ZR [Yw 1 8 0,Yv 2 Yf] (ZR [Ym 3 8 1,Yc 4 69 [3],ZM 5 4,Yj 6 8 1 5 true,ZG 7 (.call 70 [.t 6]) 5 true,Yz 8 5 7,ZM 2 8] .ret))
theorem Zgu(a b:Idt):((a.act==b.act&&(a.item==b.item&&(a.n==b.n&&true))) !=false)=decide (a=b):=by
 rw[Bool.eq_iff_iff];cases a;cases b;simp
theorem Z6p{I:List Idt}{k:Nat}(h:k<I.length):(I.map Idt.enc).getD k []=[pI I[k].act,pI I[k].item,pI I[k].n]:=by rw[Zcs h];rfl
theorem Z3j{I:List Idt}{i:Nat}(h:i<I.length):(I.take (i+1)).Nodup↔(I.take i).Nodup∧I[i]∉I.take i:=by
 rw[List.take_add_one,Zye h,Option.toList_some,List.nodup_append];constructor
 ·rintro⟨h1,_,h3⟩;exact⟨h1,fun hm=>h3 _ hm _ (List.mem_singleton.2 rfl) rfl⟩
 ·rintro⟨h1,h2⟩;exact⟨h1,by simp,fun a ha b hb e=>by rw[Zyr]at hb;subst hb;subst e;exact h2 ha⟩
theorem Zsk{I:List Idt}{k:Nat}{x:Idt}(h:k<I.length):x∈I.take (k+1)↔x∈I.take k∨x=I[k]:=by
 rw[List.take_add_one,Zye h,List.mem_append];simp
theorem Zur{u:Un}(hu:SmT u)(hn:(unitsT u).length≤1000):Tc 91 [.agg u.enc] (.bool (Xdr u)):=by
 have A:=Zuq hu hn;have hil:(Zbc u).length=(unitsT u).length:=by unfold Zbc;simp
 have hip:=Zeo u;have r0:((Zbc u).map Idt.enc).getD 0 []=[pI u.act,pI u.item,pI u.n]:=by rw[Zld];rfl
 unfold Xdr;refine Gp (vc:=Y50) [.t 2] (cB _) Tryz.func91 ?_;simp only[Y50,YY];rw[Un.Zaf]at A⊢;refine Rp0 [1] ?_;refine Zav [(1,.ro [pI u.act,pI u.item,pI u.n,pI u.kind,.str u.label,.sl 4 (u.head.map Wd.enc),.sl 4 (u.words.map Wd.enc),.sl 8 (u.kids.map Un.enc)])] ⟨View.loc (z:=8) (fz:=false) (es:=[[pI u.act,pI u.item,pI u.n,pI u.kind,.str u.label,.sl 4 (u.head.map Wd.enc),.sl 4 (u.words.map Wd.enc),.sl 8 (u.kids.map Un.enc)]]) rfl (by simp) rfl (by simp),trivial⟩ ?_;generalize u.head.map Wd.enc=EH at A⊢;generalize u.words.map Wd.enc=EW at A⊢;generalize u.kids.map Un.enc=EK at A⊢;generalize Zbc u=I at A hil r0⊢;refine Rp0 [1,3] ?_;refine Zag A ?_;refine Rp0 [1,3,4] ?_;refine Zaa<|Rp0 [1,3,4,5] ?_;refine Zab ?_;refine Zai (σ:={ x:Nat×Nat//x.1≤I.length }) (fun x=>([(1,.ro [pI u.act,pI u.item,pI u.n,pI u.kind,.str u.label,.sl 4 EH,.sl 4 EW,.sl 8 EK]),(3,.sl 3 (I.map Idt.enc)),(4,.bool ((I.take x.1.1).all fun x=>decide (x=idZ))),(5,pI x.1.1)],⟨[],x.1.2⟩)) (fun x=>I.length-x.1.1) ⟨(0,1),Zyw _⟩ ?_ ?_ ?_
 ·exact Fn0
 ·exact Sc0
 rintro⟨⟨k,t⟩,hk⟩;simp only[]at hk⊢;refine Zaa<|Rp1 [1,3,4,5,13] @xlm ?_;refine Zae rfl (fun h1=>?_) (fun h1=>?_)
 ·have ka:k<I.length:=by have h1:=oT h1;omega
  have hrow:=Z6p ka;have hst:((I.take (k+1)).all fun x=>decide (x=idZ))=(((I.take k).all fun x=>decide (x=idZ))&&decide (I[k]=idZ)):=by
   rw[List.take_add_one,Zye ka,List.all_append];simp
  have he:=Zgu I[k] idZ;generalize I[k]=y at hrow hst he;refine Kp0 ?_;refine Zaa<|Zab ?_;cases hb:(I.take k).all fun x=>decide (x=idZ)with
  |false=>
   rw[hb]at hst;refine rp0 [1,3,4,5] ?_;refine rp1 [1,3,4,5] (ad1 (a:=k) (by omega)) ?_;refine⟨⟨(k+1,t),ka⟩,?_⟩;simp only[hst]
   all_goals exact Fn0
  |true=>
   rw[hb,Zyt]at hst;refine rp1 [1,3,4,5] (x2 @xlm hrow) ?_;refine⟨⟨by omega,by omega⟩,?_⟩;refine rp1 [1,3,4,5] (ad1 (a:=k) (by omega)) ?_;refine⟨⟨(k+1,t),ka⟩,?_⟩;simp only[hst,←he];exact⟨⟨rfl,trivial⟩,Nat.le_refl _,by omega⟩
 ·have ka:k=I.length:=by have h1:=oF h1;omega
  subst ka;rw[List.take_length];refine Ep0 ?_;refine Zaa<|Rp0 [1,3,25] ?_;cases hall:I.all fun x=>decide (x=idZ)with
  |true=>
   refine Ct ?_;exact Rv0 [2]
  |false=>
  refine Fp0 ?_;refine Zaa ?_;have he:=Zgu (idU u) idZ;refine Zaa (Zaw [1,3,34] (by simp[Vh]) ?_);simp only[vmL,Nat.reduceEqDiff,Nat.reduceAdd,Nat.reduceLeDiff,Zyc,r0,Int.toNat_zero];refine⟨⟨by omega,by omega⟩,?_⟩;have he':((u.act==0&&(u.item==0&&(u.n==0&&true))) !=false)=decide (idU u=idZ):=he;rw[he'];cases hkz:(u.kind==0)==decide (idU u=idZ)with
  | false=>
   have e34:(decide (idU u=idZ) !=(u.kind==0))=true:=by
    cases h1:u.kind==0<;>cases h2:decide (idU u=idZ)<;>rw[h1,h2]at hkz<;>first|rfl|cases hkz
   rw[e34];refine Ct ?_;exact Rv0 [2]
  |true=>
  have e34:(decide (idU u=idZ) !=(u.kind==0))=false:=by
   cases h1:u.kind==0<;>cases h2:decide (idU u=idZ)<;>rw[h1,h2]at hkz<;>first|rfl|cases hkz
  rw[e34];refine Fp0 ?_;clear r0 he he' A;refine Zaa<|Rp0 [3,6] ?_;refine Zab ?_;refine Zai (σ:={ x:Nat×Nat//x.1≤I.length∧(I.take x.1).Nodup }) (fun x=>([(3,.sl 3 (I.map Idt.enc)),(6,pI x.1.1)],⟨[],x.1.2⟩)) (fun x=>I.length-x.1.1) ⟨(0,t),Zyw _,by simp⟩ ?_ ?_ ?_
  ·exact Fn0
  ·exact Sc0
  rintro⟨⟨i,t2⟩,hii,hnd⟩;simp only[]at hii hnd⊢;refine Zaa<|Rp1 [3,6,38] @xlm ?_;refine Zae rfl (fun h2=>?_) (fun h2=>?_)
  ·have ia:i<I.length:=by have h2:=oT h2;omega
   have hri:=Z6p ia;have hni:=Z3j ia;generalize hx:I[i]=x at hri hni;refine Kp0 ?_;refine Zaa<|Zab ?_;refine Rp0 [3,6,7] ?_;refine Zab ?_;refine Zai (σ:={ y:Nat×Nat//y.1≤i∧x∉I.take y.1 }) (fun y=>([(3,.sl 3 (I.map Idt.enc)),(6,pI i),(7,pI y.1.1)],⟨[],y.1.2⟩)) (fun y=>i-y.1.1) ⟨(0,t2),Zyw _,by simp⟩ ?_ ?_ ?_
   ·exact Fn0
   ·exact Sc0
   rintro⟨⟨k,t3⟩,hkk,hnm⟩;simp only[]at hkk hnm⊢;refine Zaa<|Rp0 [3,6,7,43] ?_;refine Zae rfl (fun h3=>?_) (fun h3=>?_)
   ·have ki:k<i:=by have h3:=oT h3;omega
    have ka:k<I.length:=by omega
    have hrk:=Z6p ka;have hms:=Zsk (x:=x) ka;have hin:I[k]∈I.take i:=List.mem_take_iff_getElem.2 ⟨k,by omega,rfl⟩;have he2:=Zgu I[k] x;generalize I[k]=y at hrk hms hin he2;refine Kp0 ?_;refine Zaa<|Zab ?_;refine Zaa (Zaw [3,6,7,54] (by simp[Vh]) ?_);refine Sp1 (x3 @xlm hrk hri) ?_;refine⟨⟨by omega,by omega⟩,⟨by omega,by omega⟩,?_⟩;rw[he2];by_cases hyx:y=x
    ·rw[Zyf hyx];refine Ct ?_;refine Rp0 [2] ?_;refine Tp0 ?_;have hno:¬I.Nodup:=fun hnd'=>by
      have:=hni.1 (hnd'.sublist (List.take_sublist _ _));exact this.2 (hyx▸hin)
     rw[Zyg hno];exact Vr
    ·rw[Zyg hyx];refine Fp0 ?_;refine rp1 [3,6,7] (ad1 (a:=k) (by omega)) ?_;refine⟨⟨(k+1,t3),by show k+1≤i;omega,fun hm=>by rcases hms.1 hm with h|h;exact hnm h;exact hyx h.symm⟩,?_⟩;exact Fn0
   ·have ki:k=i:=by have h3:=oF h3;omega
    subst ki;refine Ep0 ?_;refine rp1 [3,6] (ad1 (a:=k) (by omega)) ?_;refine⟨⟨(k+1,t3),ia,hni.2 ⟨hnd,hnm⟩⟩,?_⟩;exact Fn0
  ·have ka:i=I.length:=by have h2:=oF h2;omega
   subst ka;rw[List.take_length]at hnd;refine Ep0 ?_;refine Rp0 [2] ?_;refine Tp0 ?_;rw[Zyf hnd];exact Vr
theorem Zus{u:Un}(hu:SmT u)(hn:(unitsT u).length≤1000):Tc 69 [.agg u.enc] (.bool (Zeg u)):=by
 have R:=Zpu hu;have D:=Zpv hu hn;have C:=Zpw hu hn;have I:=Zur hu hn;have hd:=Zjw hu;have e8:decide ((depthT u:Int)≤8)=decide (depthT u≤8):=decide_eq_decide.2 (by omega);have e1:decide (((unitsT u).length:Int)≤1024)=true:=Vt;have e2:decide ((unitsT u).length≤1024)=true:=Vt;unfold Zeg;rw[e2,Zyt];refine Gp (vc:=Y51) [.t 2] (cB _) Tryz.func69 ?_;simp only[Y51,YY];rw[Un.Zaf]at R D C I⊢;refine Rp0 [1] ?_;refine Zav [(1,.ro [pI u.act,pI u.item,pI u.n,pI u.kind,.str u.label,.sl 4 (u.head.map Wd.enc),.sl 4 (u.words.map Wd.enc),.sl 8 (u.kids.map Un.enc)])] ⟨View.loc (z:=8) (fz:=false) (es:=[[pI u.act,pI u.item,pI u.n,pI u.kind,.str u.label,.sl 4 (u.head.map Wd.enc),.sl 4 (u.words.map Wd.enc),.sl 8 (u.kids.map Un.enc)]]) rfl (by simp) rfl (by simp),trivial⟩ ?_;generalize u.head.map Wd.enc=EH at*;generalize u.words.map Wd.enc=EW at*;generalize u.kids.map Un.enc=EK at*;cases hr:rightT u with
 |false=>
  rw[hr]at R;refine Rp0 [2] ?_;refine Ap0 R ?_;exact Tv0
 |true=>
 rw[hr]at R;cases hd8:decide (depthT u≤8)with
 |false=>
  rw[hd8]at e8;refine Rp0 [2] ?_;refine Ap0 R ?_;refine Ap1 D e8 ?_;exact Tv0
 |true=>
 rw[hd8]at e8;refine Rp0 [2] ?_;refine Ap0 R ?_;refine Ap1 D e8 ?_;refine Ap1 C e1 ?_;refine Zag I ?_;exact Tv0
theorem Zoc{u:Un}(hu:SmT u)(hn:(unitsT u).length≤1000):Tc 57 [.agg u.enc] (.bool (Zhb u)):=by
 have M:=Zus hu hn;have N:=Zpt hu;unfold Zhb;refine Gp (vc:=Y52) [.t 2] (cB _) Tryz.func57 ?_;simp only[Y52,YY];rw[Un.Zaf]at M N⊢;refine Rp0 [1] ?_;refine Zav [(1,.ro [pI u.act,pI u.item,pI u.n,pI u.kind,.str u.label,.sl 4 (u.head.map Wd.enc),.sl 4 (u.words.map Wd.enc),.sl 8 (u.kids.map Un.enc)])] ⟨View.loc (z:=8) (fz:=false) (es:=[[pI u.act,pI u.item,pI u.n,pI u.kind,.str u.label,.sl 4 (u.head.map Wd.enc),.sl 4 (u.words.map Wd.enc),.sl 8 (u.kids.map Un.enc)]]) rfl (by simp) rfl (by simp),trivial⟩ ?_;generalize u.head.map Wd.enc=EH at*;generalize u.words.map Wd.enc=EW at*;generalize u.kids.map Un.enc=EK at*;cases hv:Zeg u with
 |false=>
  rw[hv]at M;refine Rp0 [2] ?_;refine Ap0 M ?_;exact Tv0
 |true=>
 rw[hv]at M;refine Rp0 [2] ?_;refine Ap0 M ?_;refine Zag N ?_;exact Tv0
end Go.Proofs.w
namespace Go.VM
open Go
mutual
def wayT(x:Idt):Un→List Un
 | .mk a i n k l h w ks=>if(⟨a,i,n⟩:Idt)=x then[.mk a i n k l h w ks]else match wayL x ks with
  | []=>[]
  |v::r=> .mk a i n k l h w ks::v::r
def wayL(x:Idt):List Un→List Un
 | []=>[]
 |k::r=>match wayT x k with
  | []=>wayL x r
  |v::q=>v::q
end
theorem Zhc(x:Idt)(u:Un):wayT x u=if idU u=x then[u]else match wayL x u.kids with
  | []=>[]
  |v::r=>u::v::r:=by cases u;rw[wayT];rfl
theorem Zod{x:Idt}:∀{L:List Un} {k:Nat},(∀(j:Nat) (hj:j<L.length),j<k→wayT x L[j]=[])→wayL x L=wayL x (L.drop k)
 |_,0,_=>rfl
 | [],k+1,_=>rfl
 |a::r,k+1,h=>by
  have h0:wayT x a=[]:=h 0 (by simp) (by omega);rw[wayL,h0,List.drop_succ_cons];exact Zod (k:=k) fun j hj hjk=>h (j+1) (by simpa using hj) (by omega)
theorem Z1q{x:Idt}{L:List Un}{k:Nat}(hk:k<L.length)(h:∀(j:Nat) (hj:j<L.length),j<k→wayT x L[j]=[])(hne:wayT x L[k]≠[]):wayL x L=wayT x L[k]:=by
 rw[Zod h,List.drop_eq_getElem_cons hk,wayL];cases hw:wayT x L[k]with
 |nil=>exact absurd hw hne
 |cons v q=>rfl
theorem Z6q{x:Idt}{L:List Un}(h:∀(j:Nat) (hj:j<L.length),wayT x L[j]=[]):wayL x L=[]:=by
 rw[Zod (k:=L.length) fun j hj _=>h j hj,List.drop_length,wayL]
def Z5i(w:List Un):PV:=if w=[]then .nilsl else .sl 8 (w.map Un.enc)
theorem Xdt{x:Idt}{u:Un}(h:SmT u):∀v∈wayT x u,v∈unitsT u:=by
 induction h with
 | mk u h hk hs ih=>
  intro v hv;rw[Zhc]at hv;split at hv
  ·rw[Zyr]at hv;subst hv;exact Za0 _
  ·have key:∀L:List Un,(∀k∈L,k∈u.kids)→ ∀v∈wayL x L, ∃k∈u.kids,v∈unitsT k:=by
    intro L
    induction L with
    |nil=>intro _ v hv;rw[wayL]at hv;cases hv
    | cons a r ihr=>
     intro hL v hv;rw[wayL]at hv;cases hw:wayT x a with
     |nil=>rw[hw]at hv;exact ihr (fun k hk=>hL k (Zx7 _ hk)) v hv
     |cons b q=>
      rw[hw]at hv;exact⟨a,hL a List.mem_cons_self,ih a (hL a List.mem_cons_self) v (by rw[hw];exact hv)⟩
   cases hw:wayL x u.kids with
   |nil=>rw[hw]at hv;cases hv
   |cons b q=>
    rw[hw]at hv;rcases List.mem_cons.1 hv with rfl|hv
    ·exact Za0 _
    ·obtain⟨k,h1,h2⟩:=key u.kids (fun k hk=>hk) v (by rw[hw];exact hv);exact Zbq h1 h2
theorem Zli{x:Idt}{u:Un}(h:SmT u):(wayT x u).length≤(unitsT u).length:=by
 induction h with
 | mk u h hk hs ih=>
  have hw:=Zhc x u;rw[Zap,Zyd,hw];split
  ·simp
  ·have key:∀L:List Un,(∀k∈L,k∈u.kids)→(wayL x L).length≤(unitsL L).length:=by
    intro L
    induction L with
    |nil=>intro _;rw[wayL];simp
    |cons a r ihr=>
     intro hL;rw[wayL,unitsL,Zx5];have h1:=ih a (hL a List.mem_cons_self);have h2:=ihr fun k hk=>hL k (Zx7 _ hk);cases hw:wayT x a with
     |nil=>show(wayL x r).length≤_;omega
     |cons b q=>rw[hw]at h1;show(b::q).length≤_;omega
   have:=key u.kids fun k hk=>hk;cases hw2:wayL x u.kids with
   |nil=>simp
   |cons b q=>rw[hw2]at this;simp only[Zyd]at this⊢;omega
end Go.VM
namespace Go.Proofs.w
open Go Go.VM
def Y53:VC:=(ZR [Yw 2 8 0,Yw 3 3 1,ZO 4 (.mv (.c .nilsl))] (.seq (ZR [Ya 8 0 2,Ym 9 3 8,Ym 10 3 3,ZO 11 (.eqs false [.i,.i,.i] (.t 9) (.t 10))] (YC 11 (ZR [Ym 12 8 2,ZO 13 (.bslice 8 1 ZU [(0,(.t 12))]),ZM 4 13] .ret) .skip)) (.seq (ZR [Ya 14 7 2,Yl 15 14,Ye 16 15,Yv 17 (Yi 0)] (.block 0 (.loop (ZR [Yr 18 .lss 17 16] (.seq (YC 18 .skip (.exit 0)) (.seq (.block 1 (ZR [Yx 19 8 15 17,Ym 20 8 19,ZO 6 (.alloc ZU),Ys 8 6 20] (ZR [Ym 21 8 6,Ym 22 3 3,Yc 23 105 [21,22],ZM 7 23] (ZR [ZM 24 7,ZO 25 (.nd true (.t 24))] (YC 25 (ZR [Ym 26 8 2,ZO 27 (.bslice 8 1 ZU [(0,(.t 26))]),ZM 28 7,ZO 29 (.app 8 120 ZU false (.t 27) (.t 28)),ZM 4 29] .ret) .skip))))) (.region [Yu 30 .add 17 1,ZM 17 30] false))))))) (ZR [ZO 4 (.mv (.c .nilsl))] .ret))))
def Y54:VC:=(ZR [Yw 2 8 0,Yw 3 3 1,ZO 4 (.alloc ZU),Yv 5 Yf] (ZR [Ym 7 8 2,Ym 8 3 3,Yc 9 105 [7,8],ZM 6 9] (.seq (ZR [ZM 10 6,Ye 11 10,Yu 12 .eql 11 0] (YC 12 (ZR [ZO 13 (.build ZU []),Ys 8 4 13,Yv 5 Yf] .ret) .skip)) (ZR [ZM 14 6,ZM 15 6,Ye 16 15,Yu 17 .sub 16 1,Yx 18 8 14 17,Ym 19 8 18,Yc 20 106 [19],Ys 8 4 20,Yv 5 Yt] .ret))))
def Y55:VC:=(ZR [Yw 2 8 0,Yw 3 3 1,ZO 4 (.mv (.c .nilsl))] (ZR [ZO 5 (.mv (.c .nilsl))] (ZR [Ym 8 8 2,Ym 9 3 3,Yc 10 105 [8,9],ZM 6 10] (.seq (ZR [ZM 11 6,Ye 12 11,Yu 13 .sub 12 2,ZM 7 13] (.block 0 (.loop (.seq (ZR [ZM 14 7,Yu 15 .geq 14 0] (YC 15 .skip (.exit 0))) (.seq (.block 1 (.region [ZM 18 5,ZM 19 6,ZM 20 7,Yx 21 8 19 20,Ya 22 0 21,Ym 23 3 22,ZO 24 (.bslice 3 1 [Yo,Yo,Yo] [(0,(.t 23))]),ZO 25 (.app 3 24 [Yo,Yo,Yo] false (.t 18) (.t 24)),ZM 5 25] false)) (.region [ZM 16 7,Yu 17 .sub 16 1,ZM 7 17] false)))))) (ZR [ZM 26 5,ZM 4 26] .ret)))))
theorem Z3k(w:List Un):Closed (Z5i w):=by
 unfold Z5i;split
 ·exact Zar
 ·exact Zhz _
theorem Zh0(u:Un)(x:Idt):Za8 [.agg u.enc,.agg x.enc]:=by
 intro y hy;simp only[Zyb,Zya,or_false]at hy;rcases hy with rfl|rfl
 ·exact Zak _
 ·exact Zah x.closed
theorem Zgj{u:Un}(hu:SmT u)(hn:(unitsT u).length≤1000)(x:Idt):Tc 105 [.agg u.enc,.agg x.enc] (Z5i (wayT x u)):=by
 induction hu with
 | mk u h hk hs ih=>
  have hw:=Zhc x u;rw[Zap,Zyd]at hn;have ih':∀k∈u.kids,Tc 105 [.agg k.enc,.agg x.enc] (Z5i (wayT x k)):=fun k hk'=>ih k hk' (by have:=Zbk hk';omega);have hlen:∀k∈u.kids,(wayT x k).length≤1000:=fun k hk'=>by have:=Zli (x:=x) (hs k hk');have:=Zbk hk';omega
  have he:=Zgu (idU u) x;have hxe:x.enc=[pI x.act,pI x.item,pI x.n]:=rfl;refine Zac ?_ (Z3k _) (Zh0 u x);refine Gn (vc:=Y53) [.t 4] Tryz.func105 ?_;simp only[Y53,YY];have hue:=Un.Zaf u;rw[hue,hxe];refine Rp0 [2,3] ?_;refine Zav [(2,.ro [pI u.act,pI u.item,pI u.n,pI u.kind,.str u.label,.sl 4 (u.head.map Wd.enc),.sl 4 (u.words.map Wd.enc),.sl 8 (u.kids.map Un.enc)]),(3,.ro [pI x.act,pI x.item,pI x.n])] ⟨View.loc (z:=8) (fz:=false) (es:=[[pI u.act,pI u.item,pI u.n,pI u.kind,.str u.label,.sl 4 (u.head.map Wd.enc),.sl 4 (u.words.map Wd.enc),.sl 8 (u.kids.map Un.enc)]]) rfl (by simp) rfl (by simp),View.loc (z:=3) (fz:=false) (es:=[[pI x.act,pI x.item,pI x.n]]) rfl (by simp) rfl (by simp),trivial⟩ ?_;generalize u.head.map Wd.enc=EH at*;generalize u.words.map Wd.enc=EW at*;refine Zaa<|Rp0 [2,3,11] ?_;have he':((u.act==x.act&&(u.item==x.item&&(u.n==x.n&&true))) !=false)=decide (idU u=x):=he;rw[he'];by_cases hid:idU u=x
  ·rw[if_pos hid]at hw;rw[hw,Zyf hid];have hv:Z5i [u]=.sl 8 [u.enc]:=rfl;rw[hv,hue];refine Ct ?_;refine Rp0 [4] ?_;refine Tp0 ?_;exact View.own_all (fz:=false) rfl rfl
  rw[if_neg hid]at hw;rw[Zyg hid];refine Fp0 ?_;refine Zaa<|Rp1 [2,3,15,16,17] @xlm ?_;rw[hw];clear hw hid he he' ih;generalize hKL:u.kids=L at hk hn ih' hlen hue⊢;refine Zab ?_;refine Zai (σ:={ y:Nat×Nat//y.1≤L.length∧∀(j:Nat) (hj:j<L.length),j<y.1→wayT x L[j]=[] }) (fun y=>([(2,.ro [pI u.act,pI u.item,pI u.n,pI u.kind,.str u.label,.sl 4 EH,.sl 4 EW,.sl 8 (L.map Un.enc)]),(3,.ro [pI x.act,pI x.item,pI x.n]),(15,.sl 8 (L.map Un.enc)),(16,pI L.length),(17,pI y.1.1)],⟨[],y.1.2⟩)) (fun y=>L.length-y.1.1) ⟨(0,2),Zyw _,fun j _ h=>by cases h⟩ ?_ ?_ ?_
  ·exact Fn0
  ·exact Sc0
  rintro⟨⟨k,t⟩,hkk,hpre⟩;simp only[]at hkk hpre⊢;refine Rp0 [2,3,15,16,17,18] ?_;refine Zaa<|Zae rfl (fun h1=>?_) (fun h1=>?_)
  ·have ka:k<L.length:=by have h1:=oT h1;omega
   have hrow:(L.map Un.enc).getD k []=L[k].enc:=Zcs ka;have R:=ih' _ (Zyl ka);have hl:=hlen _ (Zyl ka);have hhit:=Z1q ka hpre;generalize hv:L[k]=v at hrow R hl hhit;rw[Un.Zaf,hxe]at R;rw[Un.Zaf]at hrow;refine Kp0 ?_;refine Zaa<|Zab ?_;refine Rp1 [2,3,6,15,16,17] (x2 @xlm hrow) ?_;refine Ok ?_;refine Rp0 [2,3,7,15,16,17] ?_;refine Zag R ?_;unfold Z5i;by_cases hw0:wayT x v=[]
   ·rw[if_pos hw0]
    skip
    refine Rp0 [2,3,15,16,17,25] ?_;rintro b rfl _;refine Fp0 ?_;refine rp1 [2,3,15,16,17] (ad1 (a:=k) (by omega)) ?_;refine⟨⟨(k+1,t+1),ka,fun j hj hjk=>?_⟩,?_⟩
    ·by_cases e:j=k
     ·subst e;rw[hv];exact hw0
     ·exact hpre j hj (by omega)
    ·exact Fn0
   ·rw[if_neg hw0];have hq:=hhit hw0;rw[hq];obtain⟨a,q,haq⟩:∃a q,wayT x v=a::q:=by
     cases hc:wayT x v with
     |nil=>exact absurd hc hw0
     |cons a q=>exact⟨a,q,rfl⟩
    rw[haq]at hl⊢;refine Zaa (Zad [2,7,25] ?_);simp only[vmL,Nat.reduceEqDiff,reduceCtorEq,List.map_cons];rintro b-rfl;refine Ct ?_;refine Rp1 [4] @xlm ?_;refine⟨by simp at hl;omega,by simp at hl;omega,?_⟩;refine Tp0 ?_;rw[hue];exact View.own_all (fz:=false) (by simp[Vh]) (by simp;omega)
  ·have ka:k=L.length:=by have h1:=oF h1;omega
   subst ka;rw[Z6q fun j hj=>hpre j hj hj];refine Ep0 ?_;exact Rv0 [4]
def Z6r:Un:=.mk 0 0 0 0 [] [] [] []
def Zbi(x:Idt)(u:Un):Un×Bool:=match(wayT x u).getLast? with
 |some v=>(v,true)
 |none=>(Z6r,false)
theorem Z6s(h:Heap):View h (.agg [pI 0,pI 0,pI 0,pI 0,.str [],.nilsl,.nilsl,.nilsl]) (.agg Z6r.enc):=by
 rw[Un.Zaf];refine View.agg rfl fun j hj=>?_;have hj':j=0∨j=1∨j=2∨j=3∨j=4∨j=5∨j=6∨j=7:=by simp only[Zyd,Zyn]at hj;omega
 rcases hj' with rfl|rfl|rfl|rfl|rfl|rfl|rfl|rfl
 ·exact Vr
 ·exact Vr
 ·exact Vr
 ·exact Vr
 ·exact Vr
 ·exact View.nil _ _
 ·exact View.nil _ _
 ·exact View.nil _ _
theorem Zdb{u:Un}(hu:SmT u)(hn:(unitsT u).length≤1000)(x:Idt):Tc 74 [.agg u.enc,.agg x.enc] (.tup [.agg (Zbi x u).1.enc,.bool (Zbi x u).2]):=by
 have Wy:=Zgj hu hn x;have hwl:=Zli (x:=x) hu;have hmem:=Xdt (x:=x) hu;have hxe:x.enc=[pI x.act,pI x.item,pI x.n]:=rfl;refine Zac ?_ (Zbb (by simp only[Zyb,Zya,or_false,Zyv,forall_eq];exact⟨Zak _,cB _⟩)) (Zh0 u x);refine Gn (vc:=Y54) [.c 4 true 8,.t 5] Tryz.func74 ?_;simp only[Y54,YY];have hue:=Un.Zaf u;rw[hue,hxe]at Wy⊢;generalize u.head.map Wd.enc=EH at Wy⊢;generalize u.words.map Wd.enc=EW at Wy⊢;generalize u.kids.map Un.enc=EK at Wy⊢;refine Rp0 [2,3,4,5] ?_;refine Rp0 [4,5,6] ?_;refine Zag Wy ?_;unfold Zbi;refine Zaa ?_;by_cases hw0:wayT x u=[]
 ·rw[hw0];have hv:Z5i []=.nilsl:=rfl;rw[hv]
  skip
  refine Rp0 [4,5,6,12] ?_;refine Ct ?_;refine Rp0 [4,5] ?_;refine Tp0 ?_;exact View.tup2 (Z6s _) (Vr)
 ·have hv:Z5i (wayT x u)=.sl 8 ((wayT x u).map Un.enc):=by unfold Z5i;rw[if_neg hw0]
  rw[hv];obtain⟨p,v,hpv⟩:∃p v,wayT x u=p++[v]:=⟨_,_,(List.dropLast_concat_getLast hw0).symm⟩;have hC:=Zij (hu.units v (hmem v (by rw[hpv];simp)));have hgl:(wayT x u).getLast?=some v:=by rw[hpv];simp
  rw[hgl];have hrow:((wayT x u).map Un.enc).getD p.length []=v.enc:=by rw[hpv];simp
  have hwl2:(wayT x u).length=p.length+1:=by rw[hpv];simp
  have hWl:((wayT x u).map Un.enc).length=p.length+1:=by rw[Zyc,hwl2]
  generalize(wayT x u).map Un.enc=WE at hrow hWl⊢;have hz:(((p.length+1:Nat):Int)==0)=false:=by rw[beq_eq_false_iff_ne];omega
  have hm1:IntKind.i64.wrap (((p.length+1:Nat):Int)-1)=(p.length:Int):=by rw[w64 (by omega) (by omega)];omega
  have hve:=Un.Zaf v;rw[hve]at hC hrow⊢;refine Sp0 ?_;refine Rp1 [4,5,6,12] (x2 hWl hz) ?_;refine Fp0 ?_;refine Rp1 [4,5] (x3 hWl hm1 hrow) ?_;refine⟨⟨by omega,by omega⟩,?_⟩;refine Ap0 hC ?_;exact Tv0
end Go.Proofs.w
namespace Go.VM
open Go
def Zoe(u:Un)(ks:List Un):Un:=.mk u.act u.item u.n u.kind u.label u.head u.words ks
mutual
def atT(f:Un→Un)(x:Idt):Un→Option Un
 | .mk a i n k l h w ks=>if(⟨a,i,n⟩:Idt)=x then some (f (.mk a i n k l h w ks))else match atL f x ks with
  |some ks'=>some (.mk a i n k l h w ks')
  |none=>none
def atL(f:Un→Un)(x:Idt):List Un→Option (List Un)
 | []=>none
 | k::r=>match atT f x k with
  |some k'=>some (k'::r)
  |none=>match atL f x r with
   |some r'=>some (k::r')
   |none=>none
end
theorem Z1r(f:Un→Un)(x:Idt)(u:Un):atT f x u=if idU u=x then some (f u)else match atL f x u.kids with
  |some ks'=>some (Zoe u ks')
  |none=>none:=by cases u;rw[atT];rfl
theorem Z6t{f:Un→Un}{x:Idt}{y:Un}:∀{L:List Un} {k:Nat} (hk:k<L.length),(∀(j:Nat) (hj:j<L.length),j<k→atT f x L[j]=none)→atT f x L[k]=some y→atL f x L=some (L.set k y)
 |a::r,0,_,_,h=>by
  have h':atT f x a=some y:=h;rw[atL,h'];rfl
 |a::r,k+1,hk,hp,h=>by
  have h0:atT f x a=none:=hp 0 (by simp) (by omega);rw[atL,h0,Z6t (k:=k) (by simpa using hk) (fun j hj hjk=>hp (j+1) (by simpa using hj) (by omega)) h];rfl
theorem Z1s{f:Un→Un}{x:Idt}:∀{L:List Un},(∀(j:Nat) (hj:j<L.length),atT f x L[j]=none)→atL f x L=none
 | [],_=>by rw[atL]
 |a::r,h=>by
  have h0:atT f x a=none:=h 0 (by simp);rw[atL,h0,Z1s (fun j hj=>h (j+1) (by simpa using hj))]
def Zcv(x:Idt)(u:Un):Idt×Int×Bool:=
 if(wayT x u).length<2 then(idZ,-1,false)else
  (idU ((wayT x u).getD ((wayT x u).length-2) (.mk 0 0 0 0 [] [] [] [])),Zuh (fun k=>decide (wayT x k≠[])) ((wayT x u).getD ((wayT x u).length-2) (.mk 0 0 0 0 [] [] [] [])).kids,true)
theorem Zsl{x:Idt}:∀{L:List Un},wayL x L≠[]→∃k∈L,wayT x k≠[]∧wayL x L=wayT x k
 | [],h=>by rw[wayL]at h;exact absurd rfl h
 | a::r,h=>by
  rw[wayL]at h⊢;cases hw:wayT x a with
  |nil=>
   rw[hw]at h;obtain⟨k,h1,h2,h3⟩:=Zsl h;exact⟨k,Zx7 _ h1,h2,h3⟩
  |cons b q=>exact⟨a,List.mem_cons_self,by rw[hw];simp,by rw[hw]⟩
theorem Xan{x:Idt}{u:Un}(h:SmT u):2≤(wayT x u).length→∃p∈unitsT u,(wayT x u).getD ((wayT x u).length-2) (.mk 0 0 0 0 [] [] [] [])=p∧∃k∈p.kids,wayT x k≠[]:=by
 induction h with
 | mk u h hk hs ih=>
  intro h2;have hw:=Zhc x u;split at hw
  ·rw[hw]at h2;simp at h2
  ·cases hl:wayL x u.kids with
   |nil=>rw[hl]at hw;rw[hw]at h2;simp at h2
   | cons b q=>
    rw[hl]at hw
    replace hw:wayT x u=u::(b::q):=hw
    obtain⟨k,k1,k2,k3⟩:=Zsl (x:=x) (L:=u.kids) (by rw[hl];simp);rw[hl]at k3;by_cases h3:2≤(wayT x k).length
    ·obtain⟨p,p1,p2,p3⟩:=ih k k1 h3;refine⟨p,Zbq k1 p1,?_,p3⟩;rw[hw,k3];have:(u::wayT x k).length-2=((wayT x k).length-2)+1:=by simp only[Zyd];omega
     rw[this,List.getD_cons_succ];exact p2
    ·refine⟨u,Za0 u,?_,k,k1,k2⟩;rw[hw,k3];have h4:(wayT x k).length=1:=by
      have:=List.length_pos_iff.2 k2;omega
     have:(u::wayT x k).length-2=0:=by simp only[Zyd];omega
     rw[this];rfl
theorem Z6u{α:Type}{p:α→Bool}{l:List α}{x:α}(hx:x∈l)(hp:p x=true):∃i,i<l.length∧Zuh p l=(i:Int):=by
 have ha:l.any p=true:=List.any_eq_true.2 ⟨x,hx,hp⟩;unfold Zuh;rw[if_pos ha];exact⟨_,List.findIdx_lt_length_of_exists ⟨x,hx,hp⟩,rfl⟩
theorem Zhd{u a b:Un}(h:(Zbc u).Nodup)(ha:a∈unitsT u)(hb:b∈unitsT u)(he:idU a=idU b):a=b:=by
 unfold Zbc at h;generalize unitsT u=l at h ha hb
 induction l with
 |nil=>cases ha
 | cons c r ih=>
  rw[List.map_cons,List.nodup_cons]at h;rcases List.mem_cons.1 ha with ea|ha'
  ·rcases List.mem_cons.1 hb with eb|hb'
   ·rw[ea,eb]
   ·exact absurd (by rw[←ea,he];exact List.mem_map_of_mem hb') h.1
  ·rcases List.mem_cons.1 hb with eb|hb'
   ·exact absurd (by rw[←eb,←he];exact List.mem_map_of_mem ha') h.1
   ·exact ih h.2 ha' hb'
theorem Zh1{u:Un}(h:SmT u):∀p∈unitsT u,(unitsT p).length≤(unitsT u).length:=by
 induction h with
 |mk u h hk hs ih=>
  intro p hp;rw[Zap u]at hp;rcases List.mem_cons.1 hp with rfl|hp
  ·exact Nat.le_refl _
  ·rw[Za5]at hp;obtain⟨k,h1,h2⟩:=List.mem_flatMap.1 hp;have h3:=ih k h1 p h2;have h4:=Zbk h1;rw[Zap u,Zyd];omega
def Zhe(i:Nat)(u:Un):Un:=Zoe u (u.kids.take i++u.kids.drop (i+1))
end Go.VM
namespace Go.VM
open Go Go.Proofs.w
def Zl8(L:List Un):List Idt:=(unitsL L).map idU
theorem Zb3(u:Un):Zbc u=idU u::Zl8 u.kids:=Zld u
theorem Zch(k:Un)(r:List Un):Zl8 (k::r)=Zbc k++Zl8 r:=by unfold Zl8 Zbc;rw[unitsL,List.map_append]
theorem Zj2(u:Un)(ks:List Un):Zbc (Zoe u ks)=idU u::Zl8 ks:=by rw[Zb3];rfl
theorem Zof(u:Un)(ks:List Un):unitsT (Zoe u ks)=Zoe u ks::unitsL ks:=by rw[Zap];rfl
theorem Zog{u:Un}(h:SmU u)(ks:List Un):SmU (Zoe u ks):=⟨h.ok,h.label,h.head,h.words⟩
def LeftL(x:Idt)(L:List Un):Prop:=(x∉Zl8 L∧wayL x L=[]∧∀f,atL f x L=none)∨∃v A B,v∈unitsL L∧idU v=x∧(wayL x L).getLast?=some v∧Zl8 L=A++(Zbc v++B)∧
 ∀f,∃L',atL f x L=some L'∧L'.length=L.length∧Zl8 L'=A++(Zbc (f v)++B)∧(SmT (f v)→∀k∈L',SmT k)∧∀y∈unitsL L',y∈unitsT (f v)∨∃z∈unitsL L,idU z=idU y∧z.kids.length=y.kids.length
def LeftT(x:Idt)(u:Un):Prop:=(x∉Zbc u∧wayT x u=[]∧∀f,atT f x u=none)∨∃v A B,v∈unitsT u∧idU v=x∧(wayT x u).getLast?=some v∧Zbc u=A++(Zbc v++B)∧
 ∀f,∃u',atT f x u=some u'∧(idU u≠x→idU u'=idU u∧u'.kind=u.kind)∧Zbc u'=A++(Zbc (f v)++B)∧(SmT (f v)→SmT u')∧∀y∈unitsT u',y∈unitsT (f v)∨∃z∈unitsT u,idU z=idU y∧z.kids.length=y.kids.length
theorem Zut{x:Idt}:∀{L:List Un},(∀k∈L,SmT k)→(∀k∈L,LeftT x k)→LeftL x L
 | [],_,_=>.inl ⟨by simp[Zl8,unitsL],by rw[wayL],fun f=>by rw[atL]⟩
 | k::r,hs,h=>by
  have hr:=Zut (x:=x) (L:=r) (fun y hy=>hs y (Zx7 _ hy)) (fun y hy=>h y (Zx7 _ hy));rcases h k List.mem_cons_self with⟨h1,h2,h3⟩|⟨v,A,B,h1,h2,h3,h4,h5⟩
  ·rcases hr with⟨g1,g2,g3⟩|⟨v,A,B,g1,g2,g3,g4,g5⟩
   ·refine .inl ⟨?_,by rw[wayL,h2];exact g2,fun f=>by rw[atL,h3 f];simp only[];rw[g3 f]⟩;rw[Zch,List.mem_append];rintro(q|q)
    ·exact h1 q
    ·exact g1 q
   ·refine .inr ⟨v,Zbc k++A,B,?_,g2,by rw[wayL,h2];exact g3,by rw[Zch,g4,List.append_assoc],fun f=>?_⟩
    ·rw[unitsL];exact List.mem_append_right _ g1
    ·obtain⟨L',f1,f2,f3,f4,f5⟩:=g5 f;refine⟨k::L',by rw[atL,h3 f];simp only[];rw[f1],by rw[Zyd,Zyd,f2],by rw[Zch,f3,List.append_assoc],fun q y hy=>?_,fun y hy=>?_⟩
     ·rcases List.mem_cons.1 hy with rfl|hy
      ·exact hs _ List.mem_cons_self
      ·exact f4 q y hy
     ·rw[unitsL,List.mem_append]at hy;rcases hy with hy|hy
      ·exact .inr ⟨y,by rw[unitsL];exact List.mem_append_left _ hy,rfl,rfl⟩
      ·rcases f5 y hy with q|⟨z,z1,z2⟩
       ·exact .inl q
       ·exact .inr ⟨z,by rw[unitsL];exact List.mem_append_right _ z1,z2⟩
  ·have hne:wayT x k≠[]:=by intro e;rw[e]at h3;cases h3
   refine .inr ⟨v,A,B++Zl8 r,?_,h2,?_,by rw[Zch,h4];simp only[List.append_assoc],fun f=>?_⟩
   ·rw[unitsL];exact List.mem_append_left _ h1
   ·rw[wayL];cases hw:wayT x k with
    |nil=>exact absurd hw hne
    |cons a q=>rw[hw]at h3;exact h3
   ·obtain⟨u',f1,_,f3,f4,f5⟩:=h5 f;refine⟨u'::r,by rw[atL,f1],rfl,by rw[Zch,f3];simp only[List.append_assoc],fun q y hy=>?_,fun y hy=>?_⟩
    ·rcases List.mem_cons.1 hy with rfl|hy
     ·exact f4 q
     ·exact hs y (Zx7 _ hy)
    ·rw[unitsL,List.mem_append]at hy;rcases hy with hy|hy
     ·rcases f5 y hy with q|⟨z,z1,z2⟩
      ·exact .inl q
      ·exact .inr ⟨z,by rw[unitsL];exact List.mem_append_left _ z1,z2⟩
     ·exact .inr ⟨y,by rw[unitsL];exact List.mem_append_right _ hy,rfl,rfl⟩
theorem Zj3{x:Idt}{u:Un}(hu:SmT u):LeftT x u:=by
 induction hu with
 | mk u h hk hs ih=>
  have hw:=Zhc x u;by_cases hx:idU u=x
  ·rw[if_pos hx]at hw;refine .inr ⟨u,[],[],Za0 u,hx,by rw[hw];rfl,by simp,fun f=>⟨f u,by rw[Z1r,if_pos hx],fun q=>absurd hx q,by simp,id,fun y hy=>.inl hy⟩⟩
  ·rw [if_neg hx]at hw;rcases Zut hs ih with⟨h1,h2,h3⟩|⟨v,A,B,h1,h2,h3,h4,h5⟩
   ·rw[h2]at hw;refine .inl ⟨?_,hw,fun f=>by rw[Z1r,if_neg hx,h3 f]⟩;rw[Zb3];intro q;rcases List.mem_cons.1 q with q|q
    ·exact hx q.symm
    ·exact h1 q
   ·cases hl:wayL x u.kids with
    |nil=>rw[hl]at h3;cases h3
    | cons a q=>
     rw[hl]at hw h3
     replace hw:wayT x u=u::(a::q):=hw
     refine .inr ⟨v,idU u::A,B,?_,h2,by rw[hw,List.getLast?_cons_cons];exact h3,by rw[Zb3,h4];rfl,fun f=>?_⟩
     ·rw[Zap];exact Zx7 _ h1
     ·obtain⟨L',f1,f2,f3,f4,f5⟩:=h5 f;refine⟨Zoe u L',by rw[Z1r,if_neg hx,f1],fun _=>⟨rfl,rfl⟩,by rw[Zj2,f3];rfl,fun q=>.mk _ (Zog h L') (by show L'.length≤1000;omega) (f4 q),fun y hy=>?_⟩;rw[Zof]at hy;rcases List.mem_cons.1 hy with rfl|hy
      ·exact .inr ⟨u,Za0 u,rfl,by show _=L'.length;omega⟩
      ·rcases f5 y hy with q|⟨z,z1,z2⟩
       ·exact .inl q
       ·exact .inr ⟨z,by rw[Zap];exact Zx7 _ z1,z2⟩
def Zcc(x:Idt)(f:Un→Un)(u:Un):Un:=(atT f x u).getD u
theorem Zuu{x:Idt}{f:Un→Un}{u:Un}(hu:SmT u)(h:wayT x u=[]):Zcc x f u=u:=by
 unfold Zcc;rcases Zj3 (x:=x) hu with⟨_,_,h3⟩|⟨v,A,B,_,_,h3,_⟩
 ·rw[h3 f];rfl
 ·rw[h]at h3;cases h3
theorem Zfx{x:Idt}{u:Un}(hu:SmT u)(h:wayT x u≠[]):∃v A B,v∈unitsT u∧idU v=x∧Zbi x u=(v,true)∧Zbc u=A++(Zbc v++B)∧
  ∀f,(idU u≠x→idU (Zcc x f u)=idU u∧(Zcc x f u).kind=u.kind)∧Zbc (Zcc x f u)=A++(Zbc (f v)++B)∧(SmT (f v)→SmT (Zcc x f u))∧∀y∈unitsT (Zcc x f u),y∈unitsT (f v)∨∃z∈unitsT u,idU z=idU y∧z.kids.length=y.kids.length:=by
 rcases Zj3 (x:=x) hu with⟨_,h2,_⟩|⟨v,A,B,h1,h2,h3,h4,h5⟩
 ·exact absurd h2 h
 ·refine⟨v,A,B,h1,h2,by unfold Zbi;rw[h3],h4,fun f=>?_⟩;obtain⟨u',f1,f2⟩:=h5 f;unfold Zcc;rw[f1];exact f2
theorem Xdu{x:Idt}{u:Un}:(Zbi x u).2=decide (wayT x u≠[]):=by
 unfold Zbi;cases h:wayT x u with
 |nil=>rfl
 |cons a r=>
  cases hl:(a::r).getLast? with
  |none=>simp at hl
  |some v=>rfl
theorem Zi0{x:Idt}{u:Un}(hu:SmT u):wayT x u≠[]↔x∈Zbc u:=by
 constructor
 ·intro h;obtain⟨v,A,B,h1,h2,_⟩:=Zfx hu h;exact h2▸List.mem_map_of_mem h1
 ·intro h e;rcases Zj3 (x:=x) hu with⟨h1,_⟩|⟨v,A,B,_,_,h3,_⟩
  ·exact h1 h
  ·rw[e]at h3;cases h3
structure Good (N:Nat) (u:Un):Prop where
 sm:SmT u
 nd:(Zbc u).Nodup
 len:(unitsT u).length≤N
theorem Zdg(u:Un):(Zbc u).length=(unitsT u).length:=by unfold Zbc;rw[Zyc]
theorem Good.mono{N M:Nat}{u:Un}(g:Good N u)(h:N≤M):Good M u:=⟨g.sm,g.nd,Nat.le_trans g.len h⟩
theorem Good.sub{N:Nat}{u:Un}(g:Good N u){x:Idt}{f:Un→Un}(h:∀v∈unitsT u,idU v=x→SmT (f v)∧(Zbc (f v)).Sublist (Zbc v)):Good N (Zcc x f u):=by
 by_cases hw:wayT x u=[]
 ·rw[Zuu g.sm hw];exact g
 ·obtain⟨v,A,B,h1,h2,_,h4,h5⟩:=Zfx g.sm hw;obtain⟨_,f2,f3,_⟩:=h5 f;obtain⟨s1,s2⟩:=h v h1 h2;have hs:(Zbc (Zcc x f u)).Sublist (Zbc u):=by
   rw[f2,h4];exact List.Sublist.append (List.Sublist.refl _) (List.Sublist.append s2 (List.Sublist.refl _))
  refine⟨f3 s1,g.nd.sublist hs,?_⟩;have:=hs.length_le;rw[Zdg,Zdg]at this;exact Nat.le_trans this g.len
theorem Good.more{N:Nat}{u:Un}(g:Good N u){x:Idt}{f:Un→Un}{C:List Idt}(h:∀v∈unitsT u,idU v=x→SmT (f v)∧(Zbc (f v)).Perm (C++Zbc v))(hC:(C++Zbc u).Nodup):Good (C.length+N) (Zcc x f u):=by
 by_cases hw:wayT x u=[]
 ·rw[Zuu g.sm hw];exact g.mono (by omega)
 ·obtain⟨v,A,B,h1,h2,_,h4,h5⟩:=Zfx g.sm hw;obtain⟨_,f2,f3,_⟩:=h5 f;obtain⟨s1,s2⟩:=h v h1 h2;have hp:(Zbc (Zcc x f u)).Perm (C++Zbc u):=by
   rw[f2,h4];refine(List.Perm.append_left A (List.Perm.append_right B s2)).trans ?_;rw[List.append_assoc,←List.append_assoc,←List.append_assoc C A];exact List.Perm.append_right _ List.perm_append_comm
  refine⟨f3 s1,hp.nodup_iff.2 hC,?_⟩;have:=hp.length_eq;rw[Zx5,Zdg,Zdg]at this;have:=g.len;omega
theorem Zdv(a b:List Un):Zl8 (a++b)=Zl8 a++Zl8 b:=by
 induction a with
 |nil=>rfl
 |cons k r ih=>rw[List.cons_append,Zch,Zch,ih,List.append_assoc]
def Zsm(i:Nat)(y u:Un):Un:=Zoe u (u.kids.take i++y::u.kids.drop i)
theorem Z1t(i:Nat)(y u:Un):(Zbc (Zsm i y u)).Perm (Zbc y++Zbc u):=by
 unfold Zsm;rw[Zj2,Zdv,Zch,Zb3 u];have e:Zl8 u.kids=Zl8 (u.kids.take i)++Zl8 (u.kids.drop i):=by rw[←Zdv,List.take_append_drop]
 rw[e];refine(List.Perm.trans ?_ List.perm_middle.symm);refine List.Perm.cons _ ?_;rw[←List.append_assoc,←List.append_assoc];exact List.Perm.append_right _ List.perm_append_comm
theorem Z6v(i:Nat)(u:Un):(Zbc (Zhe i u)).Sublist (Zbc u):=by
 unfold Zhe;rw[Zj2,Zdv,Zb3 u];refine List.Sublist.cons_cons _ ?_;have e:Zl8 u.kids=Zl8 (u.kids.take i)++Zl8 (u.kids.drop i):=by rw[←Zdv,List.take_append_drop]
 rw[e];refine List.Sublist.append (List.Sublist.refl _) ?_;by_cases h:i<u.kids.length
 ·rw[List.drop_eq_getElem_cons h,Zch];exact List.sublist_append_right _ _
 ·rw[List.drop_eq_nil_of_le (by omega),List.drop_eq_nil_of_le (by omega)];exact List.Sublist.refl _
theorem Z6w{i:Nat}{y u:Un}(hu:SmT u)(hy:SmT y)(hl:u.kids.length+1≤1000):SmT (Zsm i y u):=by
 refine .mk _ (Zog hu.u _) ?_ fun k hk=>?_
 ·show(u.kids.take i++y::u.kids.drop i).length≤1000;rw[Zx5,Zyd,Zyh,List.length_drop];omega
 ·have hk':k∈u.kids.take i++y::u.kids.drop i:=hk;rw[List.mem_append,Zyb]at hk';rcases hk' with h|h|h
  ·exact hu.kids.2 k (List.mem_of_mem_take h)
  ·exact h▸hy
  ·exact hu.kids.2 k (List.mem_of_mem_drop h)
theorem Z1u{i:Nat}{u:Un}(hu:SmT u):SmT (Zhe i u):=by
 refine .mk _ (Zog hu.u _) ?_ fun k hk=>?_
 ·show(u.kids.take i++u.kids.drop (i+1)).length≤1000;have:=hu.kids.1;rw[Zx5,Zyh,List.length_drop];omega
 ·have hk':k∈u.kids.take i++u.kids.drop (i+1):=hk;rw[List.mem_append]at hk';rcases hk' with h|h
  ·exact hu.kids.2 k (List.mem_of_mem_take h)
  ·exact hu.kids.2 k (List.mem_of_mem_drop h)
theorem Zj4{x:Idt}{u:Un}(hu:SmT u)(h:wayT x u≠[]):(Zbi x u).1∈unitsT u∧idU (Zbi x u).1=x∧(Zbi x u).2=true:=by
 obtain⟨v,A,B,h1,h2,h3,_⟩:=Zfx hu h;rw[h3];exact⟨h1,h2,rfl⟩
theorem Xdv{x:Idt}{u v:Un}(hu:SmT u)(hn:(Zbc u).Nodup)(hv:v∈unitsT u)(he:idU v=x):Zbi x u=(v,true):=by
 have hw:wayT x u≠[]:=(Zi0 hu).2 (he▸List.mem_map_of_mem hv);obtain⟨h1,h2,h3⟩:=Zj4 hu hw;have:=Zhd hn h1 hv (h2.trans he.symm);exact Prod.ext this h3
theorem Xdw{x:Idt}{k:Un}(h:(wayT x k).length=1):idU k=x:=by
 have hw:=Zhc x k;split at hw
 ·assumption
 ·cases hl:wayL x k.kids with
  |nil=>rw[hl]at hw;rw[hw]at h;simp at h
  |cons b q=>rw[hl]at hw;rw[hw]at h;simp at h
theorem Z6x{x:Idt}{u:Un}(h:SmT u):2≤(wayT x u).length→∃p∈unitsT u,(wayT x u).getD ((wayT x u).length-2) (.mk 0 0 0 0 [] [] [] [])=p∧(wayL x p.kids).length=1:=by
 induction h with
 | mk u h hk hs ih=>
  intro h2;have hw:=Zhc x u;split at hw
  ·rw[hw]at h2;simp at h2
  ·cases hl:wayL x u.kids with
   |nil=>rw[hl]at hw;rw[hw]at h2;simp at h2
   | cons b q=>
    rw[hl]at hw
    replace hw:wayT x u=u::(b::q):=hw
    obtain⟨k,k1,k2,k3⟩:=Zsl (x:=x) (L:=u.kids) (by rw[hl];simp);have k3':=k3;rw[hl]at k3;by_cases h3:2≤(wayT x k).length
    ·obtain⟨p,p1,p2,p3⟩:=ih k k1 h3;refine⟨p,Zbq k1 p1,?_,p3⟩;rw[hw,k3];have:(u::wayT x k).length-2=((wayT x k).length-2)+1:=by simp only[Zyd];omega
     rw[this,List.getD_cons_succ];exact p2
    ·have h4:(wayT x k).length=1:=by
      have:=List.length_pos_iff.2 k2;omega
     refine⟨u,Za0 u,?_,by rw[k3'];exact h4⟩;rw[hw,k3];have:(u::wayT x k).length-2=0:=by simp only[Zyd];omega
     rw[this];rfl
theorem Zuv{x:Idt}{u:Un}(hu:SmT u)(h:(Zcv x u).2.2=true):∃p∈unitsT u,idU p=(Zcv x u).1∧∃i:Nat,(Zcv x u).2.1=(i:Int)∧∃hi:i<p.kids.length,idU p.kids[i]=x:=by
 unfold Zcv at h⊢;by_cases hl:(wayT x u).length<2
 ·rw[if_pos hl]at h;cases h
 ·rw[if_neg hl];obtain⟨p,p1,p2,p3⟩:=Z6x (x:=x) hu (by omega);rw[p2];refine⟨p,p1,rfl,?_⟩;simp only[];obtain⟨k,k1,k2,_⟩:=Zsl (x:=x) (L:=p.kids) (by intro e;rw[e]at p3;simp at p3);obtain⟨i,i1,i2⟩:=Z6u (p:=fun k=>decide (wayT x k≠[])) k1 (Zyf k2);refine⟨i,i2,i1,?_⟩;have e:p.kids.findIdx (fun k=>decide (wayT x k≠[]))=i:=by
   unfold Zuh at i2;rw[if_pos (List.any_eq_true.2 ⟨k,k1,Zyf k2⟩)]at i2;omega
  obtain⟨e1,e2⟩:=(List.findIdx_eq i1).1 e;have hh:=Z1q (x:=x) i1 (fun j hj hji=>by have:=e2 j hji;simpa using this) (by simpa using e1);rw[hh]at p3;exact Xdw p3
theorem Z6y{x:Idt}{u:Un}(hx:x∈Zbc u)(hu:SmT u)(hne:idU u≠x):(Zcv x u).2.2=true:=by
 have hw:=(Zi0 hu).2 hx;have:2≤(wayT x u).length:=by
  have he:=Zhc x u;rw[if_neg hne]at he;cases hl:wayL x u.kids with
  |nil=>rw[hl]at he;exact absurd he hw
  |cons b q=>rw[hl]at he;rw[he];simp
 unfold Zcv;rw[if_neg (by omega)]
end Go.VM
