import Derived.Test.YtldogpfookkbaaaGreatDoorVmAd
import Derived.Test.YtldogpfookkbaaaGreatDoorW4
set_option linter.all false
set_option maxRecDepth 20000
set_option maxHeartbeats 0
namespace Go.VM
open Go
def Aft(L:List (Nat×AB))(t:Nat)(Q:List (Nat×AB)→Prop)(h':Heap):Prop:=∃L' t',t≤t'∧h'=⟨L',t'⟩∧Q L'∧Nod L'∧(∀q∈L',q.1<t')∧(∀q∈L',(∃r∈L,r.1=q.1)∨t≤q.1)∧∀q∈L',q.2.live=true
theorem Aft.off{L L':List (Nat×AB)}{t t0:Nat}(o:Off L t0)(h:t0<t)(hold:∀q∈L',(∃r∈L,r.1=q.1)∨t≤q.1):Off L' t0:=fun q hq e=>by
 rcases hold q hq with⟨r,hr,er⟩|h'
 ·exact o r hr (er.trans e)
 ·omega
theorem Zh5{P:Program}{f:FuncId}{args:List PV}{L:List (Nat×AB)}{t t0:Nat}{x:AB}{R:PV→Prop}{Q:List (Nat×AB)→Prop}{K:PV→Heap→Prop}(hnod:Nod L)(o0:Off L t0)(h0:t0<t)(hx:∀fz z,x≠.arr fz z [])
  (H:Zam P f args ⟨L,t⟩ (fun r h'=>R r∧Aft L t Q h'))
  (hK:∀r L' t',R r→t≤t'→Q L'→Nod L'→(∀q∈L',q.1<t')→Off L' t0→(∀q∈L',(∃r∈L,r.1=q.1)∨t≤q.1)→(∀q∈L',q.2.live=true)→K r ⟨L'++[(t0,x)],t'⟩):Zam P f args ⟨(t0,x)::L,t⟩ K:=by
 refine Zam.weakenL (h0:=⟨L++[(t0,x)],t⟩) (HL.le_swap (P:=[(t0,x)]) hnod (by simp[Nod]) (by simpa using o0) _) ?_;refine Zam.frameL ?_ (by simpa using hx) (Zam.mono H ?_)
 ·simp only[Zyb,Zya,or_false,forall_eq];exact fun q hq e=>o0 q hq e.symm
 rintro p h' ⟨hR,L',t',ht1,rfl,hS',hnod',hlt',hold,hlive'⟩;have o0':Off L' t0:=Aft.off o0 h0 hold;refine⟨ht1,?_,hlive',hK _ _ _ hR ht1 hS' hnod' hlt' o0' hold hlive'⟩;simp only[Zyb,Zya,or_false,forall_eq];exact fun q hq e=>o0' q hq e.symm
end Go.VM
namespace Go.Proofs.w
open Go Go.VM
def Y59:VC:=(ZR [Yw 2 8 0,Yv 4 Yf] (.seq (ZR [ZM 7 1,Ym 8 8 2,ZO 9 (.callv (.t 7) [.t 8]),Yn 10 9] (YC 10 (ZR [Yv 4 Yf] .ret) .skip)) (.seq (ZR [Ya 11 7 2,Yl 12 11,Ye 13 12,Yv 14 (Yi 0)] (.block 0 (.loop (ZR [Yr 15 .lss 14 13] (.seq (YC 15 .skip (.exit 0)) (.seq (.block 1 (ZR [Yx 16 8 12 14,Ym 17 8 16,ZO 6 (.alloc ZU),Ys 8 6 17] (ZR [Ym 18 8 6,ZM 19 1,Yc 20 180 [18,19],Yn 21 20] (YC 21 (ZR [Yv 4 Yf] .ret) .skip)))) (.region [Yu 22 .add 14 1,ZM 14 22] false))))))) (ZR [Yv 4 Yt] .ret))))
def EvB(f:FuncId)(cap:List PV)(S:List Un→List (Nat×AB)→Prop)(N:Nat):Prop:=
 ∀(pre:List Un) (u:Un),pre.length<N→SmT u→∀(L:List (Nat×AB)) (t:Nat),S pre L→(∀q∈L,q.1<t)→Nod L→(∀q∈L,q.2.live=true)→
  Zam Tryz.prog f (.agg u.enc::cap) ⟨L,t⟩ (fun r h'=>r=.bool true∧Aft L t (S (pre++[u])) h')
theorem Zoo{f:FuncId}{cap:List PV}{S:List Un→List (Nat×AB)→Prop}{N:Nat}(hB:EvB f cap S N)(hN:N≤1000){u:Un}(hu:SmT u):∀(pre:List Un),pre.length+(unitsT u).length≤N→∀(L:List (Nat×AB)) (t:Nat),S pre L→(∀q∈L,q.1<t)→Nod L→(∀q∈L,q.2.live=true)→
  Zam Tryz.prog 180 [.agg u.enc,.fn (.func f) [] cap] ⟨L,t⟩ (fun r h'=>r=.bool true∧Aft L t (S (pre++unitsT u)) h'):=by
 induction hu with
 | mk u h hk hs ih=>
  intro pre hpre L t0 hS hlt hnod hlive;rw[Zap,Zyd]at hpre;have hB0:=hB pre u (by omega) (.mk u h hk hs);rw[Zap];have ih':∀k∈u.kids, ∀(pre:List Un),pre.length+(unitsT k).length≤N→ ∀(L:List (Nat×AB)) (t:Nat),S pre L→(∀q∈L,q.1<t)→Nod L→(∀q∈L,q.2.live=true)→
    Zam Tryz.prog 180 [.agg k.enc,.fn (.func f) [] cap] ⟨L,t⟩ (fun r h'=>r=.bool true∧Aft L t (S (pre++unitsT k)) h'):=ih
  clear ih;refine Zam.drop ?_;refine Gn (vc:=Y59) [.t 4] Tryz.func180 ?_;simp only[Y59,YY];rw[Un.Zaf]at hB0⊢;have o0:Off L t0:=Off.lt hlt (Nat.le_refl _);have g0':=o0.get;have d0':=o0.del;refine Rp0 [1,2] ?_;refine Zaa<|Rp1 [1,2,10] (x2 g0' d0') ?_;refine Zh5 (R:=fun r=>r=.bool true) (Q:=S (pre++[u])) hnod o0 (Nat.lt_succ_self _) (fun fz z e=>by cases e) (hB0 L (t0+1) hS (fun q hq=>by have:=hlt q hq;omega) hnod hlive) ?_;rintro r L1 t1 rfl ht1 hS1 hnod1 hlt1 o1 hold1 hlive1;have G1:=HL.get_off (P:=[(t0,AB.arr false 8 [[pI u.act,pI u.item,pI u.n,pI u.kind,.str u.label,.sl 4 (u.head.map Wd.enc),.sl 4 (u.words.map Wd.enc),.sl 8 (u.kids.map Un.enc)]])]) o1;refine Sp0 ?_;refine Fp0 ?_;refine Zaa<|Rp1 [1,12,13,14] (x2 G1 @xlm) ?_;refine Zab ?_;clear hS hlt hnod hlive hB0 g0' d0';generalize u.kids=KL at hk hpre ih'⊢;refine Zai (σ:={ x:Nat×List (Nat×AB)×Nat//x.1≤KL.length∧t0<x.2.2∧S (pre++u::unitsL (KL.take x.1)) x.2.1∧Nod x.2.1∧(∀q∈x.2.1,q.1<x.2.2)∧(∀q∈x.2.1,(∃r∈L,r.1=q.1)∨t0+1≤q.1)∧∀q∈x.2.1,q.2.live=true })
   (fun x=>([(1,.fn (.func f) [] cap),(12,.sl 8 (KL.map Un.enc)),(13,pI KL.length),(14,pI x.1.1)],⟨x.1.2.1,x.1.2.2⟩)) (fun x=>KL.length-x.1.1) ⟨(0,L1,t1),Zyw _,ht1,by simpa[unitsL]using hS1,hnod1,hlt1,hold1,hlive1⟩ ?_ ?_ ?_
  ·refine Sp0 ?_;rfl
  ·refine Sp0 ?_;exact HL.le_app hnod1 _
  rintro⟨⟨k,L2,t2⟩,hkk,ht2,hS2,hnod2,hlt2,hold2,hlive2⟩;simp only[]at hkk ht2 hS2 hnod2 hlt2 hold2 hlive2⊢;have o2:Off L2 t2:=Off.lt hlt2 (Nat.le_refl _);have g2:=o2.get;have d2:=o2.del;refine Rp0 [1,12,13,14,15] ?_;refine Zaa<|Zae rfl (fun h1=>?_) (fun h1=>?_)
  ·have ka:k<KL.length:=by have h1:=oT h1;omega
   have hst:=Zex ka;have htk:=Zey KL (k+1);have hrow:(KL.map Un.enc).getD k []=KL[k].enc:=Zcs ka;have R:=ih' _ (Zyl ka) (pre++u::unitsL (KL.take k));rw[hst,Zx5]at htk;generalize KL[k]=v at hst hrow R htk;rw[Un.Zaf]at hrow R;refine Kp0 ?_;refine Zaa<|Zab ?_;refine Rp1 [1,6,12,13,14] (x4 @xlm hrow g2 d2) ?_;refine Ok ?_;refine Rp1 [1,12,13,14,21] (x2 g2 d2) ?_;have hlen:(pre++u::unitsL (KL.take k)).length+(unitsT v).length≤N:=by
    rw[Zx5,Zyd];omega
   refine Zh5 (R:=fun r=>r=.bool true) (Q:=S (pre++u::unitsL (KL.take k)++unitsT v)) hnod2 o2 (Nat.lt_succ_self _) (fun fz z e=>by cases e) (R hlen L2 (t2+1) hS2 (fun q hq=>by have:=hlt2 q hq;omega) hnod2 hlive2) ?_;rintro r L3 t3 rfl ht3 hS3 hnod3 hlt3 o3 hold3 hlive3;refine Sp0 ?_;refine Fp0 ?_;refine rp1 [1,12,13,14] (ad1 (a:=k) (by omega)) ?_;refine⟨⟨(k+1,L3,t3),ka,by show t0<t3;omega,by show S (pre++u::unitsL (KL.take (k+1))) L3;rw[hst];simpa using hS3,hnod3,hlt3,fun q hq=>?_,hlive3⟩,?_⟩
   ·rcases hold3 q hq with⟨r,hr,er⟩|h
    ·rcases hold2 r hr with⟨r',hr',er'⟩|h'
     ·exact .inl ⟨r',hr',er'.trans er⟩
     ·exact .inr (by omega)
    ·exact .inr (by omega)
   ·refine⟨rfl,⟨Nat.le_refl _,HL.le_app hnod3 _⟩,?_⟩;show KL.length-(k+1)<KL.length-k;omega
  ·have ka:k=KL.length:=by have h1:=oF h1;omega
   subst ka;rw[List.take_length]at hS2;refine Ep0 ?_;refine Rp0 [4] ?_;refine Tp0 ?_;refine⟨⟨L2,t2⟩,⟨Nat.le_refl _,by simpa using HL.le_app (P:=[]) hnod2 t2⟩,L2,t2,by omega,rfl,hS2,hnod2,hlt2,fun q hq=>?_,hlive2⟩;rcases hold2 q hq with h|h
   ·exact .inl h
   ·exact .inr (by omega)
theorem Zj8{f:FuncId}{p:Un→Bool}{u:Un}(hu:SmT u)(hp:∀x∈unitsT u,Tc f [.agg x.enc] (.bool (p x))):Tc 180 [.agg u.enc,.fn (.func f) [] []] (.bool ((unitsT u).all p)):=by
 induction hu with
 | mk u h hk hs ih=>
  have P0:=hp u (Za0 u);have ih':∀k∈u.kids,Tc 180 [.agg k.enc,.fn (.func f) [] []] (.bool ((unitsT k).all p)):=fun k hk'=>ih k hk' fun x hx=>hp x (Zbq hk' hx);clear ih;rw[Zft];refine Gp (vc:=Y59) [.t 4] (cB _) Tryz.func180 ?_;simp only[Y59,YY];rw[Un.Zaf]at P0⊢;refine Rp0 [1,2] ?_;refine Zav [(1,.fn (.func f) [] []),(2,.ro [pI u.act,pI u.item,pI u.n,pI u.kind,.str u.label,.sl 4 (u.head.map Wd.enc),.sl 4 (u.words.map Wd.enc),.sl 8 (u.kids.map Un.enc)])] ⟨Vr,View.loc (z:=8) (fz:=false) (es:=[[pI u.act,pI u.item,pI u.n,pI u.kind,.str u.label,.sl 4 (u.head.map Wd.enc),.sl 4 (u.words.map Wd.enc),.sl 8 (u.kids.map Un.enc)]]) rfl (by simp) rfl (by simp),trivial⟩ ?_;generalize u.head.map Wd.enc=EH at P0⊢;generalize u.words.map Wd.enc=EW at P0⊢;generalize p u=pu at P0⊢;generalize u.kids=L at hk P0 ih'⊢;refine Zaa<|Rp0 [1,2,10] ?_;refine Ap0 P0 ?_;cases pu with
  |false=>
   refine Ct ?_;exact Rv0 [4]
  |true=>
  refine Fp0 ?_;refine Zaa<|Rp1 [1,12,13,14] @xlm ?_;refine Zab ?_;refine Zai (σ:={ x:Nat×Nat//x.1≤L.length∧(L.all fun k=>(unitsT k).all p)=((L.drop x.1).all fun k=>(unitsT k).all p) }) (fun x=>([(1,.fn (.func f) [] []),(12,.sl 8 (L.map Un.enc)),(13,pI L.length),(14,pI x.1.1)],⟨[],x.1.2⟩)) (fun x=>L.length-x.1.1) ⟨(0,1),Zyw _,rfl⟩ ?_ ?_ ?_
  ·exact Fn0
  ·exact Sc0
  rintro⟨⟨k,t⟩,hkk,hpre⟩;simp only[]at hkk hpre⊢;refine Rp0 [1,12,13,14,15] ?_;refine Zaa<|Zae rfl (fun h1=>?_) (fun h1=>?_)
  ·have ka:k<L.length:=by have h1:=oT h1;omega
   have hd:L.drop k=L[k]::L.drop (k+1):=List.drop_eq_getElem_cons ka;rw[hd,List.all_cons]at hpre;have hrow:(L.map Un.enc).getD k []=L[k].enc:=Zcs ka;have R:=ih' _ (Zyl ka);generalize L[k]=v at hpre hrow R;rw[Un.Zaf]at hrow R;refine Kp0 ?_;refine Zaa<|Zab ?_;refine Rp1 [1,6,12,13,14] (x2 @xlm hrow) ?_;refine Ok ?_;refine Rp0 [1,12,13,14,21] ?_;refine Ap0 R ?_;cases hq:(unitsT v).all p with
   |false=>
    refine Ct ?_;refine Rp0 [4] ?_;refine Tp0 ?_;rw[hpre,hq];exact Vr
   |true=>
    rw[hq,Zyt]at hpre;refine Fp0 ?_;refine rp1 [1,12,13,14] (ad1 (a:=k) (by omega)) ?_;refine⟨⟨(k+1,t+1),ka,hpre⟩,?_⟩;exact Fn0
  ·have ka:k=L.length:=by have h1:=oF h1;omega
   subst ka;rw[List.drop_length]at hpre;refine Ep0 ?_;refine Rp0 [4] ?_;refine Tp0 ?_;rw[hpre];exact Vr
def Y60:VC:=(ZR [Yw 1 8 0,Yv 2 (Yi 0)] (ZR [ZO 3 (.alloc [Yo]),ZN (.store 1 (.t 3) (Yi 0))] (ZR [Ym 4 8 1,ZO 5 (.mkfn (.func 181) [] [.t 3]),Yc 6 180 [4,5]] (ZR [Yl 7 3,ZM 2 7] .ret))))
def Y61:VC:=(ZR [Yw 2 8 0,Yv 3 Yf] (ZR [Yl 4 1,Yu 5 .add 4 1,Ys 1 1 5] (ZR [Yv 3 Yt] .ret)))
def Y62:VC:=(ZR [Yw 1 8 0,ZO 2 (.mv (.c .nilsl))] (ZR [ZO 3 (.alloc [.nilsl])] (ZR [Ym 4 8 1,ZO 5 (.mkfn (.func 182) [] [.t 3]),Yc 6 180 [4,5]] (ZR [Yl 7 3,ZM 2 7] .ret))))
def Y63:VC:=(ZR [Yw 2 8 0,Yv 3 Yf] (ZR [Yl 4 1,Ya 5 0 2,Ym 6 3 5,ZO 7 (.bslice 3 1 [Yo,Yo,Yo] [(0,(.t 6))]),ZO 8 (.app 3 24 [Yo,Yo,Yo] false (.t 4) (.t 7)),Ys 1 1 8] (ZR [Yv 3 Yt] .ret)))
def cntS(pre:List Un)(L:List (Nat×AB)):Prop:=L=[(1,.arr false 1 [[pI (pre.length:Nat)]])]
theorem Xd0:EvB 181 [.loc 1 0 0] cntS 1000:=by
 intro pre u hpre hu L t hS hlt hnod hlive;cases hS;have ht:1<t:=hlt (1,.arr false 1 [[pI (pre.length:Nat)]]) (List.mem_singleton.2 rfl);have qq:=N2 1 t;refine Zam.drop ?_;refine Gn (vc:=Y61) [.t 3] Tryz.func181 ?_;simp only[Y61,YY];rw[Un.Zaf];refine Rp1 [1,2] qq ?_;refine Rp1 [1] (x2 (ad1 (a:=pre.length) (by omega)) qq) ?_;refine Rp1 [3] qq ?_;refine Tp0 ?_;have hne:¬t=1:=by omega
 refine⟨⟨[(1,.arr false 1 [[pI (pre.length+1:Nat)]])],t+1⟩,⟨Nat.le_refl _,by simp[Vh,hne]⟩,_,t+1,by omega,rfl,by show _=_;rw[Zx5];rfl,by simp[Nod],?_,?_,?_⟩
 ·intro q hq;rw[Zyr]at hq;subst hq;show 1<t+1;omega
 ·intro q hq;rw[Zyr]at hq;subst hq;exact .inl ⟨_,List.mem_singleton.2 rfl,rfl⟩
 ·intro q hq;rw[Zyr]at hq;subst hq;rfl
theorem Zgk{u:Un}(hu:SmT u)(hn:(unitsT u).length≤1000):Tc 119 [.agg u.enc] (pI (unitsT u).length):=by
 have E:=Zoo Xd0 (Nat.le_refl _) hu [] (by simpa using hn) [(1,.arr false 1 [[pI (0:Nat)]])] 2 rfl (by simp) (by simp[Nod]) (by simp[AB.live]);refine Gp (vc:=Y60) [.t 2] (cI _) Tryz.func119 ?_;simp only[Y60,YY];rw[Un.Zaf]at E⊢;refine Rp0 [1] ?_;refine Rp0 [1,3] ?_;refine Rp0 [3] ?_;refine Zam.weakenL (h0:=⟨[(1,.arr false 1 [[pI (0:Nat)]])],2⟩) (by simp[Vh]) (Zam.mono E ?_);rintro r h' ⟨rfl,L',t',ht,rfl,hS',-,-,-,-⟩;cases hS';refine Sp0 ?_;exact Rv0 [2]
def idsS(pre:List Un)(L:List (Nat×AB)):Prop:=(pre=[]∧L=[(1,.arr false 1 [[.nilsl]])])∨(pre≠[]∧∃b,b≠1∧L=[(1,.arr false 1 [[.own b 0 pre.length]]),(b,.arr false 3 ((pre.map idU).map Idt.enc))])
theorem Z7a{L:List (Nat×AB)}{t t' b:Nat}{pre:List Un}{u:Un}(ho:∃r∈L,r.1=1)(h1:1<t)(hb:t≤b)(hbt:b<t'):Aft L t (idsS (pre++[u])) ⟨[(1,.arr false 1 [[.own b 0 (pre.length+1)]]),(b,.arr false 3 (((pre++[u]).map idU).map Idt.enc))],t'⟩:=by
 refine⟨_,t',by omega,rfl,.inr ⟨by simp,b,by omega,by rw[Zx5];rfl⟩,by simp[Nod];omega,?_,?_,?_⟩
 ·intro q hq;simp only[Zyb,Zya,or_false]at hq;rcases hq with rfl|rfl
  ·show 1<t';omega
  ·exact hbt
 ·intro q hq;simp only[Zyb,Zya,or_false]at hq;rcases hq with rfl|rfl
  ·exact .inl ho
  ·exact .inr hb
 ·intro q hq;simp only[Zyb,Zya,or_false]at hq;rcases hq with rfl|rfl
  ·rfl
  ·simp[AB.live]
theorem ids_1:EvB 182 [.loc 1 0 0] idsS 1000:=by
 intro pre u hpre hu L t hS hlt hnod hlive;rcases hS with⟨rfl,rfl⟩|⟨hne,b,hb1,rfl⟩
 ·have ht:1<t:=hlt (1,.arr false 1 [[.nilsl]]) (by simp);have qq:=N4 1 t (t+1) (t+1+1);have hst:(([]++[u]).map idU).map Idt.enc=[[pI u.act,pI u.item,pI u.n]]:=rfl;refine Zam.drop ?_;refine Gn (vc:=Y63) [.t 3] Tryz.func182 ?_;simp only[Y63,YY];rw[Un.Zaf];refine Rp1 [1,2] qq ?_;refine Rp1 [1] qq ?_;refine Rp1 [3] qq ?_;refine Tp0 ?_;have hA:=Z7a (L:=[(1,.arr false 1 [[.nilsl]])]) (t:=t) (t':=t+3) (b:=t+2) (pre:=[]) (u:=u) ⟨_,List.mem_cons_self,rfl⟩ ht (by omega) (by omega);rw[hst]at hA;refine⟨_,?_,hA⟩;refine⟨Nat.le_refl _,?_⟩;exact Sc1 qq
 have ht:1<t:=hlt (1,.arr false 1 [[.own b 0 pre.length]]) (by simp);have hb:b<t:=hlt (b,.arr false 3 ((pre.map idU).map Idt.enc)) (by simp);have qq:=N5 1 b t (t+1) (t+1+1);have hst:((pre++[u]).map idU).map Idt.enc=(pre.map idU).map Idt.enc++[[pI u.act,pI u.item,pI u.n]]:=by rw[List.map_append,List.map_append];rfl
 have hB:((pre.map idU).map Idt.enc).length=pre.length:=by simp
 generalize(pre.map idU).map Idt.enc=B at hst hB⊢;have tk:List.take pre.length B=B:=Zyi (by omega);refine Zam.drop ?_;refine Gn (vc:=Y63) [.t 3] Tryz.func182 ?_;simp only[Y63,YY];rw[Un.Zaf];refine Rp1 [1,2] qq ?_;refine Rp1 [1] (x3 tk hB qq) ?_;refine⟨by omega,by omega,?_⟩;refine Rp1 [3] qq ?_;refine Tp0 ?_;have hA:=Z7a (L:=[(1,.arr false 1 [[.own b 0 pre.length]]),(b,.arr false 3 B)]) (t:=t) (t':=t+3) (b:=t+2) (pre:=pre) (u:=u) ⟨_,List.mem_cons_self,rfl⟩ ht (by omega) (by omega);rw[hst]at hA;refine⟨_,?_,hA⟩;refine⟨Nat.le_refl _,?_⟩;exact Sc1 qq
theorem Zi2{u:Un}(hu:SmT u)(hn:(unitsT u).length≤1000):Tc 120 [.agg u.enc] (.sl 3 ((Zbc u).map Idt.enc)):=by
 have E:=Zoo ids_1 (Nat.le_refl _) hu [] (by simpa using hn) [(1,.arr false 1 [[.nilsl]])] 2 (.inl ⟨rfl,rfl⟩) (by simp) (by simp[Nod]) (by simp[AB.live]);refine Gp (vc:=Y62) [.t 2] (Zhy _) Tryz.func120 ?_;simp only[Y62,YY];rw[Un.Zaf]at E⊢;refine Rp0 [1] ?_;refine Rp0 [1,3] ?_;refine Rp0 [3] ?_;refine Zam.weakenL (h0:=⟨[(1,.arr false 1 [[.nilsl]])],2⟩) (by simp[Vh]) (Zam.mono E ?_);rintro r h' ⟨rfl,L',t',ht,rfl,hS',-,-,-,-⟩;rw[List.nil_append]at hS';rcases hS' with⟨h0,-⟩|⟨-,b,hb,rfl⟩
 ·rw[Zap]at h0;cases h0
 have qq:=N2 1 b;refine Rp1 [2] qq ?_;refine Tp0 ?_;have hlen:(unitsT u).length=((Zbc u).map Idt.enc).length:=by unfold Zbc;simp
 refine View.own_all (fz:=false) (es:=(Zbc u).map Idt.enc) ?_ hlen;show(if 1=b then _ else if b=b then some (AB.arr false 3 (((unitsT u).map idU).map Idt.enc))else none)=_;rw[if_neg (by omega),if_pos rfl];rfl
def Y64:VC:=(ZR [Yw 2 8 0,Yv 3 Yf] (ZR [Ym 4 8 2,Ym 5 3 1,Yc 6 105 [4,5],ZO 7 (.nd true (.t 6)),ZM 3 7] .ret))
def Y65:VC:=(ZR [Yw 2 8 0,Yw 3 3 1,ZO 4 (.alloc [Yo,Yo,Yo]),Yv 5 (Yi 0),Yv 6 Yf] (ZR [Ym 10 8 2,Ym 11 3 3,Yc 12 105 [10,11],ZM 7 12] (.seq (ZR [ZM 13 7,Ye 14 13,Yu 15 .lss 14 2] (YC 15 (ZR [ZO 16 (.build [Yo,Yo,Yo] []),Ys 3 4 16,Yv 5 (Yi (-1)),Yv 6 Yf] .ret) .skip)) (ZR [ZM 17 7,ZM 18 7,Ye 19 18,Yu 20 .sub 19 2,Yx 21 8 17 20,Ym 22 8 21,ZO 8 (.alloc ZU),Ys 8 8 22] (ZR [Ya 23 7 8,Yl 24 23,ZO 25 (.mkfn (.func 192) [] [.t 3]),Yc 26 63 [24,25],ZM 9 26] (ZR [Ya 27 0 8,Ym 28 3 27,ZM 29 9,Ys 3 4 28,ZM 5 29,Yv 6 Yt] .ret))))))
theorem Z16(w:List Un):(Z5i w=.nilsl∧decide (w≠[])=false)∨(∃a r,w=a::r∧Z5i w=.sl 8 ((a::r).map Un.enc)∧decide (w≠[])=true):=by
 cases w with
 |nil=>exact .inl ⟨rfl,rfl⟩
 |cons a r=>exact .inr ⟨a,r,rfl,by unfold Z5i;rw[if_neg (by simp)],rfl⟩
theorem Zq2(x:Idt):Closed (.ro x.enc):=Zbf fun y hy=>Idt.closed x y hy
theorem Zzl{u:Un}(hu:SmT u)(hn:(unitsT u).length≤1000)(x:Idt):Tc 192 [.agg u.enc,.ro x.enc] (.bool (decide (wayT x u≠[]))):=by
 have W:=Zgj hu hn x;refine Zac ?_ (cB _) (CL2 (Zak u) (Zq2 x));refine Gn (vc:=Y64) [.t 3] Tryz.func192 ?_;simp only[Y64,YY];have hxe:x.enc=[pI x.act,pI x.item,pI x.n]:=rfl;rw[Un.Zaf u,hxe]at W⊢;refine Rp0 [1,2,3] ?_;refine Rp0 [3] ?_;refine Zag W ?_;rcases Z16 (wayT x u)with⟨h1,h2⟩|⟨a,r,h0,h1,h2⟩
 ·rw[h1,h2];refine Sp0 ?_;intro b hb1 hb2;subst hb1;exact Tv0
 ·rw[h1,h2];refine Sp0 ?_;intro b hb1 hb2;subst hb2;exact Tv0
theorem Z3x(x:Idt)(n:Int)(b:Bool):Closed (.tup [.agg x.enc,pI n,.bool b]):=Zbb (by simp only[Zyb,Zya,or_false,Zyv,forall_eq];exact⟨Zah (Idt.closed x),cI _,cB _⟩)
theorem Zcz{u:Un}(hu:SmT u)(hn:(unitsT u).length≤1000)(x:Idt):Tc 134 [.agg u.enc,.agg x.enc] (.tup [.agg (Zcv x u).1.enc,pI (Zcv x u).2.1,.bool (Zcv x u).2.2]):=by
 have W:=Zgj hu hn x;have hwl:=Zli (x:=x) hu;have hpar:=Xan (x:=x) hu;refine Zac ?_ (Z3x _ _ _) (Zh0 u x);refine Gn (vc:=Y65) [.c 4 true 3,.t 5,.t 6] Tryz.func134 ?_;simp only[Y65,YY];have hxe:x.enc=[pI x.act,pI x.item,pI x.n]:=rfl;have hue:=Un.Zaf u;rw[hue,hxe]at W⊢;unfold Zcv;refine Rp0 [2,3,4,5,6] ?_;refine Rp0 [3,4,5,6,7] ?_;refine Zag W ?_;refine Zaa ?_;by_cases hw:(wayT x u).length<2
 ·rw[if_pos hw];have hlt:decide (((wayT x u).length:Int)<2)=true:=Vt;have hz:idZ.enc=[pI 0,pI 0,pI 0]:=rfl;rw[hz];rcases Z16 (wayT x u)with⟨h1,h2⟩|⟨a,r,h0,h1,h2⟩
  ·rw[h1];refine Sp0 ?_;refine Rp0 [4,5,6,15] ?_;refine Ct ?_;exact Rv0 [4,5,6]
  ·rw[h1,←h0];refine Sp0 ?_;refine Rp1 [4,5,6,15] (x2 @xlm hlt) ?_;refine Ct ?_;exact Rv0 [4,5,6]
 ·rw[if_neg hw];have hlt:decide (((wayT x u).length:Int)<2)=false:=Vf;obtain⟨p,p1,p2,k,k1,k2⟩:=hpar (by omega);rw[p2];obtain⟨m,hm⟩:∃m,(wayT x u).length=m+2:=⟨(wayT x u).length-2,by omega⟩;have hm2:(((wayT x u).length:Int)-2)=(m:Nat):=by omega
  have hrow:((wayT x u).map Un.enc).getD m []=p.enc:=by
   rw[Zcs (by omega),←p2,Zx1,show(wayT x u).length-2=m by omega,Zye (by omega)];rfl
  have hps:=hu.units p p1;have hpk:=hps.kids;have hpn:∀k∈p.kids,(unitsT k).length≤1000:=fun k hk=>by
   have h1:=Zbk hk;have h2:(unitsT p).length≤(unitsT u).length:=Zh1 hu p p1;rw[Zap,Zyd]at h2;omega
  have IX:=Zfv p.kids 192 [.ro x.enc] (fun k=>decide (wayT x k≠[])) (by omega) (by intro y hy;rw[Zyr]at hy;subst hy;exact Zq2 x) (fun k hk=>Zzl (hpk.2 k hk) (hpn k hk) x);rcases Z16 (wayT x u)with⟨h1,h2⟩|⟨a,r,h0,h1,h2⟩
  ·have:wayT x u=[]:=by simpa using h2
   rw[this]at hm;simp at hm
  rw[h1,←h0];have hWl:((wayT x u).map Un.enc).length=(wayT x u).length:=Zyc _;generalize(wayT x u).map Un.enc=WE at hrow hWl⊢;have hpe:=Un.Zaf p;rw[hpe]at hrow;rw[hxe]at IX;refine Sp0 ?_;refine Rp1 [3,4,5,6,7,15] (x2 hWl hlt) ?_;refine Fp0 ?_;refine Rp1 [3,4,8] (x4 hWl hm2 (w64 (n:=(m:Nat)) (by omega) (by omega)) hrow) ?_;refine Ok ?_;refine Rp0 [4,8,9] ?_;refine Zam.weakenL (h0:=⟨[(1,.arr false 3 [[pI x.act,pI x.item,pI x.n]])]++[(3,.arr false 8 [[pI p.act,pI p.item,pI p.n,pI p.kind,.str p.label,.sl 4 (p.head.map Wd.enc),.sl 4 (p.words.map Wd.enc),.sl 8 (p.kids.map Un.enc)]]),(2,.arr false 3 [[pI 0,pI 0,pI 0]])],4⟩) (by simp[Vh]) (Zam.frameL (by simp) (by simp) (Zsf [.sl 8 (p.kids.map Un.enc),.fn (.func 192) [] [.ro [pI x.act,pI x.item,pI x.n]]] ⟨Vr,View.fn rfl rfl (fun j hj=>absurd hj (Nat.not_lt_zero _)) (fun j hj=>?_),trivial⟩ (Zag IX ?_)))
  ·obtain rfl:j=0:=by simp at hj;omega
   exact View.loc (z:=3) (fz:=false) (es:=[[pI x.act,pI x.item,pI x.n]]) rfl (by simp) rfl (by simp)
  refine⟨Nat.le_refl _,(fun _ _ q hq=>by cases hq),(fun q hq=>by cases hq),?_⟩;refine Sp0 ?_;refine Rp0 [4,5,6] ?_;refine Tp0 ?_;have hp3:(idU p).enc=[pI p.act,pI p.item,pI p.n]:=rfl;rw[hp3];exact Vr
def Z5j(x:Idt)(u:Un):List Idt:=((wayT x u).dropLast.reverse).map idU
theorem Xav{x:Idt}{u:Un}{k:Nat}(hk:k<(wayT x u).length-1):(((wayT x u).dropLast.reverse).take (k+1)).map idU=(((wayT x u).dropLast.reverse).take k).map idU++[idU ((wayT x u).getD ((wayT x u).length-2-k) Z6r)]:=by
 have hl:k<(wayT x u).dropLast.reverse.length:=by simp;omega
 rw[List.take_succ_eq_append_getElem hl,List.map_append]
 congr 1
 rw[List.map_singleton,List.getElem_reverse,List.getElem_dropLast]
 congr 2
 rw[Zx1,Zye (by omega),Option.getD_some]
 congr 1
 simp;omega
theorem Zmc{u:Un}(hu:SmT u)(hn:(unitsT u).length≤1000)(x:Idt):Tc 178 [.agg u.enc,.agg x.enc] (.sl 3 ((Z5j x u).map Idt.enc)):=by
 have W:=Zgj hu hn x;have hwl:=Zli (x:=x) hu;refine Zac ?_ (Zhy _) (Zh0 u x);refine Gn (vc:=Y55) [.t 4] Tryz.func178 ?_;simp only[Y55,YY];have hxe:x.enc=[pI x.act,pI x.item,pI x.n]:=rfl;have hst:=fun k=>Xav (x:=x) (u:=u) (k:=k);unfold Z5j;rw[Un.Zaf u,hxe]at W⊢;refine Rp0 [2,3,4] ?_;refine Rp0 [2,3,5] ?_;refine Rp0 [5,6] ?_;refine Zag W ?_;have hL:(wayT x u).dropLast.reverse.length=(wayT x u).length-1:=by simp
 rcases Z16 (wayT x u)with⟨h1,h2⟩|⟨a,r,h0,h1,h2⟩
 ·have hwe:wayT x u=[]:=by simpa using h2
  rw[h1,hwe]
  skip
  refine Zaa<|Rp0 [5,6,7] ?_;refine Zab ?_;refine Zai (σ:=Unit) (fun _=>([(5,.nilsl),(7,pI (-2))],⟨[],2⟩)) (fun _=>0) () ?_ ?_ ?_
  ·simp only[vmL,Nat.reduceEqDiff]
   first|done|rfl|decide
  ·exact Sc0
  rintro⟨⟩;simp only[];refine Zaa<|Rp0 [5,15] ?_;refine Cf ?_;refine Ep0 ?_;refine Rp0 [4] ?_;refine Tp0 ?_;exact View.nil _ _
 rw[h1,←h0];have hwl1:1≤(wayT x u).length:=by rw[h0];simp
 have hWl:((wayT x u).map Un.enc).length=(wayT x u).length:=Zyc _;have hrow:∀(k:Nat),k<(wayT x u).length→((wayT x u).map Un.enc).getD k []=((wayT x u).getD k Z6r).enc:=fun k hk=>by
  rw[Zcs hk,Zx1,Zye hk];rfl
 generalize(wayT x u).map Un.enc=WE at hWl hrow⊢;generalize(wayT x u).dropLast.reverse=DR at hst hL⊢
 skip
 refine Zc7 5 3 rfl ?_;refine Sp0 ?_;refine Zaa<|Rp1 [5,6,7] (x2 hWl (w64 (n:=((wayT x u).length:Int)-2) (by omega) (by omega))) ?_;refine Zab ?_;refine Zai (σ:={ y:Nat×Nat×Nat//y.1≤(wayT x u).length-1∧y.2.1<y.2.2 }) (fun y=>([(5,.own y.1.2.1 0 ((DR.take y.1.1).map idU).length),(6,.sl 8 WE),(7,pI (((wayT x u).length:Int)-2-(y.1.1:Int)))],⟨[(y.1.2.1,.arr false 3 (((DR.take y.1.1).map idU).map Idt.enc))],y.1.2.2⟩)) (fun y=>(wayT x u).length-1-y.1.1) ⟨(0,2,3),Zyw _,by simp⟩ ?_ ?_ ?_
 ·simp only[vmL,Nat.reduceEqDiff,List.take_zero,List.map_nil,Zyn]
  first|done|(show pI _=pI _;congr 1;omega)
 ·simp only[vmL,Nat.reduceEqDiff,reduceCtorEq,List.take_zero,List.map_nil]
  try trivial
 rintro⟨⟨k,id,t⟩,hk,hid⟩;simp only[]at hk hid⊢;have qq:=N4 id t (t+1) (t+1+1);refine Zaa<|Rp1 [5,6,7,15] qq ?_;refine Zae rfl (fun h1=>?_) (fun h1=>?_)
 ·have ka:k<(wayT x u).length-1:=by have h1:=oT h1;omega
  have e:=hst k ka;have hr:=hrow ((wayT x u).length-2-k) (by omega);generalize(wayT x u).getD ((wayT x u).length-2-k) Z6r=v at e hr;have hve:(idU v).enc=[pI v.act,pI v.item,pI v.n]:=rfl;have e':((DR.take (k+1)).map idU).map Idt.enc=((DR.take k).map idU).map Idt.enc++[[pI v.act,pI v.item,pI v.n]]:=by rw[e,List.map_append,List.map_singleton,hve]
  have el:((DR.take (k+1)).map idU).length=((DR.take k).map idU).length+1:=by rw[e];simp
  have hAl:((DR.take k).map idU).length≤1000:=by rw[Zyc,Zyh];omega
  rw[Un.Zaf v]at hr;generalize(DR.take k).map idU=A at e' el hAl⊢;have hale:(A.map Idt.enc).length=A.length:=Zyc _;have hatk:List.take A.length (A.map Idt.enc)=A.map Idt.enc:=Zyi (by omega);have hix:(((wayT x u).length:Int)-2-(k:Int))=(((wayT x u).length-2-k:Nat):Int):=by omega
  have hix2:(((wayT x u).length:Int)-2-(k:Int))-1=((wayT x u).length:Int)-2-((k+1:Nat):Int):=by omega
  refine Kp0 ?_;refine Zaa<|Zab ?_;refine Zad [5,6,7] ?_;simp only[vmL,Nat.reduceEqDiff,Nat.reduceAdd,Nat.reduceLT,Nat.reduceLeDiff,hix,hWl,hr,hale,hatk,qq];refine⟨by omega,?_⟩;refine Ok ?_;have hix3:IntKind.i64.wrap ((((wayT x u).length-2-k:Nat):Int)-1)=((wayT x u).length:Int)-2-((k+1:Nat):Int):=by rw[w64 (by omega) (by omega)];omega
  refine rp1 [5,6,7] hix3 ?_;refine⟨⟨(k+1,t+1,t+2),by omega,by simp⟩,?_⟩;simp only[el,e']
  all_goals exact Fn1 qq
 ·have ka:k=(wayT x u).length-1:=by have h1:=oF h1;omega
  have hfull:DR.take k=DR:=Zyi (by omega);rw[hfull];refine Ep0 ?_;refine Rp1 [4] qq ?_;refine Tp0 ?_;exact View.own_all (fz:=false) (by simp[Vh]) (by simp)
end Go.Proofs.w
namespace Go.VM
open Go Go.Proofs.w
theorem Zi3{u v x:Un}(hu:SmT u)(hv:v∈unitsT u)(hx:x∈unitsT v):x∈unitsT u:=by
 induction hu with
 |mk u hh hk hs ih=>
  rw[Zap]at hv;rcases List.mem_cons.1 hv with rfl|hv
  ·exact hx
  ·rw[Za5]at hv;obtain⟨k,h1,h2⟩:=List.mem_flatMap.1 hv;exact Zbq h1 (ih k h1 h2)
def Zln(s:St):Bool:=decide (s.kind=0)&&(s.label==[])
def Zj9(s:St):Bool:=decide (0<s.kind)&&(decide (s.kind≤7)&&may s.label)
def Zlo(p:List St):Bool:=(match p with
 | []=>true
 |s::r=>(Zln s||Zj9 s)&&r.all Zj9)&&decide (p.length≤9)
def Zbe(u:Un)(s:St):Bool:=u.kind==s.kind&&u.label==s.label
def Zkv(at':List Un)(s:St):List Un:=at'.flatMap fun x=>x.kids.filter fun k=>Zbe k s
def Zdr(u:Un)(p:List St):List Un:=if Zlo p=true then(match p with
 | []=>[u]
 |s::r=>r.foldl Zkv (if Zln s=true then[u]else(unitsT u).filter fun x=>Zbe x s))else[]
def Zdw(u:Un)(p:List St):Idt×Int:=match(Zdr u p).map idU with
 | []=>(idZ,7)
 | [x]=>(x,0)
 |_=>(idZ,8)
theorem Zlp{u:Un}(hu:SmT u):∀(r:List St) (a:List Un),(∀x∈a,x∈unitsT u)→∀x∈r.foldl Zkv a,x∈unitsT u
 | [],a,h,x,hx=>h x hx
 |s::r,a,h,x,hx=>by
  rw[List.foldl_cons]at hx;refine Zlp hu r _ (fun y hy=>?_) x hx;unfold Zkv at hy;obtain⟨z,hz,hy⟩:=List.mem_flatMap.1 hy;have hk:=(List.mem_filter.1 hy).1;exact Zi3 hu (h z hz) (Zbq hk (Za0 y))
theorem Zzm{u:Un}(hu:SmT u){p:List St}:∀x∈Zdr u p,x∈unitsT u:=by
 intro x hx;unfold Zdr at hx;split at hx
 ·cases p with
  |nil=>rw[List.mem_singleton.1 hx];exact Za0 u
  |cons s r=>
   refine Zlp hu r _ (fun y hy=>?_) x hx;split at hy
   ·rw[List.mem_singleton.1 hy];exact Za0 u
   ·exact(List.mem_filter.1 hy).1
 ·cases hx
theorem Zop{u:Un}(hu:SmT u){p:List St}(h:(Zdw u p).2=0):(Zdw u p).1∈Zbc u:=by
 unfold Zdw at h⊢;split at h
 ·cases h
 ·rename_i x hx;have:x∈(Zdr u p).map idU:=by rw[hx];exact List.mem_singleton.2 rfl
  obtain⟨y,hy,e⟩:=List.mem_map.1 this;rw[←e];exact List.mem_map_of_mem (Zzm hu y hy)
 ·cases h
def Zbx(w:Int)(u:Un)(id:Idt):(Idt×Int)×Int:=
 if w=0 then((id,0),0)else if w=1 then((id,((Zbi id u).1.kids.length:Int)),0)else if(Zcv id u).2.2=true then(((Zcv id u).1,(Zcv id u).2.1+(if w=2 then 1 else 0)),0)else((idZ,0),9)
def Zfc(w:Int):Bool:=decide (0≤w)&&decide (w≤3)
def Zi4(u:Un)(id tu:Idt)(w:Int):(Idt×Int)×Int:=
 if((!(Zcv id u).2.2||(decide (tu≠id)&&(Z5j tu u).contains id))||(decide (tu=id) && !(decide (w=2)||decide (w=3))))=true then((idZ,0),9)
 else if tu=id then(((Zcv id u).1,(Zcv id u).2.1),0)
 else if(Zbx w u tu).2=0∧(Zbx w u tu).1.1=(Zcv id u).1∧(Zcv id u).2.1<(Zbx w u tu).1.2 then(((Zbx w u tu).1.1,(Zbx w u tu).1.2-1),(Zbx w u tu).2)
 else Zbx w u tu
def Fits(u:Un)(s:Idt×Int):Prop:=∃q∈unitsT u,idU q=s.1∧∃n:Nat,s.2=(n:Int)∧n≤q.kids.length
theorem Zka{w:Int}{u:Un}{id:Idt}(hu:SmT u)(hx:id∈Zbc u)(h:(Zbx w u id).2=0):Fits u (Zbx w u id).1:=by
 have hf:=Zj4 hu ((Zi0 hu).2 hx);unfold Zbx at h⊢;split
 ·exact⟨_,hf.1,hf.2.1,0,rfl,Zyw _⟩
 ·rename_i h0;rw[if_neg h0]at h;split
  ·exact⟨_,hf.1,hf.2.1,_,rfl,Nat.le_refl _⟩
  ·rename_i h1;rw[if_neg h1]at h;split
   ·rename_i h2;obtain⟨p,p1,p2,i,i1,i2,_⟩:=Zuv hu h2;refine⟨p,p1,p2,i+(if w=2 then 1 else 0),?_,?_⟩
    ·show(Zcv id u).2.1+_=_;rw[i1];split<;>simp
    ·split<;>omega
   ·rename_i h2;rw[if_neg h2]at h;cases h
def Zdx(x:Idt)(u:Un):Un:=Zcc (Zcv x u).1 (Zhe (Zcv x u).2.1.toNat) u
theorem Z7b{u:Un}{id tu:Idt}{w:Int}(hu:SmT u)(hn:(Zbc u).Nodup)(hto:tu∈Zbc u)(h:(Zi4 u id tu w).2=0):
  (Zcv id u).2.2=true∧∀y∈unitsT (Zdx id u),idU y=(Zi4 u id tu w).1.1→∃n:Nat,(Zi4 u id tu w).1.2=(n:Int)∧n≤y.kids.length:=by
 have hpar:(Zcv id u).2.2=true:=by
  cases hp:(Zcv id u).2.2 with
  |true=>rfl
  |false=>unfold Zi4 at h;rw[hp]at h;simp at h
 refine⟨hpar,?_⟩;obtain⟨p,p1,p2,i,i1,i2,i3⟩:=Zuv hu hpar;have hw:wayT (Zcv id u).1 u≠[]:=(Zi0 hu).2 (p2▸List.mem_map_of_mem p1);obtain⟨v,A,B,v1,v2,v3,v4,v5⟩:=Zfx hu hw;have hvp:v=p:=Zhd hn v1 p1 (v2.trans p2.symm);subst hvp;obtain⟨_,_,_,f4⟩:=v5 (Zhe (Zcv id u).2.1.toNat);have hi:(Zcv id u).2.1.toNat=i:=by omega
 rw [hi]at f4;have hs:(∃q∈unitsT u,idU q=(Zi4 u id tu w).1.1∧∃n m:Nat,(Zi4 u id tu w).1.2=(n:Int)∧n≤q.kids.length∧(q=v→n+1≤q.kids.length)):=by
  unfold Zi4 at h⊢;split
  ·rename_i h1;rw[if_pos h1]at h;cases h
  ·rename_i h1;rw[if_neg h1]at h;split
   ·exact⟨v,v1,v2,i,0,i1,by omega,fun _=>by omega⟩
   ·rename_i h2;rw[if_neg h2]at h;split
    ·rename_i h3;obtain⟨q,q1,q2,n,n1,n2⟩:=Zka hu hto h3.1;refine⟨q,q1,q2,n-1,0,?_,by omega,fun e=>?_⟩
     ·have:=h3.2.2;show(Zbx w u tu).1.2-1=_;omega
     ·have:=h3.2.2;omega
    ·rename_i h3;rw[if_neg h3]at h;obtain⟨q,q1,q2,n,n1,n2⟩:=Zka hu hto h;refine⟨q,q1,q2,n,0,n1,n2,fun e=>?_⟩;subst e;have:¬(Zcv id u).2.1<(Zbx w u tu).1.2:=fun hc=>h3 ⟨h,by rw[←q2,v2],hc⟩;omega
 obtain⟨q,q1,q2,n,_,n1,n2,n3⟩:=hs;intro y hy he;refine⟨n,n1,?_⟩;have f4':=f4 y (by unfold Zdx at hy;rw[hi]at hy;exact hy);rcases f4' with hy'|⟨z,z1,z2,z3⟩
 ·unfold Zhe at hy';rw[Zof]at hy';rcases List.mem_cons.1 hy' with rfl|hy'
  ·have hq:q=v:=Zhd hn q1 v1 (q2.trans he.symm);have:=n3 hq;subst hq;show n≤(q.kids.take i++q.kids.drop (i+1)).length;rw[Zx5,Zyh,List.length_drop];omega
  ·have hyv:y∈unitsT v:=by
    rw[Zap,Za5];rw[Za5]at hy';obtain⟨k,k1,k2⟩:=List.mem_flatMap.1 hy';refine Zx7 _ (List.mem_flatMap.2 ⟨k,?_,k2⟩);rcases List.mem_append.1 k1 with k1|k1
    ·exact List.mem_of_mem_take k1
    ·exact List.mem_of_mem_drop k1
   have hq:q=y:=Zhd hn q1 (Zi3 hu v1 hyv) (q2.trans he.symm);rw[←hq];exact n2
 ·have hq:q=z:=Zhd hn q1 z1 (q2.trans (he.symm.trans z2.symm));rw[←z3,←hq];exact n2
def Zb4(act item from':Int)(l:List Str):List Wd:=l.mapIdx fun i s=>⟨s,act,item,from'+(i:Int)⟩
theorem Zez(a i f:Int)(l:List Str):(Zb4 a i f l).length=l.length:=List.length_mapIdx
theorem Zlq(a i f:Int)(l:List Str):(Zb4 a i f l).map Wd.text=l:=by
 unfold Zb4
 apply List.ext_getElem
 ·simp
 ·intro k h1 h2;simp
theorem Z3y(a i f:Int){l:List Str}{k:Nat}(h:k<l.length):Zb4 a i f (l.take (k+1))=Zb4 a i f (l.take k)++[⟨l[k],a,i,f+(k:Int)⟩]:=by
 unfold Zb4;rw[List.take_add_one,Zye h,List.mapIdx_append];simp[Nat.min_eq_left (Nat.le_of_lt h)]
mutual
def stampT(act item:Int):Un→Nat×Nat→Un×(Nat×Nat)
 | .mk _ _ _ k l h w ks,s=>
  let r:=stampL act item ks (s.1+1,s.2+h.length+w.length)
  (.mk act item ((s.1+1:Nat):Int) k l (Zb4 act item (s.2:Int) (h.map Wd.text)) (Zb4 act item ((s.2+h.length:Nat):Int) (w.map Wd.text)) r.1,r.2)
def stampL(act item:Int):List Un→Nat×Nat→List Un×(Nat×Nat)
 | [],s=>([],s)
 |k::r,s=>
  let a:=stampT act item k s
  let b:=stampL act item r a.2
  (a.1::b.1,b.2)
end
def Z17(u:Un):Nat:=u.head.length+u.words.length
def Zbt(l:List Un):Nat:=(l.map Z17).sum
theorem Zoq(a i:Int)(u:Un)(s:Nat×Nat):stampT a i u s=(.mk a i ((s.1+1:Nat):Int) u.kind u.label (Zb4 a i (s.2:Int) (u.head.map Wd.text)) (Zb4 a i ((s.2+u.head.length:Nat):Int) (u.words.map Wd.text)) (stampL a i u.kids (s.1+1,s.2+u.head.length+u.words.length)).1,(stampL a i u.kids (s.1+1,s.2+u.head.length+u.words.length)).2):=by
 cases u;rw[stampT];rfl
def Z9w(a i:Int)(n m:Nat):List Idt:=(List.range' (n+1) m).map fun(k:Nat)=>⟨a,i,(k:Int)⟩
theorem Z18(a i:Int)(n m p:Nat):Z9w a i n (m+p)=Z9w a i n m++Z9w a i (n+m) p:=by
 unfold Z9w;rw[←List.map_append]
 congr 1
 have:=List.range'_append (s:=n+1) (m:=m) (n:=p) (step:=1);rw[←this]
 congr 2
 omega
theorem Xd1(a i:Int)(n m:Nat):(Z9w a i n m).Nodup:=by
 unfold Z9w;refine List.Pairwise.map _ ?_ (List.nodup_range' (step:=1));intro x y h e;exact h (by have:=congrArg Idt.n e;simp only[]at this;omega)
theorem Zlr{u:Un}(hu:SmT u)(a i:Int):∀s:Nat×Nat,(stampT a i u s).2=(s.1+(unitsT u).length,s.2+Zbt (unitsT u))∧Zbc (stampT a i u s).1=Z9w a i s.1 (unitsT u).length∧(unitsT (stampT a i u s).1).length=(unitsT u).length∧depthT (stampT a i u s).1=depthT u:=by
 induction hu with
 | mk u h hk hs ih=>
  intro s;have key:∀(L:List Un),(∀k∈L,k∈u.kids)→∀s:Nat×Nat,(stampL a i L s).2=(s.1+(unitsL L).length,s.2+Zbt (unitsL L))∧Zl8 (stampL a i L s).1=Z9w a i s.1 (unitsL L).length∧(unitsL (stampL a i L s).1).length=(unitsL L).length∧(stampL a i L s).1.length=L.length∧∀d,(stampL a i L s).1.foldl dpF d=L.foldl dpF d:=by
   intro L
   induction L with
   |nil=>intro _ s;rw[stampL];exact⟨by simp[unitsL,Zbt],by simp[Zl8,unitsL,Z9w],rfl,rfl,fun _=>rfl⟩
   | cons k r ihr=>
    intro hL s;obtain⟨a1,a2,a3,a4⟩:=ih k (hL k List.mem_cons_self) s;obtain⟨b1,b2,b3,b4,b5⟩:=ihr (fun y hy=>hL y (Zx7 _ hy)) (stampT a i k s).2;rw[stampL];simp only[];refine⟨?_,?_,?_,by rw[Zyd,b4,Zyd],fun d=>?_⟩
    ·rw[b1,a1,unitsL];simp only[Zx5,Zbt,List.map_append,List.sum_append];rw[Nat.add_assoc,Nat.add_assoc]
    ·rw[Zch,a2,b2,a1,unitsL,Zx5,Z18]
    ·rw[unitsL,unitsL,Zx5,Zx5,a3,b3]
    ·rw[List.foldl_cons,List.foldl_cons,b5]
     congr 1
     unfold dpF;rw[a4]
  obtain⟨k1,k2,k3,k4,k5⟩:=key u.kids (fun k hk=>hk) (s.1+1,s.2+u.head.length+u.words.length);rw[Zoq];refine⟨?_,?_,?_,?_⟩
  ·simp only[];rw[k1,Zap u];simp only[Zyd,Zbt,List.map_cons,List.sum_cons,Z17];refine Prod.ext ?_ ?_<;>simp only[]<;>omega
  ·simp only[];rw[Zb3,Zap u,Zyd,Nat.add_comm (unitsL u.kids).length 1,Z18];have e:Zl8 (stampL a i u.kids (s.1+1,s.2+u.head.length+u.words.length)).1=Z9w a i (s.1+1) (unitsL u.kids).length:=k2;show idU (Un.mk a i ((s.1+1:Nat):Int) u.kind u.label _ _ _)::Zl8 (stampL a i u.kids (s.1+1,s.2+u.head.length+u.words.length)).1=_;rw[e];rfl
  ·simp only[];rw[Zap,Zap u,Zyd,Zyd];show(unitsL (stampL a i u.kids (s.1+1,s.2+u.head.length+u.words.length)).1).length+1=_;rw[k3]
  ·simp only[];rw[Zha,Zha u];exact k5 0
theorem Xaw{u:Un}(hu:SmT u){a i:Int}(ha:i64 a)(hi:i64 i)(hn:∀n:Nat,n≤1000000→i64 (n:Int)):∀s:Nat×Nat,s.1+(unitsT u).length≤1000000→SmT (stampT a i u s).1:=by
 induction hu with
 | mk u h hk hs ih=>
  intro s hs1;rw[Zap,Zyd]at hs1;have key:∀(L:List Un),(∀k∈L,k∈u.kids)→∀s:Nat×Nat,s.1+(unitsL L).length≤1000000→(stampL a i L s).1.length=L.length∧∀k∈(stampL a i L s).1,SmT k:=by
   intro L
   induction L with
   |nil=>intro _ s _;rw[stampL];exact⟨rfl,fun k hk=>by cases hk⟩
   |cons k r ihr=>
    intro hL s hs1;rw[unitsL,Zx5]at hs1;have e:=(Zlr (hs k (hL k List.mem_cons_self)) a i s).1;obtain⟨b1,b2⟩:=ihr (fun y hy=>hL y (Zx7 _ hy)) (stampT a i k s).2 (by rw[e];simp only[];omega);rw[stampL];refine⟨by rw[Zyd,b1,Zyd],fun y hy=>?_⟩;rcases List.mem_cons.1 hy with rfl|hy
    ·exact ih k (hL k List.mem_cons_self) s (by omega)
    ·exact b2 y hy
  obtain⟨k1,k2⟩:=key u.kids (fun k hk=>hk) (s.1+1,s.2+u.head.length+u.words.length) (by simp only[];omega);rw[Zoq];have tx:∀(l:List Wd) (f:Int),(l.length≤300∧∀w∈l,w.text.length≤100)→((Zb4 a i f (l.map Wd.text)).length≤300∧∀w∈Zb4 a i f (l.map Wd.text),w.text.length≤100):=by
   intro l f ⟨h1,h2⟩;refine⟨by rw[Zez,Zyc];exact h1,fun w hw=>?_⟩;have h3:w.text∈(Zb4 a i f (l.map Wd.text)).map Wd.text:=List.mem_map_of_mem hw;rw[Zlq]at h3;obtain⟨y,hy,e⟩:=List.mem_map.1 h3;rw[←e];exact h2 y hy
  refine .mk _ ⟨⟨ha,hi,hn _ (by omega),h.ok.2.2.2⟩,h.label,tx _ _ h.head,tx _ _ h.words⟩ ?_ k2;show(stampL a i u.kids (s.1+1,s.2+u.head.length+u.words.length)).1.length≤1000;rw[k1];exact hk
def Zdj(a i:Int)(u:Un):Un:=(stampT a i u (0,0)).1
def Zwp(part:List Str):Nat→Nat→List Str→List Nat
 |0,_,_=>[]
 |f+1,i,l=>if part.length≤l.length then(if l.take part.length=part then i::Zwp part f (i+part.length) (l.drop part.length)else Zwp part f (i+1) (l.drop 1))else[]
def Zdk(l part:List Str):List Nat:=if part=[]then[]else Zwp part (l.length+1) 0 l
def Zcw(w:List Wd)(part:List Str)(nth:Int):List Nat:=
 let l:=Zdk (w.map Wd.text) part
 if nth=0 then l else if(l.length:Int)<nth then[]else(l.drop (nth.toNat-1)).take 1
def Zhh(g n:Nat):Nat→List Nat→Prop
 |_,[]=>True
 |a,p::r=>a≤p∧p+g≤n∧Zhh g n (p+g) r
theorem Zu8{g n:Nat}:∀{l:List Nat} {a b:Nat},a≤b→Zhh g n b l→Zhh g n a l
 | [],_,_,_,_=>trivial
 |p::r,a,b,h,⟨h1,h2,h3⟩=>⟨by omega,h2,h3⟩
theorem Zls{part:List Str}(hp:part≠[]):∀(f i n:Nat) (l:List Str),i+l.length≤n→Zhh part.length n i (Zwp part f i l)
 |0,i,n,l,h=>trivial
 | f+1,i,n,l,h=>by
  rw[Zwp];split
  ·rename_i h1;split
   ·exact⟨Nat.le_refl _,by omega,Zls hp f _ n _ (by rw[List.length_drop];omega)⟩
   ·have:1≤part.length:=List.length_pos_iff.2 hp;exact Zu8 (Nat.le_succ i) (Zls hp f _ n _ (by rw[List.length_drop];omega))
  ·trivial
theorem Zq3{g n:Nat}:∀{l:List Nat} {a:Nat} (k:Nat),Zhh g n a l→Zhh g n a (l.drop k)
 |l,a,0,h=>h
 | [],a,k+1,h=>trivial
 |p::r,a,k+1,⟨h1,h2,h3⟩=>by
  rw[List.drop_succ_cons];exact Zu8 (by omega) (Zq3 k h3)
theorem Zq4{g n:Nat}:∀{l:List Nat} {a:Nat} (k:Nat),Zhh g n a l→Zhh g n a (l.take k)
 |l,a,0,h=>trivial
 | [],a,k+1,h=>trivial
 |p::r,a,k+1,⟨h1,h2,h3⟩=>⟨h1,h2,Zq4 k h3⟩
theorem Zfd(w:List Wd){part:List Str}(hp:part≠[])(nth:Int):Zhh part.length w.length 0 (Zcw w part nth):=by
 have hf:Zhh part.length w.length 0 (Zdk (w.map Wd.text) part):=by
  unfold Zdk;rw[if_neg hp];exact Zls hp _ 0 _ _ (by rw[Zyc];omega)
 unfold Zcw;simp only[];split
 ·exact hf
 ·split
  ·trivial
  ·exact Zq4 _ (Zq3 _ hf)
def Zpi(fresh:List Str)(a i:Int)(g:Nat)(w:List Wd):List Nat→Nat→List Wd
 | [],_=>w
 |p::r,k=>let o:=Zpi fresh a i g w r (k+1);o.take p++(Zb4 a i ((k*fresh.length:Nat):Int) fresh++o.drop (p+g))
def Zms(r:List Nat):Nat→Nat
 |0=>0
 |j+1=>if r.getD (j+1) 0<r.getD j 0 then Zms r j else j+1
def Zkb(r:List Nat)(x:Nat):Nat→Nat
 |0=>0
 |k+1=>if r.getD (k+1) 0<x then Zkb r x k else k+1
def Zor(r:List Nat)(i k:Nat):List Nat:=(r.set i (r.getD k 0)).set k (r.getD i 0)
def Z7c(r:List Nat)(i:Nat):List Nat:=r.take i++(r.drop i).reverse
def Z3z(r:List Nat):Option (List Nat):=
 let i:=Zms r (r.length-1)
 if i=0 then none else
  let k:=Zkb r (r.getD (i-1) 0) (r.length-1)
  some (Z7c (Zor r (i-1) k) i)
def iterR:Nat→List Nat→List (List Nat)
 |0,_=>[]
 |f+1,r=>r::(match Z3z r with
  |some q=>iterR f q
  |none=>[])
def Za3(n:Nat):List (List Nat):=iterR 120 (List.range n)
def Z7d(n:Nat)(r:List Nat):Bool:=
  decide (r.length=n)&&r.all (fun x=>decide (x<n))&&r.Nodup &&
  (let i:=Zms r (n-1)
   decide (i=0)||(let k:=Zkb r (r.getD (i-1) 0) (n-1)
    decide (i≤k)&&decide (r.getD (i-1) 0≤r.getD k 0)))
theorem Zzn(n:Nat)(h:n≤5):∀r∈Za3 n,Z7d n r=true:=by
 have key:((List.range 6).all fun n=>(Za3 n).all (Z7d n))=true:=by kernel_rfl
 have:=List.all_eq_true.1 key n (by simp;omega);exact List.all_eq_true.1 this
theorem Zgl(n:Nat)(h:n≤5):(Za3 n).length≤120:=by
 have key:((List.range 6).all fun n=>decide ((Za3 n).length≤120))=true:=by kernel_rfl
 have:=List.all_eq_true.1 key n (by simp;omega)
 simpa using this
theorem Zos(n:Nat)(h:n≤5):(Za3 n).getD 0 []=List.range n∧Za3 n≠[]∧∀k,k<(Za3 n).length→Z3z ((Za3 n).getD k [])=(Za3 n)[k+1]?:=by
 have key:((List.range 6).all fun n=>decide ((Za3 n).getD 0 []=List.range n)&&decide (Za3 n≠[])&&(List.range 120).all fun k=>decide (k<(Za3 n).length→Z3z ((Za3 n).getD k [])=(Za3 n)[k+1]?))=true:=by kernel_rfl
 have h1:=List.all_eq_true.1 key n (by simp;omega);simp only[Zx4,Zx3,List.all_eq_true]at h1;refine⟨h1.1.1,h1.1.2,fun k hk=>h1.2 k ?_ hk⟩;have:=Zgl n h;simp;omega
def Zmt(r b:List Nat)(i k:Nat):Bool:=decide (r.idxOf i<r.idxOf k) !=decide (b.idxOf i<b.idxOf k)
def Za4(r b:List Nat)(K:Nat→Bool):Bool:=(List.range r.length).all fun i=>(List.range i).all fun k=>!((K i||K k)&&Zmt r b i k)
def Zot(n:Nat)(r:List Nat):Prop:=r.length=n∧∀i,i<n→i∈r
theorem Zq5:∀(n:Nat) (r:List Nat),Zot n r→(List.range n).Perm r
 |0,r,⟨hl,_⟩=>by rw[List.eq_nil_of_length_eq_zero hl];exact List.Perm.refl _
 |n+1,r,⟨hl,hm⟩=>by
  have h1:=hm n (by omega);have h2:=Zq5 n (r.erase n) ⟨by rw[List.length_erase_of_mem h1,hl];rfl,fun i hi=>(List.mem_erase_of_ne (by omega)).2 (hm i (by omega))⟩;rw[List.range_succ];exact((List.perm_append_comm).trans (h2.cons n)).trans (List.perm_cons_erase h1).symm
theorem Zlt(n:Nat)(r:List Nat)(h:Zot n r):r.Nodup∧∀x∈r,x<n:=
 have hq:=Zq5 n r h
 ⟨hq.nodup_iff.1 List.nodup_range,fun x hx=>List.mem_range.1 (hq.mem_iff.2 hx)⟩
theorem Zzo(r:List Nat)(K:Nat→Bool):Za4 r r K=true:=by
 unfold Za4 Zmt;simp
end Go.VM
