import Derived.Test.YtcgdjembdjdlhaaGreatDoorJn
import Derived.Test.YtcgdjembdjdlhaaGreatDoorVmPk
import Derived.Test.YtcgdjembdjdlhaaGreatDoorY1
import Derived.Test.YtcgdjembdjdlhaaGreatDoorVmAz
set_option linter.all false
set_option maxRecDepth 20000
set_option maxHeartbeats 0
namespace Go.VM
open Go
def brkL (n i a b c d f:Nat) (R N:List (List PV)):List (Nat×AB):=[(f,.arr false 1 [[pI i]]),(c,.arr false 1 [[.own a 0 (n+1)]]),(d,.arr false 1 [[.own b 0 (n+1)]]),(a,.arr false 1 R),(b,.arr false 1 N)]
def Dist (a b c d f t:Nat):Prop:=(a≠b∧a≠c∧a≠d∧a≠f∧b≠c∧b≠d∧b≠f∧c≠d∧c≠f∧d≠f)∧a<t∧b<t∧c<t∧d<t∧f<t
end Go.VM
namespace Go.Proofs.YtcgdjembdjdlhaaGreatDoor.w
open Go Go.VM
def c_linebreak_each:VC:=(ZR [ZO 8 (.mv (.c (.int .i64 (-1))))] (ZR [ZM 10 1,ZO 11 (.bin .add (.t 10) (.c (.int .i64 1))),ZM 9 11] (.block 0 (.loop (.seq (ZR [ZM 12 9,ZM 13 2,ZO 14 (.len false (.t 13)),ZO 15 (.bin .leq (.t 12) (.t 14))] (.cond (.t 15) .skip (.exit 0))) (.seq (.block 1 (ZR [ZM 18 8,ZM 19 2,ZM 20 9,ZO 21 (.bin .sub (.t 20) (.c (.int .i64 1))),ZO 22 (.iaddr 1 (.t 19) (.t 21)),ZO 23 (.load false 1 (.t 22)),ZO 24 (.len true (.t 23)),ZO 25 (.bin .add (.c (.int .i64 1)) (.t 24)),ZO 26 (.bin .add (.t 18) (.t 25)),ZM 8 26] (.seq (ZR [ZM 27 8,ZM 28 0,ZO 29 (.bin .gtr (.t 27) (.t 28))] (.cond (.t 29) .ret .skip)) (.region [ZM 30 3,ZM 31 9,ZM 32 8,ZO 33 (.callv (.t 30) [.t 31,.t 32])] false)))) (.region [ZM 16 9,ZO 17 (.bin .add (.t 16) (.c (.int .i64 1))),ZM 9 17] false)))))))
def c_linebreak_Break_1:VC:=(.seq (.region [ZO 10 (.load false 1 (.t 2)),ZM 11 1,ZO 12 (.bin .sub (.t 10) (.t 11)),ZO 13 (.load false 1 (.t 2)),ZM 14 1,ZO 15 (.bin .sub (.t 13) (.t 14)),ZO 16 (.bin .mul (.t 12) (.t 15)),ZO 17 (.load false 1 (.t 3)),ZM 18 0,ZO 19 (.iaddr 1 (.t 17) (.t 18)),ZO 20 (.load false 1 (.t 19)),ZO 21 (.bin .add (.t 16) (.t 20)),ZM 9 21] true) (.seq (ZR [ZM 22 0,ZO 23 (.load false 1 (.t 4)),ZO 24 (.len false (.t 23)),ZO 25 (.bin .eql (.t 22) (.t 24))] (.cond (.t 25) (.region [ZO 9 (.mv (.c (.int .i64 0)))] false) .skip)) (ZR [ZM 26 9,ZO 27 (.load false 1 (.t 3)),ZO 28 (.load false 1 (.t 5)),ZO 29 (.iaddr 1 (.t 27) (.t 28)),ZO 30 (.load false 1 (.t 29)),ZO 31 (.bin .lss (.t 26) (.t 30))] (.cond (.t 31) (.draw2 [ZO 32 (.load false 1 (.t 3)),ZO 33 (.load false 1 (.t 5)),ZO 34 (.load false 1 (.t 6)),ZO 35 (.load false 1 (.t 5)),ZM 36 9,ZM 37 0,ZO 38 (.iaddr 1 (.t 32) (.t 33)),ZN (.store 1 (.t 38) (.t 36)),ZO 39 (.iaddr 1 (.t 34) (.t 35)),ZN (.store 1 (.t 39) (.t 37))] [true,true,false,false,true,false,true,false,false,false]) .skip))))
theorem sp_lb_Break_1 (w : Int) (l : List Str) {i k a b c d f t : Nat} {R N : List (List PV)} {ll cv bb bk : Int} (hd : Dist a b c d f t) (hl : l.length ≤ 1024) (hk : k ≤ l.length) (hik : i < k) (hll : 0 ≤ ll ∧ ll ≤ w) (hw : w ≤ 200) (hRl : R.length = l.length + 1) (hNl : N.length = l.length + 1) (hRk : R.getD k [] = [pI bk]) (hRi : R.getD i [] = [pI (mxV bb)])
  (hNi:(N.getD i []).drop 1=[]) (hbk:0≤bk∧bk≤100000000) (hbb:bb = -1∨(0≤bb∧bb≤100040000)) (hcv:cv=if k<l.length then bk+(w-ll)*(w-ll) else bk) (hn0:k=l.length→bk=0) :
  Zal Tryz.prog 136 [pI k,pI ll,.ro [pI w],.loc c 0 0,.ro [It.strs l],.loc f 0 0,.loc d 0 0] ⟨brkL l.length i a b c d f R N,t⟩
   (fun _ h'=>h'=⟨brkL l.length i a b c d f (if bb<0∨cv<bb then R.set i [pI cv] else R) (if bb<0∨cv<bb then N.set i [pI k] else N),t⟩):=by
 obtain ⟨⟨h1,h2,h3,h4,h5,h6,h7,h8,h9,h10⟩,h11,h12,h13,h14,h15⟩:=hd;have hsq:=sq_bd hll.1 hll.2 hw;generalize hsqE:(w-ll)*(w-ll)=sq at hsq hcv;have hmx:=mxV_bd hbb (by omega);have hlt:=mxV_lt (b:=bb) (c:=cv) (by rw [hcv];split<;>omega);have hcvb:0≤cv∧cv≤100040000:=by rw [hcv];split<;>omega
 generalize mxV bb=mx at hRi hmx hlt;refine Zal.drop ?_;refine Gn (vc:=c_linebreak_Break_1) [] Tryz.func136 ?_;unfold c_linebreak_Break_1;try dsimp only [ZM,ZO,ZN,ZG,ZR,ZU]
 unfold brkL It.strs;have qq:=N5 a b c d f;refine Zaa (VW_draw [0,1,2,3,4,5,6,9] ⟨[(f,.arr false 1 [[pI i]]),(c,.arr false 1 [[.own a 0 (l.length+1)]]),(d,.arr false 1 [[.own b 0 (l.length+1)]]),(a,.arr false 1 R),(b,.arr false 1 N)],t+100⟩ ?_ ?_)
 ·refine Sp1 qq ?_;omega
 simp only [vmL,Nat.reduceEqDiff,Nat.reduceAdd,Nat.reduceLT,reduceCtorEq,hRk,hRl,hsqE,w64 (n:=w-ll) (by omega) (by omega),w64 (n:=sq) (by omega) (by omega),w64 (n:=sq+bk) (by omega) (by omega),qq];refine Ok ?_;refine Zaa (Zbl (σ:=Unit) (fun _=>([(0,pI k),(1,pI ll),(2,.ro [pI w]),(3,.loc c 0 0),(4,.ro [.sl 1 (l.map fun s=>[PV.str s])]),(5,.loc f 0 0),(6,.loc d 0 0),(9,pI cv)],⟨[(f,.arr false 1 [[pI i]]),(c,.arr false 1 [[.own a 0 (l.length+1)]]),(d,.arr false 1 [[.own b 0 (l.length+1)]]),(a,.arr false 1 R),(b,.arr false 1 N)],t⟩)) ?_ (fun _=>?_))
 ·refine Rp1 [0,1,2,3,4,5,6,9,25] (x2 @xlm qq) ?_;by_cases hkn:k<l.length
  ·have e1:((k:Int)==(l.length:Int))=false:=by rw [beq_eq_false_iff_ne];omega
   rw [if_pos hkn] at hcv;rw [e1];refine Fp1 qq ?_;refine ⟨(),?_⟩;rw [hcv,Int.add_comm bk sq]
   all_goals exact Fn1 qq
  ·have e0:k=l.length:=by omega
   have e1:((k:Int)==(l.length:Int))=true:=by rw [beq_iff_eq];omega
   rw [if_neg hkn,hn0 e0] at hcv;rw [e1];refine Ct ?_;refine rp1 [0,1,2,3,4,5,6,9] qq ?_;refine ⟨(),?_⟩;rw [hcv]
   all_goals exact Fn1 qq
 refine Rp1 [0,1,2,3,4,5,6,9,31] (x3 hRi hRl qq) ?_;refine Ok ?_;by_cases hc:cv<mx
 ·rw [if_pos (hlt.1 hc),if_pos (hlt.1 hc)];refine Zac rfl (fun _=>?_) (fun h=>by simp at h;omega);refine VW_draw2S [0] ⟨[(f,.arr false 1 [[pI i]]),(c,.arr false 1 [[.own a 0 (l.length+1)]]),(d,.arr false 1 [[.own b 0 (l.length+1)]])],t⟩ ?_ ?_ ?_
  ·exact Sc1 qq
  ·exact Sc1 qq
  simp only [vmL,Nat.reduceEqDiff,Nat.reduceAdd,Nat.reduceLT,reduceCtorEq,DrawS,hRl,hNl,hRi,hNi,qq];refine Ok ?_;refine ⟨_,?_,rfl⟩;exact Sc1 qq
 ·rw [if_neg (fun h=>hc (hlt.2 h)),if_neg (fun h=>hc (hlt.2 h))];refine Zac rfl (fun h=>by simp at h;omega) (fun _=>?_);refine Kp1 qq ?_;refine ⟨_,?_,rfl⟩;exact Sc1 qq
theorem sp_lb_each (w : Int) (l : List Str) (hf : FitW w l) (hl : l.length ≤ 1024) {fn : FuncId} {cap : List PV} {S : Nat → List (Nat × AB) → Prop} {i : Nat} (hi : i < l.length)
  (hB:∀ (k:Nat) (L:List (Nat×AB)) (t:Nat),i<k→k≤l.length→llen l i k≤w→S k L→(∀ q∈L,q.1<t)→Nod L→(∀ q∈L,q.2.live=true)→Zal Tryz.prog fn (pI k::pI (llen l i k)::cap) ⟨L,t⟩ (fun _ h'=>Aft L t (S (k+1)) h'))
  (L:List (Nat×AB)) (t:Nat) (hS:S (i+1) L) (hlt:∀ q∈L,q.1<t) (hnod:Nod L) (hlive:∀ q∈L,q.2.live=true) :
  Zal Tryz.prog 135 [pI w,pI i,It.strs l,.fn (.func fn) [] cap] ⟨L,t⟩ (fun _ h'=>Aft L t (fun L'=>∃ k,i<k∧k≤l.length+1∧S k L'∧(k≤l.length→w<llen l i k)) h'):=by
 have hw:=hf.2.1;have ht:∀ s∈l,s.length≤1000:=fun s hs=>by have:=hf.2.2 s hs;omega
 unfold It.strs;refine Zal.drop ?_;refine Gn (vc:=c_linebreak_each) [] Tryz.func135 ?_;unfold c_linebreak_each;try dsimp only [ZM,ZO,ZN,ZG,ZR,ZU]
 refine Rp0 [0,1,2,3,8] ?_;refine Rp1 [0,2,3,8,9] (ad1 (a:=i) (by omega)) ?_;refine Zab ?_;have e0:llen l i i = -1:=by unfold llen;rw [wlen_self];omega
 refine Zah (σ:={ x:Nat×List (Nat×AB)×Nat//i≤x.1∧x.1≤l.length∧t≤x.2.2∧llen l i x.1≤w∧S (x.1+1) x.2.1∧Nod x.2.1∧(∀ q∈x.2.1,q.1<x.2.2)∧(∀ q∈x.2.1,(∃ r∈L,r.1=q.1)∨t≤q.1)∧∀ q∈x.2.1,q.2.live=true })
  (fun x=>([(0,pI w),(2,.sl 1 (l.map fun s=>[PV.str s])),(3,.fn (.func fn) [] cap),(8,pI (llen l i x.1.1)),(9,pI (x.1.1+1:Nat))],⟨x.1.2.1,x.1.2.2⟩)) (fun x=>l.length-x.1.1) ⟨(i,L,t),Nat.le_refl _,by show i≤l.length;omega,Nat.le_refl _,by show llen l i i≤w;have:=hf.1;omega,hS,hnod,hlt,fun q hq=>.inl ⟨q,hq,rfl⟩,hlive⟩ ?_ ?_ ?_
 ·simp only [vmL,Nat.reduceEqDiff,reduceCtorEq,e0]
  first|done|rfl|exact ⟨rfl,rfl⟩
 ·refine ⟨Nat.le_refl _,by simpa using HL.le_app (P:=[]) hnod t⟩
 rintro ⟨⟨p,L2,t2⟩,hip,hpl,ht2,hpw,hS2,hnod2,hlt2,hold2,hlive2⟩;simp only [] at hip hpl ht2 hpw hS2 hnod2 hlt2 hold2 hlive2 ⊢;refine Zaa ?_;refine Rp1 [0,2,3,8,9,15] @xlm ?_;refine Zac rfl (fun h1=>?_) (fun h1=>?_)
 ·have ka:p<l.length:=by simp only [decide_eq_true_eq] at h1;omega
  have hrow:(l.map fun s=>[PV.str s]).getD p []=[PV.str l[p]]:=rowm ka;have hst:llen l i (p+1)=llen l i p+(1+(l[p].length:Int)):=by unfold llen;rw [wlen_step hip ka];omega
  have hsl:=ht _ (List.getElem_mem ka);have hlo:-1≤llen l i p:=by unfold llen;omega
  have hR:=hB (p+1) L2 t2 (by omega) (by omega);generalize l[p]=s at hrow hst hsl;have hpp:((p+1:Nat):Int)-1=p:=by omega
  refine Kp0 ?_;refine Zaa ?_;refine Zab ?_;refine Zaa (Zae [0,2,3,8,9] ?_);simp only [vmL,Nat.reduceEqDiff,reduceCtorEq,List.length_map,hpp,w64 (n:=(p:Int)) (by omega) (by omega),hrow,w64 (n:=1+(s.length:Int)) (by omega) (by omega),w64 (n:=llen l i p+(1+(s.length:Int))) (by omega) (by omega)];refine Ok ?_;rw [← hst];refine Zaa ?_;refine Rp0 [0,2,3,8,9,29] ?_;by_cases hfit:llen l i (p+1)≤w
  ·refine Zac rfl (fun h=>by simp at h;omega) (fun _=>?_);refine Kp0 ?_;refine rp0 [0,2,3,8,9] ?_;refine Zal.mono (hR hfit hS2 hlt2 hnod2 hlive2) ?_;rintro r h' ⟨L3,t3,ht3,rfl,hS3,hnod3,hlt3,hold3,hlive3⟩;refine rp1 [0,2,3,8,9] (ad1 (a:=p+1) (by omega)) ?_;refine ⟨⟨(p+1,L3,t3),by show i≤p+1;omega,ka,by show t≤t3;omega,hfit,hS3,hnod3,hlt3,fun q hq=>?_,hlive3⟩,?_⟩
   ·rcases hold3 q hq with ⟨r,hr,er⟩|h
    ·rcases hold2 r hr with ⟨r',hr',er'⟩|h'
     ·exact .inl ⟨r',hr',er'.trans er⟩
     ·exact .inr (by omega)
    ·exact .inr (by omega)
   ·refine ⟨⟨rfl,rfl⟩,⟨Nat.le_refl _,by simpa using HL.le_app (P:=[]) hnod3 t3⟩,?_⟩;show l.length-(p+1)<l.length-p;omega
  ·refine Zac rfl (fun _=>?_) (fun h=>by simp at h;omega);refine Tp0 ?_;exact ⟨⟨L2,t2⟩,⟨Nat.le_refl _,by simpa using HL.le_app (P:=[]) hnod2 t2⟩,L2,t2,ht2,rfl,⟨p+1,by omega,by omega,hS2,fun h=>by omega⟩,hnod2,hlt2,hold2,hlive2⟩
 ·have ka:p=l.length:=by simp only [decide_eq_false_iff_not] at h1;omega
  subst ka;refine Ep0 ?_;exact ⟨⟨L2,t2⟩,⟨Nat.le_refl _,by simpa using HL.le_app (P:=[]) hnod2 t2⟩,L2,t2,ht2,rfl,⟨l.length+1,by omega,Nat.le_refl _,hS2,fun h=>by omega⟩,hnod2,hlt2,hold2,hlive2⟩
end Go.Proofs.YtcgdjembdjdlhaaGreatDoor.w
