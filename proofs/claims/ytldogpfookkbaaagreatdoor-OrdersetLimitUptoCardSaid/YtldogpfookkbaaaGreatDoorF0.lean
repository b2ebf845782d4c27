import Derived.Test.YtldogpfookkbaaaGreatDoorRdU
import Derived.Test.YtldogpfookkbaaaGreatDoorVmT
import Derived.Test.YtldogpfookkbaaaGreatDoorB4
import Derived.Test.YtldogpfookkbaaaGreatDoorVmBa
import Derived.Test.YtldogpfookkbaaaGreatDoorC7
import Derived.Test.YtldogpfookkbaaaGreatDoorVmC
import Derived.Test.YtldogpfookkbaaaGreatDoorVmZ
import Derived.Test.YtldogpfookkbaaaGreatDoorRows
import Derived.Test.YtldogpfookkbaaaGreatDoorChecked
import Derived.Lib.LaidTab
import Derived.LaidSub
import Derived.KernelRfl
import Derived.OpenShut
import Derived.LaidMore
import Derived.LaidHandle
import Derived.Test.YtldogpfookkbaaaGreatDoorVmAn
set_option linter.all false
set_option maxRecDepth 20000
set_option maxHeartbeats 0
namespace Go.VM
open Go
structure SmI (x : It) : Prop where
 at' : x.at'.length ≤ 12
 tu : x.to.length ≤ 12
 old : x.old.length ≤ 300
 new : x.new.length ≤ 300
 label : x.label.length ≤ 100
 forr : x.forr.length ≤ 100
 start : x.start.Zb2.length ≤ 100
 Zb2 : x.Zb2.length ≤ 100
 by' : x.by'.length ≤ 2
 unit : fewB x.unit 30 = true
 olds : ∀ s ∈ x.old, s.length ≤ 100
 news : ∀ s ∈ x.new, s.length ≤ 100
 ats : ∀ s ∈ x.at', s.label.length ≤ 100
 tos : ∀ s ∈ x.to, s.label.length ≤ 100
structure SmA (a : Ac) : Prop where
 title : a.title.length ≤ 300
 Zb2 : a.start.Zb2.length ≤ 100
 items : ∀ x ∈ a.items, SmI x
def onlyB (q:Prop) (p:PV):Prop:=∃ b:Bool,p=.bool b∧(b=true→q)
theorem onlyB_no {h:Heap} {q:Prop}:∃ p,View h (.bool false) p∧onlyB q p∧Closed p:=⟨_,View.refl _ _,⟨false,rfl,fun h=>by cases h⟩,cB _⟩
theorem onlyB_yes {h:Heap} {q:Prop} (hq:q):∃ p,View h (.bool true) p∧onlyB q p∧Closed p:=⟨_,View.refl _ _,⟨true,rfl,fun _=>hq⟩,cB _⟩
theorem ac_enc (a:Ac):a.enc=[pI a.number,.str a.title,pI a.day,pI a.start.kind,pI a.start.day,.str a.start.Zb2,.sl 25 (a.items.map It.enc)]:=rfl
theorem ib_by (x:It):((x.enc.drop 24).take 1).getD 0 .any=.sl 25 (x.by'.map It.enc):=by rw [It.Zay];rfl
theorem ib_l24 (x:It):(x.enc.drop 24).length=1:=by simp [It.enc_len]
theorem ib_len25 (x:It):x.enc.length=25:=It.enc_len x
theorem ib_take25 (x:It):List.take 25 x.enc=x.enc:=by rw [It.Zay];rfl
theorem ib_rowS {l:List Str} {k:Nat} (h:k<l.length):(l.map fun s=>[PV.str s]).getD k []=[.str l[k]]:=by simp [List.getD_eq_getElem?_getD,h]
end Go.VM
namespace Go.Proofs.YtldogpfookkbaaaGreatDoor.w
open Go Go.VM
def Zbg:VC:=(ZR [ZO 3 (.box 8 (.t 0)),ZO 6 (.mv (.c (.int .i64 0)))] (.seq (ZR [ZM 9 1,ZO 10 (.bin .gtr (.t 9) (.c (.int .i64 20)))] (.cond (.t 10) (ZR [ZM 11 2,ZO 12 (.bin .add (.t 11) (.c (.int .i64 1))),ZM 6 12] .ret) .skip)) (ZR [ZO 7 (.mv (.c (.int .i64 1)))] (.seq (ZR [ZO 8 (.mv (.c (.int .i64 0)))] (.block 0 (.loop (.seq (ZR [ZM 13 8,ZO 14 (.faddr 7 (.t 3)),ZO 15 (.load false 1 (.t 14)),ZO 16 (.len false (.t 15)),ZO 17 (.bin .lss (.t 13) (.t 16)),ZM 18 17,ZG 19 (.mv (.t 7)) 18 true,ZG 20 (.mv (.t 2)) 18 true,ZG 21 (.bin .leq (.t 19) (.t 20)) 18 true,ZO 22 (.pick (.t 18) (.t 21) (.c (.bool false)))] (.cond (.t 22) .skip (.exit 0))) (.seq (.block 1 (.region [ZM 25 7,ZO 26 (.faddr 7 (.t 3)),ZO 27 (.load false 1 (.t 26)),ZM 28 8,ZO 29 (.iaddr 8 (.t 27) (.t 28)),ZO 30 (.load true 8 (.t 29)),ZM 31 1,ZO 32 (.bin .add (.t 31) (.c (.int .i64 1))),ZM 33 2,ZM 34 7,ZO 35 (.bin .sub (.t 33) (.t 34)),ZO 36 (.call 67 [.t 30,.t 32,.t 35]),ZO 37 (.bin .add (.t 25) (.t 36)),ZM 7 37] false)) (.region [ZM 23 8,ZO 24 (.bin .add (.t 23) (.c (.int .i64 1))),ZM 8 24] false)))))) (ZR [ZM 38 7,ZM 6 38] .ret)))))
def c_pandectref06_short:VC:=(ZR [ZO 2 (.mv (.c (.bool false)))] (.seq (ZR [ZO 3 (.mv (.c (.int .i64 0)))] (.block 0 (.loop (.seq (ZR [ZM 4 3,ZM 5 0,ZO 6 (.len false (.t 5)),ZO 7 (.bin .lss (.t 4) (.t 6))] (.cond (.t 7) .skip (.exit 0))) (.seq (.block 1 (ZR [ZM 10 0,ZM 11 3,ZO 12 (.iaddr 4 (.t 10) (.t 11)),ZO 13 (.faddr 0 (.t 12)),ZO 14 (.load false 1 (.t 13)),ZO 15 (.len true (.t 14)),ZO 16 (.bin .gtr (.t 15) (.c (.int .i64 100)))] (.cond (.t 16) (ZR [ZO 2 (.mv (.c (.bool false)))] .ret) .skip))) (.region [ZM 8 3,ZO 9 (.bin .add (.t 8) (.c (.int .i64 1))),ZM 3 9] false)))))) (ZR [ZM 17 0,ZO 18 (.len false (.t 17)),ZO 19 (.bin .leq (.t 18) (.c (.int .i64 300))),ZM 2 19] .ret)))
def c_pandectref06_words:VC:=(ZR [ZO 1 (.box 8 (.t 0)),ZO 2 (.mv (.c (.bool false)))] (.seq (ZR [ZO 4 (.faddr 4 (.t 1)),ZO 5 (.load false 1 (.t 4)),ZO 6 (.len true (.t 5)),ZO 7 (.bin .gtr (.t 6) (.c (.int .i64 30))),ZM 8 7,ZG 9 (.faddr 5 (.t 1)) 8 false,ZG 10 (.load false 1 (.t 9)) 8 false,ZG 11 (.call 87 [.t 10]) 8 false,ZG 12 (.un .not (.t 11)) 8 false,ZO 13 (.pick (.t 8) (.c (.bool true)) (.t 12)),ZM 14 13,ZG 15 (.faddr 6 (.t 1)) 14 false,ZG 16 (.load false 1 (.t 15)) 14 false,ZG 17 (.call 87 [.t 16]) 14 false,ZG 18 (.un .not (.t 17)) 14 false,ZO 19 (.pick (.t 14) (.c (.bool true)) (.t 18))] (.cond (.t 19) (ZR [ZO 2 (.mv (.c (.bool false)))] .ret) .skip)) (.seq (ZR [ZO 3 (.mv (.c (.int .i64 0)))] (.block 0 (.loop (.seq (ZR [ZM 20 3,ZO 21 (.faddr 7 (.t 1)),ZO 22 (.load false 1 (.t 21)),ZO 23 (.len false (.t 22)),ZO 24 (.bin .lss (.t 20) (.t 23))] (.cond (.t 24) .skip (.exit 0))) (.seq (.block 1 (ZR [ZO 27 (.faddr 7 (.t 1)),ZO 28 (.load false 1 (.t 27)),ZM 29 3,ZO 30 (.iaddr 8 (.t 28) (.t 29)),ZO 31 (.load true 8 (.t 30)),ZO 32 (.call 68 [.t 31]),ZO 33 (.un .not (.t 32))] (.cond (.t 33) (ZR [ZO 2 (.mv (.c (.bool false)))] .ret) .skip))) (.region [ZM 25 3,ZO 26 (.bin .add (.t 25) (.c (.int .i64 1))),ZM 3 26] false)))))) (ZR [ZO 2 (.mv (.c (.bool true)))] .ret))))
def c_pandectref06_Few:VC:=(ZR [ZO 2 (.box 8 (.t 0)),ZO 4 (.mv (.c (.bool false)))] (ZR [ZO 5 (.load true 8 (.t 2)),ZM 6 1,ZO 7 (.call 67 [.t 5,(.c (.int .i64 0)),.t 6]),ZM 8 1,ZO 9 (.bin .leq (.t 7) (.t 8)),ZM 10 9,ZG 11 (.load true 8 (.t 2)) 10 true,ZG 12 (.call 68 [.t 11]) 10 true,ZO 13 (.pick (.t 10) (.t 12) (.c (.bool false))),ZM 4 13] .ret))
theorem sp_ref06_size:∀ (d:Nat) (u:Un) (m:Int),d≤21→0≤m→m≤1000→Zaj Tryz.prog 67 [.agg u.enc,pI (21-(d:Int)),pI m] (pI (sizeT d u m))
 | 0,u,m,hd,h0,h1=>by
  have e:(21:Int)-((0:Nat):Int)=21:=rfl;rw [e];refine Gp (vc:=Zbg) [.t 6] (cI _) Tryz.func67 ?_;unfold Zbg;try dsimp only [ZM,ZO,ZN,ZG,ZR,ZU]
  rw [Un.Zay];refine Rp0 [1,2,3] ?_;refine Zab ?_;refine Rp0 [1,2,3,10] ?_;refine Zaf rfl (fun h1=>?_) (fun h1=>by cases h1);refine Rp1 [6] (w64 (n:=m+1) (by omega) (by omega)) ?_;refine Tp0 ?_;rw [sizeT];exact View.refl _ _
 | d+1,u,m,hd,h0,h1=>by
  have A:=fun k m' a b=>sp_ref06_size d k m' (by omega) a b;have hb:=fun k m' h=>sizeT_bd d k m' h;rw [sizeT];generalize sizeT d=f at A hb ⊢;obtain ⟨D,hD⟩:∃ D:Int,D=21-((d+1:Nat):Int):=⟨_,rfl⟩;have hD1:21-(d:Int)=D+1:=by omega
  rw [← hD];rw [hD1] at A;have hD0:0≤D∧D≤20:=by omega
  clear hD hD1;refine Gp (vc:=Zbg) [.t 6] (cI _) Tryz.func67 ?_;unfold Zbg;try dsimp only [ZM,ZO,ZN,ZG,ZR,ZU]
  rw [Un.Zay];refine Rp0 [1,2,3] ?_;refine Zaz [(1,pI D),(2,pI m),(3,.ro [pI u.act,pI u.item,pI u.n,pI u.kind,.str u.label,.sl 4 (u.head.map Wd.enc),.sl 4 (u.words.map Wd.enc),.sl 8 (u.kids.map Un.enc)])] ⟨View.refl _ _,View.refl _ _,View.loc (z:=8) (fz:=false) (es:=[[pI u.act,pI u.item,pI u.n,pI u.kind,.str u.label,.sl 4 (u.head.map Wd.enc),.sl 4 (u.words.map Wd.enc),.sl 8 (u.kids.map Un.enc)]]) rfl (by simp) rfl (by simp),trivial⟩ ?_;generalize u.head.map Wd.enc=EH;generalize u.words.map Wd.enc=EW;generalize u.kids=L;refine Zab ?_;refine Rp0 [1,2,3,10] ?_;refine Zaf rfl (fun h1=>by simp at h1;omega) (fun h1=>?_);refine Kp0 ?_;refine Rp0 [1,2,3,7] ?_;refine Zab ?_;refine Rp0 [1,2,3,7,8] ?_;refine Zac ?_;refine Zao (σ:={ x:Nat×Nat//x.1≤L.length∧(x.1:Int)+1≤m+2 }) (fun x=>([(1,pI D),(2,pI m),(3,.ro [pI u.act,pI u.item,pI u.n,pI u.kind,.str u.label,.sl 4 EH,.sl 4 EW,.sl 8 (L.map Un.enc)]),(7,pI ((L.take x.1.1).foldl (Zbj f m) 1)),(8,pI x.1.1)],⟨[],x.1.2⟩)) (fun x=>L.length-x.1.1) ⟨(0,1),Nat.zero_le _,by simp;omega⟩ ?_ ?_ ?_
  ·exact Fn0
  ·exact Sc0
  rintro ⟨⟨k,t⟩,hk,hk2⟩;simp only [] at hk hk2 ⊢;have hn:=sizeF_bd (f:=f) (m:=m) (fun k m' h=>hb k m' h) (L.take k) 1 (Int.le_refl _) (by omega);generalize hN:(L.take k).foldl (Zbj f m) 1=n at hn ⊢;by_cases ka:k<L.length
  ·have hc:decide ((k:Int)<(L.length:Int))=true:=by simp;omega
   by_cases kn:n≤m
   ·have hc2:decide (n≤m)=true:=by simpa using kn
    have hst:=sizeF_step f m ka;rw [hN] at hst;have hs2:Zbj f m n L[k]=n+f L[k] (m-n):=by unfold Zbj;rw [if_pos kn]
    rw [hs2] at hst;have hrow:(L.map Un.enc).getD k []=L[k].enc:=rowm ka;have R:=A L[k] (m-n) (by omega) (by omega);have hr:=hb L[k] (m-n) (by omega);have hlow:=sizeF_low (f:=f) (m:=m) (fun k m' h=>(hb k m' h).1) (L.take k) 1 (by rw [hN];exact kn);rw [hN,List.length_take] at hlow;generalize L[k]=v at hst hs2 hrow R hr;rw [Un.Zay] at hrow R;generalize f v (m-n)=s at hst R hr;refine Zab ?_;refine Rp1 [1,2,3,7,8,22] (x3 @xlm hc hc2) ?_;refine Ct ?_;refine Kp0 ?_;refine Zab ?_;refine Zac ?_;refine rp1 [1,2,3,7,8] (x4 @xlm hrow (w64 (n:=m-n) (by omega) (by omega)) (w64 (n:=D+1) (by omega) (by omega))) ?_;refine ⟨by omega,?_⟩;refine Ap1 R (w64 (n:=n+s) (by omega) (by omega)) ?_;refine rp1 [1,2,3,7,8] (ad1 (a:=k) (by omega)) ?_;refine ⟨⟨(k+1,t),ka,by simp only [];omega⟩,?_⟩;simp only [hst]
    all_goals exact Fn0
   ·have hc2:decide (n≤m)=false:=by simpa using kn
    have hst:L.foldl (Zbj f m) 1=n:=by
     have e:L=L.take k++L.drop k:=(List.take_append_drop _ _).symm;rw [e,List.foldl_append,hN];exact sizeF_stop f m _ n (by omega)
    rw [hst];refine Zab ?_;refine Rp1 [1,2,3,7,8,22] (x3 @xlm hc hc2) ?_;refine Cf ?_;refine Ep0 ?_;exact Rv0 [6]
  ·have hc:decide ((k:Int)<(L.length:Int))=false:=by simp;omega
   obtain rfl:k=L.length:=by omega
   rw [List.take_length] at hN;rw [hN];refine Zab ?_;refine Rp1 [1,2,3,7,8,22] (x2 @xlm hc) ?_;refine Cf ?_;refine Ep0 ?_;exact Rv0 [6]
theorem sp_ref06_short (l:List Wd) (hl:l.length≤1048576) (ht:∀ w∈l,w.text.length≤1048576):Zaj Tryz.prog 87 [.sl 4 (l.map Wd.enc)] (.bool (shortB l)):=by
 have h3:decide ((l.length:Int)≤300)=decide (l.length≤300):=decide_eq_decide.2 (by omega);refine Gp (vc:=c_pandectref06_short) [.t 2] (cB _) Tryz.func87 ?_;unfold c_pandectref06_short;try dsimp only [ZM,ZO,ZN,ZG,ZR,ZU]
 refine Rp0 [0] ?_;refine Zab ?_;refine Rp0 [0,3] ?_;refine Zac ?_;refine Zao (σ:={ k:Nat//k≤l.length∧(l.all fun w=>decide (w.text.length≤100))=((l.drop k).all fun w=>decide (w.text.length≤100)) }) (fun x=>([(0,.sl 4 (l.map Wd.enc)),(3,pI x.1)],⟨[],0⟩)) (fun x=>l.length-x.1) ⟨0,Nat.zero_le _,rfl⟩ ?_ ?_ ?_
 ·refine Sp0 ?_;rfl
 ·exact Sc0
 rintro ⟨k,hk,hpre⟩;simp only [];refine Zab ?_;refine Rp1 [0,3,7] @xlm ?_;refine Zaf rfl (fun h1=>?_) (fun h1=>?_)
 ·have ka:k<l.length:=by simp only [decide_eq_true_eq] at h1;omega
  have hd:l.drop k=l[k]::l.drop (k+1):=List.drop_eq_getElem_cons ka;have htk:=ht _ (List.getElem_mem ka);rw [hd,List.all_cons] at hpre;have h2:decide ((100:Int)<(l[k].text.length:Int)) = !(decide (l[k].text.length≤100)):=by
   by_cases h:l[k].text.length≤100
   ·rw [decide_eq_true h,decide_eq_false (by omega)];rfl
   ·rw [decide_eq_false h,decide_eq_true (by omega)];rfl
  refine Kp0 ?_;refine Zab ?_;refine Zac ?_;refine Zab (Zag [0,3,16] ?_);simp only [vmL,Nat.reduceEqDiff,Nat.reduceAdd,Nat.reduceLeDiff,reduceCtorEq,List.length_map,rowm ka,Wd.enc,h2];refine Ok ?_;cases hq:decide (l[k].text.length≤100) with
  | false =>
   refine Ct ?_;refine Rp0 [2] ?_;refine Tp0 ?_;unfold shortB;rw [hpre,hq];exact View.refl _ _
  | true =>
   rw [hq,Bool.true_and] at hpre;refine Fp0 ?_;refine rp1 [0,3] (w64 (n:=(k:Int)+1) (by omega) (by omega)) ?_;refine ⟨⟨k+1,ka,hpre⟩,?_,?_⟩
   ·rfl
   ·simp only [];omega
 ·have ka:k=l.length:=by simp only [decide_eq_false_iff_not] at h1;omega
  subst ka;rw [List.drop_length] at hpre;refine Ep0 ?_;refine Rp1 [2] (x2 @xlm h3) ?_;refine Tp0 ?_;unfold shortB;rw [hpre];exact View.refl _ _
theorem wordsB_eq (u:Un):wordsB u=(briefB u&&u.kids.all wordsB):=unitsT_all briefB u
theorem sp_ref06_words {u:Un} (hu:UnB u):Zaj Tryz.prog 68 [.agg u.enc] (.bool (wordsB u)):=by
 induction hu with
 | mk u h hl hh hw hk hs ih =>
  have H:=sp_ref06_short u.head hh.1 (fun w hw=>(hh.2 w hw).text);have W:=sp_ref06_short u.words hw.1 (fun w hx=>(hw.2 w hx).text);have h2:decide ((30:Int)<(u.label.length:Int)) = !(decide (u.label.length≤30)):=by
   by_cases h:u.label.length≤30
   ·rw [decide_eq_true h,decide_eq_false (by omega)];rfl
   ·rw [decide_eq_false h,decide_eq_true (by omega)];rfl
  rw [wordsB_eq];have hbr:briefB u=(decide (u.label.length≤30)&&(shortB u.head&&shortB u.words)):=rfl;rw [hbr];refine Gp (vc:=c_pandectref06_words) [.t 2] (cB _) Tryz.func68 ?_;unfold c_pandectref06_words;try dsimp only [ZM,ZO,ZN,ZG,ZR,ZU]
  rw [Un.Zay];refine Rp0 [1] ?_;refine Zaz [(1,.ro [pI u.act,pI u.item,pI u.n,pI u.kind,.str u.label,.sl 4 (u.head.map Wd.enc),.sl 4 (u.words.map Wd.enc),.sl 8 (u.kids.map Un.enc)])] ⟨View.loc (z:=8) (fz:=false) (es:=[[pI u.act,pI u.item,pI u.n,pI u.kind,.str u.label,.sl 4 (u.head.map Wd.enc),.sl 4 (u.words.map Wd.enc),.sl 8 (u.kids.map Un.enc)]]) rfl (by simp) rfl (by simp),trivial⟩ ?_;generalize u.head.map Wd.enc=EH at H ⊢;generalize u.words.map Wd.enc=EW at W ⊢;generalize u.kids=L at hk hs ih ⊢;generalize shortB u.head=bh at H ⊢;generalize shortB u.words=bw at W ⊢;clear hbr;refine Zab ?_;cases d1:decide (u.label.length≤30) with
  | false =>
   rw [d1] at h2;refine Rp1 [1,19] h2 ?_;refine Ct ?_;exact Rv0 [2]
  | true =>
  rw [d1] at h2;cases bh with
  | false =>
   refine Rp1 [1,19] h2 ?_;refine Ap0 H ?_;refine Ct ?_;exact Rv0 [2]
  | true =>
  cases bw with
  | false =>
   refine Rp1 [1,19] h2 ?_;refine Ap0 H ?_;refine Ap0 W ?_;refine Ct ?_;exact Rv0 [2]
  | true =>
  refine Rp1 [1,19] h2 ?_;refine Ap0 H ?_;refine Ap0 W ?_;refine Fp0 ?_;refine Zab ?_;refine Rp0 [1,3] ?_;refine Zac ?_;refine Zao (σ:={ x:Nat×Nat//x.1≤L.length∧L.all wordsB=(L.drop x.1).all wordsB }) (fun x=>([(1,.ro [pI u.act,pI u.item,pI u.n,pI u.kind,.str u.label,.sl 4 EH,.sl 4 EW,.sl 8 (L.map Un.enc)]),(3,pI x.1.1)],⟨[],x.1.2⟩)) (fun x=>L.length-x.1.1) ⟨(0,1),Nat.zero_le _,rfl⟩ ?_ ?_ ?_
  ·exact Fn0
  ·exact Sc0
  rintro ⟨⟨k,t⟩,hkk,hpre⟩;simp only [] at hkk hpre ⊢;refine Zab ?_;refine Rp1 [1,3,24] @xlm ?_;refine Zaf rfl (fun h1=>?_) (fun h1=>?_)
  ·have ka:k<L.length:=by simp only [decide_eq_true_eq] at h1;omega
   have hd:L.drop k=L[k]::L.drop (k+1):=List.drop_eq_getElem_cons ka;rw [hd,List.all_cons] at hpre;have hrow:(L.map Un.enc).getD k []=L[k].enc:=rowm ka;have R:=ih _ (List.getElem_mem ka);generalize L[k]=v at hpre hrow R;rw [Un.Zay] at hrow R;refine Kp0 ?_;refine Zab ?_;refine Zac ?_;refine Rp1 [1,3,33] (x2 @xlm hrow) ?_;refine Ok ?_;refine Ap0 R ?_;cases hq:wordsB v with
   | false =>
    refine Ct ?_;refine Rp0 [2] ?_;refine Tp0 ?_;rw [hpre,hq];exact View.refl _ _
   | true =>
    rw [hq,Bool.true_and] at hpre;refine Fp0 ?_;refine rp1 [1,3] (ad1 (a:=k) (by omega)) ?_;refine ⟨⟨(k+1,t),ka,hpre⟩,?_⟩;exact Fn0
  ·have ka:k=L.length:=by simp only [decide_eq_false_iff_not] at h1;omega
   subst ka;rw [List.drop_length] at hpre;refine Ep0 ?_;refine Rp0 [2] ?_;refine Tp0 ?_;rw [hpre];exact View.refl _ _
theorem sp_ref06_Few {u:Un} (hu:UnB u) (m:Int) (h0:0≤m) (h1:m≤1000):Zaj Tryz.prog 56 [.agg u.enc,pI m] (.bool (fewB u m)):=by
 have S:=sp_ref06_size 21 u m (Nat.le_refl _) h0 h1;have e:(21:Int)-((21:Nat):Int)=0:=rfl;rw [e] at S;have W:=sp_ref06_words hu;unfold fewB;refine Gp (vc:=c_pandectref06_Few) [.t 4] (cB _) Tryz.func56 ?_;unfold c_pandectref06_Few;try dsimp only [ZM,ZO,ZN,ZG,ZR,ZU]
 rw [Un.Zay] at S W ⊢;refine Rp0 [1,2] ?_;cases d1:decide (sizeT 21 u m≤m) with
 | false =>
  refine Rp0 [4] ?_;refine Za8 S ?_;try simp only [vmL,Nat.reduceEqDiff,d1]
  exact Tv0
 | true =>
  refine Rp0 [4] ?_;refine Za8 S ?_;try simp only [vmL,Nat.reduceEqDiff,Nat.reduceAdd,Nat.reduceLT,d1]
  refine Za8 W ?_;exact Tv0
end Go.Proofs.YtldogpfookkbaaaGreatDoor.w
namespace Go.Proofs.YtldogpfookkbaaaGreatDoor.w
open Go Go.VM
def c_pandectref17_Few:VC:=(ZR [ZO 1 (.box 25 (.t 0)),ZO 2 (.mv (.c (.bool false)))] (.seq (ZR [ZO 8 (.faddr 1 (.t 1)),ZO 9 (.load false 1 (.t 8)),ZO 10 (.len false (.t 9)),ZO 11 (.bin .gtr (.t 10) (.c (.int .i64 12))),ZM 12 11,ZG 13 (.faddr 2 (.t 1)) 12 false,ZG 14 (.load false 1 (.t 13)) 12 false,ZG 15 (.len false (.t 14)) 12 false,ZG 16 (.bin .gtr (.t 15) (.c (.int .i64 12))) 12 false,ZO 17 (.pick (.t 12) (.c (.bool true)) (.t 16)),ZM 18 17,ZG 19 (.faddr 13 (.t 1)) 18 false,ZG 20 (.load false 1 (.t 19)) 18 false,ZG 21 (.len false (.t 20)) 18 false,ZG 22 (.bin .gtr (.t 21) (.c (.int .i64 300))) 18 false,ZO 23 (.pick (.t 18) (.c (.bool true)) (.t 22)),ZM 24 23,ZG 25 (.faddr 14 (.t 1)) 24 false,ZG 26 (.load false 1 (.t 25)) 24 false,ZG 27 (.len false (.t 26)) 24 false,ZG 28 (.bin .gtr (.t 27) (.c (.int .i64 300))) 24 false,ZO 29 (.pick (.t 24) (.c (.bool true)) (.t 28)),ZM 30 29,ZG 31 (.faddr 15 (.t 1)) 30 false,ZG 32 (.load false 1 (.t 31)) 30 false,ZG 33 (.len true (.t 32)) 30 false,ZG 34 (.bin .gtr (.t 33) (.c (.int .i64 100))) 30 false,ZO 35 (.pick (.t 30) (.c (.bool true)) (.t 34)),ZM 36 35,ZG 37 (.faddr 16 (.t 1)) 36 false,ZG 38 (.load false 1 (.t 37)) 36 false,ZG 39 (.len true (.t 38)) 36 false,ZG 40 (.bin .gtr (.t 39) (.c (.int .i64 100))) 36 false,ZO 41 (.pick (.t 36) (.c (.bool true)) (.t 40)),ZM 42 41,ZG 43 (.faddr 17 (.t 1)) 42 false,ZG 44 (.faddr 2 (.t 43)) 42 false,ZG 45 (.load false 1 (.t 44)) 42 false,ZG 46 (.len true (.t 45)) 42 false,ZG 47 (.bin .gtr (.t 46) (.c (.int .i64 100))) 42 false,ZO 48 (.pick (.t 42) (.c (.bool true)) (.t 47)),ZM 49 48,ZG 50 (.faddr 23 (.t 1)) 49 false,ZG 51 (.load false 1 (.t 50)) 49 false,ZG 52 (.len true (.t 51)) 49 false,ZG 53 (.bin .gtr (.t 52) (.c (.int .i64 100))) 49 false,ZO 54 (.pick (.t 49) (.c (.bool true)) (.t 53)),ZM 55 54,ZG 56 (.faddr 24 (.t 1)) 55 false,ZG 57 (.load false 1 (.t 56)) 55 false,ZG 58 (.len false (.t 57)) 55 false,ZG 59 (.bin .gtr (.t 58) (.c (.int .i64 2))) 55 false,ZO 60 (.pick (.t 55) (.c (.bool true)) (.t 59)),ZM 61 60,ZG 62 (.faddr 5 (.t 1)) 61 false,ZG 63 (.load true 8 (.t 62)) 61 false,ZG 64 (.call 56 [.t 63,(.c (.int .i64 30))]) 61 false,ZG 65 (.un .not (.t 64)) 61 false,ZO 66 (.pick (.t 61) (.c (.bool true)) (.t 65))] (.cond (.t 66) (ZR [ZO 2 (.mv (.c (.bool false)))] .ret) .skip)) (.seq (ZR [ZO 3 (.mv (.c (.int .i64 0)))] (.block 0 (.loop (.seq (ZR [ZM 67 3,ZO 68 (.faddr 13 (.t 1)),ZO 69 (.load false 1 (.t 68)),ZO 70 (.len false (.t 69)),ZO 71 (.bin .lss (.t 67) (.t 70))] (.cond (.t 71) .skip (.exit 0))) (.seq (.block 1 (ZR [ZO 74 (.faddr 13 (.t 1)),ZO 75 (.load false 1 (.t 74)),ZM 76 3,ZO 77 (.iaddr 1 (.t 75) (.t 76)),ZO 78 (.load false 1 (.t 77)),ZO 79 (.len true (.t 78)),ZO 80 (.bin .gtr (.t 79) (.c (.int .i64 100)))] (.cond (.t 80) (ZR [ZO 2 (.mv (.c (.bool false)))] .ret) .skip))) (.region [ZM 72 3,ZO 73 (.bin .add (.t 72) (.c (.int .i64 1))),ZM 3 73] false)))))) (.seq (ZR [ZO 4 (.mv (.c (.int .i64 0)))] (.block 2 (.loop (.seq (ZR [ZM 81 4,ZO 82 (.faddr 14 (.t 1)),ZO 83 (.load false 1 (.t 82)),ZO 84 (.len false (.t 83)),ZO 85 (.bin .lss (.t 81) (.t 84))] (.cond (.t 85) .skip (.exit 2))) (.seq (.block 3 (ZR [ZO 88 (.faddr 14 (.t 1)),ZO 89 (.load false 1 (.t 88)),ZM 90 4,ZO 91 (.iaddr 1 (.t 89) (.t 90)),ZO 92 (.load false 1 (.t 91)),ZO 93 (.len true (.t 92)),ZO 94 (.bin .gtr (.t 93) (.c (.int .i64 100)))] (.cond (.t 94) (ZR [ZO 2 (.mv (.c (.bool false)))] .ret) .skip))) (.region [ZM 86 4,ZO 87 (.bin .add (.t 86) (.c (.int .i64 1))),ZM 4 87] false)))))) (.seq (ZR [ZO 5 (.mv (.c (.int .i64 0)))] (.block 4 (.loop (.seq (ZR [ZM 95 5,ZO 96 (.faddr 1 (.t 1)),ZO 97 (.load false 1 (.t 96)),ZO 98 (.len false (.t 97)),ZO 99 (.bin .lss (.t 95) (.t 98))] (.cond (.t 99) .skip (.exit 4))) (.seq (.block 5 (ZR [ZO 102 (.faddr 1 (.t 1)),ZO 103 (.load false 1 (.t 102)),ZM 104 5,ZO 105 (.iaddr 2 (.t 103) (.t 104)),ZO 106 (.faddr 1 (.t 105)),ZO 107 (.load false 1 (.t 106)),ZO 108 (.len true (.t 107)),ZO 109 (.bin .gtr (.t 108) (.c (.int .i64 100)))] (.cond (.t 109) (ZR [ZO 2 (.mv (.c (.bool false)))] .ret) .skip))) (.region [ZM 100 5,ZO 101 (.bin .add (.t 100) (.c (.int .i64 1))),ZM 5 101] false)))))) (.seq (ZR [ZO 6 (.mv (.c (.int .i64 0)))] (.block 6 (.loop (.seq (ZR [ZM 110 6,ZO 111 (.faddr 2 (.t 1)),ZO 112 (.load false 1 (.t 111)),ZO 113 (.len false (.t 112)),ZO 114 (.bin .lss (.t 110) (.t 113))] (.cond (.t 114) .skip (.exit 6))) (.seq (.block 7 (ZR [ZO 117 (.faddr 2 (.t 1)),ZO 118 (.load false 1 (.t 117)),ZM 119 6,ZO 120 (.iaddr 2 (.t 118) (.t 119)),ZO 121 (.faddr 1 (.t 120)),ZO 122 (.load false 1 (.t 121)),ZO 123 (.len true (.t 122)),ZO 124 (.bin .gtr (.t 123) (.c (.int .i64 100)))] (.cond (.t 124) (ZR [ZO 2 (.mv (.c (.bool false)))] .ret) .skip))) (.region [ZM 115 6,ZO 116 (.bin .add (.t 115) (.c (.int .i64 1))),ZM 6 116] false)))))) (.seq (ZR [ZO 7 (.mv (.c (.int .i64 0)))] (.block 8 (.loop (.seq (ZR [ZM 125 7,ZO 126 (.faddr 24 (.t 1)),ZO 127 (.load false 1 (.t 126)),ZO 128 (.len false (.t 127)),ZO 129 (.bin .lss (.t 125) (.t 128))] (.cond (.t 129) .skip (.exit 8))) (.seq (.block 9 (ZR [ZO 132 (.faddr 24 (.t 1)),ZO 133 (.load false 1 (.t 132)),ZM 134 7,ZO 135 (.iaddr 25 (.t 133) (.t 134)),ZO 136 (.faddr 24 (.t 135)),ZO 137 (.load false 1 (.t 136)),ZO 138 (.len false (.t 137)),ZO 139 (.bin .gtr (.t 138) (.c (.int .i64 0))),ZM 140 139,ZG 141 (.faddr 24 (.t 1)) 140 true,ZG 142 (.load false 1 (.t 141)) 140 true,ZG 143 (.mv (.t 7)) 140 true,ZG 144 (.iaddr 25 (.t 142) (.t 143)) 140 true,ZG 145 (.faddr 24 (.t 144)) 140 true,ZG 146 (.load false 1 (.t 145)) 140 true,ZG 147 (.iaddr 25 (.t 146) (.c (.int .i64 0))) 140 true,ZG 148 (.faddr 24 (.t 147)) 140 true,ZG 149 (.load false 1 (.t 148)) 140 true,ZG 150 (.len false (.t 149)) 140 true,ZG 151 (.bin .gtr (.t 150) (.c (.int .i64 0))) 140 true,ZO 152 (.pick (.t 140) (.t 151) (.c (.bool false))),ZM 153 152,ZG 154 (.faddr 24 (.t 1)) 153 false,ZG 155 (.load false 1 (.t 154)) 153 false,ZG 156 (.mv (.t 7)) 153 false,ZG 157 (.iaddr 25 (.t 155) (.t 156)) 153 false,ZG 158 (.load true 25 (.t 157)) 153 false,ZG 159 (.call 58 [.t 158]) 153 false,ZG 160 (.un .not (.t 159)) 153 false,ZO 161 (.pick (.t 153) (.c (.bool true)) (.t 160))] (.cond (.t 161) (ZR [ZO 2 (.mv (.c (.bool false)))] .ret) .skip))) (.region [ZM 130 7,ZO 131 (.bin .add (.t 130) (.c (.int .i64 1))),ZM 7 131] false)))))) (ZR [ZO 2 (.mv (.c (.bool true)))] .ret))))))))
theorem sp_few17 {x:It} (hx:ItB x):PCallS Tryz.prog 58 [.agg x.enc] (onlyB (SmI x)):=by
 induction hx with
 | mk x h1 h2 h3 h4 h5 h6 h7 h8 h9 h10 h11 h12 h13 h14 h15 h16 h17 ih =>
 have ex:=It.Zay x;have hu:=sp_ref06_Few h6 30 (by omega) (by omega);have eu:=Un.Zay x.unit;rw [eu] at hu;have l1:=h2.1;have l2:=h3.1;have l3:=h7.1;have l4:=h8.1;refine PCallS_intro ?_ (by intro y hy;rw [List.mem_singleton] at hy;subst hy;exact Zau (It.closed _));refine Gn (vc:=c_pandectref17_Few) [.t 2] Tryz.func58 ?_;unfold c_pandectref17_Few;try dsimp only [ZM,ZO,ZN,ZG,ZR,ZU]
 refine Rp1 [1] ex ?_;refine Zab ?_;refine VW_seqE (σ:={ b:Bool//b=false→(x.at'.length≤12∧x.to.length≤12∧x.old.length≤300∧x.new.length≤300∧x.label.length≤100∧x.forr.length≤100∧x.start.Zb2.length≤100∧x.Zb2.length≤100∧x.by'.length≤2)∧fewB x.unit 30=true }) [1,66] (fun s=>[(1,.loc 0 0 0),(66,.bool s.1)]) ?_ (fun b=>?_)
 ·by_cases c0:12<x.at'.length
  ·have g0:decide ((12:Int)<(x.at'.length:Int))=true:=decide_eq_true (by omega);simp only [vmL,Nat.reduceEqDiff,Nat.reduceAdd,Nat.reduceLT,Nat.reduceLeDiff,Nat.reduceSub,Nat.reduceMul,reduceIte,reduceCtorEq,Int.reduceToNat,It.strs,List.length_map,g0];exact ⟨⟨true,fun h=>by cases h⟩,by first|trivial|rfl⟩
  have g0:decide ((12:Int)<(x.at'.length:Int))=false:=decide_eq_false (by omega);by_cases c1:12<x.to.length
  ·have g1:decide ((12:Int)<(x.to.length:Int))=true:=decide_eq_true (by omega);simp only [vmL,Nat.reduceEqDiff,Nat.reduceAdd,Nat.reduceLT,Nat.reduceLeDiff,Nat.reduceSub,Nat.reduceMul,reduceIte,reduceCtorEq,Int.reduceToNat,It.strs,List.length_map,g0,g1];exact ⟨⟨true,fun h=>by cases h⟩,by first|trivial|rfl⟩
  have g1:decide ((12:Int)<(x.to.length:Int))=false:=decide_eq_false (by omega);by_cases c2:300<x.old.length
  ·have g2:decide ((300:Int)<(x.old.length:Int))=true:=decide_eq_true (by omega);simp only [vmL,Nat.reduceEqDiff,Nat.reduceAdd,Nat.reduceLT,Nat.reduceLeDiff,Nat.reduceSub,Nat.reduceMul,reduceIte,reduceCtorEq,Int.reduceToNat,It.strs,List.length_map,g0,g1,g2];exact ⟨⟨true,fun h=>by cases h⟩,by first|trivial|rfl⟩
  have g2:decide ((300:Int)<(x.old.length:Int))=false:=decide_eq_false (by omega);by_cases c3:300<x.new.length
  ·have g3:decide ((300:Int)<(x.new.length:Int))=true:=decide_eq_true (by omega);simp only [vmL,Nat.reduceEqDiff,Nat.reduceAdd,Nat.reduceLT,Nat.reduceLeDiff,Nat.reduceSub,Nat.reduceMul,reduceIte,reduceCtorEq,Int.reduceToNat,It.strs,List.length_map,g0,g1,g2,g3];exact ⟨⟨true,fun h=>by cases h⟩,by first|trivial|rfl⟩
  have g3:decide ((300:Int)<(x.new.length:Int))=false:=decide_eq_false (by omega);by_cases c4:100<x.label.length
  ·have g4:decide ((100:Int)<(x.label.length:Int))=true:=decide_eq_true (by omega);simp only [vmL,Nat.reduceEqDiff,Nat.reduceAdd,Nat.reduceLT,Nat.reduceLeDiff,Nat.reduceSub,Nat.reduceMul,reduceIte,reduceCtorEq,Int.reduceToNat,It.strs,List.length_map,g0,g1,g2,g3,g4];exact ⟨⟨true,fun h=>by cases h⟩,by first|trivial|rfl⟩
  have g4:decide ((100:Int)<(x.label.length:Int))=false:=decide_eq_false (by omega);by_cases c5:100<x.forr.length
  ·have g5:decide ((100:Int)<(x.forr.length:Int))=true:=decide_eq_true (by omega);simp only [vmL,Nat.reduceEqDiff,Nat.reduceAdd,Nat.reduceLT,Nat.reduceLeDiff,Nat.reduceSub,Nat.reduceMul,reduceIte,reduceCtorEq,Int.reduceToNat,It.strs,List.length_map,g0,g1,g2,g3,g4,g5];exact ⟨⟨true,fun h=>by cases h⟩,by first|trivial|rfl⟩
  have g5:decide ((100:Int)<(x.forr.length:Int))=false:=decide_eq_false (by omega);by_cases c6:100<x.start.Zb2.length
  ·have g6:decide ((100:Int)<(x.start.Zb2.length:Int))=true:=decide_eq_true (by omega);simp only [vmL,Nat.reduceEqDiff,Nat.reduceAdd,Nat.reduceLT,Nat.reduceLeDiff,Nat.reduceSub,Nat.reduceMul,reduceIte,reduceCtorEq,Int.reduceToNat,It.strs,List.length_map,g0,g1,g2,g3,g4,g5,g6];exact ⟨⟨true,fun h=>by cases h⟩,by first|trivial|rfl⟩
  have g6:decide ((100:Int)<(x.start.Zb2.length:Int))=false:=decide_eq_false (by omega);by_cases c7:100<x.Zb2.length
  ·have g7:decide ((100:Int)<(x.Zb2.length:Int))=true:=decide_eq_true (by omega);simp only [vmL,Nat.reduceEqDiff,Nat.reduceAdd,Nat.reduceLT,Nat.reduceLeDiff,Nat.reduceSub,Nat.reduceMul,reduceIte,reduceCtorEq,Int.reduceToNat,It.strs,List.length_map,g0,g1,g2,g3,g4,g5,g6,g7];exact ⟨⟨true,fun h=>by cases h⟩,by first|trivial|rfl⟩
  have g7:decide ((100:Int)<(x.Zb2.length:Int))=false:=decide_eq_false (by omega);by_cases c8:2<x.by'.length
  ·have g8:decide ((2:Int)<(x.by'.length:Int))=true:=decide_eq_true (by omega);simp only [vmL,Nat.reduceEqDiff,Nat.reduceAdd,Nat.reduceLT,Nat.reduceLeDiff,Nat.reduceSub,Nat.reduceMul,reduceIte,reduceCtorEq,Int.reduceToNat,It.strs,List.length_map,g0,g1,g2,g3,g4,g5,g6,g7,g8];exact ⟨⟨true,fun h=>by cases h⟩,by first|trivial|rfl⟩
  have g8:decide ((2:Int)<(x.by'.length:Int))=false:=decide_eq_false (by omega);simp only [vmL,Nat.reduceEqDiff,Nat.reduceAdd,Nat.reduceLT,Nat.reduceLeDiff,Nat.reduceSub,Nat.reduceMul,reduceIte,reduceCtorEq,Int.reduceToNat,It.strs,List.length_map,g0,g1,g2,g3,g4,g5,g6,g7,g8];refine Ap0 hu ?_;exact ⟨⟨!(fewB x.unit 30),fun h=>⟨⟨by omega,by omega,by omega,by omega,by omega,by omega,by omega,by omega,by omega⟩,by simpa using h⟩⟩,by first|trivial|rfl⟩
 obtain ⟨b,hb0⟩:=b;simp only [];refine Zaf rfl (fun h1=>?_) (fun h1=>?_)
 ·refine Rp0 [2] ?_;refine Tp0 ?_;exact onlyB_no
 obtain ⟨⟨q1,q2,q3,q4,q5,q6,q7,q8,q9⟩,qu⟩:=hb0 h1;refine Kp0 ?_;clear hu;refine Zab ?_;refine Rp0 [1,3] ?_;refine Zac ?_;refine Zao (σ:={ i:Nat//i≤x.old.length∧∀ (j:Nat) (hj:j<x.old.length),j<i→x.old[j].length≤100 }) (fun s=>([(1,.loc 0 0 0),(3,pI s.1)],⟨[(0,.arr false 25 [x.enc])],1⟩)) (fun s=>x.old.length-s.1) ⟨0,Nat.zero_le _,fun j _ h=>by cases h⟩ ?_ ?_ ?_
 ·exact Fn0
 ·exact Fn1 ex
 rintro ⟨i,hi,hpre⟩;simp only [];refine Zab ?_;refine Zab (Zag [1,3,71] ?_);simp only [vmL,Nat.reduceEqDiff,Nat.reduceAdd,Nat.reduceLT,Nat.reduceLeDiff,Nat.reduceSub,Nat.reduceMul,reduceIte,reduceCtorEq,Int.reduceToNat,ex,It.strs,List.length_map];refine Zaf rfl (fun h1=>?_) (fun h1=>?_)
 ·refine Kp0 ?_;simp only [decide_eq_true_eq] at h1;have ia:i<x.old.length:=by omega
  refine Zab ?_;refine Zac ?_;refine Zab (Zag [1,3,80] ?_);simp only [vmL,Nat.reduceEqDiff,Nat.reduceAdd,Nat.reduceLT,Nat.reduceLeDiff,Nat.reduceSub,Nat.reduceMul,reduceIte,reduceCtorEq,Int.reduceToNat,ex,It.strs,List.length_map,ib_rowS ia];refine Ok ?_;refine Zaf rfl (fun h2=>?_) (fun h2=>?_)
  ·refine Rp0 [2] ?_;refine Tp0 ?_;exact onlyB_no
  refine Kp0 ?_;refine rp1 [1,3] (w64 (n:=(i:Int)+1) (by omega) (by omega)) ?_;refine ⟨⟨i+1,by omega,fun j hj hji=>?_⟩,?_⟩
  ·by_cases e:j=i
   ·subst e;simp only [decide_eq_false_iff_not] at h2;omega
   ·exact hpre j hj (by omega)
  exact Fn1 ex
 simp only [decide_eq_false_iff_not] at h1;refine Ep0 ?_;have qo:∀ s∈x.old,s.length≤100:=fun s hs=>by
  obtain ⟨j,hj,rfl⟩:=List.getElem_of_mem hs;exact hpre j hj (by omega)
 clear h1 hi hpre;refine Zab ?_;refine Rp0 [1,4] ?_;refine Zac ?_;refine Zao (σ:={ i:Nat//i≤x.new.length∧∀ (j:Nat) (hj:j<x.new.length),j<i→x.new[j].length≤100 }) (fun s=>([(1,.loc 0 0 0),(4,pI s.1)],⟨[(0,.arr false 25 [x.enc])],1⟩)) (fun s=>x.new.length-s.1) ⟨0,Nat.zero_le _,fun j _ h=>by cases h⟩ ?_ ?_ ?_
 ·exact Fn0
 ·exact Fn1 ex
 rintro ⟨i,hi,hpre⟩;simp only [];refine Zab ?_;refine Zab (Zag [1,4,85] ?_);simp only [vmL,Nat.reduceEqDiff,Nat.reduceAdd,Nat.reduceLT,Nat.reduceLeDiff,Nat.reduceSub,Nat.reduceMul,reduceIte,reduceCtorEq,Int.reduceToNat,ex,It.strs,List.length_map];refine Zaf rfl (fun h1=>?_) (fun h1=>?_)
 ·refine Kp0 ?_;simp only [decide_eq_true_eq] at h1;have ia:i<x.new.length:=by omega
  refine Zab ?_;refine Zac ?_;refine Zab (Zag [1,4,94] ?_);simp only [vmL,Nat.reduceEqDiff,Nat.reduceAdd,Nat.reduceLT,Nat.reduceLeDiff,Nat.reduceSub,Nat.reduceMul,reduceIte,reduceCtorEq,Int.reduceToNat,ex,It.strs,List.length_map,ib_rowS ia];refine Ok ?_;refine Zaf rfl (fun h2=>?_) (fun h2=>?_)
  ·refine Rp0 [2] ?_;refine Tp0 ?_;exact onlyB_no
  refine Kp0 ?_;refine rp1 [1,4] (w64 (n:=(i:Int)+1) (by omega) (by omega)) ?_;refine ⟨⟨i+1,by omega,fun j hj hji=>?_⟩,?_⟩
  ·by_cases e:j=i
   ·subst e;simp only [decide_eq_false_iff_not] at h2;omega
   ·exact hpre j hj (by omega)
  exact Fn1 ex
 simp only [decide_eq_false_iff_not] at h1;refine Ep0 ?_;have qn:∀ s∈x.new,s.length≤100:=fun s hs=>by
  obtain ⟨j,hj,rfl⟩:=List.getElem_of_mem hs;exact hpre j hj (by omega)
 clear h1 hi hpre;refine Zab ?_;refine Rp0 [1,5] ?_;refine Zac ?_;refine Zao (σ:={ i:Nat//i≤x.at'.length∧∀ (j:Nat) (hj:j<x.at'.length),j<i→x.at'[j].label.length≤100 }) (fun s=>([(1,.loc 0 0 0),(5,pI s.1)],⟨[(0,.arr false 25 [x.enc])],1⟩)) (fun s=>x.at'.length-s.1) ⟨0,Nat.zero_le _,fun j _ h=>by cases h⟩ ?_ ?_ ?_
 ·exact Fn0
 ·exact Fn1 ex
 rintro ⟨i,hi,hpre⟩;simp only [];refine Zab ?_;refine Zab (Zag [1,5,99] ?_);simp only [vmL,Nat.reduceEqDiff,Nat.reduceAdd,Nat.reduceLT,Nat.reduceLeDiff,Nat.reduceSub,Nat.reduceMul,reduceIte,reduceCtorEq,Int.reduceToNat,ex,It.strs,List.length_map];refine Zaf rfl (fun h1=>?_) (fun h1=>?_)
 ·refine Kp0 ?_;simp only [decide_eq_true_eq] at h1;have ia:i<x.at'.length:=by omega
  refine Zab ?_;refine Zac ?_;refine Zab (Zag [1,5,109] ?_);simp only [vmL,Nat.reduceEqDiff,Nat.reduceAdd,Nat.reduceLT,Nat.reduceLeDiff,Nat.reduceSub,Nat.reduceMul,reduceIte,reduceCtorEq,Int.reduceToNat,ex,It.strs,List.length_map,rowm ia,St.enc];refine Ok ?_;refine Zaf rfl (fun h2=>?_) (fun h2=>?_)
  ·refine Rp0 [2] ?_;refine Tp0 ?_;exact onlyB_no
  refine Kp0 ?_;refine rp1 [1,5] (w64 (n:=(i:Int)+1) (by omega) (by omega)) ?_;refine ⟨⟨i+1,by omega,fun j hj hji=>?_⟩,?_⟩
  ·by_cases e:j=i
   ·subst e;simp only [decide_eq_false_iff_not] at h2;omega
   ·exact hpre j hj (by omega)
  exact Fn1 ex
 simp only [decide_eq_false_iff_not] at h1;refine Ep0 ?_;have qa:∀ s∈x.at',s.label.length≤100:=fun s hs=>by
  obtain ⟨j,hj,rfl⟩:=List.getElem_of_mem hs;exact hpre j hj (by omega)
 clear h1 hi hpre;refine Zab ?_;refine Rp0 [1,6] ?_;refine Zac ?_;refine Zao (σ:={ i:Nat//i≤x.to.length∧∀ (j:Nat) (hj:j<x.to.length),j<i→x.to[j].label.length≤100 }) (fun s=>([(1,.loc 0 0 0),(6,pI s.1)],⟨[(0,.arr false 25 [x.enc])],1⟩)) (fun s=>x.to.length-s.1) ⟨0,Nat.zero_le _,fun j _ h=>by cases h⟩ ?_ ?_ ?_
 ·exact Fn0
 ·exact Fn1 ex
 rintro ⟨i,hi,hpre⟩;simp only [];refine Zab ?_;refine Zab (Zag [1,6,114] ?_);simp only [vmL,Nat.reduceEqDiff,Nat.reduceAdd,Nat.reduceLT,Nat.reduceLeDiff,Nat.reduceSub,Nat.reduceMul,reduceIte,reduceCtorEq,Int.reduceToNat,ex,It.strs,List.length_map];refine Zaf rfl (fun h1=>?_) (fun h1=>?_)
 ·refine Kp0 ?_;simp only [decide_eq_true_eq] at h1;have ia:i<x.to.length:=by omega
  refine Zab ?_;refine Zac ?_;refine Zab (Zag [1,6,124] ?_);simp only [vmL,Nat.reduceEqDiff,Nat.reduceAdd,Nat.reduceLT,Nat.reduceLeDiff,Nat.reduceSub,Nat.reduceMul,reduceIte,reduceCtorEq,Int.reduceToNat,ex,It.strs,List.length_map,rowm ia,St.enc];refine Ok ?_;refine Zaf rfl (fun h2=>?_) (fun h2=>?_)
  ·refine Rp0 [2] ?_;refine Tp0 ?_;exact onlyB_no
  refine Kp0 ?_;refine rp1 [1,6] (w64 (n:=(i:Int)+1) (by omega) (by omega)) ?_;refine ⟨⟨i+1,by omega,fun j hj hji=>?_⟩,?_⟩
  ·by_cases e:j=i
   ·subst e;simp only [decide_eq_false_iff_not] at h2;omega
   ·exact hpre j hj (by omega)
  exact Fn1 ex
 simp only [decide_eq_false_iff_not] at h1;refine Ep0 ?_;have qt:∀ s∈x.to,s.label.length≤100:=fun s hs=>by
  obtain ⟨j,hj,rfl⟩:=List.getElem_of_mem hs;exact hpre j hj (by omega)
 clear h1 hi hpre;refine Zab ?_;refine Rp0 [1,7] ?_;refine Zac ?_;refine Zao (σ:={ i:Nat//i≤x.by'.length }) (fun s=>([(1,.loc 0 0 0),(7,pI s.1)],⟨[(0,.arr false 25 [x.enc])],1⟩)) (fun s=>x.by'.length-s.1) ⟨0,Nat.zero_le _⟩ ?_ ?_ ?_
 ·exact Fn0
 ·exact Fn1 ex
 rintro ⟨i,hi⟩;simp only [];refine Zab ?_;refine Rp1 [1,7,129] (x2 ex @xlm) ?_;refine Zaf rfl (fun h1=>?_) (fun h1=>?_)
 ·refine Kp0 ?_;simp only [decide_eq_true_eq] at h1;have ia:i<x.by'.length:=by omega
  have hrec:=ih _ (List.getElem_mem ia);have ry:=rowm (enc:=It.enc) ia;generalize x.by'[i]=y at hrec ry;refine Zab ?_;refine Zac ?_;refine VW_seqE (σ:=Bool) [1,7,161] (fun s=>[(1,.loc 0 0 0),(7,pI i),(161,.bool s)]) ?_ (fun b=>?_)
  ·cases hb:y.by' with
   | nil =>
    have e2:decide (0<(y.by'.length:Int))=false:=by rw [hb];rfl
    simp only [vmL,Nat.reduceEqDiff,Nat.reduceAdd,Nat.reduceLT,Nat.reduceLeDiff,Nat.reduceSub,Nat.reduceMul,reduceIte,reduceCtorEq,Int.reduceToNat,ex,List.length_map,ry,ib_by,ib_l24,ib_len25,ib_take25,e2];refine Ok ?_;refine ACall_ps hrec ?_;rintro p ⟨b1,rfl,_⟩;refine Sp0 ?_;exact ⟨!b1,by first|trivial|rfl⟩
   | cons z r =>
    have e2:decide (0<(y.by'.length:Int))=true:=by rw [hb,decide_eq_true_eq];simp
    have e3:(0:Int)<(y.by'.length:Int):=by simpa using e2
    have e4:(y.by'.map It.enc).getD 0 []=z.enc:=by rw [hb];rfl
    cases e5:decide (0<(z.by'.length:Int)) with
    | true =>
     simp only [vmL,Nat.reduceEqDiff,Nat.reduceAdd,Nat.reduceLT,Nat.reduceLeDiff,Nat.reduceSub,Nat.reduceMul,reduceIte,reduceCtorEq,Int.reduceToNat,ex,List.length_map,ry,ib_by,ib_l24,ib_len25,ib_take25,e2,e4,e5];refine Ok ?_;exact ⟨true,by first|trivial|rfl⟩
    | false =>
     simp only [vmL,Nat.reduceEqDiff,Nat.reduceAdd,Nat.reduceLT,Nat.reduceLeDiff,Nat.reduceSub,Nat.reduceMul,reduceIte,reduceCtorEq,Int.reduceToNat,ex,List.length_map,ry,ib_by,ib_l24,ib_len25,ib_take25,e2,e4,e5];refine Ok ?_;refine ACall_ps hrec ?_;rintro p ⟨b1,rfl,_⟩;refine Sp0 ?_;exact ⟨!b1,by first|trivial|rfl⟩
  refine Zaf rfl (fun h2=>?_) (fun h2=>?_)
  ·refine Rp0 [2] ?_;refine Tp0 ?_;exact onlyB_no
  refine Kp0 ?_;refine rp1 [1,7] (w64 (n:=(i:Int)+1) (by omega) (by omega)) ?_;refine ⟨⟨i+1,by omega⟩,?_⟩;exact Fn1 ex
 ·refine Ep0 ?_;refine Rp0 [2] ?_;refine Tp0 ?_;exact onlyB_yes ⟨q1,q2,q3,q4,q5,q6,q7,q8,q9,qu,qo,qn,qa,qt⟩
end Go.Proofs.YtldogpfookkbaaaGreatDoor.w
namespace Go.VM
open Go
structure Sm38 (u : Un) (l : List Ac) (m : Nat) : Prop where
 few : fewB u 60 = true
 stands : standsB u = true
 len : l.length ≤ m
 acts : ∀ a ∈ l, SmA a ∧ a.items.length ≤ 3
theorem ac_len7 (a:Ac):a.enc.length=7:=rfl
theorem ac_take7 (a:Ac):List.take 7 a.enc=a.enc:=rfl
theorem Ac.clo (a:Ac):∀ y∈a.enc,Closed y:=by
 intro y hy;simp only [ac_enc,List.mem_cons,List.not_mem_nil,or_false] at hy;rcases hy with rfl|rfl|rfl|rfl|rfl|rfl|rfl<;>first|exact cI _|exact cS _|exact Zak (fun x _=>It.closed x)
theorem cl_acs (l:List Ac):Closed (.sl 7 (l.map Ac.enc)):=Zak fun a _=>Ac.clo a
theorem cl_un (u:Un):Closed (.agg u.enc):=Zau (Un.closed u)
end Go.VM
namespace Go.Proofs.YtldogpfookkbaaaGreatDoor.w
open Go Go.VM
def c_pandectref18_Few:VC:=(ZR [ZO 1 (.box 7 (.t 0)),ZO 2 (.mv (.c (.bool false)))] (.seq (ZR [ZO 4 (.faddr 6 (.t 1)),ZO 5 (.load false 1 (.t 4)),ZO 6 (.len false (.t 5)),ZO 7 (.bin .gtr (.t 6) (.c (.int .i64 40))),ZM 8 7,ZG 9 (.faddr 1 (.t 1)) 8 false,ZG 10 (.load false 1 (.t 9)) 8 false,ZG 11 (.len true (.t 10)) 8 false,ZG 12 (.bin .gtr (.t 11) (.c (.int .i64 300))) 8 false,ZO 13 (.pick (.t 8) (.c (.bool true)) (.t 12)),ZM 14 13,ZG 15 (.faddr 3 (.t 1)) 14 false,ZG 16 (.faddr 2 (.t 15)) 14 false,ZG 17 (.load false 1 (.t 16)) 14 false,ZG 18 (.len true (.t 17)) 14 false,ZG 19 (.bin .gtr (.t 18) (.c (.int .i64 100))) 14 false,ZO 20 (.pick (.t 14) (.c (.bool true)) (.t 19))] (.cond (.t 20) (ZR [ZO 2 (.mv (.c (.bool false)))] .ret) .skip)) (.seq (ZR [ZO 3 (.mv (.c (.int .i64 0)))] (.block 0 (.loop (.seq (ZR [ZM 21 3,ZO 22 (.faddr 6 (.t 1)),ZO 23 (.load false 1 (.t 22)),ZO 24 (.len false (.t 23)),ZO 25 (.bin .lss (.t 21) (.t 24))] (.cond (.t 25) .skip (.exit 0))) (.seq (.block 1 (ZR [ZO 28 (.faddr 6 (.t 1)),ZO 29 (.load false 1 (.t 28)),ZM 30 3,ZO 31 (.iaddr 25 (.t 29) (.t 30)),ZO 32 (.load true 25 (.t 31)),ZO 33 (.call 58 [.t 32]),ZO 34 (.un .not (.t 33))] (.cond (.t 34) (ZR [ZO 2 (.mv (.c (.bool false)))] .ret) .skip))) (.region [ZM 26 3,ZO 27 (.bin .add (.t 26) (.c (.int .i64 1))),ZM 3 27] false)))))) (ZR [ZO 2 (.mv (.c (.bool true)))] .ret))))
def c_pandectref26_Few:VC:=(ZR [ZO 3 (.box 8 (.t 0)),ZO 6 (.mv (.c (.bool false)))] (.seq (ZR [ZO 8 (.load true 8 (.t 3)),ZO 9 (.call 56 [.t 8,(.c (.int .i64 60))]),ZO 10 (.un .not (.t 9)),ZM 11 10,ZG 12 (.mv (.t 1)) 11 false,ZG 13 (.len false (.t 12)) 11 false,ZG 14 (.mv (.t 2)) 11 false,ZG 15 (.bin .gtr (.t 13) (.t 14)) 11 false,ZO 16 (.pick (.t 11) (.c (.bool true)) (.t 15))] (.cond (.t 16) (ZR [ZO 6 (.mv (.c (.bool false)))] .ret) .skip)) (.seq (ZR [ZO 7 (.mv (.c (.int .i64 0)))] (.block 0 (.loop (.seq (ZR [ZM 17 7,ZM 18 1,ZO 19 (.len false (.t 18)),ZO 20 (.bin .lss (.t 17) (.t 19))] (.cond (.t 20) .skip (.exit 0))) (.seq (.block 1 (ZR [ZM 23 1,ZM 24 7,ZO 25 (.iaddr 28 (.t 23) (.t 24)),ZO 26 (.faddr 3 (.t 25)),ZO 27 (.load true 25 (.t 26)),ZO 28 (.bslice 25 1 [.int .i64 0,.nilsl,.nilsl,.int .i64 0,.int .i64 0,.int .i64 0,.int .i64 0,.int .i64 0,.int .i64 0,(.str []),.nilsl,.nilsl,.nilsl,.nilsl,.nilsl,(.str []),(.str []),.int .i64 0,.int .i64 0,(.str []),.int .i64 0,.int .i64 0,.int .i64 0,(.str []),.nilsl] [(0,(.t 27))]),ZO 29 (.build [.int .i64 0,(.str []),.int .i64 0,.int .i64 0,.int .i64 0,(.str []),.nilsl] [(6,(1,(.t 28)))]),ZO 30 (.call 40 [.t 29]),ZO 31 (.un .not (.t 30))] (.cond (.t 31) (ZR [ZO 6 (.mv (.c (.bool false)))] .ret) .skip))) (.region [ZM 21 7,ZO 22 (.bin .add (.t 21) (.c (.int .i64 1))),ZM 7 22] false)))))) (ZR [ZO 6 (.mv (.c (.bool true)))] .ret))))
def c_pandectref26_Book:VC:=(ZR [ZO 1 (.box 8 (.t 0)),ZO 2 (.mv (.c (.bool false)))] (ZR [ZO 3 (.load true 8 (.t 1)),ZO 4 (.call 57 [.t 3]),ZM 2 4] .ret))
def c_pandectref38_Few:VC:=(ZR [ZO 3 (.box 8 (.t 0)),ZO 6 (.mv (.c (.bool false)))] (.seq (ZR [ZO 8 (.load true 8 (.t 3)),ZO 9 (.call 38 [.t 8,(.c .nilsl),(.c (.int .i64 0))]),ZO 10 (.un .not (.t 9)),ZM 11 10,ZG 12 (.load true 8 (.t 3)) 11 false,ZG 13 (.call 39 [.t 12]) 11 false,ZG 14 (.un .not (.t 13)) 11 false,ZO 15 (.pick (.t 11) (.c (.bool true)) (.t 14)),ZM 16 15,ZG 17 (.mv (.t 1)) 16 false,ZG 18 (.len false (.t 17)) 16 false,ZG 19 (.mv (.t 2)) 16 false,ZG 20 (.bin .gtr (.t 18) (.t 19)) 16 false,ZO 21 (.pick (.t 16) (.c (.bool true)) (.t 20))] (.cond (.t 21) (ZR [ZO 6 (.mv (.c (.bool false)))] .ret) .skip)) (.seq (ZR [ZO 7 (.mv (.c (.int .i64 0)))] (.block 0 (.loop (.seq (ZR [ZM 22 7,ZM 23 1,ZO 24 (.len false (.t 23)),ZO 25 (.bin .lss (.t 22) (.t 24))] (.cond (.t 25) .skip (.exit 0))) (.seq (.block 1 (ZR [ZM 28 1,ZM 29 7,ZO 30 (.iaddr 7 (.t 28) (.t 29)),ZO 31 (.load true 7 (.t 30)),ZO 32 (.call 40 [.t 31]),ZO 33 (.un .not (.t 32)),ZM 34 33,ZG 35 (.mv (.t 1)) 34 false,ZG 36 (.mv (.t 7)) 34 false,ZG 37 (.iaddr 7 (.t 35) (.t 36)) 34 false,ZG 38 (.faddr 6 (.t 37)) 34 false,ZG 39 (.load false 1 (.t 38)) 34 false,ZG 40 (.len false (.t 39)) 34 false,ZG 41 (.bin .gtr (.t 40) (.c (.int .i64 3))) 34 false,ZO 42 (.pick (.t 34) (.c (.bool true)) (.t 41))] (.cond (.t 42) (ZR [ZO 6 (.mv (.c (.bool false)))] .ret) .skip))) (.region [ZM 26 7,ZO 27 (.bin .add (.t 26) (.c (.int .i64 1))),ZM 7 27] false)))))) (ZR [ZO 6 (.mv (.c (.bool true)))] .ret))))
theorem sp_few18 {a:Ac} (ha:AcB a):PCallS Tryz.prog 40 [.agg a.enc] (onlyB (SmA a)):=by
 have ea:=ac_enc a;have l1:=ha.2.2.2.2.1;refine PCallS_intro ?_ (by intro y hy;rw [List.mem_singleton] at hy;subst hy;exact Zau (Ac.clo _));refine Gn (vc:=c_pandectref18_Few) [.t 2] Tryz.func40 ?_;unfold c_pandectref18_Few;try dsimp only [ZM,ZO,ZN,ZG,ZR,ZU]
 refine Rp1 [1] ea ?_;refine Zab ?_;refine VW_seqE (σ:={ b:Bool//b=false→(a.items.length≤40∧a.title.length≤300∧a.start.Zb2.length≤100) }) [1,20] (fun s=>[(1,.loc 0 0 0),(20,.bool s.1)]) ?_ (fun b=>?_)
 ·by_cases c0:40<a.items.length
  ·have g0:decide ((40:Int)<(a.items.length:Int))=true:=decide_eq_true (by omega);simp only [vmL,Nat.reduceEqDiff,Nat.reduceAdd,Nat.reduceLT,Nat.reduceLeDiff,Nat.reduceSub,Nat.reduceMul,reduceIte,reduceCtorEq,Int.reduceToNat,List.length_map,g0];exact ⟨⟨true,fun h=>by cases h⟩,by first|trivial|rfl⟩
  have g0:decide ((40:Int)<(a.items.length:Int))=false:=decide_eq_false (by omega);by_cases c1:300<a.title.length
  ·have g1:decide ((300:Int)<(a.title.length:Int))=true:=decide_eq_true (by omega);simp only [vmL,Nat.reduceEqDiff,Nat.reduceAdd,Nat.reduceLT,Nat.reduceLeDiff,Nat.reduceSub,Nat.reduceMul,reduceIte,reduceCtorEq,Int.reduceToNat,List.length_map,g0,g1];exact ⟨⟨true,fun h=>by cases h⟩,by first|trivial|rfl⟩
  have g1:decide ((300:Int)<(a.title.length:Int))=false:=decide_eq_false (by omega);by_cases c2:100<a.start.Zb2.length
  ·have g2:decide ((100:Int)<(a.start.Zb2.length:Int))=true:=decide_eq_true (by omega);simp only [vmL,Nat.reduceEqDiff,Nat.reduceAdd,Nat.reduceLT,Nat.reduceLeDiff,Nat.reduceSub,Nat.reduceMul,reduceIte,reduceCtorEq,Int.reduceToNat,List.length_map,g0,g1,g2];exact ⟨⟨true,fun h=>by cases h⟩,by first|trivial|rfl⟩
  have g2:decide ((100:Int)<(a.start.Zb2.length:Int))=false:=decide_eq_false (by omega);simp only [vmL,Nat.reduceEqDiff,Nat.reduceAdd,Nat.reduceLT,Nat.reduceLeDiff,Nat.reduceSub,Nat.reduceMul,reduceIte,reduceCtorEq,Int.reduceToNat,List.length_map,g0,g1,g2];exact ⟨⟨false,fun _=>⟨by omega,by omega,by omega⟩⟩,by first|trivial|rfl⟩
 obtain ⟨b,hb0⟩:=b;simp only [];refine Zaf rfl (fun h1=>?_) (fun h1=>?_)
 ·refine Rp0 [2] ?_;refine Tp0 ?_;exact onlyB_no
 obtain ⟨q1,q2,q3⟩:=hb0 h1;refine Kp0 ?_;refine Zab ?_;refine Rp0 [1,3] ?_;refine Zac ?_;refine Zao (σ:={ i:Nat//i≤a.items.length∧∀ (j:Nat) (hj:j<a.items.length),j<i→SmI a.items[j] }) (fun s=>([(1,.loc 0 0 0),(3,pI s.1)],⟨[(0,.arr false 7 [a.enc])],1⟩)) (fun s=>a.items.length-s.1) ⟨0,Nat.zero_le _,fun j _ h=>by cases h⟩ ?_ ?_ ?_
 ·exact Fn0
 ·exact Fn1 ea
 rintro ⟨i,hi,hpre⟩;simp only [];refine Zab ?_;refine Rp1 [1,3,25] (x2 ea @xlm) ?_;refine Zaf rfl (fun h1=>?_) (fun h1=>?_)
 ·have ia:i<a.items.length:=by simp only [decide_eq_true_eq] at h1;omega
  have H:=sp_few17 (ha.2.2.2.2.2 _ (List.getElem_mem ia));have hrow:=rowm (enc:=It.enc) ia;generalize hx:a.items[i]=x at H hrow;refine Kp0 ?_;refine Zab ?_;refine Zac ?_;refine Rp1 [1,3,34] (x5 ea @xlm hrow @ib_len25 @ib_take25) ?_;refine Ok ?_;refine ACall_ps H ?_;rintro p ⟨b1,rfl,hb1⟩;refine Sp0 ?_;cases b1 with
  | false =>
   refine Ct ?_;refine Rp0 [2] ?_;refine Tp0 ?_;exact onlyB_no
  | true =>
   refine Fp0 ?_;refine rp1 [1,3] (ad1 (a:=i) (by omega)) ?_;refine ⟨⟨i+1,ia,fun j hj hji=>?_⟩,?_⟩
   ·by_cases e:j=i
    ·subst e;rw [hx];exact hb1 rfl
    ·exact hpre j hj (by omega)
   ·exact Fn1 ea
 ·simp only [decide_eq_false_iff_not] at h1;refine Ep0 ?_;refine Rp0 [2] ?_;refine Tp0 ?_;refine onlyB_yes ⟨q2,q3,fun x hx=>?_⟩;obtain ⟨j,hj,rfl⟩:=List.getElem_of_mem hx;exact hpre j hj (by omega)
theorem sp_few26 {u:Un} (hu:UnB u):Zaj Tryz.prog 38 [.agg u.enc,.nilsl,pI 0] (.bool (fewB u 60)):=by
 have H:=sp_ref06_Few hu 60 (by omega) (by omega);refine Zal ?_ (cB _) (by intro y hy;simp only [List.mem_cons,List.not_mem_nil,or_false] at hy;rcases hy with rfl|rfl|rfl;exact cl_un u;exact (by intro g v hv;cases hv;exact .nilsl);exact cI _);rw [Un.Zay] at H ⊢;refine Gn (vc:=c_pandectref26_Few) [.t 6] Tryz.func38 ?_;unfold c_pandectref26_Few;try dsimp only [ZM,ZO,ZN,ZG,ZR,ZU]
 refine Rp0 [1,2,3] ?_;refine Zab ?_;refine Rp0 [1,16] ?_;refine Za8 H ?_;cases hb:fewB u 60 with
 | false =>
  refine Sp0 ?_;refine Ct ?_;exact Rv0 [6]
 | true =>
  refine Sp0 ?_;refine Fp0 ?_;refine Zab ?_;refine Rp0 [1,7] ?_;refine Zac ?_;refine Zao (σ:=Unit) (fun _=>([(1,.nilsl),(7,pI 0)],⟨[],1⟩)) (fun _=>0) () ?_ ?_ ?_
  ·exact Fn0
  ·exact Fn0
  intro _;simp only [];refine Zab ?_;refine Rp0 [1,7,20] ?_;refine Zaf (b:=false) rfl (fun h=>by cases h) (fun _=>?_);refine Ep0 ?_;exact Rv0 [6]
theorem sp_book26 {u:Un} (hu:SmT u) (hn:(unitsT u).length≤1000):Zaj Tryz.prog 39 [.agg u.enc] (.bool (standsB u)):=by
 have H:=sp_ref08_Stands hu hn;refine Zal ?_ (cB _) (by intro y hy;rw [List.mem_singleton] at hy;subst hy;exact cl_un u);rw [Un.Zay] at H ⊢;refine Gn (vc:=c_pandectref26_Book) [.t 2] Tryz.func39 ?_;unfold c_pandectref26_Book;try dsimp only [ZM,ZO,ZN,ZG,ZR,ZU]
 refine Rp0 [1] ?_;refine Rp0 [2] ?_;refine Ap0 H ?_;exact Tv0
theorem sp_few38 {u:Un} (hu:UnB u) {l:List Ac} (hl:l.length≤1048576) (hs:∀ a∈l,AcB a) (m:Nat) (hm:m≤100):PCallS Tryz.prog 17 [.agg u.enc,.sl 7 (l.map Ac.enc),pI m] (onlyB (Sm38 u l m)):=by
 have H1:=sp_few26 hu;refine PCallS_intro ?_ (by intro y hy;simp only [List.mem_cons,List.not_mem_nil,or_false] at hy;rcases hy with rfl|rfl|rfl;exact cl_un u;exact cl_acs l;exact cI _);have H2:=fun (h:fewB u 60=true)=>sp_book26 (few_small hu (by omega) (by omega) h).1 (by have:=(few_small hu (by omega) (by omega) h).2;omega);rw [Un.Zay] at H1 H2 ⊢;refine Gn (vc:=c_pandectref38_Few) [.t 6] Tryz.func17 ?_;unfold c_pandectref38_Few;try dsimp only [ZM,ZO,ZN,ZG,ZR,ZU]
 refine Rp0 [1,2,3] ?_;refine Zab ?_;refine VW_seqE (σ:={ b:Bool//b=false→(fewB u 60=true∧standsB u=true∧l.length≤m) }) [1,21] (fun s=>[(1,.sl 7 (l.map Ac.enc)),(21,.bool s.1)]) ?_ (fun b=>?_)
 ·refine Sp0 ?_;refine Za8 H1 ?_;cases hb:fewB u 60 with
  | false =>
   refine Sp0 ?_;exact ⟨⟨true,fun h=>by cases h⟩,by first|trivial|rfl⟩
  | true =>
   refine Sp0 ?_;refine Za8 (H2 hb) ?_;cases hb2:standsB u with
   | false =>
    refine Sp0 ?_;exact ⟨⟨true,fun h=>by cases h⟩,by first|trivial|rfl⟩
   | true =>
    refine Sp1 @xlm ?_;exact ⟨⟨decide ((m:Int)<(l.length:Int)),fun h=>⟨rfl,rfl,by have:=of_decide_eq_false h;omega⟩⟩,by first|trivial|rfl⟩
 obtain ⟨b,hb0⟩:=b;simp only [];refine Zaf rfl (fun h1=>?_) (fun h1=>?_)
 ·refine Rp0 [6] ?_;refine Tp0 ?_;exact onlyB_no
 obtain ⟨q1,q2,q3⟩:=hb0 h1;refine Kp0 ?_;refine Zab ?_;refine Rp0 [1,7] ?_;refine Zac ?_;refine Zao (σ:={ i:Nat//i≤l.length∧∀ (j:Nat) (hj:j<l.length),j<i→SmA l[j]∧l[j].items.length≤3 }) (fun s=>([(1,.sl 7 (l.map Ac.enc)),(7,pI s.1)],⟨[],1⟩)) (fun s=>l.length-s.1) ⟨0,Nat.zero_le _,fun j _ h=>by cases h⟩ ?_ ?_ ?_
 ·exact Fn0
 ·exact Fn0
 rintro ⟨i,hi,hpre⟩;simp only [];refine Zab ?_;refine Rp1 [1,7,25] @xlm ?_;refine Zaf rfl (fun h1=>?_) (fun h1=>?_)
 ·have ia:i<l.length:=by simp only [decide_eq_true_eq] at h1;omega
  have H:=sp_few18 (hs _ (List.getElem_mem ia));have hrow:=rowm (enc:=Ac.enc) ia;generalize hx:l[i]=x at H hrow;have ex:=ac_enc x;refine Kp0 ?_;refine Zab ?_;refine Zac ?_;refine VW_seqE (σ:={ b:Bool//b=false→(SmA x∧x.items.length≤3) }) [1,7,42] (fun s=>[(1,.sl 7 (l.map Ac.enc)),(7,pI i),(42,.bool s.1)]) ?_ (fun b=>?_)
  ·refine Sp1 (x4 @xlm hrow @ac_len7 @ac_take7) ?_;refine Ok ?_;refine ACall_ps H ?_;rintro p ⟨b1,rfl,hb1⟩;cases b1 with
   | false =>
    refine Sp0 ?_;exact ⟨⟨true,fun h=>by cases h⟩,by first|trivial|rfl⟩
   | true =>
    simp only [vmL,Nat.reduceEqDiff,Nat.reduceAdd,Nat.reduceLT,Nat.reduceLeDiff,Nat.reduceSub,Nat.reduceMul,reduceIte,reduceCtorEq,Int.reduceToNat,List.length_map,hrow,ac_len7,ac_take7,ex];refine Ok ?_;exact ⟨⟨decide ((3:Int)<(x.items.length:Int)),fun h=>⟨hb1 rfl,by have:=of_decide_eq_false h;omega⟩⟩,by first|trivial|rfl⟩
  obtain ⟨b,hb0⟩:=b;simp only [];refine Zaf rfl (fun h2=>?_) (fun h2=>?_)
  ·refine Rp0 [6] ?_;refine Tp0 ?_;exact onlyB_no
  refine Kp0 ?_;refine rp1 [1,7] (ad1 (a:=i) (by omega)) ?_;refine ⟨⟨i+1,ia,fun j hj hji=>?_⟩,?_⟩
  ·by_cases e:j=i
   ·subst e;rw [hx];exact hb0 h2
   ·exact hpre j hj (by omega)
  ·exact Fn0
 ·simp only [decide_eq_false_iff_not] at h1;refine Ep0 ?_;refine Rp0 [6] ?_;refine Tp0 ?_;refine onlyB_yes ⟨q1,q2,q3,fun x hx=>?_⟩;obtain ⟨j,hj,rfl⟩:=List.getElem_of_mem hx;exact hpre j hj (by omega)
end Go.Proofs.YtldogpfookkbaaaGreatDoor.w
namespace Go.VM
open Go
theorem acs_rep (a:Ac) (k:Nat):(List.replicate (k+1) a).map Ac.enc=(List.replicate k a).map Ac.enc++[a.enc]:=by
 rw [List.replicate_succ',List.map_append];rfl
end Go.VM
namespace Go.Proofs.YtldogpfookkbaaaGreatDoor.w
open Go Go.VM
def c_orderset_Minimum:VC:=(ZR [ZO 2 (.box 8 (.t 0)),ZO 4 (.mv (.c .nilsl)),ZO 5 (.mv (.c (.int .i64 0)))] (.seq (ZR [ZM 14 1,ZO 15 (.len false (.t 14)),ZO 16 (.bin .gtr (.t 15) (.c (.int .i64 5)))] (.cond (.t 16) (ZR [ZO 4 (.mv (.c .nilsl)),ZO 5 (.mv (.c (.int .i64 6)))] .ret) .skip)) (ZR [ZO 18 (.load true 8 (.t 2)),ZM 19 1,ZO 20 (.call 42 [.t 18,.t 19]),ZM 17 20,ZO 21 (.ext (.t 17) 0),ZO 22 (.ext (.t 17) 1),ZM 6 21,ZM 7 22] (ZR [ZO 8 (.mv (.c .nilsl))] (ZR [ZO 9 (.mv (.c (.bool false)))] (.seq (ZR [ZM 23 1,ZO 24 (.len false (.t 23)),ZO 25 (.bin .shl (.c (.int .i64 1)) (.t 24)),ZO 26 (.mv (.c (.int .i64 0)))] (.block 0 (.loop (ZR [ZO 27 (.bin .lss (.t 26) (.t 25))] (.seq (.cond (.t 27) .skip (.exit 0)) (.seq (.block 1 (ZR [ZM 28 26,ZM 10 28] (ZR [ZO 11 (.mv (.c .nilsl))] (.seq (ZR [ZM 29 1,ZO 30 (.len false (.t 29)),ZO 31 (.mv (.c (.int .i64 0)))] (.block 2 (.loop (ZR [ZO 32 (.bin .lss (.t 31) (.t 30))] (.seq (.cond (.t 32) .skip (.exit 2)) (.seq (.block 3 (ZR [ZM 33 31,ZM 12 33] (ZR [ZM 34 10,ZM 35 12,ZO 36 (.bin .shr (.t 34) (.t 35)),ZO 37 (.bin .and (.t 36) (.c (.int .i64 1))),ZO 38 (.bin .eql (.t 37) (.c (.int .i64 1)))] (.cond (.t 38) (.region [ZM 39 11,ZM 40 12,ZO 41 (.bslice 1 1 [.int .i64 0] [(0,(.t 40))]),ZO 42 (.app 1 8 [.int .i64 0] false (.t 39) (.t 41)),ZM 11 42] false) .skip)))) (.region [ZO 43 (.bin .add (.t 31) (.c (.int .i64 1))),ZM 31 43] false))))))) (ZR [ZM 44 9,ZO 45 (.un .not (.t 44)),ZM 46 45,ZG 47 (.mv (.t 11)) 46 false,ZG 48 (.len false (.t 47)) 46 false,ZG 49 (.mv (.t 8)) 46 false,ZG 50 (.len false (.t 49)) 46 false,ZG 51 (.bin .lss (.t 48) (.t 50)) 46 false,ZO 52 (.pick (.t 46) (.c (.bool true)) (.t 51)),ZM 53 52,ZG 54 (.mv (.t 11)) 53 false,ZG 55 (.len false (.t 54)) 53 false,ZG 56 (.mv (.t 8)) 53 false,ZG 57 (.len false (.t 56)) 53 false,ZG 58 (.bin .eql (.t 55) (.t 57)) 53 false,ZG 59 (.mv (.t 58)) 53 false,ZG 60 (.mv (.t 11)) 59 true,ZG 61 (.mv (.t 8)) 59 true,ZG 62 (.call 43 [.t 60,.t 61]) 59 true,ZG 63 (.bin .lss (.t 62) (.c (.int .i64 0))) 59 true,ZG 64 (.pick (.t 59) (.t 63) (.c (.bool false))) 53 false,ZO 65 (.pick (.t 53) (.c (.bool true)) (.t 64)),ZM 13 65] (ZR [ZM 66 13,ZM 67 66,ZG 68 (.mv (.t 6)) 67 true,ZG 69 (.mv (.t 7)) 67 true,ZG 70 (.mv (.t 11)) 67 true,ZG 71 (.call 33 [.t 70]) 67 true,ZG 72 (.call 44 [.t 68,.t 69,.t 71]) 67 true,ZO 73 (.pick (.t 67) (.t 72) (.c (.bool false)))] (.cond (.t 73) (.region [ZM 74 11,ZM 8 74,ZO 9 (.mv (.c (.bool true)))] false) .skip))))))) (.region [ZO 75 (.bin .add (.t 26) (.c (.int .i64 1))),ZM 26 75] false))))))) (ZR [ZM 76 8,ZM 4 76,ZO 5 (.mv (.c (.int .i64 0)))] .ret)))))))
def c_orderset_Sufficient:VC:=(ZR [ZO 3 (.box 8 (.t 0)),ZO 6 (.mv (.c (.bool false)))] (.seq (ZR [ZM 9 2,ZO 10 (.len false (.t 9)),ZO 11 (.bin .gtr (.t 10) (.c (.int .i64 5)))] (.cond (.t 11) (ZR [ZO 6 (.mv (.c (.bool false)))] .ret) .skip)) (ZR [ZO 13 (.load true 8 (.t 3)),ZM 14 2,ZO 15 (.call 42 [.t 13,.t 14]),ZM 12 15,ZO 16 (.ext (.t 12) 0),ZO 17 (.ext (.t 12) 1),ZM 7 16,ZM 8 17] (ZR [ZM 18 7,ZM 19 8,ZM 20 1,ZO 21 (.call 33 [.t 20]),ZO 22 (.call 44 [.t 18,.t 19,.t 21]),ZM 6 22] .ret))))
def Zb1:VC:=(ZR [ZO 2 (.box 8 (.t 0)),ZO 4 (.mv (.c (.int .i64 0)))] (.seq (ZR [ZM 10 1,ZO 11 (.len false (.t 10)),ZO 12 (.bin .gtr (.t 11) (.c (.int .i64 5)))] (.cond (.t 12) (ZR [ZO 4 (.mv (.c (.int .i64 0)))] .ret) .skip)) (ZR [ZO 14 (.load true 8 (.t 2)),ZM 15 1,ZO 16 (.call 42 [.t 14,.t 15]),ZM 13 16,ZO 17 (.ext (.t 13) 0),ZO 18 (.ext (.t 13) 1),ZM 5 17,ZM 6 18] (ZR [ZO 7 (.mv (.c .nilsl))] (.seq (ZR [ZM 19 6,ZO 20 (.len false (.t 19)),ZO 21 (.mv (.c (.int .i64 0)))] (.block 0 (.loop (ZR [ZO 22 (.bin .lss (.t 21) (.t 20))] (.seq (.cond (.t 22) .skip (.exit 0)) (.seq (.block 1 (ZR [ZO 23 (.iaddr 8 (.t 19) (.t 21)),ZO 24 (.load true 8 (.t 23)),ZO 9 (.alloc ZU),ZN (.store 8 (.t 9) (.t 24))] (ZR [ZM 25 7,ZO 26 (.mkfn (.func 47) [] [.t 9]),ZO 27 (.call 46 [.t 25,.t 26]),ZO 28 (.un .not (.t 27))] (.cond (.t 28) (.region [ZM 29 7,ZO 30 (.load true 8 (.t 9)),ZO 31 (.bslice 8 1 ZU [(0,(.t 30))]),ZO 32 (.app 8 120 ZU false (.t 29) (.t 31)),ZM 7 32] false) .skip)))) (.region [ZO 33 (.bin .add (.t 21) (.c (.int .i64 1))),ZM 21 33] false))))))) (ZR [ZM 34 7,ZO 35 (.len false (.t 34)),ZM 4 35] .ret))))))
def Zbl:VC:=(ZR [ZO 4 (.box 8 (.t 0)),ZO 5 (.box 7 (.t 1)),ZO 8 (.mv (.c (.bool false)))] (.seq (ZR [ZO 13 (.call 9 []),ZO 14 (.un .not (.t 13))] (.cond (.t 14) (ZR [ZO 8 (.mv (.c (.bool false)))] .ret) .skip)) (.seq (ZR [ZO 15 (.load true 8 (.t 4)),ZO 16 (.load true 7 (.t 5)),ZO 17 (.bslice 7 1 [.int .i64 0,(.str []),.int .i64 0,.int .i64 0,.int .i64 0,(.str []),.nilsl] [(0,(.t 16))]),ZO 18 (.call 17 [.t 15,.t 17,(.c (.int .i64 1))]),ZO 19 (.un .not (.t 18)),ZM 20 19,ZG 21 (.mv (.t 2)) 20 false,ZG 22 (.bin .lss (.t 21) (.c (.int .i64 6))) 20 false,ZO 23 (.pick (.t 20) (.c (.bool true)) (.t 22)),ZM 24 23,ZG 25 (.mv (.t 2)) 24 false,ZG 26 (.bin .gtr (.t 25) (.c (.int .i64 40))) 24 false,ZO 27 (.pick (.t 24) (.c (.bool true)) (.t 26)),ZM 28 27,ZG 29 (.mv (.t 3)) 28 false,ZG 30 (.len false (.t 29)) 28 false,ZG 31 (.bin .gtr (.t 30) (.c (.int .i64 20))) 28 false,ZO 32 (.pick (.t 28) (.c (.bool true)) (.t 31))] (.cond (.t 32) (ZR [ZO 8 (.mv (.c (.bool true)))] .ret) .skip)) (ZR [ZO 9 (.mv (.c .nilsl))] (.seq (ZR [ZO 10 (.mv (.c (.int .i64 0)))] (.block 0 (.loop (.seq (ZR [ZM 33 10,ZM 34 2,ZO 35 (.bin .lss (.t 33) (.t 34))] (.cond (.t 35) .skip (.exit 0))) (.seq (.block 1 (.region [ZM 38 9,ZO 39 (.load true 7 (.t 5)),ZO 40 (.bslice 7 1 [.int .i64 0,(.str []),.int .i64 0,.int .i64 0,.int .i64 0,(.str []),.nilsl] [(0,(.t 39))]),ZO 41 (.app 7 88 [.int .i64 0,(.str []),.int .i64 0,.int .i64 0,.int .i64 0,(.str []),.nilsl] false (.t 38) (.t 40)),ZM 9 41] false)) (.region [ZM 36 10,ZO 37 (.bin .add (.t 36) (.c (.int .i64 1))),ZM 10 37] false)))))) (ZR [ZO 43 (.load true 8 (.t 4)),ZM 44 9,ZO 45 (.call 19 [.t 43,.t 44]),ZM 42 45,ZO 46 (.ext (.t 42) 0),ZO 47 (.ext (.t 42) 1),ZM 11 46,ZM 12 47] (ZR [ZM 48 11,ZO 49 (.len false (.t 48)),ZO 50 (.bin .eql (.t 49) (.c (.int .i64 0))),ZM 51 50,ZG 52 (.mv (.t 12)) 51 true,ZG 53 (.bin .eql (.t 52) (.c (.int .i64 6))) 51 true,ZO 54 (.pick (.t 51) (.t 53) (.c (.bool false))),ZM 55 54,ZG 56 (.load true 8 (.t 4)) 55 true,ZG 57 (.mv (.t 3)) 55 true,ZG 58 (.mv (.t 9)) 55 true,ZG 59 (.call 22 [.t 56,.t 57,.t 58]) 55 true,ZG 60 (.un .not (.t 59)) 55 true,ZO 61 (.pick (.t 55) (.t 60) (.c (.bool false))),ZM 62 61,ZG 63 (.load true 8 (.t 4)) 62 true,ZG 64 (.mv (.t 9)) 62 true,ZG 65 (.call 21 [.t 63,.t 64]) 62 true,ZG 66 (.bin .eql (.t 65) (.c (.int .i64 0))) 62 true,ZO 67 (.pick (.t 62) (.t 66) (.c (.bool false))),ZM 68 67,ZG 69 (.mv (.t 2)) 68 true,ZG 70 (.mv (.t 3)) 68 true,ZG 71 (.mv (.t 2)) 68 true,ZG 72 (.call 23 [.t 71]) 68 true,ZG 73 (.call 11 [.t 69,.t 70,.t 72]) 68 true,ZG 74 (.len false (.t 73)) 68 true,ZG 75 (.bin .eql (.t 74) (.c (.int .i64 0))) 68 true,ZO 76 (.pick (.t 68) (.t 75) (.c (.bool false))),ZM 8 76] .ret)))))))
theorem sp_Minimum_big (u:Un) (l:List Ac) (h5:5<l.length):Zaj Tryz.prog 19 [.agg u.enc,.sl 7 (l.map Ac.enc)] (.tup [.sl 1 [],pI 6]):=by
 have g:decide ((5:Int)<(l.length:Int))=true:=decide_eq_true (by omega);refine Zal ?_ (closed_tup (by simp only [List.mem_cons,List.not_mem_nil,or_false,forall_eq_or_imp,forall_eq];exact ⟨Zbi [],cI _⟩)) (by intro y hy;simp only [List.mem_cons,List.not_mem_nil,or_false] at hy;rcases hy with rfl|rfl;exact cl_un u;exact cl_acs l);rw [Un.Zay];refine Gn (vc:=c_orderset_Minimum) [.t 4,.t 5] Tryz.func19 ?_;unfold c_orderset_Minimum;try dsimp only [ZM,ZO,ZN,ZG,ZR,ZU]
 refine Rp0 [1,2] ?_;refine Zab ?_;refine Rp1 [1,2,16] (x2 @xlm g) ?_;refine Ct ?_;refine Rp0 [4,5] ?_;refine Tp0 ?_;refine View.tup rfl fun j hj=>?_
 match j,hj with
 | 0,_=>exact View.nil _ _
 | 1,_=>exact View.refl _ _
theorem sp_Sufficient_big (u:Un) (K:List Int) (l:List Ac) (h5:5<l.length):Zaj Tryz.prog 22 [.agg u.enc,.sl 1 (zR K),.sl 7 (l.map Ac.enc)] (.bool false):=by
 have g:decide ((5:Int)<(l.length:Int))=true:=decide_eq_true (by omega);refine Zal ?_ (cB _) (by intro y hy;simp only [List.mem_cons,List.not_mem_nil,or_false] at hy;rcases hy with rfl|rfl|rfl;exact cl_un u;exact Zbi K;exact cl_acs l);rw [Un.Zay];refine Gn (vc:=c_orderset_Sufficient) [.t 6] Tryz.func22 ?_;unfold c_orderset_Sufficient;try dsimp only [ZM,ZO,ZN,ZG,ZR,ZU]
 refine Rp0 [1,2,3] ?_;refine Zab ?_;refine Rp1 [1,2,3,11] (x2 @xlm g) ?_;refine Ct ?_;exact Rv0 [6]
theorem sp_Count_big (u:Un) (l:List Ac) (h5:5<l.length):Zaj Tryz.prog 21 [.agg u.enc,.sl 7 (l.map Ac.enc)] (pI 0):=by
 have g:decide ((5:Int)<(l.length:Int))=true:=decide_eq_true (by omega);refine Zal ?_ (cI _) (by intro y hy;simp only [List.mem_cons,List.not_mem_nil,or_false] at hy;rcases hy with rfl|rfl;exact cl_un u;exact cl_acs l);rw [Un.Zay];refine Gn (vc:=Zb1) [.t 4] Tryz.func21 ?_;unfold Zb1;try dsimp only [ZM,ZO,ZN,ZG,ZR,ZU]
 refine Rp0 [1,2] ?_;refine Zab ?_;refine Rp1 [1,2,12] (x2 @xlm g) ?_;refine Ct ?_;exact Rv0 [4]
theorem law_OrdersetLimit (u:Un) (a:Ac) (n:Int) (K:List Int) (hu:UnB u) (ha:AcB a) (hn:i64 n) (hK:K.length≤1048576):Zaj Tryz.prog 8 [.agg u.enc,.agg a.enc,pI n,.sl 1 (zR K)] (.bool true):=by
 have AW:=sp_awake;have hKl:=zR_len K;have FW:=sp_few38 hu (l:=[a]) (by simp) (by intro y hy;rw [List.mem_singleton] at hy;subst hy;exact ha) 1 (by omega);have ea:=ac_enc a;refine Zal ?_ (cB _) (by intro y hy;simp only [List.mem_cons,List.not_mem_nil,or_false] at hy;rcases hy with rfl|rfl|rfl|rfl;exact cl_un u;exact Zau (Ac.clo a);exact cI _;exact Zbi _);have MB:=fun (l:List Ac) h5=>sp_Minimum_big u l h5;have SB:=fun (l:List Ac) h5=>sp_Sufficient_big u K l h5;have CB:=fun (l:List Ac) h5=>sp_Count_big u l h5;rw [Un.Zay] at FW MB SB CB ⊢;refine Gn (vc:=Zbl) [.t 8] Tryz.func8 ?_;unfold Zbl;try dsimp only [ZM,ZO,ZN,ZG,ZR,ZU]
 refine Rp1 [2,3,4,5] ea ?_;refine Zaz [(2,pI n),(3,.sl 1 (zR K)),(4,.ro [pI u.act,pI u.item,pI u.n,pI u.kind,.str u.label,.sl 4 (u.head.map Wd.enc),.sl 4 (u.words.map Wd.enc),.sl 8 (u.kids.map Un.enc)]),(5,.ro a.enc)] ⟨View.refl _ _,View.refl _ _,View.loc (z:=8) (fz:=false) (es:=[[pI u.act,pI u.item,pI u.n,pI u.kind,.str u.label,.sl 4 (u.head.map Wd.enc),.sl 4 (u.words.map Wd.enc),.sl 8 (u.kids.map Un.enc)]]) rfl (by simp) rfl (by simp),View.loc (z:=7) (fz:=false) (es:=[[pI a.number,.str a.title,pI a.day,pI a.start.kind,pI a.start.day,.str a.start.Zb2,.sl 25 (a.items.map It.enc)]]) rfl (by simp) (by rw [ea];rfl) (by simp [ea]),trivial⟩ ?_;refine Zab ?_;refine Rp0 [2,3,4,5,14] ?_;refine Ap0 AW ?_;refine Zaf rfl (fun h1=>by cases h1) (fun _=>?_);refine Kp0 ?_;refine Zab ?_;generalize hU:([pI u.act,pI u.item,pI u.n,pI u.kind,.str u.label,.sl 4 (u.head.map Wd.enc),.sl 4 (u.words.map Wd.enc),.sl 8 (u.kids.map Un.enc)]:List PV)=U at *;have hUt:List.take 8 U=U:=by rw [← hU];rfl
 have hUl:U.length=8:=by rw [← hU];rfl
 refine VW_seqJ (σ:={ b:Bool//b=false→(6≤n∧n≤40∧K.length≤20) }) [2,3,4,5,32] (fun s=>([(2,pI n),(3,.sl 1 (zR K)),(4,.ro U),(5,.ro a.enc),(32,.bool s.1)],⟨[],3⟩)) ?_ ?_
 ·refine Sp1 (x4 hUt hUl @ac_len7 @ac_take7) ?_;refine ACall_f [.agg U,.sl 7 ([a].map Ac.enc),pI 1] ⟨View.refl _ _,View.own_all (fz:=false) (by simp [Heap.get,HL.get]) rfl,View.refl _ _,trivial⟩ (ACall_ps FW ?_);rintro p ⟨b1,rfl,_⟩;cases b1 with
  | false =>
   refine Sp0 ?_;exact ⟨⟨true,fun h=>by cases h⟩,by first|trivial|rfl⟩
  | true =>
   by_cases c1:n<6
   ·have g1:decide (n<6)=true:=decide_eq_true c1;refine Sp1 g1 ?_;exact ⟨⟨true,fun h=>by cases h⟩,by first|trivial|rfl⟩
   have g1:decide (n<6)=false:=decide_eq_false c1;by_cases c2:40<n
   ·have g2:decide (40<n)=true:=decide_eq_true c2;refine Sp1 (x2 g1 g2) ?_;exact ⟨⟨true,fun h=>by cases h⟩,by first|trivial|rfl⟩
   have g2:decide (40<n)=false:=decide_eq_false c2;refine Sp1 (x3 g1 g2 hKl) ?_;exact ⟨⟨decide ((20:Int)<(K.length:Int)),fun h=>⟨by omega,by omega,by have:=of_decide_eq_false h;omega⟩⟩,by first|trivial|rfl⟩
 rintro ⟨b,hb0⟩;simp only [];refine Zaf rfl (fun h1=>?_) (fun h1=>?_)
 ·exact Rv0 [8]
 obtain ⟨q1,q2,q3⟩:=hb0 h1;refine Kp0 ?_;obtain ⟨m,rfl⟩:∃ m:Nat,n=(m:Int):=⟨n.toNat,by omega⟩;refine Rp0 [2,3,4,5,9] ?_;refine VW_own0 9 7 rfl ?_;refine Sp0 ?_;refine Zab ?_;refine Rp0 [2,3,4,5,9,10] ?_;refine Zac ?_;refine Zao (σ:={ x:Nat×Nat×Nat//x.1≤m∧x.2.1<x.2.2 }) (fun x=>([(2,pI m),(3,.sl 1 (zR K)),(4,.ro U),(5,.ro a.enc),(9,.own x.1.2.1 0 x.1.1),(10,pI x.1.1)],⟨[(x.1.2.1,.arr false 7 ((List.replicate x.1.1 a).map Ac.enc))],x.1.2.2⟩)) (fun x=>m-x.1.1) ⟨(0,3,4),Nat.zero_le _,by simp only [];omega⟩ ?_ ?_ ?_
 ·exact Fn0
 ·simp only [vmL,Nat.reduceEqDiff,Nat.reduceAdd,Nat.reduceLT,Nat.reduceLeDiff,Nat.reduceSub,Nat.reduceMul,reduceIte,reduceCtorEq,Int.reduceToNat]
  first|done|rfl|exact ⟨rfl,rfl⟩|trivial
 rintro ⟨⟨k,id,t⟩,hk,hid⟩;simp only [] at hk hid ⊢;have qq:=N4 id t (t+1) (t+1+1);have hl:((List.replicate k a).map Ac.enc).length=k:=by simp
 have htk:List.take k ((List.replicate k a).map Ac.enc)=(List.replicate k a).map Ac.enc:=List.take_of_length_le (by omega);have hst:=acs_rep a k;refine Zab ?_;refine Rp1 [2,3,4,5,9,10,35] qq ?_;refine Zaf rfl (fun h3=>?_) (fun h3=>?_)
 ·have ka:k<m:=by simp only [decide_eq_true_eq] at h3;omega
  generalize (List.replicate k a).map Ac.enc=A at *;refine Kp0 ?_;refine Zab ?_;refine Zac ?_;refine Zag [2,3,4,5,9,10] ?_;simp only [vmL,Nat.reduceEqDiff,Nat.reduceAdd,Nat.reduceLT,Nat.reduceLeDiff,Nat.reduceSub,Nat.reduceMul,reduceIte,reduceCtorEq,Int.reduceToNat,hl,htk,ac_len7,ac_take7,qq];refine ⟨by omega,by omega,?_⟩;refine rp1 [2,3,4,5,9,10] (x2 (ad1 (a:=k) (by omega)) qq) ?_;refine ⟨⟨(k+1,t+1,t+2),ka,by simp only [];omega⟩,?_⟩;simp only [hst]
  all_goals exact Fn1 qq
 ·have ka:k=m:=by simp only [decide_eq_false_iff_not] at h3;omega
  subst ka;have h5:5<(List.replicate k a).length:=by simp;omega
  have M1:=MB _ h5;have S1:=SB _ h5;have C1:=CB _ h5;have G1:=sp_ref38_Given k (by omega);have O1:=sp_Orders (k:Int) K (nz (List.range k)) (by omega) (by rw [nz_len,List.length_range];omega);have eO:ordsP (k:Int) K (nz (List.range k))=[]:=by unfold ordsP;rw [if_neg (by omega)]
  rw [eO,← nR_eq] at O1;refine Ep0 ?_;refine Zaz [(2,pI k),(3,.sl 1 (zR K)),(4,.ro U),(5,.ro a.enc),(9,.sl 7 ((List.replicate k a).map Ac.enc)),(10,pI k)] ⟨View.refl _ _,View.refl _ _,View.refl _ _,View.refl _ _,View.own_all (fz:=false) (by simp [Heap.get,HL.get]) (by simp),View.refl _ _,trivial⟩ ?_;generalize (List.replicate k a).map Ac.enc=A at *;refine Rp1 [2,3,4,9,11,12] (x2 hUt hUl) ?_;refine Ap0 M1 ?_;have z0:(((0:Nat):Int)==0)=true:=rfl;have z1:((0:Int)==0)=true:=rfl;have z6:((6:Int)==6)=true:=rfl;have hN:(llR (List.map nz [])).length=0:=rfl;refine Rp1 [8] (x5 hUt hUl z0 z1 z6) ?_;refine Ap1 S1 (x2 hUt hUl) ?_;refine Ap1 C1 (x2 z0 z1) ?_;refine Ap0 G1 ?_;refine Ap1 O1 (x3 hN z0 z1) ?_;exact Tv0
end Go.Proofs.YtldogpfookkbaaaGreatDoor.w
namespace Go.VM
open Go
end Go.VM
namespace Go.Proofs.YtldogpfookkbaaaGreatDoor.w
open Go Go.VM
theorem trod_str {H : Type} {enc : TypeId × Value → H} {P : Program} {W : World} {base : Nat} {sp : Nat → Bool} {held : Bool} {m : Nat} {e : TypeId} {cs : List Value} {bs : List UInt8} {q : List MemPlace} (he : P.underlying e = some .string)
  (h:DataW.trod enc P W base sp held m e cs=some (.lit (.string bs),q)):cs=[.string ⟨bs.toArray⟩]:=by
 cases m with
 | zero=>simp [DataW.trod] at h
 | succ m =>
  unfold DataW.trod at h;rw [he] at h;split at h<;>try (simp_all;done)
  rename_i s heq;split at h
  ·simp only [Option.some.injEq,Prod.mk.injEq,DataW.lit.injEq,Lit.string.injEq] at h;obtain ⟨rfl,_⟩:=h;rfl
  ·cases h
abbrev cW (W:World) (b o:Nat):Option Value:=match W.cell? ⟨b,o,none⟩ with
 | some v=>if v.oneCell'=true then some v else none
 | none=>none
theorem trod_ints {H : Type} {enc : TypeId × Value → H} {P : Program} {W : World} {base : Nat} {sp : Nat → Bool} {held : Bool} {m : Nat} {t e : TypeId} {cs : List Value} {zs : List Int} {rest : List (DataW H)} {q : List MemPlace} (ht : P.underlying t = some (.slice e)) (he : P.underlying e = some (.int .i64)) (hc : P.cellsOf e = 1) (hz : zs ≠ [])
    (h:DataW.trod enc P W base sp held m t cs=some (.slice (zs.map fun z=>.lit (.int .i64 z)) rest,q)):∃ v,cs=[v]∧v.oneCell'=true∧SlIs (cW W) v zs:=by
  rcases DataW.trod_slice ht h with ⟨_,h2⟩|⟨a,len,cap,elems,rs,m',hm,rfl,hx,hb,hlc,hcap,hel,hread,_,_⟩
  · simp at h2
  simp only [Prod.mk.injEq,DataW.slice.injEq] at hx;obtain ⟨⟨hx,_⟩,_⟩:=hx;have hzl:zs.length=len:=by
    have:=congrArg List.length hx;simp at this;omega
  have hlen:0<len:=by rw [← hzl];exact List.length_pos_iff.2 hz
  have each:∀ i,i<len→W.cell? (a.add i)=some (.int .i64 (zs.getD i 0)):=by
    intro i hi;have hr:=hread i hi;rw [List.getElem?_eq_getElem (by omega),hc,Nat.mul_one] at hr;obtain ⟨ci,hc1,hc2⟩:=Option.bind_eq_some_iff.1 hr;obtain ⟨_,hcl,hcells⟩:=World.cells?_some hc1;obtain ⟨n,rfl,hn,_⟩:=DataW.trod_int he hc2;have h1:=hcells 0 (by omega);have e0:∀ b:Addr,b.add 0=b:=fun b=>by simp [Addr.add]
    rw [e0] at h1;rw [h1];have h2:(elems.map (·.1))[i]?=some (DataW.lit (.int .i64 n)):=by
      rw [List.getElem?_map,List.getElem?_eq_getElem (by omega),Option.map_some,hn]
    rw [← hx,List.getElem?_map,List.getElem?_eq_getElem (by omega),Option.map_some] at h2;simp only [Option.some.injEq,DataW.lit.injEq,Lit.int.injEq,true_and] at h2;have e3:zs.getD i 0=n:=by rw [← h2];simp [List.getD,show i<zs.length by omega]
    rw [e3];rfl
  have hspot:a.spot=none:=by
    have hv:=each 0 hlen;have e0:a.add 0=a:=by simp [Addr.add]
    rw [e0] at hv;unfold World.cell? at hv;split at hv
    · split at hv
      · cases hv
      · rename_i hs;simpa using hs
    · cases hv
  have hadd:∀ i,a.add i=⟨a.block,a.off+i,none⟩:=by
    intro i;obtain ⟨b,o,s⟩:=a;simp only at hspot;subst hspot;by_cases hi:i=0<;>simp [Addr.add,hi]
  refine ⟨_,rfl,rfl,.inr ⟨a.block,a.off,cap,by omega,?_,fun i hi=>?_⟩⟩
  · obtain ⟨b,o,s⟩:=a
    simp only at hspot;subst hspot;rw [hzl]
  · have:=each i (by omega)
    rw [hadd] at this;simp only [cW];rw [this];rfl
def orderF:List Value:=[.func (.func 299) #[] #[],.func (.func 300) #[] #[]]
theorem known_tab (b:Nat) (l:List Value) (h:known.lookup b=some l):(b=4∧l=kindNames.map fun s=>Value.string ⟨s.toArray⟩)∨(b=0∧l=orderF):=by
 have e:known=[(0,orderF),(4,kindNames.map fun s=>Value.string ⟨s.toArray⟩)]:=by kernel_rfl
 rw [e] at h;simp only [List.lookup] at h;split at h
 ·rename_i hb;simp only [Option.some.injEq] at h;exact .inr ⟨by simpa using hb,h.symm⟩
 ·split at h
  ·rename_i hb;simp only [Option.some.injEq] at h;exact .inl ⟨by simpa using hb,h.symm⟩
  ·cases h
def namesD {H:Type}:DataW H:=.agg (kindNames.map fun s=>.lit (.string s))
def slD {H:Type} (zs:List Int):DataW H:=if zs=[] then .nil else .slice (zs.map fun z=>.lit (.int .i64 z)) []
def belowD {H:Type}:DataW H:=.agg (belowT.map slD)
def orderD : DataW Unit := .agg [.iface "func" (.lit (.string [112, 97, 110, 100, 101, 99, 116, 47, 115, 121, 110, 116, 97, 120, 46, 111, 114, 100, 101, 114, 36, 49])), .iface "func" (.lit (.string [112, 97, 110, 100, 101, 99, 116, 47, 115, 121, 110, 116, 97, 120, 46, 111, 114, 100, 101, 114, 36, 50]))]
theorem knownW_of {W : World} {rest : List (String × DataW Unit)} (ho : ("pandect/syntax.order", DataW.iface "func table" orderD) ∈ rest) (h : laidMetH Tryz.prog rest W) (hf : (((rest.filter fun x => x.2.handleName?.isNone)).filter (fun x => x.1 == "pandect/unit.names"), ((rest.filter fun x => x.2.handleName?.isNone)).filter (fun x => x.1 == "pandect/unit.below")) = ([("pandect/unit.names", namesD)], [("pandect/unit.below", belowD)])) : Zbp W := by
  obtain ⟨f1,f2⟩:=Prod.mk.inj hf
  have h1:=(laidMetH_iff.1 h).1
  have h2 := h1.filter (fun x => x.1 == "pandect/unit.names")
  rw [f1] at h2
  have h3 := h1.filter (fun x => x.1 == "pandect/unit.below")
  rw [f2] at h3
  have g1 : Tryz.prog.globalNamed "pandect/unit.names" = some 4 := by kernel_rfl
  have g2 : Tryz.prog.globalNamed "pandect/unit.below" = some 1 := by kernel_rfl
  have t1:(Tryz.prog.globals[4]?).map (·.type)=some 290:=by kernel_rfl
  have t2:(Tryz.prog.globals[1]?).map (·.type)=some 236:=by kernel_rfl
  have cs1:Tryz.prog.cellsOf 9=1:=by kernel_rfl
  have cs2:Tryz.prog.cellsOf 290=8:=by kernel_rfl
  have cs3:Tryz.prog.cellsOf 22=1:=by kernel_rfl
  have cs4:Tryz.prog.cellsOf 236=8:=by kernel_rfl
  have cs5:Tryz.prog.cellsOf 3=1:=by kernel_rfl
  have var_heap:∀ {name:String} {b:Nat} {cs:Array Value},Tryz.prog.globalNamed name=some b→W.var? Tryz.prog name=some cs→∃ t fr,W.heap[b]?=some (.cells cs t fr):=by
    intro name b cs hg hv
    unfold World.var? at hv
    rw [hg] at hv
    simp only [Option.bind_some] at hv
    split at hv
    · rename_i c t fr hh
      simp only [Option.some.injEq] at hv
      exact ⟨t,fr,by rw [hh,hv]⟩
    · cases hv
  refine ⟨⟨fun b l hl=>?_,fun b k hb=>?_⟩,fun b ls hb j hj=>?_⟩
  · rcases known_tab b l hl with ⟨rfl,rfl⟩|⟨rfl,rfl⟩
    rotate_left
    · obtain ⟨g',t',cs,fuel,p,hg',ht',hvar,hd⟩:=h.funcs ho
      have g3 : Tryz.prog.globalNamed "pandect/syntax.order" = some 0 := by kernel_rfl
      have t3:(Tryz.prog.globals[0]?).map (·.type)=some 145:=by kernel_rfl
      obtain rfl:=Option.some.inj (g3.symm.trans hg')
      obtain rfl:=Option.some.inj (t3.symm.trans ht')
      obtain ⟨t,fr,hh⟩:=var_heap g3 hvar
      obtain ⟨xs,m,_,hx,hlen,hxs,hread⟩:=DataW.trod_struct Tryz.underlying145 hd
      have cf1:Tryz.prog.cellsOf 143=1:=by kernel_rfl
      have cf2:Tryz.prog.cellsOf 107=1:=by kernel_rfl
      have hc2:Tryz.prog.cellsOf 145=2:=by kernel_rfl
      rw [hc2] at hlen
      have hx1:=(Prod.mk.inj hx).1
      have r0:DataW.trod (funcToken Tryz.prog) Tryz.prog W 0 (fun _=>true) true m 143 ((cs.toList.drop 0).take (Tryz.prog.cellsOf 143))=xs[0]?:=hread 0 _ rfl
      have r1:DataW.trod (funcToken Tryz.prog) Tryz.prog W 0 (fun _=>true) true m 107 ((cs.toList.drop 1).take (Tryz.prog.cellsOf 107))=xs[1]?:=hread 1 _ rfl
      rw [cf1] at r0
      rw [cf2] at r1
      have hxl:xs.length=2:=hxs
      match xs,hxl with
      | [x0,x1],_ =>
      have e0:x0.1=.held [112,97,110,100,101,99,116,47,115,121,110,116,97,120,46,111,114,100,101,114,36,49]:=by
        have:(DataW.agg [.held [112,97,110,100,101,99,116,47,115,121,110,116,97,120,46,111,114,100,101,114,36,49],.held [112,97,110,100,101,99,116,47,115,121,110,116,97,120,46,111,114,100,101,114,36,50]]:DataW (List UInt8))=.agg [x0.1,x1.1]:=hx1
        simp only [DataW.agg.injEq,List.cons.injEq] at this
        exact this.1.symm
      have e1:x1.1=.held [112,97,110,100,101,99,116,47,115,121,110,116,97,120,46,111,114,100,101,114,36,50]:=by
        have:(DataW.agg [.held [112,97,110,100,101,99,116,47,115,121,110,116,97,120,46,111,114,100,101,114,36,49],.held [112,97,110,100,101,99,116,47,115,121,110,116,97,120,46,111,114,100,101,114,36,50]]:DataW (List UInt8))=.agg [x0.1,x1.1]:=hx1
        simp only [DataW.agg.injEq,List.cons.injEq] at this
        exact this.2.1.symm
      match hcl:cs.toList,hlen with
      | [v0,v1],_ =>
      rw [hcl] at r0 r1
      have k0:=func_of_trod (ps:=#[84]) (rs:=#[84]) (va:=false) (f0:=299) (q:=x0.2) (by kernel_rfl) (by kernel_rfl) (r0.trans (by rw [← e0];rfl))
      have k1:=func_of_trod (ps:=#[84]) (rs:=#[4]) (va:=false) (f0:=300) (q:=x1.2) (by kernel_rfl) (by kernel_rfl) (r1.trans (by rw [← e1];rfl))
      subst k0 k1
      have hcs:cs=orderF.toArray:=Array.ext' hcl
      exact ⟨⟨t,fr,by rw [hh,hcs]⟩,fun v hv=>by simp only [orderF,List.mem_cons,List.not_mem_nil,or_false] at hv;rcases hv with rfl|rfl<;>rfl⟩
    refine ⟨?_,fun v hv=>by obtain ⟨s,_,rfl⟩:=List.mem_map.1 hv;rfl⟩
    obtain ⟨ps,⟨g',t',cs,fuel,p,q,hg',ht',hvar,hd,_,_⟩,_⟩:=h2
    obtain rfl:=Option.some.inj (g1.symm.trans hg')
    obtain rfl:=Option.some.inj (t1.symm.trans ht')
    obtain ⟨t,fr,hh⟩:=var_heap g1 hvar
    refine ⟨t,fr,?_⟩
    suffices hcs:cs=(kindNames.map fun s=>Value.string ⟨s.toArray⟩).toArray by rw [hh,hcs]
    obtain ⟨xs,m,_,hx,hlen,hxs,hread⟩:=DataW.trod_array Tryz.underlying290 hd
    rw [cs2] at hlen
    simp only [Prod.mk.injEq] at hx
    have hx1:kindNames.map (fun s=>(DataW.lit (.string s):DataW _))=xs.map (·.1):=by
      have:=hx.1
      unfold namesD at this
      simpa using this
    apply Array.ext'
    apply List.ext_getElem?
    intro i
    by_cases hi:i<8
    · have hr:=hread i hi
      rw [cs1,Nat.mul_one,List.getElem?_eq_getElem (by omega)] at hr
      have hk:i<kindNames.length:=hi
      have h5:(xs.map (·.1))[i]?=some xs[i].1:=by rw [List.getElem?_map,List.getElem?_eq_getElem (by omega)];rfl
      rw [← hx1,List.getElem?_map,List.getElem?_eq_getElem hk] at h5
      simp only [Option.map_some,Option.some.injEq] at h5
      have h6:xs[i]=(.lit (.string kindNames[i]),xs[i].2):=Prod.ext h5.symm rfl
      rw [h6] at hr
      have h7:=trod_str Tryz.underlying9 hr
      have h8:=congrArg (·[0]?) h7
      simp only [List.getElem?_take,List.getElem?_drop] at h8
      simp only [List.getElem?_map,List.getElem?_eq_getElem hk,Option.map_some]
      simpa using h8
    · rw [List.getElem?_eq_none (by omega)]
      symm
      apply List.getElem?_eq_none
      show (List.map _ kindNames).length≤i
      rw [List.length_map]
      show 8≤i
      omega
  · exfalso
    have:knownG=[]:=by kernel_rfl
    rw [this] at hb;cases hb
  · have hS:knownS=[(1,belowT)]:=by kernel_rfl
    rw [hS] at hb
    simp only [List.lookup] at hb
    split at hb
    · rename_i hbb
      simp only [Option.some.injEq] at hb
      subst hb
      have hb':b=1:=by simpa using hbb
      subst hb'
      obtain ⟨ps,⟨g',t',cs,fuel,p,q,hg',ht',hvar,hd,_,_⟩,_⟩:=h3
      obtain rfl:=Option.some.inj (g2.symm.trans hg')
      obtain rfl:=Option.some.inj (t2.symm.trans ht')
      obtain ⟨t,fr,hh⟩:=var_heap g2 hvar
      obtain ⟨xs,m,_,hx,hlen,hxs,hread⟩:=DataW.trod_array Tryz.underlying236 hd
      rw [cs4] at hlen
      simp only [Prod.mk.injEq] at hx
      have hx1:belowT.map slD=xs.map (·.1):=by
        have:=hx.1
        unfold belowD at this
        simpa using this
      have hj8:j<8:=hj
      have hr:=hread j hj8
      rw [cs3,Nat.mul_one,List.getElem?_eq_getElem (by omega)] at hr
      have h5:(xs.map (·.1))[j]?=some xs[j].1:=by rw [List.getElem?_map,List.getElem?_eq_getElem (by omega)];rfl
      rw [← hx1,List.getElem?_map,List.getElem?_eq_getElem hj] at h5
      simp only [Option.map_some,Option.some.injEq] at h5
      have h6:xs[j]=(slD belowT[j],xs[j].2):=Prod.ext h5.symm rfl
      rw [h6] at hr
      have hgD:belowT.getD j []=belowT[j]:=by rw [List.getD_eq_getElem?_getD,List.getElem?_eq_getElem hj];rfl
      have hcell:∀ v,(cs.toList.drop j).take 1=[v]→W.cell? ⟨1,j,none⟩=some v:=by
        intro v hv
        have h8:=congrArg (·[0]?) hv
        simp only [List.getElem?_take,List.getElem?_drop] at h8
        unfold World.cell?
        rw [hh]
        simpa using h8
      rw [hgD]
      generalize belowT[j]=zs at hr
      unfold slD at hr
      by_cases hz:zs=[]
      · rw [if_pos hz] at hr
        rcases DataW.trod_slice Tryz.underlying22 hr with ⟨h7,_⟩|⟨a,len,cap,elems,rs,m',_,_,h8,_⟩
        · refine ⟨.slice none 0 0,?_,.inl ⟨hz,rfl⟩⟩
          simp only []
          rw [hcell _ h7];rfl
        · simp at h8
      · rw [if_neg hz] at hr
        obtain ⟨v,h7,h8,h9⟩:=trod_ints (W:=W) Tryz.underlying22 Tryz.underlying3 cs5 hz hr
        refine ⟨v,?_,h9⟩
        simp only []
        rw [hcell _ h7]
        simp only []
        rw [if_pos h8]
    · cases hb
end Go.Proofs.YtldogpfookkbaaaGreatDoor.w
namespace Go.Proofs.YtldogpfookkbaaaGreatDoor.w
open Go Go.VM
theorem bulk_part {H:Type} {d:DataW H}:∀ {l:List (DataW H)},d∈l→Rows.uptoBulk d≤Rows.uptoBulkAll l
 | x::r,h=>by
  simp only [Rows.uptoBulkAll];rcases List.mem_cons.1 h with e|e
  ·subst e;omega
  ·have:=bulk_part e;omega
theorem bulk_one {H:Type} (d:DataW H):1≤Rows.uptoBulk d:=by
 cases d with
 | lit l=>cases l<;>simp [Rows.uptoBulk]
 | nil=>simp [Rows.uptoBulk]
 | ptr d=>simp [Rows.uptoBulk]
 | slice elems spare=>simp [Rows.uptoBulk]
 | agg parts=>simp [Rows.uptoBulk]
 | iface t d=>simp [Rows.uptoBulk]
 | map entries=>simp [Rows.uptoBulk]
 | held h=>simp [Rows.uptoBulk]
theorem bulk_len {H:Type}:∀ l:List (DataW H),l.length≤Rows.uptoBulkAll l
 | []=>by simp [Rows.uptoBulkAll]
 | x::r=>by have:=bulk_one x;have:=bulk_len r;simp only [Rows.uptoBulkAll,List.length_cons];omega
theorem bulky {H:Type}:Bulky (Rows.uptoBulk (H:=H)) :=
 ⟨fun s=>by simp only [Rows.uptoBulk];omega,fun es sp=>by have:=bulk_len es;simp only [Rows.uptoBulk];omega,fun es sp d h=>by have:=bulk_part h;simp only [Rows.uptoBulk];omega,fun ps d h=>by have:=bulk_part h;simp only [Rows.uptoBulk];omega⟩
theorem bulk_bound {H:Type} {l:List (DataW H)} (h:Rows.uptoSmall H (l++[])=true):∀ d∈l,Rows.uptoBulk d≤bulkB:=fun d hd=>by
 rw [List.append_nil] at h;have h1:Rows.uptoBulkAll l≤1048576:=of_decide_eq_true h;exact Nat.le_trans (bulk_part hd) h1
end Go.Proofs.YtldogpfookkbaaaGreatDoor.w
