import Derived.Test.YtcgdjembdjdlhaaGreatDoorYl
import Derived.Test.YtcgdjembdjdlhaaGreatDoorVmPk
import Derived.Test.YtcgdjembdjdlhaaGreatDoorVmBd
import Derived.Test.YtcgdjembdjdlhaaGreatDoorVmBc
import Derived.Test.YtcgdjembdjdlhaaGreatDoorW6
import Derived.Test.YtcgdjembdjdlhaaGreatDoorGc
import Derived.Test.YtcgdjembdjdlhaaGreatDoorVmBe
import Derived.Test.YtcgdjembdjdlhaaGreatDoorYa
import Derived.Test.YtcgdjembdjdlhaaGreatDoorVmZ
import Derived.Test.YtcgdjembdjdlhaaGreatDoorC0
set_option linter.all false
set_option maxRecDepth 20000
set_option maxHeartbeats 0
namespace Go.Proofs.YtcgdjembdjdlhaaGreatDoor.w
open Go Go.VM
def abI:List Un→Nat→Nat
 | u::v::r,t=>abI (v::r) (t+10+2*u.kids.length)+1
 | [u],t=>t+10+2*u.kids.length
 | _,t=>t+10
def abV (x:Idt) (u:Un) (t:Nat):PV:=if ancT x u=[] then .nilsl else .own (abI (wayT x u) t) 0 (ancT x u).length
def abB (x:Idt) (u:Un) (t:Nat):List (Nat×AB):=if ancT x u=[] then [] else [(abI (wayT x u) t,.arr false 3 ((ancT x u).map Idt.enc))]
def abT (x:Idt) (u:Un) (t:Nat):Nat:=(if wayT x u=[] then t+10+2*u.kids.length else abI (wayT x u) t)+1
theorem abI_cons (u v:Un) (r:List Un) (t:Nat):abI (u::v::r) t=abI (v::r) (t+10+2*u.kids.length)+1:=rfl
theorem abI_le:∀ (W:List Un) (t:Nat),t+10≤abI W t
 | [],t=>Nat.le_refl _
 | [u],t=>by unfold abI;omega
 | u::v::r,t=>by
  have:=abI_le (v::r) (t+10+2*u.kids.length);unfold abI;omega
theorem own_Above {u:Un} (hu:SmT u) (hn:(unitsT u).length≤1000) (x:Idt):∀ t0:Nat,Zal Tryz.prog 123 [.agg u.enc,.agg x.enc] ⟨[],t0⟩ (fun p h'=>p=abV x u t0∧h'=⟨abB x u t0,abT x u t0⟩):=by
 induction hu with
 | mk u h hkl hs ih =>
  intro t0;have hut:SmT u:=.mk u h hkl hs;have hwl:=way_len (x:=x) hut;rw [Zan,List.length_cons] at hn;have ih':∀ k∈u.kids,∀ t,Zal Tryz.prog 123 [.agg k.enc,.agg x.enc] ⟨[],t⟩ (fun p h'=>p=abV x k t∧h'=⟨abB x k t,abT x k t⟩):=fun k hk=>ih k hk (by have:=Zbc hk;omega);have he:=id_eqs (idU u) x;have hxe:x.enc=[pI x.act,pI x.item,pI x.n]:=rfl;refine Zal.drop ?_;refine Gn (vc:=c_pandectref06_Above) [.t 4] Tryz.func123 ?_;unfold c_pandectref06_Above;try dsimp only [ZM,ZO,ZN,ZG,ZR,ZU]
  have hue:=Un.Zaf u;rw [hue,hxe];have qq:=N3 t0 (t0+1) (t0+2);refine Rp1 [2,3] qq ?_;refine Zat [(2,.ro [pI u.act,pI u.item,pI u.n,pI u.kind,.str u.label,.sl 4 (u.head.map Wd.enc),.sl 4 (u.words.map Wd.enc),.sl 8 (u.kids.map Un.enc)]),(3,.ro [pI x.act,pI x.item,pI x.n])]
   ⟨View.loc (z:=8) (fz:=false) (es:=[[pI u.act,pI u.item,pI u.n,pI u.kind,.str u.label,.sl 4 (u.head.map Wd.enc),.sl 4 (u.words.map Wd.enc),.sl 8 (u.kids.map Un.enc)]]) (by simp [Heap.get,HL.get]) (by simp) rfl (by simp),View.loc (z:=3) (fz:=false) (es:=[[pI x.act,pI x.item,pI x.n]]) (by simp [Heap.get,HL.get]) (by simp) rfl (by simp),trivial⟩ ?_
  generalize hEH:u.head.map Wd.enc=EH at *;generalize hEW:u.words.map Wd.enc=EW at *;refine Zaa ?_;refine Rp0 [2,3,11] ?_;have he':((u.act==x.act&&(u.item==x.item&&(u.n==x.n&&true))) != false)=decide (idU u=x):=he;rw [he'];by_cases hid:idU u=x
  ·have hw1:wayT x u=[u]:=by rw [wayT_eq,if_pos hid]
   have ha:ancT x u=[]:=by unfold ancT;rw [hw1];rfl
   unfold abV abB abT;rw [if_pos ha,if_pos ha,if_neg (by rw [hw1];simp),hw1,decide_eq_true hid];refine Ct ?_;refine Rp0 [4] ?_;refine Tp0 ?_;exact ⟨⟨[],_⟩,⟨by unfold abI;simp only [];omega,trivial⟩,rfl⟩
  have hkid:=fun (k:Nat) (hk:k<u.kids.length) hp hi=>way_kid (x:=x) hid hk hp hi;have hnone:=fun hp=>way_none (x:=x) hid hp;rw [decide_eq_false hid];refine Fp0 ?_;unfold abV abB abT;have hak:=fun (v:Un) h=>ancT_kid (x:=x) (u:=u) (v:=v) h;generalize hW:wayT x u=W at hkid hnone hak ⊢;have hA0:W=[]→ancT x u=[]:=fun h=>by unfold ancT;rw [hW,h];rfl
  generalize ancT x u=AU at *;clear he he' hid ih hW hwl;generalize hLk:u.kids=L at *;refine Zaa ?_;refine Rp0 [2,3,5] ?_;refine Zab ?_;refine Zah (σ:={ k:Nat//k≤L.length∧∀ (j:Nat) (hj:j<L.length),j<k→(Zau x L[j]).2=false }) (fun y=>([(2,.ro [pI u.act,pI u.item,pI u.n,pI u.kind,.str u.label,.sl 4 EH,.sl 4 EW,.sl 8 (L.map Un.enc)]),(3,.ro [pI x.act,pI x.item,pI x.n]),(5,pI y.1)],⟨[],t0+4+2*y.1⟩)) (fun y=>L.length-y.1) ⟨0,Nat.zero_le _,fun j _ h=>by cases h⟩ ?_ ?_ ?_
  ·simp only [vmL,Nat.reduceEqDiff,Nat.reduceAdd,Nat.reduceLT,Nat.reduceLeDiff,Nat.reduceSub,Nat.reduceMul,reduceIte,reduceCtorEq,Int.reduceToNat]
   first|done|rfl
  ·simp only [vmL,Nat.reduceEqDiff,Nat.reduceAdd,Nat.reduceLT,Nat.reduceLeDiff,Nat.reduceSub,Nat.reduceMul,reduceIte,reduceCtorEq,Int.reduceToNat]
   first|done|omega
  rintro ⟨k,hk,hpre⟩;simp only [];generalize ht:t0+4+2*k=t;have qq:=N3 t (t+1) (t+2);refine Zaa ?_;refine Rp1 [2,3,5,16] (x2 @xlm qq) ?_;refine Zac rfl (fun h1=>?_) (fun h1=>?_)
  ·have ka:k<L.length:=by simp only [decide_eq_true_eq] at h1;omega
   have hrow:(L.map Un.enc).getD k []=L[k].enc:=rowm ka;have hnx:=hkid k ka (fun j hj hjk=>hpre j hj hjk);have F:=sp_ref06_Find (hs _ (List.getElem_mem ka)) x;have I:=ih' _ (List.getElem_mem ka) (t0+10+2*L.length);have hpre2:(Zau x L[k]).2=false→∀ (j:Nat) (hj:j<L.length),j<k+1→(Zau x L[j]).2=false:=fun h j hj hjk=>by
    by_cases e:j=k
    ·subst e;exact h
    ·exact hpre j hj (by omega)
   have hwk:=way_len (x:=x) (hs _ (List.getElem_mem ka));have hul:=Zbc (List.getElem_mem ka);generalize L[k]=v at hrow F I hnx hpre2 hwk hul;generalize hfv:Zau x v=fv at F hpre2 hnx;obtain ⟨y,b⟩:=fv;simp only [] at F hpre2 hnx;rw [Un.Zaf v] at hrow F I;rw [Un.Zaf y] at F;rw [hxe] at F I;refine Kp0 ?_;refine Zaa ?_;refine Zab ?_;refine Zaa (VW_draw2E (t+20) [2,3,5,7] (by simp) ?_);refine Sp1 (x3 @xlm hrow qq) ?_;refine ⟨⟨by omega,by omega⟩,_,.inl F,?_⟩;refine Sp1 qq ?_;refine ⟨by omega,by omega,?_⟩;refine Rp1 [2,3,5,29] qq ?_;cases b with
   | true =>
    obtain ⟨hWe,hWv⟩:=hnx rfl;have hAe:=hak v ⟨hWe,hWv⟩;have hbI:abI W t0=abI (wayT x v) (t0+10+2*L.length)+1:=by
     rw [hWe];cases hw:wayT x v with
     | nil=>exact absurd hw hWv
     | cons a q=>rw [abI_cons,hLk]
    have hble:=abI_le (wayT x v) (t0+10+2*L.length);have hAn:AU≠[]:=by rw [hAe];simp
    have hWn:W≠[]:=by rw [hWe];simp
    rw [if_neg hAn,if_neg hAn,if_neg hWn,hbI];unfold abV abB abT at I;rw [if_neg hWv] at I;refine Ct ?_;refine VW.weakenH (show Heap.le ⟨[],t0+10+2*L.length⟩ _ from ⟨by show _≤_;simp only [];omega,trivial⟩) ?_;generalize abI (wayT x v) (t0+10+2*L.length)=i at *;generalize t0+10+2*L.length=T at *;have hAl:(ancT x v).length≤1000:=by unfold ancT;simp;omega
    generalize ancT x v=AV at *;by_cases hAV:AV=[]
    ·rw [if_pos hAV,if_pos hAV] at I;refine Zaa (VW_draw2Y [6] [4] ⟨[],i+20⟩ ⟨[],i+20⟩ rfl (by simp [Heap.le,HL.le];omega) (by simp [Heap.le,HL.le];omega) ?_);simp only [vmL,Nat.reduceEqDiff,Nat.reduceAdd,Nat.reduceLT,Nat.reduceLeDiff,Nat.reduceSub,Nat.reduceMul,reduceIte,reduceCtorEq,Int.reduceToNat,DrawY_n,DrawY_at,DrawY_nil,List.contains_cons,List.contains_nil,Nat.reduceBEq,Bool.or_false,List.length_map,hrow];refine ⟨⟨by omega,by omega⟩,.nilsl,⟨[],i+1⟩,fun K' k=>Zal.mono I (by rintro p h' ⟨rfl,rfl⟩;exact k),?_⟩;refine Sp1 @xlm ?_;refine ⟨by omega,by omega,by omega,fun _=>by omega,?_⟩;rw [hAe,hAV];refine Tp0 ?_;exact ⟨⟨[(i+1,.arr false 3 [[pI u.act,pI u.item,pI u.n]])],i+2⟩,by simp [HL.le,Heap.get,HL.get],rfl⟩
    ·rw [if_neg hAV,if_neg hAV] at I;have hRl:(AV.map Idt.enc).length=AV.length:=List.length_map _;have hRt:(AV.map Idt.enc).take AV.length=AV.map Idt.enc:=List.take_of_length_le (by omega);refine Zaa (VW_draw2Y [6] [4] ⟨[],i+20⟩ ⟨[],i+20⟩ rfl (by simp [Heap.le,HL.le];omega) (by simp [Heap.le,HL.le];omega) ?_);simp only [vmL,Nat.reduceEqDiff,Nat.reduceAdd,Nat.reduceLT,Nat.reduceLeDiff,Nat.reduceSub,Nat.reduceMul,reduceIte,reduceCtorEq,Int.reduceToNat,DrawY_n,DrawY_at,DrawY_nil,List.contains_cons,List.contains_nil,Nat.reduceBEq,Bool.or_false,List.length_map,hrow];refine ⟨⟨by omega,by omega⟩,.own i 0 AV.length,⟨[(i,.arr false 3 (AV.map Idt.enc))],i+1⟩,fun K' k=>Zal.mono I (by rintro p h' ⟨rfl,rfl⟩;exact k),?_⟩;have qq:=N3 i (i+1) (i+2);refine Sp1 (x3 hRl hRt qq) ?_;refine ⟨by omega,by omega,by omega,by omega,by omega,fun _=>by omega,?_⟩;rw [hAe];refine Tp1 qq ?_;refine ⟨⟨[(i+1,.arr false 3 (AV.map Idt.enc++[[pI u.act,pI u.item,pI u.n]]))],i+2⟩,by simp [HL.le,Heap.get,HL.get,qq],⟨?_,?_⟩⟩
     ·rw [List.length_append];rfl
     ·rw [List.map_append];rfl
   | false =>
    refine Fp0 ?_;refine rp1 [2,3,5] (x2 (ad1 (a:=k) (by omega)) qq) ?_;refine ⟨⟨k+1,ka,hpre2 rfl⟩,?_⟩;exact Fn1 qq
  ·have ka:k=L.length:=by simp only [decide_eq_false_iff_not] at h1;omega
   subst ka;have hWn:=hnone fun j hj=>hpre j hj hj;rw [hA0 hWn,if_pos rfl,if_pos rfl,if_pos hWn];refine Ep0 ?_;refine Rp1 [4] qq ?_;refine Tp1 qq ?_;exact ⟨⟨[],_⟩,⟨by simp only [];omega,trivial⟩,rfl⟩
theorem sp_ref06_Above {u:Un} (hu:SmT u) (hn:(unitsT u).length≤1000) (x:Idt):Zak Tryz.prog 123 [.agg u.enc,.agg x.enc] (.sl 3 ((ancT x u).map Idt.enc)):=by
 refine Zad (Zal.mono (own_Above hu hn x 0) ?_) (closed_ids _) (Zbe u x);rintro p h' ⟨rfl,rfl⟩;unfold abV abB;by_cases h:ancT x u=[]
 ·rw [if_pos h,h];exact View.nil _ _
 ·rw [if_neg h,if_neg h];exact View.own_all (fz:=false) (by simp [Heap.get,HL.get]) (by simp)
end Go.Proofs.YtcgdjembdjdlhaaGreatDoor.w
namespace Go.Proofs.YtcgdjembdjdlhaaGreatDoor.w
open Go Go.VM
def c_paginate_RunningHead:VC:=(ZR [ZO 3 (.box 8 (.t 0)),ZO 4 (.box 3 (.t 1)),ZO 5 (.box 3 (.t 2)),ZO 6 (.mv (.c (.str [])))] (ZR [ZO 13 (.load true 8 (.t 3)),ZO 14 (.load true 3 (.t 4)),ZO 15 (.call 38 [.t 13,.t 14]),ZM 12 15,ZO 16 (.ext (.t 12) 0),ZO 17 (.ext (.t 12) 1),ZO 7 (.alloc ZU),ZN (.store 8 (.t 7) (.t 16)),ZM 8 17] (ZR [ZO 19 (.load true 8 (.t 3)),ZO 20 (.load true 3 (.t 5)),ZO 21 (.call 38 [.t 19,.t 20]),ZM 18 21,ZO 22 (.ext (.t 18) 0),ZO 23 (.ext (.t 18) 1),ZO 9 (.alloc ZU),ZN (.store 8 (.t 9) (.t 22)),ZM 10 23] (.seq (ZR [ZM 24 8,ZO 25 (.un .not (.t 24)),ZM 26 25,ZG 27 (.mv (.t 10)) 26 false,ZG 28 (.un .not (.t 27)) 26 false,ZO 29 (.pick (.t 26) (.c (.bool true)) (.t 28))] (.cond (.t 29) (ZR [ZO 6 (.mv (.c (.str [])))] .ret) .skip)) (ZR [ZO 11 (.mv (.c (.fn (.func 39) [] [])))] (.seq (ZR [ZO 30 (.faddr 0 (.t 7)),ZO 31 (.load true 3 (.t 30)),ZO 32 (.faddr 0 (.t 9)),ZO 33 (.load true 3 (.t 32)),ZO 34 (.eqs false [.i,.i,.i] (.t 31) (.t 33))] (.cond (.t 34) (ZR [ZM 35 11,ZO 36 (.load true 8 (.t 7)),ZO 37 (.callv (.t 35) [.t 36]),ZM 6 37] .ret) .skip)) (.seq (.region [ZM 38 11,ZO 39 (.load true 8 (.t 7)),ZO 40 (.callv (.t 38) [.t 39]),ZO 41 (.bin .add (.t 40) (.c (.str [32,116,111,32]))),ZM 42 11,ZO 43 (.load true 8 (.t 9)),ZO 44 (.callv (.t 42) [.t 43]),ZO 45 (.bin .add (.t 41) (.t 44)),ZM 6 45] true) .ret)))))))
theorem find_lab {u:Un} (hu:SmT u) (x:Idt):(Zau x u).1.label.length≤30:=by
 unfold Zau;cases h:(wayT x u).getLast? with
 | none=>simp [zeroU,Un.label]
 | some v =>
  have:=hu.units v (way_mem (x:=x) hu v (List.mem_of_getLast? h));exact this.u.label
theorem place_lab {u:Un} (hu:SmT u) (x:Idt):(Zct u x).1.label.length≤30:=by
 unfold Zct;split
 ·split
  ·exact find_lab hu _
  ·exact find_lab hu _
 ·exact find_lab hu _
theorem nameU_len (v:Un) (h:v.label.length≤30):(nameU v).length≤40:=by
 have:=nameK_len v.kind;unfold nameU;rw [List.length_append,List.length_append,List.length_singleton];omega
theorem closed_head (u:Un) (a b:Idt):Za0 [.agg u.enc,.agg a.enc,.agg b.enc]:=by
 intro y hy;simp only [List.mem_cons,List.not_mem_nil,or_false] at hy;rcases hy with rfl|rfl|rfl;exact Zap u;exact Zax (Idt.closed a);exact Zax (Idt.closed b)
theorem sp_RunningHead {u:Un} (hu:SmT u) (hn:(unitsT u).length≤1000) (a b:Idt):Zak Tryz.prog 13 [.agg u.enc,.agg a.enc,.agg b.enc] (.str (headT u a b)):=by
 have PA:=sp_place hu hn a;have PB:=sp_place hu hn b;have la:=place_lab hu a;have lb:=place_lab hu b;refine Zad ?_ (cS _) (closed_head u a b);refine Gn (vc:=c_paginate_RunningHead) [.t 6] Tryz.func13 ?_;unfold c_paginate_RunningHead;try dsimp only [ZM,ZO,ZN,ZG,ZR,ZU]
 unfold headT;have hae:a.enc=[pI a.act,pI a.item,pI a.n]:=rfl;have hbe:b.enc=[pI b.act,pI b.item,pI b.n]:=rfl;generalize (Zct u a).1=x at PA la ⊢;generalize (Zct u b).1=y at PB lb ⊢;generalize (Zct u a).2=p at PA ⊢;generalize (Zct u b).2=q at PB ⊢;have NX:=sp_RunningHead_1 (u:=x) (by omega);have NY:=sp_RunningHead_1 (u:=y) (by omega);have lx:=nameU_len x la;have ly:=nameU_len y lb;have hid:=id_eqs (idU x) (idU y);have hix:(idU x).act=x.act∧(idU x).item=x.item∧(idU x).n=x.n:=⟨rfl,rfl,rfl⟩;have hiy:(idU y).act=y.act∧(idU y).item=y.item∧(idU y).n=y.n:=⟨rfl,rfl,rfl⟩;rw [hix.1,hix.2.1,hix.2.2,hiy.1,hiy.2.1,hiy.2.2] at hid;rw [Un.Zaf u,hae,Un.Zaf x] at PA;rw [Un.Zaf u,hbe,Un.Zaf y] at PB;rw [Un.Zaf x] at NX;rw [Un.Zaf y] at NY;rw [Un.Zaf u,hae,hbe];generalize u.head.map Wd.enc=EH at *;generalize u.words.map Wd.enc=EW at *;generalize u.kids.map Un.enc=EK at *;generalize x.head.map Wd.enc=XH at *;generalize x.words.map Wd.enc=XW at *;generalize x.kids.map Un.enc=XK at *;generalize y.head.map Wd.enc=YH at *;generalize y.words.map Wd.enc=YW at *;generalize y.kids.map Un.enc=YK at *;refine Rp0 [3,4,5,6] ?_;refine Rp0 [3,5,7,8] ?_;refine Ap0 PA ?_;refine Rp0 [7,8,9,10] ?_;refine Ap0 PB ?_;refine Zat [(7,.ro [pI x.act,pI x.item,pI x.n,pI x.kind,.str x.label,.sl 4 XH,.sl 4 XW,.sl 8 XK]),(8,.bool p),(9,.ro [pI y.act,pI y.item,pI y.n,pI y.kind,.str y.label,.sl 4 YH,.sl 4 YW,.sl 8 YK]),(10,.bool q)] ⟨View.loc (z:=8) (fz:=false) (es:=[[pI x.act,pI x.item,pI x.n,pI x.kind,.str x.label,.sl 4 XH,.sl 4 XW,.sl 8 XK]]) rfl (by simp) rfl (by simp),View.refl _ _,View.loc (z:=8) (fz:=false) (es:=[[pI y.act,pI y.item,pI y.n,pI y.kind,.str y.label,.sl 4 YH,.sl 4 YW,.sl 8 YK]]) rfl (by simp) rfl (by simp),View.refl _ _,trivial⟩ ?_;cases p with
 | false =>
  rw [if_neg (by simp)];refine Zaa (Zaa (Zae [29] ?_));refine Sp0 ?_;refine Ct ?_;exact Rv0 [6]
 | true =>
 cases q with
 | false =>
  rw [if_neg (by simp)];refine Zaa (Zaa (Zae [29] ?_));refine Sp0 ?_;refine Ct ?_;exact Rv0 [6]
 | true =>
  rw [if_pos ⟨rfl,rfl⟩];refine Zaa (Zaa (Zae [7,9,29] ?_));refine Sp0 ?_;refine Fp0 ?_;refine Rp0 [7,9,11] ?_;refine Zaa (Zaa (Zae [7,9,11,34] ?_));refine Sp1 hid ?_;by_cases he:idU x=idU y
  ·rw [if_pos he,decide_eq_true he];refine Ct ?_;refine Rp1 [6] @xan ?_;refine Zao NX ?_;exact Tv0
  ·rw [if_neg he,decide_eq_false he];refine Fp0 ?_;refine Zaa (Zb9 10 [6] (by simp) ?_);refine Sp0 ?_;refine ⟨.str (nameU x),(.inl NX),?_⟩;refine Sp0 ?_;refine ⟨by omega,.str (nameU y),(.inl NY),?_⟩;refine Sp0 ?_;refine ⟨by rw [List.length_append];simp only [List.length_cons,List.length_nil];omega,?_⟩;exact Tv0
end Go.Proofs.YtcgdjembdjdlhaaGreatDoor.w
namespace Go.Proofs.YtcgdjembdjdlhaaGreatDoor.w
open Go Go.VM
def c_pandectref55_place:VC:=(ZR [ZO 2 (.box 8 (.t 0)),ZO 3 (.box 3 (.t 1)),ZO 4 (.mv (.c (.str [])))] (ZR [ZO 12 (.load true 8 (.t 2)),ZO 13 (.load true 3 (.t 3)),ZO 14 (.call 122 [.t 12,.t 13]),ZM 11 14,ZO 15 (.ext (.t 11) 0),ZO 16 (.ext (.t 11) 1),ZO 5 (.alloc ZU),ZN (.store 8 (.t 5) (.t 15)),ZM 6 16] (.seq (ZR [ZM 17 6,ZO 18 (.un .not (.t 17)),ZM 19 18,ZG 20 (.faddr 0 (.t 5)) 19 false,ZG 21 (.load true 3 (.t 20)) 19 false,ZG 22 (.faddr 0 (.t 2)) 19 false,ZG 23 (.load true 3 (.t 22)) 19 false,ZG 24 (.eqs false [.i,.i,.i] (.t 21) (.t 23)) 19 false,ZO 25 (.pick (.t 19) (.c (.bool true)) (.t 24))] (.cond (.t 25) (ZR [ZO 4 (.mv (.c (.str [])))] .ret) .skip)) (.seq (.draw2 [ZO 26 (.load true 3 (.t 3)),ZO 27 (.bslice 3 1 [.int .i64 0,.int .i64 0,.int .i64 0] [(0,(.t 26))]),ZO 28 (.load true 8 (.t 2)),ZO 29 (.load true 3 (.t 3)),ZO 30 (.call 123 [.t 28,.t 29]),ZO 31 (.app 3 24 [.int .i64 0,.int .i64 0,.int .i64 0] false (.t 27) (.t 30)),ZM 7 31] [true,true,true,true,true,false,false]) (.seq (ZR [ZO 8 (.mv (.c (.int .i64 0)))] (.block 0 (.loop (.seq (ZR [ZM 32 8,ZM 33 7,ZO 34 (.len false (.t 33)),ZO 35 (.bin .lss (.t 32) (.t 34))] (.cond (.t 35) .skip (.exit 0))) (.seq (.block 1 (.seq (.draw2 [ZO 39 (.load true 8 (.t 2)),ZM 40 7,ZM 41 8,ZO 42 (.iaddr 3 (.t 40) (.t 41)),ZO 43 (.load true 3 (.t 42)),ZO 44 (.call 122 [.t 39,.t 43]),ZM 38 44,ZO 45 (.ext (.t 38) 0),ZO 46 (.ext (.t 38) 1),ZO 9 (.alloc ZU),ZN (.store 8 (.t 9) (.t 45)),ZM 10 46] [true,true,true,true,true,true,true,true,false,true,false,false]) (ZR [ZO 47 (.faddr 3 (.t 9)),ZO 48 (.load false 1 (.t 47)),ZO 49 (.bin .eql (.t 48) (.c (.int .i64 2)))] (.cond (.t 49) (ZR [ZO 50 (.load true 8 (.t 9)),ZN (.store 8 (.t 5) (.t 50))] (.exit 0)) .skip)))) (.region [ZM 36 8,ZO 37 (.bin .add (.t 36) (.c (.int .i64 1))),ZM 8 37] false)))))) (.seq (.region [ZO 51 (.faddr 3 (.t 5)),ZO 52 (.load false 1 (.t 51)),ZO 53 (.call 124 [.t 52]),ZO 54 (.bin .add (.t 53) (.c (.str [32]))),ZO 55 (.faddr 4 (.t 5)),ZO 56 (.load false 1 (.t 55)),ZO 57 (.bin .add (.t 54) (.t 56)),ZM 4 57] true) .ret))))))
def c_pandectref55_nearest:VC:=(ZR [ZO 2 (.box 8 (.t 0)),ZO 3 (.box 3 (.t 1)),ZO 4 (.alloc [.int .i64 0,.int .i64 0,.int .i64 0])] (.seq (.draw2 [ZO 9 (.load true 3 (.t 3)),ZO 10 (.bslice 3 1 [.int .i64 0,.int .i64 0,.int .i64 0] [(0,(.t 9))]),ZO 11 (.load true 8 (.t 2)),ZO 12 (.load true 3 (.t 3)),ZO 13 (.call 123 [.t 11,.t 12]),ZO 14 (.app 3 24 [.int .i64 0,.int .i64 0,.int .i64 0] false (.t 10) (.t 13)),ZM 5 14] [true,true,true,true,true,false,false]) (.seq (ZR [ZO 6 (.mv (.c (.int .i64 0)))] (.block 0 (.loop (.seq (ZR [ZM 15 6,ZM 16 5,ZO 17 (.len false (.t 16)),ZO 18 (.bin .lss (.t 15) (.t 17))] (.cond (.t 18) .skip (.exit 0))) (.seq (.block 1 (.seq (.draw2 [ZO 22 (.load true 8 (.t 2)),ZM 23 5,ZM 24 6,ZO 25 (.iaddr 3 (.t 23) (.t 24)),ZO 26 (.load true 3 (.t 25)),ZO 27 (.call 122 [.t 22,.t 26]),ZM 21 27,ZO 28 (.ext (.t 21) 0),ZO 29 (.ext (.t 21) 1),ZO 7 (.alloc ZU),ZN (.store 8 (.t 7) (.t 28)),ZM 8 29] [true,true,true,true,true,true,true,true,false,true,false,false]) (ZR [ZO 30 (.faddr 3 (.t 7)),ZO 31 (.load false 1 (.t 30)),ZO 32 (.bin .eql (.t 31) (.c (.int .i64 2)))] (.cond (.t 32) (ZR [ZO 33 (.faddr 0 (.t 7)),ZO 34 (.load true 3 (.t 33)),ZN (.store 3 (.t 4) (.t 34))] .ret) .skip)))) (.region [ZM 19 6,ZO 20 (.bin .add (.t 19) (.c (.int .i64 1))),ZM 6 20] false)))))) (ZR [ZO 35 (.load true 3 (.t 3)),ZN (.store 3 (.t 4) (.t 35))] .ret))))
def plaS (u:Un) (x:Idt):Str:=if (Zct u x).2=true then nameU (Zct u x).1 else []
def neaT (u:Un) (x:Idt):Idt:=match (x::ancT x u).find? (fun a=>decide ((Zau a u).1.kind=2)) with
 | some a=>idU (Zau a u).1
 | none=>x
theorem anc_few {u:Un} (hu:SmT u) (hn:(unitsT u).length≤1000) (x:Idt):(ancT x u).length≤1000:=by
 have:=way_len (x:=x) hu;unfold ancT;simp;omega
theorem find_id {u:Un} (hu:SmT u) {x:Idt} (h:(Zau x u).2=true):idU (Zau x u).1=x:=by
 have hw:=find_way h;have hl:=List.getLast?_eq_some_getLast hw;have:=way_id hu _ hl;unfold Zau;rw [hl];exact this
theorem sp_ref55_place {u:Un} (hu:SmT u) (hn:(unitsT u).length≤1000) (x:Idt):Zak Tryz.prog 66 [.agg u.enc,.agg x.enc] (.str (plaS u x)):=by
 have FN:=fun y=>sp_ref06_Find hu y;have AN:=sp_ref06_Above hu hn x;have hal:=anc_few hu hn x;have hpl:=place_lab hu x;have hfi:=find_id hu (x:=x);refine Zad ?_ (cS _) (Zbe u x);refine Gn (vc:=c_pandectref55_place) [.t 4] Tryz.func66 ?_;unfold c_pandectref55_place;try dsimp only [ZM,ZO,ZN,ZG,ZR,ZU]
 have hxe:x.enc=[pI x.act,pI x.item,pI x.n]:=rfl;unfold plaS;unfold Zct at hpl ⊢;have FX:=FN x;rw [hxe,Un.Zaf u] at FX;rw [hxe,Un.Zaf u] at AN ⊢;rw [Un.Zaf u] at FN;refine Rp0 [2,3] ?_;refine Zat [(2,.ro [pI u.act,pI u.item,pI u.n,pI u.kind,.str u.label,.sl 4 (u.head.map Wd.enc),.sl 4 (u.words.map Wd.enc),.sl 8 (u.kids.map Un.enc)]),(3,.ro [pI x.act,pI x.item,pI x.n])]
  ⟨View.loc (z:=8) (fz:=false) (es:=[[pI u.act,pI u.item,pI u.n,pI u.kind,.str u.label,.sl 4 (u.head.map Wd.enc),.sl 4 (u.words.map Wd.enc),.sl 8 (u.kids.map Un.enc)]]) rfl (by simp) rfl (by simp),View.loc (z:=3) (fz:=false) (es:=[[pI x.act,pI x.item,pI x.n]]) rfl (by simp) rfl (by simp),trivial⟩ ?_
 generalize u.head.map Wd.enc=EH at *;generalize u.words.map Wd.enc=EW at *;generalize u.kids.map Un.enc=EK at *;generalize hfx:Zau x u=fx at *;obtain ⟨v,b⟩:=fx;simp only [] at FX hfi;rw [Un.Zaf v] at FX;refine Rp0 [2,3,5,6] ?_;refine Ap0 FX ?_;have hid:=id_eqs (idU v) (idU u);have hid':((v.act==u.act&&(v.item==u.item&&(v.n==u.n&&true))) != false)=decide (idU v=idU u):=hid;refine Zaa ?_;by_cases hc:b=true∧x≠idU u
 ·have hvx:=hfi hc.1;rw [if_pos hc] at hpl;have e1:decide (idU v=idU u)=false:=decide_eq_false (by rw [hvx];exact hc.2);rw [e1] at hid';refine Rp1 [2,3,5,25] (x2 hc.1 hid') ?_;refine Fp0 ?_;refine Zaa (VW_draw2O 1 ⟨[],24⟩ [2,5,7] rfl (by simp [Heap.le,HL.le]) ?_);simp only [vmL,Nat.reduceEqDiff,Nat.reduceAdd,Nat.reduceLT,Nat.reduceLeDiff,Nat.reduceSub,Nat.reduceMul,reduceIte,reduceCtorEq,Int.reduceToNat,Zcp,DrawC_at,DrawC_n,Nat.reduceBEq];refine ⟨_,.inl AN,?_⟩;try simp only [vmL,Nat.reduceEqDiff,Nat.reduceAdd,Nat.reduceLT,Nat.reduceLeDiff,Nat.reduceSub,Nat.reduceMul,reduceIte,reduceCtorEq,Int.reduceToNat,Zcp,DrawC_at,DrawC_n,Nat.reduceBEq]
  have hAl:((ancT x u).map Idt.enc).length=(ancT x u).length:=List.length_map _;refine ⟨by omega,by omega,?_⟩;have hLl:(x::ancT x u).length=1+(ancT x u).length:=by rw [List.length_cons];omega
  have hLm:(x::ancT x u).map Idt.enc=[pI x.act,pI x.item,pI x.n]::(ancT x u).map Idt.enc:=by rw [List.map_cons,hxe]
  rw [hAl,← hLl,← hLm];have hLb:(x::ancT x u).length≤1001:=by rw [hLl];omega
  generalize x::ancT x u=AL at *;have hRl:(AL.map Idt.enc).length=AL.length:=List.length_map _;refine Zb7 (l1:=[(4,.arr false 3 (AL.map Idt.enc))]) (l2:=[(2,.arr false 8 [[pI v.act,pI v.item,pI v.n,pI v.kind,.str v.label,.sl 4 (v.head.map Wd.enc),.sl 4 (v.words.map Wd.enc),.sl 8 (v.kids.map Un.enc)]])]) (t:=5)
   [(2,.ro [pI u.act,pI u.item,pI u.n,pI u.kind,.str u.label,.sl 4 EH,.sl 4 EW,.sl 8 EK]),(5,.loc 2 0 0),(7,.sl 3 (AL.map Idt.enc))] (by simp [Heap.le,Heap.get,HL.le,HL.get]) (by simp) (by simp)
   ⟨View.refl _ _,View.refl _ _,View.own_all (fz:=false) rfl hRl.symm,trivial⟩ ?_
  refine Zaa ?_;refine Rp0 [2,5,7,8] ?_;refine Zab ?_;refine Zah (σ:={ y:Nat×Nat//y.1≤AL.length∧2<y.2∧∀ (j:Nat) (hj:j<AL.length),j<y.1→decide ((Zau AL[j] u).1.kind=2)=false }) (fun y=>([(2,.ro [pI u.act,pI u.item,pI u.n,pI u.kind,.str u.label,.sl 4 EH,.sl 4 EW,.sl 8 EK]),(5,.loc 2 0 0),(7,.sl 3 (AL.map Idt.enc)),(8,pI y.1.1)],⟨[(2,.arr false 8 [[pI v.act,pI v.item,pI v.n,pI v.kind,.str v.label,.sl 4 (v.head.map Wd.enc),.sl 4 (v.words.map Wd.enc),.sl 8 (v.kids.map Un.enc)]])],y.1.2⟩)) (fun y=>AL.length-y.1.1) ⟨(0,5),Nat.zero_le _,by show 2<5;omega,fun j _ h=>by cases h⟩ ?_ ?_ ?_
  ·simp only [vmL,Nat.reduceEqDiff,Nat.reduceAdd,Nat.reduceLT,Nat.reduceLeDiff,Nat.reduceSub,Nat.reduceMul,reduceIte,reduceCtorEq,Int.reduceToNat]
   first|done|rfl
  ·exact Sc0
  rintro ⟨⟨k,t⟩,hkk,ht,hpre⟩;simp only [] at hkk ht hpre ⊢;have qq:=N4 2 t (t+1) (t+2);refine Zaa ?_;refine Rp1 [2,5,7,8,35] (x2 hRl qq) ?_;refine Zac rfl (fun h1=>?_) (fun h1=>?_)
  ·have ka:k<AL.length:=by simp only [decide_eq_true_eq] at h1;omega
   have hrow:(AL.map Idt.enc).getD k []=AL[k].enc:=rowm ka;have F:=FN AL[k];have hhit:=find?_at (p:=fun a=>decide ((Zau a u).1.kind=2)) ka hpre;have hnext:decide ((Zau AL[k] u).1.kind=2)=false→∀ (j:Nat) (hj:j<AL.length),j<k+1→decide ((Zau AL[j] u).1.kind=2)=false:=fun h j hj hjk=>by
    by_cases e:j=k
    ·subst e;exact h
    ·exact hpre j hj (by omega)
   generalize AL[k]=a at hrow F hhit hnext;have hae:a.enc=[pI a.act,pI a.item,pI a.n]:=rfl;rw [hae] at hrow F;have hlab:=find_lab hu a;generalize hy:Zau a u=yb at *;obtain ⟨y,c⟩:=yb;simp only [] at F hhit hnext hlab;rw [Un.Zaf y] at F;refine Kp0 ?_;refine Zaa ?_;refine Zab ?_;refine Zaa (VW_draw2E (t+20) [2,5,7,8,9] (by simp) ?_);refine Sp1 (x3 hRl hrow qq) ?_;refine ⟨⟨by omega,by omega⟩,_,.inl F,?_⟩;refine Sp1 qq ?_;refine ⟨by omega,by omega,?_⟩;refine Rp1 [2,5,7,8,9,49] qq ?_;by_cases hk2:y.kind=2
   ·have e2:(y.kind==2)=true:=by simpa using hk2
    rw [hhit (decide_eq_true hk2)];simp only [hy];have NM:=sp_ref06_Name y.kind;have hnl:=nameK_len y.kind;refine Zac rfl (fun _=>?_) (fun h=>by rw [e2] at h;cases h);refine Rp1 [5] qq ?_;refine Ep1 qq ?_;refine Zaa (VW_draw [4] ⟨[(2,.arr false 8 [[pI y.act,pI y.item,pI y.n,pI y.kind,.str y.label,.sl 4 (y.head.map Wd.enc),.sl 4 (y.words.map Wd.enc),.sl 8 (y.kids.map Un.enc)]])],t+20⟩ (by simp [Heap.le,Heap.get,HL.le,HL.get,qq]) ?_);refine Sp1 qq ?_;refine ⟨_,.inl NM,?_⟩;refine Sp0 ?_;refine ⟨by omega,by simp only [List.length_append,List.length_cons,List.length_nil];omega,?_⟩;refine Tp0 ?_;rw [if_pos (show ¬x=idU u from hc.2)];exact View.refl _ _
   ·have e2:(y.kind==2)=false:=by simpa using hk2
    refine Zac rfl (fun h=>by rw [e2] at h;cases h) (fun _=>?_);refine Kp0 ?_;refine rp1 [2,5,7,8] (x2 (ad1 (a:=k) (by omega)) qq) ?_;refine ⟨⟨(k+1,t+1),ka,by show 2<t+1;omega,hnext (decide_eq_false hk2)⟩,?_⟩;exact Fn1 qq
  ·have ka:k=AL.length:=by simp only [decide_eq_false_iff_not] at h1;omega
   subst ka;rw [find?_no fun j hj=>hpre j hj hj] at hpl ⊢;have NM:=sp_ref06_Name v.kind;have hnl:=nameK_len v.kind;simp only [] at hpl ⊢;refine Ep0 ?_;refine Zaa (VW_draw [4] ⟨[(2,.arr false 8 [[pI v.act,pI v.item,pI v.n,pI v.kind,.str v.label,.sl 4 (v.head.map Wd.enc),.sl 4 (v.words.map Wd.enc),.sl 8 (v.kids.map Un.enc)]])],t+20⟩ (by simp [Heap.le,Heap.get,HL.le,HL.get]) ?_);refine Sp1 qq ?_;refine ⟨_,.inl NM,?_⟩;refine Sp0 ?_;refine ⟨by omega,by simp only [List.length_append,List.length_cons,List.length_nil];omega,?_⟩;refine Tp0 ?_;rw [if_pos (show ¬x=idU u from hc.2)];exact View.refl _ _
 ·rw [if_neg hc];have hbb:b=false∨decide (idU v=idU u)=true:=by
   cases b with
   | false=>exact .inl rfl
   | true =>
    right
    rw [hfi rfl];refine decide_eq_true ?_;by_cases h:x=idU u
    ·exact h
    ·exact absurd ⟨rfl,h⟩ hc
  simp only [Bool.false_eq_true,if_false];rcases hbb with hb|hb
  ·refine Rp1 [25] hb ?_;refine Ct ?_;exact Rv0 [4]
  ·rw [hb] at hid';cases b with
   | false =>
    refine Rp0 [25] ?_;refine Ct ?_;exact Rv0 [4]
   | true =>
    refine Rp1 [25] hid' ?_;refine Ct ?_;exact Rv0 [4]
end Go.Proofs.YtcgdjembdjdlhaaGreatDoor.w
namespace Go.Proofs.YtcgdjembdjdlhaaGreatDoor.w
open Go Go.VM
def c_pandectref55_Head:VC:=(ZR [ZO 3 (.box 8 (.t 0)),ZO 4 (.box 3 (.t 1)),ZO 5 (.box 3 (.t 2)),ZO 6 (.mv (.c (.str [])))] (.seq (.region [ZO 9 (.load true 8 (.t 3)),ZO 10 (.load true 3 (.t 4)),ZO 11 (.call 66 [.t 9,.t 10]),ZO 12 (.load true 8 (.t 3)),ZO 13 (.load true 3 (.t 5)),ZO 14 (.call 66 [.t 12,.t 13]),ZM 7 11,ZM 8 14] true) (.seq (ZR [ZM 15 7,ZO 16 (.bin .eql (.t 15) (.c (.str []))),ZM 17 16,ZG 18 (.mv (.t 8)) 17 false,ZG 19 (.bin .eql (.t 18) (.c (.str []))) 17 false,ZO 20 (.pick (.t 17) (.c (.bool true)) (.t 19))] (.cond (.t 20) (ZR [ZO 6 (.mv (.c (.str [])))] .ret) .skip)) (.seq (.seq (.region [ZM 21 7,ZM 22 8,ZO 23 (.bin .eql (.t 21) (.t 22)),ZM 24 23,ZG 25 (.load true 8 (.t 3)) 24 true,ZG 26 (.load true 3 (.t 4)) 24 true,ZG 27 (.call 67 [.t 25,.t 26]) 24 true,ZG 28 (.load true 8 (.t 3)) 24 true,ZG 29 (.load true 3 (.t 5)) 24 true,ZG 30 (.call 67 [.t 28,.t 29]) 24 true,ZG 31 (.eqs false [.i,.i,.i] (.t 27) (.t 30)) 24 true,ZO 32 (.pick (.t 24) (.t 31) (.c (.bool false)))] true) (.cond (.t 32) (ZR [ZM 33 7,ZM 6 33] .ret) .skip)) (ZR [ZM 34 7,ZO 35 (.bin .add (.t 34) (.c (.str [32,116,111,32]))),ZM 36 8,ZO 37 (.bin .add (.t 35) (.t 36)),ZM 6 37] .ret)))))
def c_pandectref55_high:VC:=(ZR [ZO 4 (.mv (.c (.int .i64 0)))] (.seq (ZR [ZM 5 1,ZO 6 (.bin .gtr (.t 5) (.c (.int .i64 0)))] (.cond (.t 6) (.region [ZM 7 1,ZO 8 (.bin .add (.t 7) (.c (.int .i64 1))),ZM 1 8] false) .skip)) (ZR [ZM 9 0,ZO 10 (.bin .add (.c (.int .i64 1)) (.t 9)),ZM 11 1,ZO 12 (.bin .add (.t 10) (.t 11)),ZM 4 12] .ret)))
theorem closed_agi (x:Idt):Closed (.agg x.enc):=Zax (Idt.closed x)
theorem sp_ref55_nearest {u:Un} (hu:SmT u) (hn:(unitsT u).length≤1000) (x:Idt):Zak Tryz.prog 67 [.agg u.enc,.agg x.enc] (.agg (neaT u x).enc):=by
 have FN:=fun y=>sp_ref06_Find hu y;have AN:=sp_ref06_Above hu hn x;have hal:=anc_few hu hn x;refine Zad ?_ (closed_agi _) (Zbe u x);refine Gn (vc:=c_pandectref55_nearest) [.c 4 true 3] Tryz.func67 ?_;unfold c_pandectref55_nearest;try dsimp only [ZM,ZO,ZN,ZG,ZR,ZU]
 have hxe:x.enc=[pI x.act,pI x.item,pI x.n]:=rfl;unfold neaT;rw [hxe,Un.Zaf u] at AN ⊢;rw [Un.Zaf u] at FN;refine Rp0 [2,3,4] ?_;refine Zb7 (l1:=[(1,.arr false 3 [[pI x.act,pI x.item,pI x.n]]),(0,.arr false 8 [[pI u.act,pI u.item,pI u.n,pI u.kind,.str u.label,.sl 4 (u.head.map Wd.enc),.sl 4 (u.words.map Wd.enc),.sl 8 (u.kids.map Un.enc)]])]) (l2:=[(2,.arr false 3 [[pI 0,pI 0,pI 0]])]) (t:=3)
  [(2,.ro [pI u.act,pI u.item,pI u.n,pI u.kind,.str u.label,.sl 4 (u.head.map Wd.enc),.sl 4 (u.words.map Wd.enc),.sl 8 (u.kids.map Un.enc)]),(3,.ro [pI x.act,pI x.item,pI x.n]),(4,.loc 2 0 0)] (by simp [Heap.le,Heap.get,HL.le,HL.get]) (by simp) (by simp)
  ⟨View.loc (z:=8) (fz:=false) (es:=[[pI u.act,pI u.item,pI u.n,pI u.kind,.str u.label,.sl 4 (u.head.map Wd.enc),.sl 4 (u.words.map Wd.enc),.sl 8 (u.kids.map Un.enc)]]) rfl (by simp) rfl (by simp),View.loc (z:=3) (fz:=false) (es:=[[pI x.act,pI x.item,pI x.n]]) rfl (by simp) rfl (by simp),View.refl _ _,trivial⟩ ?_
 generalize u.head.map Wd.enc=EH at *;generalize u.words.map Wd.enc=EW at *;generalize u.kids.map Un.enc=EK at *;refine Zaa (VW_draw2O 1 ⟨[],24⟩ [2,3,4,5] rfl (by simp [Heap.le,HL.le]) ?_);simp only [vmL,Nat.reduceEqDiff,Nat.reduceAdd,Nat.reduceLT,Nat.reduceLeDiff,Nat.reduceSub,Nat.reduceMul,reduceIte,reduceCtorEq,Int.reduceToNat,Zcp,DrawC_at,DrawC_n,Nat.reduceBEq];refine ⟨_,.inl AN,?_⟩;try simp only [vmL,Nat.reduceEqDiff,Nat.reduceAdd,Nat.reduceLT,Nat.reduceLeDiff,Nat.reduceSub,Nat.reduceMul,reduceIte,reduceCtorEq,Int.reduceToNat,Zcp,DrawC_at,DrawC_n,Nat.reduceBEq]
 have hAl:((ancT x u).map Idt.enc).length=(ancT x u).length:=List.length_map _;refine ⟨by omega,by omega,?_⟩;have hLl:(x::ancT x u).length=1+(ancT x u).length:=by rw [List.length_cons];omega
 have hLm:(x::ancT x u).map Idt.enc=[pI x.act,pI x.item,pI x.n]::(ancT x u).map Idt.enc:=by rw [List.map_cons,hxe]
 rw [hAl,← hLl,← hLm];have hLb:(x::ancT x u).length≤1001:=by rw [hLl];omega
 generalize x::ancT x u=AL at *;have hRl:(AL.map Idt.enc).length=AL.length:=List.length_map _;refine Zb7 (l1:=[(4,.arr false 3 (AL.map Idt.enc))]) (l2:=[(2,.arr false 3 [[pI 0,pI 0,pI 0]])]) (t:=5)
  [(2,.ro [pI u.act,pI u.item,pI u.n,pI u.kind,.str u.label,.sl 4 EH,.sl 4 EW,.sl 8 EK]),(3,.ro [pI x.act,pI x.item,pI x.n]),(4,.loc 2 0 0),(5,.sl 3 (AL.map Idt.enc))] (by simp [Heap.le,Heap.get,HL.le,HL.get]) (by simp) (by simp)
  ⟨View.refl _ _,View.refl _ _,View.refl _ _,View.own_all (fz:=false) rfl hRl.symm,trivial⟩ ?_
 refine Zaa ?_;refine Rp0 [2,3,4,5,6] ?_;refine Zab ?_;refine Zah (σ:={ y:Nat×Nat//y.1≤AL.length∧2<y.2∧∀ (j:Nat) (hj:j<AL.length),j<y.1→decide ((Zau AL[j] u).1.kind=2)=false }) (fun y=>([(2,.ro [pI u.act,pI u.item,pI u.n,pI u.kind,.str u.label,.sl 4 EH,.sl 4 EW,.sl 8 EK]),(3,.ro [pI x.act,pI x.item,pI x.n]),(4,.loc 2 0 0),(5,.sl 3 (AL.map Idt.enc)),(6,pI y.1.1)],⟨[(2,.arr false 3 [[pI 0,pI 0,pI 0]])],y.1.2⟩)) (fun y=>AL.length-y.1.1) ⟨(0,5),Nat.zero_le _,by show 2<5;omega,fun j _ h=>by cases h⟩ ?_ ?_ ?_
 ·simp only [vmL,Nat.reduceEqDiff,Nat.reduceAdd,Nat.reduceLT,Nat.reduceLeDiff,Nat.reduceSub,Nat.reduceMul,reduceIte,reduceCtorEq,Int.reduceToNat]
  first|done|rfl
 ·exact Sc0
 rintro ⟨⟨k,t⟩,hkk,ht,hpre⟩;simp only [] at hkk ht hpre ⊢;have qq:=N4 2 t (t+1) (t+2);refine Zaa ?_;refine Rp1 [2,3,4,5,6,18] (x2 hRl qq) ?_;refine Zac rfl (fun h1=>?_) (fun h1=>?_)
 ·have ka:k<AL.length:=by simp only [decide_eq_true_eq] at h1;omega
  have hrow:(AL.map Idt.enc).getD k []=AL[k].enc:=rowm ka;have F:=FN AL[k];have hhit:=find?_at (p:=fun a=>decide ((Zau a u).1.kind=2)) ka hpre;have hnext:decide ((Zau AL[k] u).1.kind=2)=false→∀ (j:Nat) (hj:j<AL.length),j<k+1→decide ((Zau AL[j] u).1.kind=2)=false:=fun h j hj hjk=>by
   by_cases e:j=k
   ·subst e;exact h
   ·exact hpre j hj (by omega)
  generalize AL[k]=a at hrow F hhit hnext;have hae:a.enc=[pI a.act,pI a.item,pI a.n]:=rfl;rw [hae] at hrow F;generalize hy:Zau a u=yb at F hhit hnext;obtain ⟨y,c⟩:=yb;simp only [] at F hhit hnext;rw [Un.Zaf y] at F;refine Kp0 ?_;refine Zaa ?_;refine Zab ?_;refine Zaa (VW_draw2E (t+20) [2,3,4,5,6,7] (by simp) ?_);refine Sp1 (x3 hRl hrow qq) ?_;refine ⟨⟨by omega,by omega⟩,_,.inl F,?_⟩;refine Sp1 qq ?_;refine ⟨by omega,by omega,?_⟩;refine Rp1 [2,3,4,5,6,7,32] qq ?_;by_cases hk2:y.kind=2
  ·have e2:(y.kind==2)=true:=by simpa using hk2
   rw [hhit (decide_eq_true hk2)];simp only [hy];refine Zac rfl (fun _=>?_) (fun h=>by rw [e2] at h;cases h);refine Rp1 [4] qq ?_;exact Tv1 qq
  ·have e2:(y.kind==2)=false:=by simpa using hk2
   refine Zac rfl (fun h=>by rw [e2] at h;cases h) (fun _=>?_);refine Kp0 ?_;refine rp1 [2,3,4,5,6] (x2 (ad1 (a:=k) (by omega)) qq) ?_;refine ⟨⟨(k+1,t+1),ka,by show 2<t+1;omega,hnext (decide_eq_false hk2)⟩,?_⟩;exact Fn1 qq
 ·have ka:k=AL.length:=by simp only [decide_eq_false_iff_not] at h1;omega
  subst ka;rw [find?_no fun j hj=>hpre j hj hj];simp only [];refine Ep0 ?_;refine Rp1 [4] qq ?_;exact Tv1 qq
def heaS (u:Un) (a b:Idt):Str:=if plaS u a=[]∨plaS u b=[] then [] else if plaS u a=plaS u b∧neaT u a=neaT u b then plaS u a else plaS u a++[32,116,111,32]++plaS u b
theorem plaS_len {u:Un} (hu:SmT u) (x:Idt):(plaS u x).length≤40:=by
 unfold plaS;split
 ·exact nameU_len _ (place_lab hu x)
 ·simp
theorem sp_ref55_Head {u:Un} (hu:SmT u) (hn:(unitsT u).length≤1000) (a b:Idt):Zak Tryz.prog 37 [.agg u.enc,.agg a.enc,.agg b.enc] (.str (heaS u a b)):=by
 have PA:=sp_ref55_place hu hn a;have PB:=sp_ref55_place hu hn b;have NA:=sp_ref55_nearest hu hn a;have NB:=sp_ref55_nearest hu hn b;have la:=plaS_len hu a;have lb:=plaS_len hu b;refine Zad ?_ (cS _) (closed_head u a b);refine Gn (vc:=c_pandectref55_Head) [.t 6] Tryz.func37 ?_;unfold c_pandectref55_Head;try dsimp only [ZM,ZO,ZN,ZG,ZR,ZU]
 have hae:a.enc=[pI a.act,pI a.item,pI a.n]:=rfl;have hbe:b.enc=[pI b.act,pI b.item,pI b.n]:=rfl;have he:=id_eqs (neaT u a) (neaT u b);unfold heaS;have hna:(neaT u a).enc=[pI (neaT u a).act,pI (neaT u a).item,pI (neaT u a).n]:=rfl;have hnb:(neaT u b).enc=[pI (neaT u b).act,pI (neaT u b).item,pI (neaT u b).n]:=rfl;rw [hae,Un.Zaf u] at PA;rw [hbe,Un.Zaf u] at PB;rw [hae,hna,Un.Zaf u] at NA;rw [hbe,hnb,Un.Zaf u] at NB;rw [hae,hbe,Un.Zaf u];generalize u.head.map Wd.enc=EH at *;generalize u.words.map Wd.enc=EW at *;generalize u.kids.map Un.enc=EK at *;generalize neaT u a=na at *;generalize neaT u b=nb at *;generalize plaS u a=p at *;generalize plaS u b=q at *;refine Rp0 [3,4,5] ?_;refine Zat [(3,.ro [pI u.act,pI u.item,pI u.n,pI u.kind,.str u.label,.sl 4 EH,.sl 4 EW,.sl 8 EK]),(4,.ro [pI a.act,pI a.item,pI a.n]),(5,.ro [pI b.act,pI b.item,pI b.n])]
  ⟨View.loc (z:=8) (fz:=false) (es:=[[pI u.act,pI u.item,pI u.n,pI u.kind,.str u.label,.sl 4 EH,.sl 4 EW,.sl 8 EK]]) rfl (by simp) rfl (by simp),View.loc (z:=3) (fz:=false) (es:=[[pI a.act,pI a.item,pI a.n]]) rfl (by simp) rfl (by simp),View.loc (z:=3) (fz:=false) (es:=[[pI b.act,pI b.item,pI b.n]]) rfl (by simp) rfl (by simp),trivial⟩ ?_
 refine Zaa (Zb9 10 [3,4,5,7,8] (by simp) ?_);refine Sp0 ?_;refine ⟨_,.inl PA,?_⟩;refine Sp0 ?_;refine ⟨_,.inl PB,?_⟩;refine Sp0 ?_;refine Zaa ?_;by_cases h1:p=[]
 ·have e1:(p==([]:Str))=true:=by rw [h1];rfl
  rw [if_pos (.inl h1)];refine Rp1 [20] e1 ?_;refine Ct ?_;exact Rv0 [6]
 have e1:(p==([]:Str))=false:=by simpa using h1
 by_cases h2:q=[]
 ·have e2:(q==([]:Str))=true:=by rw [h2];rfl
  rw [if_pos (.inr h2)];refine Rp1 [20] (x2 e1 e2) ?_;refine Ct ?_;exact Rv0 [6]
 have e2:(q==([]:Str))=false:=by simpa using h2
 rw [if_neg (by rintro (h|h);exact h1 h;exact h2 h)];refine Rp1 [3,4,5,7,8,20] (x2 e1 e2) ?_;refine Fp0 ?_;refine Zaa ?_;by_cases h3:p=q
 ·have e3:(p==q)=true:=by rw [h3];simp
  refine Zaa (Zb9 10 [7,8,32] (by simp) ?_);refine Sp1 e3 ?_;refine ⟨_,.inl NA,?_⟩;refine Sp1 e3 ?_;refine ⟨_,.inl NB,?_⟩;refine Sp1 e3 ?_;by_cases h4:na=nb
  ·rw [decide_eq_true h4] at he;rw [if_pos ⟨h3,h4⟩];refine Sp1 he ?_;refine Ct ?_;exact Rv0 [6]
  ·rw [decide_eq_false h4] at he;rw [if_neg (fun h=>h4 h.2)];refine Sp1 he ?_;refine Fp0 ?_;refine Rp0 [6] ?_;refine ⟨by omega,by simp only [List.length_append,List.length_cons,List.length_nil];omega,?_⟩;exact Tv0
 ·have e3:(p==q)=false:=by simpa using h3
  rw [if_neg (fun h=>h3 h.1)];refine Zaa (Zb9 10 [7,8,32] (by simp) ?_);refine Sp1 e3 ?_;refine Fp0 ?_;refine Rp0 [6] ?_;refine ⟨by omega,by simp only [List.length_append,List.length_cons,List.length_nil];omega,?_⟩;exact Tv0
theorem sp_ref55_high (l n:Nat) (hl:l≤1000000000) (hn:n≤1000000000):Zak Tryz.prog 36 [pI l,pI n] (pI ((1+l+up1 n:Nat):Int)):=by
 refine Gp (vc:=c_pandectref55_high) [.t 4] (cI _) Tryz.func36 ?_;unfold c_pandectref55_high;try dsimp only [ZM,ZO,ZN,ZG,ZR,ZU]
 have w1:IntKind.i64.wrap (1+(l:Int))=((1+l:Nat):Int):=by rw [w64 (by omega) (by omega)];omega
 refine Rp0 [0,1] ?_;refine Zaa ?_;refine Rp0 [0,1,6] ?_;by_cases h0:0<n
 ·have e1:decide ((n:Int)>0)=true:=decide_eq_true (by omega);have e2:up1 n=n+1:=by unfold up1;rw [if_pos h0]
  have w2:IntKind.i64.wrap (((1+l:Nat):Int)+((n+1:Nat):Int))=((1+l+(n+1):Nat):Int):=by rw [w64 (by omega) (by omega)];omega
  rw [e2];refine Zac rfl (fun _=>?_) (fun h=>by rw [e1] at h;cases h);refine rp1 [0,1] (ad1 (a:=n) (by omega)) ?_;refine Rp1 [4] (x2 w1 w2) ?_;exact Tv0
 ·have e1:decide ((n:Int)>0)=false:=decide_eq_false (by omega);have e2:up1 n=0:=by unfold up1;rw [if_neg h0];omega
  have e3:n=0:=by omega
  subst e3;rw [e2];have w2:IntKind.i64.wrap (((1+l:Nat):Int)+((0:Nat):Int))=((1+l+0:Nat):Int):=by rw [w64 (by omega) (by omega)];omega
  refine Zac rfl (fun h=>by rw [e1] at h;cases h) (fun _=>?_);refine Kp0 ?_;refine Rp1 [4] (x2 w1 w2) ?_;exact Tv0
end Go.Proofs.YtcgdjembdjdlhaaGreatDoor.w
namespace Go.VM
open Go
theorem range'_one {f:Nat→Nat} {c:Nat} {a:Nat} (h:∀ j,f j≤a) (h0:∀ j,j≠c→f j=0):∀ (n s:Nat),((List.range' s n).map f).sum≤a∧(c<s→((List.range' s n).map f).sum=0)
 | 0,s=>by simp
 | n+1,s=>by
  obtain ⟨h1,h2⟩:=range'_one h h0 n (s+1);rw [List.range'_succ,List.map_cons,List.sum_cons];by_cases hc:s=c
  ·subst hc;have:=h2 (by omega);have:=h s;refine ⟨by omega,fun hh=>by omega⟩
  ·have:=h0 s hc;refine ⟨by omega,fun hh=>?_⟩;have:=h2 (by omega);omega
theorem sum_add {α:Type} (f g:α→Nat):∀ l:List α,(l.map fun x=>f x+g x).sum=(l.map f).sum+(l.map g).sum
 | []=>rfl
 | x::r=>by simp only [List.map_cons,List.sum_cons];rw [sum_add f g r];omega
theorem notesK_sum {u:Un} (w:Int) (s n:Nat):∀ {ks:List Un},(∀ k∈ks,SmU k)→((List.range' s n).map fun j=>(Zcc w u j ks).length).sum≤ks.length*602
 | [],_=>by
  have:∀ l:List Nat,(l.map fun j=>(Zcc w u j []).length).sum=0:=by
   intro l
   induction l with
   | nil=>rfl
   | cons a r ih=>rw [List.map_cons,List.sum_cons,ih];rfl
  rw [this];simp
 | k::ks,h=>by
  have ih:=notesK_sum w s n (u:=u) (ks:=ks) fun x hx=>h x (List.mem_cons_of_mem _ hx);have hk:=linesU_le (h k List.mem_cons_self) w;have e:∀ j:Nat,(Zcc w u j (k::ks)).length=(if Zag u k==(j:Int) then (Za1 w k).length else 0)+(Zcc w u j ks).length:=by
   intro j;unfold Zcc;rw [List.filter_cons];split
   ·rw [List.flatMap_cons,List.length_append]
   ·simp
  have e2:((List.range' s n).map fun j=>(Zcc w u j (k::ks)).length).sum=((List.range' s n).map fun (j:Nat)=>(if Zag u k==(j:Int) then (Za1 w k).length else 0)).sum+((List.range' s n).map fun j=>(Zcc w u j ks).length).sum:=by
   rw [← sum_add];congr 1;exact List.map_congr_left fun j _=>e j
  rw [e2];have h1:=(range'_one (f:=fun (j:Nat)=>if Zag u k==(j:Int) then (Za1 w k).length else 0) (c:=(Zag u k).toNat) (a:=602) (fun j=>by
   show (if _ then _ else _)≤602;split<;>omega) (fun j hj=>by
   show (if _ then _ else _)=0;rw [if_neg];intro hh;rw [beq_iff_eq] at hh;omega) n s).1
  simp only [List.length_cons,Nat.add_mul,Nat.one_mul] at *;omega
theorem notesR_few {u:Un} (hs:∀ k∈u.kids,SmU k) (w:Int) (a b:Nat):(Zbv w u a b).length≤u.kids.length*602:=by
 unfold Zbv;rw [List.length_flatMap];exact notesK_sum w a (b-a) hs
theorem notes_ownF {u:Un} (hs:∀ k∈u.kids,SmU k) (w:Int) (t:Bool):∀ (l:List Str) (E:List Nat) (fr:Nat),Zam (ownF w u t fr l E)≤l.length*(u.kids.length*602)
 | [],E,fr=>by unfold ownF;simp [Zam]
 | s::l,[],fr=>by unfold ownF;simp [Zam]
 | s::l,e::E,fr=>by
  have ih:=notes_ownF hs w t l E (toN u e);have h1:=notesR_few hs w fr (toN u e);unfold ownF;unfold Zam at ih ⊢;rw [List.map_cons,List.sum_cons,List.length_cons,Nat.add_mul,Nat.one_mul];show (Zbv w u fr (toN u e)).length+_≤_;omega
theorem notes_ownL {u:Un} (hu:SmT u) (w:Int):Zam (ownL w u)≤362404*u.kids.length:=by
 have h1:=notes_ownF (fun k hk=>(hu.kids.2 k hk).u) w (tiedU u) (Za1 w u) (Za9 w (rowT u)) 0;have h2:=linesU_le hu.u w;unfold ownL;refine Nat.le_trans h1 ?_;have h3:(Za1 w u).length*(u.kids.length*602)≤602*(u.kids.length*602):=Nat.mul_le_mul_right _ h2;omega
theorem notes_bodyT {u:Un} (hu:SmT u) (w:Int):Zam (bodyT w u)≤362404*(unitsL u.kids).length:=by
 induction hu with
 | mk u h hk hs ih =>
  rw [bodyT_eq,Zba];have h1:=notes_ownL (.mk u h hk hs) w;have key:∀ L:List Un,(∀ k∈L,k∈u.kids)→Zam (bodyL w u L)+362404*L.length≤362404*(unitsL L).length:=by
   intro L
   induction L with
   | nil=>intro _;rw [bodyL];simp [Zam]
   | cons a r ihr =>
    intro hL;have h2:=ih a (hL a List.mem_cons_self);have h3:=ihr fun k hk=>hL k (List.mem_cons_of_mem _ hk);rw [bodyL,Zba,unitsL,List.length_append,Zan,List.length_cons,List.length_cons];have h4:Zam (if Zag u a<0 then bodyT w a else [])≤362404*(unitsL a.kids).length:=by
     split
     ·exact h2
     ·simp [Zam]
    omega
  have:=key u.kids fun k hk=>hk;omega
theorem notes_kids {u:Un} (hu:SmT u) (hn:(unitsT u).length≤1000) (w:Int):Zam (Zcs w true u u.kids)≤362404*1000:=by
 have key:∀ L:List Un,(∀ k∈L,k∈u.kids)→Zam (L.flatMap (bodyT w))≤362404*(unitsL L).length:=by
  intro L
  induction L with
  | nil=>intro _;simp [Zam]
  | cons a r ihr =>
   intro hL;have h2:=notes_bodyT (hu.kids.2 a (hL a List.mem_cons_self)) w;have h3:=ihr fun k hk=>hL k (List.mem_cons_of_mem _ hk);rw [List.flatMap_cons,Zba,unitsL,List.length_append,Zan,List.length_cons];omega
 have:=key u.kids fun k hk=>hk;rw [Zan,List.length_cons] at hn;unfold Zcs;rw [if_pos rfl];omega
theorem notesN_sub {a b c:List Ln}:Zam b≤Zam (a++b++c):=by
 rw [Zba,Zba];omega
theorem high_len (l:List Ln):l.length≤Zbf l:=by unfold Zbf;omega
theorem high_notes (l:List Ln):Zam l≤Zbf l:=by unfold Zbf up1;split<;>omega
theorem grp_mem {l g:List Ln} {pre post:List (List Ln)} (h:grpG [] l=pre++g::post):∃ a b,l=a++g++b:=by
 have:=grpG_flat l [];rw [h,List.flatten_append,List.flatten_cons,List.nil_append] at this;exact ⟨pre.flatten,post.flatten,by rw [← this,List.append_assoc]⟩
end Go.VM
namespace Go.VM
open Go
structure PgI (m : Int) (L : List Ln) (s : List (List Ln) × List Ln) : Prop where
 flat : s.1.flatten ++ s.2 = L
 ne : ∀ l ∈ s.1, l ≠ []
 hi : ∀ l ∈ s.1, (Zbf l : Int) ≤ m
 now : s.2 ≠ [] → (Zbf s.2 : Int) ≤ m
 last : L ≠ [] → s.2 ≠ []
theorem addG_eq (m:Int) (D:List (List Ln)) (N g:List Ln):addG m (some (D,N)) g=if m<(Zbf g:Int) then none else if N≠[]∧m<(Zbf (N++g):Int) then some (D++[N],g) else some (D,N++g):=rfl
theorem pgI_step {m:Int} {L:List Ln} {s s':List (List Ln)×List Ln} {g:List Ln} (I:PgI m L s) (hg:g≠[]) (h:addG m (some s) g=some s'):PgI m (L++g) s':=by
 obtain ⟨D,N⟩:=s;have hf:D.flatten++N=L:=I.flat
 rw [addG_eq] at h;split at h
 ·cases h
 rename_i h1;split at h
 ·rename_i h2;simp only [Option.some.injEq] at h;subst h;refine ⟨?_,?_,?_,fun _=>by show (Zbf g:Int)≤m;omega,fun _=>hg⟩
  ·show (D++[N]).flatten++g=L++g;rw [← hf,List.flatten_append];simp
  ·intro l hl;rcases List.mem_append.1 hl with hl|hl
   ·exact I.ne l hl
   ·rw [List.mem_singleton] at hl;subst hl;exact h2.1
  ·intro l hl;rcases List.mem_append.1 hl with hl|hl
   ·exact I.hi l hl
   ·rw [List.mem_singleton] at hl;subst hl;exact I.now h2.1
 ·rename_i h2;simp only [Option.some.injEq] at h;subst h;have hne:N++g≠[]:=by simp [hg]
  refine ⟨?_,I.ne,I.hi,fun _=>?_,fun _=>hne⟩
  ·show D.flatten++(N++g)=L++g;rw [← hf,List.append_assoc]
  ·show (Zbf (N++g):Int)≤m;by_cases hN:N=[]
   ·subst hN;rw [List.nil_append];omega
   ·by_cases h3:m<(Zbf (N++g):Int)
    ·exact absurd ⟨hN,h3⟩ h2
    ·omega
theorem pgI_fold {m:Int}:∀ (G:List (List Ln)) {L:List Ln} {s s':List (List Ln)×List Ln},PgI m L s→(∀ g∈G,g≠[])→G.foldl (addG m) (some s)=some s'→PgI m (L++G.flatten) s'
 | [],L,s,s',I,_,h=>by
  simp only [List.foldl_nil,Option.some.injEq] at h;subst h
  simpa using I
 | g::r,L,s,s',I,hG,h=>by
  rw [List.foldl_cons] at h;cases hs:addG m (some s) g with
  | none=>rw [hs,addG_none] at h;cases h
  | some s2 =>
   rw [hs] at h;have:=pgI_fold r (pgI_step I (hG g List.mem_cons_self) hs) (fun x hx=>hG x (List.mem_cons_of_mem _ hx)) h;rw [List.flatten_cons,← List.append_assoc];exact this
theorem pgI_nil (m:Int):PgI m [] ([],[]) where
 flat:=rfl
 ne:=fun l h=>by cases h
 hi:=fun l h=>by cases h
 now:=fun h=>absurd rfl h
 last:=fun h=>absurd rfl h
theorem pagG_inv {m:Int} {G:List (List Ln)} {s:List (List Ln)×List Ln} (hG:∀ g∈G,g≠[]) (h:pagG m G=some s):PgI m G.flatten s:=by
 have:=pgI_fold G (pgI_nil m) hG h
 simpa using this
theorem flat_count:∀ {D:List (List Ln)},(∀ l∈D,l≠[])→D.length≤D.flatten.length
 | [],_=>by simp
 | a::r,h=>by
  have h1:=flat_count (D:=r) fun l hl=>h l (List.mem_cons_of_mem _ hl);have h2:=List.length_pos_iff.2 (h a List.mem_cons_self);rw [List.length_cons,List.flatten_cons,List.length_append];omega
theorem pgI_few {m:Int} {L:List Ln} {s:List (List Ln)×List Ln} (I:PgI m L s):s.1.length≤L.length:=by
 have h1:=flat_count I.ne;have h2:=congrArg List.length I.flat
 rw [List.length_append] at h2;omega
theorem addG_hi {m:Int} {D:List (List Ln)} {N g:List Ln} (h:m<(Zbf g:Int)):addG m (some (D,N)) g=none:=by
 rw [addG_eq,if_pos h]
theorem addG_new {m:Int} {D:List (List Ln)} {N g:List Ln} (h:¬ m<(Zbf g:Int)) (h0:N≠[]) (h1:m<(Zbf (N++g):Int)):addG m (some (D,N)) g=some (D++[N],g):=by
 rw [addG_eq,if_neg h,if_pos ⟨h0,h1⟩]
theorem addG_on {m:Int} {D:List (List Ln)} {N g:List Ln} (h:¬ m<(Zbf g:Int)) (h1:N=[]∨¬ m<(Zbf (N++g):Int)):addG m (some (D,N)) g=some (D,N++g):=by
 rw [addG_eq,if_neg h,if_neg (by rintro ⟨a,b⟩;rcases h1 with h1|h1;exact a h1;exact h1 b)]
end Go.VM
namespace Go.VM
open Go
def Zcm (l:List Ln):Prop:=∀ x,l.getLast?=some x→x.tied=false
theorem lastOk_app {a b:List Ln} (hb:b≠[]) (h:Zcm b):Zcm (a++b):=by
 intro x hx;rw [List.getLast?_append] at hx;cases hl:b.getLast? with
 | none=>exact absurd (List.getLast?_eq_none_iff.1 hl) hb
 | some y =>
  rw [hl] at hx;simp only [Option.some_or,Option.some.injEq] at hx;subst hx;exact h _ hl
theorem ownF_last (w:Int) (u:Un) (t:Bool):∀ (l:List Str) (E:List Nat) (fr:Nat),l.length=E.length→∀ x,(ownF w u t fr l E).getLast?=some x→x.tied=t
 | [],E,fr,_,x,h=>by unfold ownF at h;simp at h
 | s::l,[],fr,hl,x,h=>by simp at hl
 | s::l,e::E,fr,hl,x,h=>by
  unfold ownF at h;rw [List.getLast?_cons] at h;have hl':l.length=E.length:=by simpa using hl
  cases hr:(ownF w u t (toN u e) l E).getLast? with
  | none =>
   rw [hr] at h;simp only [Option.getD_none,Option.some.injEq] at h;have hn:=List.getLast?_eq_none_iff.1 hr;have he:l=[]:=by
    cases l with
    | nil=>rfl
    | cons a r =>
     cases E with
     | nil=>simp at hl'
     | cons b q=>unfold ownF at hn;cases hn
   subst h;simp [he]
  | some y =>
   rw [hr] at h;simp only [Option.getD_some,Option.some.injEq] at h;subst h;exact ownF_last w u t l E _ hl' _ hr
theorem body_last {u:Un} (hu:SmT u) {w:Int}:(∀ x∈unitsT u,Zbu w (rowT x)=0)→bodyT w u≠[]∧Zcm (bodyT w u):=by
 induction hu with
 | mk u h hk hs ih =>
  intro hw;have ih':∀ k∈u.kids,bodyT w k≠[]∧Zcm (bodyT w k):=fun k hk'=>ih k hk' fun x hx=>hw x (Zb6 hk' hx);rw [bodyT_eq];have hpos:0<(Za1 w u).length:=Go.Proofs.YtcgdjembdjdlhaaGreatDoor.w.lines_pos (hw u (Zbb u));have hown:ownL w u≠[]:=by
   intro h0;unfold ownL at h0;have hl:=linesU_len w u;cases hl1:Za1 w u with
   | nil=>rw [hl1] at hpos;simp at hpos
   | cons a r =>
    rw [hl1] at hl h0;cases he:Za9 w (rowT u) with
    | nil=>rw [he] at hl;simp at hl
    | cons b q=>rw [he] at h0;unfold ownF at h0;cases h0
  refine ⟨by simp [hown],?_⟩;have key:∀ L:List Un,(∀ k∈L,k∈u.kids)→(bodyL w u L=[]∧∀ k∈L,¬ Zag u k<0)∨(bodyL w u L≠[]∧Zcm (bodyL w u L)):=by
   intro L
   induction L with
   | nil=>intro _;exact .inl ⟨by rw [bodyL],fun k hk=>by cases hk⟩
   | cons a r ihr =>
    intro hL;have ha:=ih' a (hL a List.mem_cons_self);rcases ihr fun k hk=>hL k (List.mem_cons_of_mem _ hk) with ⟨h1,h2⟩|⟨h1,h2⟩
    ·by_cases hc:Zag u a<0
     ·right
      rw [bodyL,if_pos hc,h1,List.append_nil];exact ha
     ·left
      rw [bodyL,if_neg hc,h1];exact ⟨rfl,fun k hk=>by
       rcases List.mem_cons.1 hk with rfl|hk
       ·exact hc
       ·exact h2 k hk⟩
    ·right
     rw [bodyL];exact ⟨by simp [h1],lastOk_app h1 h2⟩
  rcases key u.kids fun k hk=>hk with ⟨h1,h2⟩|⟨h1,h2⟩
  ·rw [h1,List.append_nil];intro x hx;have:=ownF_last w u (tiedU u) (Za1 w u) (Za9 w (rowT u)) 0 (linesU_len w u) x hx;rw [this];unfold tiedU;rw [Bool.eq_false_iff];intro ht;obtain ⟨k,k1,k2⟩:=List.any_eq_true.1 ht;exact h2 k k1 (by simpa using k2)
  ·exact lastOk_app h1 h2
theorem kids_last {u:Un} (hu:SmT u) {w:Int} (hw:∀ x∈unitsL u.kids,Zbu w (rowT x)=0):Zcm (Zcs w true u u.kids):=by
 unfold Zcs;rw [if_pos rfl];have key:∀ L:List Un,(∀ k∈L,k∈u.kids)→Zcm (L.flatMap (bodyT w)):=by
  intro L
  induction L with
  | nil=>intro _ x hx;simp at hx
  | cons a r ihr =>
   intro hL;have ha:=body_last (hu.kids.2 a (hL a List.mem_cons_self)) (w:=w) fun x hx=>hw x (by
    rw [Zaz];exact List.mem_flatMap.2 ⟨a,hL a List.mem_cons_self,hx⟩)
   have hr:=ihr fun k hk=>hL k (List.mem_cons_of_mem _ hk);rw [List.flatMap_cons];by_cases h0:r.flatMap (bodyT w)=[]
   ·rw [h0,List.append_nil];exact ha.2
   ·exact lastOk_app h0 hr
 exact key u.kids fun k hk=>hk
theorem grp_last:∀ (l acc:List Ln),Zcm (acc++l)→∀ g∈grpG acc l,Zcm g
 | [],acc,h,g,hg=>by
  unfold grpG at hg;split at hg
  ·cases hg
  ·rw [List.mem_singleton] at hg;subst hg;simpa using h
 | x::r,acc,h,g,hg=>by
  unfold grpG at hg;split at hg
  ·exact grp_last r (acc++[x]) (by simpa using h) g hg
  ·rename_i ht;rcases List.mem_cons.1 hg with rfl|hg
   ·intro y hy;rw [List.getLast?_append] at hy;simp only [List.getLast?_singleton,Option.some_or,Option.some.injEq] at hy;subst hy
    simpa using ht
   ·refine grp_last r [] ?_ g hg;intro y hy;rw [List.nil_append] at hy;refine h y ?_;rw [List.getLast?_append,List.getLast?_cons,hy];rfl
end Go.VM
namespace Go.VM
open Go
theorem addG_last {m:Int} {s s':List (List Ln)×List Ln} {g:List Ln} (h1:∀ l∈s.1,Zcm l) (h2:Zcm s.2) (hg:g≠[]) (hg2:Zcm g) (h:addG m (some s) g=some s'):(∀ l∈s'.1,Zcm l)∧Zcm s'.2:=by
 obtain ⟨D,N⟩:=s;rw [addG_eq] at h;split at h
 ·cases h
 split at h
 ·simp only [Option.some.injEq] at h;subst h;refine ⟨fun l hl=>?_,hg2⟩;rcases List.mem_append.1 hl with hl|hl
  ·exact h1 l hl
  ·rw [List.mem_singleton] at hl;subst hl;exact h2
 ·simp only [Option.some.injEq] at h;subst h;exact ⟨h1,lastOk_app hg hg2⟩
theorem lastG_fold {m:Int}:∀ (G:List (List Ln)) {s s':List (List Ln)×List Ln},(∀ l∈s.1,Zcm l)→Zcm s.2→(∀ g∈G,g≠[]∧Zcm g)→G.foldl (addG m) (some s)=some s'→(∀ l∈s'.1,Zcm l)∧Zcm s'.2
 | [],s,s',h1,h2,_,h=>by simp only [List.foldl_nil,Option.some.injEq] at h;subst h;exact ⟨h1,h2⟩
 | g::r,s,s',h1,h2,hG,h=>by
  rw [List.foldl_cons] at h;cases hs:addG m (some s) g with
  | none=>rw [hs,addG_none] at h;cases h
  | some s2 =>
   rw [hs] at h;obtain ⟨a,b⟩:=addG_last h1 h2 (hG g List.mem_cons_self).1 (hG g List.mem_cons_self).2 hs;exact lastG_fold r a b (fun x hx=>hG x (List.mem_cons_of_mem _ hx)) h
structure PgsI (m : Int) (B : List Ln) (P : List (List Ln)) : Prop where
 flat : P.flatten = B
 ne : ∀ l ∈ P, l ≠ []
 hi : ∀ l ∈ P, (Zbf l : Int) ≤ m
 last : ∀ l ∈ P, Zcm l
theorem pagesG_inv {m:Int} {B:List Ln} {P:List (List Ln)} (hB:Zcm B) (h:pagesG m B=some P):PgsI m B P:=by
 unfold pagesG at h;obtain ⟨s,hs,rfl⟩:=Option.map_eq_some_iff.1 h;have hne:=fun g hg=>grpG_ne B [] g hg;have I:=pagG_inv hne hs;have hl:=lastG_fold (grpG [] B) (s:=([],[])) (fun l h=>by cases h) (fun x h=>by cases h) (fun g hg=>⟨hne g hg,grp_last B [] hB g hg⟩) hs;have hf:=I.flat
 rw [grpG_flat,List.nil_append] at hf;obtain ⟨D,N⟩:=s;show PgsI m B (if N=[] then D else D++[N]);have h1:=I.ne;have h2:=I.hi;have h3:=I.now;simp only [] at hf h1 h2 h3 hl;by_cases h0:N=[]
 ·rw [if_pos h0];subst h0;rw [List.append_nil] at hf;exact ⟨hf,h1,h2,hl.1⟩
 ·rw [if_neg h0];refine ⟨by rw [List.flatten_append];simpa using hf,fun l h=>?_,fun l h=>?_,fun l h=>?_⟩
  all_goals rcases List.mem_append.1 h with h|h
  ·exact h1 l h
  ·rw [List.mem_singleton] at h;subst h;exact h0
  ·exact h2 l h
  ·rw [List.mem_singleton] at h;subst h;exact h3 h0
  ·exact hl.1 l h
  ·rw [List.mem_singleton] at h;subst h;exact hl.2
end Go.VM
namespace Go.Proofs.YtcgdjembdjdlhaaGreatDoor.w
open Go Go.VM
def c_paginate_page:VC:=(ZR [ZO 3 (.box 8 (.t 0)),ZO 6 (.alloc [.int .i64 0,(.str []),.nilsl,.nilsl])] (.seq (.draw2 [ZM 10 1,ZO 11 (.load true 8 (.t 3)),ZM 12 2,ZO 13 (.iaddr 6 (.t 12) (.c (.int .i64 0))),ZO 14 (.faddr 1 (.t 13)),ZO 15 (.load true 3 (.t 14)),ZM 16 2,ZM 17 2,ZO 18 (.len false (.t 17)),ZO 19 (.bin .sub (.t 18) (.c (.int .i64 1))),ZO 20 (.iaddr 6 (.t 16) (.t 19)),ZO 21 (.faddr 1 (.t 20)),ZO 22 (.load true 3 (.t 21)),ZO 23 (.call 13 [.t 11,.t 15,.t 22]),ZO 24 (.build [.int .i64 0,(.str []),.nilsl,.nilsl] [(0,(1,(.t 10))),(1,(1,(.t 23)))]),ZO 7 (.alloc [.int .i64 0,(.str []),.nilsl,.nilsl]),ZN (.store 4 (.t 7) (.t 24))] [true,true,true,true,true,true,true,true,true,true,true,true,true,true,true,true,false]) (.seq (ZR [ZM 25 2,ZO 26 (.len false (.t 25)),ZO 27 (.mv (.c (.int .i64 0)))] (.block 0 (.loop (ZR [ZO 28 (.bin .lss (.t 27) (.t 26))] (.seq (.cond (.t 28) .skip (.exit 0)) (.seq (.block 1 (ZR [ZO 29 (.iaddr 6 (.t 25) (.t 27)),ZO 30 (.load true 6 (.t 29)),ZO 9 (.alloc [(.str []),.int .i64 0,.int .i64 0,.int .i64 0,(.bool false),.nilsl]),ZN (.store 6 (.t 9) (.t 30))] (ZR [ZO 31 (.faddr 2 (.t 7)),ZO 32 (.load false 1 (.t 31)),ZO 33 (.faddr 0 (.t 9)),ZO 34 (.load false 1 (.t 33)),ZO 35 (.bslice 1 1 [(.str [])] [(0,(.t 34))]),ZO 36 (.app 1 16 [(.str [])] false (.t 32) (.t 35)),ZO 37 (.faddr 2 (.t 7)),ZN (.store 1 (.t 37) (.t 36))] (.region [ZO 38 (.faddr 3 (.t 7)),ZO 39 (.load false 1 (.t 38)),ZO 40 (.faddr 5 (.t 9)),ZO 41 (.load false 1 (.t 40)),ZO 42 (.app 1 16 [(.str [])] false (.t 39) (.t 41)),ZO 43 (.faddr 3 (.t 7)),ZN (.store 1 (.t 43) (.t 42))] false)))) (.region [ZO 44 (.bin .add (.t 27) (.c (.int .i64 1))),ZM 27 44] false))))))) (ZR [ZO 45 (.load true 4 (.t 7)),ZN (.store 4 (.t 6) (.t 45))] .ret))))
structure Pg where
 number : Int
 head : Str
 lines : List Str
 notes : List Str
 deriving DecidableEq, Inhabited
def Pg.enc (p:Pg):List PV:=[pI p.number,.str p.head,.sl 1 (p.lines.map fun s=>[PV.str s]),.sl 1 (p.notes.map fun s=>[PV.str s])]
theorem Pg.closed (p:Pg):∀ x∈p.enc,Closed x:=by
 intro x hx;simp only [Pg.enc,List.mem_cons,List.not_mem_nil,or_false] at hx;rcases hx with rfl|rfl|rfl|rfl
 ·exact cI _
 ·exact cS _
 ·exact Zay _
 ·exact Zay _
def lnZ:Ln:=⟨idZ,[],[],false⟩
def pageP (u:Un) (n:Int) (l:List Ln):Pg:=⟨n,headT u (l.getD 0 lnZ).id (l.getD (l.length-1) lnZ).id,l.map Ln.text,l.flatMap Ln.notes⟩
theorem fn_step {l:List Ln} {k:Nat} (h:k<l.length):(l.take (k+1)).flatMap Ln.notes=(l.take k).flatMap Ln.notes++l[k].notes:=by
 rw [List.take_succ_eq_append_getElem h,List.flatMap_append];simp
theorem tx_step {l:List Ln} {k:Nat} (h:k<l.length):(l.take (k+1)).map Ln.text=(l.take k).map Ln.text++[l[k].text]:=by
 rw [List.take_succ_eq_append_getElem h,List.map_append];rfl
theorem fn_len (l:List Ln):(l.flatMap Ln.notes).length=Zam l:=by
 unfold Zam;rw [List.length_flatMap]
theorem sp_page {u:Un} (hu:SmT u) (hn:(unitsT u).length≤1000) (n:Int) (l:List Ln) (h0:l≠[]) (hl:l.length≤1000000) (hm:Zam l≤1000000):Zak Tryz.prog 35 [.agg u.enc,pI n,.sl 6 (l.map Ln.encP)] (.agg (pageP u n l).enc):=by
 have RH:=sp_RunningHead hu hn (l.getD 0 lnZ).id (l.getD (l.length-1) lnZ).id;refine Zad ?_ (Zax (Pg.closed _)) (by intro y hy;simp only [List.mem_cons,List.not_mem_nil,or_false] at hy;rcases hy with rfl|rfl|rfl;exact Zap u;exact cI _;exact closed_lnsP l);refine Gn (vc:=c_paginate_page) [.c 6 true 4] Tryz.func35 ?_;unfold c_paginate_page;try dsimp only [ZM,ZO,ZN,ZG,ZR,ZU]
 have hpos:0<l.length:=List.length_pos_iff.2 h0;have hrow:∀ (k:Nat),k<l.length→(l.map Ln.encP).getD k []=(l.getD k lnZ).encP:=fun k hk=>by
  rw [rowm hk,List.getD_eq_getElem?_getD,List.getElem?_eq_getElem hk];rfl
 have r0:=hrow 0 hpos;have r1:=hrow (l.length-1) (by omega);unfold pageP Pg.enc;generalize (l.getD 0 lnZ)=a at RH r0 ⊢;generalize (l.getD (l.length-1) lnZ)=b at RH r1 ⊢;have hx:∀ x:Ln,x.encP=[.str x.text,pI x.id.act,pI x.id.item,pI x.id.n,.bool x.tied,.sl 1 (x.notes.map fun s=>[PV.str s])]:=fun x=>rfl;have hae:a.id.enc=[pI a.id.act,pI a.id.item,pI a.id.n]:=rfl;have hbe:b.id.enc=[pI b.id.act,pI b.id.item,pI b.id.n]:=rfl;rw [hx] at r0 r1;rw [hae,hbe,Un.Zaf u] at RH;rw [Un.Zaf u];generalize u.head.map Wd.enc=EH at *;generalize u.words.map Wd.enc=EW at *;generalize u.kids.map Un.enc=EK at *;generalize headT u a.id b.id=H at *;have hLl:(l.map Ln.encP).length=l.length:=List.length_map _;have hlast:IntKind.i64.wrap ((l.length:Int)-1)=((l.length-1:Nat):Int):=by rw [w64 (by omega) (by omega)];omega
 refine Rp0 [1,2,3,6] ?_;refine Zb7 (l1:=[(0,.arr false 8 [[pI u.act,pI u.item,pI u.n,pI u.kind,.str u.label,.sl 4 EH,.sl 4 EW,.sl 8 EK]])]) (l2:=[(1,.arr false 4 [[pI 0,.str [],.nilsl,.nilsl]])]) (t:=2)
  [(1,pI n),(2,.sl 6 (l.map Ln.encP)),(3,.ro [pI u.act,pI u.item,pI u.n,pI u.kind,.str u.label,.sl 4 EH,.sl 4 EW,.sl 8 EK]),(6,.loc 1 0 0)] (by simp [Heap.le,Heap.get,HL.le,HL.get]) (by simp) (by simp)
  ⟨View.refl _ _,View.refl _ _,View.loc (z:=8) (fz:=false) (es:=[[pI u.act,pI u.item,pI u.n,pI u.kind,.str u.label,.sl 4 EH,.sl 4 EW,.sl 8 EK]]) rfl (by simp) rfl (by simp),View.refl _ _,trivial⟩ ?_
 refine Zaa (VW_draw2E 12 [2,6,7] (by simp) ?_);refine Sp1 (x4 hLl r0 r1 hlast) ?_;refine ⟨⟨by omega,by omega⟩,⟨by omega,by omega⟩,_,.inl RH,?_⟩;refine Sp0 ?_;refine VW_own0f 2 1 4 2 [pI n,.str H,.nilsl,.nilsl] rfl rfl ?_;refine Sp0 ?_;refine VW_own0f 2 1 4 3 [pI n,.str H,.own 3 0 0,.nilsl] rfl rfl ?_;refine Sp0 ?_;refine Zaa ?_;refine Rp1 [6,7,25,26,27] hLl ?_;refine Zab ?_;refine Zah (σ:={ x:Nat×Nat×Nat×Nat//x.1≤l.length∧2<x.2.1∧2<x.2.2.1∧x.2.1≠x.2.2.1∧x.2.1<x.2.2.2∧x.2.2.1<x.2.2.2 }) (fun x=>([(6,.loc 1 0 0),(7,.loc 2 0 0),(25,.sl 6 (l.map Ln.encP)),(26,pI l.length),(27,pI x.1.1)],⟨[(x.1.2.1,.arr false 1 (((l.take x.1.1).map Ln.text).map fun s=>[PV.str s])),(x.1.2.2.1,.arr false 1 (((l.take x.1.1).flatMap Ln.notes).map fun s=>[PV.str s])),(2,.arr false 4 [[pI n,.str H,.own x.1.2.1 0 ((l.take x.1.1).map Ln.text).length,.own x.1.2.2.1 0 ((l.take x.1.1).flatMap Ln.notes).length]]),(1,.arr false 4 [[pI 0,.str [],.nilsl,.nilsl]])],x.1.2.2.2⟩)) (fun x=>l.length-x.1.1) ⟨(0,3,4,5),Nat.zero_le _,by simp⟩ ?_ ?_ ?_
 ·exact Sr0
 ·simp only [vmL,Nat.reduceEqDiff,List.take_zero,List.map_nil,List.flatMap_nil]
  try trivial
 rintro ⟨⟨k,i2,i3,t⟩,hk,h2,h3,h23,h2t,h3t⟩;simp only [] at hk h2 h3 h23 h2t h3t ⊢;have qq:=N8 1 2 i2 i3 t (t+1) (t+2) (t+3);refine Rp1 [6,7,25,26,27,28] qq ?_;refine Zaa ?_;refine Zac rfl (fun h1=>?_) (fun h1=>?_)
 ·have ka:k<l.length:=by simp only [decide_eq_true_eq] at h1;omega
  have hst:=tx_step ka;have hst2:=fn_step ka;have hr:(l.map Ln.encP).getD k []=l[k].encP:=rowm ka;have hb1:((l.take k).map Ln.text).length≤1000000:=by simp;omega
  have hb2:((l.take (k+1)).flatMap Ln.notes).length≤1000000:=by rw [fn_len];exact Nat.le_trans (notesN_take l (k+1)) hm
  rw [hst2,List.length_append] at hb2;generalize l[k]=x at hst hst2 hr hb2;rw [hx] at hr;have hs1:((l.take (k+1)).map Ln.text).map (fun s=>[PV.str s])=((l.take k).map Ln.text).map (fun s=>[PV.str s])++[[PV.str x.text]]:=by rw [hst,List.map_append];rfl
  have hs1l:((l.take (k+1)).map Ln.text).length=((l.take k).map Ln.text).length+1:=by rw [hst,List.length_append];rfl
  have hs2:((l.take (k+1)).flatMap Ln.notes).map (fun s=>[PV.str s])=((l.take k).flatMap Ln.notes).map (fun s=>[PV.str s])++x.notes.map (fun s=>[PV.str s]):=by rw [hst2,List.map_append]
  have hs2l:((l.take (k+1)).flatMap Ln.notes).length=((l.take k).flatMap Ln.notes).length+x.notes.length:=by rw [hst2,List.length_append]
  generalize (l.take k).map Ln.text=A at hs1 hs1l hb1 ⊢;generalize (l.take k).flatMap Ln.notes=B at hs2 hs2l hb2 ⊢;have hAl:(A.map fun s=>[PV.str s]).length=A.length:=List.length_map _;have hBl:(B.map fun s=>[PV.str s]).length=B.length:=List.length_map _;have hNl:(x.notes.map fun s=>[PV.str s]).length=x.notes.length:=List.length_map _;generalize (A.map fun s=>[PV.str s])=AE at hs1 hAl ⊢;generalize (B.map fun s=>[PV.str s])=BE at hs2 hBl ⊢;generalize (x.notes.map fun s=>[PV.str s])=NE at *;have hAt:AE.take A.length=AE:=List.take_of_length_le (by omega);have hBt:BE.take B.length=BE:=List.take_of_length_le (by omega);refine Kp0 ?_;refine Zaa ?_;refine Zab ?_;refine Rp1 [6,7,9,25,26,27] (x3 hLl hr qq) ?_;refine Ok ?_;refine Rp1 [6,7,9,25,26,27] (x3 hAl hAt qq) ?_;refine ⟨by omega,by omega,?_⟩;refine rp1 [6,7,25,26,27] (x4 hBl hBt hNl qq) ?_;refine ⟨by omega,by omega,?_⟩;refine rp1 [6,7,25,26,27] (x2 (ad1 (a:=k) (by omega)) qq) ?_;refine ⟨⟨(k+1,t+2,t+3,t+4),ka,by show 2<t+2;omega,by show 2<t+3;omega,by show t+2≠t+3;omega,by show t+2<t+4;omega,by show t+3<t+4;omega⟩,?_⟩;simp only [hs1,hs1l,hs2,hs2l]
  all_goals exact Fn1 qq
 ·have ka:k=l.length:=by simp only [decide_eq_false_iff_not] at h1;omega
  subst ka;rw [List.take_length];refine Ep0 ?_;refine Rp1 [6] qq ?_;refine Tp1 qq ?_;refine View.agg rfl fun j hj=>?_;have hj':j=0∨j=1∨j=2∨j=3:=by simp only [List.length_cons,List.length_nil] at hj;omega
  rcases hj' with rfl|rfl|rfl|rfl
  ·exact View.refl _ _
  ·exact View.refl _ _
  ·exact View.own_all (fz:=false) (by simp [Heap.get,HL.get,h23]) (by simp)
  ·exact View.own_all (fz:=false) (by simp [Heap.get,HL.get,h23]) (by simp)
end Go.Proofs.YtcgdjembdjdlhaaGreatDoor.w
namespace Go.VM
open Go
structure ItI (Inv : List (List Ln) → List (Nat × AB) → Nat → Prop) : Prop where
 nod : ∀ {p L t}, Inv p L t → Nod L
 lt : ∀ {p L t}, Inv p L t → ∀ q ∈ L, q.1 < t
 mono : ∀ {p L t t'}, Inv p L t → t ≤ t' → Inv p L t'
theorem grpG_tie {x:Ln} (h:x.tied=true) (acc r:List Ln):grpG acc (x::r)=grpG (acc++[x]) r:=by rw [grpG,if_pos h]
theorem grpG_cut {x:Ln} (h:x.tied=false) (acc r:List Ln):grpG acc (x::r)=(acc++[x])::grpG [] r:=by rw [grpG,if_neg (by rw [h];simp)]
theorem dt_step {α:Type} {l:List α} {f k:Nat} (hf:f≤k) (hk:k<l.length):(l.drop f).take (k+1-f)=(l.drop f).take (k-f)++[l[k]]:=by
 rw [show k+1-f=(k-f)+1 by omega,List.take_succ_eq_append_getElem (by rw [List.length_drop];omega),List.getElem_drop]
 congr 2
 congr 1
 omega
end Go.VM
namespace Go.Proofs.YtcgdjembdjdlhaaGreatDoor.w
open Go Go.VM
def c_paginate_groups_1:VC:=(ZR [ZO 3 (.mv (.c (.int .i64 0)))] (.seq (ZR [ZO 6 (.load false 1 (.t 1)),ZO 7 (.len false (.t 6)),ZO 8 (.mv (.c (.int .i64 0)))] (.block 0 (.loop (ZR [ZO 9 (.bin .lss (.t 8) (.t 7))] (.seq (.cond (.t 9) .skip (.exit 0)) (.seq (.block 1 (ZR [ZM 10 8,ZO 11 (.iaddr 6 (.t 6) (.t 8)),ZO 12 (.load true 6 (.t 11)),ZO 5 (.alloc [(.str []),.int .i64 0,.int .i64 0,.int .i64 0,(.bool false),.nilsl]),ZM 4 10,ZN (.store 6 (.t 5) (.t 12))] (.seq (ZR [ZO 13 (.faddr 4 (.t 5)),ZO 14 (.load false 1 (.t 13))] (.cond (.t 14) (.exit 1) .skip)) (.seq (ZR [ZM 15 0,ZO 16 (.load false 1 (.t 1)),ZM 17 3,ZM 18 4,ZO 19 (.bin .add (.t 18) (.c (.int .i64 1))),ZO 20 (.slice false 6 (.t 16) (some (.t 17)) (some (.t 19))),ZO 21 (.callv (.t 15) [.t 20]),ZO 22 (.un .not (.t 21))] (.cond (.t 22) .ret .skip)) (.region [ZM 23 4,ZO 24 (.bin .add (.t 23) (.c (.int .i64 1))),ZM 3 24] false))))) (.region [ZO 25 (.bin .add (.t 8) (.c (.int .i64 1))),ZM 8 25] false))))))) (ZR [ZM 26 3,ZO 27 (.load false 1 (.t 1)),ZO 28 (.len false (.t 27)),ZO 29 (.bin .lss (.t 26) (.t 28))] (.cond (.t 29) (.region [ZM 30 0,ZO 31 (.load false 1 (.t 1)),ZM 32 3,ZO 33 (.slice false 6 (.t 31) (some (.t 32)) none),ZO 34 (.callv (.t 30) [.t 33])] false) .skip))))
theorem sp_groups_1 (l : Nat) (G : List Ln) (hG : G.length ≤ 1000000) {Inv : List (List Ln) → List (Nat × AB) → Nat → Prop} {Fin : Heap → Prop} (hI : ItI Inv)
  (hy:∀ pre g post L1 t1,grpG [] G=pre++g::post→Inv pre L1 t1→AY Tryz.prog l [.sl 6 (g.map Ln.encP)] ⟨L1,t1⟩ (fun v h'=>(v=.bool true∧∃ L2 t2,h'=⟨L2,t2⟩∧Inv (pre++[g]) L2 t2)∨(v=.bool false∧Fin h')))
  {L0:List (Nat×AB)} {t0:Nat} (h0:Inv [] L0 t0) :
  Zal Tryz.prog 62 [.fn (.yield l) [] [],.ro [.sl 6 (G.map Ln.encP)]] ⟨L0,t0⟩ (fun _ h'=>(∃ L2 t2,h'=⟨L2,t2⟩∧Inv (grpG [] G) L2 t2)∨Fin h'):=by
 refine Gn (vc:=c_paginate_groups_1) [] Tryz.func62 ?_;unfold c_paginate_groups_1;try dsimp only [ZM,ZO,ZN,ZG,ZR,ZU]
 refine Rp0 [0,1,3] ?_;refine Zaa ?_;refine Rp1 [0,1,3,6,7,8] @xlm ?_;have hml:(G.map Ln.encP).length=G.length:=List.length_map _;refine Zab ?_;refine Zah (σ:={ x:Nat×Nat×List (List Ln)×List (Nat×AB)×Nat//x.1≤G.length∧x.2.1≤x.1∧grpG [] G=x.2.2.1++grpG ((G.drop x.2.1).take (x.1-x.2.1)) (G.drop x.1)∧Inv x.2.2.1 x.2.2.2.1 x.2.2.2.2 })
  (fun x=>([(0,.fn (.yield l) [] []),(1,.ro [.sl 6 (G.map Ln.encP)]),(3,pI x.1.2.1),(6,.sl 6 (G.map Ln.encP)),(7,pI G.length),(8,pI x.1.1)],⟨x.1.2.2.2.1,x.1.2.2.2.2⟩)) (fun x=>G.length-x.1.1) ⟨(0,0,[],L0,t0),Nat.zero_le _,Nat.le_refl _,rfl,h0⟩ ?_ ?_ ?_
 ·refine Sp0 ?_;exact ⟨rfl,rfl⟩
 ·refine Sp0 ?_
  simpa using HL.le_app (P:=[]) (hI.nod h0) t0
 rintro ⟨⟨k,f,pre,L1,t1⟩,hk,hf,hgr,hInv⟩;simp only [] at hk hf hgr hInv ⊢;have hnod:=hI.nod hInv;have hlt:=hI.lt hInv;have o1:Off L1 t1:=Off.lt hlt (Nat.le_refl _);have g1:=o1.get;have d1:=o1.del;refine Rp0 [0,1,3,6,7,8,9] ?_;refine Zaa ?_;refine Zac rfl (fun h1=>?_) (fun h1=>?_)
 ·have ka:k<G.length:=by simp only [decide_eq_true_eq] at h1;omega
  have hdr:G.drop k=G[k]::G.drop (k+1):=(List.getElem_cons_drop ka).symm;have hst:=dt_step (l:=G) hf ka;have hsl:((G.map Ln.encP).drop f).take (k+1-f)=((G.drop f).take (k-f)++[G[k]]).map Ln.encP:=by
   rw [← hst,List.map_take,List.map_drop]
  have hrow:(G.map Ln.encP).getD k []=G[k].encP:=rowm ka;rw [hdr] at hgr;generalize G[k]=x at hst hrow hgr hsl;have hx:x.encP=[.str x.text,pI x.id.act,pI x.id.item,pI x.id.n,.bool x.tied,It.strs x.notes]:=rfl;rw [hx] at hrow;unfold It.strs at hrow;refine Kp0 ?_;refine Zaa ?_;refine Zab ?_;refine Rp1 [0,1,3,4,5,6,7,8] (x4 hml hrow g1 d1) ?_;refine Ok ?_;refine Zaa ?_;refine Rp1 [0,1,3,4,6,7,8,14] (x2 g1 d1) ?_;cases ht:x.tied with
  | true =>
   rw [grpG_tie ht,← hst] at hgr;refine Ct ?_;refine Ep0 ?_;refine rp1 [0,1,3,6,7,8] (ad1 (a:=k) (by omega)) ?_;refine ⟨⟨(k+1,f,pre,L1,t1+1),ka,by show f≤k+1;omega,hgr,hI.mono hInv (Nat.le_succ _)⟩,?_⟩;refine ⟨⟨rfl,rfl⟩,⟨Nat.le_refl _,HL.le_tail1 hnod o1 _⟩,?_⟩;show G.length-(k+1)<G.length-k;omega
  | false =>
   rw [grpG_cut ht] at hgr;have hY:=hy pre ((G.drop f).take (k-f)++[x]) _ L1 (t1+1) hgr (hI.mono hInv (Nat.le_succ _));rw [← hsl] at hY;refine Fp0 ?_;refine Zaa ?_;refine Zaa (VW_regionY [0,1,4,6,7,8,22] ?_);simp only [vmL,Nat.reduceEqDiff,reduceCtorEq,OpsY,StepY,hml,ad1 (a:=k) (by omega),Int.toNat_natCast];refine ⟨⟨by omega,by omega,by omega,by omega⟩,AY.weakenL (h0:=⟨L1,t1+1⟩) ⟨Nat.le_refl _,HL.le_tail1 hnod o1 _⟩ (hY.mono ?_)⟩;rintro v h' (⟨rfl,L2,t2,rfl,hI2⟩|⟨rfl,hF⟩)
   ·refine Sp0 ?_;refine Fp0 ?_;refine rp1 [0,1,3,6,7,8] (ad1 (a:=k) (by omega)) ?_;refine rp1 [0,1,3,6,7,8] (ad1 (a:=k) (by omega)) ?_;refine ⟨⟨(k+1,k+1,pre++[(G.drop f).take (k-f)++[x]],L2,t2),ka,Nat.le_refl _,?_,hI2⟩,?_⟩
    ·show grpG [] G=(pre++[(G.drop f).take (k-f)++[x]])++grpG ((G.drop (k+1)).take (k+1-(k+1))) (G.drop (k+1));rw [hgr,Nat.sub_self,List.take_zero];simp
    refine ⟨⟨rfl,rfl⟩,⟨Nat.le_refl _,by simpa using HL.le_app (P:=[]) (hI.nod hI2) t2⟩,?_⟩;show G.length-(k+1)<G.length-k;omega
   ·refine Sp0 ?_;refine Ct ?_;refine Tp0 ?_;exact .inr hF
 ·have ka:k=G.length:=by simp only [decide_eq_false_iff_not] at h1;omega
  subst ka;refine Ep0 ?_;rw [List.drop_length] at hgr;refine Rp1 [0,1,3,29] hml ?_;by_cases hfe:f<G.length
  ·have e1:decide ((f:Int)<(G.length:Int))=true:=decide_eq_true (by omega);have hne:(G.drop f).take (G.length-f)≠[]:=by
    intro h;have:=congrArg List.length h;simp at this;omega
   have hgr':grpG [] G=pre++[(G.drop f).take (G.length-f)]:=by
    rw [hgr,grpG,if_neg hne]
   have hsl:((G.map Ln.encP).drop f).take (G.length-f)=((G.drop f).take (G.length-f)).map Ln.encP:=by
    rw [List.map_take,List.map_drop]
   have hY:=hy pre ((G.drop f).take (G.length-f)) [] L1 t1 hgr' hInv;rw [← hsl] at hY;rw [hgr'];refine Zac rfl (fun _=>?_) (fun h=>by rw [e1] at h;cases h);refine VW_regionY [] ?_;simp only [vmL,Nat.reduceEqDiff,reduceCtorEq,OpsY,StepY,hml,Int.toNat_natCast];refine ⟨by omega,hY.mono ?_⟩;rintro v h' (⟨rfl,L2,t2,rfl,hI2⟩|⟨rfl,hF⟩)
   ·skip
    exact .inl ⟨L2,t2,rfl,hI2⟩
   ·skip
    exact .inr hF
  ·have e1:decide ((f:Int)<(G.length:Int))=false:=decide_eq_false (by omega);have hnil:(G.drop f).take (G.length-f)=[]:=by
    apply List.eq_nil_of_length_eq_zero
    simp;omega
   refine Zac rfl (fun h=>by rw [e1] at h;cases h) (fun _=>?_);refine Kp0 ?_;refine .inl ⟨L1,t1,rfl,?_⟩;rw [hgr,hnil,grpG,if_pos rfl,List.append_nil];exact hInv
end Go.Proofs.YtcgdjembdjdlhaaGreatDoor.w
namespace Go.Proofs.YtcgdjembdjdlhaaGreatDoor.w
open Go Go.VM
def c_pandectref54_Texts:VC:=(ZR [ZO 4 (.mv (.c (.bool false)))] (.seq (ZR [ZM 6 0,ZO 7 (.len false (.t 6)),ZM 8 1,ZO 9 (.len false (.t 8)),ZO 10 (.bin .neq (.t 7) (.t 9))] (.cond (.t 10) (ZR [ZO 4 (.mv (.c (.bool false)))] .ret) .skip)) (.seq (ZR [ZO 5 (.mv (.c (.int .i64 0)))] (.block 0 (.loop (.seq (ZR [ZM 11 5,ZM 12 0,ZO 13 (.len false (.t 12)),ZO 14 (.bin .lss (.t 11) (.t 13))] (.cond (.t 14) .skip (.exit 0))) (.seq (.block 1 (.seq (.region [ZM 17 0,ZM 18 5,ZO 19 (.iaddr 1 (.t 17) (.t 18)),ZO 20 (.load false 1 (.t 19)),ZM 21 1,ZM 22 5,ZO 23 (.iaddr 1 (.t 21) (.t 22)),ZO 24 (.load false 1 (.t 23)),ZO 25 (.bin .neq (.t 20) (.t 24))] true) (.cond (.t 25) (ZR [ZO 4 (.mv (.c (.bool false)))] .ret) .skip))) (.region [ZM 15 5,ZO 16 (.bin .add (.t 15) (.c (.int .i64 1))),ZM 5 16] false)))))) (ZR [ZO 4 (.mv (.c (.bool true)))] .ret))))
theorem sp_Texts (a b:List Str) (ha:a.length≤1000000000) (hb:b.length≤1000000000):Zak Tryz.prog 15 [It.strs a,It.strs b] (.bool (a==b)):=by
 refine Zad ?_ (cB _) (by intro y hy;simp only [List.mem_cons,List.not_mem_nil,or_false] at hy;rcases hy with rfl|rfl<;>exact Zay _);refine Gn (vc:=c_pandectref54_Texts) [.t 4] Tryz.func15 ?_;unfold c_pandectref54_Texts;try dsimp only [ZM,ZO,ZN,ZG,ZR,ZU]
 unfold It.strs;have hal:(a.map fun s=>[PV.str s]).length=a.length:=List.length_map _;have hbl:(b.map fun s=>[PV.str s]).length=b.length:=List.length_map _;have hag:∀ (k:Nat) (hk:k<a.length),(a.map fun s=>[PV.str s]).getD k []=[PV.str a[k]]:=fun k hk=>rowm hk;have hbg:∀ (k:Nat) (hk:k<b.length),(b.map fun s=>[PV.str s]).getD k []=[PV.str b[k]]:=fun k hk=>rowm hk;generalize (a.map fun s=>[PV.str s])=AE at hal hag ⊢;generalize (b.map fun s=>[PV.str s])=BE at hbl hbg ⊢;refine Rp0 [0,1] ?_;refine Zaa ?_;refine Rp1 [0,1,10] (x2 hal hbl) ?_;by_cases hl:a.length=b.length
 ·have e1:((a.length:Int) != (b.length:Int))=false:=by rw [hl];simp
  refine Zac rfl (fun h=>by rw [e1] at h;cases h) (fun _=>?_);refine Kp0 ?_;refine Zaa ?_;refine Rp0 [0,1,5] ?_;refine Zab ?_;refine Zah (σ:={ k:Nat//k≤a.length∧∀ (j:Nat) (hj:j<a.length) (hj':j<b.length),j<k→a[j]=b[j] }) (fun x=>([(0,.sl 1 AE),(1,.sl 1 BE),(5,pI x.1)],⟨[],0⟩)) (fun x=>a.length-x.1) ⟨0,Nat.zero_le _,fun j _ _ h=>by cases h⟩ ?_ ?_ ?_
  ·refine Sp0 ?_;rfl
  ·exact Sc0
  rintro ⟨k,hk,hpre⟩;simp only [];refine Zaa ?_;refine Rp1 [0,1,5,14] hal ?_;refine Zac rfl (fun h1=>?_) (fun h1=>?_)
  ·have ka:k<a.length:=by simp only [decide_eq_true_eq] at h1;omega
   have kb:k<b.length:=by omega
   have ra:=hag k ka;have rb:=hbg k kb;refine Kp0 ?_;refine Zaa ?_;refine Zab ?_;refine Zaa (Zb9 0 [0,1,5,25] (by simp) ?_);refine Sp1 (x4 hal hbl ra rb) ?_;refine Ok ?_;by_cases he:a[k]=b[k]
   ·have e2:(a[k] != b[k])=false:=by rw [he];simp
    refine Zac rfl (fun h=>by rw [e2] at h;cases h) (fun _=>?_);refine Kp0 ?_;refine rp1 [0,1,5] (ad1 (a:=k) (by omega)) ?_;refine ⟨⟨k+1,ka,fun j hj hj' hjk=>?_⟩,?_⟩
    ·by_cases e:j=k
     ·subst e;exact he
     ·exact hpre j hj hj' (by omega)
    ·exact Fn0
   ·have e2:(a[k] != b[k])=true:=by simpa using he
    have e3:(a==b)=false:=by
     rw [beq_eq_false_iff_ne];intro e;subst e;exact he rfl
    rw [e3];refine Zac rfl (fun _=>?_) (fun h=>by rw [e2] at h;cases h);exact Rv0 [4]
  ·have ka:k=a.length:=by simp only [decide_eq_false_iff_not] at h1;omega
   subst ka;have e3:(a==b)=true:=by
    rw [beq_iff_eq];exact List.ext_getElem hl fun j h1 h2=>hpre j h1 h2 h1
   rw [e3];refine Ep0 ?_;exact Rv0 [4]
 ·have e1:((a.length:Int) != (b.length:Int))=true:=by rw [bne_iff_ne];omega
  have e3:(a==b)=false:=by
   rw [beq_eq_false_iff_ne];intro e;exact hl (by rw [e])
  rw [e3];refine Zac rfl (fun _=>?_) (fun h=>by rw [e1] at h;cases h);exact Rv0 [4]
end Go.Proofs.YtcgdjembdjdlhaaGreatDoor.w
namespace Go.Proofs.YtcgdjembdjdlhaaGreatDoor.w
open Go Go.VM
end Go.Proofs.YtcgdjembdjdlhaaGreatDoor.w
namespace Go.VM
open Go
theorem closed_encR {z:Nat} {L:List (List (List PV))} (hc:∀ x∈L,∀ r∈x,Za0 r):Closed (.sl 1 (L.map (enW z))):=Zaj fun x hx y hy=>by
 simp only [enW,List.mem_cons,List.not_mem_nil,or_false] at hy;subst hy;exact closed_sl fun r hr y hy=>hc x hx r hr y hy
theorem closed_flat {z:Nat} {L:List (List (List PV))} (hc:∀ x∈L,∀ r∈x,Za0 r):Closed (.sl z L.flatten):=by
 refine closed_sl fun r hr y hy=>?_;obtain ⟨x,h1,h2⟩:=List.mem_flatten.1 hr;exact hc x h1 r h2 y hy
end Go.VM
namespace Go.Proofs.YtcgdjembdjdlhaaGreatDoor.w
open Go Go.VM
theorem sp_ConcatP_line (L:List (List (List PV))) (hc:∀ x∈L,∀ r∈x,Za0 r) (hL:L.length≤1000) (hl:Zc2 L≤900000):Zak Tryz.prog 34 [.sl 1 (L.map (enW 6))] (.sl 6 L.flatten):=by
 refine Zad ?_ (closed_flat hc) (by intro y hy;rw [List.mem_singleton] at hy;subst hy;exact closed_encR hc);refine Gn (vc:=c_slices_Concat_line) [.t 2] Tryz.func34 ?_;unfold c_slices_Concat_line;try dsimp only [ZM,ZO,ZN,ZG,ZR,ZU]
 refine Rp0 [0] ?_;refine Rp0 [0,3] ?_;refine Zaa ?_;refine Rp1 [0,3,9,10,11] @xlm ?_;refine Zab ?_;refine Zah (σ:={ k:Nat//k≤L.length }) (fun s=>([(0,.sl 1 (L.map (enW 6))),(3,pI (Zc2 (L.take s.1))),(9,.sl 1 (L.map (enW 6))),(10,pI L.length),(11,pI s.1)],⟨[],0⟩)) (fun s=>L.length-s.1) ⟨0,Nat.zero_le _⟩ ?_ ?_ ?_
 ·simp only [vmL,Nat.reduceEqDiff,reduceCtorEq,List.take_zero,Zc2]
  try trivial
 ·exact Sc0
 rintro ⟨k,hk⟩;simp only [];refine Rp0 [0,3,9,10,11,12] ?_;refine Zaa ?_;refine Zac rfl (fun h1=>?_) (fun h1=>?_)
 ·simp only [decide_eq_true_eq] at h1;have ka:k<L.length:=by omega
  have hst:=lensR_step ka;have htk:=lensR_take L (k+1);have hrow:(L.map (enW 6)).getD k []=enW 6 L[k]:=rowm ka;refine Kp0 ?_;refine Zaa ?_;refine Zab ?_;refine Zaa (Zae [0,3,5,9,10,11] ?_);simp only [vmL,Nat.reduceEqDiff,reduceCtorEq,List.length_map,hrow,enW];refine Ok ?_;refine Rp1 [0,3,9,10,11] (w64 (n:=(Zc2 (L.take k):Int)+(L[k].length:Int)) (by omega) (by omega)) ?_;refine Rp0 [0,3,9,10,11,20] ?_;refine Zac rfl (fun h2=>?_) (fun h2=>?_)
  ·simp only [decide_eq_true_eq] at h2;omega
  refine Kp0 ?_;refine rp1 [0,3,9,10,11] (ad1 (a:=k) (by omega)) ?_;refine ⟨⟨k+1,ka⟩,?_⟩;have e:(Zc2 (L.take k):Int)+(L[k].length:Int)=(Zc2 (L.take (k+1)):Nat):=by omega
  exact Fn1 e
 simp only [decide_eq_false_iff_not] at h1;obtain rfl:k=L.length:=by omega
 rw [List.take_length];refine Ep0 ?_;refine Rp0 [0,6] ?_;refine Zal.mono (grow_line (Zc2 L) (by omega) _) ?_;rintro p h' ⟨rfl,rfl⟩;refine Sp0 ?_;have hfin:Zc2 L≤900000:=hl;refine Zaa ?_;refine Rp1 [6,25,26,27] @xlm ?_;refine Zab ?_;refine Zah (σ:={ s:Nat×Nat×Nat//s.1≤L.length∧s.2.1<s.2.2 }) (fun s=>([(6,.own s.1.2.1 0 (L.take s.1.1).flatten.length),(25,.sl 1 (L.map (enW 6))),(26,pI L.length),(27,pI s.1.1)],⟨[(s.1.2.1,.arr false 6 (L.take s.1.1).flatten)],s.1.2.2⟩)) (fun s=>L.length-s.1.1) ⟨(0,0,1),Nat.zero_le _,by simp⟩ ?_ ?_ ?_
 ·simp only [vmL,Nat.reduceEqDiff,List.take_zero,List.flatten_nil]
  try trivial
 ·simp only [vmL,List.take_zero,List.flatten_nil]
  try trivial
 rintro ⟨⟨k,i2,n⟩,hk,h3⟩;simp only [] at hk h3 ⊢;have qq:=N3 i2 n (n+1);refine Rp1 [6,25,26,27,28] qq ?_;refine Zaa ?_;refine Zac rfl (fun h1=>?_) (fun h1=>?_)
 ·simp only [decide_eq_true_eq] at h1;have ka:k<L.length:=by omega
  have hst:=flatR_step ka;have hrow:(L.map (enW 6)).getD k []=enW 6 L[k]:=rowm ka;have hF:(L.take k).flatten.length≤900000:=by have:=lensR_take L k;rw [lensR_flat];omega
  have hLk:(L.take k).flatten.length+L[k].length≤900000:=by have:=lensR_take L (k+1);rw [lensR_step ka] at this;rw [lensR_flat];omega
  refine Kp0 ?_;refine Zaa ?_;refine Zab ?_;refine Zaa (Zae [6,8,25,26,27] ?_);simp only [vmL,Nat.reduceEqDiff,List.length_map,hrow,enW,qq];refine Ok ?_;generalize (L.take k).flatten=F at hst hF hLk ⊢;generalize L[k]=x at hst hLk ⊢;have e2:F.length+x.length=(L.take (k+1)).flatten.length:=by rw [hst,List.length_append]
  have tF:List.take F.length F=F:=List.take_length;refine rp1 [6,25,26,27] (x3 tF hst.symm qq) ?_;refine ⟨by omega,by omega,?_⟩;refine rp1 [6,25,26,27] (x2 (ad1 (a:=k) (by omega)) qq) ?_;refine ⟨⟨(k+1,n,n+1),ka,by simp⟩,?_⟩;simp only [← e2]
  all_goals exact Fn1 qq
 simp only [decide_eq_false_iff_not] at h1;obtain rfl:k=L.length:=by omega
 rw [List.take_length];refine Ep0 ?_;refine Rp1 [2] qq ?_;refine Tp0 ?_;exact View.own_all (fz:=false) (by simp [Heap.get,HL.get]) rfl
end Go.Proofs.YtcgdjembdjdlhaaGreatDoor.w
