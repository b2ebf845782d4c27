import Derived.Test.YtihfbefagcdpmaaDoorS1
import Derived.Test.YtihfbefagcdpmaaDoorP1
import Derived.Test.YtihfbefagcdpmaaDoorVmAc
import Derived.Test.YtihfbefagcdpmaaDoorVmG
import Derived.Test.YtihfbefagcdpmaaDoorVmA
import Derived.Test.YtihfbefagcdpmaaDoorRows
import Derived.Lib.LaidTab
import Derived.LaidSub
import Derived.Lib.ItoaNum
set_option linter.all false
namespace Go.Proofs.YtihfbefagcdpmaaDoor.w
open Go Go.VM
set_option maxRecDepth 20000
set_option maxHeartbeats 0
set_option pp.deepTerms false
def c_pandectlaw03_awake:VC:=(.seq (.region [ZO 0 (.mv (.c (.bool false)))] false) (.seq (.region [ZO 8 (.call 17 [(.c (.str [49,50,65,90]))]),ZM 7 8,ZO 9 (.ext (.t 7) 0),ZO 10 (.ext (.t 7) 1),ZM 1 9,ZM 2 10] false) (.seq (.region [ZO 12 (.call 19 [(.c (.str [53,65])),(.c (.str [53,66]))]),ZM 11 12,ZO 13 (.ext (.t 11) 0),ZO 14 (.ext (.t 11) 1),ZM 3 13,ZM 4 14] false) (.seq (.region [ZO 16 (.call 19 [(.c (.str [53])),(.c (.str [53,65]))]),ZM 15 16,ZO 17 (.ext (.t 15) 0),ZO 18 (.ext (.t 15) 1),ZM 5 17,ZM 6 18] false) (.seq (.region [ZM 19 1,ZO 20 (.bin .eql (.t 19) (.c (.str [49,50,66]))),ZM 21 20,ZG 22 (.mv (.t 2)) 21 true,ZO 23 (.pick (.t 21) (.t 22) (.c (.bool false))),ZM 24 23,ZG 25 (.mv (.t 3)) 24 true,ZG 26 (.bin .eql (.t 25) (.c (.str [53,65,65]))) 24 true,ZO 27 (.pick (.t 24) (.t 26) (.c (.bool false))),ZM 28 27,ZG 29 (.mv (.t 4)) 28 true,ZO 30 (.pick (.t 28) (.t 29) (.c (.bool false))),ZM 31 30,ZG 32 (.mv (.t 6)) 31 true,ZG 33 (.un .not (.t 32)) 31 true,ZO 34 (.pick (.t 31) (.t 33) (.c (.bool false))),ZM 35 34,ZG 36 (.call 15 [(.c (.str [49,50,65,66])),(.c (.str [49,50,66]))]) 35 true,ZG 37 (.bin .eql (.t 36) (.c (.int .i64 (-1)))) 35 true,ZO 38 (.pick (.t 35) (.t 37) (.c (.bool false))),ZM 0 38] false) .ret)))))
theorem dec5:Lib.decDigits 5 = [53]:=(decDigits_val [53] (by decide) (by decide) (by decide)).2
theorem dec6:Lib.decDigits 6 = [54]:=(decDigits_val [54] (by decide) (by decide) (by decide)).2
theorem dec12:Lib.decDigits 12 = [49,50]:=(decDigits_val [49,50] (by decide) (by decide) (by decide)).2
theorem aw1:nextS [49,50,65,90] = some [49,50,66]:=by
  have:nextS [49,50,65,90] = some (text 12 [66]):=by kernel_rfl
  rw [this]; unfold text; rw [dec12]; rfl
theorem beh0:Zaz [53,65] 0 = some [54]:=by
  have:Zaz [53,65] 0 = some (text 6 []):=by kernel_rfl
  rw [this]; unfold text; rw [dec6]; rfl
theorem beh1:Zaz [53,65] 1 = some [53,66]:=by
  have:Zaz [53,65] 1 = some (text 5 [66]):=by kernel_rfl
  rw [this]; unfold text; rw [dec5]; rfl
theorem beh2:Zaz [53,65] 2 = some [53,65,65]:=by
  have:Zaz [53,65] 2 = some (text 5 [65,65]):=by kernel_rfl
  rw [this]; unfold text; rw [dec5]; rfl
theorem behb0:Zaz [53] 0 = some [54]:=by
  have:Zaz [53] 0 = some (text 6 []):=by kernel_rfl
  rw [this]; unfold text; rw [dec6]; rfl
theorem behb1:Zaz [53] 1 = some [53,65]:=by
  have:Zaz [53] 1 = some (text 5 [65]):=by kernel_rfl
  rw [this]; unfold text; rw [dec5]; rfl
theorem behb2:Zaz [53] 2 = some [53,65,65]:=by
  have:Zaz [53] 2 = some (text 5 [65,65]):=by kernel_rfl
  rw [this]; unfold text; rw [dec5]; rfl
theorem behb3:Zaz [53] 3 = some [53,65,65,65]:=by
  have:Zaz [53] 3 = some (text 5 [65,65,65]):=by kernel_rfl
  rw [this]; unfold text; rw [dec5]; rfl
theorem aw2:between [53,65] [53,66] = some [53,65,65]:=by
  have c0:¬ cmpL [54] [53,66] < 0:=by rw [show cmpL [54] [53,66] = 1 from by kernel_rfl]; decide
  have c1:¬ cmpL [53,66] [53,66] < 0:=by rw [show cmpL [53,66] [53,66] = 0 from by kernel_rfl]; decide
  have c2:cmpL [53,65,65] [53,66] < 0:=by rw [show cmpL [53,65,65] [53,66] = -1 from by kernel_rfl]; decide
  unfold between
  rw [if_pos (by constructor <;> kernel_rfl)]
  simp only [betS,Nat.reduceAdd,Nat.zero_add,beh0,beh1,beh2,if_neg c0,if_neg c1,if_pos c2]
theorem aw3:between [53] [53,65] = none:=by
  have c0:¬ cmpL [54] [53,65] < 0:=by rw [show cmpL [54] [53,65] = 1 from by kernel_rfl]; decide
  have c1:¬ cmpL [53,65] [53,65] < 0:=by rw [show cmpL [53,65] [53,65] = 0 from by kernel_rfl]; decide
  have c2:¬ cmpL [53,65,65] [53,65] < 0:=by rw [show cmpL [53,65,65] [53,65] = 1 from by kernel_rfl]; decide
  have c3:¬ cmpL [53,65,65,65] [53,65] < 0:=by rw [show cmpL [53,65,65,65] [53,65] = 1 from by kernel_rfl]; decide
  unfold between
  rw [if_pos (by constructor <;> kernel_rfl)]
  simp only [betS,Nat.reduceAdd,Nat.zero_add,behb0,behb1,behb2,behb3,if_neg c0,if_neg c1,if_neg c2,if_neg c3]
theorem aw4:cmpL [49,50,65,66] [49,50,66] = -1:=by kernel_rfl
theorem awake:Za8 Tryd.prog 10 [] (.bool true):=by
  have A:=sp_label_Next [49,50,65,90] (by simp)
  have B:=sp_label_Between [53,65] [53,66] (by simp) (by simp)
  have C:=sp_label_Between [53] [53,65] (by simp) (by simp)
  have D:=sp_label_Compare [49,50,65,66] [49,50,66] (by simp) (by simp)
  rw [aw1] at A
  rw [aw2] at B
  rw [aw3] at C
  rw [aw4] at D
  refine Zaj ?_ (cB _) (by simp only [Zat,List.mem_cons,List.not_mem_nil,or_false,forall_eq_or_imp,forall_eq,false_implies,implies_true]; repeat' (first  | exact cB _ | refine And.intro ?_ ?_))
  refine Zar (vc:=c_pandectlaw03_awake) (ts:=[.t 0]) Go.Proofs.Tryd.func10 (by kernel_rfl) rfl rfl (Nat.le_of_ble_eq_true rfl) (by kernel_rfl) ?_
  unfold c_pandectlaw03_awake
  try dsimp only [ZM,ZO,ZN,ZG]
  refine Zac (Zaa [] ?_)
  simp only [Zab,Zad,Zaf,pok,pval,VA.ev,Env.put,Env.keep,Za1,Zae,Heap.nil,true_and]
  refine Zac (Zaa [1,2] ?_)
  simp only [Zab,Zad,Zaf,pok,pval,VA.ev,Env.get,Env.put,Env.keep,Zae,extV,extOk,PV.nth,Nat.succ_ne_self,List.map,Nat.reduceEqDiff,ite_true,ite_false,true_and]
  refine Zah A ?_
  try simp only [List.length,List.getD_cons_zero,List.getD_cons_succ,Nat.reduceAdd,Nat.reduceLT,true_and,Nat.zero_add,optT,Option.getD_some,Option.isSome_some]
  refine Zac (Zaa [1,2,3,4] ?_)
  simp only [Zab,Zad,Zaf,pok,pval,VA.ev,Env.get,Env.put,Env.keep,Zae,extV,extOk,PV.nth,Nat.succ_ne_self,List.map,Nat.reduceEqDiff,ite_true,ite_false,true_and]
  refine Zah B ?_
  try simp only [List.length,List.getD_cons_zero,List.getD_cons_succ,Nat.reduceAdd,Nat.reduceLT,true_and,Nat.zero_add,optT,Option.getD_some,Option.isSome_some]
  refine Zac (Zaa [1,2,3,4,6] ?_)
  simp only [Zab,Zad,Zaf,pok,pval,VA.ev,Env.get,Env.put,Env.keep,Zae,extV,extOk,PV.nth,Nat.succ_ne_self,List.map,Nat.reduceEqDiff,ite_true,ite_false,true_and]
  refine Zah C ?_
  try simp only [List.length,List.getD_cons_zero,List.getD_cons_succ,Nat.reduceAdd,Nat.reduceLT,true_and,Nat.zero_add,optT,Option.getD_none,Option.isSome_none]
  refine Zac (Zaa [0] ?_)
  simp only [Zab,Zad,Zbc,Zaf,pok,pval,VA.ev,Env.get,Env.put,Env.keep,Zae,Za4,isBool,intV,binV,Zan,strV,unV,unOk,Nat.succ_ne_self,List.map,Nat.reduceEqDiff,ite_true,ite_false,true_and,reduceCtorEq,BEq.rfl,Bool.not_false]
  refine Zah D ?_
  try simp only [true_and,BEq.rfl]
  refine Zal ?_
  try simp only [Env.get,retQ,resV,Zas,RS.ev,RS.ok,ite_true,true_and,and_true]
  exact View.refl _ _
end Go.Proofs.YtihfbefagcdpmaaDoor.w
namespace Go.Proofs.YtihfbefagcdpmaaDoor.w
open Go Go.VM
set_option maxRecDepth 20000
set_option maxHeartbeats 0
set_option pp.deepTerms false
def c_pandectlaw03_few:VC:=(.seq (.region [ZO 2 (.mv (.c (.bool false)))] false) (.seq (.seq (.region [ZO 3 (.mv (.c (.int .i64 0)))] false) (.block 0 (.loop (.seq (.seq (.region [ZM 4 3,ZM 5 0,ZO 6 (.len false (.t 5)),ZO 7 (.bin .lss (.t 4) (.t 6))] false) (.cond (.t 7) .skip (.exit 0))) (.seq (.block 1 (.seq (.region [ZM 10 0,ZM 11 3,ZO 12 (.iaddr 1 (.t 10) (.t 11)),ZO 13 (.load false 1 (.t 12)),ZO 14 (.len true (.t 13)),ZO 15 (.bin .gtr (.t 14) (.c (.int .i64 40)))] false) (.cond (.t 15) (.seq (.region [ZO 2 (.mv (.c (.bool false)))] false) .ret) .skip))) (.region [ZM 8 3,ZO 9 (.bin .add (.t 8) (.c (.int .i64 1))),ZM 3 9] false)))))) (.seq (.region [ZM 16 0,ZO 17 (.len false (.t 16)),ZO 18 (.bin .leq (.t 17) (.c (.int .i64 60))),ZM 2 18] false) .ret)))
def fewL (l:List Str):Bool:=decide (l.length ≤ 60) && l.all fun s=>decide (s.length ≤ 40)
theorem all_pre {l:List Str} (h:∀ (j:Nat) (hj:j < l.length),l[j].length ≤ 40):(l.all fun s=>decide (s.length ≤ 40)) = true:=by
  rw [List.all_eq_true]
  intro s hs
  obtain ⟨j,hj,rfl⟩:=List.mem_iff_getElem.1 hs
  exact decide_eq_true (h j hj)
theorem sp_pandectlaw03_few (l:List Str) (hl:l.length ≤ 9000000000000):Za8 Tryd.prog 21 [It.strs l] (.bool (fewL l)):=by
  unfold It.strs
  refine Zaj ?_ (cB _) (by simp only [Zat,List.mem_cons,List.not_mem_nil,or_false,forall_eq_or_imp,forall_eq,false_implies,implies_true]; repeat' (first  | exact cS _ | exact cB _ | exact closed_strs _ | refine And.intro ?_ ?_))
  refine Zar (vc:=c_pandectlaw03_few) (ts:=[.t 2]) Go.Proofs.Tryd.func21 (by kernel_rfl) rfl rfl (Nat.le_of_ble_eq_true rfl) (by kernel_rfl) ?_
  unfold c_pandectlaw03_few
  try dsimp only [ZM,ZO,ZN,ZG]
  refine Zac (Zaa [0] ?_)
  simp only [Zab,Zad,Zaf,pok,pval,VA.ev,Env.get,Env.put,Env.keep,Za1,Zae,Heap.nil,ite_true,ite_false,true_and,reduceCtorEq]
  refine Zac ?_
  refine Zac (Zaa [0,3] ?_)
  simp only [Zab,Zad,Zaf,pok,pval,VA.ev,Env.get,Env.put,Env.keep,Zae,ite_true,ite_false,true_and,reduceCtorEq]
  refine Za0 ?_
  refine VW_loop (σ:={ k:Nat // k ≤ l.length ∧ ∀ (j:Nat) (hj:j < l.length),j < k → l[j].length ≤ 40 }) (fun x=>([(0,.sl 1 (l.map fun s=>[.str s])),(3,pI x.1)],⟨[],0⟩)) (fun x=>l.length - x.1) ⟨0,Nat.zero_le _,fun j _ h=>by cases h⟩ ?_ ?_ ?_
  · simp only [Env.get,Env.le,ite_true,ite_false,true_and,and_true,reduceCtorEq]
    rfl
  · simp only [Heap.le,HL.le,Nat.le_refl,and_true]
  rintro ⟨k,hk,hpre⟩
  simp only []
  refine Zac ?_
  refine Zac (Zaa [0,3,7] ?_)
  simp only [Zab,Zad,Zaf,pok,pval,VA.ev,Env.get,Env.put,Env.keep,Zae,intV,binV,Zan,lenV,lenOk,Heap.le,HL.le,Nat.succ_ne_self,Env.le,Nat.reduceEqDiff,ite_true,ite_false,true_and,and_true,reduceCtorEq,List.length_map]
  refine Zai rfl (fun h1=>?_) (fun h1=>?_)
  · have ka:k < l.length:=by simp only [decide_eq_true_eq] at h1; omega
    refine Zak ?_
    try simp only [Zae]
    refine Zac ?_
    refine Za0 ?_
    refine Zac (Zaa [0,3,15] ?_)
    simp only [Zab,Zad,Zaf,pok,pval,VA.ev,Env.get,Env.put,Env.keep,Zae,aggV,intV,binV,Zan,isInt,numOf,lenV,Za3,locOk,iaddrV,iaddrOk,lenOk,PV.nth,PV.row,Nat.le_refl,Nat.succ_ne_self,List.length,List.getD_cons_zero,List.take,List.take_succ_cons,Nat.reduceEqDiff,Bool.false_eq_true,ite_true,ite_false,true_and,and_true,implies_true,reduceCtorEq,Nat.zero_add,List.length_cons,Int.toNat_natCast,List.length_map,rowm ka]
    repeat (with_reducible refine And.intro ?_ ?_; first | omega | (with_reducible constructor <;> omega) | exact False.elim | exact True.intro)
    refine Zai rfl (fun h2=>?_) (fun h2=>?_)
    · refine Zac (Zaa [2] ?_)
      simp only [Zab,Zad,Zaf,pok,pval,VA.ev,Env.get,Env.put,Env.keep,Zae,Nat.succ_ne_self,Nat.reduceEqDiff,ite_true,ite_false,true_and,reduceCtorEq]
      refine Zal ?_
      try simp only [Env.get,Zae,Za2,retQ,resV,Zas,RS.ev,RS.ok,ite_true,true_and,and_true]
      have h2':40 < l[k].length:=by simp only [decide_eq_true_eq] at h2; omega
      have e:fewL l = false:=by
        unfold fewL
        cases h:(l.all fun s=>decide (s.length ≤ 40)) with
        | false=>rw [Bool.and_false]
        | true =>
          have:=of_decide_eq_true (List.all_eq_true.1 h l[k] (List.getElem_mem ka))
          omega
      rw [e]
      exact View.refl _ _
    refine Zak ?_
    try simp only [Zae,Za2]
    have h2':l[k].length ≤ 40:=by simp only [decide_eq_false_iff_not] at h2; omega
    refine Zaa [0,3] ?_
    simp only [Zab,Zad,Zaf,pok,pval,VA.ev,Env.get,Env.put,Env.keep,Zae,intV,binV,Zan,Nat.le_refl,Nat.reduceEqDiff,ite_true,ite_false,true_and,reduceCtorEq,w64 (n:=(k:Int) + 1) (by omega) (by omega)]
    refine ⟨⟨k + 1,ka,fun j hj hjk=>?_⟩,?_,?_⟩
    · by_cases e:j = k
      · subst e; exact h2'
      · exact hpre j hj (by omega)
    · rfl
    · simp only []; omega
  · have ka:k = l.length:=by simp only [decide_eq_false_iff_not] at h1; omega
    refine VW_exit ?_
    try simp only [Zae,Za2,retQ,ite_true]
    refine Zac (Zaa [2] ?_)
    simp only [Zab,Zad,Zaf,pok,pval,VA.ev,Env.get,Env.put,Env.keep,Zae,intV,binV,Zan,lenV,lenOk,Nat.succ_ne_self,Nat.reduceEqDiff,ite_true,ite_false,true_and,reduceCtorEq,List.length_map]
    refine Zal ?_
    try simp only [Env.get,retQ,resV,Zas,RS.ev,RS.ok,ite_true,true_and,and_true]
    have e:fewL l = decide ((l.length:Int) ≤ 60):=by
      unfold fewL
      rw [all_pre (fun j hj=>hpre j hj (by omega)),Bool.and_true]
      by_cases h:l.length ≤ 60
      · rw [decide_eq_true h,decide_eq_true (by omega)]
      · rw [decide_eq_false h,decide_eq_false (by omega)]
    rw [e]
    exact View.refl _ _
theorem few_short {l:List Str} (h:fewL l = true):l.length ≤ 60:=by
  unfold fewL at h
  simp only [Bool.and_eq_true,decide_eq_true_eq] at h
  exact h.1
end Go.Proofs.YtihfbefagcdpmaaDoor.w
namespace Go.Proofs.YtihfbefagcdpmaaDoor.w
open Go Go.VM
set_option maxRecDepth 20000
set_option maxHeartbeats 0
set_option pp.deepTerms false
def c_slices_Clone_string:VC:=(.seq (.region [ZO 2 (.mv (.c .nilsl))] false) (.seq (.seq (.region [ZM 3 0,ZO 4 (.nd false (.t 3))] false) (.cond (.t 4) (.seq (.region [ZO 2 (.mv (.c .nilsl))] false) .ret) .skip)) (.seq (.region [ZO 5 (.fx (.mk0 1) []),ZM 6 0,ZO 7 (.app 1 16 [(.str [])] false (.t 5) (.t 6)),ZM 2 7] false) .ret)))
def c_label_Sort:VC:=(.seq (.region [ZO 2 (.mv (.c .nilsl))] false) (.seq (.region [ZM 4 0,ZO 5 (.call 42 [(.t 4)]),ZM 3 5] false) (.seq (.region [ZM 6 3,ZO 7 (.call 43 [(.t 6),(.c (.fn (.func 15) [] []))])] false) (.seq (.region [ZM 8 3,ZM 2 8] false) .ret))))
def c_pandectref03_Sort:VC:=(.seq (.region [ZO 2 (.mv (.c .nilsl))] false) (.seq (.region [ZO 6 (.fx (.mk0 1) []),ZM 3 6] false) (.seq (.seq (.region [ZO 4 (.mv (.c (.int .i64 0)))] false) (.block 0 (.loop (.seq (.seq (.region [ZM 7 4,ZM 8 0,ZO 9 (.len false (.t 8)),ZO 10 (.bin .lss (.t 7) (.t 9))] false) (.cond (.t 10) .skip (.exit 0))) (.seq (.block 1 (.seq (.region [ZO 5 (.mv (.c (.int .i64 0)))] false) (.seq (.block 2 (.loop (.seq (.seq (.region [ZM 13 5,ZM 14 3,ZO 15 (.len false (.t 14)),ZO 16 (.bin .lss (.t 13) (.t 15)),ZM 17 16,ZG 18 (.mv (.t 3)) 17 true,ZG 19 (.mv (.t 5)) 17 true,ZG 20 (.iaddr 1 (.t 18) (.t 19)) 17 true,ZG 21 (.load false 1 (.t 20)) 17 true,ZG 22 (.mv (.t 0)) 17 true,ZG 23 (.mv (.t 4)) 17 true,ZG 24 (.iaddr 1 (.t 22) (.t 23)) 17 true,ZG 25 (.load false 1 (.t 24)) 17 true,ZG 26 (.call 16 [(.t 21),(.t 25)]) 17 true,ZG 27 (.bin .leq (.t 26) (.c (.int .i64 0))) 17 true,ZO 28 (.pick (.t 17) (.t 27) (.c (.bool false)))] true) (.cond (.t 28) .skip (.exit 2))) (.block 3 (.region [ZM 29 5,ZO 30 (.bin .add (.t 29) (.c (.int .i64 1))),ZM 5 30] false))))) (.draw2 [ZO 31 (.fx (.mk0 1) []),ZM 32 3,ZM 33 5,ZO 34 (.slice false 1 (.t 32) none (some (.t 33))),ZO 35 (.app 1 16 [(.str [])] false (.t 31) (.t 34)),ZM 36 0,ZM 37 4,ZO 38 (.iaddr 1 (.t 36) (.t 37)),ZO 39 (.load false 1 (.t 38)),ZO 40 (.bslice 1 1 [(.str [])] [(0,(.t 39))]),ZO 41 (.app 1 16 [(.str [])] false (.t 35) (.t 40)),ZM 42 3,ZM 43 5,ZO 44 (.slice false 1 (.t 42) (some (.t 43)) none),ZO 45 (.app 1 16 [(.str [])] false (.t 41) (.t 44)),ZM 3 45] [false,false,false,false,false,false,false,false,false,false,false,false,false,false,false,false])))) (.region [ZM 11 4,ZO 12 (.bin .add (.t 11) (.c (.int .i64 1))),ZM 4 12] false)))))) (.seq (.region [ZM 46 3,ZM 2 46] false) .ret))))
def Zbm:VC:=(.seq (.region [ZO 2 (.mv (.c (.bool false)))] false) (.seq (.seq (.region [ZO 4 (.call 10 []),ZO 5 (.un .not (.t 4)),ZM 6 5,ZG 7 (.mv (.t 0)) 6 false,ZG 8 (.call 21 [(.t 7)]) 6 false,ZG 9 (.un .not (.t 8)) 6 false,ZO 10 (.pick (.t 6) (.c (.bool true)) (.t 9))] false) (.cond (.t 10) (.seq (.region [ZO 11 (.call 10 []),ZM 2 11] false) .ret) .skip)) (.seq (.region [ZO 12 (.fx (.mk0 1) []),ZM 13 0,ZO 14 (.app 1 16 [(.str [])] false (.t 12) (.t 13)),ZM 3 14] false) (.seq (.region [ZM 15 3,ZO 16 (.call 26 [(.t 15)]),ZM 17 0,ZO 18 (.call 27 [(.t 17)]),ZO 19 (.call 25 [(.t 16),(.t 18)]),ZM 20 19,ZG 21 (.mv (.t 3)) 20 true,ZG 22 (.mv (.t 0)) 20 true,ZG 23 (.call 25 [(.t 21),(.t 22)]) 20 true,ZO 24 (.pick (.t 20) (.t 23) (.c (.bool false))),ZM 2 24] false) .ret))))
abbrev stP (s:Str):List PV:=[.str s]
theorem ac_cloneS (l : List Str) (hl : l.length ≤ 1000000) : ACall Tryd.prog 42 [It.strs l] ⟨[], 0⟩
    (fun p h'=>(p = .nilsl ∧ l = [] ∧ h' = ⟨[],0⟩) ∨ ∃ id n,id < n ∧ p = .own id 0 l.length ∧ h' = ⟨[(id,.arr false 1 (l.map stP))],n⟩):=by
  refine ACall.drop ?_
  refine Zar (vc:=c_slices_Clone_string) (ts:=[.t 2]) Go.Proofs.Tryd.func42 (by kernel_rfl) rfl rfl (Nat.le_of_ble_eq_true rfl) (by kernel_rfl) ?_
  unfold c_slices_Clone_string
  try dsimp only [ZM,ZO,ZN,ZG]
  refine Zac (Zaa [0] ?_)
  simp only [Zab,Zad,Zaf,pok,pval,VA.ev,Env.get,Env.put,Env.keep,Za1,Zae,Heap.le,ite_true,ite_false,true_and,reduceCtorEq]
  refine Zac ?_
  refine Zac (Zaa [0,4] ?_)
  simp only [Zab,Zad,Zaf,pok,pval,VA.ev,Env.get,Env.put,Env.keep,Zae,slLike,isNil,notNil,Nat.reduceEqDiff,Bool.false_eq_true,ite_true,ite_false,true_and,reduceCtorEq,It.strs]
  intro b hb1 hb2
  cases b with
  | true =>
    skip
    refine Zai rfl (fun h1=>?_) (fun h1=>by cases h1)
    refine Zac (Zaa [2] ?_)
    try simp only [Zab,Zad,Zaf,pok,pval,VA.ev,Env.get,Env.put,Env.keep,Zae,Nat.reduceEqDiff,ite_true,ite_false,true_and,reduceCtorEq]
    refine Zal ?_
    try simp only [Env.get,Zae,retQ,resV,Zas,RS.ev,RS.ok,ite_true,true_and,and_true,reduceCtorEq]
    cases l with
    | nil=>exact ⟨⟨[],0⟩,by simp [Heap.le,HL.le],.inl (by simp)⟩
    | cons a r=>simp [notNil] at hb2
  | false =>
    skip
    refine Zai rfl (fun h1=>by cases h1) (fun h1=>?_)
    refine Zak ?_
    try simp only [Zae]
    refine Zac (Zaa [2] ?_)
    simp only [Zab,Zad,Zaf,pok,pval,VA.ev,Env.get,Env.put,Env.keep,Zae,Heap.get,Heap.del,HL.get,HL.del,Heap.push,Nat.le_refl,Nat.succ_ne_self,Zba,oldId,Za7,oldOk,Zau,srcOk,fxV,fxOk,List.map,List.length,List.take,List.nil_append,Nat.reduceEqDiff,Nat.reduceAdd,ite_true,ite_false,true_and,and_true,reduceCtorEq,Nat.zero_add,Nat.add_zero,List.length_nil,It.strs,List.length_map]
    repeat (with_reducible refine And.intro ?_ ?_; first | omega | (with_reducible constructor <;> omega) | exact False.elim | exact True.intro)
    refine Zal ?_
    try simp only [Env.get,retQ,resV,Zas,RS.ev,RS.ok,ite_true,true_and,and_true,reduceCtorEq]
    exact ⟨⟨[(1,.arr false 1 (l.map stP))],2⟩,by simp [HL.le,HL.get,Heap.get],.inr ⟨1,2,by decide,rfl,rfl⟩⟩
theorem closed_strsL (l:List Str):Closed (It.strs l):=Zay fun s _ y hy=>by simp at hy; subst hy; exact cS _
theorem sp_label_Sort (l:List Str) (hl:l.length ≤ 1000000) (hs:∀ s ∈ l,s.length ≤ 1000000):Za8 Tryd.prog 26 [It.strs l] (It.strs (sortL l)):=by
  have C:=ac_cloneS l hl
  have S:=fun id n=>sorts_Sm id n (l.attach.map fun s=>⟨s.1,hs s.1 s.2⟩) (by simpa using hl)
  have e1:(l.attach.map fun s=>(⟨s.1,hs s.1 s.2⟩:SmS)).map (·.1) = l:=by simp
  have e2:(l.attach.map fun s=>(⟨s.1,hs s.1 s.2⟩:SmS)).map encSmP = l.map stP:=by
    have hm:∀ L:List SmS,L.map encSmP = (L.map (·.1)).map stP:=fun L=>by rw [List.map_map]; rfl
    rw [hm,e1]
  have e3:(l.attach.map fun s=>(⟨s.1,hs s.1 s.2⟩:SmS)).length = l.length:=by simp
  rw [e1,e2,e3] at S
  refine Zaj ?_ (closed_strsL _) (by simp only [Zat,List.mem_cons,List.not_mem_nil,or_false,forall_eq_or_imp,forall_eq,false_implies,implies_true]; repeat' (first  | exact cS _ | exact closed_strs _ | refine And.intro ?_ ?_))
  refine Zar (vc:=c_label_Sort) (ts:=[.t 2]) Go.Proofs.Tryd.func26 (by kernel_rfl) rfl rfl (Nat.le_of_ble_eq_true rfl) (by kernel_rfl) ?_
  unfold c_label_Sort
  try dsimp only [ZM,ZO,ZN,ZG]
  refine Zac (Zaa [0] ?_)
  simp only [Zab,Zad,Zaf,pok,pval,VA.ev,Env.get,Env.put,Env.keep,Za1,Zae,Heap.nil,ite_true,ite_false,true_and,reduceCtorEq]
  refine Zac (Zaa [3] ?_)
  simp only [Zab,Zad,Zaf,pok,pval,VA.ev,Env.get,Env.put,Env.keep,Zae,Nat.succ_ne_self,List.map,Nat.reduceEqDiff,ite_true,ite_false,true_and,reduceCtorEq]
  refine C.mono ?_
  rintro p h' (⟨rfl,rfl,rfl⟩ | ⟨id,n,hid,rfl,rfl⟩)
  · skip
    refine VW_own0 3 1 rfl ?_
    try simp only [Env.put,Heap.push,Nat.zero_add]
    refine Zac (Zaa [3] ?_)
    simp only [Zab,Zad,Zaf,pok,pval,VA.ev,Env.get,Env.put,Env.keep,Zae,List.map,Nat.reduceEqDiff,ite_true,ite_false,true_and]
    refine (S 0 1).mono ?_
    rintro p h' ⟨rfl,rfl⟩
    skip
    refine Zac (Zaa [2] ?_)
    simp only [Zab,Zad,Zaf,pok,pval,VA.ev,Env.get,Env.put,Env.keep,Zae,Nat.succ_ne_self,Nat.reduceEqDiff,ite_true,ite_false,true_and]
    refine Zal ?_
    try simp only [Env.get,retQ,resV,Zas,RS.ev,RS.ok,ite_true,true_and,and_true]
    exact View.own_all (fz:=false) (by simp [Heap.get,HL.get]) (by simp [sortL])
  · skip
    refine Zac (Zaa [3] ?_)
    simp only [Zab,Zad,Zaf,pok,pval,VA.ev,Env.get,Env.put,Env.keep,Zae,List.map,Nat.reduceEqDiff,ite_true,ite_false,true_and]
    refine (S id n).mono ?_
    rintro p h' ⟨rfl,rfl⟩
    skip
    refine Zac (Zaa [2] ?_)
    simp only [Zab,Zad,Zaf,pok,pval,VA.ev,Env.get,Env.put,Env.keep,Zae,Nat.succ_ne_self,Nat.reduceEqDiff,ite_true,ite_false,true_and]
    refine Zal ?_
    try simp only [Env.get,retQ,resV,Zas,RS.ev,RS.ok,ite_true,true_and,and_true]
    exact View.own_all (fz:=false) (by simp [Heap.get,HL.get]) (by simp [sortL_len])
theorem posL_at {out:List Str} {s:Str} {j:Nat} (hj:j ≤ out.length) (h1:∀ x ∈ out.take j,cmpL x s ≤ 0) (h2:∀ h:j < out.length,¬ cmpL out[j] s ≤ 0):posL out s = j:=by
  unfold posL
  have e:out = out.take j ++ out.drop j:=(List.take_append_drop _ _).symm
  have hall:∀ x ∈ out.take j,(fun x=>decide (cmpL x s ≤ 0)) x = true:=fun x hx=>by simpa using h1 x hx
  have hd:(out.drop j).takeWhile (fun x=>decide (cmpL x s ≤ 0)) = []:=by
    rcases Nat.lt_or_ge j out.length with h | h
    · rw [List.drop_eq_getElem_cons h,List.takeWhile_cons]
      have:=h2 h
      simp [this]
    · rw [List.drop_eq_nil_of_le h]; rfl
  rw [e,List.takeWhile_append_of_pos hall,hd,List.append_nil,List.length_take]
  omega
theorem sp_pandectref03_Sort (l:List Str) (hl:l.length ≤ 1000000) (hs:∀ s ∈ l,s.length ≤ 1000000):Za8 Tryd.prog 27 [It.strs l] (It.strs (sortL l)):=by
  refine Zaj ?_ (closed_strsL _) (by simp only [Zat,List.mem_cons,List.not_mem_nil,or_false,forall_eq_or_imp,forall_eq,false_implies,implies_true]; repeat' (first  | exact cS _ | exact closed_strs _ | refine And.intro ?_ ?_))
  refine Zar (vc:=c_pandectref03_Sort) (ts:=[.t 2]) Go.Proofs.Tryd.func27 (by kernel_rfl) rfl rfl (Nat.le_of_ble_eq_true rfl) (by kernel_rfl) ?_
  unfold c_pandectref03_Sort
  try dsimp only [ZM,ZO,ZN,ZG]
  refine Zac (Zaa [0] ?_)
  simp only [Zab,Zad,Zaf,pok,pval,VA.ev,Env.get,Env.put,Env.keep,Za1,Zae,Heap.nil,ite_true,ite_false,true_and,reduceCtorEq]
  refine Zac (Zaa [0,3] ?_)
  simp only [Zab,Zad,Zaf,pok,pval,VA.ev,Env.get,Env.put,Env.keep,Zae,Heap.push,fxV,fxOk,List.map,Nat.reduceEqDiff,ite_true,ite_false,true_and,reduceCtorEq,Nat.zero_add]
  refine Zac ?_
  refine Zac (Zaa [0,3,4] ?_)
  simp only [Zab,Zad,Zaf,pok,pval,VA.ev,Env.get,Env.put,Env.keep,Zae,Nat.succ_ne_self,Nat.reduceEqDiff,ite_true,ite_false,true_and,reduceCtorEq]
  refine Za0 ?_
  refine VW_loop (σ:={ x:Nat × Nat × Nat // x.1 ≤ l.length ∧ x.2.1 < x.2.2 }) (fun x=>([(0,It.strs l),(3,.own x.1.2.1 0 x.1.1),(4,pI x.1.1)],⟨[(x.1.2.1,.arr false 1 ((sortL (l.take x.1.1)).map stP))],x.1.2.2⟩)) (fun x=>l.length - x.1.1) ⟨(0,0,1),by simp⟩ ?_ ?_ ?_
  · simp only [Env.get,Nat.succ_ne_self,Env.le,Nat.reduceEqDiff,ite_true,ite_false,true_and,and_true,reduceCtorEq]
    rfl
  · simp only [Heap.get,Heap.le,HL.get,HL.le,Nat.le_refl,List.take,ite_true,true_and,and_true,Option.some.injEq]
    try rfl
  rintro ⟨⟨k,id,t⟩,hk,hid⟩
  simp only [] at hk hid ⊢
  refine Zac ?_
  refine Zac (Zaa [0,3,4,10] ?_)
  simp only [Zab,Zad,Zaf,pok,pval,VA.ev,Env.get,Env.put,Env.keep,Zae,intV,binV,Zan,lenV,lenOk,Heap.get,Heap.le,HL.le,Nat.succ_ne_self,Env.le,Nat.reduceEqDiff,ite_true,ite_false,true_and,and_true,reduceCtorEq,It.strs,List.length_map]
  refine Zai rfl (fun h1=>?_) (fun h1=>?_)
  · simp only [decide_eq_true_eq] at h1
    have ka:k < l.length:=by omega
    have hrow:(l.map stP).getD k [] = [.str l[k]]:=rowm ka
    have hst:=sortL_step l k ka
    have hlen:(sortL (l.take k)).length = k:=by rw [sortL_len,List.length_take]; omega
    have hso:∀ s ∈ sortL (l.take k),s.length ≤ 1000000:=fun s h=>hs s (List.mem_of_mem_take ((sortL_ok _).2.mem_iff.1 h))
    have hsx:=hs _ (List.getElem_mem ka)
    generalize l[k] = x at hrow hst hsx
    generalize sortL (l.take k) = O at *
    refine Zak ?_
    try simp only [Zae]
    refine VW_freeze [(0,It.strs l),(3,.sl 1 (O.map stP)),(4,pI k)] ⟨View.refl _ _,View.own_all (fz:=false) (by simp [Heap.get,HL.get]) (by simp [hlen]),View.refl _ _,trivial⟩ ?_
    refine Zac ?_
    refine Za0 ?_
    refine Zac (Zaa [0,3,4,5] ?_)
    simp only [Zab,Zad,Zaf,pok,pval,VA.ev,Env.get,Env.put,Env.keep,Zae,Nat.succ_ne_self,Nat.reduceEqDiff,ite_true,ite_false,true_and,reduceCtorEq]
    refine Zac ?_
    refine Za0 ?_
    refine VW_loop (σ:={ j:Nat // j ≤ O.length ∧ ∀ y ∈ O.take j,cmpL y x ≤ 0 }) (fun j=>([(0,It.strs l),(3,.sl 1 (O.map stP)),(4,pI k),(5,pI j.1)],⟨[],t⟩)) (fun j=>O.length - j.1) ⟨0,Nat.zero_le _,by simp⟩ ?_ ?_ ?_
    · simp only [Env.get,Nat.succ_ne_self,Env.le,Nat.reduceEqDiff,ite_true,ite_false,true_and,and_true,reduceCtorEq]
      rfl
    · simp only [Heap.le,HL.le,Nat.le_refl,and_true]
      try rfl
    rintro ⟨j,hj,hjp⟩
    simp only [] at hj hjp ⊢
    by_cases ja:j < O.length
    · have hrow2:(O.map stP).getD j [] = [.str O[j]]:=rowm ja
      have R:=sp_pandectref03_Compare O[j] x (hso _ (List.getElem_mem ja)) hsx
      have hstep:O.take (j + 1) = O.take j ++ [O[j]]:=by rw [List.take_add_one,List.getElem?_eq_getElem ja]; rfl
      have hpos2:¬ cmpL O[j] x ≤ 0 → posL O x = j:=fun h=>posL_at (s:=x) hj hjp fun _=>h
      generalize O[j] = y at *
      have hc:decide ((j:Int) < (O.length:Int)) = true:=by simp; omega
      refine Zac ?_
      refine Zac (VW_drawS [0,3,4,5,28] (by simp [Heap.le,Heap.get,HL.le,HL.get]) ?_)
      simp only [DrawW_nil,DrawW_n,DrawW_y,QW,dok,dval,VOp.pure,VOp.simple,VOp.det,pok,pval,VA.ev,Env.get,Env.put,Env.keep,Zae,gd,Za4,isBool,aggV,intV,binV,Zan,strV,isInt,numOf,lenV,Za3,locOk,iaddrV,iaddrOk,lenOk,PV.nth,PV.row,Heap.le,HL.le,Nat.le_refl,Nat.succ_ne_self,Env.le,List.length,List.getD_cons_zero,List.take,List.take_succ_cons,Nat.reduceEqDiff,Bool.false_eq_true,ite_true,ite_false,true_and,and_true,implies_true,forall_const,reduceCtorEq,Nat.zero_add,List.length_cons,Int.toNat_natCast,It.strs,List.length_map,hc,hrow,hrow2]
      refine ⟨⟨by omega,by omega⟩,⟨by omega,by omega⟩,_,.inl R,?_⟩
      try simp only [true_and]
      refine Zai rfl (fun h2=>?_) (fun h2=>?_)
      · simp only [decide_eq_true_eq] at h2
        refine Zak ?_
        try simp only [Zae]
        refine Za0 ?_
        refine Zaa [0,3,4,5] ?_
        simp only [Zab,Zad,Zaf,pok,pval,VA.ev,Env.get,Env.put,Env.keep,Zae,Za2,intV,binV,Zan,Nat.le_refl,Nat.succ_ne_self,Nat.reduceEqDiff,ite_true,ite_false,true_and,reduceCtorEq,w64 (n:=(j:Int) + 1) (by omega) (by omega)]
        refine ⟨⟨j + 1,ja,fun z hz=>?_⟩,?_⟩
        · rw [hstep] at hz
          rcases List.mem_append.1 hz with hz | hz
          · exact hjp z hz
          · rw [List.mem_singleton] at hz; rw [hz]; exact h2
        try simp only [true_and]
        all_goals (repeat' (first | rfl | trivial | omega | (simp only []; omega) | refine And.intro ?_ ?_))
      · simp only [decide_eq_false_iff_not] at h2
        refine VW_exit ?_
        try simp only [Zae,Za2,retQ,Nat.succ_ne_self,ite_true,ite_false,reduceCtorEq]
        have hp:posL O x = j:=hpos2 h2
        have hins:insL O x = O.take j ++ x :: O.drop j:=by unfold insL; rw [hp]
        rw [hins] at hst
        obtain ⟨A,hA⟩:∃ A,(O.map stP).take j = A:=⟨_,rfl⟩
        obtain ⟨B,hB⟩:∃ B,(O.map stP).drop j = B:=⟨_,rfl⟩
        have hAl:A.length = j:=by rw [← hA,List.length_take,List.length_map]; omega
        have hBl:B.length = O.length - j:=by rw [← hB,List.length_drop,List.length_map]
        have hAt:List.take j A = A:=List.take_of_length_le (by omega)
        have hBt:List.take (O.length - j) B = B:=List.take_of_length_le (by omega)
        have hA3:List.take (j + 1) (A ++ [[PV.str x]]) = A ++ [[PV.str x]]:=List.take_of_length_le (by simp; omega)
        have hfin:(sortL (l.take (k + 1))).map stP = A ++ [[PV.str x]] ++ B:=by rw [hst,List.map_append,List.map_cons,← hA,← hB,List.map_take,List.map_drop]; simp
        refine VW_draw2Q [0,3,4] ⟨[],t + 20⟩ (by simp [Heap.le,HL.le]) ?_
        simp only [Zaf,DrawW_nil,DrawW_n,QW,dok,dval,VOp.pure,VOp.simple,VOp.det,pok,pval,VA.ev,Env.get,Env.put,Env.keep,Zae,Za2,gd,aggV,isInt,numOf,loV,hiV,lenV,boundOk,sliceV,sliceOk,Za3,locOk,iaddrV,iaddrOk,PV.cells,PV.fits,PV.nth,PV.row,Heap.get,Heap.del,Heap.le,HL.get,HL.del,HL.le,Heap.push,Nat.le_refl,Nat.succ_ne_self,Zba,oldId,Za7,oldOk,Zau,srcOk,Za6,Zbi,fxV,fxOk,List.map,List.set,List.replicate,List.length,List.getD_cons_zero,List.take,List.drop,List.drop_zero,List.take_succ_cons,List.nil_append,Option.map,Nat.reduceEqDiff,Nat.reduceLT,Nat.reduceLeDiff,Bool.false_eq_true,ite_true,ite_false,true_and,and_true,implies_true,forall_const,reduceCtorEq,BEq.rfl,Nat.zero_add,Nat.add_zero,List.length_cons,List.length_nil,Int.toNat_natCast,It.strs,List.length_map,hrow,Int.toNat_natCast,Nat.sub_zero,hA,hAl,hB,hBl,hAt,hBt,hA3,List.length_append,List.length_cons,List.length_nil,Nat.zero_add]
        refine ⟨by omega,⟨by omega,by omega,by omega⟩,by omega,by omega,by omega,⟨by omega,by omega⟩,by omega,by omega,by omega,⟨by omega,by omega⟩,by omega,by omega,by omega,?_⟩
        refine Zaa [0,3,4] ?_
        simp only [Zab,Zad,Zaf,pok,pval,VA.ev,Env.get,Env.put,Env.keep,Zae,intV,binV,Zan,HL.get,Nat.succ_ne_self,Nat.reduceEqDiff,ite_true,ite_false,true_and,reduceCtorEq,w64 (n:=(k:Int) + 1) (by omega) (by omega)]
        refine ⟨⟨(k + 1,t + 3,t + 4),by show k + 1 ≤ l.length; omega,by show t + 3 < t + 4; omega⟩,⟨?_,?_⟩,⟨by show t + 4 ≤ t + 4; omega,?_⟩,by show l.length - (k + 1) < l.length - k; omega⟩
        · show PV.own (t + 3) 0 (j + 1 + (O.length - j)) = PV.own (t + 3) 0 (k + 1)
          rw [show j + 1 + (O.length - j) = k + 1 by omega]
        · show PV.int IntKind.i64 ((k:Int) + 1) = pI ((k + 1:Nat):Int)
          rfl
        · show (if t + 3 = t + 3 then some (AB.arr false 1 (A ++ [[PV.str x]] ++ B)) else none) = some (AB.arr false 1 ((sortL (l.take (k + 1))).map stP))
          rw [if_pos rfl,hfin]
    · have hc:decide ((j:Int) < (O.length:Int)) = false:=by simp; omega
      have hpos:=posL_at (s:=x) hj hjp (fun h=>absurd h ja)
      refine Zac ?_
      refine Zac (VW_drawS [0,3,4,5,28] (by simp [Heap.le,Heap.get,HL.le,HL.get]) ?_)
      simp only [DrawW_nil,DrawW_n,DrawW_xt,QW,dok,dval,VOp.pure,VOp.simple,VOp.det,pok,pval,VA.ev,Env.get,Env.put,Env.keep,Zae,gd,Za4,isBool,intV,binV,Zan,lenV,lenOk,Heap.le,HL.le,Nat.succ_ne_self,Env.le,Nat.reduceEqDiff,Bool.false_eq_true,ite_true,ite_false,true_and,and_true,implies_true,reduceCtorEq,It.strs,List.length_map,hc]
      refine Zai rfl (fun h2=>by cases h2) (fun h2=>?_)
      refine VW_exit ?_
      try simp only [Zae,Za2,retQ,Nat.succ_ne_self,ite_true,ite_false,reduceCtorEq]
      have hp:posL O x = j:=hpos
      have hins:insL O x = O.take j ++ x :: O.drop j:=by unfold insL; rw [hp]
      rw [hins] at hst
      obtain ⟨A,hA⟩:∃ A,(O.map stP).take j = A:=⟨_,rfl⟩
      obtain ⟨B,hB⟩:∃ B,(O.map stP).drop j = B:=⟨_,rfl⟩
      have hAl:A.length = j:=by rw [← hA,List.length_take,List.length_map]; omega
      have hBl:B.length = O.length - j:=by rw [← hB,List.length_drop,List.length_map]
      have hAt:List.take j A = A:=List.take_of_length_le (by omega)
      have hBt:List.take (O.length - j) B = B:=List.take_of_length_le (by omega)
      have hA3:List.take (j + 1) (A ++ [[PV.str x]]) = A ++ [[PV.str x]]:=List.take_of_length_le (by simp; omega)
      have hfin:(sortL (l.take (k + 1))).map stP = A ++ [[PV.str x]] ++ B:=by rw [hst,List.map_append,List.map_cons,← hA,← hB,List.map_take,List.map_drop]; simp
      refine VW_draw2Q [0,3,4] ⟨[],t + 20⟩ (by simp [Heap.le,HL.le]) ?_
      simp only [Zaf,DrawW_nil,DrawW_n,QW,dok,dval,VOp.pure,VOp.simple,VOp.det,pok,pval,VA.ev,Env.get,Env.put,Env.keep,Zae,Za2,gd,aggV,isInt,numOf,loV,hiV,lenV,boundOk,sliceV,sliceOk,Za3,locOk,iaddrV,iaddrOk,PV.cells,PV.fits,PV.nth,PV.row,Heap.get,Heap.del,Heap.le,HL.get,HL.del,HL.le,Heap.push,Nat.le_refl,Nat.succ_ne_self,Zba,oldId,Za7,oldOk,Zau,srcOk,Za6,Zbi,fxV,fxOk,List.map,List.set,List.replicate,List.length,List.getD_cons_zero,List.take,List.drop,List.drop_zero,List.take_succ_cons,List.nil_append,Option.map,Nat.reduceEqDiff,Nat.reduceLT,Nat.reduceLeDiff,Bool.false_eq_true,ite_true,ite_false,true_and,and_true,implies_true,forall_const,reduceCtorEq,BEq.rfl,Nat.zero_add,Nat.add_zero,List.length_cons,List.length_nil,Int.toNat_natCast,It.strs,List.length_map,hrow,Int.toNat_natCast,Nat.sub_zero,hA,hAl,hB,hBl,hAt,hBt,hA3,List.length_append,List.length_cons,List.length_nil,Nat.zero_add]
      refine ⟨by omega,⟨by omega,by omega,by omega⟩,by omega,by omega,by omega,⟨by omega,by omega⟩,by omega,by omega,by omega,⟨by omega,by omega⟩,by omega,by omega,by omega,?_⟩
      refine Zaa [0,3,4] ?_
      simp only [Zab,Zad,Zaf,pok,pval,VA.ev,Env.get,Env.put,Env.keep,Zae,intV,binV,Zan,HL.get,Nat.succ_ne_self,Nat.reduceEqDiff,ite_true,ite_false,true_and,reduceCtorEq,w64 (n:=(k:Int) + 1) (by omega) (by omega)]
      refine ⟨⟨(k + 1,t + 3,t + 4),by show k + 1 ≤ l.length; omega,by show t + 3 < t + 4; omega⟩,⟨?_,?_⟩,⟨by show t + 4 ≤ t + 4; omega,?_⟩,by show l.length - (k + 1) < l.length - k; omega⟩
      · show PV.own (t + 3) 0 (j + 1 + (O.length - j)) = PV.own (t + 3) 0 (k + 1)
        rw [show j + 1 + (O.length - j) = k + 1 by omega]
      · show PV.int IntKind.i64 ((k:Int) + 1) = pI ((k + 1:Nat):Int)
        rfl
      · show (if t + 3 = t + 3 then some (AB.arr false 1 (A ++ [[PV.str x]] ++ B)) else none) = some (AB.arr false 1 ((sortL (l.take (k + 1))).map stP))
        rw [if_pos rfl,hfin]
  · simp only [decide_eq_false_iff_not] at h1
    obtain rfl:k = l.length:=by omega
    rw [List.take_length]
    refine VW_exit ?_
    try simp only [Zae,Za2,retQ,ite_true]
    refine Zac (Zaa [2] ?_)
    simp only [Zab,Zad,Zaf,pok,pval,VA.ev,Env.get,Env.put,Env.keep,Zae,Nat.succ_ne_self,Nat.reduceEqDiff,ite_true,ite_false,true_and,reduceCtorEq]
    refine Zal ?_
    try simp only [Env.get,retQ,resV,Zas,RS.ev,RS.ok,ite_true,true_and,and_true]
    exact View.own_all (fz:=false) (by simp [Heap.get,HL.get]) (by simp [sortL_len])
theorem few_each {l:List Str} (h:fewL l = true):∀ s ∈ l,s.length ≤ 1000000:=by
  intro s hs
  unfold fewL at h
  simp only [Bool.and_eq_true,List.all_eq_true,decide_eq_true_eq] at h
  have:=h.2 s hs
  omega
theorem law_LabelSort (l:List Str) (_:okL okS l) (z:l.length * 16 ≤ 140737488351232):Za8 Tryd.prog 9 [It.strs l] (.bool true):=by
  refine Zaj ?_ (cB _) (by simp only [Zat,List.mem_cons,List.not_mem_nil,or_false,forall_eq_or_imp,forall_eq,false_implies,implies_true]; repeat' (first  | exact cS _ | exact cB _ | exact closed_strs _ | refine And.intro ?_ ?_))
  refine Zar (vc:=Zbm) (ts:=[.t 2]) Go.Proofs.Tryd.func9 (by kernel_rfl) rfl rfl (Nat.le_of_ble_eq_true rfl) (by kernel_rfl) ?_
  unfold Zbm
  try dsimp only [ZM,ZO,ZN,ZG]
  refine Zac (Zaa [0] ?_)
  simp only [Zab,Zad,Zaf,pok,pval,VA.ev,Env.get,Env.put,Env.keep,Za1,Zae,Heap.nil,ite_true,ite_false,true_and,reduceCtorEq]
  refine Zac ?_
  have F:=sp_pandectlaw03_few l (by omega)
  cases hf:fewL l
  · rw [hf] at F
    refine Zac (Zaa [0,10] ?_)
    simp only [Zad,Zaf,pok,pval,VA.ev,Env.get,Env.put,Env.keep,Zae,unV,unOk,List.map,Nat.reduceEqDiff,ite_true,ite_false,true_and,reduceCtorEq]
    refine Zah awake ?_
    try simp only [Zab,Zad,Zbc,Zaf,pok,pval,VA.ev,Env.get,Env.put,Za4,isBool,unV,unOk,Nat.succ_ne_self,List.map,Nat.reduceEqDiff,Bool.false_eq_true,ite_true,ite_false,true_and,reduceCtorEq,Bool.not_true]
    refine Zah F ?_
    try simp only [true_and,Bool.not_false]
    refine Zai rfl (fun _=>?_) (fun h=>by cases h)
    refine Zac (Zaa [2] ?_)
    simp only [Zab,Zad,Zaf,pok,pval,VA.ev,Env.get,Env.put,Env.keep,Zae,List.map,Nat.reduceEqDiff,ite_true,ite_false,true_and,reduceCtorEq]
    refine Zah awake ?_
    skip
    refine Zal ?_
    try simp only [Env.get,Zae,retQ,resV,Zas,RS.ev,RS.ok,ite_true,true_and,and_true]
    exact View.refl _ _
  · rw [hf] at F
    have hl60:=few_short hf
    have hs:=few_each hf
    have S:=sp_label_Sort l (by omega) hs
    have R:=sp_pandectref03_Sort l (by omega) hs
    have E1:=sp_pandectref03_Same (sortL l) (sortL l) (by rw [sortL_len]; omega)
    have E2:=sp_pandectref03_Same l l (by omega)
    rw [show decide (sortL l = sortL l) = true by simp] at E1
    rw [show decide (l = l) = true by simp] at E2
    refine Zac (Zaa [0,10] ?_)
    simp only [Zad,Zaf,pok,pval,VA.ev,Env.get,Env.put,Env.keep,Zae,unV,unOk,List.map,Nat.reduceEqDiff,ite_true,ite_false,true_and,reduceCtorEq]
    refine Zah awake ?_
    try simp only [Zab,Zad,Zbc,Zaf,pok,pval,VA.ev,Env.get,Env.put,Za4,isBool,unV,unOk,Nat.succ_ne_self,List.map,Nat.reduceEqDiff,Bool.false_eq_true,ite_true,ite_false,true_and,reduceCtorEq,Bool.not_true]
    refine Zah F ?_
    try simp only [true_and,Bool.not_true]
    refine Zai rfl (fun h=>by cases h) (fun _=>?_)
    refine Zak ?_
    try simp only [Zae]
    refine Zac (Zaa [0,3] ?_)
    simp only [Zab,Zad,Zaf,pok,pval,VA.ev,Env.get,Env.put,Env.keep,Zae,Heap.get,Heap.del,HL.get,HL.del,Heap.push,Nat.le_refl,Nat.succ_ne_self,Zba,oldId,Za7,oldOk,Zau,srcOk,fxV,fxOk,List.map,List.length,List.take,List.nil_append,Nat.reduceEqDiff,Nat.reduceAdd,ite_true,ite_false,true_and,and_true,reduceCtorEq,Nat.zero_add,Nat.add_zero,List.length_nil,It.strs,List.length_map]
    refine ⟨by omega,by omega,?_⟩
    refine VW_freeze [(0,It.strs l),(3,It.strs l)] ⟨View.refl _ _,View.own_all (fz:=false) (by simp [Heap.get,HL.get]) (by simp),trivial⟩ ?_
    refine Zac (Zaa [2] ?_)
    simp only [Zad,Zaf,pok,pval,VA.ev,Env.get,Env.put,Env.keep,Zae,Nat.succ_ne_self,List.map,Nat.reduceEqDiff,ite_true,ite_false,true_and,reduceCtorEq]
    refine Zah S ?_
    skip
    refine Zah R ?_
    skip
    refine Zah E1 ?_
    try simp only [Zab,Zad,Zbc,Zaf,pok,pval,VA.ev,Env.get,Env.put,Za4,isBool,Nat.succ_ne_self,List.map,Nat.reduceEqDiff,ite_true,ite_false,true_and,reduceCtorEq]
    refine Zah E2 ?_
    skip
    refine Zal ?_
    try simp only [Env.get,retQ,resV,Zas,RS.ev,RS.ok,ite_true,true_and,and_true]
    exact View.refl _ _
end Go.Proofs.YtihfbefagcdpmaaDoor.w
namespace Go.Proofs.YtihfbefagcdpmaaDoor.rd
open Go Go.VM
variable {W : World}
theorem k3:Tryd.prog.cellsOf 3 = 1:=by kernel_rfl
theorem k9:Tryd.prog.cellsOf 9 = 1:=by kernel_rfl
theorem rS (n:Nat):Reads Tryd.prog W n 9 okS (fun a=>[.str a]):=reads_string Tryd.underlying9
theorem rSs (n:Nat):Reads Tryd.prog W n 34 (okL okS) (fun l=>[It.strs l]):=reads_sl Tryd.underlying34 k9 (by decide) (fun _=>rfl) n (fun m _=>rS m)
end Go.Proofs.YtihfbefagcdpmaaDoor.rd
namespace Go.Proofs.YtihfbefagcdpmaaDoor.w
open Go Go.VM
theorem known_tab (b:Nat) (l:List Value) (h:known.lookup b = some l):b = 2 ∧ l = Lib.pow10Tab.map fun z=>Value.int .u64 z:=by
  have e:known = [(2,Lib.pow10Tab.map fun z=>Value.int .u64 z)]:=by kernel_rfl
  rw [e] at h
  simp only [List.lookup] at h
  split at h
  · rename_i hb
    simp only [Option.some.injEq] at h
    exact ⟨by simpa using hb,h.symm⟩
  · cases h
theorem knownW_of {W : World} {rest : List (String × DataW Unit)} (h : laidMetH Tryd.prog rest W) (hf : rest.filter (fun x => x.1 == "internal/strconv.uint64pow10") = [("internal/strconv.uint64pow10", Lib.tabData .u64 Lib.pow10Tab)]) (hn : (rest.filter fun x => x.2.handleName?.isNone) = rest) : KnownW W := by
  have h1:=(laidMetH_iff.1 h).1
  rw [hn] at h1
  have h2 := h1.filter (fun x => x.1 == "internal/strconv.uint64pow10")
  rw [hf] at h2
  have hg : Tryd.prog.globalNamed "internal/strconv.uint64pow10" = some 2 := by kernel_rfl
  have tab:=Lib.tabIs_of_head (P:=Tryd.prog) (t:=129) (e:=95) (n:=20) hg (by kernel_rfl) Tryd.underlying129 Tryd.underlying95 (by kernel_rfl) (by kernel_rfl) h2
  intro b l hl
  obtain ⟨rfl,rfl⟩:=known_tab b l hl
  refine ⟨?_,fun v hv=>?_⟩
  · unfold Lib.TabIs World.var? at tab
    rw [hg] at tab
    simp only [Option.bind_some] at tab
    split at tab
    · rename_i c t fr hh
      simp only [Option.some.injEq] at tab
      exact ⟨t,fr,by rw [hh,tab]⟩
    · cases tab
  · obtain ⟨z,_,rfl⟩:=List.mem_map.1 hv
    rfl
end Go.Proofs.YtihfbefagcdpmaaDoor.w
