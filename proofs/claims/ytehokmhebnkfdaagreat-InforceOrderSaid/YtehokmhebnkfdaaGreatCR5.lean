import Derived.Test.YtehokmhebnkfdaaGreatCSo
import Derived.Test.YtehokmhebnkfdaaGreatVmS
import Derived.Test.YtehokmhebnkfdaaGreatCTu
import Derived.Test.YtehokmhebnkfdaaGreatRd
set_option linter.all false
namespace Go.Proofs.YtehokmhebnkfdaaGreat.c
open Go Go.VM
set_option maxRecDepth 20000
set_option maxHeartbeats 0
set_option pp.deepTerms false
def c_dateset_Contains:VC:=(.seq (.region [ZO 4 (.mv (.c (.bool false)))] false) (.seq (.region [ZM 5 0,ZO 6 (.call 62 [(.t 5)]),ZM 7 1,ZO 8 (.call 61 [(.t 6),(.t 7)]),ZM 4 8] false) .ret))
theorem sp_dateset_Contains (l:List Sp) (d:Int) (hl:l.length ≤ 10000):Zbo Tryz.prog 36 [.sl 2 (l.map Sp.enc),pI d] (.bool (memB (Zc2 l) d)):=by
  refine Zam ?_ (cB _) (by simp only [Za0,List.mem_cons,List.not_mem_nil,or_false,forall_eq_or_imp,forall_eq,false_implies,implies_true]; repeat' (first  | exact cI _ | exact cB _ | exact Zav _ | exact Za7 (by simp only [List.mem_cons,List.not_mem_nil,or_false,forall_eq]; first | exact cI _ | exact cS _ | exact Zaw _) | refine And.intro ?_ ?_))
  refine Zaq (vc:=c_dateset_Contains) (ts:=[.t 4]) Go.Proofs.Tryz.func36 (by kernel_rfl) rfl rfl (Nat.le_of_ble_eq_true rfl) (by kernel_rfl) ?_
  unfold c_dateset_Contains
  try dsimp only [ZM,ZO,ZN,ZG]
  refine Zac (Zaa [0,1] ?_)
  simp only [Zab,Zad,Zaf,pok,pval,VA.ev,Env.get,Env.put,Env.keep,Za2,Zae,Heap.nil,Nat.succ_ne_self,Nat.reduceEqDiff,ite_true,ite_false,true_and,reduceCtorEq,Nat.zero_add]
  refine Zac (Zaa [4] ?_)
  simp only [Zab,Zad,Zaf,pok,pval,VA.ev,Env.get,Env.put,Env.keep,Zae,Nat.succ_ne_self,List.map,Nat.reduceEqDiff,ite_true,ite_false,true_and,reduceCtorEq]
  refine Zat (norm_ok l (by omega)) ?_
  skip
  refine Zat (sp_dateset_has (Zc2 l) d (Zct l).1 (Nat.le_trans (norm_len l) (by omega))) ?_
  skip
  refine Zar ?_
  try simp only [Env.get,retQ,resV,Zau,RS.ev,RS.ok,ite_true,true_and,and_true]
  exact View.refl _ _
end Go.Proofs.YtehokmhebnkfdaaGreat.c
namespace Go.Proofs.YtehokmhebnkfdaaGreat.c
open Go Go.VM
set_option maxRecDepth 20000
set_option maxHeartbeats 0
set_option pp.deepTerms false
def c_pandectref02_Has:VC:=(.seq (.region [ZO 4 (.mv (.c (.bool false)))] false) (.seq (.seq (.region [ZO 5 (.mv (.c (.int .i64 0)))] false) (.block 0 (.loop (.seq (.seq (.region [ZM 6 5,ZM 7 0,ZO 8 (.len false (.t 7)),ZO 9 (.bin .lss (.t 6) (.t 8))] false) (.cond (.t 9) .skip (.exit 0))) (.seq (.block 1 (.seq (.region [ZM 12 1,ZO 13 (.bin .geq (.t 12) (.c (.int .i64 0))),ZM 14 13,ZG 15 (.mv (.t 1)) 14 true,ZG 16 (.bin .leq (.t 15) (.c (.int .i64 1048576))) 14 true,ZO 17 (.pick (.t 14) (.t 16) (.c (.bool false))),ZM 18 17,ZG 19 (.mv (.t 0)) 18 true,ZG 20 (.mv (.t 5)) 18 true,ZG 21 (.iaddr 2 (.t 19) (.t 20)) 18 true,ZG 22 (.faddr 0 (.t 21)) 18 true,ZG 23 (.load false 1 (.t 22)) 18 true,ZG 24 (.mv (.t 1)) 18 true,ZG 25 (.bin .leq (.t 23) (.t 24)) 18 true,ZO 26 (.pick (.t 18) (.t 25) (.c (.bool false))),ZM 27 26,ZG 28 (.mv (.t 1)) 27 true,ZG 29 (.mv (.t 0)) 27 true,ZG 30 (.mv (.t 5)) 27 true,ZG 31 (.iaddr 2 (.t 29) (.t 30)) 27 true,ZG 32 (.faddr 1 (.t 31)) 27 true,ZG 33 (.load false 1 (.t 32)) 27 true,ZG 34 (.bin .lss (.t 28) (.t 33)) 27 true,ZO 35 (.pick (.t 27) (.t 34) (.c (.bool false)))] false) (.cond (.t 35) (.seq (.region [ZO 4 (.mv (.c (.bool true)))] false) .ret) .skip))) (.region [ZM 10 5,ZO 11 (.bin .add (.t 10) (.c (.int .i64 1))),ZM 5 11] false)))))) (.seq (.region [ZO 4 (.mv (.c (.bool false)))] false) .ret)))
def c_pandectref02_put:VC:=(.seq (.region [ZO 4 (.mv (.c .nilsl))] false) (.seq (.region [ZO 5 (.mv (.c (.int .i64 0)))] false) (.seq (.block 0 (.loop (.seq (.seq (.region [ZM 6 5,ZM 7 0,ZO 8 (.len false (.t 7)),ZO 9 (.bin .lss (.t 6) (.t 8)),ZM 10 9,ZG 11 (.mv (.t 0)) 10 true,ZG 12 (.mv (.t 5)) 10 true,ZG 13 (.iaddr 1 (.t 11) (.t 12)) 10 true,ZG 14 (.load false 1 (.t 13)) 10 true,ZG 15 (.mv (.t 1)) 10 true,ZG 16 (.bin .lss (.t 14) (.t 15)) 10 true,ZO 17 (.pick (.t 10) (.t 16) (.c (.bool false)))] false) (.cond (.t 17) .skip (.exit 0))) (.block 1 (.region [ZM 18 5,ZO 19 (.bin .add (.t 18) (.c (.int .i64 1))),ZM 5 19] false))))) (.seq (.seq (.region [ZM 20 5,ZM 21 0,ZO 22 (.len false (.t 21)),ZO 23 (.bin .lss (.t 20) (.t 22)),ZM 24 23,ZG 25 (.mv (.t 0)) 24 true,ZG 26 (.mv (.t 5)) 24 true,ZG 27 (.iaddr 1 (.t 25) (.t 26)) 24 true,ZG 28 (.load false 1 (.t 27)) 24 true,ZG 29 (.mv (.t 1)) 24 true,ZG 30 (.bin .eql (.t 28) (.t 29)) 24 true,ZO 31 (.pick (.t 24) (.t 30) (.c (.bool false)))] false) (.cond (.t 31) (.seq (.region [ZM 32 0,ZM 4 32] false) .ret) .skip)) (.seq (.draw2 [ZO 33 (.fx (.mk0 1) []),ZM 34 0,ZM 35 5,ZO 36 (.slice false 1 (.t 34) none (some (.t 35))),ZO 37 (.app 1 8 [(.int .i64 0)] false (.t 33) (.t 36)),ZM 38 1,ZO 39 (.bslice 1 1 [(.int .i64 0)] [(0,(.t 38))]),ZO 40 (.app 1 8 [(.int .i64 0)] false (.t 37) (.t 39)),ZM 41 0,ZM 42 5,ZO 43 (.slice false 1 (.t 41) (some (.t 42)) none),ZO 44 (.app 1 8 [(.int .i64 0)] false (.t 40) (.t 43)),ZM 4 44] [false,false,false,false,false,false,false,false,false,false,false,false,false]) .ret)))))
def c_pandectref02_Points:VC:=(.seq (.region [ZO 2 (.mv (.c .nilsl))] false) (.seq (.region [ZO 5 (.bslice 1 1 [(.int .i64 0)] [(0,(.c (.int .i64 0)))]),ZM 3 5] false) (.seq (.seq (.region [ZO 4 (.mv (.c (.int .i64 0)))] false) (.block 0 (.loop (.seq (.seq (.region [ZM 6 4,ZM 7 0,ZO 8 (.len false (.t 7)),ZO 9 (.bin .lss (.t 6) (.t 8))] false) (.cond (.t 9) .skip (.exit 0))) (.seq (.block 1 (.seq (.seq (.region [ZM 12 0,ZM 13 4,ZO 14 (.iaddr 2 (.t 12) (.t 13)),ZO 15 (.faddr 0 (.t 14)),ZO 16 (.load false 1 (.t 15)),ZO 17 (.bin .gtr (.t 16) (.c (.int .i64 0))),ZM 18 17,ZG 19 (.mv (.t 0)) 18 true,ZG 20 (.mv (.t 4)) 18 true,ZG 21 (.iaddr 2 (.t 19) (.t 20)) 18 true,ZG 22 (.faddr 0 (.t 21)) 18 true,ZG 23 (.load false 1 (.t 22)) 18 true,ZG 24 (.bin .leq (.t 23) (.c (.int .i64 1048576))) 18 true,ZO 25 (.pick (.t 18) (.t 24) (.c (.bool false)))] false) (.cond (.t 25) (.region [ZM 26 3,ZM 27 0,ZM 28 4,ZO 29 (.iaddr 2 (.t 27) (.t 28)),ZO 30 (.faddr 0 (.t 29)),ZO 31 (.load false 1 (.t 30)),ZO 32 (.call 162 [(.t 26),(.t 31)]),ZM 3 32] false) .skip)) (.seq (.region [ZM 33 0,ZM 34 4,ZO 35 (.iaddr 2 (.t 33) (.t 34)),ZO 36 (.faddr 1 (.t 35)),ZO 37 (.load false 1 (.t 36)),ZO 38 (.bin .gtr (.t 37) (.c (.int .i64 0))),ZM 39 38,ZG 40 (.mv (.t 0)) 39 true,ZG 41 (.mv (.t 4)) 39 true,ZG 42 (.iaddr 2 (.t 40) (.t 41)) 39 true,ZG 43 (.faddr 1 (.t 42)) 39 true,ZG 44 (.load false 1 (.t 43)) 39 true,ZG 45 (.bin .leq (.t 44) (.c (.int .i64 1048576))) 39 true,ZO 46 (.pick (.t 39) (.t 45) (.c (.bool false)))] false) (.cond (.t 46) (.region [ZM 47 3,ZM 48 0,ZM 49 4,ZO 50 (.iaddr 2 (.t 48) (.t 49)),ZO 51 (.faddr 1 (.t 50)),ZO 52 (.load false 1 (.t 51)),ZO 53 (.call 162 [(.t 47),(.t 52)]),ZM 3 53] false) .skip)))) (.region [ZM 10 4,ZO 11 (.bin .add (.t 10) (.c (.int .i64 1))),ZM 4 11] false)))))) (.seq (.region [ZM 54 3,ZM 2 54] false) .ret))))
def c_pandectref02_counts:VC:=(.seq (.region [ZO 8 (.mv (.c (.bool false)))] false) (.seq (.region [ZM 11 1,ZM 12 3,ZO 13 (.call 163 [(.t 11),(.t 12)]),ZM 14 2,ZM 15 3,ZO 16 (.call 163 [(.t 14),(.t 15)]),ZM 9 13,ZM 10 16] false) (.seq (.seq (.region [ZM 17 0] false) (.block 0 (.seq (.region [ZO 19 (.bin .eql (.t 17) (.c (.int .i64 0))),ZM 18 19] false) (.cond (.t 18) (.seq (.region [ZM 20 9,ZM 21 20,ZG 22 (.mv (.t 10)) 21 false,ZO 23 (.pick (.t 21) (.c (.bool true)) (.t 22)),ZM 8 23] false) .ret) (.seq (.region [ZO 25 (.bin .eql (.t 17) (.c (.int .i64 1))),ZM 24 25] false) (.cond (.t 24) (.seq (.region [ZM 26 9,ZM 27 26,ZG 28 (.mv (.t 10)) 27 true,ZO 29 (.pick (.t 27) (.t 28) (.c (.bool false))),ZM 8 29] false) .ret) .skip)))))) (.seq (.region [ZM 30 9,ZM 31 30,ZG 32 (.mv (.t 10)) 31 true,ZG 33 (.un .not (.t 32)) 31 true,ZO 34 (.pick (.t 31) (.t 33) (.c (.bool false))),ZM 8 34] false) .ret))))
theorem sp_pandectref02_Has (l:List Sp) (d:Int) (hl:l.length ≤ 4611686018427387904):Zbo Tryz.prog 163 [.sl 2 (l.map Sp.enc),pI d] (.bool (hasB l d)):=by
  refine Zam ?_ (cB _) (by simp only [Za0,List.mem_cons,List.not_mem_nil,or_false,forall_eq_or_imp,forall_eq,false_implies,implies_true]; repeat' (first  | exact cI _ | exact cB _ | exact Zav _ | exact Za7 (by simp only [List.mem_cons,List.not_mem_nil,or_false,forall_eq]; first | exact cI _ | exact cS _ | exact Zaw _) | refine And.intro ?_ ?_))
  refine Zaq (vc:=c_pandectref02_Has) (ts:=[.t 4]) Go.Proofs.Tryz.func163 (by kernel_rfl) rfl rfl (Nat.le_of_ble_eq_true rfl) (by kernel_rfl) ?_
  unfold c_pandectref02_Has
  try dsimp only [ZM,ZO,ZN,ZG]
  refine Zac (Zaa [0,1] ?_)
  simp only [Zab,Zad,Zaf,pok,pval,VA.ev,Env.get,Env.put,Env.keep,Za2,Zae,Heap.nil,Nat.succ_ne_self,Nat.reduceEqDiff,ite_true,ite_false,true_and,reduceCtorEq,Nat.zero_add]
  refine Zac ?_
  refine Zac (Zaa [0,1,5] ?_)
  simp only [Zab,Zad,Zaf,pok,pval,VA.ev,Env.get,Env.put,Env.keep,Zae,Nat.succ_ne_self,Nat.reduceEqDiff,ite_true,ite_false,true_and,reduceCtorEq]
  refine Zaj ?_
  refine Za4 (σ:={ i:Nat // i ≤ l.length ∧ hasB (l.take i) d = false }) (fun s=>([(0,.sl 2 (l.map Sp.enc)),(1,pI d),(5,pI s.1)],⟨[],0⟩)) (fun s=>l.length - s.1) ⟨0,by simp [hasB]⟩ ?_ ?_ ?_
  · simp only [Env.get,Nat.succ_ne_self,Env.le,Nat.reduceEqDiff,ite_true,ite_false,true_and,and_true,reduceCtorEq]
    rfl
  · simp only [Heap.le,HL.le,Nat.le_refl,and_true]
  rintro ⟨i,hi,hpre⟩
  simp only []
  refine Zac ?_
  refine Zac (Zaa [0,1,5,9] ?_)
  simp only [Zab,Zad,Zaf,pok,pval,VA.ev,Env.get,Env.put,Env.keep,Zae,intV,binV,Zah,lenV,Za8,Heap.le,HL.le,Nat.succ_ne_self,Env.le,Nat.reduceEqDiff,ite_true,ite_false,true_and,and_true,reduceCtorEq,List.length_map]
  refine Zai rfl (fun h1=>?_) (fun h1=>?_)
  · refine Zak ?_
    try simp only [Zae]
    simp only [decide_eq_true_eq] at h1
    have ia:i < l.length:=by omega
    have hst:hasB (l.take (i + 1)) d = (hasB (l.take i) d || (decide (0 ≤ d) && (decide (d ≤ 1048576) && (decide (l[i].frm ≤ d) && decide (d < l[i].to))))):=by
      unfold hasB
      rw [List.take_add_one,List.getElem?_eq_getElem ia,List.any_append]; simp
    have hall:hasB l d = (hasB (l.take (i + 1)) d || hasB (l.drop (i + 1)) d):=by
      unfold hasB
      rw [← List.any_append,List.take_append_drop]
    rw [hpre,Bool.false_or] at hst
    refine Zac ?_
    refine Zaj ?_
    refine VW_seqJ (σ:=Unit) [0,1,5,35] (fun _=>([(0,.sl 2 (l.map Sp.enc)),(1,pI d),(5,pI i),(35,.bool (decide (0 ≤ d) && (decide (d ≤ 1048576) && (decide (l[i].frm ≤ d) && decide (d < l[i].to)))))],⟨[],0⟩)) ?_ (fun _=>?_)
    · cases e1:decide (0 ≤ d) with
      | false =>
        simp only [Zab,Zad,Zbi,Zaf,pok,pval,VA.ev,Env.get,Env.put,Env.keep,Za1,isBool,intV,binV,Zah,Heap.le,HL.le,Nat.le_refl,Nat.succ_ne_self,Env.le,Nat.reduceEqDiff,Bool.false_eq_true,ite_true,ite_false,true_and,and_true,reduceCtorEq,e1]
        exact ⟨(),by first | trivial | rfl⟩
      | true =>
        cases e2:decide (d ≤ 1048576) with
        | false =>
          simp only [Zab,Zad,Za6,Zbi,Zaf,pok,pval,VA.ev,Env.get,Env.put,Env.keep,Za1,isBool,intV,binV,Zah,Heap.le,HL.le,Nat.le_refl,Nat.succ_ne_self,Env.le,Nat.reduceEqDiff,Bool.false_eq_true,ite_true,ite_false,true_and,and_true,reduceCtorEq,e1,e2]
          exact ⟨(),by first | trivial | rfl⟩
        | true =>
          cases e3:decide (l[i].frm ≤ d) with
          | false =>
            simp only [Zab,Zad,Za6,Zbi,Zaf,pok,pval,VA.ev,Env.get,Env.put,Env.keep,Za1,isBool,aggV,intV,binV,Zah,isInt,numOf,lenV,Zao,Zan,Zag,Zap,Zax,Zas,PV.nth,PV.row,Heap.le,HL.le,Nat.le_refl,Nat.succ_ne_self,Env.le,List.length,List.getD_cons_zero,List.take,List.drop,List.take_succ_cons,Nat.reduceEqDiff,Nat.reduceAdd,Nat.reduceLeDiff,Bool.false_eq_true,ite_true,ite_false,true_and,and_true,implies_true,reduceCtorEq,Nat.zero_add,List.length_cons,Int.toNat_natCast,e1,e2,e3,List.length_map,rowm ia,Sp.enc]
            repeat (with_reducible refine And.intro ?_ ?_; first | omega | (with_reducible constructor <;> omega) | exact False.elim | exact True.intro)
            exact ⟨(),by first | trivial | rfl⟩
          | true =>
            simp only [Zab,Zad,Za6,Zaf,pok,pval,VA.ev,Env.get,Env.put,Env.keep,Za1,isBool,aggV,intV,binV,Zah,isInt,numOf,lenV,Zao,Zan,Zag,Zap,Zax,Zas,PV.nth,PV.row,Heap.le,HL.le,Nat.le_refl,Nat.succ_ne_self,Env.le,List.length,List.getD_cons_zero,List.take,List.drop,List.take_succ_cons,Nat.reduceEqDiff,Nat.reduceAdd,Nat.reduceLeDiff,Bool.false_eq_true,ite_true,ite_false,true_and,and_true,implies_true,reduceCtorEq,Nat.zero_add,List.length_cons,Int.toNat_natCast,e1,e2,e3,List.length_map,rowm ia,Sp.enc]
            repeat (with_reducible refine And.intro ?_ ?_; first | omega | (with_reducible constructor <;> omega) | exact False.elim | exact True.intro)
            exact ⟨(),by first | trivial | rfl⟩
    refine Zai rfl (fun h2=>?_) (fun h2=>?_)
    · refine Zac (Zaa [4] ?_)
      simp only [Zab,Zad,Zaf,pok,pval,VA.ev,Env.get,Env.put,Env.keep,Zae,Nat.succ_ne_self,Nat.reduceEqDiff,ite_true,ite_false,true_and,reduceCtorEq]
      refine Zar ?_
      try simp only [Env.get,Zae,Zal,retQ,resV,Zau,RS.ev,RS.ok,ite_true,true_and,and_true]
      rw [hall,hst,h2]
      exact View.refl _ _
    refine Zak ?_
    try simp only [Zae,Zal]
    refine Zaa [0,1,5] ?_
    simp only [Zab,Zad,Zaf,pok,pval,VA.ev,Env.get,Env.put,Env.keep,Zae,intV,binV,Zah,Nat.le_refl,Nat.succ_ne_self,Nat.reduceEqDiff,ite_true,ite_false,true_and,reduceCtorEq,w64 (n:=(i:Int) + 1) (by omega) (by omega)]
    refine ⟨⟨i + 1,by omega,by rw [hst,h2]⟩,?_,?_⟩
    · rfl
    · simp only []; omega
  · simp only [decide_eq_false_iff_not] at h1
    refine Zaz ?_
    try simp only [Zae,Zal,retQ,ite_true]
    refine Zac (Zaa [4] ?_)
    simp only [Zab,Zad,Zaf,pok,pval,VA.ev,Env.get,Env.put,Env.keep,Zae,Nat.succ_ne_self,Nat.reduceEqDiff,ite_true,ite_false,true_and,reduceCtorEq]
    refine Zar ?_
    try simp only [Env.get,retQ,resV,Zau,RS.ev,RS.ok,ite_true,true_and,and_true]
    rw [List.take_of_length_le (by omega)] at hpre
    rw [hpre]
    exact View.refl _ _
theorem sp_pandectref02_put (l:List Int) (n:Int) (hl:l.length ≤ 1000000):Zbo Tryz.prog 162 [.sl 1 (l.map fun x=>[pI x]),pI n] (.sl 1 ((putR l n).map fun x=>[pI x])):=by
  refine Zam ?_ (Zcm _) (by simp only [Za0,List.mem_cons,List.not_mem_nil,or_false,forall_eq_or_imp,forall_eq,false_implies,implies_true]; repeat' (first  | exact cI _ | exact Zcm _ | exact Za7 (by simp only [List.mem_cons,List.not_mem_nil,or_false,forall_eq]; first | exact cI _ | exact cS _ | exact Zaw _) | refine And.intro ?_ ?_))
  refine Zaq (vc:=c_pandectref02_put) (ts:=[.t 4]) Go.Proofs.Tryz.func162 (by kernel_rfl) rfl rfl (Nat.le_of_ble_eq_true rfl) (by kernel_rfl) ?_
  unfold c_pandectref02_put
  try dsimp only [ZM,ZO,ZN,ZG]
  refine Zac (Zaa [0,1] ?_)
  simp only [Zab,Zad,Zaf,pok,pval,VA.ev,Env.get,Env.put,Env.keep,Za2,Zae,Heap.nil,Nat.succ_ne_self,Nat.reduceEqDiff,ite_true,ite_false,true_and,reduceCtorEq,Nat.zero_add]
  refine Zac (Zaa [0,1,5] ?_)
  simp only [Zab,Zad,Zaf,pok,pval,VA.ev,Env.get,Env.put,Env.keep,Zae,Nat.succ_ne_self,Nat.reduceEqDiff,ite_true,ite_false,true_and,reduceCtorEq]
  refine Zac ?_
  refine Zaj ?_
  refine Za4 (σ:={ i:Nat // i ≤ l.length ∧ ∀ (j:Nat) (hj:j < l.length),j < i → l[j] < n }) (fun s=>([(0,.sl 1 (l.map fun x=>[pI x])),(1,pI n),(5,pI s.1)],⟨[],0⟩)) (fun s=>l.length - s.1) ⟨0,by simp⟩ ?_ ?_ ?_
  · simp only [Env.get,Nat.succ_ne_self,Env.le,Nat.reduceEqDiff,ite_true,ite_false,true_and,and_true,reduceCtorEq]
    rfl
  · simp only [Heap.le,HL.le,Nat.le_refl,and_true]
  rintro ⟨i,hi,hpre⟩
  simp only []
  refine Zac ?_
  refine VW_seqJ (σ:=Unit) [0,1,5,17] (fun _=>([(0,.sl 1 (l.map fun x=>[pI x])),(1,pI n),(5,pI i),(17,.bool (decide (∃ h:i < l.length,l[i] < n)))],⟨[],0⟩)) ?_ (fun _=>?_)
  · by_cases ia:i < l.length
    · have e0:decide ((i:Int) < (l.length:Int)) = true:=by simpa using ia
      have e1:decide (∃ h:i < l.length,l[i] < n) = decide (l[i] < n):=by simp [ia]
      rw [e1]
      simp only [Zab,Zad,Za6,Zaf,pok,pval,VA.ev,Env.get,Env.put,Env.keep,Za1,isBool,aggV,intV,binV,Zah,isInt,numOf,lenV,Zag,Zap,Zax,Zas,Za8,PV.nth,PV.row,Heap.le,HL.le,Nat.le_refl,Nat.succ_ne_self,Env.le,List.length,List.getD_cons_zero,List.take,List.take_succ_cons,Nat.reduceEqDiff,Bool.false_eq_true,ite_true,ite_false,true_and,and_true,implies_true,reduceCtorEq,Nat.zero_add,List.length_cons,Int.toNat_natCast,List.length_map,e0,rowm ia]
      repeat (with_reducible refine And.intro ?_ ?_; first | omega | (with_reducible constructor <;> omega) | exact False.elim | exact True.intro)
      exact ⟨(),by first | trivial | rfl⟩
    · have e0:decide ((i:Int) < (l.length:Int)) = false:=by simp; omega
      have e1:decide (∃ h:i < l.length,l[i] < n) = false:=by simp [ia]
      rw [e1]
      simp only [Zab,Zad,Zbi,Zaf,pok,pval,VA.ev,Env.get,Env.put,Env.keep,Za1,isBool,intV,binV,Zah,lenV,Za8,Heap.le,HL.le,Nat.le_refl,Nat.succ_ne_self,Env.le,Nat.reduceEqDiff,Bool.false_eq_true,ite_true,ite_false,true_and,and_true,reduceCtorEq,List.length_map,e0]
      exact ⟨(),by first | trivial | rfl⟩
  refine Zai rfl (fun h1=>?_) (fun h1=>?_)
  · refine Zak ?_
    try simp only [Zae,Heap.le,HL.le,Env.le,and_true]
    simp only [decide_eq_true_eq] at h1
    obtain ⟨ia,hlt⟩:=h1
    refine Zaj ?_
    refine Zaa [0,1,5] ?_
    simp only [Zab,Zad,Zaf,pok,pval,VA.ev,Env.get,Env.put,Env.keep,Zae,Zal,intV,binV,Zah,Nat.le_refl,Nat.succ_ne_self,Nat.reduceEqDiff,ite_true,ite_false,true_and,reduceCtorEq,w64 (n:=(i:Int) + 1) (by omega) (by omega)]
    refine ⟨⟨i + 1,by omega,fun j hj hj'=>?_⟩,?_,?_⟩
    · rcases Nat.lt_or_eq_of_le (Nat.le_of_lt_succ hj') with h3 | rfl
      · exact hpre j hj h3
      · exact hlt
    · rfl
    · simp only []; omega
  · simp only [decide_eq_false_iff_not,not_exists] at h1
    have hp:=putR_at n l i hi hpre h1
    refine Zaz ?_
    try simp only [Zae,Zal,retQ,ite_true]
    refine Zac ?_
    refine VW_seqJ (σ:=Unit) [0,1,5,31] (fun _=>([(0,.sl 1 (l.map fun x=>[pI x])),(1,pI n),(5,pI i),(31,.bool (decide (l[i]? = some n)))],⟨[],0⟩)) ?_ (fun _=>?_)
    · by_cases ia:i < l.length
      · have e0:decide ((i:Int) < (l.length:Int)) = true:=by simpa using ia
        have e1:decide (l[i]? = some n) = (l[i] == n):=by rw [List.getElem?_eq_getElem ia,Bool.eq_iff_iff]; simp
        rw [e1]
        simp only [Zab,Zad,Za6,Zaf,pok,pval,VA.ev,Env.get,Env.put,Env.keep,Za1,isBool,aggV,intV,binV,Zah,isInt,numOf,lenV,Zag,Zap,Zax,Zas,Za8,PV.nth,PV.row,Heap.le,HL.le,Nat.le_refl,Nat.succ_ne_self,Env.le,List.length,List.getD_cons_zero,List.take,List.take_succ_cons,Nat.reduceEqDiff,Bool.false_eq_true,ite_true,ite_false,true_and,and_true,implies_true,reduceCtorEq,Nat.zero_add,List.length_cons,Int.toNat_natCast,List.length_map,e0,rowm ia]
        repeat (with_reducible refine And.intro ?_ ?_; first | omega | (with_reducible constructor <;> omega) | exact False.elim | exact True.intro)
        exact ⟨(),by first | trivial | rfl⟩
      · have e0:decide ((i:Int) < (l.length:Int)) = false:=by simp; omega
        have e1:decide (l[i]? = some n) = false:=by rw [List.getElem?_eq_none (by omega)]; simp
        rw [e1]
        simp only [Zab,Zad,Zbi,Zaf,pok,pval,VA.ev,Env.get,Env.put,Env.keep,Za1,isBool,intV,binV,Zah,lenV,Za8,Heap.le,HL.le,Nat.le_refl,Nat.succ_ne_self,Env.le,Nat.reduceEqDiff,Bool.false_eq_true,ite_true,ite_false,true_and,and_true,reduceCtorEq,List.length_map,e0]
        exact ⟨(),by first | trivial | rfl⟩
    refine Zai rfl (fun h2=>?_) (fun h2=>?_)
    · refine Zac (Zaa [4] ?_)
      simp only [Zab,Zad,Zaf,pok,pval,VA.ev,Env.get,Env.put,Env.keep,Zae,Nat.succ_ne_self,Nat.reduceEqDiff,ite_true,ite_false,true_and,reduceCtorEq]
      refine Zar ?_
      try simp only [Env.get,Zae,retQ,resV,Zau,RS.ev,RS.ok,ite_true,true_and,and_true]
      rw [hp,if_pos (by simpa using h2)]
      exact View.refl _ _
    refine Zak ?_
    try simp only [Zae]
    rw [if_neg (by simpa using h2)] at hp
    have a1:(List.take i (l.map fun x=>[pI x])).length = i:=by simp; omega
    have a2:List.take i (List.take i (l.map fun x=>[pI x])) = List.take i (l.map fun x=>[pI x]):=by rw [List.take_take,Nat.min_self]
    have a3:(List.take i (l.map fun x=>[pI x]) ++ [[pI n]]).length = i + 1:=by simp; omega
    have a4:List.take (i + 1) (List.take i (l.map fun x=>[pI x]) ++ [[pI n]]) = List.take i (l.map fun x=>[pI x]) ++ [[pI n]]:=List.take_of_length_le (by omega)
    have a5:List.take (l.length - i) (List.drop i (l.map fun x=>[pI x])) = List.drop i (l.map fun x=>[pI x]):=List.take_of_length_le (by simp)
    have a6:(List.drop i (l.map fun x=>[pI x])).length = l.length - i:=by simp
    refine Zac (VW_draw2E 100 [4] (by simp) ?_)
    simp only [Zaf,Zbb,Zbu,QW,dok,dval,VOp.pure,VOp.simple,VOp.det,pok,pval,VA.ev,Env.get,Env.put,Env.keep,Zae,gd,numOf,loV,hiV,lenV,Zc9,sliceV,sliceOk,PV.cells,PV.fits,Heap.get,Heap.del,Heap.le,HL.get,HL.del,HL.le,Heap.push,Nat.le_refl,Nat.succ_ne_self,Zbq,Zc8,Zbk,Zda,Zbc,Zcw,Zbj,Zbf,fxV,fxOk,List.map,List.set,List.replicate,List.length,List.take,List.drop,List.drop_zero,List.nil_append,Option.map,Nat.reduceEqDiff,Nat.reduceAdd,Nat.reduceLT,Nat.reduceLeDiff,ite_true,ite_false,true_and,and_true,implies_true,forall_const,reduceCtorEq,BEq.rfl,Nat.zero_add,Nat.add_zero,List.length_cons,List.length_nil,Int.toNat_natCast,List.length_map,Nat.sub_zero,a1,a2,a3,a4,a5,a6]
    repeat (with_reducible refine And.intro ?_ ?_; first | omega | (with_reducible constructor <;> omega) | exact False.elim | exact True.intro)
    refine Zar ?_
    try simp only [Env.get,retQ,resV,Zau,RS.ev,RS.ok,ite_true,true_and,and_true]
    rw [hp,List.map_append,List.map_cons,List.map_take,List.map_drop]
    exact View.own_all (fz:=false) (by simp [Heap.get,HL.get]) (by simp; omega)
theorem sp_pandectref02_Points (l:List Sp) (hl:l.length ≤ 100000):Zbo Tryz.prog 151 [.sl 2 (l.map Sp.enc)] (.sl 1 ((Zb7 l).map fun x=>[pI x])):=by
  refine Zam ?_ (Zcm _) (by simp only [Za0,List.mem_cons,List.not_mem_nil,or_false,forall_eq_or_imp,forall_eq,false_implies,implies_true]; repeat' (first  | exact cI _ | exact Zcm _ | exact Zav _ | exact Za7 (by simp only [List.mem_cons,List.not_mem_nil,or_false,forall_eq]; first | exact cI _ | exact cS _ | exact Zaw _) | refine And.intro ?_ ?_))
  refine Zaq (vc:=c_pandectref02_Points) (ts:=[.t 2]) Go.Proofs.Tryz.func151 (by kernel_rfl) rfl rfl (Nat.le_of_ble_eq_true rfl) (by kernel_rfl) ?_
  unfold c_pandectref02_Points
  try dsimp only [ZM,ZO,ZN,ZG]
  refine Zac (Zaa [0] ?_)
  simp only [Zab,Zad,Zaf,pok,pval,VA.ev,Env.get,Env.put,Env.keep,Za2,Zae,Heap.nil,ite_true,ite_false,true_and,reduceCtorEq]
  refine Zac (Zaa [0,3] ?_)
  simp only [Zab,Zad,Zaf,pok,pval,VA.ev,Env.get,Env.put,Env.keep,Zae,PV.cells,PV.fits,Heap.push,Zbj,Zbf,List.set,List.replicate,Nat.reduceEqDiff,Nat.reduceLT,ite_true,ite_false,true_and,and_true,reduceCtorEq,BEq.rfl,Nat.zero_add]
  refine VW_freeze [(0,.sl 2 (l.map Sp.enc)),(3,.sl 1 (([0]:List Int).map fun x=>[pI x]))] ⟨View.refl _ _,View.own_all (fz:=false) rfl rfl,trivial⟩ ?_
  try simp only [List.map]
  refine Zac ?_
  refine Zac (Zaa [0,3,4] ?_)
  simp only [Zab,Zad,Zaf,pok,pval,VA.ev,Env.get,Env.put,Env.keep,Zae,Nat.succ_ne_self,Nat.reduceEqDiff,ite_true,ite_false,true_and,reduceCtorEq]
  refine Zaj ?_
  refine Za4 (σ:={ i:Nat // i ≤ l.length }) (fun s=>([(0,.sl 2 (l.map Sp.enc)),(3,.sl 1 (((l.take s.1).foldl Zb4 [0]).map fun x=>[pI x])),(4,pI s.1)],⟨[],1⟩)) (fun s=>l.length - s.1) ⟨0,by simp⟩ ?_ ?_ ?_
  · simp only [Env.get,Nat.succ_ne_self,Env.le,List.take,Nat.reduceEqDiff,ite_true,ite_false,true_and,and_true,reduceCtorEq]
    exact ⟨rfl,rfl⟩
  · simp only [Heap.le,HL.le,Nat.le_refl,and_true]
  rintro ⟨i,hi⟩
  simp only []
  refine Zac ?_
  refine Zac (Zaa [0,3,4,9] ?_)
  simp only [Zab,Zad,Zaf,pok,pval,VA.ev,Env.get,Env.put,Env.keep,Zae,intV,binV,Zah,lenV,Za8,Heap.le,HL.le,Nat.succ_ne_self,Env.le,Nat.reduceEqDiff,ite_true,ite_false,true_and,and_true,reduceCtorEq,List.length_map]
  refine Zai rfl (fun h1=>?_) (fun h1=>?_)
  · refine Zak ?_
    try simp only [Zae]
    simp only [decide_eq_true_eq] at h1
    have ia:i < l.length:=by omega
    have hst:(l.take (i + 1)).foldl Zb4 [0] = Zb4 ((l.take i).foldl Zb4 [0]) l[i]:=by
      rw [List.take_add_one,List.getElem?_eq_getElem ia,List.foldl_append]; rfl
    have hln:=points_len (l.take i) [0]
    generalize (l.take i).foldl Zb4 [0] = A at hst hln ⊢
    have hlA:A.length ≤ 200001:=by simp at hln; omega
    have hlB:=putIf_len A l[i].frm
    refine Zac ?_
    refine Zaj ?_
    refine Zac ?_
    refine VW_seqJ (σ:=Unit) [0,3,4,25] (fun _=>([(0,.sl 2 (l.map Sp.enc)),(3,.sl 1 (A.map fun x=>[pI x])),(4,pI i),(25,.bool (inB l[i].frm))],⟨[],1⟩)) ?_ (fun _=>?_)
    · unfold inB
      cases e1:decide (0 < l[i].frm) with
      | false =>
        simp only [Zab,Zad,Zbi,Zaf,pok,pval,VA.ev,Env.get,Env.put,Env.keep,Za1,isBool,aggV,intV,binV,Zah,isInt,numOf,lenV,Zao,Zan,Zag,Zap,Zax,Zas,PV.nth,PV.row,Heap.le,HL.le,Nat.le_refl,Nat.succ_ne_self,Env.le,List.length,List.getD_cons_zero,List.take,List.drop,List.take_succ_cons,Nat.reduceEqDiff,Nat.reduceAdd,Nat.reduceLeDiff,Bool.false_eq_true,ite_true,ite_false,true_and,and_true,implies_true,reduceCtorEq,Nat.zero_add,List.length_cons,Int.toNat_natCast,List.length_map,rowm ia,Sp.enc,e1]
        repeat (with_reducible refine And.intro ?_ ?_; first | omega | (with_reducible constructor <;> omega) | exact False.elim | exact True.intro)
        exact ⟨(),by first | trivial | rfl⟩
      | true =>
        simp only [Zab,Zad,Za6,Zaf,pok,pval,VA.ev,Env.get,Env.put,Env.keep,Za1,isBool,aggV,intV,binV,Zah,isInt,numOf,lenV,Zao,Zan,Zag,Zap,Zax,Zas,PV.nth,PV.row,Heap.le,HL.le,Nat.le_refl,Nat.succ_ne_self,Env.le,List.length,List.getD_cons_zero,List.take,List.drop,List.take_succ_cons,Nat.reduceEqDiff,Nat.reduceAdd,Nat.reduceLeDiff,Bool.false_eq_true,ite_true,ite_false,true_and,and_true,implies_true,reduceCtorEq,Nat.zero_add,List.length_cons,Int.toNat_natCast,List.length_map,rowm ia,Sp.enc,e1]
        repeat (with_reducible refine And.intro ?_ ?_; first | omega | (with_reducible constructor <;> omega) | exact False.elim | exact True.intro)
        exact ⟨(),by first | trivial | rfl⟩
    refine VW_mid (σ:=Unit) (fun _=>([(0,.sl 2 (l.map Sp.enc)),(3,.sl 1 ((putIf A l[i].frm).map fun x=>[pI x])),(4,pI i)],⟨[],1⟩)) ?_ (fun _=>?_)
    · refine Zai rfl (fun h2=>?_) (fun h2=>?_)
      · refine Zaa [0,3,4] ?_
        simp only [midQ,Zab,Zad,Zaf,pok,pval,VA.ev,Env.get,Env.put,Env.keep,aggV,isInt,numOf,lenV,Zao,Zan,Zag,Zap,Zax,Zas,PV.nth,PV.row,Heap.le,HL.le,Nat.succ_ne_self,Env.le,List.map,List.length,List.getD_cons_zero,List.take,List.drop,List.take_succ_cons,Nat.reduceEqDiff,Nat.reduceAdd,Nat.reduceLeDiff,Bool.false_eq_true,ite_true,ite_false,true_and,and_true,implies_true,reduceCtorEq,Nat.zero_add,List.length_cons,Int.toNat_natCast,List.length_map,rowm ia,Sp.enc]
        repeat (with_reducible refine And.intro ?_ ?_; first | omega | (with_reducible constructor <;> omega) | exact False.elim | exact True.intro)
        refine Zat (sp_pandectref02_put A l[i].frm (by omega)) ?_
        try simp only [Nat.le_refl,and_true]
        simp only [putIf,h2,if_true]
        exact ⟨(),by first | trivial | rfl⟩
      · refine Zak ?_
        try simp only [midQ,Env.get,Heap.le,HL.le,Nat.le_refl,Nat.succ_ne_self,Env.le,Nat.reduceEqDiff,ite_true,ite_false,true_and,and_true,reduceCtorEq]
        simp only [putIf,h2,Bool.false_eq_true,if_false]
        exact ⟨(),by first | trivial | rfl⟩
    refine VW_seqJ (σ:=Unit) [0,3,4,46] (fun _=>([(0,.sl 2 (l.map Sp.enc)),(3,.sl 1 ((putIf A l[i].frm).map fun x=>[pI x])),(4,pI i),(46,.bool (inB l[i].to))],⟨[],1⟩)) ?_ (fun _=>?_)
    · unfold inB
      cases e1:decide (0 < l[i].to) with
      | false =>
        simp only [Zab,Zad,Zbi,Zaf,pok,pval,VA.ev,Env.get,Env.put,Env.keep,Za1,isBool,aggV,intV,binV,Zah,isInt,numOf,lenV,Zao,Zan,Zag,Zap,Zax,Zas,PV.nth,PV.row,Heap.le,HL.le,Nat.le_refl,Nat.succ_ne_self,Env.le,List.length,List.getD_cons_zero,List.take,List.drop,List.take_succ_cons,Nat.reduceEqDiff,Bool.false_eq_true,ite_true,ite_false,true_and,and_true,implies_true,reduceCtorEq,Nat.zero_add,List.length_cons,Int.toNat_natCast,List.length_map,rowm ia,Sp.enc,e1]
        repeat (with_reducible refine And.intro ?_ ?_; first | omega | (with_reducible constructor <;> omega) | exact False.elim | exact True.intro)
        exact ⟨(),by first | trivial | rfl⟩
      | true =>
        simp only [Zab,Zad,Za6,Zaf,pok,pval,VA.ev,Env.get,Env.put,Env.keep,Za1,isBool,aggV,intV,binV,Zah,isInt,numOf,lenV,Zao,Zan,Zag,Zap,Zax,Zas,PV.nth,PV.row,Heap.le,HL.le,Nat.le_refl,Nat.succ_ne_self,Env.le,List.length,List.getD_cons_zero,List.take,List.drop,List.take_succ_cons,Nat.reduceEqDiff,Bool.false_eq_true,ite_true,ite_false,true_and,and_true,implies_true,reduceCtorEq,Nat.zero_add,List.length_cons,Int.toNat_natCast,List.length_map,rowm ia,Sp.enc,e1]
        repeat (with_reducible refine And.intro ?_ ?_; first | omega | (with_reducible constructor <;> omega) | exact False.elim | exact True.intro)
        exact ⟨(),by first | trivial | rfl⟩
    refine Zai rfl (fun h3=>?_) (fun h3=>?_)
    · refine Zaa [0,3,4] ?_
      simp only [Zab,Zad,Zaf,pok,pval,VA.ev,Env.get,Env.put,Env.keep,Zae,Zal,aggV,isInt,numOf,lenV,Zao,Zan,Zag,Zap,Zax,Zas,PV.nth,PV.row,Nat.le_refl,Nat.succ_ne_self,List.map,List.length,List.getD_cons_zero,List.take,List.drop,List.take_succ_cons,Nat.reduceEqDiff,Bool.false_eq_true,ite_true,ite_false,true_and,and_true,implies_true,reduceCtorEq,Nat.zero_add,List.length_cons,Int.toNat_natCast,List.length_map,rowm ia,Sp.enc]
      repeat (with_reducible refine And.intro ?_ ?_; first | omega | (with_reducible constructor <;> omega) | exact False.elim | exact True.intro)
      refine Zat (sp_pandectref02_put (putIf A l[i].frm) l[i].to (by omega)) ?_
      skip
      refine Zaa [0,3,4] ?_
      simp only [Zab,Zad,Zaf,pok,pval,VA.ev,Env.get,Env.put,Env.keep,Zae,intV,binV,Zah,Nat.le_refl,Nat.succ_ne_self,Nat.reduceEqDiff,ite_true,ite_false,true_and,reduceCtorEq,w64 (n:=(i:Int) + 1) (by omega) (by omega)]
      refine ⟨⟨i + 1,by omega⟩,?_,?_⟩
      · rw [hst,Zb4]; simp [putIf,h3]
      · simp only []; omega
    · refine Zak ?_
      try simp only [Zae,Zal]
      refine Zaa [0,3,4] ?_
      simp only [Zab,Zad,Zaf,pok,pval,VA.ev,Env.get,Env.put,Env.keep,Zae,intV,binV,Zah,Nat.le_refl,Nat.succ_ne_self,Nat.reduceEqDiff,ite_true,ite_false,true_and,reduceCtorEq,w64 (n:=(i:Int) + 1) (by omega) (by omega)]
      refine ⟨⟨i + 1,by omega⟩,?_,?_⟩
      · rw [hst,Zb4]; simp [putIf,h3]
      · simp only []; omega
  · simp only [decide_eq_false_iff_not] at h1
    refine Zaz ?_
    try simp only [Zae,Zal,retQ,ite_true]
    refine Zac (Zaa [2] ?_)
    simp only [Zab,Zad,Zaf,pok,pval,VA.ev,Env.get,Env.put,Env.keep,Zae,Nat.succ_ne_self,Nat.reduceEqDiff,ite_true,ite_false,true_and,reduceCtorEq]
    refine Zar ?_
    try simp only [Env.get,retQ,resV,Zau,RS.ev,RS.ok,ite_true,true_and,and_true]
    rw [List.take_of_length_le (by omega)]
    exact View.refl _ _
def ctOf (how:Int):Bool → Bool → Bool:=if how = 0 then ctOr else if how = 1 then ctAnd else fun x y=>x && !y
theorem sp_pandectref02_counts (how:Int) (a b:List Sp) (d:Int) (ha:a.length ≤ 4611686018427387904) (hb:b.length ≤ 4611686018427387904):Zbo Tryz.prog 152 [pI how,.sl 2 (a.map Sp.enc),.sl 2 (b.map Sp.enc),pI d] (.bool (ctR (ctOf how) a b d)):=by
  refine Zam ?_ (cB _) (by simp only [Za0,List.mem_cons,List.not_mem_nil,or_false,forall_eq_or_imp,forall_eq,false_implies,implies_true]; repeat' (first  | exact cI _ | exact cB _ | exact Zav _ | exact Za7 (by simp only [List.mem_cons,List.not_mem_nil,or_false,forall_eq]; first | exact cI _ | exact cS _ | exact Zaw _) | refine And.intro ?_ ?_))
  refine Zaq (vc:=c_pandectref02_counts) (ts:=[.t 8]) Go.Proofs.Tryz.func152 (by kernel_rfl) rfl rfl (Nat.le_of_ble_eq_true rfl) (by kernel_rfl) ?_
  unfold c_pandectref02_counts
  try dsimp only [ZM,ZO,ZN,ZG]
  refine Zac (Zaa [0,1,2,3] ?_)
  simp only [Zab,Zad,Zaf,pok,pval,VA.ev,Env.get,Env.put,Env.keep,Za2,Zae,Heap.nil,Nat.succ_ne_self,Nat.reduceEqDiff,Nat.reduceAdd,ite_true,ite_false,true_and,reduceCtorEq,Nat.zero_add]
  refine Zac (Zaa [0,9,10] ?_)
  simp only [Zab,Zad,Zaf,pok,pval,VA.ev,Env.get,Env.put,Env.keep,Zae,Nat.succ_ne_self,List.map,Nat.reduceEqDiff,ite_true,ite_false,true_and,reduceCtorEq]
  refine Zat (sp_pandectref02_Has a d ha) ?_
  skip
  refine Zat (sp_pandectref02_Has b d hb) ?_
  skip
  unfold ctR
  generalize hasB a d = x
  generalize hasB b d = y
  refine Zac ?_
  refine Zac (Zaa [9,10,17] ?_)
  simp only [Zab,Zad,Zaf,pok,pval,VA.ev,Env.get,Env.put,Env.keep,Zae,Nat.succ_ne_self,Nat.reduceEqDiff,ite_true,ite_false,true_and,reduceCtorEq]
  refine Zaj ?_
  refine Zac (Zaa [9,10,17,18] ?_)
  simp only [Zab,Zad,Zaf,pok,pval,VA.ev,Env.get,Env.put,Env.keep,Zae,intV,binV,Zah,Nat.succ_ne_self,Nat.reduceEqDiff,ite_true,ite_false,true_and]
  refine Zai rfl (fun h1=>?_) (fun h1=>?_)
  · have e:ctOf how = ctOr:=if_pos (by simpa using h1)
    rw [e]
    refine Zac (Zaa [8] ?_)
    cases x <;>
    · simp only [Zab,Zad,Za6,Zbz,Zaf,pok,pval,VA.ev,Env.get,Env.put,Env.keep,Zae,Za1,isBool,Nat.succ_ne_self,Nat.reduceEqDiff,Bool.false_eq_true,ite_true,ite_false,true_and]
      refine Zar ?_
      try simp only [Env.get,Zae,Zal,retQ,resV,Zau,RS.ev,RS.ok,ite_true,true_and,and_true]
      exact View.refl _ _
  refine Zac (Zaa [9,10,24] ?_)
  simp only [Zab,Zad,Zaf,pok,pval,VA.ev,Env.get,Env.put,Env.keep,Zae,intV,binV,Zah,Nat.succ_ne_self,Nat.reduceEqDiff,ite_true,ite_false,true_and]
  refine Zai rfl (fun h2=>?_) (fun h2=>?_)
  · have e:ctOf how = ctAnd:=by unfold ctOf; rw [if_neg (by simpa using h1),if_pos (by simpa using h2)]
    rw [e]
    refine Zac (Zaa [8] ?_)
    cases x <;>
    · simp only [Zab,Zad,Za6,Zbi,Zaf,pok,pval,VA.ev,Env.get,Env.put,Env.keep,Zae,Za1,isBool,Nat.succ_ne_self,Nat.reduceEqDiff,Bool.false_eq_true,ite_true,ite_false,true_and]
      refine Zar ?_
      try simp only [Env.get,Zae,Zal,retQ,resV,Zau,RS.ev,RS.ok,ite_true,true_and,and_true]
      exact View.refl _ _
  refine Zak ?_
  try simp only [Zae,Zal]
  have e:ctOf how = fun x y=>x && !y:=by unfold ctOf; rw [if_neg (by simpa using h1),if_neg (by simpa using h2)]
  rw [e]
  refine Zac (Zaa [8] ?_)
  cases x <;>
  · simp only [Zab,Zad,Za6,Zbi,Zaf,pok,pval,VA.ev,Env.get,Env.put,Env.keep,Zae,Za1,isBool,unV,unOk,Nat.succ_ne_self,Nat.reduceEqDiff,Bool.false_eq_true,ite_true,ite_false,true_and]
    refine Zar ?_
    try simp only [Env.get,retQ,resV,Zau,RS.ev,RS.ok,ite_true,true_and,and_true]
    exact View.refl _ _
end Go.Proofs.YtehokmhebnkfdaaGreat.c
namespace Go.Proofs.YtehokmhebnkfdaaGreat.c
open Go Go.VM
set_option maxRecDepth 20000
set_option maxHeartbeats 0
set_option pp.deepTerms false
def cutsR (a b:List Sp):List Int:=Zb7 (a ++ b) ++ [Zbv]
def accJ (ct:Bool → Bool → Bool) (a b:List Sp) (i:Nat):List Sp:=(segs (ctR ct a b) ((cutsR a b).take (i + 1))).foldl mergeJ []
theorem accJ_zero (ct:Bool → Bool → Bool) (a b:List Sp):accJ ct a b 0 = []:=by
  unfold accJ
  cases cutsR a b with
  | nil=>rfl
  | cons x r=>simp [segs]
theorem accJ_step (ct:Bool → Bool → Bool) (a b:List Sp) (i:Nat) (h:i + 1 < (cutsR a b).length):accJ ct a b (i + 1) = if ctR ct a b (cutsR a b)[i] then mergeJ (accJ ct a b i) ⟨(cutsR a b)[i],(cutsR a b)[i + 1]⟩ else accJ ct a b i:=by
  unfold accJ
  rw [segs_take _ _ _ h,List.foldl_append]
  split <;> rfl
theorem accJ_end (ct:Bool → Bool → Bool) (a b:List Sp) (i:Nat) (h:(cutsR a b).length ≤ i + 1):(accJ ct a b i).reverse = bothR ct a b:=by
  unfold accJ bothR
  rw [List.take_of_length_le h]; rfl
theorem mergeJ_len (acc:List Sp) (x:Sp):(mergeJ acc x).length ≤ acc.length + 1:=by
  cases acc with
  | nil=>simp [mergeJ]
  | cons s r=>simp only [mergeJ]; split <;> simp
theorem accJ_len (ct:Bool → Bool → Bool) (a b:List Sp) (i:Nat):i + 1 ≤ (cutsR a b).length → (accJ ct a b i).length ≤ i:=by
  induction i with
  | zero=>intro _; rw [accJ_zero]; simp
  | succ i ih =>
    intro h
    have:=ih (by omega)
    rw [accJ_step _ _ _ _ (by omega)]
    split
    · exact Nat.le_trans (mergeJ_len _ _) (by omega)
    · omega
def c_pandectref02_Both:VC:=(.seq (.region [ZO 6 (.mv (.c .nilsl))] false) (.seq (.region [ZO 12 (.fx (.mk0 2) []),ZM 13 1,ZO 14 (.app 2 16 [(.int .i64 0),(.int .i64 0)] false (.t 12) (.t 13)),ZM 15 2,ZO 16 (.app 2 16 [(.int .i64 0),(.int .i64 0)] false (.t 14) (.t 15)),ZO 17 (.call 151 [(.t 16)]),ZM 7 17] false) (.seq (.region [ZO 18 (.fx (.mk0 2) []),ZM 8 18] false) (.seq (.seq (.region [ZO 9 (.mv (.c (.int .i64 0)))] false) (.block 0 (.loop (.seq (.seq (.region [ZM 19 9,ZM 20 7,ZO 21 (.len false (.t 20)),ZO 22 (.bin .lss (.t 19) (.t 21))] false) (.cond (.t 22) .skip (.exit 0))) (.seq (.block 1 (.seq (.region [ZO 10 (.mv (.c (.int .i64 1048577)))] false) (.seq (.seq (.region [ZM 25 9,ZO 26 (.bin .add (.t 25) (.c (.int .i64 1))),ZM 27 7,ZO 28 (.len false (.t 27)),ZO 29 (.bin .lss (.t 26) (.t 28))] false) (.cond (.t 29) (.region [ZM 30 7,ZM 31 9,ZO 32 (.bin .add (.t 31) (.c (.int .i64 1))),ZO 33 (.iaddr 1 (.t 30) (.t 32)),ZO 34 (.load false 1 (.t 33)),ZM 10 34] false) .skip)) (.seq (.seq (.region [ZM 35 0,ZM 36 1,ZM 37 2,ZM 38 7,ZM 39 9,ZO 40 (.iaddr 1 (.t 38) (.t 39)),ZO 41 (.load false 1 (.t 40)),ZO 42 (.call 152 [(.t 35),(.t 36),(.t 37),(.t 41)]),ZO 43 (.un .not (.t 42))] false) (.cond (.t 43) (.exit 1) .skip)) (.seq (.region [ZM 44 8,ZO 45 (.len false (.t 44)),ZM 11 45] false) (.seq (.region [ZM 46 11,ZO 47 (.bin .gtr (.t 46) (.c (.int .i64 0))),ZM 48 47,ZG 49 (.mv (.t 8)) 48 true,ZG 50 (.mv (.t 11)) 48 true,ZG 51 (.bin .sub (.t 50) (.c (.int .i64 1))) 48 true,ZG 52 (.iaddr 2 (.t 49) (.t 51)) 48 true,ZG 53 (.faddr 1 (.t 52)) 48 true,ZG 54 (.load false 1 (.t 53)) 48 true,ZG 55 (.mv (.t 7)) 48 true,ZG 56 (.mv (.t 9)) 48 true,ZG 57 (.iaddr 1 (.t 55) (.t 56)) 48 true,ZG 58 (.load false 1 (.t 57)) 48 true,ZG 59 (.bin .eql (.t 54) (.t 58)) 48 true,ZO 60 (.pick (.t 48) (.t 59) (.c (.bool false)))] true) (.cond (.t 60) (.region [ZM 61 8,ZM 62 11,ZO 63 (.bin .sub (.t 62) (.c (.int .i64 1))),ZM 64 10,ZO 65 (.iaddr 2 (.t 61) (.t 63)),ZO 66 (.faddr 1 (.t 65)),ZN (.store 1 (.t 66) (.t 64))] false) (.region [ZM 67 8,ZM 68 7,ZM 69 9,ZO 70 (.iaddr 1 (.t 68) (.t 69)),ZO 71 (.load false 1 (.t 70)),ZM 72 10,ZO 73 (.build [(.int .i64 0),(.int .i64 0)] [(0,(1,(.t 71))),(1,(1,(.t 72)))]),ZO 74 (.bslice 2 1 [(.int .i64 0),(.int .i64 0)] [(0,(.t 73))]),ZO 75 (.app 2 16 [(.int .i64 0),(.int .i64 0)] false (.t 67) (.t 74)),ZM 8 75] false)))))))) (.region [ZM 23 9,ZO 24 (.bin .add (.t 23) (.c (.int .i64 1))),ZM 9 24] false)))))) (.seq (.region [ZM 76 8,ZM 6 76] false) .ret)))))
def c_pandectref02_Of:VC:=(.seq (.region [ZO 2 (.mv (.c .nilsl))] false) (.seq (.region [ZM 3 0,ZO 4 (.call 125 [(.c (.int .i64 0)),(.t 3),(.c .nilsl)]),ZM 2 4] false) .ret))
def c_pandectref02_Until:VC:=(.seq (.region [ZO 4 (.mv (.c .nilsl))] false) (.seq (.region [ZM 5 0,ZM 6 1,ZO 7 (.build [(.int .i64 0),(.int .i64 0)] [(0,(1,(.c (.int .i64 0)))),(1,(1,(.t 6)))]),ZO 8 (.bslice 2 1 [(.int .i64 0),(.int .i64 0)] [(0,(.t 7))]),ZO 9 (.call 125 [(.c (.int .i64 1)),(.t 5),(.t 8)]),ZM 4 9] false) .ret))
def c_pandectref02_Since:VC:=(.seq (.region [ZO 4 (.mv (.c .nilsl))] false) (.seq (.region [ZM 5 0,ZM 6 1,ZO 7 (.call 93 [(.t 5),(.t 6)]),ZM 8 1,ZO 9 (.build [(.int .i64 0),(.int .i64 0)] [(0,(1,(.t 8))),(1,(1,(.c (.int .i64 1048577))))]),ZO 10 (.bslice 2 1 [(.int .i64 0),(.int .i64 0)] [(0,(.t 9))]),ZO 11 (.call 125 [(.c (.int .i64 0)),(.t 7),(.t 10)]),ZM 4 11] false) .ret))
theorem Zdt (how:Int) (a b:List Sp) (ha:a.length ≤ 10000) (hb:b.length ≤ 10000):Zbo Tryz.prog 125 [pI how,.sl 2 (a.map Sp.enc),.sl 2 (b.map Sp.enc)] (.sl 2 ((bothR (ctOf how) a b).map Sp.enc)):=by
  have hpl:=points_len (a ++ b) [0]
  have hpts:(Zb7 (a ++ b)).length ≤ 40001:=by
    unfold Zb7
    simp at hpl ⊢; omega
  refine Zam ?_ (Zav _) (by simp only [Za0,List.mem_cons,List.not_mem_nil,or_false,forall_eq_or_imp,forall_eq,false_implies,implies_true]; repeat' (first  | exact cI _ | exact Zav _ | exact Za7 (by simp only [List.mem_cons,List.not_mem_nil,or_false,forall_eq]; first | exact cI _ | exact cS _ | exact Zaw _) | refine And.intro ?_ ?_))
  refine Zaq (vc:=c_pandectref02_Both) (ts:=[.t 6]) Go.Proofs.Tryz.func125 (by kernel_rfl) rfl rfl (Nat.le_of_ble_eq_true rfl) (by kernel_rfl) ?_
  unfold c_pandectref02_Both
  try dsimp only [ZM,ZO,ZN,ZG]
  refine Zac (Zaa [0,1,2] ?_)
  simp only [Zab,Zad,Zaf,pok,pval,VA.ev,Env.get,Env.put,Env.keep,Za2,Zae,Heap.nil,Nat.succ_ne_self,Nat.reduceEqDiff,Nat.reduceAdd,ite_true,ite_false,true_and,reduceCtorEq,Nat.zero_add]
  refine Zac (Zaa [0,1,2,7] ?_)
  simp only [Zab,Zad,Zaf,pok,pval,VA.ev,Env.get,Env.put,Env.keep,Zae,Heap.get,Heap.del,HL.get,HL.del,Heap.push,Nat.le_refl,Nat.succ_ne_self,Zbq,Zc8,Zbk,Zda,Zbc,Zcw,fxV,fxOk,List.map,List.length,List.take,List.drop,List.nil_append,Nat.reduceEqDiff,Nat.reduceAdd,ite_true,ite_false,true_and,and_true,reduceCtorEq,Nat.zero_add,Nat.add_zero,List.length_nil,List.length_map,List.nil_append]
  have a2:List.take a.length (a.map Sp.enc) = a.map Sp.enc:=List.take_of_length_le (by simp)
  try simp only [List.length_map,a2]
  refine ⟨by omega,by omega,by omega,by omega,?_⟩
  refine ACall_f [.sl 2 ((a ++ b).map Sp.enc)] ⟨?_,trivial⟩ (Zat (sp_pandectref02_Points (a ++ b) (by simp; omega)) ?_)
  · rw [List.map_append]
    exact View.own_all (fz:=false) rfl (by simp)
  try simp only []
  refine Zac (Zaa [0,1,2,7,8] ?_)
  simp only [Zab,Zad,Zaf,pok,pval,VA.ev,Env.get,Env.put,Env.keep,Zae,Heap.push,Nat.succ_ne_self,fxV,fxOk,List.map,Nat.reduceEqDiff,Nat.reduceAdd,ite_true,ite_false,true_and,reduceCtorEq]
  refine Zac ?_
  refine Zac (Zaa [0,1,2,7,8,9] ?_)
  simp only [Zab,Zad,Zaf,pok,pval,VA.ev,Env.get,Env.put,Env.keep,Zae,Nat.succ_ne_self,Nat.reduceEqDiff,ite_true,ite_false,true_and,reduceCtorEq]
  refine Zaj ?_
  have hC:(cutsR a b).length = (Zb7 (a ++ b)).length + 1:=by simp [cutsR]
  refine Za4 (σ:={ s:Nat × Nat × Nat // s.1 ≤ (Zb7 (a ++ b)).length ∧ s.2.1 < s.2.2 })
    (fun s=>([(0,pI how),(1,.sl 2 (a.map Sp.enc)),(2,.sl 2 (b.map Sp.enc)),(7,.sl 1 ((Zb7 (a ++ b)).map fun x=>[pI x])),(8,.own s.1.2.1 0 (accJ (ctOf how) a b s.1.1).length),(9,pI s.1.1)],
      ⟨[(s.1.2.1,.arr false 2 ((accJ (ctOf how) a b s.1.1).reverse.map Sp.enc))],s.1.2.2⟩)) (fun s=>(Zb7 (a ++ b)).length - s.1.1) ⟨(0,3,4),by simp⟩ ?_ ?_ ?_
  · simp only [Env.get,Nat.succ_ne_self,Env.le,Nat.reduceEqDiff,ite_true,ite_false,true_and,and_true,reduceCtorEq,List.length_nil,accJ_zero]
    rfl
  · simp only [Heap.get,Heap.le,HL.get,HL.le,Nat.le_refl,ite_true,true_and,and_true,Option.some.injEq,accJ_zero]
    try rfl
  rintro ⟨⟨i,id,n⟩,hi,hn⟩
  simp only [] at hi hn ⊢
  have qi0:(id = n) = False:=by simp; omega
  have qi1:(n = id) = False:=by simp; omega
  have qi2:∀ j,(n + j = id) = False:=fun j=>by simp; try omega
  have qi3:∀ j,(id = n + j) = False:=fun j=>by simp; try omega
  have qi4:∀ j,(n + (j + 1) = n) = False:=fun j=>by simp; try omega
  have qi5:∀ j,(n = n + (j + 1)) = False:=fun j=>by simp; try omega
  have qi6:(n + 1 + 1 = n) = False:=by simp; try omega
  have qi7:(n = n + 1 + 1) = False:=by simp; try omega
  have qi8:(n + 1 + 1 + 1 = n) = False:=by simp; try omega
  have qi9:(n = n + 1 + 1 + 1) = False:=by simp; try omega
  refine Zac ?_
  refine Zac (Zaa [0,1,2,7,8,9,22] ?_)
  simp only [Zab,Zad,Zaf,pok,pval,VA.ev,Env.get,Env.put,Env.keep,Zae,intV,binV,Zah,lenV,Za8,Heap.get,Heap.le,HL.le,Nat.succ_ne_self,Env.le,Nat.reduceEqDiff,ite_true,ite_false,true_and,and_true,reduceCtorEq,List.length_map]
  refine Zai rfl (fun h1=>?_) (fun h1=>?_)
  · refine Zak ?_
    try simp only [Zae]
    simp only [decide_eq_true_eq] at h1
    have ia:i < (Zb7 (a ++ b)).length:=by omega
    have hst:=accJ_step (ctOf how) a b i (by omega)
    have hln:=accJ_len (ctOf how) a b i (by omega)
    have c1:(cutsR a b)[i] = (Zb7 (a ++ b))[i]:=by simp [cutsR,List.getElem_append_left,ia]
    obtain ⟨to,hto⟩:∃ to,(cutsR a b)[i + 1] = to:=⟨_,rfl⟩
    have c2:∀ h:i + 1 < (Zb7 (a ++ b)).length,(Zb7 (a ++ b))[i + 1] = to:=fun h=>by rw [← hto]; simp [cutsR,List.getElem_append_left,h]
    have c3:¬ i + 1 < (Zb7 (a ++ b)).length → (1048577:Int) = to:=fun h=>by
      have:i + 1 = (Zb7 (a ++ b)).length:=by omega
      rw [← hto]
      simp [cutsR,this,Zbv]
    rw [c1,hto] at hst
    generalize accJ (ctOf how) a b i = A at hst hln ⊢
    refine Zac ?_
    refine Zaj ?_
    refine Zac (Zaa [0,1,2,7,8,9,10] ?_)
    simp only [Zab,Zad,Zaf,pok,pval,VA.ev,Env.get,Env.put,Env.keep,Zae,Nat.succ_ne_self,Nat.reduceEqDiff,ite_true,ite_false,true_and,reduceCtorEq]
    refine Zac ?_
    refine Zac (Zaa [0,1,2,7,8,9,10,29] ?_)
    simp only [Zab,Zad,Zaf,pok,pval,VA.ev,Env.get,Env.put,Env.keep,Zae,intV,binV,Zah,lenV,Za8,Nat.succ_ne_self,Nat.reduceEqDiff,ite_true,ite_false,true_and,reduceCtorEq,List.length_map,w64 (n:=(i:Int) + 1) (by omega) (by omega)]
    refine VW_mid (σ:=Unit) (fun _=>([(0,pI how),(1,.sl 2 (a.map Sp.enc)),(2,.sl 2 (b.map Sp.enc)),(7,.sl 1 ((Zb7 (a ++ b)).map fun x=>[pI x])),(8,.own id 0 A.length),(9,pI i),(10,pI to)],
      ⟨[(id,.arr false 2 (A.reverse.map Sp.enc))],n⟩)) ?_ (fun _=>?_)
    · refine Zai rfl (fun h2=>?_) (fun h2=>?_)
      · simp only [decide_eq_true_eq] at h2
        have ib:i + 1 < (Zb7 (a ++ b)).length:=by omega
        refine Zaa [0,1,2,7,8,9,10] ?_
        have e1:IntKind.i64.wrap ((i:Int) + 1) = ((i + 1:Nat):Int):=by rw [w64 (by omega) (by omega)]; omega
        simp only [midQ,Zab,Zad,Zaf,pok,pval,VA.ev,Env.get,Env.put,Env.keep,aggV,intV,binV,Zah,isInt,numOf,lenV,Zag,Zap,Zax,Zas,PV.nth,PV.row,Heap.get,Heap.le,HL.get,HL.le,Nat.le_refl,Nat.succ_ne_self,Env.le,List.length,List.getD_cons_zero,List.take,List.take_succ_cons,Nat.reduceEqDiff,Bool.false_eq_true,ite_true,ite_false,true_and,and_true,implies_true,reduceCtorEq,Nat.zero_add,List.length_cons,Int.toNat_natCast,List.length_map,e1,rowm ib,qi0,qi1,qi2,qi3,qi4,qi5,qi6,qi7,qi8,qi9]
        repeat (with_reducible refine And.intro ?_ ?_; first | omega | (with_reducible constructor <;> omega) | exact False.elim | exact True.intro)
        rw [c2 ib]
        exact ⟨(),by first | trivial | rfl⟩
      · simp only [decide_eq_false_iff_not] at h2
        have c4:=c3 (by omega)
        subst c4
        refine Zak ?_
        try simp only [midQ,Env.get,Heap.get,Heap.le,HL.get,HL.le,Nat.le_refl,Nat.succ_ne_self,Env.le,Nat.reduceEqDiff,ite_true,ite_false,and_true,reduceCtorEq,qi0,qi1,qi2,qi3,qi4,qi5,qi6,qi7,qi8,qi9]
        exact ⟨(),by first | trivial | rfl⟩
    simp only []
    obtain ⟨x,hx⟩:∃ x,(Zb7 (a ++ b))[i] = x:=⟨_,rfl⟩
    rw [hx] at hst
    refine Zac ?_
    refine Zac (Zaa [0,1,2,7,8,9,10,43] ?_)
    simp only [Zab,Zad,Zaf,pok,pval,VA.ev,Env.get,Env.put,Env.keep,Zae,aggV,unV,unOk,isInt,numOf,lenV,Zag,Zap,Zax,Zas,PV.nth,PV.row,Nat.le_refl,Nat.succ_ne_self,List.map,List.length,List.getD_cons_zero,List.take,List.take_succ_cons,Nat.reduceEqDiff,Bool.false_eq_true,ite_true,ite_false,true_and,and_true,implies_true,reduceCtorEq,Nat.zero_add,List.length_cons,Int.toNat_natCast,List.length_map,rowm ia,hx]
    repeat (with_reducible refine And.intro ?_ ?_; first | omega | (with_reducible constructor <;> omega) | exact False.elim | exact True.intro)
    refine Zat (sp_pandectref02_counts how a b x (by omega) (by omega)) ?_
    try simp only [true_and]
    refine Zai rfl (fun h3=>?_) (fun h3=>?_)
    · simp only [Bool.not_eq_true'] at h3
      rw [h3] at hst
      refine Zaz ?_
      try simp only [Zae,Zal,retQ,Nat.succ_ne_self,ite_true,ite_false]
      refine Zaa [0,1,2,7,8,9] ?_
      simp only [Zab,Zad,Zaf,pok,pval,VA.ev,Env.get,Env.put,Env.keep,Zae,intV,binV,Zah,HL.get,Nat.succ_ne_self,Nat.reduceEqDiff,ite_true,ite_false,true_and,reduceCtorEq,w64 (n:=(i:Int) + 1) (by omega) (by omega)]
      refine ⟨⟨(i + 1,id,n),by simp only []; omega,hn⟩,?_,?_,?_⟩
      · rw [hst]; exact ⟨rfl,rfl⟩
      · rw [hst]; simp
      · simp only []; omega
    simp only [Bool.not_eq_false'] at h3
    rw [h3,if_pos rfl] at hst
    refine Zak ?_
    try simp only [Zae]
    refine Zac (Zaa [0,1,2,7,8,9,10,11] ?_)
    simp only [Zab,Zad,Zaf,pok,pval,VA.ev,Env.get,Env.put,Env.keep,Zae,lenV,Za8,Nat.succ_ne_self,Nat.reduceEqDiff,ite_true,ite_false,true_and,reduceCtorEq]
    have tk:List.take A.length (A.reverse.map Sp.enc) = A.reverse.map Sp.enc:=List.take_of_length_le (by simp)
    cases A with
    | nil =>
      refine Zac (Zb3 [0,1,2,7,8,9,10,11,60] (by simp [Heap.le,Heap.get,HL.le,HL.get]) ?_)
      have e0:decide ((0:Int) < ((0:Nat):Int)) = false:=rfl
      simp only [Zbb,Zbu,DrawW_xt,QW,dok,dval,VOp.pure,VOp.simple,VOp.det,pok,pval,VA.ev,Env.get,Env.put,Env.keep,Zae,gd,Za1,isBool,intV,binV,Zah,Nat.succ_ne_self,List.length,Nat.reduceEqDiff,Bool.false_eq_true,ite_true,ite_false,true_and,implies_true,reduceCtorEq,e0]
      refine Zai rfl (fun h4=>by cases h4) (fun h4=>?_)
      refine Zaa [0,1,2,7,8,9] ?_
      simp only [Zab,Zad,Zaf,pok,pval,VA.ev,Env.get,Env.put,Env.keep,Zae,Zal,aggV,isInt,numOf,lenV,Zag,Zap,Zax,Zas,Zcu,Zcb,PV.cells,PV.fits,overlay,PV.nth,PV.row,Heap.get,Heap.del,HL.get,HL.del,Heap.push,Nat.le_refl,Nat.succ_ne_self,Zbq,Zc8,Zbk,Zda,Zbc,Zcw,Zbj,Zbf,List.set,List.replicate,List.length,List.getD_cons_zero,List.take,List.drop,List.take_succ_cons,List.drop_succ_cons,List.cons_append,List.nil_append,Nat.reduceEqDiff,Nat.reduceAdd,Nat.reduceLT,Nat.reduceLeDiff,Nat.reduceMul,Bool.false_eq_true,ite_true,ite_false,true_and,and_true,implies_true,reduceCtorEq,BEq.rfl,Nat.zero_add,Nat.add_zero,List.length_cons,List.length_nil,Int.toNat_natCast,List.length_map,rowm ia,hx,qi0,qi1,qi2,qi3,qi4,qi5,qi6,qi7,qi8,qi9,List.reverse_nil,List.map_nil]
      repeat (with_reducible refine And.intro ?_ ?_; first | omega | (with_reducible constructor <;> omega) | exact False.elim | exact True.intro)
      refine Zaa [0,1,2,7,8,9] ?_
      simp only [Zab,Zad,Zaf,pok,pval,VA.ev,Env.get,Env.put,Env.keep,Zae,intV,binV,Zah,HL.get,Nat.succ_ne_self,Nat.reduceEqDiff,ite_true,ite_false,true_and,reduceCtorEq,w64 (n:=(i:Int) + 1) (by omega) (by omega),qi0,qi1,qi2,qi3,qi4,qi5,qi6,qi7,qi8,qi9]
      refine ⟨⟨(i + 1,n + 1,n + 2),by simp only []; omega,by simp only []; omega⟩,?_,?_,?_⟩
      · rw [hst]; exact ⟨rfl,rfl⟩
      · rw [hst]; simp [mergeJ,Sp.enc]
      · simp only []; omega
    | cons t r =>
      have e0:decide ((0:Int) < ((r.length + 1:Nat):Int)) = true:=by simp
      have e1:IntKind.i64.wrap (((r.length + 1:Nat):Int) - 1) = (r.length:Int):=by
        simp at hln
        rw [w64 (by omega) (by omega)]; omega
      have hrow:(List.map Sp.enc (t :: r).reverse).getD r.length [] = t.enc:=by simp [List.getD_eq_getElem?_getD]
      have hlen:(t :: r).reverse.length = r.length + 1:=by simp
      refine Zac (Zb3 [0,1,2,7,8,9,10,11,60] (by simp [Heap.le,Heap.get,HL.le,HL.get]) ?_)
      simp only [Zbb,Zbu,DrawW_y,QW,dok,dval,VOp.pure,VOp.simple,VOp.det,pok,pval,VA.ev,Env.get,Env.put,Env.keep,Zae,gd,Za1,isBool,aggV,intV,binV,Zah,isInt,numOf,lenV,Zao,Zan,Zag,Zap,Zax,Zas,PV.nth,PV.row,Heap.get,HL.get,Nat.le_refl,Nat.succ_ne_self,List.length,List.getD_cons_zero,List.take,List.drop,List.take_succ_cons,List.drop_succ_cons,Nat.reduceEqDiff,Bool.false_eq_true,ite_true,ite_false,true_and,and_true,implies_true,forall_const,reduceCtorEq,Nat.zero_add,List.length_cons,Int.toNat_natCast,List.length_map,rowm ia,hx,e0,e1,hrow,hlen,Sp.enc]
      repeat (with_reducible refine And.intro ?_ ?_; first | omega | (with_reducible constructor <;> omega) | exact False.elim | exact True.intro)
      refine Zai rfl (fun h4=>?_) (fun h4=>?_)
      · refine Zaa [0,1,2,7,8,9] ?_
        simp only [Zab,Zad,Zaf,pok,pval,VA.ev,Env.get,Env.put,Env.keep,Zae,Zal,intV,binV,Zah,isInt,numOf,lenV,Zao,Zan,Zax,Zas,PV.cells,PV.fits,overlay,PV.row,Heap.get,Heap.set,HL.get,HL.set,HL.del,Nat.le_refl,Nat.succ_ne_self,Zbh,Za9,List.length,List.take,List.drop,List.take_succ_cons,List.drop_succ_cons,List.cons_append,List.nil_append,Nat.reduceEqDiff,Nat.reduceAdd,ite_true,ite_false,true_and,and_true,reduceCtorEq,BEq.rfl,Nat.zero_add,List.length_cons,Int.toNat_natCast,List.length_map,e1,hrow,hlen,Sp.enc,qi0,qi1,qi2,qi3,qi4,qi5,qi6,qi7,qi8,qi9]
        repeat (with_reducible refine And.intro ?_ ?_; first | omega | (with_reducible constructor <;> omega) | exact False.elim | exact True.intro)
        refine Zaa [0,1,2,7,8,9] ?_
        simp only [Zab,Zad,Zaf,pok,pval,VA.ev,Env.get,Env.put,Env.keep,Zae,intV,binV,Zah,HL.get,Nat.succ_ne_self,Nat.reduceEqDiff,ite_true,ite_false,true_and,reduceCtorEq,w64 (n:=(i:Int) + 1) (by omega) (by omega),qi0,qi1,qi2,qi3,qi4,qi5,qi6,qi7,qi8,qi9]
        have hm:mergeJ (t :: r) ⟨x,to⟩ = ⟨t.frm,to⟩ :: r:=by simp only [mergeJ]; exact if_pos (by simpa using h4)
        refine ⟨⟨(i + 1,id,n),by simp only []; omega,hn⟩,?_,?_,?_⟩
        · rw [hst,hm]; exact ⟨rfl,rfl⟩
        · rw [hst,hm]; simp [Sp.enc,List.set_append]
        · simp only []; omega
      · have hm:mergeJ (t :: r) ⟨x,to⟩ = ⟨x,to⟩ :: t :: r:=by simp only [mergeJ]; exact if_neg (by simpa using h4)
        have tk':List.take (r.length + 1) (List.map Sp.enc (t :: r).reverse) = List.map Sp.enc (t :: r).reverse:=tk
        simp only [List.length_cons] at hln
        refine Zaa [0,1,2,7,8,9] ?_
        simp only [Zab,Zad,Zaf,pok,pval,VA.ev,Env.get,Env.put,Env.keep,Zae,Zal,aggV,isInt,numOf,lenV,Zag,Zap,Zax,Zas,Zcu,Zcb,PV.cells,PV.fits,overlay,PV.nth,PV.row,Heap.get,Heap.del,HL.get,HL.del,Heap.push,Nat.le_refl,Nat.succ_ne_self,Zbq,Zc8,Zbk,Zda,Zbc,Zcw,Zbj,Zbf,List.set,List.replicate,List.length,List.getD_cons_zero,List.take,List.drop,List.take_succ_cons,List.drop_succ_cons,List.cons_append,List.nil_append,Nat.reduceEqDiff,Nat.reduceAdd,Nat.reduceLT,Nat.reduceLeDiff,Bool.false_eq_true,ite_true,ite_false,true_and,and_true,implies_true,reduceCtorEq,BEq.rfl,Nat.zero_add,List.length_cons,Int.toNat_natCast,List.length_map,rowm ia,hx,e1,hrow,hlen,tk',qi0,qi1,qi2,qi3,qi4,qi5,qi6,qi7,qi8,qi9]
        repeat (with_reducible refine And.intro ?_ ?_; first | omega | (with_reducible constructor <;> omega) | exact False.elim | exact True.intro)
        refine Zaa [0,1,2,7,8,9] ?_
        simp only [Zab,Zad,Zaf,pok,pval,VA.ev,Env.get,Env.put,Env.keep,Zae,intV,binV,Zah,HL.get,Nat.succ_ne_self,Nat.reduceEqDiff,ite_true,ite_false,true_and,reduceCtorEq,w64 (n:=(i:Int) + 1) (by omega) (by omega),qi0,qi1,qi2,qi3,qi4,qi5,qi6,qi7,qi8,qi9]
        refine ⟨⟨(i + 1,n + 1,n + 2),by simp only []; omega,by simp only []; omega⟩,?_,?_,?_⟩
        · rw [hst,hm]; exact ⟨rfl,rfl⟩
        · rw [hst,hm]; simp [Sp.enc]
        · simp only []; omega
  · simp only [decide_eq_false_iff_not] at h1
    refine Zaz ?_
    try simp only [Zae,Zal,retQ,ite_true]
    refine Zac (Zaa [6] ?_)
    simp only [Zab,Zad,Zaf,pok,pval,VA.ev,Env.get,Env.put,Env.keep,Zae,Nat.succ_ne_self,Nat.reduceEqDiff,ite_true,ite_false,true_and,reduceCtorEq,qi0,qi1,qi2,qi3,qi4,qi5,qi6,qi7,qi8,qi9]
    refine Zar ?_
    try simp only [Env.get,retQ,resV,Zau,RS.ev,RS.ok,ite_true,true_and,and_true]
    rw [← accJ_end (ctOf how) a b i (by omega)]
    exact View.own_all (fz:=false) (by simp [Heap.get,HL.get]) (by simp)
theorem sp_pandectref02_Of (l:List Sp) (hl:l.length ≤ 10000):Zbo Tryz.prog 150 [.sl 2 (l.map Sp.enc)] (.sl 2 ((ofR l).map Sp.enc)):=by
  refine Zam ?_ (Zav _) (by simp only [Za0,List.mem_cons,List.not_mem_nil,or_false,forall_eq_or_imp,forall_eq,false_implies,implies_true]; repeat' (first  | exact Zav _ | refine And.intro ?_ ?_))
  refine Zaq (vc:=c_pandectref02_Of) (ts:=[.t 2]) Go.Proofs.Tryz.func150 (by kernel_rfl) rfl rfl (Nat.le_of_ble_eq_true rfl) (by kernel_rfl) ?_
  unfold c_pandectref02_Of
  try dsimp only [ZM,ZO,ZN,ZG]
  refine Zac (Zaa [0] ?_)
  simp only [Zab,Zad,Zaf,pok,pval,VA.ev,Env.get,Env.put,Env.keep,Za2,Zae,Heap.nil,ite_true,ite_false,true_and,reduceCtorEq]
  refine Zac (Zaa [2] ?_)
  simp only [Zab,Zad,Zaf,pok,pval,VA.ev,Env.get,Env.put,Env.keep,Zae,Nat.succ_ne_self,List.map,Nat.reduceEqDiff,ite_true,ite_false,true_and,reduceCtorEq]
  refine ACall_f [pI 0,.sl 2 (l.map Sp.enc),.sl 2 (([]:List Sp).map Sp.enc)] ⟨View.refl _ _,View.refl _ _,View.nil _ _,trivial⟩ (Zat (Zdt 0 l [] hl (by simp)) ?_)
  try simp only []
  refine Zar ?_
  try simp only [Env.get,retQ,resV,Zau,RS.ev,RS.ok,ite_true,true_and,and_true]
  exact View.refl _ _
theorem sp_pandectref02_Until (l:List Sp) (day:Int) (hl:l.length ≤ 10000):Zbo Tryz.prog 93 [.sl 2 (l.map Sp.enc),pI day] (.sl 2 ((untilR l day).map Sp.enc)):=by
  refine Zam ?_ (Zav _) (by simp only [Za0,List.mem_cons,List.not_mem_nil,or_false,forall_eq_or_imp,forall_eq,false_implies,implies_true]; repeat' (first  | exact cI _ | exact Zav _ | exact Za7 (by simp only [List.mem_cons,List.not_mem_nil,or_false,forall_eq]; first | exact cI _ | exact cS _ | exact Zaw _) | refine And.intro ?_ ?_))
  refine Zaq (vc:=c_pandectref02_Until) (ts:=[.t 4]) Go.Proofs.Tryz.func93 (by kernel_rfl) rfl rfl (Nat.le_of_ble_eq_true rfl) (by kernel_rfl) ?_
  unfold c_pandectref02_Until
  try dsimp only [ZM,ZO,ZN,ZG]
  refine Zac (Zaa [0,1] ?_)
  simp only [Zab,Zad,Zaf,pok,pval,VA.ev,Env.get,Env.put,Env.keep,Za2,Zae,Heap.nil,Nat.succ_ne_self,Nat.reduceEqDiff,ite_true,ite_false,true_and,reduceCtorEq,Nat.zero_add]
  refine Zac (Zaa [4] ?_)
  simp only [Zab,Zad,Zaf,pok,pval,VA.ev,Env.get,Env.put,Env.keep,Zae,Zcu,Zcb,PV.cells,PV.fits,overlay,Heap.push,Nat.le_refl,Nat.succ_ne_self,Zbj,Zbf,List.map,List.set,List.replicate,List.length,List.take,List.drop,List.take_succ_cons,List.drop_succ_cons,List.cons_append,List.nil_append,Nat.reduceEqDiff,Nat.reduceAdd,Nat.reduceLT,Nat.reduceLeDiff,ite_true,ite_false,true_and,and_true,reduceCtorEq,BEq.rfl,Nat.zero_add,List.length_cons]
  refine ACall_f [pI 1,.sl 2 (l.map Sp.enc),.sl 2 ([(⟨0,day⟩:Sp)].map Sp.enc)] ⟨View.refl _ _,View.refl _ _,View.own_all (fz:=false) rfl rfl,trivial⟩ (Zat (Zdt 1 l [⟨0,day⟩] hl (by simp)) ?_)
  try simp only []
  refine Zar ?_
  try simp only [Env.get,retQ,resV,Zau,RS.ev,RS.ok,ite_true,true_and,and_true]
  exact View.refl _ _
theorem sp_pandectref02_Since (l:List Sp) (day:Int) (hl:l.length ≤ 10000) (hl2:(untilR l day).length ≤ 10000):Zbo Tryz.prog 92 [.sl 2 (l.map Sp.enc),pI day] (.sl 2 ((sinceR l day).map Sp.enc)):=by
  refine Zam ?_ (Zav _) (by simp only [Za0,List.mem_cons,List.not_mem_nil,or_false,forall_eq_or_imp,forall_eq,false_implies,implies_true]; repeat' (first  | exact cI _ | exact Zav _ | exact Za7 (by simp only [List.mem_cons,List.not_mem_nil,or_false,forall_eq]; first | exact cI _ | exact cS _ | exact Zaw _) | refine And.intro ?_ ?_))
  refine Zaq (vc:=c_pandectref02_Since) (ts:=[.t 4]) Go.Proofs.Tryz.func92 (by kernel_rfl) rfl rfl (Nat.le_of_ble_eq_true rfl) (by kernel_rfl) ?_
  unfold c_pandectref02_Since
  try dsimp only [ZM,ZO,ZN,ZG]
  refine Zac (Zaa [0,1] ?_)
  simp only [Zab,Zad,Zaf,pok,pval,VA.ev,Env.get,Env.put,Env.keep,Za2,Zae,Heap.nil,Nat.succ_ne_self,Nat.reduceEqDiff,ite_true,ite_false,true_and,reduceCtorEq,Nat.zero_add]
  refine Zac (Zaa [4] ?_)
  simp only [Zab,Zad,Zaf,pok,pval,VA.ev,Env.get,Env.put,Env.keep,Zae,Zcu,Zcb,PV.cells,PV.fits,overlay,Heap.push,Nat.le_refl,Nat.succ_ne_self,Zbj,Zbf,List.map,List.set,List.replicate,List.length,List.take,List.drop,List.take_succ_cons,List.drop_succ_cons,List.cons_append,List.nil_append,Nat.reduceEqDiff,Nat.reduceAdd,Nat.reduceLT,Nat.reduceLeDiff,ite_true,ite_false,true_and,and_true,reduceCtorEq,BEq.rfl,Nat.zero_add,List.length_cons]
  refine Zat (sp_pandectref02_Until l day hl) ?_
  try simp only [Nat.zero_add]
  refine ACall_f [pI 0,.sl 2 ((untilR l day).map Sp.enc),.sl 2 ([(⟨day,1048577⟩:Sp)].map Sp.enc)] ⟨View.refl _ _,View.refl _ _,View.own_all (fz:=false) rfl rfl,trivial⟩ (Zat (Zdt 0 (untilR l day) [⟨day,1048577⟩] hl2 (by simp)) ?_)
  try simp only []
  refine Zar ?_
  try simp only [Env.get,retQ,resV,Zau,RS.ev,RS.ok,ite_true,true_and,and_true]
  exact View.refl _ _
end Go.Proofs.YtehokmhebnkfdaaGreat.c
namespace Go.Proofs.YtehokmhebnkfdaaGreat.c
open Go Go.VM
set_option maxRecDepth 20000
set_option maxHeartbeats 0
set_option pp.deepTerms false
end Go.Proofs.YtehokmhebnkfdaaGreat.c
namespace Go.Proofs.YtehokmhebnkfdaaGreat.c
open Go Go.VM
set_option maxRecDepth 20000
set_option maxHeartbeats 0
set_option pp.deepTerms false
def c_dateset_Boundaries:VC:=(.seq (.region [ZO 2 (.mv (.c .nilsl))] false) (.seq (.region [ZO 3 (.mv (.c .nilsl))] false) (.seq (.seq (.region [ZM 6 0,ZO 7 (.call 62 [(.t 6)]),ZO 8 (.len false (.t 7)),ZO 9 (.mv (.c (.int .i64 0)))] false) (.block 0 (.loop (.seq (.region [ZO 10 (.bin .lss (.t 9) (.t 8))] false) (.seq (.cond (.t 10) .skip (.exit 0)) (.seq (.block 1 (.seq (.region [ZO 11 (.iaddr 2 (.t 7) (.t 9)),ZO 12 (.load true 2 (.t 11)),ZO 5 (.alloc [(.int .i64 0),(.int .i64 0)]),ZN (.store 2 (.t 5) (.t 12))] false) (.seq (.region [ZM 13 3,ZO 14 (.faddr 0 (.t 5)),ZO 15 (.load false 1 (.t 14)),ZO 16 (.bslice 1 1 [(.int .i64 0)] [(0,(.t 15))]),ZO 17 (.app 1 8 [(.int .i64 0)] false (.t 13) (.t 16)),ZM 3 17] false) (.seq (.region [ZO 18 (.faddr 1 (.t 5)),ZO 19 (.load false 1 (.t 18)),ZO 20 (.bin .lss (.t 19) (.c (.int .i64 1048577)))] false) (.cond (.t 20) (.region [ZM 21 3,ZO 22 (.faddr 1 (.t 5)),ZO 23 (.load false 1 (.t 22)),ZO 24 (.bslice 1 1 [(.int .i64 0)] [(0,(.t 23))]),ZO 25 (.app 1 8 [(.int .i64 0)] false (.t 21) (.t 24)),ZM 3 25] false) .skip))))) (.region [ZO 26 (.bin .add (.t 9) (.c (.int .i64 1))),ZM 9 26] false))))))) (.seq (.region [ZM 27 3,ZM 2 27] false) .ret))))
theorem edges_step {l:List Sp} {k:Nat} (ka:k < l.length):edges (l.take (k + 1)) = edges (l.take k) ++ (l[k].frm :: (if l[k].to < 1048577 then [l[k].to] else [])):=by
  rw [List.take_add_one,List.getElem?_eq_getElem ka]
  unfold edges
  rw [List.flatMap_append]; simp
theorem edges_len:∀ l:List Sp,(edges l).length ≤ 2 * l.length
  | []=>by simp [edges]
  | s :: r=>by
    have:=edges_len r
    rw [edges_cons]
    simp only [List.length_cons,List.length_append]
    split <;> simp <;> omega
theorem sp_dateset_Boundaries (l:List Sp) (hl:l.length ≤ 10000):Zbo Tryz.prog 52 [.sl 2 (l.map Sp.enc)] (.sl 1 ((edges (Zc2 l)).map fun x=>[pI x])):=by
  refine Zam ?_ (Zcm _) (by simp only [Za0,List.mem_cons,List.not_mem_nil,or_false,forall_eq_or_imp,forall_eq,false_implies,implies_true]; repeat' (first  | exact cI _ | exact Zcm _ | exact Zav _ | exact Za7 (by simp only [List.mem_cons,List.not_mem_nil,or_false,forall_eq]; first | exact cI _ | exact cS _ | exact Zaw _) | refine And.intro ?_ ?_))
  refine Zaq (vc:=c_dateset_Boundaries) (ts:=[.t 2]) Go.Proofs.Tryz.func52 (by kernel_rfl) rfl rfl (Nat.le_of_ble_eq_true rfl) (by kernel_rfl) ?_
  unfold c_dateset_Boundaries
  try dsimp only [ZM,ZO,ZN,ZG]
  refine Zac (Zaa [0] ?_)
  simp only [Zab,Zad,Zaf,pok,pval,VA.ev,Env.get,Env.put,Env.keep,Za2,Zae,Heap.nil,ite_true,ite_false,true_and,reduceCtorEq]
  refine Zac (Zaa [0,3] ?_)
  simp only [Zab,Zad,Zaf,pok,pval,VA.ev,Env.get,Env.put,Env.keep,Zae,ite_true,ite_false,true_and,reduceCtorEq]
  refine VW_own0 3 1 rfl ?_
  try simp only [Env.put,Heap.push,Nat.zero_add]
  refine Zac ?_
  refine Zac (Zaa [3,7,8,9] ?_)
  simp only [Zab,Zad,Zaf,pok,pval,VA.ev,Env.get,Env.put,Env.keep,Zae,lenV,Za8,Nat.succ_ne_self,List.map,Nat.reduceEqDiff,Bool.false_eq_true,ite_true,ite_false,true_and,reduceCtorEq]
  refine Zat (norm_ok l (by omega)) ?_
  have hn:=norm_len l
  generalize Zc2 l = c at hn ⊢
  try simp only [true_and,List.length_map]
  refine Zaj ?_
  refine Za4 (σ:={ s:Nat × Nat × Nat // s.1 ≤ c.length ∧ s.2.1 < s.2.2 }) (fun s=>([(3,.own s.1.2.1 0 (edges (c.take s.1.1)).length),(7,.sl 2 (c.map Sp.enc)),(8,pI c.length),(9,pI s.1.1)],⟨[(s.1.2.1,.arr false 1 ((edges (c.take s.1.1)).map fun x=>[pI x]))],s.1.2.2⟩)) (fun s=>c.length - s.1.1) ⟨(0,0,1),by simp⟩ ?_ ?_ ?_
  · simp only [Env.get,Nat.succ_ne_self,Env.le,List.take,Nat.reduceEqDiff,ite_true,ite_false,true_and,and_true]
    exact ⟨rfl,rfl⟩
  · simp only [Heap.get,Heap.le,HL.get,HL.le,Nat.le_refl,List.take,ite_true,true_and,and_true,Option.some.injEq]
    rfl
  rintro ⟨⟨k,id,n⟩,hk,hid⟩
  simp only [] at hk hid ⊢
  have qi0:(id = n) = False:=by simp; omega
  have qi1:(n = id) = False:=by simp; omega
  have qi2:∀ j,(n + j = id) = False:=fun j=>by simp; try omega
  have qi3:∀ j,(id = n + j) = False:=fun j=>by simp; try omega
  have qi4:∀ j,(n + (j + 1) = n) = False:=fun j=>by simp; try omega
  have qi5:∀ j,(n = n + (j + 1)) = False:=fun j=>by simp; try omega
  have qi6:(n + 1 + 1 = n) = False:=by simp; try omega
  have qi7:(n = n + 1 + 1) = False:=by simp; try omega
  have qi8:(n + 1 + 1 + 1 = n) = False:=by simp; try omega
  have qi9:(n = n + 1 + 1 + 1) = False:=by simp; try omega
  refine Zac (Zaa [3,7,8,9,10] ?_)
  simp only [Zab,Zad,Zaf,pok,pval,VA.ev,Env.get,Env.put,Env.keep,Zae,intV,binV,Zah,Heap.get,Heap.le,HL.le,Nat.succ_ne_self,Env.le,Nat.reduceEqDiff,ite_true,ite_false,true_and,and_true]
  refine Zac ?_
  refine Zai rfl (fun h1=>?_) (fun h1=>?_)
  · refine Zak ?_
    try simp only [Zae]
    simp only [decide_eq_true_eq] at h1
    have ka:k < c.length:=by omega
    have hst:=edges_step ka
    have hle:=edges_len (c.take k)
    have hle2:(c.take k).length ≤ c.length:=by simp; omega
    generalize edges (c.take k) = E at hst hle ⊢
    have tk:List.take E.length (E.map fun x=>[pI x]) = E.map fun x=>[pI x]:=List.take_of_length_le (by simp)
    have tk2:List.take (E.length + 1) ((E.map fun x=>[pI x]) ++ [[pI c[k].frm]]) = (E.map fun x=>[pI x]) ++ [[pI c[k].frm]]:=List.take_of_length_le (by simp)
    have tl2:((E.map fun x=>[pI x]) ++ [[pI c[k].frm]]).length = E.length + 1:=by simp
    refine Zac ?_
    refine Zaj ?_
    refine Zac (Zaa [3,5,7,8,9] ?_)
    simp only [Zab,Zad,Zaf,pok,pval,VA.ev,Env.get,Env.put,Env.keep,Zae,aggV,isInt,numOf,lenV,Zag,Zap,Zax,Zas,PV.cells,PV.fits,overlay,PV.nth,PV.row,Heap.get,Heap.set,HL.get,HL.set,HL.del,Heap.push,Nat.le_refl,Nat.succ_ne_self,Zbh,Za9,List.set,List.length,List.getD_cons_zero,List.take,List.drop,List.take_succ_cons,List.drop_succ_cons,List.cons_append,List.nil_append,Nat.reduceEqDiff,Nat.reduceAdd,Nat.reduceLT,Bool.true_eq_false,ite_true,ite_false,true_and,and_true,BEq.rfl,Nat.zero_add,List.length_cons,imp_self,Int.toNat_natCast,List.length_map,rowm ka,Sp.enc,qi0,qi1,qi2,qi3,qi4,qi5,qi6,qi7,qi8,qi9]
    repeat (with_reducible refine And.intro ?_ ?_; first | omega | (with_reducible constructor <;> omega) | exact False.elim | exact True.intro)
    refine Zac (Zaa [3,5,7,8,9] ?_)
    simp only [Zab,Zad,Zaf,pok,pval,VA.ev,Env.get,Env.put,Env.keep,Zae,aggV,Zao,Zan,Zag,Zap,PV.cells,PV.fits,PV.nth,PV.row,Heap.get,Heap.del,HL.get,HL.del,Heap.push,Nat.le_refl,Nat.succ_ne_self,Zbq,Zc8,Zbk,Zda,Zbc,Zcw,Zbj,Zbf,List.set,List.replicate,List.length,List.getD_cons_zero,List.take,List.drop,List.take_succ_cons,Nat.reduceEqDiff,Nat.reduceAdd,Nat.reduceLT,Nat.reduceLeDiff,Bool.false_eq_true,ite_true,ite_false,true_and,and_true,implies_true,BEq.rfl,Nat.zero_add,Nat.add_zero,List.length_cons,List.length_map,tk,qi0,qi1,qi2,qi3,qi4,qi5,qi6,qi7,qi8,qi9]
    refine ⟨by omega,by omega,?_⟩
    refine Zac (Zaa [3,5,7,8,9,20] ?_)
    simp only [Zab,Zad,Zaf,pok,pval,VA.ev,Env.get,Env.put,Env.keep,Zae,aggV,intV,binV,Zah,Zao,Zan,Zag,Zap,PV.nth,PV.row,Heap.get,HL.get,Nat.le_refl,Nat.succ_ne_self,List.length,List.getD_cons_zero,List.take,List.drop,List.take_succ_cons,List.drop_succ_cons,Nat.reduceEqDiff,Nat.reduceLT,Bool.false_eq_true,ite_true,ite_false,true_and,and_true,implies_true,Nat.zero_add,List.length_cons,qi0,qi1,qi2,qi3,qi4,qi5,qi6,qi7,qi8,qi9]
    refine Zai rfl (fun h2=>?_) (fun h2=>?_)
    · rw [if_pos (by simpa using h2)] at hst
      refine Zaa [3,7,8,9] ?_
      simp only [Zab,Zad,Zaf,pok,pval,VA.ev,Env.get,Env.put,Env.keep,Zae,Zal,aggV,Zao,Zan,Zag,Zap,PV.cells,PV.fits,PV.nth,PV.row,Heap.get,Heap.del,HL.get,HL.del,Heap.push,Nat.le_refl,Nat.left_eq_add,Nat.succ_ne_self,Zbq,Zc8,Zbk,Zda,Zbc,Zcw,Zbj,Zbf,List.set,List.replicate,List.length,List.getD_cons_zero,List.take,List.drop,List.take_succ_cons,List.drop_succ_cons,Nat.reduceEqDiff,Nat.reduceLT,Nat.reduceLeDiff,Bool.false_eq_true,ite_true,ite_false,true_and,and_true,implies_true,BEq.rfl,Nat.zero_add,List.length_cons,qi0,qi1,qi2,qi3,qi4,qi5,qi6,qi7,qi8,qi9,tk2,tl2]
      refine ⟨by omega,by omega,?_⟩
      refine Zaa [3,7,8,9] ?_
      simp only [Zab,Zad,Zaf,pok,pval,VA.ev,Env.get,Env.put,Env.keep,Zae,intV,binV,Zah,HL.get,Nat.succ_ne_self,Nat.reduceEqDiff,ite_true,ite_false,true_and,qi0,qi1,qi2,qi3,qi4,qi5,qi6,qi7,qi8,qi9,w64 (n:=(k:Int) + 1) (by omega) (by omega)]
      refine ⟨⟨(k + 1,n + 4,n + 5),by simp only []; omega,by simp only []; omega⟩,?_,?_,?_⟩
      · rw [hst]; simp
      · rw [hst]; simp
      · simp only []; omega
    · rw [if_neg (by simpa using h2)] at hst
      refine Zak ?_
      try simp only [Zae,Zal]
      refine Zaa [3,7,8,9] ?_
      simp only [Zab,Zad,Zaf,pok,pval,VA.ev,Env.get,Env.put,Env.keep,Zae,intV,binV,Zah,HL.get,Nat.succ_ne_self,Nat.reduceEqDiff,ite_true,ite_false,true_and,qi0,qi1,qi2,qi3,qi4,qi5,qi6,qi7,qi8,qi9,w64 (n:=(k:Int) + 1) (by omega) (by omega)]
      refine ⟨⟨(k + 1,n + 2,n + 3),by simp only []; omega,by simp only []; omega⟩,?_,?_,?_⟩
      · rw [hst]; simp
      · rw [hst]; simp
      · simp only []; omega
  · simp only [decide_eq_false_iff_not] at h1
    refine Zaz ?_
    try simp only [Zae,Zal,retQ,ite_true]
    refine Zac (Zaa [2] ?_)
    simp only [Zab,Zad,Zaf,pok,pval,VA.ev,Env.get,Env.put,Env.keep,Zae,Nat.succ_ne_self,Nat.reduceEqDiff,ite_true,ite_false,true_and,qi0,qi1,qi2,qi3,qi4,qi5,qi6,qi7,qi8,qi9]
    refine Zar ?_
    try simp only [Env.get,retQ,resV,Zau,RS.ev,RS.ok,ite_true,true_and,and_true]
    rw [List.take_of_length_le (by omega)]
    exact View.own_all (fz:=false) (by simp [Heap.get,HL.get]) (by simp)
end Go.Proofs.YtehokmhebnkfdaaGreat.c
