import Derived.Test.YtehokmhebnkfdaaGreatJ4
set_option linter.all false
namespace Go.Proofs.YtehokmhebnkfdaaGreat.w
open Go Go.VM
set_option maxRecDepth 20000
set_option maxHeartbeats 0
set_option pp.deepTerms false
def c_pandectref29_Class:VC:=(.seq (.region [ZO 4 (.mv (.c (.int .i64 0)))] false) (.seq (.seq (.region [ZM 8 0,ZO 9 (.bin .lss (.t 8) (.c (.int .i64 0))),ZM 10 9,ZG 11 (.mv (.t 0)) 10 false,ZG 12 (.bin .gtr (.t 11) (.c (.int .i64 1048576))) 10 false,ZO 13 (.pick (.t 10) (.c (.bool true)) (.t 12))] false) (.cond (.t 13) (.seq (.region [ZO 4 (.mv (.c (.int .i64 (-1))))] false) .ret) .skip)) (.seq (.region [ZO 5 (.mv (.c (.int .i64 (-1))))] false) (.seq (.region [ZM 14 1,ZO 15 (.call 27 [(.t 14)]),ZM 6 15] false) (.seq (.seq (.region [ZO 7 (.mv (.c (.int .i64 0)))] false) (.block 0 (.loop (.seq (.seq (.region [ZM 16 7,ZM 17 6,ZO 18 (.len false (.t 17)),ZO 19 (.bin .lss (.t 16) (.t 18))] false) (.cond (.t 19) .skip (.exit 0))) (.seq (.block 1 (.seq (.region [ZM 22 6,ZM 23 7,ZO 24 (.iaddr 1 (.t 22) (.t 23)),ZO 25 (.load false 1 (.t 24)),ZM 26 0,ZO 27 (.bin .leq (.t 25) (.t 26))] false) (.cond (.t 27) (.region [ZM 28 5,ZO 29 (.bin .add (.t 28) (.c (.int .i64 1))),ZM 5 29] false) .skip))) (.region [ZM 20 7,ZO 21 (.bin .add (.t 20) (.c (.int .i64 1))),ZM 7 21] false)))))) (.seq (.region [ZM 30 5,ZM 4 30] false) .ret))))))
theorem sp_pandectref29_Class (a:Int) (l:List Gz) (hs:Smal l) (hd:(dds l).length ≤ 100):Zbq Tryz.prog 28 [pI a,.sl 4 (l.map Gz.enc)] (pI (interS l a)):=by
  have hbl:=bpS_len l hd
  refine Zao ?_ (cI _) (by simp only [Za1,List.mem_cons,List.not_mem_nil,or_false,forall_eq_or_imp,forall_eq,false_implies,implies_true]; repeat' (first  | exact cI _ | exact Zbw _ | exact Za9 (by simp only [List.mem_cons,List.not_mem_nil,or_false,forall_eq]; first | exact cI _ | exact cS _ | exact Zav _) | refine And.intro ?_ ?_))
  refine Zar (vc:=c_pandectref29_Class) (ts:=[.t 4]) Go.Proofs.Tryz.func28 (by kernel_rfl) rfl rfl (Nat.le_of_ble_eq_true rfl) (by kernel_rfl) ?_
  unfold c_pandectref29_Class
  try dsimp only [ZM,ZO,ZN,ZG]
  refine Zad (Zaa [0,1] ?_)
  simp only [Zab,Zac,Zaf,pok,pval,VA.ev,Env.get,Env.put,Env.keep,Za3,Zae,Heap.nil,Nat.succ_ne_self,Nat.reduceEqDiff,ite_true,ite_false,true_and,reduceCtorEq,Nat.zero_add]
  refine Zad ?_
  refine Zad (VW_mid (σ:={ b:Bool // b = true ↔ (a < 0 ∨ 1048576 < a) }) (fun b=>([(0,pI a),(1,.sl 4 (l.map Gz.enc)),(13,.bool b.1)],⟨[],0⟩)) (Zaa [0,1,13] ?_) (fun b=>?_))
  · cases e1:decide (a < 0)
    · simp only [midQ,Zab,Zac,Zaz,Zaf,pok,pval,VA.ev,Env.get,Env.put,Env.keep,Zaw,isBool,intV,binV,Zah,Heap.le,HL.le,Nat.le_refl,Nat.succ_ne_self,Env.le,Nat.reduceEqDiff,Bool.false_eq_true,ite_true,ite_false,true_and,and_true,reduceCtorEq,e1]
      refine ⟨⟨decide (1048576 < a),by simp only [decide_eq_true_eq,decide_eq_false_iff_not] at e1 ⊢; omega⟩,?_⟩
      try simp only [true_and]
      all_goals (repeat' (first | rfl | trivial | omega | (simp only []; omega) | refine And.intro ?_ ?_))
    · simp only [midQ,Zab,Zac,Zbb,Zaf,pok,pval,VA.ev,Env.get,Env.put,Env.keep,Zaw,isBool,intV,binV,Zah,Heap.le,HL.le,Nat.le_refl,Nat.succ_ne_self,Env.le,Nat.reduceEqDiff,ite_true,ite_false,true_and,and_true,reduceCtorEq,e1]
      refine ⟨⟨true,by simp only [decide_eq_true_eq] at e1 ⊢; simp [e1]⟩,?_⟩
      try simp only [true_and]
      all_goals (repeat' (first | rfl | trivial | omega | (simp only []; omega) | refine And.intro ?_ ?_))
  obtain ⟨b,hb⟩:=b
  simp only []
  refine Zai rfl (fun h1=>?_) (fun h1=>?_)
  · refine Zad (Zaa [4] ?_)
    simp only [Zab,Zac,Zaf,pok,pval,VA.ev,Env.get,Env.put,Env.keep,Zae,Nat.reduceEqDiff,ite_true,ite_false,true_and,reduceCtorEq]
    refine Zaq ?_
    try simp only [Env.get,Zae,retQ,resV,Zau,RS.ev,RS.ok,ite_true,true_and,and_true]
    rw [show interS l a = -1 from if_pos (hb.1 h1)]
    exact View.refl _ _
  have hab:¬ (a < 0 ∨ 1048576 < a):=fun h=>by rw [hb.2 h] at h1; cases h1
  have hi:interS l a = -1 + ((bpS l).countP (fun x=>decide (x ≤ a)):Nat):=if_neg hab
  refine Zak ?_
  try simp only [Zae]
  refine Zad (Zaa [0,1,5] ?_)
  simp only [Zab,Zac,Zaf,pok,pval,VA.ev,Env.get,Env.put,Env.keep,Zae,Nat.succ_ne_self,Nat.reduceEqDiff,ite_true,ite_false,true_and,reduceCtorEq]
  refine Zad (Zaa [0,5,6] ?_)
  simp only [Zab,Zac,Zaf,pok,pval,VA.ev,Env.get,Env.put,Env.keep,Zae,Nat.succ_ne_self,List.map,Nat.reduceEqDiff,ite_true,ite_false,true_and,reduceCtorEq]
  refine Zat (sp_pandectref29_Days l hs hd) ?_
  skip
  rw [hi]
  generalize bpS l = B at hbl ⊢
  refine Zad ?_
  refine Zad (Zaa [0,5,6,7] ?_)
  simp only [Zab,Zac,Zaf,pok,pval,VA.ev,Env.get,Env.put,Env.keep,Zae,Nat.succ_ne_self,Nat.reduceEqDiff,ite_true,ite_false,true_and,reduceCtorEq]
  refine Zaj ?_
  refine Za6 (σ:={ k:Nat // k ≤ B.length }) (fun x=>([(0,pI a),(5,pI (-1 + ((B.take x.1).countP (fun x=>decide (x ≤ a)):Nat))),(6,.sl 1 (B.map c.Za2)),(7,pI x.1)],⟨[],0⟩)) (fun x=>B.length - x.1) ⟨0,Nat.zero_le _⟩ ?_ ?_ ?_
  · simp only [Env.get,Nat.succ_ne_self,Env.le,List.take,Nat.reduceEqDiff,ite_true,ite_false,true_and,and_true,reduceCtorEq]
    exact ⟨by simp [List.countP_nil],rfl⟩
  · simp only [Heap.le,HL.le,Nat.le_refl,and_true]
  rintro ⟨k,hk⟩
  simp only []
  have hcl:((B.take k).countP (fun x=>decide (x ≤ a))) ≤ k:=Nat.le_trans List.countP_le_length (by simp; omega)
  refine Zad ?_
  refine Zad (Zaa [0,5,6,7,19] ?_)
  simp only [Zab,Zac,Zaf,pok,pval,VA.ev,Env.get,Env.put,Env.keep,Zae,intV,binV,Zah,lenV,Zba,Heap.le,HL.le,Nat.succ_ne_self,Env.le,Nat.reduceEqDiff,ite_true,ite_false,true_and,and_true,reduceCtorEq,List.length_map]
  refine Zai rfl (fun h1=>?_) (fun h1=>?_)
  · have ka:k < B.length:=by simp only [decide_eq_true_eq] at h1; omega
    have hst:=countP_step (p:=fun x=>decide (x ≤ a)) ka
    refine Zak ?_
    try simp only [Zae]
    refine Zad ?_
    refine Zaj ?_
    refine Zad (Zaa [0,5,6,7,27] ?_)
    simp only [Zab,Zac,Zaf,pok,pval,VA.ev,Env.get,Env.put,Env.keep,Zae,aggV,intV,binV,Zah,isInt,numOf,lenV,Zag,Zap,Za0,Zas,PV.nth,PV.row,Nat.le_refl,Nat.succ_ne_self,List.length,List.getD_cons_zero,List.take,List.take_succ_cons,Nat.reduceEqDiff,Bool.false_eq_true,ite_true,ite_false,true_and,and_true,implies_true,reduceCtorEq,Nat.zero_add,List.length_cons,Int.toNat_natCast,List.length_map,rowm ka,c.Za2]
    repeat (with_reducible refine And.intro ?_ ?_; first | omega | (with_reducible constructor <;> omega) | exact False.elim | exact True.intro)
    refine Zai rfl (fun h2=>?_) (fun h2=>?_)
    · rw [if_pos h2] at hst
      refine Zaa [0,5,6,7] ?_
      simp only [Zab,Zac,Zaf,pok,pval,VA.ev,Env.get,Env.put,Env.keep,Zae,Zal,intV,binV,Zah,Nat.succ_ne_self,Nat.reduceEqDiff,ite_true,ite_false,true_and,reduceCtorEq,w64 (n:=-1 + ((B.take k).countP (fun x=>decide (x ≤ a)):Nat) + 1) (by omega) (by omega)]
      refine Zaa [0,5,6,7] ?_
      simp only [Zab,Zac,Zaf,pok,pval,VA.ev,Env.get,Env.put,Env.keep,Zae,intV,binV,Zah,Nat.le_refl,Nat.succ_ne_self,Nat.reduceEqDiff,ite_true,ite_false,true_and,reduceCtorEq,ad1 (a:=k) (by omega)]
      refine ⟨⟨k + 1,ka⟩,?_⟩
      simp only [and_true]
      rw [hst]
      exact ⟨by simp only [pI]; congr 1; omega,by omega⟩
    · rw [if_neg (by simpa using h2)] at hst
      refine Zak ?_
      try simp only [Zae,Zal]
      refine Zaa [0,5,6,7] ?_
      simp only [Zab,Zac,Zaf,pok,pval,VA.ev,Env.get,Env.put,Env.keep,Zae,intV,binV,Zah,Nat.le_refl,Nat.succ_ne_self,Nat.reduceEqDiff,ite_true,ite_false,true_and,reduceCtorEq,ad1 (a:=k) (by omega)]
      refine ⟨⟨k + 1,ka⟩,?_⟩
      simp only [and_true]
      rw [hst]
      exact ⟨by simp only [pI]; congr 1,by omega⟩
  · simp only [decide_eq_false_iff_not] at h1
    obtain rfl:k = B.length:=by omega
    rw [List.take_length]
    refine Za4 ?_
    try simp only [Zae,Zal,retQ,ite_true]
    refine Zad (Zaa [4] ?_)
    simp only [Zab,Zac,Zaf,pok,pval,VA.ev,Env.get,Env.put,Env.keep,Zae,Nat.succ_ne_self,Nat.reduceEqDiff,ite_true,ite_false,true_and,reduceCtorEq]
    refine Zaq ?_
    try simp only [Env.get,retQ,resV,Zau,RS.ev,RS.ok,ite_true,true_and,and_true]
    exact View.refl _ _
end Go.Proofs.YtehokmhebnkfdaaGreat.w
