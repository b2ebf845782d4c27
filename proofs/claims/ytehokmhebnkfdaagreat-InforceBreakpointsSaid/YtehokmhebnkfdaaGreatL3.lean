import Derived.Test.YtehokmhebnkfdaaGreatJ5
import Derived.Test.YtehokmhebnkfdaaGreatL2
set_option linter.all false
namespace Go.Proofs.YtehokmhebnkfdaaGreat.w
open Go Go.VM
set_option maxRecDepth 20000
set_option maxHeartbeats 0
set_option pp.deepTerms false
def Zcl:VC:=(.seq (.region [ZO 8 (.mv (.c (.bool false)))] false) (.seq (.seq (.region [ZO 11 (.call 9 []),ZO 12 (.un .not (.t 11))] false) (.cond (.t 12) (.seq (.region [ZO 8 (.mv (.c (.bool false)))] false) .ret) .skip)) (.seq (.seq (.region [ZM 13 0,ZO 14 (.call 10 [(.t 13)]),ZO 15 (.un .not (.t 14)),ZM 16 15,ZG 17 (.mv (.t 3)) 16 false,ZG 18 (.len true (.t 17)) 16 false,ZG 19 (.bin .gtr (.t 18) (.c (.int .i64 100))) 16 false,ZO 20 (.pick (.t 16) (.c (.bool true)) (.t 19))] false) (.cond (.t 20) (.seq (.region [ZO 8 (.mv (.c (.bool true)))] false) .ret) .skip)) (.seq (.region [ZM 21 1,ZM 22 0,ZO 23 (.call 24 [(.t 21),(.t 22)]),ZM 24 2,ZM 25 0,ZO 26 (.call 24 [(.t 24),(.t 25)]),ZM 9 23,ZM 10 26] false) (.seq (.seq (.region [ZM 27 0,ZO 28 (.call 26 [(.t 27)]),ZM 29 0,ZO 30 (.call 27 [(.t 29)]),ZO 31 (.call 25 [(.t 28),(.t 30)]),ZO 32 (.un .not (.t 31)),ZM 33 32,ZG 34 (.mv (.t 9)) 33 false,ZG 35 (.mv (.t 1)) 33 false,ZG 36 (.mv (.t 0)) 33 false,ZG 37 (.call 28 [(.t 35),(.t 36)]) 33 false,ZG 38 (.bin .neq (.t 34) (.t 37)) 33 false,ZO 39 (.pick (.t 33) (.c (.bool true)) (.t 38)),ZM 40 39,ZG 41 (.mv (.t 10)) 40 false,ZG 42 (.mv (.t 2)) 40 false,ZG 43 (.mv (.t 0)) 40 false,ZG 44 (.call 28 [(.t 42),(.t 43)]) 40 false,ZG 45 (.bin .neq (.t 41) (.t 44)) 40 false,ZO 46 (.pick (.t 40) (.c (.bool true)) (.t 45))] false) (.cond (.t 46) (.seq (.region [ZO 8 (.mv (.c (.bool false)))] false) .ret) .skip)) (.seq (.region [ZM 47 9,ZM 48 10,ZO 49 (.bin .neq (.t 47) (.t 48)),ZM 50 49,ZG 51 (.mv (.t 9)) 50 false,ZG 52 (.bin .lss (.t 51) (.c (.int .i64 0))) 50 false,ZO 53 (.pick (.t 50) (.c (.bool true)) (.t 52)),ZM 54 53,ZG 55 (.mv (.t 1)) 54 false,ZG 56 (.mv (.t 3)) 54 false,ZG 57 (.mv (.t 0)) 54 false,ZG 58 (.call 11 [(.t 55),(.t 56),(.t 57)]) 54 false,ZG 59 (.mv (.t 2)) 54 false,ZG 60 (.mv (.t 3)) 54 false,ZG 61 (.mv (.t 0)) 54 false,ZG 62 (.call 11 [(.t 59),(.t 60),(.t 61)]) 54 false,ZG 63 (.call 13 [(.t 58),(.t 62)]) 54 false,ZO 64 (.pick (.t 54) (.c (.bool true)) (.t 63)),ZM 8 64] false) .ret))))))
theorem mem_bpS (l:List Gz) (x:Int):x ∈ bpS l ↔ x = 0 ∨ ∃ d ∈ chgS l,x ∈ c.edges (Zdc l d):=by
  rw [bp_fold,(fold_put _ [0] (List.pairwise_singleton _ _)).2]
  simp
theorem cnt_lt {a b p:Int} (h1:a < p) (h2:p ≤ b):∀ {B:List Int},p ∈ B → B.countP (fun x=>decide (x ≤ a)) < B.countP (fun x=>decide (x ≤ b))
  | y :: B,h=>by
    have hm:B.countP (fun x=>decide (x ≤ a)) ≤ B.countP (fun x=>decide (x ≤ b)):=List.countP_mono_left fun x _ hx=>by simp only [decide_eq_true_eq] at hx ⊢; omega
    rw [List.countP_cons,List.countP_cons]
    rcases List.mem_cons.1 h with rfl | h
    · rw [if_neg (by simp; omega),if_pos (by simp; omega)]; omega
    · have ih:=cnt_lt h1 h2 h
      by_cases hy:y ≤ a
      · rw [if_pos (by simpa using hy),if_pos (by simp; omega)]; omega
      · rw [if_neg (by simpa using hy)]; split <;> omega
theorem on_same_le (l:List Gz) (purpose:Str) {a b:Int} (hab:a ≤ b) (hb:b ≤ 1048576) (hc:(bpS l).countP (fun x=>decide (x ≤ a)) = (bpS l).countP (fun x=>decide (x ≤ b))):onS l a purpose = onS l b purpose:=by
  have hno:∀ p ∈ bpS l,¬ (a < p ∧ p ≤ b):=fun p hp ⟨h1,h2⟩=>by have:=cnt_lt h1 h2 hp; omega
  unfold onS
  refine List.filter_congr fun d hd=>?_
  unfold onB
  congr 1
  rw [Bool.eq_iff_iff,c.Zds,c.Zds]
  constructor
  · rintro ⟨s,hs,h1,h2⟩
    refine ⟨s,hs,by omega,?_⟩
    by_cases h3:b < s.to
    · exact h3
    · refine absurd ⟨h2,by omega⟩ (hno s.to ((mem_bpS l _).2 (.inr ⟨d,hd,?_⟩)))
      exact List.mem_flatMap.2 ⟨s,hs,by rw [if_pos (by omega)]; simp⟩
  · rintro ⟨s,hs,h1,h2⟩
    refine ⟨s,hs,?_,by omega⟩
    by_cases h3:s.frm ≤ a
    · exact h3
    · refine absurd ⟨by omega,h1⟩ (hno s.frm ((mem_bpS l _).2 (.inr ⟨d,hd,?_⟩)))
      exact List.mem_flatMap.2 ⟨s,hs,by simp⟩
theorem on_same (l:List Gz) (purpose:Str) {a b:Int} (h:interS l a = interS l b) (h0:¬ interS l a < 0):onS l a purpose = onS l b purpose:=by
  unfold interS at h h0
  split at h
  · rename_i h1; rw [if_pos h1] at h0; omega
  · rename_i h1
    rw [if_neg h1] at h0
    split at h
    · omega
    · rcases Int.le_total a b with hab | hab
      · exact on_same_le l purpose hab (by omega) (by omega)
      · exact (on_same_le l purpose hab (by omega) (by omega)).symm
theorem law_InforceBreakpoints (l:List Gz) (a b:Int) (purpose:Str) (hok:okL Gz.okZ l) (_:i64 a) (_:i64 b) (_:okS purpose) (_:l.length * 56 ≤ 140737488351232):Zbq Tryz.prog 7 [.sl 4 (l.map Gz.enc),pI a,pI b,.str purpose] (.bool true):=by
  refine Zao ?_ (cB _) (by simp only [Za1,List.mem_cons,List.not_mem_nil,or_false,forall_eq_or_imp,forall_eq,false_implies,implies_true]; repeat' (first  | exact cI _ | exact cS _ | exact cB _ | exact Zbw _ | exact Za9 (by simp only [List.mem_cons,List.not_mem_nil,or_false,forall_eq]; first | exact cI _ | exact cS _ | exact Zav _) | refine And.intro ?_ ?_))
  refine Zar (vc:=Zcl) (ts:=[.t 8]) Go.Proofs.Tryz.func7 (by kernel_rfl) rfl rfl (Nat.le_of_ble_eq_true rfl) (by kernel_rfl) ?_
  unfold Zcl
  try dsimp only [ZM,ZO,ZN,ZG]
  refine Zad (Zaa [0,1,2,3] ?_)
  simp only [Zab,Zac,Zaf,pok,pval,VA.ev,Env.get,Env.put,Env.keep,Za3,Zae,Heap.nil,Nat.succ_ne_self,Nat.reduceEqDiff,Nat.reduceAdd,ite_true,ite_false,true_and,reduceCtorEq,Nat.zero_add]
  refine Zad ?_
  refine Zad (Zaa [0,1,2,3,12] ?_)
  simp only [Zab,Zac,Zaf,pok,pval,VA.ev,Env.get,Env.put,Env.keep,Zae,unV,unOk,Nat.succ_ne_self,List.map,Nat.reduceEqDiff,ite_true,ite_false,reduceCtorEq]
  refine Zat awake ?_
  try simp only [true_and,Bool.not_true]
  refine Zai rfl (fun h=>by cases h) (fun _=>?_)
  refine Zak ?_
  try simp only [Zae]
  refine Zad ?_
  refine Zad (VW_mid (σ:={ b:Bool // b = false → Nice l ∧ FewG 30 l }) (fun z=>([(0,.sl 4 (l.map Gz.enc)),(1,pI a),(2,pI b),(3,.str purpose),(20,.bool z.1)],⟨[],0⟩)) (Zaa [0,1,2,3,20] ?_) (fun z=>?_))
  · simp only [midQ,Zac,Zaf,pok,pval,VA.ev,Env.get,Env.put,Env.keep,unV,unOk,Heap.le,HL.le,Nat.succ_ne_self,Env.le,List.map,Nat.reduceEqDiff,ite_true,ite_false,true_and,and_true,reduceCtorEq]
    refine Zdg (sp_pandectlaw29_few l hok) ?_
    rintro p ⟨b,rfl,hb⟩
    cases b
    · simp only [Zab,Zac,Zbb,Zaf,pok,pval,VA.ev,Env.get,Env.put,Zaw,isBool,Nat.le_refl,Nat.succ_ne_self,Nat.reduceEqDiff,ite_true,ite_false,true_and,and_true,reduceCtorEq,Bool.not_false]
      refine ⟨⟨true,fun h=>by cases h⟩,?_⟩
      try simp only []
      all_goals (repeat' (first | rfl | trivial | omega | (simp only []; omega) | refine And.intro ?_ ?_))
    · simp only [Zab,Zac,Zaz,Zaf,pok,pval,VA.ev,Env.get,Env.put,Zaw,isBool,intV,binV,Zah,lenV,Zba,Nat.le_refl,Nat.succ_ne_self,Nat.reduceEqDiff,Bool.false_eq_true,ite_true,ite_false,true_and,and_true,reduceCtorEq,Bool.not_true]
      refine ⟨⟨decide ((100:Int) < (purpose.length:Int)),fun _=>hb rfl⟩,?_⟩
      try simp only []
      all_goals (repeat' (first | rfl | trivial | omega | (simp only []; omega) | refine And.intro ?_ ?_))
  obtain ⟨z,hb⟩:=z
  simp only []
  refine Zai rfl (fun h1=>?_) (fun h1=>?_)
  · refine Zad (Zaa [8] ?_)
    simp only [Zab,Zac,Zaf,pok,pval,VA.ev,Env.get,Env.put,Env.keep,Zae,Nat.reduceEqDiff,ite_true,ite_false,true_and,reduceCtorEq]
    refine Zaq ?_
    try simp only [Env.get,Zae,retQ,resV,Zau,RS.ev,RS.ok,ite_true,true_and,and_true]
    exact View.refl _ _
  obtain ⟨hn,hf⟩:=hb h1
  have hd:=hn.dds hf
  have hbl:=bpS_len l (by omega)
  have hon:∀ x,(onS l x purpose).length ≤ 30:=fun x=>Nat.le_trans (on_sub l x purpose).length_le hd
  refine Zak ?_
  try simp only [Zae]
  refine Zad (Zaa [0,1,2,3,9,10] ?_)
  simp only [Zab,Zac,Zaf,pok,pval,VA.ev,Env.get,Env.put,Env.keep,Zae,Nat.succ_ne_self,List.map,Nat.reduceEqDiff,ite_true,ite_false,true_and,reduceCtorEq]
  refine Zat (sp_inforce_Interval a l hn.smal (by omega)) ?_
  skip
  refine Zat (sp_inforce_Interval b l hn.smal (by omega)) ?_
  skip
  refine Zad ?_
  refine Zad (Zaa [0,1,2,3,9,10,46] ?_)
  simp only [Zac,Zaf,pok,pval,VA.ev,Env.get,Env.put,Env.keep,Zae,unV,unOk,Nat.succ_ne_self,List.map,Nat.reduceEqDiff,ite_true,ite_false,true_and,reduceCtorEq]
  refine Zat (Zc1 l hn.smal (by omega)) ?_
  skip
  refine Zat (sp_pandectref29_Days l hn.smal (by omega)) ?_
  skip
  refine Zat (sp_pandectref05_Ints _ (by omega)) ?_
  try simp only [Zac,Zaz,Zaf,pok,pval,VA.ev,Env.get,Env.put,Zaw,isBool,intV,binV,Zah,strV,Nat.succ_ne_self,List.map,Nat.reduceEqDiff,Bool.false_eq_true,ite_true,ite_false,true_and,reduceCtorEq,Bool.not_true]
  refine Zat (sp_pandectref29_Class a l hn.smal (by omega)) ?_
  try simp only [Zab,Zac,Zaz,Zaf,pok,pval,VA.ev,Env.get,Env.put,Zaw,isBool,intV,binV,Zah,strV,Nat.succ_ne_self,List.map,Nat.reduceEqDiff,Bool.false_eq_true,ite_true,ite_false,true_and,reduceCtorEq,bne_self_eq_false]
  refine Zat (sp_pandectref29_Class b l hn.smal (by omega)) ?_
  try simp only [true_and,bne_self_eq_false]
  refine Zai rfl (fun h=>by cases h) (fun _=>?_)
  refine Zak ?_
  try simp only [Zae]
  refine Zad (Zaa [8] ?_)
  by_cases e1:interS l a = interS l b
  · rw [← e1]
    cases e2:decide (interS l a < 0)
    · have hs:=on_same l purpose e1 (by simpa using e2)
      simp only [Zab,Zac,Zaz,Zaf,pok,pval,VA.ev,Env.get,Env.put,Env.keep,Zae,Zaw,isBool,intV,binV,Zah,Nat.succ_ne_self,List.map,Nat.reduceEqDiff,Bool.false_eq_true,ite_true,ite_false,true_and,reduceCtorEq,bne_self_eq_false,e2]
      refine Zat (Zdh a purpose l hn.smal (by omega)) ?_
      skip
      refine Zat (Zdh b purpose l hn.smal (by omega)) ?_
      rw [← hs]
      skip
      refine Zat (sp_pandectref28_Rows _ (by have:=hon a; omega) (hn.on_ok a purpose)) ?_
      skip
      refine Zaq ?_
      try simp only [Env.get,retQ,resV,Zau,RS.ev,RS.ok,ite_true,true_and,and_true]
      exact View.refl _ _
    · simp only [Zab,Zac,Zaz,Zbb,Zaf,pok,pval,VA.ev,Env.get,Env.put,Env.keep,Zae,Zaw,isBool,intV,binV,Zah,Nat.succ_ne_self,Nat.reduceEqDiff,Bool.false_eq_true,ite_true,ite_false,true_and,reduceCtorEq,bne_self_eq_false,e2]
      refine Zaq ?_
      try simp only [Env.get,retQ,resV,Zau,RS.ev,RS.ok,ite_true,true_and,and_true]
      exact View.refl _ _
  · have e3:(interS l a != interS l b) = true:=by simpa using e1
    simp only [Zab,Zac,Zbb,Zaf,pok,pval,VA.ev,Env.get,Env.put,Env.keep,Zae,Zaw,isBool,intV,binV,Zah,Nat.succ_ne_self,Nat.reduceEqDiff,ite_true,ite_false,true_and,reduceCtorEq,e3]
    refine Zaq ?_
    try simp only [Env.get,retQ,resV,Zau,RS.ev,RS.ok,ite_true,true_and,and_true]
    exact View.refl _ _
end Go.Proofs.YtehokmhebnkfdaaGreat.w
