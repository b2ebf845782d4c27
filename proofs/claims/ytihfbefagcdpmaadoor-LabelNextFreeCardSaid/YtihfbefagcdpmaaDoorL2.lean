/-
  Walks: the law LabelNextFree.
-/
import Derived.Test.YtihfbefagcdpmaaDoorR3
set_option linter.all false
namespace Go.Proofs.YtihfbefagcdpmaaDoor.w
open Go Go.VM
set_option maxRecDepth 20000
set_option maxHeartbeats 0
set_option pp.deepTerms false
def c_pandectlaw03_few : VC := (.seq (.region [⟨(some 2), (.mv (.c (.bool false))), none⟩] false) (.seq (.seq (.region [⟨(some 3), (.mv (.c (.int .i64 0))), none⟩] false) (.block 0 (.loop (.seq (.seq (.region [⟨(some 4), (.mv (.t 3)), none⟩, ⟨(some 5), (.mv (.t 0)), none⟩, ⟨(some 6), (.len false (.t 5)), none⟩, ⟨(some 7), (.bin .lss (.t 4) (.t 6)), none⟩] false) (.cond (.t 7) .skip (.exit 0))) (.seq (.block 1 (.seq (.region [⟨(some 10), (.mv (.t 0)), none⟩, ⟨(some 11), (.mv (.t 3)), none⟩, ⟨(some 12), (.iaddr 1 (.t 10) (.t 11)), none⟩, ⟨(some 13), (.load false 1 (.t 12)), none⟩, ⟨(some 14), (.len true (.t 13)), none⟩, ⟨(some 15), (.bin .gtr (.t 14) (.c (.int .i64 40))), none⟩] false) (.cond (.t 15) (.seq (.region [⟨(some 2), (.mv (.c (.bool false))), none⟩] false) .ret) .skip))) (.region [⟨(some 8), (.mv (.t 3)), none⟩, ⟨(some 9), (.bin .add (.t 8) (.c (.int .i64 1))), none⟩, ⟨(some 3), (.mv (.t 9)), none⟩] false)))))) (.seq (.region [⟨(some 16), (.mv (.t 0)), none⟩, ⟨(some 17), (.len false (.t 16)), none⟩, ⟨(some 18), (.bin .leq (.t 17) (.c (.int .i64 60))), none⟩, ⟨(some 2), (.mv (.t 18)), none⟩] false) .ret)))
def c_pandectlaw03_LabelNextFree : VC := (.seq (.region [⟨(some 4), (.mv (.c (.bool false))), none⟩] false) (.seq (.seq (.region [⟨(some 11), (.call 10 []), none⟩, ⟨(some 12), (.un .not (.t 11)), none⟩, ⟨(some 13), (.mv (.t 12)), none⟩, ⟨(some 14), (.mv (.t 0)), (some (13, false))⟩, ⟨(some 15), (.call 21 [(.t 14)]), (some (13, false))⟩, ⟨(some 16), (.un .not (.t 15)), (some (13, false))⟩, ⟨(some 17), (.pick (.t 13) (.c (.bool true)) (.t 16)), none⟩, ⟨(some 18), (.mv (.t 17)), none⟩, ⟨(some 19), (.mv (.t 1)), (some (18, false))⟩, ⟨(some 20), (.len true (.t 19)), (some (18, false))⟩, ⟨(some 21), (.bin .gtr (.t 20) (.c (.int .i64 40))), (some (18, false))⟩, ⟨(some 22), (.pick (.t 18) (.c (.bool true)) (.t 21)), none⟩] false) (.cond (.t 22) (.seq (.region [⟨(some 23), (.call 10 []), none⟩, ⟨(some 4), (.mv (.t 23)), none⟩] false) .ret) .skip)) (.seq (.region [⟨(some 25), (.mv (.t 0)), none⟩, ⟨(some 26), (.mv (.t 1)), none⟩, ⟨(some 27), (.call 22 [(.t 25), (.t 26)]), none⟩, ⟨(some 24), (.mv (.t 27)), none⟩, ⟨(some 28), (.ext (.t 24) 0), none⟩, ⟨(some 29), (.ext (.t 24) 1), none⟩, ⟨(some 5), (.mv (.t 28)), none⟩, ⟨(some 6), (.mv (.t 29)), none⟩] false) (.seq (.region [⟨(some 30), (.mv (.t 0)), none⟩, ⟨(some 31), (.mv (.t 1)), none⟩, ⟨(some 32), (.call 23 [(.t 30), (.t 31)]), none⟩, ⟨(some 7), (.mv (.t 32)), none⟩] false) (.seq (.seq (.region [⟨(some 33), (.mv (.t 5)), none⟩, ⟨(some 34), (.mv (.t 7)), none⟩, ⟨(some 35), (.bin .neq (.t 33) (.t 34)), none⟩, ⟨(some 36), (.mv (.t 35)), none⟩, ⟨(some 37), (.mv (.t 6)), (some (36, false))⟩, ⟨(some 38), (.mv (.t 7)), (some (36, false))⟩, ⟨(some 39), (.bin .neq (.t 38) (.c (.str []))), (some (36, false))⟩, ⟨(some 40), (.binb .neq (.t 37) (.t 39)), (some (36, false))⟩, ⟨(some 41), (.pick (.t 36) (.c (.bool true)) (.t 40)), none⟩, ⟨(some 42), (.mv (.t 41)), none⟩, ⟨(some 43), (.mv (.t 6)), (some (42, false))⟩, ⟨(some 44), (.mv (.t 43)), (some (42, false))⟩, ⟨(some 45), (.mv (.t 0)), (some (44, true))⟩, ⟨(some 46), (.mv (.t 5)), (some (44, true))⟩, ⟨(some 47), (.call 24 [(.t 45), (.t 46)]), (some (44, true))⟩, ⟨(some 48), (.pick (.t 44) (.t 47) (.c (.bool false))), (some (42, false))⟩, ⟨(some 49), (.pick (.t 42) (.c (.bool true)) (.t 48)), none⟩] false) (.cond (.t 49) (.seq (.region [⟨(some 4), (.mv (.c (.bool false))), none⟩] false) .ret) .skip)) (.seq (.seq (.region [⟨(some 50), (.mv (.t 1)), none⟩, ⟨(some 8), (.mv (.t 50)), none⟩] false) (.block 0 (.loop (.seq (.seq (.region [⟨(some 51), (.mv (.t 6)), none⟩, ⟨(some 52), (.mv (.t 51)), none⟩, ⟨(some 53), (.mv (.t 8)), (some (52, true))⟩, ⟨(some 54), (.mv (.t 5)), (some (52, true))⟩, ⟨(some 55), (.bin .neq (.t 53) (.t 54)), (some (52, true))⟩, ⟨(some 56), (.pick (.t 52) (.t 55) (.c (.bool false))), none⟩] false) (.cond (.t 56) .skip (.exit 0))) (.block 1 (.seq (.seq (.region [⟨(some 57), (.mv (.t 0)), none⟩, ⟨(some 58), (.mv (.t 8)), none⟩, ⟨(some 59), (.call 24 [(.t 57), (.t 58)]), none⟩, ⟨(some 60), (.un .not (.t 59)), none⟩] false) (.cond (.t 60) (.seq (.region [⟨(some 4), (.mv (.c (.bool false))), none⟩] false) .ret) .skip)) (.seq (.region [⟨(some 62), (.mv (.t 8)), none⟩, ⟨(some 63), (.call 17 [(.t 62)]), none⟩, ⟨(some 61), (.mv (.t 63)), none⟩, ⟨(some 64), (.ext (.t 61) 0), none⟩, ⟨(some 65), (.ext (.t 61) 1), none⟩, ⟨(some 9), (.mv (.t 64)), none⟩, ⟨(some 10), (.mv (.t 65)), none⟩] false) (.seq (.seq (.region [⟨(some 66), (.mv (.t 10)), none⟩, ⟨(some 67), (.un .not (.t 66)), none⟩] false) (.cond (.t 67) (.seq (.region [⟨(some 4), (.mv (.c (.bool false))), none⟩] false) .ret) .skip)) (.region [⟨(some 68), (.mv (.t 9)), none⟩, ⟨(some 8), (.mv (.t 68)), none⟩] false))))))))) (.seq (.region [⟨(some 4), (.mv (.c (.bool true))), none⟩] false) .ret)))))))
def fewL (l : List Str) : Bool := decide (l.length ≤ 60) && l.all fun s => decide (s.length ≤ 40)
theorem all_pre {l : List Str} (h : ∀ (j : Nat) (hj : j < l.length), l[j].length ≤ 40) : (l.all fun s => decide (s.length ≤ 40)) = true := by
  rw [List.all_eq_true]
  intro s hs
  obtain ⟨j, hj, rfl⟩ := List.mem_iff_getElem.1 hs
  exact decide_eq_true (h j hj)
theorem sp_pandectlaw03_few (l : List Str) (hl : l.length ≤ 9000000000000) : PCall Tryd.prog 21 [It.strs l] (.bool (fewL l)) := by
  unfold It.strs
  refine PCall_intro ?_ (cB _) (by simp only [ClosedL, List.mem_cons, List.not_mem_nil, or_false, forall_eq_or_imp, forall_eq, false_implies, implies_true]; repeat' (first | exact cI _ | exact cS _ | exact cB _ | exact closed_fn0 _ | exact closed_nilsl | exact closed_agg (Un.closed _) | exact closed_agg (It.closed _) | exact closed_agg (EI.closed _) | exact closed_agg (Ac.closed _) | exact closed_agg (Wd.closed _) | exact closed_agg (St.closed _) | exact closed_agg (Sta.closed _) | exact closed_eis _ | exact closed_acs _ | exact closed_gzs _ | exact Closed.of_scalar (scalar_int _ _) | exact closed_ro (Ac.closed _) | exact closed_ro (Gz.closed _) | exact closed_agg (Gz.closed _) | exact closed_strs _ | exact closed_map (fun w _ => Wd.closed w) | exact closed_map (fun w _ => St.closed w) | exact closed_map (fun w _ => Un.closed w) | exact closed_map (fun w _ => It.closed w) | exact closed_sc _ | exact closed_sps _ | exact closed_agg (Sp.closed _) | exact closed_ro (EI.closed _) | exact closed_ro (Sta.closed _) | exact closed_ro (It.closed _) | exact closed_ro (by simp only [List.mem_cons, List.not_mem_nil, or_false, forall_eq]; first | exact cI _ | exact cS _ | exact closed_eis _) | refine And.intro ?_ ?_))
  refine ACall_fn (vc := c_pandectlaw03_few) (ts := [.t 2]) Go.Proofs.Tryd.func21 (by kernel_rfl) rfl rfl (Nat.le_of_ble_eq_true rfl) (by kernel_rfl) ?_
  unfold c_pandectlaw03_few
  refine VW_seq (VW_region [0] ?_)
  simp only [OpsW_nil, OpsW_n, StepW, pok, pval, VA.ev, Env.get, Env.put, Env.keep, argEnv, thenQ, Heap.nil, ite_true, ite_false, true_and, reduceCtorEq]
  refine VW_seq ?_
  refine VW_seq (VW_region [0, 3] ?_)
  simp only [OpsW_nil, OpsW_n, StepW, pok, pval, VA.ev, Env.get, Env.put, Env.keep, thenQ, ite_true, ite_false, true_and, reduceCtorEq]
  refine VW_block ?_
  refine VW_loop (σ := { k : Nat // k ≤ l.length ∧ ∀ (j : Nat) (hj : j < l.length), j < k → l[j].length ≤ 40 }) (fun x => ([(0, .sl 1 (l.map fun s => [.str s])), (3, pI x.1)], ⟨[], 0⟩)) (fun x => l.length - x.1) ⟨0, Nat.zero_le _, fun j _ h => by cases h⟩ ?_ ?_ ?_
  · simp only [Env.get, Env.le, ite_true, ite_false, true_and, and_true, reduceCtorEq]
    rfl
  · simp only [Heap.le, HL.le, Nat.le_refl, and_true]
  rintro ⟨k, hk, hpre⟩
  simp only []
  refine VW_seq ?_
  refine VW_seq (VW_region [0, 3, 7] ?_)
  simp only [OpsW_nil, OpsW_n, StepW, pok, pval, VA.ev, Env.get, Env.put, Env.keep, thenQ, intV, binV, binOk, lenV, lenOk, Heap.le, HL.le, Nat.succ_ne_self, Env.le, Nat.reduceEqDiff, ite_true, ite_false, true_and, and_true, reduceCtorEq, List.length_map]
  refine VW_cond rfl (fun h1 => ?_) (fun h1 => ?_)
  · have ka : k < l.length := by simp only [decide_eq_true_eq] at h1; omega
    refine VW_skip ?_
    try simp only [thenQ]
    refine VW_seq ?_
    refine VW_block ?_
    refine VW_seq (VW_region [0, 3, 15] ?_)
    simp only [OpsW_nil, OpsW_n, StepW, pok, pval, VA.ev, Env.get, Env.put, Env.keep, thenQ, aggV, intV, binV, binOk, isInt, numOf, lenV, locCells, locOk, iaddrV, iaddrOk, lenOk, PV.nth, PV.row, Nat.le_refl, Nat.succ_ne_self, List.length, List.getD_cons_zero, List.take, List.take_succ_cons, Nat.reduceEqDiff, Bool.false_eq_true, ite_true, ite_false, true_and, and_true, implies_true, reduceCtorEq, Nat.zero_add, List.length_cons, Int.toNat_natCast, List.length_map, rowm ka]
    repeat (with_reducible refine And.intro ?_ ?_; first | omega | (with_reducible constructor <;> omega) | exact False.elim | exact True.intro)
    refine VW_cond rfl (fun h2 => ?_) (fun h2 => ?_)
    · refine VW_seq (VW_region [2] ?_)
      simp only [OpsW_nil, OpsW_n, StepW, pok, pval, VA.ev, Env.get, Env.put, Env.keep, thenQ, Nat.succ_ne_self, Nat.reduceEqDiff, ite_true, ite_false, true_and, reduceCtorEq]
      refine VW_ret ?_
      try simp only [Env.get, thenQ, blockQ, retQ, resV, resOk, RS.ev, RS.ok, ite_true, true_and, and_true]
      have h2' : 40 < l[k].length := by simp only [decide_eq_true_eq] at h2; omega
      have e : fewL l = false := by
        unfold fewL
        cases h : (l.all fun s => decide (s.length ≤ 40)) with
        | false => rw [Bool.and_false]
        | true =>
          have := of_decide_eq_true (List.all_eq_true.1 h l[k] (List.getElem_mem ka))
          omega
      rw [e]
      exact View.refl _ _
    refine VW_skip ?_
    try simp only [thenQ, blockQ]
    have h2' : l[k].length ≤ 40 := by simp only [decide_eq_false_iff_not] at h2; omega
    refine VW_region [0, 3] ?_
    simp only [OpsW_nil, OpsW_n, StepW, pok, pval, VA.ev, Env.get, Env.put, Env.keep, thenQ, intV, binV, binOk, Nat.le_refl, Nat.reduceEqDiff, ite_true, ite_false, true_and, reduceCtorEq, w64 (n := (k : Int) + 1) (by omega) (by omega)]
    refine ⟨⟨k + 1, ka, fun j hj hjk => ?_⟩, ?_, ?_⟩
    · by_cases e : j = k
      · subst e; exact h2'
      · exact hpre j hj (by omega)
    · rfl
    · simp only []; omega
  · have ka : k = l.length := by simp only [decide_eq_false_iff_not] at h1; omega
    refine VW_exit ?_
    try simp only [thenQ, blockQ, retQ, ite_true]
    refine VW_seq (VW_region [2] ?_)
    simp only [OpsW_nil, OpsW_n, StepW, pok, pval, VA.ev, Env.get, Env.put, Env.keep, thenQ, intV, binV, binOk, lenV, lenOk, Nat.succ_ne_self, Nat.reduceEqDiff, ite_true, ite_false, true_and, reduceCtorEq, List.length_map]
    refine VW_ret ?_
    try simp only [Env.get, retQ, resV, resOk, RS.ev, RS.ok, ite_true, true_and, and_true]
    have e : fewL l = decide ((l.length : Int) ≤ 60) := by
      unfold fewL
      rw [all_pre (fun j hj => hpre j hj (by omega)), Bool.and_true]
      by_cases h : l.length ≤ 60
      · rw [decide_eq_true h, decide_eq_true (by omega)]
      · rw [decide_eq_false h, decide_eq_false (by omega)]
    rw [e]
    exact View.refl _ _
theorem few_short {l : List Str} (h : fewL l = true) : l.length ≤ 60 := by
  unfold fewL at h
  simp only [Bool.and_eq_true, decide_eq_true_eq] at h
  exact h.1
theorem free_may {l : List Str} {t : Str} : ∀ (n : Nat) (s : Str), cnt l s ≤ n → may s = true → freeS l s = some t → may t = true := by
  intro n
  induction n with
  | zero =>
    intro s hn hm h
    by_cases hs : s ∈ l
    · rw [free_in hs] at h
      cases hx : nextS s with
      | none => rw [hx] at h; cases h
      | some u => have := cnt_lt hs hx; omega
    · rw [free_out hs] at h; cases h; exact hm
  | succ n ih =>
    intro s hn hm h
    by_cases hs : s ∈ l
    · rw [free_in hs] at h
      cases hx : nextS s with
      | none => rw [hx] at h; cases h
      | some u =>
        rw [hx] at h
        have := cnt_lt hs hx
        exact ih u (by omega) (next_some hx).2.1 h
    · rw [free_out hs] at h; cases h; exact hm
theorem law_LabelNextFree (l : List Str) (s : Str) (_ : okL okS l) (_ : okS s) (z : l.length * 16 ≤ 140737488351232) : PCall Tryd.prog 8 [It.strs l, .str s] (.bool true) := by
  refine PCall_intro ?_ (cB _) (by simp only [ClosedL, List.mem_cons, List.not_mem_nil, or_false, forall_eq_or_imp, forall_eq, false_implies, implies_true]; repeat' (first | exact cI _ | exact cS _ | exact cB _ | exact closed_fn0 _ | exact closed_nilsl | exact closed_agg (Un.closed _) | exact closed_agg (It.closed _) | exact closed_agg (EI.closed _) | exact closed_agg (Ac.closed _) | exact closed_agg (Wd.closed _) | exact closed_agg (St.closed _) | exact closed_agg (Sta.closed _) | exact closed_eis _ | exact closed_acs _ | exact closed_gzs _ | exact Closed.of_scalar (scalar_int _ _) | exact closed_ro (Ac.closed _) | exact closed_ro (Gz.closed _) | exact closed_agg (Gz.closed _) | exact closed_strs _ | exact closed_map (fun w _ => Wd.closed w) | exact closed_map (fun w _ => St.closed w) | exact closed_map (fun w _ => Un.closed w) | exact closed_map (fun w _ => It.closed w) | exact closed_sc _ | exact closed_sps _ | exact closed_agg (Sp.closed _) | exact closed_ro (EI.closed _) | exact closed_ro (Sta.closed _) | exact closed_ro (It.closed _) | exact closed_ro (by simp only [List.mem_cons, List.not_mem_nil, or_false, forall_eq]; first | exact cI _ | exact cS _ | exact closed_eis _) | refine And.intro ?_ ?_))
  refine ACall_fn (vc := c_pandectlaw03_LabelNextFree) (ts := [.t 4]) Go.Proofs.Tryd.func8 (by kernel_rfl) rfl rfl (Nat.le_of_ble_eq_true rfl) (by kernel_rfl) ?_
  unfold c_pandectlaw03_LabelNextFree
  refine VW_seq (VW_region [0, 1] ?_)
  simp only [OpsW_nil, OpsW_n, StepW, pok, pval, VA.ev, Env.get, Env.put, Env.keep, argEnv, thenQ, Heap.nil, Nat.succ_ne_self, Nat.reduceEqDiff, ite_true, ite_false, true_and, reduceCtorEq, Nat.zero_add]
  refine VW_seq ?_
  refine VW_seqE (σ := { x : Bool // x = false → l.length ≤ 60 ∧ s.length ≤ 1000000 }) [0, 1, 22] (fun x => [(0, It.strs l), (1, .str s), (22, .bool x.1)]) ?_ ?_
  · have F := sp_pandectlaw03_few l (by omega)
    cases hf : fewL l <;> rw [hf] at F
    · simp only [OpsW_n, StepW, pok, pval, VA.ev, Env.get, Env.put, Env.keep, unV, unOk, Nat.succ_ne_self, Env.le, List.map, Nat.reduceEqDiff, ite_true, ite_false, true_and, and_true, reduceCtorEq]
      refine ACall_p awake ?_
      try simp only [OpsW_n, OpsW_y, StepW, pok, pval, VA.ev, Env.get, Env.put, pickV, isBool, unV, unOk, Nat.succ_ne_self, List.map, Nat.reduceEqDiff, Bool.false_eq_true, ite_true, ite_false, true_and, reduceCtorEq, Bool.not_true]
      refine ACall_p F ?_
      try simp only [OpsW_nil, OpsW_n, OpsW_xf, StepW, pok, pval, VA.ev, Env.get, Env.put, pickV, isBool, Nat.succ_ne_self, Nat.reduceEqDiff, ite_true, ite_false, true_and, and_true, reduceCtorEq, Bool.not_false]
      exact ⟨⟨true, fun h => by cases h⟩, rfl⟩
    · simp only [OpsW_n, StepW, pok, pval, VA.ev, Env.get, Env.put, Env.keep, unV, unOk, Nat.succ_ne_self, Env.le, List.map, Nat.reduceEqDiff, ite_true, ite_false, true_and, and_true, reduceCtorEq]
      refine ACall_p awake ?_
      try simp only [OpsW_n, OpsW_y, StepW, pok, pval, VA.ev, Env.get, Env.put, pickV, isBool, unV, unOk, Nat.succ_ne_self, List.map, Nat.reduceEqDiff, Bool.false_eq_true, ite_true, ite_false, true_and, reduceCtorEq, Bool.not_true]
      refine ACall_p F ?_
      try simp only [OpsW_nil, OpsW_n, OpsW_y, StepW, pok, pval, VA.ev, Env.get, Env.put, pickV, isBool, intV, binV, binOk, lenV, lenOk, Nat.succ_ne_self, Nat.reduceEqDiff, Bool.false_eq_true, ite_true, ite_false, true_and, and_true, reduceCtorEq, Bool.not_true]
      exact ⟨⟨decide ((40 : Int) < (s.length : Int)), fun h => ⟨few_short hf, by simp only [decide_eq_false_iff_not] at h; omega⟩⟩, rfl⟩
  rintro ⟨x, hx⟩
  simp only []
  refine VW_cond rfl (fun h1 => ?_) (fun h1 => ?_)
  · refine VW_seq (VW_region [4] ?_)
    simp only [OpsW_nil, OpsW_n, StepW, pok, pval, VA.ev, Env.get, Env.put, Env.keep, thenQ, List.map, Nat.reduceEqDiff, ite_true, ite_false, true_and, reduceCtorEq]
    refine ACall_p awake ?_
    skip
    refine VW_ret ?_
    try simp only [Env.get, thenQ, retQ, resV, resOk, RS.ev, RS.ok, ite_true, true_and, and_true]
    exact View.refl _ _
  obtain ⟨hl60, ls⟩ := hx h1
  have hl : l.length ≤ 1000000 := by omega
  refine VW_skip ?_
  try simp only [thenQ]
  refine VW_seq (VW_region [0, 1, 5, 6] ?_)
  simp only [OpsW_nil, OpsW_n, StepW, pok, pval, VA.ev, Env.get, Env.put, Env.keep, thenQ, extV, extOk, PV.nth, Nat.succ_ne_self, List.map, Nat.reduceEqDiff, ite_true, ite_false, true_and, reduceCtorEq]
  refine ACall_p (sp_label_NextFree l s hl ls) ?_
  try simp only [List.length, List.getD_cons_zero, List.getD_cons_succ, Nat.reduceAdd, Nat.reduceLT, true_and, Nat.zero_add, optT]
  refine VW_seq (VW_region [0, 1, 5, 6, 7] ?_)
  simp only [OpsW_nil, OpsW_n, StepW, pok, pval, VA.ev, Env.get, Env.put, Env.keep, thenQ, Nat.succ_ne_self, List.map, Nat.reduceEqDiff, ite_true, ite_false, true_and, reduceCtorEq]
  refine ACall_p (sp_pandectref03_Free l s hl ls) ?_
  try simp only [freeR]
  refine VW_seq ?_
  cases hn : nextFree l s with
  | none =>
    refine VW_seq (VW_region [0, 1, 5, 6, 49] ?_)
    simp only [OpsW_nil, OpsW_n, OpsW_y, OpsW_xt, StepW, pok, pval, VA.ev, Env.get, Env.put, Env.keep, thenQ, pickV, isBool, binV, binOk, strV, binbV, boolV, binbOk, Nat.succ_ne_self, Nat.reduceEqDiff, Bool.false_eq_true, ite_true, ite_false, true_and, reduceCtorEq, Option.getD_none, Option.isSome_none, bne_self_eq_false]
    refine VW_cond rfl (fun h => by cases h) (fun _ => ?_)
    refine VW_skip ?_
    try simp only [thenQ]
    refine VW_seq ?_
    refine VW_seq (VW_region [0, 5, 6, 8] ?_)
    simp only [OpsW_nil, OpsW_n, StepW, pok, pval, VA.ev, Env.get, Env.put, Env.keep, thenQ, Nat.succ_ne_self, Nat.reduceEqDiff, ite_true, ite_false, true_and, reduceCtorEq]
    refine VW_block ?_
    refine VW_loop (σ := Unit) (fun _ => ([(0, It.strs l), (5, .str []), (6, .bool false), (8, .str s)], ⟨[], 0⟩)) (fun _ => 0) () ?_ ?_ ?_
    · simp only [Env.get, Nat.succ_ne_self, Env.le, Nat.reduceEqDiff, ite_true, ite_false, and_true, reduceCtorEq]
    · simp only [Heap.le, HL.le, Nat.le_refl, and_true]
    rintro ⟨⟩
    simp only []
    refine VW_seq ?_
    refine VW_seq (VW_region [0, 5, 6, 8, 56] ?_)
    simp only [OpsW_nil, OpsW_n, OpsW_xt, StepW, pok, pval, VA.ev, Env.get, Env.put, Env.keep, thenQ, pickV, isBool, Heap.le, HL.le, Nat.succ_ne_self, Env.le, Nat.reduceEqDiff, Nat.reduceLT, Bool.false_eq_true, ite_true, ite_false, true_and, and_true, reduceCtorEq]
    refine VW_cond rfl (fun h => by cases h) (fun _ => ?_)
    refine VW_exit ?_
    try simp only [thenQ, blockQ, retQ, ite_true]
    refine VW_seq (VW_region [4] ?_)
    simp only [OpsW_nil, OpsW_n, StepW, pok, pval, VA.ev, Env.get, Env.put, Env.keep, thenQ, Nat.succ_ne_self, Nat.reduceEqDiff, ite_true, ite_false, true_and, reduceCtorEq]
    refine VW_ret ?_
    try simp only [Env.get, retQ, resV, resOk, RS.ev, RS.ok, ite_true, true_and, and_true]
    exact View.refl _ _
  | some t =>
    have hms : may s = true := by
      unfold nextFree at hn; split at hn
      · assumption
      · cases hn
    have hfs : freeS l s = some t := by unfold nextFree at hn; rw [if_pos hms] at hn; exact hn
    have hmt := free_may _ s (Nat.le_refl _) hms hfs
    have hnt := free_not _ s (Nat.le_refl _) hfs
    obtain ⟨hl7, hne⟩ := label_len' hmt
    have e1 : (t != []) = true := by simpa using hne
    refine VW_seq (VW_region [0, 1, 5, 6, 49] ?_)
    simp only [OpsW_nil, OpsW_n, OpsW_y, StepW, pok, pval, VA.ev, Env.get, Env.put, Env.keep, thenQ, pickV, isBool, binV, binOk, strV, binbV, boolV, binbOk, Nat.succ_ne_self, List.map, Nat.reduceEqDiff, Bool.false_eq_true, ite_true, ite_false, true_and, reduceCtorEq, Option.getD_some, Option.isSome_some, bne_self_eq_false, e1]
    refine ACall_p (sp_pandectref03_In l t hl) ?_
    try simp only [decide_eq_false hnt]
    refine VW_cond rfl (fun h => by cases h) (fun _ => ?_)
    refine VW_skip ?_
    try simp only [thenQ]
    refine VW_seq ?_
    refine VW_seq (VW_region [0, 5, 6, 8] ?_)
    simp only [OpsW_nil, OpsW_n, StepW, pok, pval, VA.ev, Env.get, Env.put, Env.keep, thenQ, Nat.succ_ne_self, Nat.reduceEqDiff, ite_true, ite_false, true_and, reduceCtorEq]
    refine VW_block ?_
    refine VW_loop (σ := { x : Str // x.length ≤ 1000000 ∧ freeS l x = some t }) (fun x => ([(0, It.strs l), (5, .str t), (6, .bool true), (8, .str x.1)], ⟨[], 0⟩)) (fun x => cnt l x.1) ⟨s, ls, hfs⟩ ?_ ?_ ?_
    · simp only [Env.get, Nat.succ_ne_self, Env.le, Nat.reduceEqDiff, ite_true, ite_false, and_true, reduceCtorEq]
    · simp only [Heap.le, HL.le, Nat.le_refl, and_true]
    rintro ⟨y, hyl, hy⟩
    simp only []
    refine VW_seq ?_
    refine VW_seq (VW_region [0, 5, 6, 8, 56] ?_)
    simp only [OpsW_nil, OpsW_n, OpsW_y, StepW, pok, pval, VA.ev, Env.get, Env.put, Env.keep, thenQ, pickV, isBool, binV, binOk, strV, Heap.le, HL.le, Nat.succ_ne_self, Env.le, Nat.reduceEqDiff, ite_true, ite_false, true_and, and_true, reduceCtorEq]
    refine VW_cond rfl (fun h3 => ?_) (fun h3 => ?_)
    · have hyt : y ≠ t := by simpa using h3
      have hyl' : y ∈ l := by
        refine Classical.byContradiction fun h => ?_
        rw [free_out h] at hy; cases hy; exact hyt rfl
      refine VW_skip ?_
      try simp only [thenQ]
      refine VW_block ?_
      refine VW_seq ?_
      refine VW_seq (VW_region [0, 5, 6, 8, 60] ?_)
      simp only [OpsW_nil, OpsW_n, StepW, pok, pval, VA.ev, Env.get, Env.put, Env.keep, thenQ, unV, unOk, Nat.succ_ne_self, List.map, Nat.reduceEqDiff, ite_true, ite_false, true_and, reduceCtorEq]
      refine ACall_p (sp_pandectref03_In l y hl) ?_
      try simp only [true_and, Bool.not_true, decide_eq_true hyl']
      refine VW_cond rfl (fun h => by cases h) (fun _ => ?_)
      refine VW_skip ?_
      try simp only [thenQ]
      rw [free_in hyl'] at hy
      refine VW_seq (VW_region [0, 5, 6, 9, 10] ?_)
      simp only [OpsW_nil, OpsW_n, StepW, pok, pval, VA.ev, Env.get, Env.put, Env.keep, thenQ, extV, extOk, PV.nth, Nat.succ_ne_self, List.map, Nat.reduceEqDiff, ite_true, ite_false, true_and, reduceCtorEq]
      refine ACall_p (sp_label_Next y hyl) ?_
      try simp only [List.length, List.getD_cons_zero, List.getD_cons_succ, Nat.reduceAdd, Nat.reduceLT, true_and, Nat.zero_add, optT]
      refine VW_seq ?_
      cases hnx : nextS y with
      | none => rw [hnx] at hy; cases hy
      | some u =>
        rw [hnx] at hy
        obtain ⟨hu7, _⟩ := label_len' (next_some hnx).2.1
        have hc := cnt_lt hyl' hnx
        refine VW_seq (VW_region [0, 5, 6, 9, 67] ?_)
        simp only [OpsW_nil, OpsW_n, StepW, pok, pval, VA.ev, Env.get, Env.put, Env.keep, thenQ, unV, unOk, Nat.succ_ne_self, Nat.reduceEqDiff, ite_true, ite_false, true_and, reduceCtorEq, Bool.not_true, Option.getD_some, Option.isSome_some]
        refine VW_cond rfl (fun h => by cases h) (fun _ => ?_)
        refine VW_skip ?_
        try simp only [thenQ]
        refine VW_region [0, 5, 6, 8] ?_
        simp only [OpsW_nil, OpsW_n, StepW, pok, pval, VA.ev, Env.get, Env.put, Env.keep, thenQ, blockQ, Nat.le_refl, Nat.succ_ne_self, Nat.reduceEqDiff, ite_true, ite_false, true_and, reduceCtorEq]
        exact ⟨⟨u, by omega, hy⟩, rfl, hc⟩
    · refine VW_exit ?_
      try simp only [thenQ, blockQ, retQ, ite_true]
      refine VW_seq (VW_region [4] ?_)
      simp only [OpsW_nil, OpsW_n, StepW, pok, pval, VA.ev, Env.get, Env.put, Env.keep, thenQ, Nat.succ_ne_self, Nat.reduceEqDiff, ite_true, ite_false, true_and, reduceCtorEq]
      refine VW_ret ?_
      try simp only [Env.get, retQ, resV, resOk, RS.ev, RS.ok, ite_true, true_and, and_true]
      exact View.refl _ _
end Go.Proofs.YtihfbefagcdpmaaDoor.w

