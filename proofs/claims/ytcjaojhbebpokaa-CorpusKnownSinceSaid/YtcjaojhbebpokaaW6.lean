/-
  Walks: unit.Equal, syntax.Equal.
-/
import Derived.Test.YtcjaojhbebpokaaW5
set_option linter.all false
namespace Go.Proofs.Ytcjaojhbebpokaa.w
open Go Go.VM
set_option maxRecDepth 20000
set_option maxHeartbeats 0
def c69 : VC := (.seq (.region [⟨(some 2), (.box 8 (.t 0)), none⟩, ⟨(some 3), (.box 8 (.t 1)), none⟩, ⟨(some 4), (.mv (.c (.bool false))), none⟩] false) (.seq (.region [⟨(some 5), (.faddr 0 (.t 2)), none⟩, ⟨(some 6), (.load true 3 (.t 5)), none⟩, ⟨(some 7), (.faddr 0 (.t 3)), none⟩, ⟨(some 8), (.load true 3 (.t 7)), none⟩, ⟨(some 9), (.eqs false [.i, .i, .i] (.t 6) (.t 8)), none⟩, ⟨(some 10), (.mv (.t 9)), none⟩, ⟨(some 11), (.faddr 3 (.t 2)), (some (10, true))⟩, ⟨(some 12), (.load false 1 (.t 11)), (some (10, true))⟩, ⟨(some 13), (.faddr 3 (.t 3)), (some (10, true))⟩, ⟨(some 14), (.load false 1 (.t 13)), (some (10, true))⟩, ⟨(some 15), (.bin .eql (.t 12) (.t 14)), (some (10, true))⟩, ⟨(some 16), (.pick (.t 10) (.t 15) (.c (.bool false))), none⟩, ⟨(some 17), (.mv (.t 16)), none⟩, ⟨(some 18), (.faddr 4 (.t 2)), (some (17, true))⟩, ⟨(some 19), (.load false 1 (.t 18)), (some (17, true))⟩, ⟨(some 20), (.faddr 4 (.t 3)), (some (17, true))⟩, ⟨(some 21), (.load false 1 (.t 20)), (some (17, true))⟩, ⟨(some 22), (.bin .eql (.t 19) (.t 21)), (some (17, true))⟩, ⟨(some 23), (.pick (.t 17) (.t 22) (.c (.bool false))), none⟩, ⟨(some 24), (.mv (.t 23)), none⟩, ⟨(some 25), (.faddr 5 (.t 2)), (some (24, true))⟩, ⟨(some 26), (.load false 1 (.t 25)), (some (24, true))⟩, ⟨(some 27), (.faddr 5 (.t 3)), (some (24, true))⟩, ⟨(some 28), (.load false 1 (.t 27)), (some (24, true))⟩, ⟨(some 29), (.call 77 [(.t 26), (.t 28)]), (some (24, true))⟩, ⟨(some 30), (.pick (.t 24) (.t 29) (.c (.bool false))), none⟩, ⟨(some 31), (.mv (.t 30)), none⟩, ⟨(some 32), (.faddr 6 (.t 2)), (some (31, true))⟩, ⟨(some 33), (.load false 1 (.t 32)), (some (31, true))⟩, ⟨(some 34), (.faddr 6 (.t 3)), (some (31, true))⟩, ⟨(some 35), (.load false 1 (.t 34)), (some (31, true))⟩, ⟨(some 36), (.call 77 [(.t 33), (.t 35)]), (some (31, true))⟩, ⟨(some 37), (.pick (.t 31) (.t 36) (.c (.bool false))), none⟩, ⟨(some 38), (.mv (.t 37)), none⟩, ⟨(some 39), (.faddr 7 (.t 2)), (some (38, true))⟩, ⟨(some 40), (.load false 1 (.t 39)), (some (38, true))⟩, ⟨(some 41), (.faddr 7 (.t 3)), (some (38, true))⟩, ⟨(some 42), (.load false 1 (.t 41)), (some (38, true))⟩, ⟨(some 43), (.call 78 [(.t 40), (.t 42), (.c (.fn (.func 69) [] []))]), (some (38, true))⟩, ⟨(some 44), (.pick (.t 38) (.t 43) (.c (.bool false))), none⟩, ⟨(some 4), (.mv (.t 44)), none⟩] false) .ret))
def c58 : VC := (.seq (.region [⟨(some 2), (.box 25 (.t 0)), none⟩, ⟨(some 3), (.box 25 (.t 1)), none⟩, ⟨(some 4), (.mv (.c (.bool false))), none⟩] false) (.seq (.region [⟨(some 8), (.faddr 0 (.t 2)), none⟩, ⟨(some 9), (.load false 1 (.t 8)), none⟩, ⟨(some 10), (.faddr 0 (.t 3)), none⟩, ⟨(some 11), (.load false 1 (.t 10)), none⟩, ⟨(some 12), (.bin .eql (.t 9) (.t 11)), none⟩, ⟨(some 13), (.mv (.t 12)), none⟩, ⟨(some 14), (.faddr 3 (.t 2)), (some (13, true))⟩, ⟨(some 15), (.load false 1 (.t 14)), (some (13, true))⟩, ⟨(some 16), (.faddr 3 (.t 3)), (some (13, true))⟩, ⟨(some 17), (.load false 1 (.t 16)), (some (13, true))⟩, ⟨(some 18), (.bin .eql (.t 15) (.t 17)), (some (13, true))⟩, ⟨(some 19), (.pick (.t 13) (.t 18) (.c (.bool false))), none⟩, ⟨(some 20), (.mv (.t 19)), none⟩, ⟨(some 21), (.faddr 4 (.t 2)), (some (20, true))⟩, ⟨(some 22), (.load false 1 (.t 21)), (some (20, true))⟩, ⟨(some 23), (.faddr 4 (.t 3)), (some (20, true))⟩, ⟨(some 24), (.load false 1 (.t 23)), (some (20, true))⟩, ⟨(some 25), (.bin .eql (.t 22) (.t 24)), (some (20, true))⟩, ⟨(some 26), (.pick (.t 20) (.t 25) (.c (.bool false))), none⟩, ⟨(some 27), (.mv (.t 26)), none⟩, ⟨(some 28), (.faddr 20 (.t 2)), (some (27, true))⟩, ⟨(some 29), (.load false 1 (.t 28)), (some (27, true))⟩, ⟨(some 30), (.faddr 20 (.t 3)), (some (27, true))⟩, ⟨(some 31), (.load false 1 (.t 30)), (some (27, true))⟩, ⟨(some 32), (.bin .eql (.t 29) (.t 31)), (some (27, true))⟩, ⟨(some 33), (.pick (.t 27) (.t 32) (.c (.bool false))), none⟩, ⟨(some 34), (.mv (.t 33)), none⟩, ⟨(some 35), (.faddr 21 (.t 2)), (some (34, true))⟩, ⟨(some 36), (.load false 1 (.t 35)), (some (34, true))⟩, ⟨(some 37), (.faddr 21 (.t 3)), (some (34, true))⟩, ⟨(some 38), (.load false 1 (.t 37)), (some (34, true))⟩, ⟨(some 39), (.bin .eql (.t 36) (.t 38)), (some (34, true))⟩, ⟨(some 40), (.pick (.t 34) (.t 39) (.c (.bool false))), none⟩, ⟨(some 41), (.mv (.t 40)), none⟩, ⟨(some 42), (.faddr 22 (.t 2)), (some (41, true))⟩, ⟨(some 43), (.load false 1 (.t 42)), (some (41, true))⟩, ⟨(some 44), (.faddr 22 (.t 3)), (some (41, true))⟩, ⟨(some 45), (.load false 1 (.t 44)), (some (41, true))⟩, ⟨(some 46), (.bin .eql (.t 43) (.t 45)), (some (41, true))⟩, ⟨(some 47), (.pick (.t 41) (.t 46) (.c (.bool false))), none⟩, ⟨(some 5), (.mv (.t 47)), none⟩] false) (.seq (.region [⟨(some 48), (.faddr 15 (.t 2)), none⟩, ⟨(some 49), (.load false 1 (.t 48)), none⟩, ⟨(some 50), (.faddr 15 (.t 3)), none⟩, ⟨(some 51), (.load false 1 (.t 50)), none⟩, ⟨(some 52), (.bin .eql (.t 49) (.t 51)), none⟩, ⟨(some 53), (.mv (.t 52)), none⟩, ⟨(some 54), (.faddr 16 (.t 2)), (some (53, true))⟩, ⟨(some 55), (.load false 1 (.t 54)), (some (53, true))⟩, ⟨(some 56), (.faddr 16 (.t 3)), (some (53, true))⟩, ⟨(some 57), (.load false 1 (.t 56)), (some (53, true))⟩, ⟨(some 58), (.bin .eql (.t 55) (.t 57)), (some (53, true))⟩, ⟨(some 59), (.pick (.t 53) (.t 58) (.c (.bool false))), none⟩, ⟨(some 60), (.mv (.t 59)), none⟩, ⟨(some 61), (.faddr 23 (.t 2)), (some (60, true))⟩, ⟨(some 62), (.load false 1 (.t 61)), (some (60, true))⟩, ⟨(some 63), (.faddr 23 (.t 3)), (some (60, true))⟩, ⟨(some 64), (.load false 1 (.t 63)), (some (60, true))⟩, ⟨(some 65), (.bin .eql (.t 62) (.t 64)), (some (60, true))⟩, ⟨(some 66), (.pick (.t 60) (.t 65) (.c (.bool false))), none⟩, ⟨(some 67), (.mv (.t 66)), none⟩, ⟨(some 68), (.faddr 17 (.t 2)), (some (67, true))⟩, ⟨(some 69), (.load true 3 (.t 68)), (some (67, true))⟩, ⟨(some 70), (.faddr 17 (.t 3)), (some (67, true))⟩, ⟨(some 71), (.load true 3 (.t 70)), (some (67, true))⟩, ⟨(some 72), (.eqs false [.i, .i, .s] (.t 69) (.t 71)), (some (67, true))⟩, ⟨(some 73), (.pick (.t 67) (.t 72) (.c (.bool false))), none⟩, ⟨(some 6), (.mv (.t 73)), none⟩] false) (.seq (.region [⟨(some 74), (.faddr 1 (.t 2)), none⟩, ⟨(some 75), (.load false 1 (.t 74)), none⟩, ⟨(some 76), (.faddr 1 (.t 3)), none⟩, ⟨(some 77), (.load false 1 (.t 76)), none⟩, ⟨(some 78), (.call 67 [(.t 75), (.t 77)]), none⟩, ⟨(some 79), (.mv (.t 78)), none⟩, ⟨(some 80), (.faddr 2 (.t 2)), (some (79, true))⟩, ⟨(some 81), (.load false 1 (.t 80)), (some (79, true))⟩, ⟨(some 82), (.faddr 2 (.t 3)), (some (79, true))⟩, ⟨(some 83), (.load false 1 (.t 82)), (some (79, true))⟩, ⟨(some 84), (.call 67 [(.t 81), (.t 83)]), (some (79, true))⟩, ⟨(some 85), (.pick (.t 79) (.t 84) (.c (.bool false))), none⟩, ⟨(some 86), (.mv (.t 85)), none⟩, ⟨(some 87), (.faddr 13 (.t 2)), (some (86, true))⟩, ⟨(some 88), (.load false 1 (.t 87)), (some (86, true))⟩, ⟨(some 89), (.faddr 13 (.t 3)), (some (86, true))⟩, ⟨(some 90), (.load false 1 (.t 89)), (some (86, true))⟩, ⟨(some 91), (.call 68 [(.t 88), (.t 90)]), (some (86, true))⟩, ⟨(some 92), (.pick (.t 86) (.t 91) (.c (.bool false))), none⟩, ⟨(some 93), (.mv (.t 92)), none⟩, ⟨(some 94), (.faddr 14 (.t 2)), (some (93, true))⟩, ⟨(some 95), (.load false 1 (.t 94)), (some (93, true))⟩, ⟨(some 96), (.faddr 14 (.t 3)), (some (93, true))⟩, ⟨(some 97), (.load false 1 (.t 96)), (some (93, true))⟩, ⟨(some 98), (.call 68 [(.t 95), (.t 97)]), (some (93, true))⟩, ⟨(some 99), (.pick (.t 93) (.t 98) (.c (.bool false))), none⟩, ⟨(some 7), (.mv (.t 99)), none⟩] false) (.seq (.region [⟨(some 100), (.mv (.t 5)), none⟩, ⟨(some 101), (.mv (.t 100)), none⟩, ⟨(some 102), (.mv (.t 6)), (some (101, true))⟩, ⟨(some 103), (.pick (.t 101) (.t 102) (.c (.bool false))), none⟩, ⟨(some 104), (.mv (.t 103)), none⟩, ⟨(some 105), (.mv (.t 7)), (some (104, true))⟩, ⟨(some 106), (.pick (.t 104) (.t 105) (.c (.bool false))), none⟩, ⟨(some 107), (.mv (.t 106)), none⟩, ⟨(some 108), (.faddr 5 (.t 2)), (some (107, true))⟩, ⟨(some 109), (.load true 8 (.t 108)), (some (107, true))⟩, ⟨(some 110), (.faddr 5 (.t 3)), (some (107, true))⟩, ⟨(some 111), (.load true 8 (.t 110)), (some (107, true))⟩, ⟨(some 112), (.call 69 [(.t 109), (.t 111)]), (some (107, true))⟩, ⟨(some 113), (.pick (.t 107) (.t 112) (.c (.bool false))), none⟩, ⟨(some 114), (.mv (.t 113)), none⟩, ⟨(some 115), (.faddr 24 (.t 2)), (some (114, true))⟩, ⟨(some 116), (.load false 1 (.t 115)), (some (114, true))⟩, ⟨(some 117), (.faddr 24 (.t 3)), (some (114, true))⟩, ⟨(some 118), (.load false 1 (.t 117)), (some (114, true))⟩, ⟨(some 119), (.call 70 [(.t 116), (.t 118), (.c (.fn (.func 58) [] []))]), (some (114, true))⟩, ⟨(some 120), (.pick (.t 114) (.t 119) (.c (.bool false))), none⟩, ⟨(some 4), (.mv (.t 120)), none⟩] false) .ret)))))
theorem sp69 (a b : Un) (ha : a.ok) (hb : b.ok) : PCall Try.prog 69 [.agg a.enc, .agg b.enc] (.bool (eqB a b)) := by
  have ea := Un.enc_eq a
  have eb := Un.enc_eq b
  refine PCall_intro ?_ (Closed.of_scalar (scalar_bool _)) (by simp only [ClosedL, List.mem_cons, List.not_mem_nil, or_false, forall_eq_or_imp, forall_eq, false_implies, implies_true]; repeat' (first | exact cI _ | exact cS _ | exact cB _ | exact closed_fn0 _ | exact closed_nilsl | exact closed_agg (Un.closed _) | exact closed_agg (It.closed _) | exact closed_agg (EI.closed _) | exact closed_agg (Ac.closed _) | exact closed_agg (Wd.closed _) | exact closed_agg (St.closed _) | exact closed_agg (Sta.closed _) | exact closed_eis _ | exact closed_acs _ | exact closed_gzs _ | exact Closed.of_scalar (scalar_int _ _) | exact closed_ro (Ac.closed _) | exact closed_ro (Gz.closed _) | exact closed_agg (Gz.closed _) | exact closed_strs _ | exact closed_map (fun w _ => Wd.closed w) | exact closed_map (fun w _ => St.closed w) | exact closed_map (fun w _ => Un.closed w) | exact closed_map (fun w _ => It.closed w) | exact closed_sc _ | exact closed_sps _ | exact closed_agg (Sp.closed _) | exact closed_ro (EI.closed _) | exact closed_ro (Sta.closed _) | exact closed_ro (It.closed _) | exact closed_ro (by simp only [List.mem_cons, List.not_mem_nil, or_false, forall_eq]; first | exact cI _ | exact cS _ | exact closed_eis _) | refine And.intro ?_ ?_))
  refine ACall_fn (vc := c69) (ts := [.t 4]) Go.Proofs.Try.func69 (by kernel_rfl) rfl rfl (Nat.le_of_ble_eq_true rfl) (by kernel_rfl) ?_
  unfold c69
  refine VW_seq (VW_region [2, 3] ?_)
  simp only [OpsW_nil, OpsW_n, StepW, pok, pval, VA.ev, Env.get, Env.put, Env.keep, argEnv, thenQ, PV.cells, PV.fits, Heap.push, Heap.nil, Nat.succ_ne_self, List.length, Nat.reduceEqDiff, Nat.reduceAdd, ite_true, ite_false, true_and, reduceCtorEq, BEq.rfl, Nat.zero_add, ea, eb]
  skip
  skip
  refine VW_seq (VW_region [4] ?_)
  simp only [OpsW_n, StepW, pok, pval, VA.ev, Env.get, Env.put, Env.keep, thenQ, aggV, faddrV, isAddr, locCells, locOk, cellsOfAgg, isAggP, PV.nth, PV.row, Heap.get, HL.get, Nat.succ_ne_self, eqOk, ekOk, eqCells, eqCell, List.length, List.getD_cons_zero, List.take, List.drop, List.take_succ_cons, Nat.reduceEqDiff, Nat.reduceAdd, Nat.reduceLT, Nat.reduceLeDiff, Bool.true_eq_false, ite_true, ite_false, true_and, and_true, reduceCtorEq, Nat.zero_add, Nat.add_zero, List.length_cons, imp_self]
  repeat (with_reducible refine And.intro ?_ ?_; first | omega | (with_reducible constructor <;> omega) | exact False.elim | exact True.intro)
  refine OpsW_split rfl (fun g1 => ?_) (fun g1 => ?_)
  rotate_left
  · simp only [OpsW_nil, OpsW_n, OpsW_xt, StepW, pok, pval, VA.ev, Env.get, Env.put, pickV, isBool, Nat.succ_ne_self, Nat.reduceEqDiff, Bool.false_eq_true, ite_true, ite_false, true_and, Bool.not_true, g1, ]
    refine VW_ret ?_
    try simp only [Env.get, retQ, resV, resOk, RS.ev, RS.ok, ite_true, true_and, and_true]
    rw [eqB_f (fun e => by subst e; simp [eqB] at g1)]
    exact View.refl _ _
  simp only [OpsW_n, OpsW_y, StepW, pok, pval, VA.ev, Env.get, Env.put, pickV, isBool, aggV, intV, binV, binOk, faddrV, isAddr, locCells, locOk, PV.nth, PV.row, Heap.get, HL.get, Nat.succ_ne_self, List.length, List.getD_cons_zero, List.take, List.drop, List.take_succ_cons, List.drop_succ_cons, Nat.reduceEqDiff, Nat.reduceAdd, Nat.reduceLT, Nat.reduceLeDiff, Bool.false_eq_true, ite_true, ite_false, true_and, and_true, implies_true, reduceCtorEq, Nat.zero_add, List.length_cons, g1, ]
  repeat (with_reducible refine And.intro ?_ ?_; first | omega | (with_reducible constructor <;> omega) | exact False.elim | exact True.intro)
  refine OpsW_split rfl (fun g2 => ?_) (fun g2 => ?_)
  rotate_left
  · simp only [OpsW_nil, OpsW_n, OpsW_xt, StepW, pok, pval, VA.ev, Env.get, Env.put, pickV, isBool, Nat.succ_ne_self, Nat.reduceEqDiff, Bool.false_eq_true, ite_true, ite_false, true_and, Bool.not_true, g2, ]
    refine VW_ret ?_
    try simp only [Env.get, retQ, resV, resOk, RS.ev, RS.ok, ite_true, true_and, and_true]
    rw [eqB_f (fun e => by subst e; simp [eqB] at g2)]
    exact View.refl _ _
  simp only [OpsW_n, OpsW_y, StepW, pok, pval, VA.ev, Env.get, Env.put, pickV, isBool, aggV, binV, binOk, strV, faddrV, isAddr, locCells, locOk, PV.nth, PV.row, Heap.get, HL.get, Nat.succ_ne_self, List.length, List.getD_cons_zero, List.take, List.drop, List.take_succ_cons, List.drop_succ_cons, Nat.reduceEqDiff, Nat.reduceAdd, Nat.reduceLT, Nat.reduceLeDiff, Bool.false_eq_true, ite_true, ite_false, true_and, and_true, implies_true, reduceCtorEq, Nat.zero_add, List.length_cons, g2, ]
  repeat (with_reducible refine And.intro ?_ ?_; first | omega | (with_reducible constructor <;> omega) | exact False.elim | exact True.intro)
  refine OpsW_split rfl (fun g3 => ?_) (fun g3 => ?_)
  rotate_left
  · simp only [OpsW_nil, OpsW_n, OpsW_xt, StepW, pok, pval, VA.ev, Env.get, Env.put, pickV, isBool, Nat.succ_ne_self, Nat.reduceEqDiff, Bool.false_eq_true, ite_true, ite_false, true_and, Bool.not_true, g3, ]
    refine VW_ret ?_
    try simp only [Env.get, retQ, resV, resOk, RS.ev, RS.ok, ite_true, true_and, and_true]
    rw [eqB_f (fun e => by subst e; simp [eqB] at g3)]
    exact View.refl _ _
  simp only [OpsW_n, OpsW_y, StepW, pok, pval, VA.ev, Env.get, Env.put, pickV, isBool, aggV, faddrV, isAddr, locCells, locOk, PV.nth, PV.row, Heap.get, HL.get, Nat.succ_ne_self, List.map, List.length, List.getD_cons_zero, List.take, List.drop, List.take_succ_cons, List.drop_succ_cons, Nat.reduceEqDiff, Nat.reduceAdd, Nat.reduceLT, Nat.reduceLeDiff, Bool.false_eq_true, ite_true, ite_false, true_and, and_true, implies_true, reduceCtorEq, Nat.zero_add, List.length_cons, g3, ]
  repeat (with_reducible refine And.intro ?_ ?_; first | omega | (with_reducible constructor <;> omega) | exact False.elim | exact True.intro)
  refine ACall_p (sp77 _ _ (un_ok_head ha)) ?_
  skip
  refine OpsW_split rfl (fun g4 => ?_) (fun g4 => ?_)
  rotate_left
  · simp only [OpsW_nil, OpsW_n, OpsW_xt, StepW, pok, pval, VA.ev, Env.get, Env.put, pickV, isBool, Nat.succ_ne_self, Nat.reduceEqDiff, Bool.false_eq_true, ite_true, ite_false, true_and, Bool.not_true, g4, ]
    refine VW_ret ?_
    try simp only [Env.get, retQ, resV, resOk, RS.ev, RS.ok, ite_true, true_and, and_true]
    rw [eqB_f (fun e => by subst e; simp [eqB] at g4)]
    exact View.refl _ _
  simp only [OpsW_n, OpsW_y, StepW, pok, pval, VA.ev, Env.get, Env.put, pickV, isBool, aggV, faddrV, isAddr, locCells, locOk, PV.nth, PV.row, Heap.get, HL.get, Nat.succ_ne_self, List.map, List.length, List.getD_cons_zero, List.take, List.drop, List.take_succ_cons, List.drop_succ_cons, Nat.reduceEqDiff, Nat.reduceAdd, Nat.reduceLT, Nat.reduceLeDiff, Bool.false_eq_true, ite_true, ite_false, true_and, and_true, implies_true, reduceCtorEq, Nat.zero_add, List.length_cons, g4, ]
  repeat (with_reducible refine And.intro ?_ ?_; first | omega | (with_reducible constructor <;> omega) | exact False.elim | exact True.intro)
  refine ACall_p (sp77 _ _ (un_ok_words ha)) ?_
  skip
  refine OpsW_split rfl (fun g5 => ?_) (fun g5 => ?_)
  rotate_left
  · simp only [OpsW_nil, OpsW_n, OpsW_xt, StepW, pok, pval, VA.ev, Env.get, Env.put, pickV, isBool, Nat.succ_ne_self, Nat.reduceEqDiff, Bool.false_eq_true, ite_true, ite_false, true_and, Bool.not_true, g5, ]
    refine VW_ret ?_
    try simp only [Env.get, retQ, resV, resOk, RS.ev, RS.ok, ite_true, true_and, and_true]
    rw [eqB_f (fun e => by subst e; simp [eqB] at g5)]
    exact View.refl _ _
  simp only [OpsW_nil, OpsW_n, OpsW_y, StepW, pok, pval, VA.ev, Env.get, Env.put, pickV, isBool, aggV, faddrV, isAddr, locCells, locOk, PV.nth, PV.row, Heap.get, HL.get, Nat.le_refl, Nat.succ_ne_self, List.map, List.length, List.getD_cons_zero, List.take, List.drop, List.take_succ_cons, List.drop_succ_cons, Nat.reduceEqDiff, Nat.reduceLT, Bool.false_eq_true, ite_true, ite_false, true_and, and_true, implies_true, reduceCtorEq, Nat.zero_add, List.length_cons, g5, ]
  repeat (with_reducible refine And.intro ?_ ?_; first | omega | (with_reducible constructor <;> omega) | exact False.elim | exact True.intro)
  refine ACall_p (sp78 _ _ (un_ok_kids ha).1 (fun k ka kb => sp69 _ _ ((un_ok_kids ha).2 _ (List.getElem_mem ka)) ((un_ok_kids hb).2 _ (List.getElem_mem kb)))) ?_
  skip
  refine VW_ret ?_
  try simp only [Env.get, retQ, resV, resOk, RS.ev, RS.ok, ite_true, true_and, and_true]
  have e1 : eqB a.kids b.kids = eqB a b := by
    simp [eqB] at g1 g2 g3 g4 g5
    by_cases h : a.kids = b.kids
    · rw [eqB_t h, eqB_t (un_eq g1.1 g1.2.1 g1.2.2 g2 g3 g4 g5 h)]
    · rw [eqB_f h, eqB_f (fun e => h (by rw [e]))]
  rw [e1]
  exact View.refl _ _
termination_by SizeOf.sizeOf a
decreasing_by exact un_size ka

def It.nums (a b : It) : Prop := a.kind = b.kind ∧ a.wher = b.wher ∧ a.nth = b.nth ∧ a.act = b.act ∧ a.item = b.item ∧ a.day = b.day
def It.texts (a b : It) : Prop := a.label = b.label ∧ a.forr = b.forr ∧ a.event = b.event ∧ a.start = b.start
def It.rws (a b : It) : Prop := a.at' = b.at' ∧ a.to = b.to ∧ a.old = b.old ∧ a.new = b.new
theorem sp58 (a b : It) (ha : a.ok) (hb : b.ok) : PCall Try.prog 58 [.agg a.enc, .agg b.enc] (.bool (eqB a b)) := by
  have ea := It.enc_eq a
  have eb := It.enc_eq b
  have oa := it_ok ha
  have ob := it_ok hb
  have hu := sp69 a.unit b.unit oa.unit ob.unit
  rw [Un.enc_eq a.unit, Un.enc_eq b.unit] at hu
  refine PCall_intro ?_ (Closed.of_scalar (scalar_bool _)) (by simp only [ClosedL, List.mem_cons, List.not_mem_nil, or_false, forall_eq_or_imp, forall_eq, false_implies, implies_true]; repeat' (first | exact cI _ | exact cS _ | exact cB _ | exact closed_fn0 _ | exact closed_nilsl | exact closed_agg (Un.closed _) | exact closed_agg (It.closed _) | exact closed_agg (EI.closed _) | exact closed_agg (Ac.closed _) | exact closed_agg (Wd.closed _) | exact closed_agg (St.closed _) | exact closed_agg (Sta.closed _) | exact closed_eis _ | exact closed_acs _ | exact closed_gzs _ | exact Closed.of_scalar (scalar_int _ _) | exact closed_ro (Ac.closed _) | exact closed_ro (Gz.closed _) | exact closed_agg (Gz.closed _) | exact closed_strs _ | exact closed_map (fun w _ => Wd.closed w) | exact closed_map (fun w _ => St.closed w) | exact closed_map (fun w _ => Un.closed w) | exact closed_map (fun w _ => It.closed w) | exact closed_sc _ | exact closed_sps _ | exact closed_agg (Sp.closed _) | exact closed_ro (EI.closed _) | exact closed_ro (Sta.closed _) | exact closed_ro (It.closed _) | exact closed_ro (by simp only [List.mem_cons, List.not_mem_nil, or_false, forall_eq]; first | exact cI _ | exact cS _ | exact closed_eis _) | refine And.intro ?_ ?_))
  refine ACall_fn (vc := c58) (ts := [.t 4]) Go.Proofs.Try.func58 (by kernel_rfl) rfl rfl (Nat.le_of_ble_eq_true rfl) (by kernel_rfl) ?_
  unfold c58
  refine VW_seq (VW_region [2, 3] ?_)
  simp only [OpsW_nil, OpsW_n, StepW, pok, pval, VA.ev, Env.get, Env.put, Env.keep, argEnv, thenQ, PV.cells, PV.fits, Heap.push, Heap.nil, Nat.succ_ne_self, List.length, Nat.reduceEqDiff, Nat.reduceAdd, ite_true, ite_false, true_and, reduceCtorEq, BEq.rfl, Nat.zero_add, ea, eb]
  skip
  skip
  refine VW_seqE (σ := {r : Bool // (r = true → It.nums a b) ∧ (r = false → a ≠ b)}) [2, 3, 5] (fun s => [(2, .loc 0 0 0), (3, .loc 1 0 0), (5, .bool s.1)]) ?_ ?_
  · simp only [OpsW_n, StepW, pok, pval, VA.ev, Env.get, Env.put, Env.keep, aggV, intV, binV, binOk, faddrV, isAddr, locCells, locOk, PV.nth, PV.row, Heap.get, HL.get, Nat.succ_ne_self, Env.le, List.length, List.getD_cons_zero, List.take, List.drop, List.take_succ_cons, Nat.reduceEqDiff, Nat.reduceAdd, Nat.reduceLT, Nat.reduceLeDiff, Bool.false_eq_true, ite_true, ite_false, true_and, and_true, implies_true, ne_eq, reduceCtorEq, Nat.zero_add, Nat.add_zero, List.length_cons]
    repeat (with_reducible refine And.intro ?_ ?_; first | omega | (with_reducible constructor <;> omega) | exact False.elim | exact True.intro)
    refine OpsW_split rfl (fun g1 => ?_) (fun g1 => ?_)
    rotate_left
    · simp only [OpsW_nil, OpsW_n, OpsW_xt, StepW, pok, pval, VA.ev, Env.get, Env.put, pickV, isBool, Nat.succ_ne_self, Nat.reduceEqDiff, Bool.false_eq_true, ite_true, ite_false, true_and, and_true, Bool.not_true, g1, ]
      refine ⟨⟨false, (fun h => by cases h), fun _ e => ?_⟩, by simp⟩
      subst e; simp [eqB] at g1
    simp only [OpsW_n, OpsW_y, StepW, pok, pval, VA.ev, Env.get, Env.put, pickV, isBool, aggV, intV, binV, binOk, faddrV, isAddr, locCells, locOk, PV.nth, PV.row, Heap.get, HL.get, Nat.succ_ne_self, List.length, List.getD_cons_zero, List.take, List.drop, List.take_succ_cons, List.drop_succ_cons, Nat.reduceEqDiff, Nat.reduceAdd, Nat.reduceLT, Nat.reduceLeDiff, Bool.false_eq_true, ite_true, ite_false, true_and, and_true, implies_true, reduceCtorEq, Nat.zero_add, List.length_cons, g1, ]
    repeat (with_reducible refine And.intro ?_ ?_; first | omega | (with_reducible constructor <;> omega) | exact False.elim | exact True.intro)
    refine OpsW_split rfl (fun g2 => ?_) (fun g2 => ?_)
    rotate_left
    · simp only [OpsW_nil, OpsW_n, OpsW_xt, StepW, pok, pval, VA.ev, Env.get, Env.put, pickV, isBool, Nat.succ_ne_self, Nat.reduceEqDiff, Bool.false_eq_true, ite_true, ite_false, true_and, and_true, Bool.not_true, g2, ]
      refine ⟨⟨false, (fun h => by cases h), fun _ e => ?_⟩, by simp⟩
      subst e; simp [eqB] at g2
    simp only [OpsW_n, OpsW_y, StepW, pok, pval, VA.ev, Env.get, Env.put, pickV, isBool, aggV, intV, binV, binOk, faddrV, isAddr, locCells, locOk, PV.nth, PV.row, Heap.get, HL.get, Nat.succ_ne_self, List.length, List.getD_cons_zero, List.take, List.drop, List.take_succ_cons, List.drop_succ_cons, Nat.reduceEqDiff, Nat.reduceAdd, Nat.reduceLT, Nat.reduceLeDiff, Bool.false_eq_true, ite_true, ite_false, true_and, and_true, implies_true, reduceCtorEq, Nat.zero_add, List.length_cons, g2, ]
    repeat (with_reducible refine And.intro ?_ ?_; first | omega | (with_reducible constructor <;> omega) | exact False.elim | exact True.intro)
    refine OpsW_split rfl (fun g3 => ?_) (fun g3 => ?_)
    rotate_left
    · simp only [OpsW_nil, OpsW_n, OpsW_xt, StepW, pok, pval, VA.ev, Env.get, Env.put, pickV, isBool, Nat.succ_ne_self, Nat.reduceEqDiff, Bool.false_eq_true, ite_true, ite_false, true_and, and_true, Bool.not_true, g3, ]
      refine ⟨⟨false, (fun h => by cases h), fun _ e => ?_⟩, by simp⟩
      subst e; simp [eqB] at g3
    simp only [OpsW_n, OpsW_y, StepW, pok, pval, VA.ev, Env.get, Env.put, pickV, isBool, aggV, intV, binV, binOk, faddrV, isAddr, locCells, locOk, PV.nth, PV.row, Heap.get, HL.get, Nat.succ_ne_self, List.length, List.getD_cons_zero, List.take, List.drop, List.take_succ_cons, List.drop_succ_cons, Nat.reduceEqDiff, Nat.reduceAdd, Nat.reduceLT, Nat.reduceLeDiff, Bool.false_eq_true, ite_true, ite_false, true_and, and_true, implies_true, reduceCtorEq, Nat.zero_add, List.length_cons, g3, ]
    repeat (with_reducible refine And.intro ?_ ?_; first | omega | (with_reducible constructor <;> omega) | exact False.elim | exact True.intro)
    refine OpsW_split rfl (fun g4 => ?_) (fun g4 => ?_)
    rotate_left
    · simp only [OpsW_nil, OpsW_n, OpsW_xt, StepW, pok, pval, VA.ev, Env.get, Env.put, pickV, isBool, Nat.succ_ne_self, Nat.reduceEqDiff, Bool.false_eq_true, ite_true, ite_false, true_and, and_true, Bool.not_true, g4, ]
      refine ⟨⟨false, (fun h => by cases h), fun _ e => ?_⟩, by simp⟩
      subst e; simp [eqB] at g4
    simp only [OpsW_n, OpsW_y, StepW, pok, pval, VA.ev, Env.get, Env.put, pickV, isBool, aggV, intV, binV, binOk, faddrV, isAddr, locCells, locOk, PV.nth, PV.row, Heap.get, HL.get, Nat.succ_ne_self, List.length, List.getD_cons_zero, List.take, List.drop, List.take_succ_cons, List.drop_succ_cons, Nat.reduceEqDiff, Nat.reduceAdd, Nat.reduceLT, Nat.reduceLeDiff, Bool.false_eq_true, ite_true, ite_false, true_and, and_true, implies_true, reduceCtorEq, Nat.zero_add, List.length_cons, g4, ]
    repeat (with_reducible refine And.intro ?_ ?_; first | omega | (with_reducible constructor <;> omega) | exact False.elim | exact True.intro)
    refine OpsW_split rfl (fun g5 => ?_) (fun g5 => ?_)
    rotate_left
    · simp only [OpsW_nil, OpsW_n, OpsW_xt, StepW, pok, pval, VA.ev, Env.get, Env.put, pickV, isBool, Nat.succ_ne_self, Nat.reduceEqDiff, Bool.false_eq_true, ite_true, ite_false, true_and, and_true, Bool.not_true, g5, ]
      refine ⟨⟨false, (fun h => by cases h), fun _ e => ?_⟩, by simp⟩
      subst e; simp [eqB] at g5
    simp only [OpsW_nil, OpsW_n, OpsW_y, StepW, pok, pval, VA.ev, Env.get, Env.put, pickV, isBool, aggV, intV, binV, binOk, faddrV, isAddr, locCells, locOk, PV.nth, PV.row, Heap.get, HL.get, Nat.succ_ne_self, List.length, List.getD_cons_zero, List.take, List.drop, List.take_succ_cons, List.drop_succ_cons, Nat.reduceEqDiff, Nat.reduceAdd, Nat.reduceLT, Nat.reduceLeDiff, Bool.false_eq_true, ite_true, ite_false, true_and, and_true, implies_true, reduceCtorEq, Nat.zero_add, List.length_cons, g5, ]
    repeat (with_reducible refine And.intro ?_ ?_; first | omega | (with_reducible constructor <;> omega) | exact False.elim | exact True.intro)
    refine ⟨⟨a.day == b.day, fun h => ?_, fun h e => ?_⟩, ?_⟩
    · simp at g1 g2 g3 g4 g5 h
      exact ⟨g1, g2, g3, g4, g5, h⟩
    · subst e; simp at h
    · simp
  rintro ⟨r1, n1, n0⟩
  refine VW_seqE (σ := {r : Bool // (r = true → It.texts a b) ∧ (r = false → a ≠ b)}) [2, 3, 5, 6] (fun s => [(2, .loc 0 0 0), (3, .loc 1 0 0), (5, .bool r1), (6, .bool s.1)]) ?_ ?_
  · simp only [OpsW_n, StepW, pok, pval, VA.ev, Env.get, Env.put, Env.keep, aggV, binV, binOk, strV, faddrV, isAddr, locCells, locOk, PV.nth, PV.row, Heap.get, HL.get, Nat.succ_ne_self, Env.le, List.length, List.getD_cons_zero, List.take, List.drop, List.take_succ_cons, List.drop_succ_cons, Nat.reduceEqDiff, Nat.reduceAdd, Nat.reduceLT, Nat.reduceLeDiff, Bool.false_eq_true, ite_true, ite_false, true_and, and_true, implies_true, ne_eq, reduceCtorEq, Nat.zero_add, List.length_cons]
    repeat (with_reducible refine And.intro ?_ ?_; first | omega | (with_reducible constructor <;> omega) | exact False.elim | exact True.intro)
    refine OpsW_split rfl (fun g1 => ?_) (fun g1 => ?_)
    rotate_left
    · simp only [OpsW_nil, OpsW_n, OpsW_xt, StepW, pok, pval, VA.ev, Env.get, Env.put, pickV, isBool, Nat.succ_ne_self, Nat.reduceEqDiff, Bool.false_eq_true, ite_true, ite_false, true_and, and_true, Bool.not_true, g1, ]
      refine ⟨⟨false, (fun h => by cases h), fun _ e => ?_⟩, by simp⟩
      subst e; simp [eqB] at g1
    simp only [OpsW_n, OpsW_y, StepW, pok, pval, VA.ev, Env.get, Env.put, pickV, isBool, aggV, binV, binOk, strV, faddrV, isAddr, locCells, locOk, PV.nth, PV.row, Heap.get, HL.get, Nat.succ_ne_self, List.length, List.getD_cons_zero, List.take, List.drop, List.take_succ_cons, List.drop_succ_cons, Nat.reduceEqDiff, Nat.reduceAdd, Nat.reduceLT, Nat.reduceLeDiff, Bool.false_eq_true, ite_true, ite_false, true_and, and_true, implies_true, reduceCtorEq, Nat.zero_add, List.length_cons, g1, ]
    repeat (with_reducible refine And.intro ?_ ?_; first | omega | (with_reducible constructor <;> omega) | exact False.elim | exact True.intro)
    refine OpsW_split rfl (fun g2 => ?_) (fun g2 => ?_)
    rotate_left
    · simp only [OpsW_nil, OpsW_n, OpsW_xt, StepW, pok, pval, VA.ev, Env.get, Env.put, pickV, isBool, Nat.succ_ne_self, Nat.reduceEqDiff, Bool.false_eq_true, ite_true, ite_false, true_and, and_true, Bool.not_true, g2, ]
      refine ⟨⟨false, (fun h => by cases h), fun _ e => ?_⟩, by simp⟩
      subst e; simp [eqB] at g2
    simp only [OpsW_n, OpsW_y, StepW, pok, pval, VA.ev, Env.get, Env.put, pickV, isBool, aggV, binV, binOk, strV, faddrV, isAddr, locCells, locOk, PV.nth, PV.row, Heap.get, HL.get, Nat.succ_ne_self, List.length, List.getD_cons_zero, List.take, List.drop, List.take_succ_cons, List.drop_succ_cons, Nat.reduceEqDiff, Nat.reduceAdd, Nat.reduceLT, Nat.reduceLeDiff, Bool.false_eq_true, ite_true, ite_false, true_and, and_true, implies_true, reduceCtorEq, Nat.zero_add, List.length_cons, g2, ]
    repeat (with_reducible refine And.intro ?_ ?_; first | omega | (with_reducible constructor <;> omega) | exact False.elim | exact True.intro)
    refine OpsW_split rfl (fun g3 => ?_) (fun g3 => ?_)
    rotate_left
    · simp only [OpsW_nil, OpsW_n, OpsW_xt, StepW, pok, pval, VA.ev, Env.get, Env.put, pickV, isBool, Nat.succ_ne_self, Nat.reduceEqDiff, Bool.false_eq_true, ite_true, ite_false, true_and, and_true, Bool.not_true, g3, ]
      refine ⟨⟨false, (fun h => by cases h), fun _ e => ?_⟩, by simp⟩
      subst e; simp [eqB] at g3
    simp only [OpsW_nil, OpsW_n, OpsW_y, StepW, pok, pval, VA.ev, Env.get, Env.put, pickV, isBool, aggV, faddrV, isAddr, locCells, locOk, cellsOfAgg, isAggP, PV.nth, PV.row, Heap.get, HL.get, Nat.succ_ne_self, eqOk, ekOk, eqCells, eqCell, List.length, List.getD_cons_zero, List.take, List.drop, List.take_succ_cons, List.drop_succ_cons, Nat.reduceEqDiff, Nat.reduceAdd, Nat.reduceLT, Nat.reduceLeDiff, Bool.true_eq_false, ite_true, ite_false, true_and, and_true, reduceCtorEq, Nat.zero_add, List.length_cons, imp_self, g3, ]
    repeat (with_reducible refine And.intro ?_ ?_; first | omega | (with_reducible constructor <;> omega) | exact False.elim | exact True.intro)
    refine ⟨⟨a.start.kind == b.start.kind && (a.start.day == b.start.day && a.start.event == b.start.event), fun h => ?_, fun h e => ?_⟩, ?_⟩
    · simp at g1 g2 g3 h
      exact ⟨g1, g2, g3, sta_ext h.1 h.2.1 h.2.2⟩
    · subst e; simp at h
    · simp
  rintro ⟨r2, t1, t0⟩
  refine VW_seqE (σ := {r : Bool // (r = true → It.rws a b) ∧ (r = false → a ≠ b)}) [2, 3, 5, 6, 7] (fun s => [(2, .loc 0 0 0), (3, .loc 1 0 0), (5, .bool r1), (6, .bool r2), (7, .bool s.1)]) ?_ ?_
  · simp only [OpsW_n, StepW, pok, pval, VA.ev, Env.get, Env.put, Env.keep, aggV, faddrV, isAddr, locCells, locOk, PV.nth, PV.row, Heap.get, HL.get, Nat.succ_ne_self, Env.le, List.map, List.length, List.getD_cons_zero, List.take, List.drop, List.take_succ_cons, List.drop_succ_cons, Nat.reduceEqDiff, Nat.reduceAdd, Nat.reduceLT, Nat.reduceLeDiff, Bool.false_eq_true, ite_true, ite_false, true_and, and_true, implies_true, ne_eq, reduceCtorEq, Nat.zero_add, List.length_cons]
    repeat (with_reducible refine And.intro ?_ ?_; first | omega | (with_reducible constructor <;> omega) | exact False.elim | exact True.intro)
    refine ACall_p (sp67 _ _ oa.at') ?_
    skip
    refine OpsW_split rfl (fun g1 => ?_) (fun g1 => ?_)
    rotate_left
    · simp only [OpsW_nil, OpsW_n, OpsW_xt, StepW, pok, pval, VA.ev, Env.get, Env.put, pickV, isBool, Nat.succ_ne_self, Nat.reduceEqDiff, Bool.false_eq_true, ite_true, ite_false, true_and, and_true, Bool.not_true, g1, ]
      refine ⟨⟨false, (fun h => by cases h), fun _ e => ?_⟩, by simp⟩
      subst e; simp [eqB] at g1
    simp only [OpsW_n, OpsW_y, StepW, pok, pval, VA.ev, Env.get, Env.put, pickV, isBool, aggV, faddrV, isAddr, locCells, locOk, PV.nth, PV.row, Heap.get, HL.get, Nat.succ_ne_self, List.map, List.length, List.getD_cons_zero, List.take, List.drop, List.take_succ_cons, List.drop_succ_cons, Nat.reduceEqDiff, Nat.reduceAdd, Nat.reduceLT, Nat.reduceLeDiff, Bool.false_eq_true, ite_true, ite_false, true_and, and_true, implies_true, reduceCtorEq, Nat.zero_add, List.length_cons, g1, ]
    repeat (with_reducible refine And.intro ?_ ?_; first | omega | (with_reducible constructor <;> omega) | exact False.elim | exact True.intro)
    refine ACall_p (sp67 _ _ oa.to) ?_
    skip
    refine OpsW_split rfl (fun g2 => ?_) (fun g2 => ?_)
    rotate_left
    · simp only [OpsW_nil, OpsW_n, OpsW_xt, StepW, pok, pval, VA.ev, Env.get, Env.put, pickV, isBool, Nat.succ_ne_self, Nat.reduceEqDiff, Bool.false_eq_true, ite_true, ite_false, true_and, and_true, Bool.not_true, g2, ]
      refine ⟨⟨false, (fun h => by cases h), fun _ e => ?_⟩, by simp⟩
      subst e; simp [eqB] at g2
    simp only [OpsW_n, OpsW_y, StepW, pok, pval, VA.ev, Env.get, Env.put, pickV, isBool, aggV, faddrV, isAddr, locCells, locOk, PV.nth, PV.row, Heap.get, HL.get, Nat.succ_ne_self, List.map, List.length, List.getD_cons_zero, List.take, List.drop, List.take_succ_cons, List.drop_succ_cons, Nat.reduceEqDiff, Nat.reduceAdd, Nat.reduceLT, Nat.reduceLeDiff, Bool.false_eq_true, ite_true, ite_false, true_and, and_true, implies_true, reduceCtorEq, Nat.zero_add, List.length_cons, g2, ]
    repeat (with_reducible refine And.intro ?_ ?_; first | omega | (with_reducible constructor <;> omega) | exact False.elim | exact True.intro)
    refine ACall_p (sp68 _ _ oa.old) ?_
    skip
    refine OpsW_split rfl (fun g3 => ?_) (fun g3 => ?_)
    rotate_left
    · simp only [OpsW_nil, OpsW_n, OpsW_xt, StepW, pok, pval, VA.ev, Env.get, Env.put, pickV, isBool, Nat.succ_ne_self, Nat.reduceEqDiff, Bool.false_eq_true, ite_true, ite_false, true_and, and_true, Bool.not_true, g3, ]
      refine ⟨⟨false, (fun h => by cases h), fun _ e => ?_⟩, by simp⟩
      subst e; simp [eqB] at g3
    simp only [OpsW_nil, OpsW_n, OpsW_y, StepW, pok, pval, VA.ev, Env.get, Env.put, pickV, isBool, aggV, faddrV, isAddr, locCells, locOk, PV.nth, PV.row, Heap.get, HL.get, Nat.succ_ne_self, List.map, List.length, List.getD_cons_zero, List.take, List.drop, List.take_succ_cons, List.drop_succ_cons, Nat.reduceEqDiff, Nat.reduceAdd, Nat.reduceLT, Nat.reduceLeDiff, Bool.false_eq_true, ite_true, ite_false, true_and, and_true, implies_true, reduceCtorEq, Nat.zero_add, List.length_cons, g3, ]
    repeat (with_reducible refine And.intro ?_ ?_; first | omega | (with_reducible constructor <;> omega) | exact False.elim | exact True.intro)
    refine ACall_p (sp68 _ _ oa.new) ?_
    try simp only [and_true]
    refine ⟨⟨eqB a.new b.new, fun h => ?_, fun h e => ?_⟩, ?_⟩
    · simp [eqB] at g1 g2 g3 h
      exact ⟨g1, g2, g3, h⟩
    · subst e; simp [eqB] at h
    · simp
  rintro ⟨r3, s1, s0⟩
  simp only []
  refine VW_seq (VW_region [4] ?_)
  simp only [OpsW_n, StepW, pok, pval, VA.ev, Env.get, Env.put, Env.keep, thenQ, Nat.succ_ne_self, Nat.reduceEqDiff, ite_true, ite_false, true_and]
  refine OpsW_split rfl (fun g1 => ?_) (fun g1 => ?_)
  rotate_left
  · simp only [OpsW_nil, OpsW_n, OpsW_xt, StepW, pok, pval, VA.ev, Env.get, Env.put, pickV, isBool, Nat.succ_ne_self, Nat.reduceEqDiff, Bool.false_eq_true, ite_true, ite_false, true_and, Bool.not_true, g1]
    refine VW_ret ?_
    try simp only [Env.get, retQ, resV, resOk, RS.ev, RS.ok, ite_true, true_and, and_true]
    rw [eqB_f (n0 (by simpa using g1))]
    exact View.refl _ _
  simp only [OpsW_n, StepW, pok, pval, VA.ev, Env.get, Env.put, pickV, isBool, Nat.succ_ne_self, Nat.reduceEqDiff, ite_true, ite_false, true_and, g1]
  refine OpsW_split rfl (fun g2 => ?_) (fun g2 => ?_)
  rotate_left
  · simp only [OpsW_nil, OpsW_n, OpsW_xt, StepW, pok, pval, VA.ev, Env.get, Env.put, pickV, isBool, Nat.succ_ne_self, Nat.reduceEqDiff, Bool.false_eq_true, ite_true, ite_false, true_and, Bool.not_true, g2]
    refine VW_ret ?_
    try simp only [Env.get, retQ, resV, resOk, RS.ev, RS.ok, ite_true, true_and, and_true]
    rw [eqB_f (t0 (by simpa using g2))]
    exact View.refl _ _
  simp only [OpsW_n, StepW, pok, pval, VA.ev, Env.get, Env.put, pickV, isBool, Nat.succ_ne_self, Nat.reduceEqDiff, ite_true, ite_false, true_and, g2]
  refine OpsW_split rfl (fun g3 => ?_) (fun g3 => ?_)
  rotate_left
  · simp only [OpsW_nil, OpsW_n, OpsW_xt, StepW, pok, pval, VA.ev, Env.get, Env.put, pickV, isBool, Nat.succ_ne_self, Nat.reduceEqDiff, Bool.false_eq_true, ite_true, ite_false, true_and, Bool.not_true, g3]
    refine VW_ret ?_
    try simp only [Env.get, retQ, resV, resOk, RS.ev, RS.ok, ite_true, true_and, and_true]
    rw [eqB_f (s0 (by simpa using g3))]
    exact View.refl _ _
  simp only [OpsW_n, OpsW_y, StepW, pok, pval, VA.ev, Env.get, Env.put, pickV, isBool, aggV, faddrV, isAddr, locCells, locOk, PV.nth, PV.row, Heap.get, HL.get, Nat.succ_ne_self, List.map, List.length, List.getD_cons_zero, List.take, List.drop, List.take_succ_cons, List.drop_succ_cons, Nat.reduceEqDiff, Nat.reduceAdd, Nat.reduceLT, Nat.reduceLeDiff, Bool.true_eq_false, ite_true, ite_false, true_and, and_true, reduceCtorEq, Nat.zero_add, List.length_cons, imp_self, g3]
  repeat (with_reducible refine And.intro ?_ ?_; first | omega | (with_reducible constructor <;> omega) | exact False.elim | exact True.intro)
  refine ACall_p hu ?_
  skip
  refine OpsW_split rfl (fun g4 => ?_) (fun g4 => ?_)
  rotate_left
  · simp only [OpsW_nil, OpsW_n, OpsW_xt, StepW, pok, pval, VA.ev, Env.get, Env.put, pickV, isBool, Nat.succ_ne_self, Nat.reduceEqDiff, Bool.false_eq_true, ite_true, ite_false, true_and, Bool.not_true, g4, ]
    refine VW_ret ?_
    try simp only [Env.get, retQ, resV, resOk, RS.ev, RS.ok, ite_true, true_and, and_true]
    rw [eqB_f (fun e => by subst e; simp [eqB] at g4)]
    exact View.refl _ _
  simp only [OpsW_nil, OpsW_n, OpsW_y, StepW, pok, pval, VA.ev, Env.get, Env.put, pickV, isBool, aggV, faddrV, isAddr, locCells, locOk, PV.nth, PV.row, Heap.get, HL.get, Nat.le_refl, Nat.succ_ne_self, List.map, List.length, List.getD_cons_zero, List.take, List.drop, List.take_succ_cons, List.drop_succ_cons, Nat.reduceEqDiff, Nat.reduceLT, Bool.false_eq_true, ite_true, ite_false, true_and, and_true, implies_true, reduceCtorEq, Nat.zero_add, List.length_cons, g4, ]
  repeat (with_reducible refine And.intro ?_ ?_; first | omega | (with_reducible constructor <;> omega) | exact False.elim | exact True.intro)
  refine ACall_p (sp70 _ _ oa.len (fun k ka kb => sp58 _ _ (oa.by' _ (List.getElem_mem ka)) (ob.by' _ (List.getElem_mem kb)))) ?_
  skip
  refine VW_ret ?_
  try simp only [Env.get, retQ, resV, resOk, RS.ev, RS.ok, ite_true, true_and, and_true]
  obtain ⟨q1, q2, q3, q4, q5, q6⟩ := n1 g1
  obtain ⟨u1, u2, u3, u4⟩ := t1 g2
  obtain ⟨v1, v2, v3, v4⟩ := s1 g3
  have e1 : eqB a.by' b.by' = eqB a b := by
    simp [eqB] at g4
    by_cases h : a.by' = b.by'
    · rw [eqB_t h, eqB_t (it_eq ⟨q1, q2, q3, u1, u2, u4, q4, q5, q6, u3⟩ ⟨v1, v2, v3, v4, g4, by rw [h]⟩ h)]
    · rw [eqB_f h, eqB_f (fun e => h (by rw [e]))]
  rw [e1]
  exact View.refl _ _
termination_by SizeOf.sizeOf a
decreasing_by exact it_size ka
end Go.Proofs.Ytcjaojhbebpokaa.w

