/-
  Walks: who an order refers to.
  Walks: commencement.Initial, InForce.
  Walks: commencement.InForce.
  Plain laws of commencement: orders that do not matter, events, reviving, the last order.
  Walks: pandectref02.Same.
  Walks: pandectref27.Few.
-/
import Derived.Test.YtepmaobfbfbecaaRd
import Derived.Test.YtepmaobfbfbecaaTb
import Derived.Test.YtepmaobfbfbecaaVmZ
import Derived.Test.YtepmaobfbfbecaaSo
set_option linter.all false
namespace Go.Proofs.Ytepmaobfbfbecaa.w
open Go Go.VM
set_option maxRecDepth 20000
set_option maxHeartbeats 0
def c_pandectlaw27_CommencementRefers : VC := (.seq (.region [⟨(some 3), (.box 25 (.t 0)), none⟩, ⟨(some 6), (.mv (.c (.bool false))), none⟩] false) (.seq (.region [⟨(some 7), (.call 10 []), none⟩, ⟨(some 8), (.mv (.t 7)), none⟩, ⟨(some 9), (.load true 25 (.t 3)), (some (8, true))⟩, ⟨(some 10), (.mv (.t 1)), (some (8, true))⟩, ⟨(some 11), (.mv (.t 2)), (some (8, true))⟩, ⟨(some 12), (.call 19 [(.t 9), (.t 10), (.t 11)]), (some (8, true))⟩, ⟨(some 13), (.load true 25 (.t 3)), (some (8, true))⟩, ⟨(some 14), (.mv (.t 1)), (some (8, true))⟩, ⟨(some 15), (.mv (.t 2)), (some (8, true))⟩, ⟨(some 16), (.call 20 [(.t 13), (.t 14), (.t 15)]), (some (8, true))⟩, ⟨(some 17), (.binb .eql (.t 12) (.t 16)), (some (8, true))⟩, ⟨(some 18), (.pick (.t 8) (.t 17) (.c (.bool false))), none⟩, ⟨(some 6), (.mv (.t 18)), none⟩] true) .ret))
def c_commencement_Refers : VC := (.seq (.region [⟨(some 3), (.box 25 (.t 0)), none⟩, ⟨(some 6), (.mv (.c (.bool false))), none⟩] false) (.seq (.seq (.region [⟨(some 9), (.faddr 20 (.t 3)), none⟩, ⟨(some 10), (.load false 1 (.t 9)), none⟩, ⟨(some 11), (.mv (.t 1)), none⟩, ⟨(some 12), (.bin .neq (.t 10) (.t 11)), none⟩] false) (.cond (.t 12) (.seq (.region [⟨(some 6), (.mv (.c (.bool false))), none⟩] false) .ret) .skip)) (.seq (.seq (.region [⟨(some 13), (.faddr 0 (.t 3)), none⟩, ⟨(some 14), (.load false 1 (.t 13)), none⟩, ⟨(some 15), (.bin .eql (.t 14) (.c (.int .i64 11))), none⟩] false) (.cond (.t 15) (.seq (.region [⟨(some 16), (.faddr 21 (.t 3)), none⟩, ⟨(some 17), (.load false 1 (.t 16)), none⟩, ⟨(some 18), (.mv (.t 2)), none⟩, ⟨(some 19), (.bin .eql (.t 17) (.t 18)), none⟩, ⟨(some 6), (.mv (.t 19)), none⟩] false) .ret) .skip)) (.seq (.region [⟨(some 21), (.call 31 []), none⟩, ⟨(some 22), (.faddr 0 (.t 3)), none⟩, ⟨(some 23), (.load false 1 (.t 22)), none⟩, ⟨(some 24), (.lookup (.one .i) .nilfn true (.t 21) (.t 23)), none⟩, ⟨(some 20), (.mv (.t 24)), none⟩, ⟨(some 25), (.ext (.t 20) 0), none⟩, ⟨(some 26), (.ext (.t 20) 1), none⟩, ⟨(some 7), (.mv (.t 25)), none⟩, ⟨(some 8), (.mv (.t 26)), none⟩] true) (.seq (.region [⟨(some 27), (.mv (.t 8)), none⟩, ⟨(some 28), (.mv (.t 27)), none⟩, ⟨(some 29), (.faddr 21 (.t 3)), (some (28, true))⟩, ⟨(some 30), (.load false 1 (.t 29)), (some (28, true))⟩, ⟨(some 31), (.mv (.t 2)), (some (28, true))⟩, ⟨(some 32), (.bin .eql (.t 30) (.t 31)), (some (28, true))⟩, ⟨(some 33), (.mv (.t 32)), (some (28, true))⟩, ⟨(some 34), (.faddr 21 (.t 3)), (some (33, false))⟩, ⟨(some 35), (.load false 1 (.t 34)), (some (33, false))⟩, ⟨(some 36), (.bin .eql (.t 35) (.c (.int .i64 (-1)))), (some (33, false))⟩, ⟨(some 37), (.pick (.t 33) (.c (.bool true)) (.t 36)), (some (28, true))⟩, ⟨(some 38), (.pick (.t 28) (.t 37) (.c (.bool false))), none⟩, ⟨(some 6), (.mv (.t 38)), none⟩] false) .ret)))))
def c_pandectref27_Names : VC := (.seq (.region [⟨(some 3), (.box 25 (.t 0)), none⟩, ⟨(some 6), (.mv (.c (.bool false))), none⟩] false) (.seq (.seq (.region [⟨(some 7), (.faddr 0 (.t 3)), none⟩, ⟨(some 8), (.load false 1 (.t 7)), none⟩] false) (.block 0 (.seq (.seq (.region [⟨(some 10), (.bin .eql (.t 8) (.c (.int .i64 7))), none⟩, ⟨(some 9), (.mv (.t 10)), none⟩] false) (.cond (.t 9) .skip (.seq (.region [⟨(some 11), (.bin .eql (.t 8) (.c (.int .i64 8))), none⟩, ⟨(some 9), (.mv (.t 11)), none⟩] false) (.cond (.t 9) .skip (.region [⟨(some 12), (.bin .eql (.t 8) (.c (.int .i64 9))), none⟩, ⟨(some 9), (.mv (.t 12)), none⟩] false))))) (.cond (.t 9) (.seq (.region [⟨(some 13), (.faddr 20 (.t 3)), none⟩, ⟨(some 14), (.load false 1 (.t 13)), none⟩, ⟨(some 15), (.mv (.t 1)), none⟩, ⟨(some 16), (.bin .eql (.t 14) (.t 15)), none⟩, ⟨(some 17), (.mv (.t 16)), none⟩, ⟨(some 18), (.faddr 21 (.t 3)), (some (17, true))⟩, ⟨(some 19), (.load false 1 (.t 18)), (some (17, true))⟩, ⟨(some 20), (.mv (.t 2)), (some (17, true))⟩, ⟨(some 21), (.bin .eql (.t 19) (.t 20)), (some (17, true))⟩, ⟨(some 22), (.mv (.t 21)), (some (17, true))⟩, ⟨(some 23), (.faddr 21 (.t 3)), (some (22, false))⟩, ⟨(some 24), (.load false 1 (.t 23)), (some (22, false))⟩, ⟨(some 25), (.bin .eql (.t 24) (.c (.int .i64 (-1)))), (some (22, false))⟩, ⟨(some 26), (.pick (.t 22) (.c (.bool true)) (.t 25)), (some (17, true))⟩, ⟨(some 27), (.pick (.t 17) (.t 26) (.c (.bool false))), none⟩, ⟨(some 6), (.mv (.t 27)), none⟩] false) .ret) (.seq (.region [⟨(some 29), (.bin .eql (.t 8) (.c (.int .i64 11))), none⟩, ⟨(some 28), (.mv (.t 29)), none⟩] false) (.cond (.t 28) (.seq (.region [⟨(some 30), (.faddr 20 (.t 3)), none⟩, ⟨(some 31), (.load false 1 (.t 30)), none⟩, ⟨(some 32), (.mv (.t 1)), none⟩, ⟨(some 33), (.bin .eql (.t 31) (.t 32)), none⟩, ⟨(some 34), (.mv (.t 33)), none⟩, ⟨(some 35), (.faddr 21 (.t 3)), (some (34, true))⟩, ⟨(some 36), (.load false 1 (.t 35)), (some (34, true))⟩, ⟨(some 37), (.mv (.t 2)), (some (34, true))⟩, ⟨(some 38), (.bin .eql (.t 36) (.t 37)), (some (34, true))⟩, ⟨(some 39), (.pick (.t 34) (.t 38) (.c (.bool false))), none⟩, ⟨(some 6), (.mv (.t 39)), none⟩] false) .ret) .skip)))))) (.seq (.region [⟨(some 6), (.mv (.c (.bool false))), none⟩] false) .ret)))
theorem it_take (u : It) : u.enc.take 25 = u.enc := List.take_of_length_le (by rw [It.enc_len]; exact Nat.le_refl _)
def turnsM : List (PV × PV) := [(pI 7, .fn (.func 29) [] []), (pI 9, .fn (.func 29) [] []), (pI 8, .fn (.func 37) [] [])]
theorem sp_commencement_turns : PCall Try.prog 31 [] (.rmp turnsM) := run_pcall run.T_ok 50 rfl (by kernel_rfl)
def refers (it : It) (act item : Int) : Bool := (it.act == act) && ((it.kind == 11) && (it.item == item) || (!(it.kind == 11)) && ((it.kind == 7) || (it.kind == 9) || (it.kind == 8)) && ((it.item == item) || (it.item == -1)))
theorem sp_commencement_Refers (it : It) (act item : Int) : PCall Try.prog 19 [.agg it.enc, pI act, pI item] (.bool (refers it act item)) := by
  have ea := It.enc_eq it
  refine PCall_intro ?_ (cB _) (by simp only [ClosedL, List.mem_cons, List.not_mem_nil, or_false, forall_eq_or_imp, forall_eq, false_implies, implies_true]; repeat' (first | exact cI _ | exact cS _ | exact cB _ | exact closed_fn0 _ | exact closed_nilsl | exact closed_agg (Un.closed _) | exact closed_agg (It.closed _) | exact closed_agg (EI.closed _) | exact closed_agg (Ac.closed _) | exact closed_agg (Wd.closed _) | exact closed_agg (St.closed _) | exact closed_agg (Sta.closed _) | exact closed_eis _ | exact closed_acs _ | exact closed_strs _ | exact closed_map (fun w _ => Wd.closed w) | exact closed_map (fun w _ => St.closed w) | exact closed_map (fun w _ => Un.closed w) | exact closed_map (fun w _ => It.closed w) | exact closed_sc _ | exact closed_sps _ | exact closed_agg (Sp.closed _) | exact closed_ro (EI.closed _) | exact closed_ro (Sta.closed _) | exact closed_ro (It.closed _) | exact closed_ro (by simp only [List.mem_cons, List.not_mem_nil, or_false, forall_eq]; first | exact cI _ | exact cS _ | exact closed_eis _) | refine And.intro ?_ ?_))
  refine ACall_fn (vc := c_commencement_Refers) (ts := [.t 6]) Go.Proofs.Try.func19 (by kernel_rfl) rfl rfl (Nat.le_of_ble_eq_true rfl) (by kernel_rfl) ?_
  unfold c_commencement_Refers
  refine VW_seq (VW_region [1, 2, 3] ?_)
  simp only [OpsW_nil, OpsW_n, StepW, pok, pval, VA.ev, Env.get, Env.put, Env.keep, argEnv, thenQ, PV.cells, PV.fits, Heap.push, Heap.nil, Nat.succ_ne_self, List.length, Nat.reduceEqDiff, Nat.reduceAdd, ite_true, ite_false, true_and, reduceCtorEq, BEq.rfl, Nat.zero_add, ea]
  refine VW_seq ?_
  refine VW_seq (VW_region [2, 3, 12] ?_)
  simp only [OpsW_nil, OpsW_n, StepW, pok, pval, VA.ev, Env.get, Env.put, Env.keep, thenQ, aggV, intV, binV, binOk, faddrV, isAddr, locCells, locOk, PV.nth, PV.row, Heap.get, HL.get, Nat.succ_ne_self, List.length, List.getD_cons_zero, List.take, List.drop, List.take_succ_cons, List.drop_succ_cons, Nat.reduceEqDiff, Nat.reduceAdd, Nat.reduceLT, Nat.reduceLeDiff, Bool.false_eq_true, ite_true, ite_false, true_and, and_true, implies_true, Nat.zero_add, List.length_cons]
  refine VW_cond rfl (fun h1 => ?_) (fun h1 => ?_)
  · refine VW_seq (VW_region [6] ?_)
    simp only [OpsW_nil, OpsW_n, StepW, pok, pval, VA.ev, Env.get, Env.put, Env.keep, thenQ, Nat.reduceEqDiff, ite_true, ite_false, true_and]
    refine VW_ret ?_
    try simp only [Env.get, thenQ, retQ, resV, resOk, RS.ev, RS.ok, ite_true, true_and, and_true]
    have e1 : refers it act item = false := by
      have : (it.act == act) = false := by simpa [bne] using h1
      simp [refers, this]
    rw [e1]
    exact View.refl _ _
  have hA : (it.act == act) = true := by simpa [bne] using h1
  refine VW_skip ?_
  try simp only [thenQ]
  refine VW_seq ?_
  refine VW_seq (VW_region [2, 3, 15] ?_)
  simp only [OpsW_nil, OpsW_n, StepW, pok, pval, VA.ev, Env.get, Env.put, Env.keep, thenQ, aggV, intV, binV, binOk, faddrV, isAddr, locCells, locOk, PV.nth, PV.row, Heap.get, HL.get, Nat.succ_ne_self, List.length, List.getD_cons_zero, List.take, List.drop, List.take_succ_cons, Nat.reduceEqDiff, Nat.reduceAdd, Nat.reduceLT, Nat.reduceLeDiff, Bool.false_eq_true, ite_true, ite_false, true_and, and_true, implies_true, Nat.zero_add, Nat.add_zero, List.length_cons]
  refine VW_cond rfl (fun h2 => ?_) (fun h2 => ?_)
  · refine VW_seq (VW_region [6] ?_)
    simp only [OpsW_nil, OpsW_n, StepW, pok, pval, VA.ev, Env.get, Env.put, Env.keep, thenQ, aggV, intV, binV, binOk, faddrV, isAddr, locCells, locOk, PV.nth, PV.row, Heap.get, HL.get, Nat.succ_ne_self, List.length, List.getD_cons_zero, List.take, List.drop, List.take_succ_cons, List.drop_succ_cons, Nat.reduceEqDiff, Nat.reduceAdd, Nat.reduceLT, Nat.reduceLeDiff, Bool.false_eq_true, ite_true, ite_false, true_and, and_true, implies_true, Nat.zero_add, List.length_cons]
    refine VW_ret ?_
    try simp only [Env.get, thenQ, retQ, resV, resOk, RS.ev, RS.ok, ite_true, true_and, and_true]
    have e1 : refers it act item = (it.item == item) := by simp [refers, hA, h2]
    rw [e1]
    exact View.refl _ _
  refine VW_skip ?_
  try simp only [thenQ]
  refine VW_seq (VW_drawS [2, 3, 8] (by simp [Heap.le, Heap.get, HL.le, HL.get]) ?_)
  simp only [DrawW_nil, DrawW_n, QW, dok, dval, VOp.pure, VOp.simple, VOp.det, pok, pval, VA.ev, Env.get, Env.put, Env.keep, thenQ, gd, aggV, faddrV, isAddr, locCells, locOk, extV, extOk, PV.nth, PV.row, lookV, mapRows, mapOk, keysOk, keyOk, Heap.get, HL.get, Nat.succ_ne_self, ekOk, List.length, List.getD_cons_zero, List.take, List.drop, List.take_succ_cons, Nat.reduceEqDiff, Nat.reduceAdd, Nat.reduceLT, Nat.reduceLeDiff, Bool.false_eq_true, ite_true, ite_false, true_and, and_true, implies_true, forall_const, Nat.zero_add, Nat.add_zero, List.length_cons]
  refine ⟨_, .inl sp_commencement_turns, ?_⟩
  cases h7 : (it.kind == 7) <;> cases h9 : (it.kind == 9) <;> cases h8 : (it.kind == 8)
  case' false.false.false =>
    simp only [PV.cells, keyEq, mapFind, eqCells, eqCell, List.length, List.getD_cons_zero, List.getD_cons_succ, Nat.reduceAdd, Nat.reduceLT, Bool.false_eq_true, ite_false, true_and, and_true, implies_true, Nat.zero_add, turnsM, h7, h8, h9, Bool.false_and, Bool.true_and, List.forall_mem_cons, List.not_mem_nil, false_implies]
    repeat (with_reducible refine And.intro ?_ ?_; first | omega | (with_reducible constructor <;> omega) | exact False.elim | exact True.intro)
    refine VW_seq (VW_region [6] ?_)
    simp only [OpsW_nil, OpsW_n, OpsW_xt, OpsW_u, StepW, pok, pval, VA.ev, Env.get, Env.put, Env.keep, thenQ, pickV, isBool, Nat.succ_ne_self, Nat.reduceEqDiff, Bool.false_eq_true, ite_true, ite_false, true_and]
    refine VW_ret ?_
    try simp only [Env.get, retQ, resV, resOk, RS.ev, RS.ok, ite_true, true_and, and_true]
    have e1 : refers it act item = false := by simp [refers, hA, h2, h7, h8, h9]
    rw [e1]
    exact View.refl _ _
  all_goals
    simp only [PV.cells, keyEq, mapFind, eqCells, eqCell, List.length, List.getD_cons_zero, List.getD_cons_succ, Nat.reduceAdd, Nat.reduceLT, Bool.false_eq_true, ite_true, ite_false, true_and, and_true, implies_true, Nat.zero_add, turnsM, h7, h8, h9, Bool.false_and, Bool.true_and, List.forall_mem_cons, List.not_mem_nil, false_implies]
    repeat (with_reducible refine And.intro ?_ ?_; first | omega | (with_reducible constructor <;> omega) | exact False.elim | exact True.intro)
    refine VW_seq (VW_region [6] ?_)
    simp only [OpsW_n, OpsW_y, StepW, pok, pval, VA.ev, Env.get, Env.put, Env.keep, thenQ, aggV, intV, binV, binOk, faddrV, isAddr, locCells, locOk, PV.nth, PV.row, Heap.get, HL.get, Nat.succ_ne_self, List.length, List.getD_cons_zero, List.take, List.drop, List.take_succ_cons, List.drop_succ_cons, Nat.reduceEqDiff, Nat.reduceAdd, Nat.reduceLT, Nat.reduceLeDiff, Bool.false_eq_true, ite_true, ite_false, true_and, and_true, implies_true, Nat.zero_add, List.length_cons]
    refine OpsW_split rfl (fun g1 => ?_) (fun g1 => ?_)
    · simp only [OpsW_nil, OpsW_n, OpsW_y, StepW, pok, pval, VA.ev, Env.get, Env.put, pickV, isBool, aggV, intV, binV, binOk, faddrV, isAddr, locCells, locOk, PV.nth, PV.row, Heap.get, HL.get, Nat.succ_ne_self, List.length, List.getD_cons_zero, List.take, List.drop, List.take_succ_cons, List.drop_succ_cons, Nat.reduceEqDiff, Nat.reduceAdd, Nat.reduceLT, Nat.reduceLeDiff, Bool.false_eq_true, ite_true, ite_false, true_and, and_true, implies_true, Nat.zero_add, List.length_cons, g1]
      refine VW_ret ?_
      try simp only [Env.get, retQ, resV, resOk, RS.ev, RS.ok, ite_true, true_and, and_true]
      have e1 : refers it act item = (it.item == -1) := by simp [refers, hA, h2, h7, h8, h9, g1]
      rw [e1]
      exact View.refl _ _
    · simp only [OpsW_nil, OpsW_n, OpsW_y, OpsW_xf, StepW, pok, pval, VA.ev, Env.get, Env.put, pickV, isBool, Nat.succ_ne_self, Nat.reduceEqDiff, ite_true, ite_false, true_and, Bool.not_false, g1]
      refine VW_ret ?_
      try simp only [Env.get, retQ, resV, resOk, RS.ev, RS.ok, ite_true, true_and, and_true]
      have e1 : refers it act item = true := by simp [refers, hA, h2, h7, h8, h9, show (it.item == item) = true by simpa using g1]
      rw [e1]
      exact View.refl _ _
theorem sp_pandectref27_Names (it : It) (act item : Int) : PCall Try.prog 20 [.agg it.enc, pI act, pI item] (.bool (refers it act item)) := by
  have ea := It.enc_eq it
  refine PCall_intro ?_ (cB _) (by simp only [ClosedL, List.mem_cons, List.not_mem_nil, or_false, forall_eq_or_imp, forall_eq, false_implies, implies_true]; repeat' (first | exact cI _ | exact cS _ | exact cB _ | exact closed_fn0 _ | exact closed_nilsl | exact closed_agg (Un.closed _) | exact closed_agg (It.closed _) | exact closed_agg (EI.closed _) | exact closed_agg (Ac.closed _) | exact closed_agg (Wd.closed _) | exact closed_agg (St.closed _) | exact closed_agg (Sta.closed _) | exact closed_eis _ | exact closed_acs _ | exact closed_strs _ | exact closed_map (fun w _ => Wd.closed w) | exact closed_map (fun w _ => St.closed w) | exact closed_map (fun w _ => Un.closed w) | exact closed_map (fun w _ => It.closed w) | exact closed_sc _ | exact closed_sps _ | exact closed_agg (Sp.closed _) | exact closed_ro (EI.closed _) | exact closed_ro (Sta.closed _) | exact closed_ro (It.closed _) | exact closed_ro (by simp only [List.mem_cons, List.not_mem_nil, or_false, forall_eq]; first | exact cI _ | exact cS _ | exact closed_eis _) | refine And.intro ?_ ?_))
  refine ACall_fn (vc := c_pandectref27_Names) (ts := [.t 6]) Go.Proofs.Try.func20 (by kernel_rfl) rfl rfl (Nat.le_of_ble_eq_true rfl) (by kernel_rfl) ?_
  unfold c_pandectref27_Names
  refine VW_seq (VW_region [1, 2, 3] ?_)
  simp only [OpsW_nil, OpsW_n, StepW, pok, pval, VA.ev, Env.get, Env.put, Env.keep, argEnv, thenQ, PV.cells, PV.fits, Heap.push, Heap.nil, Nat.succ_ne_self, List.length, Nat.reduceEqDiff, Nat.reduceAdd, ite_true, ite_false, true_and, reduceCtorEq, BEq.rfl, Nat.zero_add, ea]
  refine VW_seq ?_
  refine VW_seq (VW_region [1, 2, 3, 8] ?_)
  simp only [OpsW_nil, OpsW_n, StepW, pok, pval, VA.ev, Env.get, Env.put, Env.keep, thenQ, aggV, faddrV, isAddr, locCells, locOk, PV.nth, PV.row, Heap.get, HL.get, Nat.succ_ne_self, List.length, List.getD_cons_zero, List.take, List.drop, List.take_succ_cons, Nat.reduceEqDiff, Nat.reduceAdd, Nat.reduceLT, Nat.reduceLeDiff, Bool.false_eq_true, ite_true, ite_false, true_and, and_true, implies_true, Nat.zero_add, Nat.add_zero, List.length_cons]
  refine VW_block ?_
  refine VW_seq ?_
  refine VW_seq (VW_region [1, 2, 3, 8, 9] ?_)
  simp only [OpsW_nil, OpsW_n, StepW, pok, pval, VA.ev, Env.get, Env.put, Env.keep, thenQ, intV, binV, binOk, Nat.succ_ne_self, Nat.reduceEqDiff, ite_true, ite_false, true_and]
  refine VW_cond rfl (fun h1 => ?_) (fun h1 => ?_)
  · refine VW_skip ?_
    try simp only [thenQ]
    refine VW_cond rfl (fun hx => ?_) (fun hx => by simp_all)
    refine VW_seq (VW_region [6] ?_)
    simp only [OpsW_n, StepW, pok, pval, VA.ev, Env.get, Env.put, Env.keep, thenQ, aggV, intV, binV, binOk, faddrV, isAddr, locCells, locOk, PV.nth, PV.row, Heap.get, HL.get, Nat.succ_ne_self, List.length, List.getD_cons_zero, List.take, List.drop, List.take_succ_cons, List.drop_succ_cons, Nat.reduceEqDiff, Nat.reduceAdd, Nat.reduceLT, Nat.reduceLeDiff, Bool.false_eq_true, ite_true, ite_false, true_and, and_true, implies_true, Nat.zero_add, List.length_cons]
    refine OpsW_split rfl (fun gA => ?_) (fun gA => ?_)
    rotate_left
    · simp only [OpsW_nil, OpsW_n, OpsW_xt, OpsW_u, StepW, pok, pval, VA.ev, Env.get, Env.put, pickV, isBool, Nat.succ_ne_self, Nat.reduceEqDiff, Bool.false_eq_true, ite_true, ite_false, true_and, Bool.not_true, gA]
      refine VW_ret ?_
      try simp only [Env.get, thenQ, blockQ, retQ, resV, resOk, RS.ev, RS.ok, ite_true, true_and, and_true]
      have e1 : refers it act item = false := by simp [refers, show (it.act == act) = false by simpa using gA]
      rw [e1]
      exact View.refl _ _
    simp only [OpsW_y, StepW, pok, pval, VA.ev, Env.get, Env.put, aggV, intV, binV, binOk, faddrV, isAddr, locCells, locOk, PV.nth, PV.row, Heap.get, HL.get, Nat.succ_ne_self, List.length, List.getD_cons_zero, List.take, List.drop, List.take_succ_cons, List.drop_succ_cons, Nat.reduceEqDiff, Nat.reduceAdd, Nat.reduceLT, Nat.reduceLeDiff, Bool.false_eq_true, ite_true, ite_false, true_and, and_true, implies_true, Nat.zero_add, List.length_cons, gA]
    refine OpsW_split rfl (fun g1 => ?_) (fun g1 => ?_)
    · simp only [OpsW_nil, OpsW_n, OpsW_y, StepW, pok, pval, VA.ev, Env.get, Env.put, pickV, isBool, aggV, intV, binV, binOk, faddrV, isAddr, locCells, locOk, PV.nth, PV.row, Heap.get, HL.get, Nat.succ_ne_self, List.length, List.getD_cons_zero, List.take, List.drop, List.take_succ_cons, List.drop_succ_cons, Nat.reduceEqDiff, Nat.reduceAdd, Nat.reduceLT, Nat.reduceLeDiff, Bool.false_eq_true, ite_true, ite_false, true_and, and_true, implies_true, Nat.zero_add, List.length_cons, gA, g1]
      refine VW_ret ?_
      try simp only [Env.get, thenQ, blockQ, retQ, resV, resOk, RS.ev, RS.ok, ite_true, true_and, and_true]
      have e1 : refers it act item = (it.item == -1) := by simp_all [refers]
      rw [e1]
      exact View.refl _ _
    · simp only [OpsW_nil, OpsW_n, OpsW_y, OpsW_xf, StepW, pok, pval, VA.ev, Env.get, Env.put, pickV, isBool, Nat.succ_ne_self, Nat.reduceEqDiff, ite_true, ite_false, true_and, Bool.not_false, gA, g1]
      refine VW_ret ?_
      try simp only [Env.get, thenQ, blockQ, retQ, resV, resOk, RS.ev, RS.ok, ite_true, true_and, and_true]
      have e1 : refers it act item = true := by simp_all [refers]
      rw [e1]
      exact View.refl _ _
  · refine VW_seq (VW_region [1, 2, 3, 8, 9] ?_)
    simp only [OpsW_nil, OpsW_n, StepW, pok, pval, VA.ev, Env.get, Env.put, Env.keep, thenQ, intV, binV, binOk, Nat.succ_ne_self, Nat.reduceEqDiff, ite_true, ite_false, true_and]
    refine VW_cond rfl (fun h2 => ?_) (fun h2 => ?_)
    · refine VW_skip ?_
      try simp only [thenQ]
      refine VW_cond rfl (fun hx => ?_) (fun hx => by simp_all)
      refine VW_seq (VW_region [6] ?_)
      simp only [OpsW_n, StepW, pok, pval, VA.ev, Env.get, Env.put, Env.keep, thenQ, aggV, intV, binV, binOk, faddrV, isAddr, locCells, locOk, PV.nth, PV.row, Heap.get, HL.get, Nat.succ_ne_self, List.length, List.getD_cons_zero, List.take, List.drop, List.take_succ_cons, List.drop_succ_cons, Nat.reduceEqDiff, Nat.reduceAdd, Nat.reduceLT, Nat.reduceLeDiff, Bool.false_eq_true, ite_true, ite_false, true_and, and_true, implies_true, Nat.zero_add, List.length_cons]
      refine OpsW_split rfl (fun gA => ?_) (fun gA => ?_)
      rotate_left
      · simp only [OpsW_nil, OpsW_n, OpsW_xt, OpsW_u, StepW, pok, pval, VA.ev, Env.get, Env.put, pickV, isBool, Nat.succ_ne_self, Nat.reduceEqDiff, Bool.false_eq_true, ite_true, ite_false, true_and, Bool.not_true, gA]
        refine VW_ret ?_
        try simp only [Env.get, thenQ, blockQ, retQ, resV, resOk, RS.ev, RS.ok, ite_true, true_and, and_true]
        have e1 : refers it act item = false := by simp [refers, show (it.act == act) = false by simpa using gA]
        rw [e1]
        exact View.refl _ _
      simp only [OpsW_y, StepW, pok, pval, VA.ev, Env.get, Env.put, aggV, intV, binV, binOk, faddrV, isAddr, locCells, locOk, PV.nth, PV.row, Heap.get, HL.get, Nat.succ_ne_self, List.length, List.getD_cons_zero, List.take, List.drop, List.take_succ_cons, List.drop_succ_cons, Nat.reduceEqDiff, Nat.reduceAdd, Nat.reduceLT, Nat.reduceLeDiff, Bool.false_eq_true, ite_true, ite_false, true_and, and_true, implies_true, Nat.zero_add, List.length_cons, gA]
      refine OpsW_split rfl (fun g1 => ?_) (fun g1 => ?_)
      · simp only [OpsW_nil, OpsW_n, OpsW_y, StepW, pok, pval, VA.ev, Env.get, Env.put, pickV, isBool, aggV, intV, binV, binOk, faddrV, isAddr, locCells, locOk, PV.nth, PV.row, Heap.get, HL.get, Nat.succ_ne_self, List.length, List.getD_cons_zero, List.take, List.drop, List.take_succ_cons, List.drop_succ_cons, Nat.reduceEqDiff, Nat.reduceAdd, Nat.reduceLT, Nat.reduceLeDiff, Bool.false_eq_true, ite_true, ite_false, true_and, and_true, implies_true, Nat.zero_add, List.length_cons, gA, g1]
        refine VW_ret ?_
        try simp only [Env.get, thenQ, blockQ, retQ, resV, resOk, RS.ev, RS.ok, ite_true, true_and, and_true]
        have e1 : refers it act item = (it.item == -1) := by simp_all [refers]
        rw [e1]
        exact View.refl _ _
      · simp only [OpsW_nil, OpsW_n, OpsW_y, OpsW_xf, StepW, pok, pval, VA.ev, Env.get, Env.put, pickV, isBool, Nat.succ_ne_self, Nat.reduceEqDiff, ite_true, ite_false, true_and, Bool.not_false, gA, g1]
        refine VW_ret ?_
        try simp only [Env.get, thenQ, blockQ, retQ, resV, resOk, RS.ev, RS.ok, ite_true, true_and, and_true]
        have e1 : refers it act item = true := by simp_all [refers]
        rw [e1]
        exact View.refl _ _
    · refine VW_region [1, 2, 3, 8, 9] ?_
      simp only [OpsW_nil, OpsW_n, StepW, pok, pval, VA.ev, Env.get, Env.put, Env.keep, thenQ, intV, binV, binOk, Nat.succ_ne_self, Nat.reduceEqDiff, ite_true, ite_false, true_and]
      refine VW_cond rfl (fun h3 => ?_) (fun h3 => ?_)
      · refine VW_seq (VW_region [6] ?_)
        simp only [OpsW_n, StepW, pok, pval, VA.ev, Env.get, Env.put, Env.keep, thenQ, aggV, intV, binV, binOk, faddrV, isAddr, locCells, locOk, PV.nth, PV.row, Heap.get, HL.get, Nat.succ_ne_self, List.length, List.getD_cons_zero, List.take, List.drop, List.take_succ_cons, List.drop_succ_cons, Nat.reduceEqDiff, Nat.reduceAdd, Nat.reduceLT, Nat.reduceLeDiff, Bool.false_eq_true, ite_true, ite_false, true_and, and_true, implies_true, Nat.zero_add, List.length_cons]
        refine OpsW_split rfl (fun gA => ?_) (fun gA => ?_)
        rotate_left
        · simp only [OpsW_nil, OpsW_n, OpsW_xt, OpsW_u, StepW, pok, pval, VA.ev, Env.get, Env.put, pickV, isBool, Nat.succ_ne_self, Nat.reduceEqDiff, Bool.false_eq_true, ite_true, ite_false, true_and, Bool.not_true, gA]
          refine VW_ret ?_
          try simp only [Env.get, thenQ, blockQ, retQ, resV, resOk, RS.ev, RS.ok, ite_true, true_and, and_true]
          have e1 : refers it act item = false := by simp [refers, show (it.act == act) = false by simpa using gA]
          rw [e1]
          exact View.refl _ _
        simp only [OpsW_y, StepW, pok, pval, VA.ev, Env.get, Env.put, aggV, intV, binV, binOk, faddrV, isAddr, locCells, locOk, PV.nth, PV.row, Heap.get, HL.get, Nat.succ_ne_self, List.length, List.getD_cons_zero, List.take, List.drop, List.take_succ_cons, List.drop_succ_cons, Nat.reduceEqDiff, Nat.reduceAdd, Nat.reduceLT, Nat.reduceLeDiff, Bool.false_eq_true, ite_true, ite_false, true_and, and_true, implies_true, Nat.zero_add, List.length_cons, gA]
        refine OpsW_split rfl (fun g1 => ?_) (fun g1 => ?_)
        · simp only [OpsW_nil, OpsW_n, OpsW_y, StepW, pok, pval, VA.ev, Env.get, Env.put, pickV, isBool, aggV, intV, binV, binOk, faddrV, isAddr, locCells, locOk, PV.nth, PV.row, Heap.get, HL.get, Nat.succ_ne_self, List.length, List.getD_cons_zero, List.take, List.drop, List.take_succ_cons, List.drop_succ_cons, Nat.reduceEqDiff, Nat.reduceAdd, Nat.reduceLT, Nat.reduceLeDiff, Bool.false_eq_true, ite_true, ite_false, true_and, and_true, implies_true, Nat.zero_add, List.length_cons, gA, g1]
          refine VW_ret ?_
          try simp only [Env.get, thenQ, blockQ, retQ, resV, resOk, RS.ev, RS.ok, ite_true, true_and, and_true]
          have e1 : refers it act item = (it.item == -1) := by simp_all [refers]
          rw [e1]
          exact View.refl _ _
        · simp only [OpsW_nil, OpsW_n, OpsW_y, OpsW_xf, StepW, pok, pval, VA.ev, Env.get, Env.put, pickV, isBool, Nat.succ_ne_self, Nat.reduceEqDiff, ite_true, ite_false, true_and, Bool.not_false, gA, g1]
          refine VW_ret ?_
          try simp only [Env.get, thenQ, blockQ, retQ, resV, resOk, RS.ev, RS.ok, ite_true, true_and, and_true]
          have e1 : refers it act item = true := by simp_all [refers]
          rw [e1]
          exact View.refl _ _
      refine VW_seq (VW_region [1, 2, 3, 28] ?_)
      simp only [OpsW_nil, OpsW_n, StepW, pok, pval, VA.ev, Env.get, Env.put, Env.keep, thenQ, intV, binV, binOk, Nat.succ_ne_self, Nat.reduceEqDiff, ite_true, ite_false, true_and]
      refine VW_cond rfl (fun h4 => ?_) (fun h4 => ?_)
      · refine VW_seq (VW_region [6] ?_)
        simp only [OpsW_n, StepW, pok, pval, VA.ev, Env.get, Env.put, Env.keep, thenQ, aggV, intV, binV, binOk, faddrV, isAddr, locCells, locOk, PV.nth, PV.row, Heap.get, HL.get, Nat.succ_ne_self, List.length, List.getD_cons_zero, List.take, List.drop, List.take_succ_cons, List.drop_succ_cons, Nat.reduceEqDiff, Nat.reduceAdd, Nat.reduceLT, Nat.reduceLeDiff, Bool.false_eq_true, ite_true, ite_false, true_and, and_true, implies_true, Nat.zero_add, List.length_cons]
        cases hA : (it.act == act)
        · simp only [OpsW_nil, OpsW_n, OpsW_xt, StepW, pok, pval, VA.ev, Env.get, Env.put, pickV, isBool, Nat.succ_ne_self, Nat.reduceEqDiff, Bool.false_eq_true, ite_true, ite_false, true_and, hA]
          refine VW_ret ?_
          try simp only [Env.get, thenQ, blockQ, retQ, resV, resOk, RS.ev, RS.ok, ite_true, true_and, and_true]
          have e1 : refers it act item = false := by simp [refers, hA]
          rw [e1]
          exact View.refl _ _
        · simp only [OpsW_nil, OpsW_n, OpsW_y, StepW, pok, pval, VA.ev, Env.get, Env.put, pickV, isBool, aggV, intV, binV, binOk, faddrV, isAddr, locCells, locOk, PV.nth, PV.row, Heap.get, HL.get, Nat.succ_ne_self, List.length, List.getD_cons_zero, List.take, List.drop, List.take_succ_cons, List.drop_succ_cons, Nat.reduceEqDiff, Nat.reduceAdd, Nat.reduceLT, Nat.reduceLeDiff, Bool.false_eq_true, ite_true, ite_false, true_and, and_true, implies_true, Nat.zero_add, List.length_cons, hA]
          refine VW_ret ?_
          try simp only [Env.get, thenQ, blockQ, retQ, resV, resOk, RS.ev, RS.ok, ite_true, true_and, and_true]
          have e1 : refers it act item = (it.item == item) := by simp [refers, hA, h1, h2, h3, h4]
          rw [e1]
          exact View.refl _ _
      refine VW_skip ?_
      try simp only [thenQ, blockQ]
      refine VW_seq (VW_region [6] ?_)
      simp only [OpsW_nil, OpsW_n, StepW, pok, pval, VA.ev, Env.get, Env.put, Env.keep, thenQ, Nat.reduceEqDiff, ite_true, ite_false, true_and]
      refine VW_ret ?_
      try simp only [Env.get, retQ, resV, resOk, RS.ev, RS.ok, ite_true, true_and, and_true]
      have e1 : refers it act item = false := by simp [refers, h1, h2, h3, h4]
      rw [e1]
      exact View.refl _ _
theorem law_CommencementRefers (it : It) (act item : Int) (h1 : it.ok) (h2 : i64 act) (h3 : i64 item) : PCall Try.prog 4 [.agg it.enc, pI act, pI item] (.bool true) := by
  refine PCall_intro ?_ (cB _) (by simp only [ClosedL, List.mem_cons, List.not_mem_nil, or_false, forall_eq_or_imp, forall_eq, false_implies, implies_true]; repeat' (first | exact cI _ | exact cS _ | exact cB _ | exact closed_fn0 _ | exact closed_nilsl | exact closed_agg (Un.closed _) | exact closed_agg (It.closed _) | exact closed_agg (EI.closed _) | exact closed_agg (Ac.closed _) | exact closed_agg (Wd.closed _) | exact closed_agg (St.closed _) | exact closed_agg (Sta.closed _) | exact closed_eis _ | exact closed_acs _ | exact closed_strs _ | exact closed_map (fun w _ => Wd.closed w) | exact closed_map (fun w _ => St.closed w) | exact closed_map (fun w _ => Un.closed w) | exact closed_map (fun w _ => It.closed w) | exact closed_sc _ | exact closed_sps _ | exact closed_agg (Sp.closed _) | exact closed_ro (EI.closed _) | exact closed_ro (Sta.closed _) | exact closed_ro (It.closed _) | exact closed_ro (by simp only [List.mem_cons, List.not_mem_nil, or_false, forall_eq]; first | exact cI _ | exact cS _ | exact closed_eis _) | refine And.intro ?_ ?_))
  refine ACall_fn (vc := c_pandectlaw27_CommencementRefers) (ts := [.t 6]) Go.Proofs.Try.func4 (by kernel_rfl) rfl rfl (Nat.le_of_ble_eq_true rfl) (by kernel_rfl) ?_
  unfold c_pandectlaw27_CommencementRefers
  refine VW_seq (VW_region [1, 2, 3] ?_)
  simp only [OpsW_nil, OpsW_n, StepW, pok, pval, VA.ev, Env.get, Env.put, Env.keep, argEnv, thenQ, PV.cells, PV.fits, Heap.push, Heap.nil, Nat.succ_ne_self, Nat.reduceEqDiff, Nat.reduceAdd, ite_true, ite_false, true_and, reduceCtorEq, BEq.rfl, Nat.zero_add, It.enc_len]
  refine VW_seq (VW_drawS [6] (by simp [Heap.le, Heap.get, HL.le, HL.get]) ?_)
  simp only [DrawW_n, QW, dok, dval, VOp.pure, VOp.simple, VOp.det, pok, pval, VA.ev, Env.get, Env.put, Env.keep, thenQ, gd, Nat.reduceEqDiff, ite_true, ite_false, true_and, implies_true, forall_const]
  refine ⟨_, .inl run.awake, ?_⟩
  simp only [DrawW_nil, DrawW_n, DrawW_y, QW, dok, dval, VOp.pure, VOp.simple, VOp.det, pok, pval, VA.ev, Env.get, Env.put, gd, pickV, isBool, aggV, binbV, boolV, binbOk, locCells, locOk, PV.nth, PV.row, Heap.get, HL.get, Nat.le_refl, Nat.succ_ne_self, List.length, List.getD_cons_zero, List.drop, Nat.reduceEqDiff, Nat.reduceLT, Bool.true_eq_false, ite_true, ite_false, true_and, and_true, implies_true, forall_const, Nat.zero_add, imp_self, It.enc_len, it_take]
  refine ⟨_, .inl (sp_commencement_Refers it act item), ?_⟩
  try simp only [OpsW_nil, OpsW_n, OpsW_y, OpsW_xt, OpsW_xf, OpsW_u, StepW, guardOf, DrawW_nil, DrawW_n, DrawW_y, DrawW_xt, DrawW_xf, DrawW_u, DrawH, VOp.isIaddr, QW, dok, dval, VOp.pure, VOp.simple, VOp.det, pok, pval, VA.ev, Env.get, Env.put, Env.keep, argEnv, thenQ, blockQ, retQ, resV, resOk, RS.ev, RS.ok, gd, pickV, isBool, aggV, intV, binV, binOk, strV, binbV, boolV, binbOk, unV, unOk, convV, isInt, isStr, numOf, loV, hiV, lenV, boundOk, sliceV, sliceOk, faddrV, isAddr, locCells, locOk, cellsOfAgg, isAggP, iaddrV, iaddrOk, idxV, idxOk, lenOk, extV, extOk, fillV, fillOk, mmV, PV.cells, PV.fits, overlay, PV.nth, PV.row, lookV, mapRows, mapOk, keysOk, keyOk, keyEq, mapFind, mapPut, mapHas, mapsetV, Heap.get, Heap.set, Heap.del, Heap.le, HL.get, HL.set, HL.del, HL.le, Heap.push, Heap.nil, Nat.le_refl, Nat.add_eq_left, Nat.left_eq_add, Nat.succ_ne_self, Nat.one_ne_zero, Env.le, killed, oldId, oldRows, oldOk, srcRows, srcOk, elemsV, elemsOk, eqOk, ekOk, eqCells, eqCell, storeV, storeOk, AB.live, pxV, pxOk, fxV, fxOk, isPtr, slLike, isNil, notNil, List.map, List.set, List.replicate, List.length, List.getD_cons_zero, List.getD_cons_succ, List.getD_nil, List.take, List.drop, List.take_zero, List.drop_zero, List.take_succ_cons, List.drop_succ_cons, List.append, List.cons_append, List.nil_append, Option.map, Nat.reduceEqDiff, Nat.reduceAdd, Nat.reduceLT, Nat.reduceLeDiff, Nat.reduceSub, Nat.reduceMul, reduceIte, Bool.false_eq_true, Bool.true_eq_false, ite_true, ite_false, if_true, if_false, true_and, and_true, implies_true, forall_const, ne_eq, not_false_eq_true, reduceCtorEq, BEq.rfl, beq_self_eq_true, Option.some.injEq, Nat.zero_add, Nat.add_zero, List.length_cons, List.length_nil, true_implies, imp_self, Int.reduceToNat, Int.toNat_natCast, Bool.not_false, Bool.not_true, It.enc_len, it_take]
  refine ⟨_, .inl (sp_pandectref27_Names it act item), ?_⟩
  try simp only [true_and, BEq.rfl]
  refine VW_ret ?_
  try simp only [Env.get, retQ, resV, resOk, RS.ev, RS.ok, ite_true, true_and, and_true]
  exact View.refl _ _
end Go.Proofs.Ytepmaobfbfbecaa.w


namespace Go.Proofs.Ytepmaobfbfbecaa.w
open Go Go.VM
set_option maxRecDepth 20000
set_option maxHeartbeats 0
set_option pp.deepTerms false
def c_commencement_Initial : VC := (.seq (.region [⟨(some 2), (.box 3 (.t 0)), none⟩, ⟨(some 4), (.mv (.c .nilsl)), none⟩] false) (.seq (.seq (.region [⟨(some 7), (.faddr 0 (.t 2)), none⟩, ⟨(some 8), (.load false 1 (.t 7)), none⟩] false) (.block 0 (.seq (.region [⟨(some 10), (.bin .eql (.t 8) (.c (.int .i64 1))), none⟩, ⟨(some 9), (.mv (.t 10)), none⟩] false) (.cond (.t 9) (.seq (.region [⟨(some 11), (.faddr 1 (.t 2)), none⟩, ⟨(some 12), (.load false 1 (.t 11)), none⟩, ⟨(some 13), (.call 29 [(.c .nilsl), (.t 12)]), none⟩, ⟨(some 4), (.mv (.t 13)), none⟩] false) .ret) (.seq (.region [⟨(some 15), (.bin .eql (.t 8) (.c (.int .i64 3))), none⟩, ⟨(some 14), (.mv (.t 15)), none⟩] false) (.cond (.t 14) (.seq (.region [⟨(some 17), (.faddr 2 (.t 2)), none⟩, ⟨(some 18), (.load false 1 (.t 17)), none⟩, ⟨(some 19), (.mv (.t 1)), none⟩, ⟨(some 20), (.call 12 [(.t 18), (.t 19)]), none⟩, ⟨(some 16), (.mv (.t 20)), none⟩, ⟨(some 21), (.ext (.t 16) 0), none⟩, ⟨(some 22), (.ext (.t 16) 1), none⟩, ⟨(some 5), (.mv (.t 21)), none⟩, ⟨(some 6), (.mv (.t 22)), none⟩] false) (.seq (.region [⟨(some 23), (.mv (.t 6)), none⟩] false) (.cond (.t 23) (.seq (.region [⟨(some 24), (.mv (.t 5)), none⟩, ⟨(some 25), (.call 29 [(.c .nilsl), (.t 24)]), none⟩, ⟨(some 4), (.mv (.t 25)), none⟩] false) .ret) .skip))) .skip)))))) (.seq (.region [⟨(some 4), (.mv (.c .nilsl)), none⟩] false) .ret)))
def c_commencement_InForce : VC := (.seq (.region [⟨(some 3), (.box 3 (.t 0)), none⟩, ⟨(some 4), (.box 28 (.t 1)), none⟩, ⟨(some 6), (.mv (.c .nilsl)), none⟩] false) (.seq (.seq (.region [⟨(some 12), (.faddr 3 (.t 4)), none⟩, ⟨(some 13), (.faddr 0 (.t 12)), none⟩, ⟨(some 14), (.load false 1 (.t 13)), none⟩, ⟨(some 15), (.bin .lss (.t 14) (.c (.int .i64 0))), none⟩, ⟨(some 16), (.mv (.t 15)), none⟩, ⟨(some 17), (.faddr 3 (.t 4)), (some (16, false))⟩, ⟨(some 18), (.faddr 0 (.t 17)), (some (16, false))⟩, ⟨(some 19), (.load false 1 (.t 18)), (some (16, false))⟩, ⟨(some 20), (.bin .gtr (.t 19) (.c (.int .i64 6))), (some (16, false))⟩, ⟨(some 21), (.pick (.t 16) (.c (.bool true)) (.t 20)), none⟩] false) (.cond (.t 21) (.seq (.region [⟨(some 6), (.mv (.c .nilsl)), none⟩] false) .ret) .skip)) (.seq (.region [⟨(some 22), (.load true 3 (.t 3)), none⟩, ⟨(some 23), (.faddr 3 (.t 4)), none⟩, ⟨(some 24), (.faddr 17 (.t 23)), none⟩, ⟨(some 25), (.load true 3 (.t 24)), none⟩, ⟨(some 26), (.call 14 [(.t 22), (.t 25)]), none⟩, ⟨(some 27), (.mv (.t 2)), none⟩, ⟨(some 28), (.call 17 [(.t 26), (.t 27)]), none⟩, ⟨(some 7), (.mv (.t 28)), none⟩] false) (.seq (.seq (.region [⟨(some 29), (.mv (.t 2)), none⟩, ⟨(some 30), (.len false (.t 29)), none⟩, ⟨(some 31), (.mv (.c (.int .i64 0))), none⟩] false) (.block 0 (.loop (.seq (.region [⟨(some 32), (.bin .lss (.t 31) (.t 30)), none⟩] false) (.seq (.cond (.t 32) .skip (.exit 0)) (.seq (.block 1 (.seq (.region [⟨(some 33), (.iaddr 28 (.t 29) (.t 31)), none⟩, ⟨(some 34), (.load true 28 (.t 33)), none⟩, ⟨(some 9), (.alloc [(.int .i64 0), (.int .i64 0), (.int .i64 0), (.int .i64 0), .nilsl, .nilsl, (.int .i64 0), (.int .i64 0), (.int .i64 0), (.int .i64 0), (.int .i64 0), (.int .i64 0), (.str []), .nilsl, .nilsl, .nilsl, .nilsl, .nilsl, (.str []), (.str []), (.int .i64 0), (.int .i64 0), (.str []), (.int .i64 0), (.int .i64 0), (.int .i64 0), (.str []), .nilsl]), none⟩, ⟨none, (.store 28 (.t 9) (.t 34)), none⟩] false) (.seq (.region [⟨(some 36), (.call 31 []), none⟩, ⟨(some 37), (.faddr 3 (.t 9)), none⟩, ⟨(some 38), (.faddr 0 (.t 37)), none⟩, ⟨(some 39), (.load false 1 (.t 38)), none⟩, ⟨(some 40), (.lookup (.one .i) .nilfn true (.t 36) (.t 39)), none⟩, ⟨(some 35), (.mv (.t 40)), none⟩, ⟨(some 41), (.ext (.t 35) 0), none⟩, ⟨(some 42), (.ext (.t 35) 1), none⟩, ⟨(some 10), (.mv (.t 41)), none⟩, ⟨(some 11), (.mv (.t 42)), none⟩] true) (.seq (.region [⟨(some 43), (.mv (.t 11)), none⟩, ⟨(some 44), (.mv (.t 43)), none⟩, ⟨(some 45), (.faddr 3 (.t 9)), (some (44, true))⟩, ⟨(some 46), (.load true 25 (.t 45)), (some (44, true))⟩, ⟨(some 47), (.faddr 0 (.t 4)), (some (44, true))⟩, ⟨(some 48), (.load false 1 (.t 47)), (some (44, true))⟩, ⟨(some 49), (.faddr 1 (.t 4)), (some (44, true))⟩, ⟨(some 50), (.load false 1 (.t 49)), (some (44, true))⟩, ⟨(some 51), (.call 19 [(.t 46), (.t 48), (.t 50)]), (some (44, true))⟩, ⟨(some 52), (.pick (.t 44) (.t 51) (.c (.bool false))), none⟩] false) (.cond (.t 52) (.region [⟨(some 53), (.mv (.t 10)), none⟩, ⟨(some 54), (.mv (.t 7)), none⟩, ⟨(some 55), (.faddr 3 (.t 9)), none⟩, ⟨(some 56), (.faddr 22 (.t 55)), none⟩, ⟨(some 57), (.load false 1 (.t 56)), none⟩, ⟨(some 58), (.callv (.t 53) [(.t 54), (.t 57)]), none⟩, ⟨(some 7), (.mv (.t 58)), none⟩] false) .skip))))) (.region [⟨(some 59), (.bin .add (.t 31) (.c (.int .i64 1))), none⟩, ⟨(some 31), (.mv (.t 59)), none⟩] false))))))) (.seq (.region [⟨(some 60), (.mv (.t 7)), none⟩, ⟨(some 6), (.mv (.t 60)), none⟩] false) .ret)))))
noncomputable def initS (s : Sta) (l : List EI) : List Sp :=
  if s.kind = 1 then extendS [] s.day else if s.kind = 3 then (if (eventS s.event l).2 then extendS [] (eventS s.event l).1 else []) else []
theorem initS_len (s : Sta) (l : List EI) : (initS s l).length ≤ 1 := by
  unfold initS
  have h := fun d => extend_len (l := []) trivial d
  split
  · exact h _
  · split
    · split
      · exact h _
      · simp
    · simp
theorem initS_canon (s : Sta) (l : List EI) : Canon (initS s l) := by
  unfold initS
  have h := fun d => (extend_spec [] d).1
  split
  · exact h _
  · split
    · split
      · exact h _
      · trivial
    · trivial
theorem sp_extend_nil (d : Int) {h : Heap} {K : PV → Heap → Prop} (hk : K (.sl 2 ((extendS [] d).map Sp.enc)) ⟨[], h.top⟩) : ACall Try.prog 29 [.nilsl, pI d] h K := by
  refine ACall_f [.sl 2 (([] : List Sp).map Sp.enc), pI d] ⟨?_, View.refl _ _, trivial⟩ (ACall_p (sp_dateset_ExtendFrom [] d (by simp) (Nat.le_trans (trunc_len (l := []) trivial d) (by simp))) hk)
  exact View.nil _ _
theorem sp_commencement_Initial (s : Sta) (l : List EI) (hl : l.length ≤ 1000000) : PCall Try.prog 17 [.agg s.enc, .sl 28 (l.map EI.enc)] (.sl 2 ((initS s l).map Sp.enc)) := by
  refine PCall_intro ?_ (closed_sps _) (by simp only [ClosedL, List.mem_cons, List.not_mem_nil, or_false, forall_eq_or_imp, forall_eq, false_implies, implies_true]; repeat' (first | exact cI _ | exact cS _ | exact cB _ | exact closed_fn0 _ | exact closed_nilsl | exact closed_agg (Un.closed _) | exact closed_agg (It.closed _) | exact closed_agg (EI.closed _) | exact closed_agg (Ac.closed _) | exact closed_agg (Wd.closed _) | exact closed_agg (St.closed _) | exact closed_agg (Sta.closed _) | exact closed_eis _ | exact closed_acs _ | exact closed_strs _ | exact closed_map (fun w _ => Wd.closed w) | exact closed_map (fun w _ => St.closed w) | exact closed_map (fun w _ => Un.closed w) | exact closed_map (fun w _ => It.closed w) | exact closed_sc _ | exact closed_sps _ | exact closed_agg (Sp.closed _) | exact closed_ro (EI.closed _) | exact closed_ro (Sta.closed _) | exact closed_ro (It.closed _) | exact closed_ro (by simp only [List.mem_cons, List.not_mem_nil, or_false, forall_eq]; first | exact cI _ | exact cS _ | exact closed_eis _) | refine And.intro ?_ ?_))
  refine ACall_fn (vc := c_commencement_Initial) (ts := [.t 4]) Go.Proofs.Try.func17 (by kernel_rfl) rfl rfl (Nat.le_of_ble_eq_true rfl) (by kernel_rfl) ?_
  unfold c_commencement_Initial
  refine VW_seq (VW_region [1, 2] ?_)
  simp only [OpsW_nil, OpsW_n, StepW, pok, pval, VA.ev, Env.get, Env.put, Env.keep, argEnv, thenQ, PV.cells, PV.fits, Heap.push, Heap.nil, Nat.succ_ne_self, List.length, Nat.reduceEqDiff, Nat.reduceAdd, ite_true, ite_false, true_and, reduceCtorEq, BEq.rfl, Nat.zero_add, Sta.enc]
  refine VW_seq ?_
  refine VW_seq (VW_region [1, 2, 8] ?_)
  simp only [OpsW_nil, OpsW_n, StepW, pok, pval, VA.ev, Env.get, Env.put, Env.keep, thenQ, aggV, faddrV, isAddr, locCells, locOk, PV.nth, PV.row, Heap.get, HL.get, Nat.succ_ne_self, List.length, List.getD_cons_zero, List.take, List.drop, List.take_succ_cons, Nat.reduceEqDiff, Nat.reduceAdd, Nat.reduceLT, Nat.reduceLeDiff, Bool.false_eq_true, ite_true, ite_false, true_and, and_true, implies_true, Nat.zero_add, Nat.add_zero, List.length_cons]
  refine VW_block ?_
  refine VW_seq (VW_region [1, 2, 8, 9] ?_)
  simp only [OpsW_nil, OpsW_n, StepW, pok, pval, VA.ev, Env.get, Env.put, Env.keep, thenQ, intV, binV, binOk, Nat.succ_ne_self, Nat.reduceEqDiff, ite_true, ite_false, true_and]
  refine VW_cond rfl (fun h1 => ?_) (fun h1 => ?_)
  · refine VW_seq (VW_region [4] ?_)
    simp only [OpsW_nil, OpsW_n, StepW, pok, pval, VA.ev, Env.get, Env.put, Env.keep, thenQ, aggV, faddrV, isAddr, locCells, locOk, PV.nth, PV.row, Heap.get, HL.get, List.map, List.length, List.getD_cons_zero, List.take, List.drop, List.take_succ_cons, List.drop_succ_cons, Nat.reduceEqDiff, Nat.reduceAdd, Nat.reduceLT, Nat.reduceLeDiff, Bool.false_eq_true, ite_true, ite_false, true_and, and_true, implies_true, Nat.zero_add, List.length_cons]
    refine sp_extend_nil s.day ?_
    try simp only []
    refine VW_ret ?_
    try simp only [Env.get, thenQ, blockQ, retQ, resV, resOk, RS.ev, RS.ok, ite_true, true_and, and_true]
    have e : initS s l = extendS [] s.day := if_pos (by simpa using h1)
    rw [e]
    exact View.refl _ _
  have n1 : ¬ s.kind = 1 := by simpa using h1
  refine VW_seq (VW_region [1, 2, 14] ?_)
  simp only [OpsW_nil, OpsW_n, StepW, pok, pval, VA.ev, Env.get, Env.put, Env.keep, thenQ, intV, binV, binOk, Nat.succ_ne_self, Nat.reduceEqDiff, ite_true, ite_false, true_and]
  refine VW_cond rfl (fun h2 => ?_) (fun h2 => ?_)
  · have n2 : s.kind = 3 := by simpa using h2
    refine VW_seq (VW_region [5, 6] ?_)
    simp only [OpsW_nil, OpsW_n, StepW, pok, pval, VA.ev, Env.get, Env.put, Env.keep, thenQ, aggV, faddrV, isAddr, locCells, locOk, extV, extOk, PV.nth, PV.row, Heap.get, HL.get, Nat.le_refl, Nat.succ_ne_self, List.map, List.length, List.getD_cons_zero, List.take, List.drop, List.take_succ_cons, List.drop_succ_cons, Nat.reduceEqDiff, Nat.reduceLT, Bool.false_eq_true, ite_true, ite_false, true_and, and_true, implies_true, Nat.zero_add, List.length_cons]
    refine ACall_p (sp_commencement_EventDay l s.event hl) ?_
    try simp only [List.length, List.getD_cons_zero, List.getD_cons_succ, Nat.reduceAdd, Nat.reduceLT, true_and, Nat.zero_add]
    refine VW_seq (VW_region [5, 23] ?_)
    simp only [OpsW_nil, OpsW_n, StepW, pok, pval, VA.ev, Env.get, Env.put, Env.keep, thenQ, Nat.succ_ne_self, Nat.reduceEqDiff, ite_true, ite_false, true_and]
    refine VW_cond rfl (fun h3 => ?_) (fun h3 => ?_)
    · refine VW_seq (VW_region [4] ?_)
      simp only [OpsW_nil, OpsW_n, StepW, pok, pval, VA.ev, Env.get, Env.put, Env.keep, thenQ, Nat.succ_ne_self, List.map, Nat.reduceEqDiff, ite_true, ite_false, true_and]
      refine sp_extend_nil _ ?_
      try simp only []
      refine VW_ret ?_
      try simp only [Env.get, thenQ, blockQ, retQ, resV, resOk, RS.ev, RS.ok, ite_true, true_and, and_true]
      have e : initS s l = extendS [] (eventS s.event l).1 := by unfold initS; rw [if_neg n1, if_pos n2, if_pos h3]
      rw [e]
      exact View.refl _ _
    refine VW_skip ?_
    try simp only [thenQ, blockQ]
    refine VW_seq (VW_region [4] ?_)
    simp only [OpsW_nil, OpsW_n, StepW, pok, pval, VA.ev, Env.get, Env.put, Env.keep, thenQ, Nat.succ_ne_self, Nat.reduceEqDiff, ite_true, ite_false, true_and]
    refine VW_ret ?_
    try simp only [Env.get, retQ, resV, resOk, RS.ev, RS.ok, ite_true, true_and, and_true]
    have e : initS s l = [] := by unfold initS; rw [if_neg n1, if_pos n2, if_neg (by rw [h3]; exact Bool.false_ne_true)]
    rw [e]
    exact View.nil _ _
  · have n2 : ¬ s.kind = 3 := by simpa using h2
    refine VW_skip ?_
    try simp only [thenQ, blockQ]
    refine VW_seq (VW_region [4] ?_)
    simp only [OpsW_nil, OpsW_n, StepW, pok, pval, VA.ev, Env.get, Env.put, Env.keep, thenQ, Nat.reduceEqDiff, ite_true, ite_false, true_and]
    refine VW_ret ?_
    try simp only [Env.get, retQ, resV, resOk, RS.ev, RS.ok, ite_true, true_and, and_true]
    have e : initS s l = [] := by unfold initS; rw [if_neg n1, if_neg n2]
    rw [e]
    exact View.nil _ _
end Go.Proofs.Ytepmaobfbfbecaa.w


namespace Go.Proofs.Ytepmaobfbfbecaa.w
open Go Go.VM
set_option maxRecDepth 20000
set_option maxHeartbeats 0
set_option pp.deepTerms false
/-- What one order does. -/
noncomputable def turnS (act item : Int) (days : List Sp) (o : EI) : List Sp :=
  if refers o.it act item then (if o.it.kind = 7 ∨ o.it.kind = 9 then extendS days o.it.day else if o.it.kind = 8 then truncS days o.it.day else days) else days
noncomputable def forceS (a : Sta) (d : EI) (l : List EI) : List Sp :=
  if d.it.kind < 0 ∨ d.it.kind > 6 then [] else l.foldl (turnS d.act d.item) (initS (ruleS a d.it.start) l)
theorem turnS_ok (act item : Int) {days : List Sp} (h : Canon days) (o : EI) : Canon (turnS act item days o) ∧ (turnS act item days o).length ≤ days.length + 1 := by
  unfold turnS
  split
  · split
    · exact ⟨(extend_spec _ _).1, extend_len h _⟩
    · split
      · exact ⟨(trunc_spec _ _).1, Nat.le_succ_of_le (trunc_len h _)⟩
      · exact ⟨h, Nat.le_succ _⟩
  · exact ⟨h, Nat.le_succ _⟩
theorem force_prefix (act item : Int) (s0 : List Sp) (h0 : Canon s0) (l : List EI) : Canon (l.foldl (turnS act item) s0) ∧ (l.foldl (turnS act item) s0).length ≤ s0.length + l.length := by
  induction l generalizing s0 with
  | nil => exact ⟨h0, Nat.le_refl _⟩
  | cons o r ih =>
    obtain ⟨t1, t2⟩ := turnS_ok act item h0 o
    obtain ⟨i1, i2⟩ := ih _ t1
    refine ⟨i1, ?_⟩
    simp only [List.foldl_cons, List.length_cons]
    omega
theorem force_canon (a : Sta) (d : EI) (l : List EI) : Canon (forceS a d l) ∧ (forceS a d l).length ≤ l.length + 1 := by
  unfold forceS
  split
  · exact ⟨trivial, by simp⟩
  · obtain ⟨h1, h2⟩ := force_prefix d.act d.item (initS (ruleS a d.it.start) l) (initS_canon _ _) l
    have := initS_len (ruleS a d.it.start) l
    exact ⟨h1, by omega⟩
theorem sp_commencement_InForce (a : Sta) (d : EI) (l : List EI) (hl : l.length ≤ 5000) : PCall Try.prog 21 [.agg a.enc, .agg d.enc, .sl 28 (l.map EI.enc)] (.sl 2 ((forceS a d l).map Sp.enc)) := by
  have ed := It.enc_eq d.it
  refine PCall_intro ?_ (closed_sps _) (by simp only [ClosedL, List.mem_cons, List.not_mem_nil, or_false, forall_eq_or_imp, forall_eq, false_implies, implies_true]; repeat' (first | exact cI _ | exact cS _ | exact cB _ | exact closed_fn0 _ | exact closed_nilsl | exact closed_agg (Un.closed _) | exact closed_agg (It.closed _) | exact closed_agg (EI.closed _) | exact closed_agg (Ac.closed _) | exact closed_agg (Wd.closed _) | exact closed_agg (St.closed _) | exact closed_agg (Sta.closed _) | exact closed_eis _ | exact closed_acs _ | exact closed_strs _ | exact closed_map (fun w _ => Wd.closed w) | exact closed_map (fun w _ => St.closed w) | exact closed_map (fun w _ => Un.closed w) | exact closed_map (fun w _ => It.closed w) | exact closed_sc _ | exact closed_sps _ | exact closed_agg (Sp.closed _) | exact closed_ro (EI.closed _) | exact closed_ro (Sta.closed _) | exact closed_ro (It.closed _) | exact closed_ro (by simp only [List.mem_cons, List.not_mem_nil, or_false, forall_eq]; first | exact cI _ | exact cS _ | exact closed_eis _) | refine And.intro ?_ ?_))
  refine ACall_fn (vc := c_commencement_InForce) (ts := [.t 6]) Go.Proofs.Try.func21 (by kernel_rfl) rfl rfl (Nat.le_of_ble_eq_true rfl) (by kernel_rfl) ?_
  unfold c_commencement_InForce
  refine VW_seq (VW_region [2, 3, 4] ?_)
  simp only [OpsW_nil, OpsW_n, StepW, pok, pval, VA.ev, Env.get, Env.put, Env.keep, argEnv, thenQ, PV.cells, PV.fits, Heap.push, Heap.nil, Nat.succ_ne_self, List.length, Nat.reduceEqDiff, Nat.reduceAdd, ite_true, ite_false, true_and, reduceCtorEq, BEq.rfl, Nat.zero_add, Sta.enc, EI.enc, ed]
  refine VW_seq ?_
  refine VW_seq (VW_region [2, 3, 4, 21] ?_)
  cases e1 : decide (d.it.kind < 0) with
  | true =>
    simp only [OpsW_nil, OpsW_n, OpsW_xf, StepW, pok, pval, VA.ev, Env.get, Env.put, Env.keep, thenQ, pickV, isBool, aggV, intV, binV, binOk, faddrV, isAddr, locCells, locOk, PV.nth, PV.row, Heap.get, HL.get, Nat.succ_ne_self, List.length, List.getD_cons_zero, List.take, List.drop, List.take_succ_cons, List.drop_succ_cons, Nat.reduceEqDiff, Nat.reduceAdd, Nat.reduceLT, Nat.reduceLeDiff, Bool.false_eq_true, ite_true, ite_false, true_and, and_true, implies_true, reduceCtorEq, Nat.zero_add, Nat.add_zero, List.length_cons, e1]
    refine VW_cond rfl (fun h1 => ?_) (fun h1 => by cases h1)
    refine VW_seq (VW_region [6] ?_)
    simp only [OpsW_nil, OpsW_n, StepW, pok, pval, VA.ev, Env.get, Env.put, Env.keep, thenQ, Nat.reduceEqDiff, ite_true, ite_false, true_and]
    refine VW_ret ?_
    try simp only [Env.get, thenQ, retQ, resV, resOk, RS.ev, RS.ok, ite_true, true_and, and_true]
    have e : forceS a d l = [] := if_pos (.inl (by simpa using e1))
    rw [e]; exact View.nil _ _
  | false =>
    simp only [OpsW_nil, OpsW_n, OpsW_y, StepW, pok, pval, VA.ev, Env.get, Env.put, Env.keep, thenQ, pickV, isBool, aggV, intV, binV, binOk, faddrV, isAddr, locCells, locOk, PV.nth, PV.row, Heap.get, HL.get, Nat.succ_ne_self, List.length, List.getD_cons_zero, List.take, List.drop, List.take_succ_cons, List.drop_succ_cons, Nat.reduceEqDiff, Nat.reduceAdd, Nat.reduceLT, Nat.reduceLeDiff, Bool.false_eq_true, ite_true, ite_false, true_and, and_true, implies_true, reduceCtorEq, Nat.zero_add, Nat.add_zero, List.length_cons, e1]
    refine VW_cond rfl (fun h1 => ?_) (fun h1 => ?_)
    · refine VW_seq (VW_region [6] ?_)
      simp only [OpsW_nil, OpsW_n, StepW, pok, pval, VA.ev, Env.get, Env.put, Env.keep, thenQ, Nat.reduceEqDiff, ite_true, ite_false, true_and]
      refine VW_ret ?_
      try simp only [Env.get, thenQ, retQ, resV, resOk, RS.ev, RS.ok, ite_true, true_and, and_true]
      have e : forceS a d l = [] := if_pos (.inr (by simpa using h1))
      rw [e]; exact View.nil _ _
    refine VW_skip ?_
    try simp only [thenQ]
    refine VW_seq (VW_region [2, 4, 7] ?_)
    simp only [OpsW_nil, OpsW_n, StepW, pok, pval, VA.ev, Env.get, Env.put, Env.keep, thenQ, aggV, faddrV, isAddr, locCells, locOk, PV.nth, PV.row, Heap.get, HL.get, Nat.le_refl, Nat.succ_ne_self, List.map, List.length, List.getD_cons_zero, List.take, List.drop, List.take_succ_cons, List.drop_succ_cons, Nat.reduceEqDiff, Nat.reduceAdd, Nat.reduceLT, Nat.reduceLeDiff, Bool.true_eq_false, ite_true, ite_false, true_and, and_true, reduceCtorEq, Nat.zero_add, List.length_cons, imp_self]
    refine ACall_p (sp_commencement_EffectiveStart a d.it.start) ?_
    try simp only [OpsW_nil, OpsW_n, OpsW_y, OpsW_xt, OpsW_xf, OpsW_u, StepW, guardOf, DrawW_nil, DrawW_n, DrawW_y, DrawW_xt, DrawW_xf, DrawW_u, DrawH, VOp.isIaddr, QW, dok, dval, VOp.pure, VOp.simple, VOp.det, pok, pval, VA.ev, Env.get, Env.put, Env.keep, argEnv, thenQ, blockQ, retQ, resV, resOk, RS.ev, RS.ok, gd, pickV, isBool, aggV, intV, binV, binOk, strV, binbV, boolV, binbOk, unV, unOk, convV, isInt, isStr, numOf, loV, hiV, lenV, boundOk, sliceV, sliceOk, faddrV, isAddr, locCells, locOk, cellsOfAgg, isAggP, iaddrV, iaddrOk, idxV, idxOk, lenOk, extV, extOk, fillV, fillOk, mmV, PV.cells, PV.fits, overlay, PV.nth, PV.row, lookV, mapRows, mapOk, keysOk, keyOk, keyEq, mapFind, mapPut, mapHas, mapsetV, Heap.get, Heap.set, Heap.del, Heap.le, HL.get, HL.set, HL.del, HL.le, Heap.push, Heap.nil, Nat.le_refl, Nat.add_eq_left, Nat.left_eq_add, Nat.succ_ne_self, Nat.one_ne_zero, Env.le, killed, oldId, oldRows, oldOk, srcRows, srcOk, elemsV, elemsOk, eqOk, ekOk, eqCells, eqCell, storeV, storeOk, AB.live, pxV, pxOk, fxV, fxOk, isPtr, slLike, isNil, notNil, List.map, List.set, List.replicate, List.length, List.getD_cons_zero, List.getD_cons_succ, List.getD_nil, List.take, List.drop, List.take_zero, List.drop_zero, List.take_succ_cons, List.drop_succ_cons, List.append, List.cons_append, List.nil_append, Option.map, Nat.reduceEqDiff, Nat.reduceAdd, Nat.reduceLT, Nat.reduceLeDiff, Nat.reduceSub, Nat.reduceMul, reduceIte, Bool.false_eq_true, Bool.true_eq_false, ite_true, ite_false, if_true, if_false, true_and, and_true, implies_true, forall_const, ne_eq, not_false_eq_true, reduceCtorEq, BEq.rfl, beq_self_eq_true, Option.some.injEq, Nat.zero_add, Nat.add_zero, List.length_cons, List.length_nil, true_implies, imp_self, Int.reduceToNat, Int.toNat_natCast, Bool.not_false, Bool.not_true]
    refine ACall_p (sp_commencement_Initial (ruleS a d.it.start) l (by omega)) ?_
    try simp only [OpsW_nil, OpsW_n, OpsW_y, OpsW_xt, OpsW_xf, OpsW_u, StepW, guardOf, DrawW_nil, DrawW_n, DrawW_y, DrawW_xt, DrawW_xf, DrawW_u, DrawH, VOp.isIaddr, QW, dok, dval, VOp.pure, VOp.simple, VOp.det, pok, pval, VA.ev, Env.get, Env.put, Env.keep, argEnv, thenQ, blockQ, retQ, resV, resOk, RS.ev, RS.ok, gd, pickV, isBool, aggV, intV, binV, binOk, strV, binbV, boolV, binbOk, unV, unOk, convV, isInt, isStr, numOf, loV, hiV, lenV, boundOk, sliceV, sliceOk, faddrV, isAddr, locCells, locOk, cellsOfAgg, isAggP, iaddrV, iaddrOk, idxV, idxOk, lenOk, extV, extOk, fillV, fillOk, mmV, PV.cells, PV.fits, overlay, PV.nth, PV.row, lookV, mapRows, mapOk, keysOk, keyOk, keyEq, mapFind, mapPut, mapHas, mapsetV, Heap.get, Heap.set, Heap.del, Heap.le, HL.get, HL.set, HL.del, HL.le, Heap.push, Heap.nil, Nat.le_refl, Nat.add_eq_left, Nat.left_eq_add, Nat.succ_ne_self, Nat.one_ne_zero, Env.le, killed, oldId, oldRows, oldOk, srcRows, srcOk, elemsV, elemsOk, eqOk, ekOk, eqCells, eqCell, storeV, storeOk, AB.live, pxV, pxOk, fxV, fxOk, isPtr, slLike, isNil, notNil, List.map, List.set, List.replicate, List.length, List.getD_cons_zero, List.getD_cons_succ, List.getD_nil, List.take, List.drop, List.take_zero, List.drop_zero, List.take_succ_cons, List.drop_succ_cons, List.append, List.cons_append, List.nil_append, Option.map, Nat.reduceEqDiff, Nat.reduceAdd, Nat.reduceLT, Nat.reduceLeDiff, Nat.reduceSub, Nat.reduceMul, reduceIte, Bool.false_eq_true, Bool.true_eq_false, ite_true, ite_false, if_true, if_false, true_and, and_true, implies_true, forall_const, ne_eq, not_false_eq_true, reduceCtorEq, BEq.rfl, beq_self_eq_true, Option.some.injEq, Nat.zero_add, Nat.add_zero, List.length_cons, List.length_nil, true_implies, imp_self, Int.reduceToNat, Int.toNat_natCast, Bool.not_false, Bool.not_true]
    have hF : forceS a d l = l.foldl (turnS d.act d.item) (initS (ruleS a d.it.start) l) := if_neg (by simp at e1 h1; omega)
    have hc0 := initS_canon (ruleS a d.it.start) l
    have hn0 := initS_len (ruleS a d.it.start) l
    generalize initS (ruleS a d.it.start) l = s0 at hF hc0 hn0 ⊢
    have hp := fun k => force_prefix d.act d.item s0 hc0 (l.take k)
    refine VW_seq ?_
    refine VW_seq (VW_region [4, 7, 29, 30, 31] ?_)
    simp only [OpsW_nil, OpsW_n, StepW, pok, pval, VA.ev, Env.get, Env.put, Env.keep, thenQ, lenV, lenOk, Nat.succ_ne_self, Nat.reduceEqDiff, ite_true, ite_false, true_and, List.length_map]
    refine VW_block ?_
    refine VW_loop (σ := { s : Nat × Nat // s.1 ≤ l.length ∧ 1 < s.2 }) (fun s => ([(4, .loc 1 0 0), (7, .sl 2 (((l.take s.1.1).foldl (turnS d.act d.item) s0).map Sp.enc)), (29, .sl 28 (l.map EI.enc)), (30, pI l.length), (31, pI s.1.1)], ⟨[(1, .arr false 28 [d.enc])], s.1.2⟩)) (fun s => l.length - s.1.1) ⟨(0, 2), by simp⟩ ?_ ?_ ?_
    · simp only [Env.get, Nat.succ_ne_self, Env.le, List.take, Nat.reduceEqDiff, ite_true, ite_false, true_and, and_true]
      exact ⟨rfl, rfl⟩
    · simp only [Heap.get, Heap.le, HL.get, HL.le, Nat.le_refl, ite_true, ite_false, and_true, reduceCtorEq, EI.enc, ed]
    rintro ⟨⟨k, n⟩, hk, hn⟩
    simp only [] at hk hn ⊢
    have q0 : (1 = n) = False := by simp; omega
    have q1 : (n = 1) = False := by simp; omega
    obtain ⟨pc, pn⟩ := hp k
    have pn2 : (l.take k).length ≤ 5000 := by simp; omega
    refine VW_seq (VW_region [4, 7, 29, 30, 31, 32] ?_)
    simp only [OpsW_nil, OpsW_n, StepW, pok, pval, VA.ev, Env.get, Env.put, Env.keep, thenQ, intV, binV, binOk, Heap.get, Heap.le, HL.le, Nat.succ_ne_self, Env.le, Nat.reduceEqDiff, ite_true, ite_false, true_and, and_true]
    refine VW_seq ?_
    refine VW_cond rfl (fun h2 => ?_) (fun h2 => ?_)
    · refine VW_skip ?_
      try simp only [thenQ]
      simp only [decide_eq_true_eq] at h2
      have ka : k < l.length := by omega
      have hst : (l.take (k + 1)).foldl (turnS d.act d.item) s0 = turnS d.act d.item ((l.take k).foldl (turnS d.act d.item) s0) l[k] := by
        rw [List.take_add_one, List.getElem?_eq_getElem ka, List.foldl_append]; rfl
      generalize hD : (l.take k).foldl (turnS d.act d.item) s0 = D at pc pn hst ⊢
      have eo := It.enc_eq l[k].it
      refine VW_seq ?_
      refine VW_block ?_
      refine VW_seq (VW_region [4, 7, 9, 29, 30, 31] ?_)
      simp only [OpsW_nil, OpsW_n, StepW, pok, pval, VA.ev, Env.get, Env.put, Env.keep, thenQ, aggV, isInt, numOf, lenV, locCells, locOk, iaddrV, iaddrOk, PV.cells, PV.fits, overlay, PV.nth, PV.row, Heap.get, Heap.set, HL.get, HL.set, HL.del, Heap.push, Nat.le_refl, Nat.succ_ne_self, storeV, storeOk, List.set, List.length, List.getD_cons_zero, List.take, List.drop, List.take_succ_cons, List.drop_succ_cons, List.cons_append, List.nil_append, Nat.reduceEqDiff, Nat.reduceAdd, Nat.reduceLT, Bool.true_eq_false, ite_true, ite_false, true_and, and_true, BEq.rfl, Nat.zero_add, List.length_cons, imp_self, Int.toNat_natCast, List.length_map, rowm ka, EI.enc, eo, ed, q0, q1]
      repeat (with_reducible refine And.intro ?_ ?_; first | omega | (with_reducible constructor <;> omega) | exact False.elim | exact True.intro)
      refine VW_seq (VW_drawS [4, 7, 9, 10, 11, 29, 30, 31] (by simp [Heap.le, Heap.get, HL.le, HL.get, q0, q1]) ?_)
      simp only [DrawW_nil, DrawW_n, QW, dok, dval, VOp.pure, VOp.simple, VOp.det, pok, pval, VA.ev, Env.get, Env.put, Env.keep, thenQ, gd, aggV, faddrV, isAddr, locCells, locOk, extV, extOk, PV.nth, PV.row, lookV, mapRows, mapOk, keysOk, keyOk, Heap.get, HL.get, Nat.succ_ne_self, ekOk, List.length, List.getD_cons_zero, List.take, List.drop, List.take_succ_cons, List.drop_succ_cons, Nat.reduceEqDiff, Nat.reduceAdd, Nat.reduceLT, Nat.reduceLeDiff, Bool.false_eq_true, ite_true, ite_false, true_and, and_true, implies_true, forall_const, Nat.zero_add, Nat.add_zero, List.length_cons, q0, q1]
      refine ⟨_, .inl sp_commencement_turns, ?_⟩
      have hT : turnS d.act d.item D l[k] = (if refers l[k].it d.act d.item then (if l[k].it.kind = 7 ∨ l[k].it.kind = 9 then extendS D l[k].it.day else if l[k].it.kind = 8 then truncS D l[k].it.day else D) else D) := rfl
      rw [hT] at hst
      have hR := sp_commencement_Refers l[k].it d.act d.item
      rw [eo] at hR
      cases h7 : (l[k].it.kind == 7) with
      | true =>
        try simp only [PV.cells, keyEq, mapFind, eqCells, eqCell, List.length, List.getD_cons_zero, List.getD_cons_succ, Nat.reduceAdd, Nat.reduceLT, ite_true, true_and, and_true, implies_true, Nat.zero_add, turnsM, h7, Bool.false_and, Bool.true_and, List.forall_mem_cons, List.not_mem_nil, false_implies, q0, q1]
        refine VW_seq (VW_region [4, 7, 9, 10, 29, 30, 31, 52] ?_)
        simp only [OpsW_nil, OpsW_n, OpsW_y, StepW, pok, pval, VA.ev, Env.get, Env.put, Env.keep, thenQ, pickV, isBool, aggV, faddrV, isAddr, locCells, locOk, PV.nth, PV.row, Heap.get, HL.get, Nat.le_refl, Nat.succ_ne_self, List.map, List.length, List.getD_cons_zero, List.take, List.drop, List.take_succ_cons, List.drop_succ_cons, Nat.reduceEqDiff, Nat.reduceAdd, Nat.reduceLT, Nat.reduceLeDiff, Bool.false_eq_true, Bool.true_eq_false, ite_true, ite_false, true_and, and_true, implies_true, Nat.zero_add, Nat.add_zero, List.length_cons, imp_self, q0, q1]
        refine ACall_p hR ?_
        try simp only [OpsW_nil, OpsW_n, OpsW_y, OpsW_xt, OpsW_xf, OpsW_u, StepW, guardOf, DrawW_nil, DrawW_n, DrawW_y, DrawW_xt, DrawW_xf, DrawW_u, DrawH, VOp.isIaddr, QW, dok, dval, VOp.pure, VOp.simple, VOp.det, pok, pval, VA.ev, Env.get, Env.put, Env.keep, argEnv, thenQ, blockQ, retQ, resV, resOk, RS.ev, RS.ok, gd, pickV, isBool, aggV, intV, binV, binOk, strV, binbV, boolV, binbOk, unV, unOk, convV, isInt, isStr, numOf, loV, hiV, lenV, boundOk, sliceV, sliceOk, faddrV, isAddr, locCells, locOk, cellsOfAgg, isAggP, iaddrV, iaddrOk, idxV, idxOk, lenOk, extV, extOk, fillV, fillOk, mmV, PV.cells, PV.fits, overlay, PV.nth, PV.row, lookV, mapRows, mapOk, keysOk, keyOk, keyEq, mapFind, mapPut, mapHas, mapsetV, Heap.get, Heap.set, Heap.del, Heap.le, HL.get, HL.set, HL.del, HL.le, Heap.push, Heap.nil, Nat.le_refl, Nat.add_eq_left, Nat.left_eq_add, Nat.succ_ne_self, Nat.one_ne_zero, Env.le, killed, oldId, oldRows, oldOk, srcRows, srcOk, elemsV, elemsOk, eqOk, ekOk, eqCells, eqCell, storeV, storeOk, AB.live, pxV, pxOk, fxV, fxOk, isPtr, slLike, isNil, notNil, List.map, List.set, List.replicate, List.length, List.getD_cons_zero, List.getD_cons_succ, List.getD_nil, List.take, List.drop, List.take_zero, List.drop_zero, List.take_succ_cons, List.drop_succ_cons, List.append, List.cons_append, List.nil_append, Option.map, Nat.reduceEqDiff, Nat.reduceAdd, Nat.reduceLT, Nat.reduceLeDiff, Nat.reduceSub, Nat.reduceMul, reduceIte, Bool.false_eq_true, Bool.true_eq_false, ite_true, ite_false, if_true, if_false, true_and, and_true, implies_true, forall_const, ne_eq, not_false_eq_true, reduceCtorEq, BEq.rfl, beq_self_eq_true, Option.some.injEq, Nat.zero_add, Nat.add_zero, List.length_cons, List.length_nil, true_implies, imp_self, Int.reduceToNat, Int.toNat_natCast, Bool.not_false, Bool.not_true, q0, q1]
        refine VW_cond rfl (fun h3 => ?_) (fun h3 => ?_)
        · refine VW_region [4, 7, 29, 30, 31] ?_
          rw [if_pos h3, if_pos (.inl (by simpa using h7))] at hst
          simp only [OpsW_nil, OpsW_n, StepW, pok, pval, VA.ev, Env.get, Env.put, Env.keep, thenQ, blockQ, aggV, faddrV, isAddr, locCells, locOk, PV.nth, PV.row, Heap.get, HL.get, Nat.succ_ne_self, List.map, List.length, List.getD_cons_zero, List.take, List.drop, List.take_succ_cons, List.drop_succ_cons, List.cons_append, List.nil_append, Nat.reduceEqDiff, Nat.reduceAdd, Nat.reduceLT, Nat.reduceLeDiff, Bool.false_eq_true, ite_true, ite_false, true_and, and_true, implies_true, Nat.zero_add, List.length_cons, q0, q1]
          refine ACall_p (sp_dateset_ExtendFrom D l[k].it.day (by omega) (Nat.le_trans (trunc_len pc _) (by omega))) ?_
          try simp only [OpsW_nil, OpsW_n, OpsW_y, OpsW_xt, OpsW_xf, OpsW_u, StepW, guardOf, DrawW_nil, DrawW_n, DrawW_y, DrawW_xt, DrawW_xf, DrawW_u, DrawH, VOp.isIaddr, QW, dok, dval, VOp.pure, VOp.simple, VOp.det, pok, pval, VA.ev, Env.get, Env.put, Env.keep, argEnv, thenQ, blockQ, retQ, resV, resOk, RS.ev, RS.ok, gd, pickV, isBool, aggV, intV, binV, binOk, strV, binbV, boolV, binbOk, unV, unOk, convV, isInt, isStr, numOf, loV, hiV, lenV, boundOk, sliceV, sliceOk, faddrV, isAddr, locCells, locOk, cellsOfAgg, isAggP, iaddrV, iaddrOk, idxV, idxOk, lenOk, extV, extOk, fillV, fillOk, mmV, PV.cells, PV.fits, overlay, PV.nth, PV.row, lookV, mapRows, mapOk, keysOk, keyOk, keyEq, mapFind, mapPut, mapHas, mapsetV, Heap.get, Heap.set, Heap.del, Heap.le, HL.get, HL.set, HL.del, HL.le, Heap.push, Heap.nil, Nat.le_refl, Nat.add_eq_left, Nat.left_eq_add, Nat.succ_ne_self, Nat.one_ne_zero, Env.le, killed, oldId, oldRows, oldOk, srcRows, srcOk, elemsV, elemsOk, eqOk, ekOk, eqCells, eqCell, storeV, storeOk, AB.live, pxV, pxOk, fxV, fxOk, isPtr, slLike, isNil, notNil, List.map, List.set, List.replicate, List.length, List.getD_cons_zero, List.getD_cons_succ, List.getD_nil, List.take, List.drop, List.take_zero, List.drop_zero, List.take_succ_cons, List.drop_succ_cons, List.append, List.cons_append, List.nil_append, Option.map, Nat.reduceEqDiff, Nat.reduceAdd, Nat.reduceLT, Nat.reduceLeDiff, Nat.reduceSub, Nat.reduceMul, reduceIte, Bool.false_eq_true, Bool.true_eq_false, ite_true, ite_false, if_true, if_false, true_and, and_true, implies_true, forall_const, ne_eq, not_false_eq_true, reduceCtorEq, BEq.rfl, beq_self_eq_true, Option.some.injEq, Nat.zero_add, Nat.add_zero, List.length_cons, List.length_nil, true_implies, imp_self, Int.reduceToNat, Int.toNat_natCast, Bool.not_false, Bool.not_true, q0, q1]
          refine VW_region [4, 7, 29, 30, 31] ?_
          simp only [OpsW_nil, OpsW_n, StepW, pok, pval, VA.ev, Env.get, Env.put, Env.keep, thenQ, intV, binV, binOk, HL.get, Nat.succ_ne_self, Nat.reduceEqDiff, ite_true, ite_false, true_and, and_true, q0, q1, w64 (n := (k : Int) + 1) (by omega) (by omega)]
          refine ⟨⟨(k + 1, n + 1), by simp only []; omega, by simp only []; omega⟩, ?_, ?_, ?_⟩
          · rw [hst]; exact ⟨rfl, rfl⟩
          · simp only [Nat.le_refl, q0, q1]
          · simp only []; omega
        · refine VW_skip ?_
          try simp only [thenQ, blockQ]
          rw [if_neg (by rw [h3]; exact Bool.false_ne_true)] at hst
          refine VW_region [4, 7, 29, 30, 31] ?_
          simp only [OpsW_nil, OpsW_n, StepW, pok, pval, VA.ev, Env.get, Env.put, Env.keep, thenQ, intV, binV, binOk, HL.get, Nat.succ_ne_self, Nat.reduceEqDiff, ite_true, ite_false, true_and, and_true, q0, q1, w64 (n := (k : Int) + 1) (by omega) (by omega)]
          refine ⟨⟨(k + 1, n + 1), by simp only []; omega, by simp only []; omega⟩, ?_, ?_, ?_⟩
          · rw [hst]; exact ⟨rfl, rfl⟩
          · simp only [Nat.le_refl, q0, q1]
          · simp only []; omega
      | false =>
        cases h9 : (l[k].it.kind == 9) with
        | true =>
          try simp only [PV.cells, keyEq, mapFind, eqCells, eqCell, List.length, List.getD_cons_zero, List.getD_cons_succ, Nat.reduceAdd, Nat.reduceLT, Bool.false_eq_true, ite_true, ite_false, true_and, and_true, implies_true, Nat.zero_add, turnsM, h7, h9, Bool.false_and, Bool.true_and, List.forall_mem_cons, List.not_mem_nil, false_implies, q0, q1]
          refine VW_seq (VW_region [4, 7, 9, 10, 29, 30, 31, 52] ?_)
          simp only [OpsW_nil, OpsW_n, OpsW_y, StepW, pok, pval, VA.ev, Env.get, Env.put, Env.keep, thenQ, pickV, isBool, aggV, faddrV, isAddr, locCells, locOk, PV.nth, PV.row, Heap.get, HL.get, Nat.le_refl, Nat.succ_ne_self, List.map, List.length, List.getD_cons_zero, List.take, List.drop, List.take_succ_cons, List.drop_succ_cons, Nat.reduceEqDiff, Nat.reduceAdd, Nat.reduceLT, Nat.reduceLeDiff, Bool.false_eq_true, Bool.true_eq_false, ite_true, ite_false, true_and, and_true, implies_true, Nat.zero_add, Nat.add_zero, List.length_cons, imp_self, q0, q1]
          refine ACall_p hR ?_
          try simp only [OpsW_nil, OpsW_n, OpsW_y, OpsW_xt, OpsW_xf, OpsW_u, StepW, guardOf, DrawW_nil, DrawW_n, DrawW_y, DrawW_xt, DrawW_xf, DrawW_u, DrawH, VOp.isIaddr, QW, dok, dval, VOp.pure, VOp.simple, VOp.det, pok, pval, VA.ev, Env.get, Env.put, Env.keep, argEnv, thenQ, blockQ, retQ, resV, resOk, RS.ev, RS.ok, gd, pickV, isBool, aggV, intV, binV, binOk, strV, binbV, boolV, binbOk, unV, unOk, convV, isInt, isStr, numOf, loV, hiV, lenV, boundOk, sliceV, sliceOk, faddrV, isAddr, locCells, locOk, cellsOfAgg, isAggP, iaddrV, iaddrOk, idxV, idxOk, lenOk, extV, extOk, fillV, fillOk, mmV, PV.cells, PV.fits, overlay, PV.nth, PV.row, lookV, mapRows, mapOk, keysOk, keyOk, keyEq, mapFind, mapPut, mapHas, mapsetV, Heap.get, Heap.set, Heap.del, Heap.le, HL.get, HL.set, HL.del, HL.le, Heap.push, Heap.nil, Nat.le_refl, Nat.add_eq_left, Nat.left_eq_add, Nat.succ_ne_self, Nat.one_ne_zero, Env.le, killed, oldId, oldRows, oldOk, srcRows, srcOk, elemsV, elemsOk, eqOk, ekOk, eqCells, eqCell, storeV, storeOk, AB.live, pxV, pxOk, fxV, fxOk, isPtr, slLike, isNil, notNil, List.map, List.set, List.replicate, List.length, List.getD_cons_zero, List.getD_cons_succ, List.getD_nil, List.take, List.drop, List.take_zero, List.drop_zero, List.take_succ_cons, List.drop_succ_cons, List.append, List.cons_append, List.nil_append, Option.map, Nat.reduceEqDiff, Nat.reduceAdd, Nat.reduceLT, Nat.reduceLeDiff, Nat.reduceSub, Nat.reduceMul, reduceIte, Bool.false_eq_true, Bool.true_eq_false, ite_true, ite_false, if_true, if_false, true_and, and_true, implies_true, forall_const, ne_eq, not_false_eq_true, reduceCtorEq, BEq.rfl, beq_self_eq_true, Option.some.injEq, Nat.zero_add, Nat.add_zero, List.length_cons, List.length_nil, true_implies, imp_self, Int.reduceToNat, Int.toNat_natCast, Bool.not_false, Bool.not_true, q0, q1]
          refine VW_cond rfl (fun h3 => ?_) (fun h3 => ?_)
          · refine VW_region [4, 7, 29, 30, 31] ?_
            rw [if_pos h3, if_pos (.inr (by simpa using h9))] at hst
            simp only [OpsW_nil, OpsW_n, StepW, pok, pval, VA.ev, Env.get, Env.put, Env.keep, thenQ, blockQ, aggV, faddrV, isAddr, locCells, locOk, PV.nth, PV.row, Heap.get, HL.get, Nat.succ_ne_self, List.map, List.length, List.getD_cons_zero, List.take, List.drop, List.take_succ_cons, List.drop_succ_cons, List.cons_append, List.nil_append, Nat.reduceEqDiff, Nat.reduceAdd, Nat.reduceLT, Nat.reduceLeDiff, Bool.false_eq_true, ite_true, ite_false, true_and, and_true, implies_true, Nat.zero_add, List.length_cons, q0, q1]
            refine ACall_p (sp_dateset_ExtendFrom D l[k].it.day (by omega) (Nat.le_trans (trunc_len pc _) (by omega))) ?_
            try simp only [OpsW_nil, OpsW_n, OpsW_y, OpsW_xt, OpsW_xf, OpsW_u, StepW, guardOf, DrawW_nil, DrawW_n, DrawW_y, DrawW_xt, DrawW_xf, DrawW_u, DrawH, VOp.isIaddr, QW, dok, dval, VOp.pure, VOp.simple, VOp.det, pok, pval, VA.ev, Env.get, Env.put, Env.keep, argEnv, thenQ, blockQ, retQ, resV, resOk, RS.ev, RS.ok, gd, pickV, isBool, aggV, intV, binV, binOk, strV, binbV, boolV, binbOk, unV, unOk, convV, isInt, isStr, numOf, loV, hiV, lenV, boundOk, sliceV, sliceOk, faddrV, isAddr, locCells, locOk, cellsOfAgg, isAggP, iaddrV, iaddrOk, idxV, idxOk, lenOk, extV, extOk, fillV, fillOk, mmV, PV.cells, PV.fits, overlay, PV.nth, PV.row, lookV, mapRows, mapOk, keysOk, keyOk, keyEq, mapFind, mapPut, mapHas, mapsetV, Heap.get, Heap.set, Heap.del, Heap.le, HL.get, HL.set, HL.del, HL.le, Heap.push, Heap.nil, Nat.le_refl, Nat.add_eq_left, Nat.left_eq_add, Nat.succ_ne_self, Nat.one_ne_zero, Env.le, killed, oldId, oldRows, oldOk, srcRows, srcOk, elemsV, elemsOk, eqOk, ekOk, eqCells, eqCell, storeV, storeOk, AB.live, pxV, pxOk, fxV, fxOk, isPtr, slLike, isNil, notNil, List.map, List.set, List.replicate, List.length, List.getD_cons_zero, List.getD_cons_succ, List.getD_nil, List.take, List.drop, List.take_zero, List.drop_zero, List.take_succ_cons, List.drop_succ_cons, List.append, List.cons_append, List.nil_append, Option.map, Nat.reduceEqDiff, Nat.reduceAdd, Nat.reduceLT, Nat.reduceLeDiff, Nat.reduceSub, Nat.reduceMul, reduceIte, Bool.false_eq_true, Bool.true_eq_false, ite_true, ite_false, if_true, if_false, true_and, and_true, implies_true, forall_const, ne_eq, not_false_eq_true, reduceCtorEq, BEq.rfl, beq_self_eq_true, Option.some.injEq, Nat.zero_add, Nat.add_zero, List.length_cons, List.length_nil, true_implies, imp_self, Int.reduceToNat, Int.toNat_natCast, Bool.not_false, Bool.not_true, q0, q1]
            refine VW_region [4, 7, 29, 30, 31] ?_
            simp only [OpsW_nil, OpsW_n, StepW, pok, pval, VA.ev, Env.get, Env.put, Env.keep, thenQ, intV, binV, binOk, HL.get, Nat.succ_ne_self, Nat.reduceEqDiff, ite_true, ite_false, true_and, and_true, q0, q1, w64 (n := (k : Int) + 1) (by omega) (by omega)]
            refine ⟨⟨(k + 1, n + 1), by simp only []; omega, by simp only []; omega⟩, ?_, ?_, ?_⟩
            · rw [hst]; exact ⟨rfl, rfl⟩
            · simp only [Nat.le_refl, q0, q1]
            · simp only []; omega
          · refine VW_skip ?_
            try simp only [thenQ, blockQ]
            rw [if_neg (by rw [h3]; exact Bool.false_ne_true)] at hst
            refine VW_region [4, 7, 29, 30, 31] ?_
            simp only [OpsW_nil, OpsW_n, StepW, pok, pval, VA.ev, Env.get, Env.put, Env.keep, thenQ, intV, binV, binOk, HL.get, Nat.succ_ne_self, Nat.reduceEqDiff, ite_true, ite_false, true_and, and_true, q0, q1, w64 (n := (k : Int) + 1) (by omega) (by omega)]
            refine ⟨⟨(k + 1, n + 1), by simp only []; omega, by simp only []; omega⟩, ?_, ?_, ?_⟩
            · rw [hst]; exact ⟨rfl, rfl⟩
            · simp only [Nat.le_refl, q0, q1]
            · simp only []; omega
        | false =>
          have n79 : ¬ (l[k].it.kind = 7 ∨ l[k].it.kind = 9) := by simp at h7 h9; omega
          cases h8 : (l[k].it.kind == 8) with
          | true =>
            try simp only [PV.cells, keyEq, mapFind, eqCells, eqCell, List.length, List.getD_cons_zero, List.getD_cons_succ, Nat.reduceAdd, Nat.reduceLT, Bool.false_eq_true, ite_true, ite_false, true_and, and_true, implies_true, Nat.zero_add, turnsM, h7, h9, h8, Bool.false_and, Bool.true_and, List.forall_mem_cons, List.not_mem_nil, false_implies, q0, q1]
            refine VW_seq (VW_region [4, 7, 9, 10, 29, 30, 31, 52] ?_)
            simp only [OpsW_nil, OpsW_n, OpsW_y, StepW, pok, pval, VA.ev, Env.get, Env.put, Env.keep, thenQ, pickV, isBool, aggV, faddrV, isAddr, locCells, locOk, PV.nth, PV.row, Heap.get, HL.get, Nat.le_refl, Nat.succ_ne_self, List.map, List.length, List.getD_cons_zero, List.take, List.drop, List.take_succ_cons, List.drop_succ_cons, Nat.reduceEqDiff, Nat.reduceAdd, Nat.reduceLT, Nat.reduceLeDiff, Bool.false_eq_true, Bool.true_eq_false, ite_true, ite_false, true_and, and_true, implies_true, Nat.zero_add, Nat.add_zero, List.length_cons, imp_self, q0, q1]
            refine ACall_p hR ?_
            try simp only [OpsW_nil, OpsW_n, OpsW_y, OpsW_xt, OpsW_xf, OpsW_u, StepW, guardOf, DrawW_nil, DrawW_n, DrawW_y, DrawW_xt, DrawW_xf, DrawW_u, DrawH, VOp.isIaddr, QW, dok, dval, VOp.pure, VOp.simple, VOp.det, pok, pval, VA.ev, Env.get, Env.put, Env.keep, argEnv, thenQ, blockQ, retQ, resV, resOk, RS.ev, RS.ok, gd, pickV, isBool, aggV, intV, binV, binOk, strV, binbV, boolV, binbOk, unV, unOk, convV, isInt, isStr, numOf, loV, hiV, lenV, boundOk, sliceV, sliceOk, faddrV, isAddr, locCells, locOk, cellsOfAgg, isAggP, iaddrV, iaddrOk, idxV, idxOk, lenOk, extV, extOk, fillV, fillOk, mmV, PV.cells, PV.fits, overlay, PV.nth, PV.row, lookV, mapRows, mapOk, keysOk, keyOk, keyEq, mapFind, mapPut, mapHas, mapsetV, Heap.get, Heap.set, Heap.del, Heap.le, HL.get, HL.set, HL.del, HL.le, Heap.push, Heap.nil, Nat.le_refl, Nat.add_eq_left, Nat.left_eq_add, Nat.succ_ne_self, Nat.one_ne_zero, Env.le, killed, oldId, oldRows, oldOk, srcRows, srcOk, elemsV, elemsOk, eqOk, ekOk, eqCells, eqCell, storeV, storeOk, AB.live, pxV, pxOk, fxV, fxOk, isPtr, slLike, isNil, notNil, List.map, List.set, List.replicate, List.length, List.getD_cons_zero, List.getD_cons_succ, List.getD_nil, List.take, List.drop, List.take_zero, List.drop_zero, List.take_succ_cons, List.drop_succ_cons, List.append, List.cons_append, List.nil_append, Option.map, Nat.reduceEqDiff, Nat.reduceAdd, Nat.reduceLT, Nat.reduceLeDiff, Nat.reduceSub, Nat.reduceMul, reduceIte, Bool.false_eq_true, Bool.true_eq_false, ite_true, ite_false, if_true, if_false, true_and, and_true, implies_true, forall_const, ne_eq, not_false_eq_true, reduceCtorEq, BEq.rfl, beq_self_eq_true, Option.some.injEq, Nat.zero_add, Nat.add_zero, List.length_cons, List.length_nil, true_implies, imp_self, Int.reduceToNat, Int.toNat_natCast, Bool.not_false, Bool.not_true, q0, q1]
            refine VW_cond rfl (fun h3 => ?_) (fun h3 => ?_)
            · refine VW_region [4, 7, 29, 30, 31] ?_
              rw [if_pos h3, if_neg n79, if_pos (by simpa using h8)] at hst
              simp only [OpsW_nil, OpsW_n, StepW, pok, pval, VA.ev, Env.get, Env.put, Env.keep, thenQ, blockQ, aggV, faddrV, isAddr, locCells, locOk, PV.nth, PV.row, Heap.get, HL.get, Nat.succ_ne_self, List.map, List.length, List.getD_cons_zero, List.take, List.drop, List.take_succ_cons, List.drop_succ_cons, List.cons_append, List.nil_append, Nat.reduceEqDiff, Nat.reduceAdd, Nat.reduceLT, Nat.reduceLeDiff, Bool.false_eq_true, ite_true, ite_false, true_and, and_true, implies_true, Nat.zero_add, List.length_cons, q0, q1]
              refine ACall_p (sp_dateset_Truncate D l[k].it.day (by omega)) ?_
              try simp only [OpsW_nil, OpsW_n, OpsW_y, OpsW_xt, OpsW_xf, OpsW_u, StepW, guardOf, DrawW_nil, DrawW_n, DrawW_y, DrawW_xt, DrawW_xf, DrawW_u, DrawH, VOp.isIaddr, QW, dok, dval, VOp.pure, VOp.simple, VOp.det, pok, pval, VA.ev, Env.get, Env.put, Env.keep, argEnv, thenQ, blockQ, retQ, resV, resOk, RS.ev, RS.ok, gd, pickV, isBool, aggV, intV, binV, binOk, strV, binbV, boolV, binbOk, unV, unOk, convV, isInt, isStr, numOf, loV, hiV, lenV, boundOk, sliceV, sliceOk, faddrV, isAddr, locCells, locOk, cellsOfAgg, isAggP, iaddrV, iaddrOk, idxV, idxOk, lenOk, extV, extOk, fillV, fillOk, mmV, PV.cells, PV.fits, overlay, PV.nth, PV.row, lookV, mapRows, mapOk, keysOk, keyOk, keyEq, mapFind, mapPut, mapHas, mapsetV, Heap.get, Heap.set, Heap.del, Heap.le, HL.get, HL.set, HL.del, HL.le, Heap.push, Heap.nil, Nat.le_refl, Nat.add_eq_left, Nat.left_eq_add, Nat.succ_ne_self, Nat.one_ne_zero, Env.le, killed, oldId, oldRows, oldOk, srcRows, srcOk, elemsV, elemsOk, eqOk, ekOk, eqCells, eqCell, storeV, storeOk, AB.live, pxV, pxOk, fxV, fxOk, isPtr, slLike, isNil, notNil, List.map, List.set, List.replicate, List.length, List.getD_cons_zero, List.getD_cons_succ, List.getD_nil, List.take, List.drop, List.take_zero, List.drop_zero, List.take_succ_cons, List.drop_succ_cons, List.append, List.cons_append, List.nil_append, Option.map, Nat.reduceEqDiff, Nat.reduceAdd, Nat.reduceLT, Nat.reduceLeDiff, Nat.reduceSub, Nat.reduceMul, reduceIte, Bool.false_eq_true, Bool.true_eq_false, ite_true, ite_false, if_true, if_false, true_and, and_true, implies_true, forall_const, ne_eq, not_false_eq_true, reduceCtorEq, BEq.rfl, beq_self_eq_true, Option.some.injEq, Nat.zero_add, Nat.add_zero, List.length_cons, List.length_nil, true_implies, imp_self, Int.reduceToNat, Int.toNat_natCast, Bool.not_false, Bool.not_true, q0, q1]
              refine VW_region [4, 7, 29, 30, 31] ?_
              simp only [OpsW_nil, OpsW_n, StepW, pok, pval, VA.ev, Env.get, Env.put, Env.keep, thenQ, intV, binV, binOk, HL.get, Nat.succ_ne_self, Nat.reduceEqDiff, ite_true, ite_false, true_and, and_true, q0, q1, w64 (n := (k : Int) + 1) (by omega) (by omega)]
              refine ⟨⟨(k + 1, n + 1), by simp only []; omega, by simp only []; omega⟩, ?_, ?_, ?_⟩
              · rw [hst]; exact ⟨rfl, rfl⟩
              · simp only [Nat.le_refl, q0, q1]
              · simp only []; omega
            · refine VW_skip ?_
              try simp only [thenQ, blockQ]
              rw [if_neg (by rw [h3]; exact Bool.false_ne_true)] at hst
              refine VW_region [4, 7, 29, 30, 31] ?_
              simp only [OpsW_nil, OpsW_n, StepW, pok, pval, VA.ev, Env.get, Env.put, Env.keep, thenQ, intV, binV, binOk, HL.get, Nat.succ_ne_self, Nat.reduceEqDiff, ite_true, ite_false, true_and, and_true, q0, q1, w64 (n := (k : Int) + 1) (by omega) (by omega)]
              refine ⟨⟨(k + 1, n + 1), by simp only []; omega, by simp only []; omega⟩, ?_, ?_, ?_⟩
              · rw [hst]; exact ⟨rfl, rfl⟩
              · simp only [Nat.le_refl, q0, q1]
              · simp only []; omega
          | false =>
            have n8 : ¬ l[k].it.kind = 8 := by simpa using h8
            rw [if_neg n79, if_neg n8, ite_self] at hst
            try simp only [PV.cells, keyEq, mapFind, eqCells, eqCell, List.length, List.getD_cons_zero, List.getD_cons_succ, Nat.reduceAdd, Nat.reduceLT, Bool.false_eq_true, ite_false, true_and, and_true, implies_true, Nat.zero_add, turnsM, h7, h9, h8, Bool.false_and, Bool.true_and, List.forall_mem_cons, List.not_mem_nil, false_implies, q0, q1]
            refine VW_seq (VW_region [4, 7, 9, 10, 29, 30, 31, 52] ?_)
            simp only [OpsW_nil, OpsW_n, OpsW_xt, StepW, pok, pval, VA.ev, Env.get, Env.put, Env.keep, thenQ, pickV, isBool, Nat.succ_ne_self, Nat.reduceEqDiff, Bool.false_eq_true, ite_true, ite_false, true_and, q0, q1]
            refine VW_cond rfl (fun h3 => by cases h3) (fun h3 => ?_)
            refine VW_skip ?_
            try simp only [thenQ, blockQ]
            refine VW_region [4, 7, 29, 30, 31] ?_
            simp only [OpsW_nil, OpsW_n, StepW, pok, pval, VA.ev, Env.get, Env.put, Env.keep, thenQ, intV, binV, binOk, HL.get, Nat.succ_ne_self, Nat.reduceEqDiff, ite_true, ite_false, true_and, and_true, q0, q1, w64 (n := (k : Int) + 1) (by omega) (by omega)]
            refine ⟨⟨(k + 1, n + 1), by simp only []; omega, by simp only []; omega⟩, ?_, ?_, ?_⟩
            · rw [hst]; exact ⟨rfl, rfl⟩
            · simp only [Nat.le_refl, q0, q1]
            · simp only []; omega
    · simp only [decide_eq_false_iff_not] at h2
      refine VW_exit ?_
      try simp only [thenQ, blockQ, retQ, ite_true]
      refine VW_seq (VW_region [6] ?_)
      simp only [OpsW_nil, OpsW_n, StepW, pok, pval, VA.ev, Env.get, Env.put, Env.keep, thenQ, Nat.succ_ne_self, Nat.reduceEqDiff, ite_true, ite_false, true_and]
      refine VW_ret ?_
      try simp only [Env.get, retQ, resV, resOk, RS.ev, RS.ok, ite_true, true_and, and_true]
      have e : l.take k = l := List.take_of_length_le (by omega)
      rw [e, ← hF]
      exact View.refl _ _
end Go.Proofs.Ytepmaobfbfbecaa.w


namespace Go.Proofs.Ytepmaobfbfbecaa.w
open Go Go.VM
theorem find_filter (p q : EI → Bool) (h : ∀ x, p x = true → q x = true) (l : List EI) : (l.filter q).find? p = l.find? p := by
  induction l with
  | nil => rfl
  | cons x r ih =>
    simp only [List.filter_cons]
    cases hq : q x with
    | true => simp only [if_true, List.find?_cons, ih]
    | false =>
      have hp : p x = false := by
        cases hp : p x with
        | false => rfl
        | true => rw [h x hp] at hq; cases hq
      simp only [Bool.false_eq_true, if_false, List.find?_cons, hp, ih]
theorem foldl_filter_id (f : List Sp → EI → List Sp) (q : EI → Bool) (h : ∀ s x, q x = false → f s x = s) : ∀ (l : List EI) (s : List Sp), (l.filter q).foldl f s = l.foldl f s
  | [], s => rfl
  | x :: r, s => by
    simp only [List.filter_cons]
    cases hq : q x with
    | true => simp only [if_true, List.foldl_cons]; exact foldl_filter_id f q h r _
    | false => simp only [Bool.false_eq_true, if_false, List.foldl_cons, h s x hq]; exact foldl_filter_id f q h r _
def mattersB (act item : Int) (x : EI) : Bool := x.it.kind == 10 || refers x.it act item
theorem told_matters (name : Str) (act item : Int) (x : EI) (h : toldB name x = true) : mattersB act item x = true := by
  unfold toldB at h
  unfold mattersB
  cases e : x.it.kind == 10 with
  | true => rfl
  | false => rw [e] at h; cases h
theorem event_filter (name : Str) (act item : Int) (l : List EI) : eventS name (l.filter (mattersB act item)) = eventS name l := by
  unfold eventS
  rw [find_filter _ _ (told_matters name act item)]
theorem init_filter (s : Sta) (act item : Int) (l : List EI) : initS s (l.filter (mattersB act item)) = initS s l := by
  unfold initS
  rw [event_filter]
theorem irrelevant (a : Sta) (d : EI) (l : List EI) : forceS a d (l.filter (mattersB d.act d.item)) = forceS a d l := by
  unfold forceS
  rw [init_filter, foldl_filter_id _ _ (fun s x h => ?_)]
  unfold mattersB at h
  unfold turnS
  rw [if_neg]
  intro h'
  rw [h', Bool.or_true] at h
  cases h
/-! ### events -/
theorem find_snoc (p : EI → Bool) (l : List EI) (x : EI) : (l ++ [x]).find? p = (l.find? p).or (if p x then some x else none) := by
  rw [List.find?_append]
  simp only [List.find?_cons, List.find?_nil]
  cases p x <;> rfl
theorem event_more (name : Str) (l : List EI) (x : EI) (h : (eventS name l).2 = true ∨ toldB name x = false) : eventS name (l ++ [x]) = eventS name l := by
  unfold eventS at h ⊢
  rw [find_snoc]
  cases e : l.find? (toldB name) with
  | some y => rfl
  | none =>
    rw [e] at h
    rcases h with h | h
    · cases h
    · rw [h]; rfl
theorem force_snoc_same (a : Sta) (d : EI) (l : List EI) (x : EI) (hi : initS (ruleS a d.it.start) (l ++ [x]) = initS (ruleS a d.it.start) l) (hr : refers x.it d.act d.item = false) : forceS a d (l ++ [x]) = forceS a d l := by
  unfold forceS
  rw [hi, List.foldl_append, List.foldl_cons, List.foldl_nil]
  have : ∀ s, turnS d.act d.item s x = s := fun s => by
    unfold turnS
    rw [hr]; rfl
  rw [this]
theorem event_same (a : Sta) (d : EI) (l : List EI) (x : EI) (hx : x.it.kind = 10) (he : x.it.event = a.event)
    (h : (eventS a.event l).2 = true ∨ (ruleS a d.it.start).kind ≠ 3 ∨ (ruleS a d.it.start).event ≠ a.event) : forceS a d (l ++ [x]) = forceS a d l := by
  refine force_snoc_same a d l x ?_ (by simp [refers, hx])
  unfold initS
  generalize ruleS a d.it.start = s at h
  split
  · rfl
  split
  · rename_i h1 h2
    rw [event_more s.event l x]
    rcases h with h | h | h
    · by_cases e : s.event = a.event
      · rw [e]; exact .inl h
      · right; unfold toldB; simp [he, Ne.symm e]
    · exact absurd h2 h
    · right; unfold toldB; simp [he, Ne.symm h]
  · rfl
theorem event_none (a : Sta) (d : EI) (l : List EI) (h1 : (eventS a.event l).2 = false) (h2 : (ruleS a d.it.start).kind = 3) (h3 : (ruleS a d.it.start).event = a.event)
    (h4 : l.any (fun x => refers x.it d.act d.item) = false) : forceS a d l = [] := by
  unfold forceS
  split
  · rfl
  have hi : initS (ruleS a d.it.start) l = [] := by
    unfold initS
    rw [h2, h3, h1]; rfl
  rw [hi]
  have : ∀ (l : List EI) (s : List Sp), l.any (fun x => refers x.it d.act d.item) = false → l.foldl (turnS d.act d.item) s = s := by
    intro l
    induction l with
    | nil => intro s _; rfl
    | cons x r ih =>
      intro s h
      simp only [List.any_cons, Bool.or_eq_false_iff] at h
      have e : turnS d.act d.item s x = s := by unfold turnS; rw [h.1]; rfl
      rw [List.foldl_cons, e, ih s h.2]
  exact this l [] h4
/-! ### reviving -/
theorem sp_ext {l m : List Sp} (h1 : Canon l) (h2 : Canon m) (h : ∀ d, memS l d ↔ memS m d) : l = m := CanonF.unique h1 h2 h
theorem trunc_trunc (s : List Sp) (day : Int) : truncS (truncS s day) day = truncS s day := by
  refine sp_ext (trunc_spec _ _).1 (trunc_spec _ _).1 fun d => ?_
  rw [(trunc_spec _ _).2, (trunc_spec _ _).2]
  exact ⟨fun h => h.2.1, fun h => ⟨h.1, h, h.2.2⟩⟩
theorem extend_trunc (s : List Sp) (day : Int) : extendS (truncS s day) day = extendS s day := by
  refine sp_ext (extend_spec _ _).1 (extend_spec _ _).1 fun d => ?_
  rw [(extend_spec _ _).2, (extend_spec _ _).2, (trunc_spec _ _).2]
  constructor
  · rintro ⟨a, b | b⟩
    · exact ⟨a, .inl b.2.1⟩
    · exact ⟨a, .inr b⟩
  · rintro ⟨a, b⟩
    by_cases h : day ≤ d
    · exact ⟨a, .inr h⟩
    · rcases b with b | b
      · exact ⟨a, .inl ⟨a, b, by omega⟩⟩
      · exact absurd b h
theorem extend_extend (s : List Sp) (day : Int) : extendS (extendS s day) day = extendS s day := by
  refine sp_ext (extend_spec _ _).1 (extend_spec _ _).1 fun d => ?_
  rw [(extend_spec _ _).2, (extend_spec _ _).2]
  constructor
  · rintro ⟨a, b | b⟩
    · exact b
    · exact ⟨a, .inr b⟩
  · rintro ⟨a, b⟩; exact ⟨a, .inl ⟨a, b⟩⟩
theorem trunc_extend (s : List Sp) (day : Int) : truncS (extendS s day) day = truncS s day := by
  refine sp_ext (trunc_spec _ _).1 (trunc_spec _ _).1 fun d => ?_
  rw [(trunc_spec _ _).2, (trunc_spec _ _).2, (extend_spec _ _).2]
  constructor
  · rintro ⟨a, ⟨_, b | b⟩, c⟩
    · exact ⟨a, b, c⟩
    · omega
  · rintro ⟨a, b, c⟩; exact ⟨a, ⟨a, .inl b⟩, c⟩
/-- An order about d. -/
def aboutS (d : EI) (k item day : Int) (x : EI) : Prop := x.it.kind = k ∧ x.it.act = d.act ∧ x.it.item = item ∧ x.it.day = day ∧ (item = d.item ∨ item = -1)
theorem about_refers {d x : EI} {k item day : Int} (h : aboutS d k item day x) (hk : k = 7 ∨ k = 8 ∨ k = 9) : refers x.it d.act d.item = true := by
  obtain ⟨h1, h2, h3, h4, h5⟩ := h
  unfold refers
  rw [h1, h2, h3]
  rcases hk with rfl | rfl | rfl <;> rcases h5 with rfl | rfl <;> simp
theorem about_turn7 {d x : EI} {item day : Int} (h : aboutS d 7 item day x) (s : List Sp) : turnS d.act d.item s x = extendS s day := by
  unfold turnS
  rw [if_pos (about_refers h (.inl rfl)), if_pos (.inl h.1), h.2.2.2.1]
theorem about_turn9 {d x : EI} {item day : Int} (h : aboutS d 9 item day x) (s : List Sp) : turnS d.act d.item s x = extendS s day := by
  unfold turnS
  rw [if_pos (about_refers h (.inr (.inr rfl))), if_pos (.inr h.1), h.2.2.2.1]
theorem about_turn8 {d x : EI} {item day : Int} (h : aboutS d 8 item day x) (s : List Sp) : turnS d.act d.item s x = truncS s day := by
  unfold turnS
  rw [if_pos (about_refers h (.inr (.inl rfl))), if_neg (by rw [h.1]; decide), if_pos h.1, h.2.2.2.1]
theorem event_app (name : Str) (l m : List EI) (h : ∀ x ∈ m, x.it.kind ≠ 10) : eventS name (l ++ m) = eventS name l := by
  have e : m.find? (toldB name) = none := List.find?_eq_none.2 fun x hx => by unfold toldB; simp [h x hx]
  unfold eventS
  rw [List.find?_append, e, Option.or_none]
theorem force_app (a : Sta) (d : EI) (l m : List EI) (h : ∀ x ∈ m, x.it.kind ≠ 10) (hd : ¬ (d.it.kind < 0 ∨ d.it.kind > 6)) : forceS a d (l ++ m) = m.foldl (turnS d.act d.item) (forceS a d l) := by
  have hi : initS (ruleS a d.it.start) (l ++ m) = initS (ruleS a d.it.start) l := by unfold initS; rw [event_app _ _ _ h]
  unfold forceS
  rw [if_neg hd, if_neg hd, hi, List.foldl_append]
/-- The last order decides. -/
theorem last_order (a : Sta) (d x : EI) (l : List EI) (item day other k : Int) (hd : ¬ (d.it.kind < 0 ∨ d.it.kind > 6)) (hx : aboutS d k item day x) (hk : k = 7 ∨ k = 8 ∨ k = 9) :
    (other < day → (memS (forceS a d (l ++ [x])) other ↔ memS (forceS a d l) other)) ∧
    (¬ other < day → (memS (forceS a d (l ++ [x])) other ↔ k ≠ 8 ∧ 0 ≤ other ∧ other ≤ 1048576)) := by
  rw [force_app a d l [x] (fun y hy => by simp at hy; subst hy; rw [hx.1]; omega) hd, List.foldl_cons, List.foldl_nil]
  have hc := (force_canon a d l).1
  generalize forceS a d l = s at hc
  rcases hk with rfl | rfl | rfl
  · rw [about_turn7 hx, (extend_spec _ _).2]
    refine ⟨fun h => ⟨fun hh => ?_, fun hh => ⟨hc.valid hh, .inl hh⟩⟩, fun h => ⟨fun hh => ⟨by decide, hh.1.1, ?_⟩, fun hh => ⟨⟨hh.2.1, ?_⟩, .inr (by omega)⟩⟩⟩
    · rcases hh.2 with h1 | h1
      · exact h1
      · omega
    · have := hh.1.2; simp only [forever] at this; omega
    · simp only [forever]; omega
  · rw [about_turn8 hx, (trunc_spec _ _).2]
    refine ⟨fun h => ⟨fun hh => hh.2.1, fun hh => ⟨hc.valid hh, hh, h⟩⟩, fun h => ⟨fun hh => absurd hh.2.2 h, fun hh => absurd rfl hh.1⟩⟩
  · rw [about_turn9 hx, (extend_spec _ _).2]
    refine ⟨fun h => ⟨fun hh => ?_, fun hh => ⟨hc.valid hh, .inl hh⟩⟩, fun h => ⟨fun hh => ⟨by decide, hh.1.1, ?_⟩, fun hh => ⟨⟨hh.2.1, ?_⟩, .inr (by omega)⟩⟩⟩
    · rcases hh.2 with h1 | h1
      · exact h1
      · omega
    · have := hh.1.2; simp only [forever] at this; omega
    · simp only [forever]; omega
end Go.Proofs.Ytepmaobfbfbecaa.w


namespace Go.Proofs.Ytepmaobfbfbecaa.w
open Go Go.VM
set_option maxRecDepth 20000
set_option maxHeartbeats 0
set_option pp.deepTerms false
def c_pandectref02_Same : VC := (.seq (.region [⟨(some 4), (.mv (.c (.bool false))), none⟩] false) (.seq (.seq (.region [⟨(some 6), (.mv (.t 0)), none⟩, ⟨(some 7), (.len false (.t 6)), none⟩, ⟨(some 8), (.mv (.t 1)), none⟩, ⟨(some 9), (.len false (.t 8)), none⟩, ⟨(some 10), (.bin .neq (.t 7) (.t 9)), none⟩] false) (.cond (.t 10) (.seq (.region [⟨(some 4), (.mv (.c (.bool false))), none⟩] false) .ret) .skip)) (.seq (.seq (.region [⟨(some 5), (.mv (.c (.int .i64 0))), none⟩] false) (.block 0 (.loop (.seq (.seq (.region [⟨(some 11), (.mv (.t 5)), none⟩, ⟨(some 12), (.mv (.t 0)), none⟩, ⟨(some 13), (.len false (.t 12)), none⟩, ⟨(some 14), (.bin .lss (.t 11) (.t 13)), none⟩] false) (.cond (.t 14) .skip (.exit 0))) (.seq (.block 1 (.seq (.region [⟨(some 17), (.mv (.t 0)), none⟩, ⟨(some 18), (.mv (.t 5)), none⟩, ⟨(some 19), (.iaddr 2 (.t 17) (.t 18)), none⟩, ⟨(some 20), (.load true 2 (.t 19)), none⟩, ⟨(some 21), (.mv (.t 1)), none⟩, ⟨(some 22), (.mv (.t 5)), none⟩, ⟨(some 23), (.iaddr 2 (.t 21) (.t 22)), none⟩, ⟨(some 24), (.load true 2 (.t 23)), none⟩, ⟨(some 25), (.eqs true [.i, .i] (.t 20) (.t 24)), none⟩] true) (.cond (.t 25) (.seq (.region [⟨(some 4), (.mv (.c (.bool false))), none⟩] false) .ret) .skip))) (.region [⟨(some 15), (.mv (.t 5)), none⟩, ⟨(some 16), (.bin .add (.t 15) (.c (.int .i64 1))), none⟩, ⟨(some 5), (.mv (.t 16)), none⟩] false)))))) (.seq (.region [⟨(some 4), (.mv (.c (.bool true))), none⟩] false) .ret))))
theorem sp_pandectref02_Same (l m : List Sp) (hl : l.length ≤ 100000) (hm : m.length ≤ 100000) : PCall Try.prog 16 [.sl 2 (l.map Sp.enc), .sl 2 (m.map Sp.enc)] (.bool (decide (l = m))) := by
  refine PCall_intro ?_ (cB _) (by simp only [ClosedL, List.mem_cons, List.not_mem_nil, or_false, forall_eq_or_imp, forall_eq, false_implies, implies_true]; repeat' (first | exact cI _ | exact cS _ | exact cB _ | exact closed_fn0 _ | exact closed_nilsl | exact closed_agg (Un.closed _) | exact closed_agg (It.closed _) | exact closed_agg (EI.closed _) | exact closed_agg (Ac.closed _) | exact closed_agg (Wd.closed _) | exact closed_agg (St.closed _) | exact closed_agg (Sta.closed _) | exact closed_eis _ | exact closed_acs _ | exact closed_strs _ | exact closed_map (fun w _ => Wd.closed w) | exact closed_map (fun w _ => St.closed w) | exact closed_map (fun w _ => Un.closed w) | exact closed_map (fun w _ => It.closed w) | exact closed_sc _ | exact closed_sps _ | exact closed_agg (Sp.closed _) | exact closed_ro (EI.closed _) | exact closed_ro (Sta.closed _) | exact closed_ro (It.closed _) | exact closed_ro (by simp only [List.mem_cons, List.not_mem_nil, or_false, forall_eq]; first | exact cI _ | exact cS _ | exact closed_eis _) | refine And.intro ?_ ?_))
  refine ACall_fn (vc := c_pandectref02_Same) (ts := [.t 4]) Go.Proofs.Try.func16 (by kernel_rfl) rfl rfl (Nat.le_of_ble_eq_true rfl) (by kernel_rfl) ?_
  unfold c_pandectref02_Same
  refine VW_seq (VW_region [0, 1] ?_)
  simp only [OpsW_nil, OpsW_n, StepW, pok, pval, VA.ev, Env.get, Env.put, Env.keep, argEnv, thenQ, Heap.nil, Nat.succ_ne_self, Nat.reduceEqDiff, ite_true, ite_false, true_and, reduceCtorEq, Nat.zero_add]
  refine VW_seq ?_
  refine VW_seq (VW_region [0, 1, 10] ?_)
  simp only [OpsW_nil, OpsW_n, StepW, pok, pval, VA.ev, Env.get, Env.put, Env.keep, thenQ, intV, binV, binOk, lenV, lenOk, Nat.succ_ne_self, Nat.reduceEqDiff, ite_true, ite_false, true_and, reduceCtorEq, List.length_map]
  refine VW_cond rfl (fun h1 => ?_) (fun h1 => ?_)
  · refine VW_seq (VW_region [4] ?_)
    simp only [OpsW_nil, OpsW_n, StepW, pok, pval, VA.ev, Env.get, Env.put, Env.keep, thenQ, Nat.reduceEqDiff, ite_true, ite_false, true_and, reduceCtorEq]
    refine VW_ret ?_
    try simp only [Env.get, thenQ, retQ, resV, resOk, RS.ev, RS.ok, ite_true, true_and, and_true]
    have e : decide (l = m) = false := by
      rw [decide_eq_false_iff_not]
      rintro rfl
      simp at h1
    rw [e]; exact View.refl _ _
  have hlm : l.length = m.length := by simp at h1; omega
  refine VW_skip ?_
  try simp only [thenQ]
  refine VW_seq ?_
  refine VW_seq (VW_region [0, 1, 5] ?_)
  simp only [OpsW_nil, OpsW_n, StepW, pok, pval, VA.ev, Env.get, Env.put, Env.keep, thenQ, Nat.succ_ne_self, Nat.reduceEqDiff, ite_true, ite_false, true_and, reduceCtorEq]
  refine VW_block ?_
  refine VW_loop (σ := { i : Nat // i ≤ l.length ∧ l.take i = m.take i }) (fun s => ([(0, .sl 2 (l.map Sp.enc)), (1, .sl 2 (m.map Sp.enc)), (5, pI s.1)], ⟨[], 0⟩)) (fun s => l.length - s.1) ⟨0, by simp⟩ ?_ ?_ ?_
  · simp only [Env.get, Nat.succ_ne_self, Env.le, Nat.reduceEqDiff, ite_true, ite_false, true_and, and_true, reduceCtorEq]
    rfl
  · simp only [Heap.le, HL.le, Nat.le_refl, and_true]
  rintro ⟨i, hi, hpre⟩
  simp only []
  refine VW_seq ?_
  refine VW_seq (VW_region [0, 1, 5, 14] ?_)
  simp only [OpsW_nil, OpsW_n, StepW, pok, pval, VA.ev, Env.get, Env.put, Env.keep, thenQ, intV, binV, binOk, lenV, lenOk, Heap.le, HL.le, Nat.succ_ne_self, Env.le, Nat.reduceEqDiff, ite_true, ite_false, true_and, and_true, reduceCtorEq, List.length_map]
  refine VW_cond rfl (fun h2 => ?_) (fun h2 => ?_)
  · refine VW_skip ?_
    try simp only [thenQ]
    simp only [decide_eq_true_eq] at h2
    have ia : i < l.length := by omega
    have ib : i < m.length := by omega
    refine VW_seq ?_
    refine VW_block ?_
    refine VW_seq (VW_drawS [0, 1, 5, 25] (by simp [Heap.le, Heap.get, HL.le, HL.get]) ?_)
    simp only [DrawW_nil, DrawW_n, QW, dok, dval, VOp.pure, VOp.simple, VOp.det, pok, pval, VA.ev, Env.get, Env.put, Env.keep, thenQ, gd, aggV, isInt, numOf, lenV, locCells, locOk, cellsOfAgg, isAggP, iaddrV, iaddrOk, PV.nth, PV.row, Nat.le_refl, Nat.succ_ne_self, eqOk, ekOk, eqCells, eqCell, List.length, List.getD_cons_zero, List.take, List.take_succ_cons, Nat.reduceEqDiff, Nat.reduceAdd, Bool.true_eq_false, ite_true, ite_false, true_and, and_true, implies_true, forall_const, reduceCtorEq, Nat.zero_add, List.length_cons, imp_self, Int.toNat_natCast, List.length_map, rowm ia, rowm ib, Sp.enc]
    repeat (with_reducible refine And.intro ?_ ?_; first | omega | (with_reducible constructor <;> omega) | exact False.elim | exact True.intro)
    refine VW_cond rfl (fun h3 => ?_) (fun h3 => ?_)
    · refine VW_seq (VW_region [4] ?_)
      simp only [OpsW_nil, OpsW_n, StepW, pok, pval, VA.ev, Env.get, Env.put, Env.keep, thenQ, Nat.succ_ne_self, Nat.reduceEqDiff, ite_true, ite_false, true_and, reduceCtorEq]
      refine VW_ret ?_
      try simp only [Env.get, thenQ, blockQ, retQ, resV, resOk, RS.ev, RS.ok, ite_true, true_and, and_true]
      have e : decide (l = m) = false := by
        rw [decide_eq_false_iff_not]
        rintro rfl
        simp at h3
      rw [e]; exact View.refl _ _
    have hs : l[i] = m[i] := by
      have : l[i].frm = m[i].frm ∧ l[i].to = m[i].to := by simpa using h3
      generalize l[i] = a at this
      generalize m[i] = b at this
      cases a; cases b; simp_all
    refine VW_skip ?_
    try simp only [thenQ, blockQ]
    refine VW_region [0, 1, 5] ?_
    simp only [OpsW_nil, OpsW_n, StepW, pok, pval, VA.ev, Env.get, Env.put, Env.keep, thenQ, intV, binV, binOk, Nat.le_refl, Nat.succ_ne_self, Nat.reduceEqDiff, ite_true, ite_false, true_and, reduceCtorEq, w64 (n := (i : Int) + 1) (by omega) (by omega)]
    refine ⟨⟨i + 1, by omega, by rw [List.take_add_one, List.take_add_one, List.getElem?_eq_getElem ia, List.getElem?_eq_getElem ib, hpre, hs]⟩, ?_, ?_⟩
    · rfl
    · simp only []; omega
  · refine VW_exit ?_
    try simp only [thenQ, blockQ, retQ, ite_true]
    refine VW_seq (VW_region [4] ?_)
    simp only [OpsW_nil, OpsW_n, StepW, pok, pval, VA.ev, Env.get, Env.put, Env.keep, thenQ, Nat.succ_ne_self, Nat.reduceEqDiff, ite_true, ite_false, true_and, reduceCtorEq]
    refine VW_ret ?_
    try simp only [Env.get, retQ, resV, resOk, RS.ev, RS.ok, ite_true, true_and, and_true]
    simp only [decide_eq_false_iff_not] at h2
    have e : decide (l = m) = true := by
      have : i = l.length := by omega
      subst this
      rw [List.take_length, hlm, List.take_length] at hpre
      simpa using hpre
    rw [e]; exact View.refl _ _
end Go.Proofs.Ytepmaobfbfbecaa.w


namespace Go.Proofs.Ytepmaobfbfbecaa.w
open Go Go.VM
set_option maxRecDepth 20000
set_option maxHeartbeats 0
set_option pp.deepTerms false
def c_pandectref27_Few : VC := (.seq (.region [⟨(some 2), (.mv (.c (.bool false))), none⟩] false) (.seq (.seq (.region [⟨(some 3), (.mv (.c (.int .i64 0))), none⟩] false) (.block 0 (.loop (.seq (.seq (.region [⟨(some 4), (.mv (.t 3)), none⟩, ⟨(some 5), (.mv (.t 0)), none⟩, ⟨(some 6), (.len false (.t 5)), none⟩, ⟨(some 7), (.bin .lss (.t 4) (.t 6)), none⟩] false) (.cond (.t 7) .skip (.exit 0))) (.seq (.block 1 (.seq (.region [⟨(some 10), (.mv (.t 0)), none⟩, ⟨(some 11), (.mv (.t 3)), none⟩, ⟨(some 12), (.iaddr 28 (.t 10) (.t 11)), none⟩, ⟨(some 13), (.faddr 3 (.t 12)), none⟩, ⟨(some 14), (.faddr 23 (.t 13)), none⟩, ⟨(some 15), (.load false 1 (.t 14)), none⟩, ⟨(some 16), (.len true (.t 15)), none⟩, ⟨(some 17), (.bin .gtr (.t 16) (.c (.int .i64 100))), none⟩, ⟨(some 18), (.mv (.t 17)), none⟩, ⟨(some 19), (.mv (.t 0)), (some (18, false))⟩, ⟨(some 20), (.mv (.t 3)), (some (18, false))⟩, ⟨(some 21), (.iaddr 28 (.t 19) (.t 20)), (some (18, false))⟩, ⟨(some 22), (.faddr 3 (.t 21)), (some (18, false))⟩, ⟨(some 23), (.faddr 17 (.t 22)), (some (18, false))⟩, ⟨(some 24), (.faddr 2 (.t 23)), (some (18, false))⟩, ⟨(some 25), (.load false 1 (.t 24)), (some (18, false))⟩, ⟨(some 26), (.len true (.t 25)), (some (18, false))⟩, ⟨(some 27), (.bin .gtr (.t 26) (.c (.int .i64 100))), (some (18, false))⟩, ⟨(some 28), (.pick (.t 18) (.c (.bool true)) (.t 27)), none⟩] false) (.cond (.t 28) (.seq (.region [⟨(some 2), (.mv (.c (.bool false))), none⟩] false) .ret) .skip))) (.region [⟨(some 8), (.mv (.t 3)), none⟩, ⟨(some 9), (.bin .add (.t 8) (.c (.int .i64 1))), none⟩, ⟨(some 3), (.mv (.t 9)), none⟩] false)))))) (.seq (.region [⟨(some 29), (.mv (.t 0)), none⟩, ⟨(some 30), (.len false (.t 29)), none⟩, ⟨(some 31), (.bin .leq (.t 30) (.c (.int .i64 40))), none⟩, ⟨(some 2), (.mv (.t 31)), none⟩] false) .ret)))
def slimB (x : EI) : Bool := !(decide (x.it.event.length > 100) || decide (x.it.start.event.length > 100))
def fewB (l : List EI) : Bool := l.all slimB && decide (l.length ≤ 40)
theorem sp_pandectref27_Few (l : List EI) (hl : l.length ≤ 4611686018427387904) : PCall Try.prog 11 [.sl 28 (l.map EI.enc)] (.bool (fewB l)) := by
  refine PCall_intro ?_ (cB _) (by simp only [ClosedL, List.mem_cons, List.not_mem_nil, or_false, forall_eq_or_imp, forall_eq, false_implies, implies_true]; repeat' (first | exact cI _ | exact cS _ | exact cB _ | exact closed_fn0 _ | exact closed_nilsl | exact closed_agg (Un.closed _) | exact closed_agg (It.closed _) | exact closed_agg (EI.closed _) | exact closed_agg (Ac.closed _) | exact closed_agg (Wd.closed _) | exact closed_agg (St.closed _) | exact closed_agg (Sta.closed _) | exact closed_eis _ | exact closed_acs _ | exact closed_strs _ | exact closed_map (fun w _ => Wd.closed w) | exact closed_map (fun w _ => St.closed w) | exact closed_map (fun w _ => Un.closed w) | exact closed_map (fun w _ => It.closed w) | exact closed_sc _ | exact closed_sps _ | exact closed_agg (Sp.closed _) | exact closed_ro (EI.closed _) | exact closed_ro (Sta.closed _) | exact closed_ro (It.closed _) | exact closed_ro (by simp only [List.mem_cons, List.not_mem_nil, or_false, forall_eq]; first | exact cI _ | exact cS _ | exact closed_eis _) | refine And.intro ?_ ?_))
  refine ACall_fn (vc := c_pandectref27_Few) (ts := [.t 2]) Go.Proofs.Try.func11 (by kernel_rfl) rfl rfl (Nat.le_of_ble_eq_true rfl) (by kernel_rfl) ?_
  unfold c_pandectref27_Few
  refine VW_seq (VW_region [0] ?_)
  simp only [OpsW_nil, OpsW_n, StepW, pok, pval, VA.ev, Env.get, Env.put, Env.keep, argEnv, thenQ, Heap.nil, ite_true, ite_false, true_and, reduceCtorEq]
  refine VW_seq ?_
  refine VW_seq (VW_region [0, 3] ?_)
  simp only [OpsW_nil, OpsW_n, StepW, pok, pval, VA.ev, Env.get, Env.put, Env.keep, thenQ, ite_true, ite_false, true_and, reduceCtorEq]
  refine VW_block ?_
  refine VW_loop (σ := { i : Nat // i ≤ l.length ∧ (l.take i).all slimB = true }) (fun s => ([(0, .sl 28 (l.map EI.enc)), (3, pI s.1)], ⟨[], 0⟩)) (fun s => l.length - s.1) ⟨0, by simp⟩ ?_ ?_ ?_
  · simp only [Env.get, Env.le, ite_true, ite_false, true_and, and_true, reduceCtorEq]
    rfl
  · simp only [Heap.le, HL.le, Nat.le_refl, and_true]
  rintro ⟨i, hi, hpre⟩
  simp only []
  refine VW_seq ?_
  refine VW_seq (VW_region [0, 3, 7] ?_)
  simp only [OpsW_nil, OpsW_n, StepW, pok, pval, VA.ev, Env.get, Env.put, Env.keep, thenQ, intV, binV, binOk, lenV, lenOk, Heap.le, HL.le, Nat.succ_ne_self, Env.le, Nat.reduceEqDiff, ite_true, ite_false, true_and, and_true, reduceCtorEq, List.length_map]
  refine VW_cond rfl (fun h1 => ?_) (fun h1 => ?_)
  · refine VW_skip ?_
    try simp only [thenQ]
    simp only [decide_eq_true_eq] at h1
    have ia : i < l.length := by omega
    have ea := It.enc_eq l[i].it
    have hstep : (l.take (i + 1)).all slimB = ((l.take i).all slimB && slimB l[i]) := by
      rw [List.take_add_one, List.getElem?_eq_getElem ia, List.all_append]; simp only [Option.toList_some, List.all_cons, List.all_nil, Bool.and_true]
    refine VW_seq ?_
    refine VW_block ?_
    refine VW_seq (VW_region [0, 3, 28] ?_)
    have hsl : slimB l[i] = !(decide ((l[i].it.event.length : Int) > 100) || decide ((l[i].it.start.event.length : Int) > 100)) := by
      unfold slimB
      congr 1
      congr 1 <;> (rw [Bool.eq_iff_iff]; simp; omega)
    have bad : slimB l[i] = false → fewB l = false := fun h => by
      unfold fewB
      have : l.all slimB = false := by
        rw [List.all_eq_false]
        exact ⟨l[i], List.getElem_mem ia, by rw [h]; exact Bool.false_ne_true⟩
      rw [this]; rfl
    cases e1 : decide ((l[i].it.event.length : Int) > 100) with
    | true =>
      simp only [OpsW_nil, OpsW_n, OpsW_xf, StepW, pok, pval, VA.ev, Env.get, Env.put, Env.keep, thenQ, pickV, isBool, aggV, intV, binV, binOk, isInt, numOf, lenV, faddrV, isAddr, locCells, locOk, iaddrV, iaddrOk, lenOk, PV.nth, PV.row, Nat.succ_ne_self, List.length, List.getD_cons_zero, List.take, List.drop, List.take_succ_cons, Nat.reduceEqDiff, Nat.reduceAdd, Nat.reduceLeDiff, Bool.false_eq_true, ite_true, ite_false, true_and, and_true, implies_true, reduceCtorEq, Nat.zero_add, List.length_cons, Int.toNat_natCast, List.length_map, rowm ia, EI.enc, ea, Sta.enc, e1]
      repeat (with_reducible refine And.intro ?_ ?_; first | omega | (with_reducible constructor <;> omega) | exact False.elim | exact True.intro)
      refine VW_cond rfl (fun h2 => ?_) (fun h2 => by cases h2)
      refine VW_seq (VW_region [2] ?_)
      simp only [OpsW_nil, OpsW_n, StepW, pok, pval, VA.ev, Env.get, Env.put, Env.keep, thenQ, Nat.succ_ne_self, Nat.reduceEqDiff, ite_true, ite_false, true_and, reduceCtorEq]
      refine VW_ret ?_
      try simp only [Env.get, thenQ, blockQ, retQ, resV, resOk, RS.ev, RS.ok, ite_true, true_and, and_true]
      rw [bad (by rw [hsl, e1]; rfl)]
      exact View.refl _ _
    | false =>
      simp only [OpsW_nil, OpsW_n, OpsW_y, StepW, pok, pval, VA.ev, Env.get, Env.put, Env.keep, thenQ, pickV, isBool, aggV, intV, binV, binOk, isInt, numOf, lenV, faddrV, isAddr, locCells, locOk, iaddrV, iaddrOk, lenOk, PV.nth, PV.row, Nat.succ_ne_self, List.length, List.getD_cons_zero, List.take, List.drop, List.take_succ_cons, Nat.reduceEqDiff, Nat.reduceAdd, Nat.reduceLeDiff, Bool.false_eq_true, ite_true, ite_false, true_and, and_true, implies_true, reduceCtorEq, Nat.zero_add, List.length_cons, Int.toNat_natCast, List.length_map, rowm ia, EI.enc, ea, Sta.enc, e1]
      repeat (with_reducible refine And.intro ?_ ?_; first | omega | (with_reducible constructor <;> omega) | exact False.elim | exact True.intro)
      refine VW_cond rfl (fun h2 => ?_) (fun h2 => ?_)
      · refine VW_seq (VW_region [2] ?_)
        simp only [OpsW_nil, OpsW_n, StepW, pok, pval, VA.ev, Env.get, Env.put, Env.keep, thenQ, Nat.succ_ne_self, Nat.reduceEqDiff, ite_true, ite_false, true_and, reduceCtorEq]
        refine VW_ret ?_
        try simp only [Env.get, thenQ, blockQ, retQ, resV, resOk, RS.ev, RS.ok, ite_true, true_and, and_true]
        rw [bad (by rw [hsl, e1, h2]; rfl)]
        exact View.refl _ _
      refine VW_skip ?_
      try simp only [thenQ, blockQ]
      refine VW_region [0, 3] ?_
      simp only [OpsW_nil, OpsW_n, StepW, pok, pval, VA.ev, Env.get, Env.put, Env.keep, thenQ, intV, binV, binOk, Nat.le_refl, Nat.reduceEqDiff, ite_true, ite_false, true_and, reduceCtorEq, w64 (n := (i : Int) + 1) (by omega) (by omega)]
      refine ⟨⟨i + 1, by omega, by rw [hstep, hpre, hsl, e1, h2]; rfl⟩, ?_, ?_⟩
      · rfl
      · simp only []; omega
  · simp only [decide_eq_false_iff_not] at h1
    refine VW_exit ?_
    try simp only [thenQ, blockQ, retQ, ite_true]
    refine VW_seq (VW_region [2] ?_)
    simp only [OpsW_nil, OpsW_n, StepW, pok, pval, VA.ev, Env.get, Env.put, Env.keep, thenQ, intV, binV, binOk, lenV, lenOk, Nat.succ_ne_self, Nat.reduceEqDiff, ite_true, ite_false, true_and, reduceCtorEq, List.length_map]
    refine VW_ret ?_
    try simp only [Env.get, retQ, resV, resOk, RS.ev, RS.ok, ite_true, true_and, and_true]
    have e : fewB l = decide ((l.length : Int) ≤ 40) := by
      unfold fewB
      rw [List.take_of_length_le (by omega)] at hpre
      rw [hpre, Bool.true_and, Bool.eq_iff_iff]
      simp; omega
    rw [e]; exact View.refl _ _
end Go.Proofs.Ytepmaobfbfbecaa.w

