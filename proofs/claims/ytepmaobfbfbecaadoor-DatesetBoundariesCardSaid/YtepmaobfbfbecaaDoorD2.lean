/-
  Walks: pandectref02.Size, Ends, Ints, May; pandectlaw02.few.
-/
import Derived.Test.YtepmaobfbfbecaaDoorR1
set_option linter.all false
namespace Go.Proofs.YtepmaobfbfbecaaDoor.w
open Go Go.VM
set_option maxRecDepth 20000
set_option maxHeartbeats 0
set_option pp.deepTerms false
def c_pandectref02_Size : VC := (.seq (.region [⟨(some 2), (.mv (.c (.int .i64 0))), none⟩] false) (.seq (.region [⟨(some 3), (.mv (.c (.int .i64 0))), none⟩] false) (.seq (.region [⟨(some 6), (.mv (.t 0)), none⟩, ⟨(some 7), (.call 26 [(.t 6)]), none⟩, ⟨(some 4), (.mv (.t 7)), none⟩] false) (.seq (.seq (.region [⟨(some 5), (.mv (.c (.int .i64 0))), none⟩] false) (.block 0 (.loop (.seq (.seq (.region [⟨(some 8), (.mv (.t 5)), none⟩, ⟨(some 9), (.mv (.t 4)), none⟩, ⟨(some 10), (.len false (.t 9)), none⟩, ⟨(some 11), (.bin .lss (.t 8) (.t 10)), none⟩] false) (.cond (.t 11) .skip (.exit 0))) (.seq (.block 1 (.region [⟨(some 14), (.mv (.t 3)), none⟩, ⟨(some 15), (.mv (.t 4)), none⟩, ⟨(some 16), (.mv (.t 5)), none⟩, ⟨(some 17), (.iaddr 2 (.t 15) (.t 16)), none⟩, ⟨(some 18), (.faddr 1 (.t 17)), none⟩, ⟨(some 19), (.load false 1 (.t 18)), none⟩, ⟨(some 20), (.bin .add (.t 14) (.t 19)), none⟩, ⟨(some 21), (.mv (.t 4)), none⟩, ⟨(some 22), (.mv (.t 5)), none⟩, ⟨(some 23), (.iaddr 2 (.t 21) (.t 22)), none⟩, ⟨(some 24), (.faddr 0 (.t 23)), none⟩, ⟨(some 25), (.load false 1 (.t 24)), none⟩, ⟨(some 26), (.bin .sub (.t 20) (.t 25)), none⟩, ⟨(some 3), (.mv (.t 26)), none⟩] true)) (.region [⟨(some 12), (.mv (.t 5)), none⟩, ⟨(some 13), (.bin .add (.t 12) (.c (.int .i64 1))), none⟩, ⟨(some 5), (.mv (.t 13)), none⟩] false)))))) (.seq (.region [⟨(some 27), (.mv (.t 3)), none⟩, ⟨(some 2), (.mv (.t 27)), none⟩] false) .ret)))))
def c_pandectref02_Ends : VC := (.seq (.region [⟨(some 2), (.mv (.c .nilsl)), none⟩] false) (.seq (.region [⟨(some 6), (.fx (.mk0 1) []), none⟩, ⟨(some 3), (.mv (.t 6)), none⟩] false) (.seq (.region [⟨(some 7), (.mv (.t 0)), none⟩, ⟨(some 8), (.call 26 [(.t 7)]), none⟩, ⟨(some 4), (.mv (.t 8)), none⟩] false) (.seq (.seq (.region [⟨(some 5), (.mv (.c (.int .i64 0))), none⟩] false) (.block 0 (.loop (.seq (.seq (.region [⟨(some 9), (.mv (.t 5)), none⟩, ⟨(some 10), (.mv (.t 4)), none⟩, ⟨(some 11), (.len false (.t 10)), none⟩, ⟨(some 12), (.bin .lss (.t 9) (.t 11)), none⟩] false) (.cond (.t 12) .skip (.exit 0))) (.seq (.block 1 (.seq (.region [⟨(some 15), (.mv (.t 3)), none⟩, ⟨(some 16), (.mv (.t 4)), none⟩, ⟨(some 17), (.mv (.t 5)), none⟩, ⟨(some 18), (.iaddr 2 (.t 16) (.t 17)), none⟩, ⟨(some 19), (.faddr 0 (.t 18)), none⟩, ⟨(some 20), (.load false 1 (.t 19)), none⟩, ⟨(some 21), (.bslice 1 1 [(.int .i64 0)] [(0, (.t 20))]), none⟩, ⟨(some 22), (.app 1 8 [(.int .i64 0)] false (.t 15) (.t 21)), none⟩, ⟨(some 3), (.mv (.t 22)), none⟩] false) (.seq (.region [⟨(some 23), (.mv (.t 4)), none⟩, ⟨(some 24), (.mv (.t 5)), none⟩, ⟨(some 25), (.iaddr 2 (.t 23) (.t 24)), none⟩, ⟨(some 26), (.faddr 1 (.t 25)), none⟩, ⟨(some 27), (.load false 1 (.t 26)), none⟩, ⟨(some 28), (.bin .leq (.t 27) (.c (.int .i64 1048576))), none⟩] false) (.cond (.t 28) (.region [⟨(some 29), (.mv (.t 3)), none⟩, ⟨(some 30), (.mv (.t 4)), none⟩, ⟨(some 31), (.mv (.t 5)), none⟩, ⟨(some 32), (.iaddr 2 (.t 30) (.t 31)), none⟩, ⟨(some 33), (.faddr 1 (.t 32)), none⟩, ⟨(some 34), (.load false 1 (.t 33)), none⟩, ⟨(some 35), (.bslice 1 1 [(.int .i64 0)] [(0, (.t 34))]), none⟩, ⟨(some 36), (.app 1 8 [(.int .i64 0)] false (.t 29) (.t 35)), none⟩, ⟨(some 3), (.mv (.t 36)), none⟩] false) .skip)))) (.region [⟨(some 13), (.mv (.t 5)), none⟩, ⟨(some 14), (.bin .add (.t 13) (.c (.int .i64 1))), none⟩, ⟨(some 5), (.mv (.t 14)), none⟩] false)))))) (.seq (.region [⟨(some 37), (.mv (.t 3)), none⟩, ⟨(some 2), (.mv (.t 37)), none⟩] false) .ret)))))
def c_pandectref02_Ints : VC := (.seq (.region [⟨(some 4), (.mv (.c (.bool false))), none⟩] false) (.seq (.seq (.region [⟨(some 6), (.mv (.t 0)), none⟩, ⟨(some 7), (.len false (.t 6)), none⟩, ⟨(some 8), (.mv (.t 1)), none⟩, ⟨(some 9), (.len false (.t 8)), none⟩, ⟨(some 10), (.bin .neq (.t 7) (.t 9)), none⟩] false) (.cond (.t 10) (.seq (.region [⟨(some 4), (.mv (.c (.bool false))), none⟩] false) .ret) .skip)) (.seq (.seq (.region [⟨(some 5), (.mv (.c (.int .i64 0))), none⟩] false) (.block 0 (.loop (.seq (.seq (.region [⟨(some 11), (.mv (.t 5)), none⟩, ⟨(some 12), (.mv (.t 0)), none⟩, ⟨(some 13), (.len false (.t 12)), none⟩, ⟨(some 14), (.bin .lss (.t 11) (.t 13)), none⟩] false) (.cond (.t 14) .skip (.exit 0))) (.seq (.block 1 (.seq (.region [⟨(some 17), (.mv (.t 0)), none⟩, ⟨(some 18), (.mv (.t 5)), none⟩, ⟨(some 19), (.iaddr 1 (.t 17) (.t 18)), none⟩, ⟨(some 20), (.load false 1 (.t 19)), none⟩, ⟨(some 21), (.mv (.t 1)), none⟩, ⟨(some 22), (.mv (.t 5)), none⟩, ⟨(some 23), (.iaddr 1 (.t 21) (.t 22)), none⟩, ⟨(some 24), (.load false 1 (.t 23)), none⟩, ⟨(some 25), (.bin .neq (.t 20) (.t 24)), none⟩] true) (.cond (.t 25) (.seq (.region [⟨(some 4), (.mv (.c (.bool false))), none⟩] false) .ret) .skip))) (.region [⟨(some 15), (.mv (.t 5)), none⟩, ⟨(some 16), (.bin .add (.t 15) (.c (.int .i64 1))), none⟩, ⟨(some 5), (.mv (.t 16)), none⟩] false)))))) (.seq (.region [⟨(some 4), (.mv (.c (.bool true))), none⟩] false) .ret))))
def c_pandectref02_May : VC := (.seq (.region [⟨(some 2), (.mv (.c (.bool false))), none⟩] false) (.seq (.seq (.region [⟨(some 3), (.mv (.c (.int .i64 0))), none⟩] false) (.block 0 (.loop (.seq (.seq (.region [⟨(some 4), (.mv (.t 3)), none⟩, ⟨(some 5), (.mv (.t 0)), none⟩, ⟨(some 6), (.len false (.t 5)), none⟩, ⟨(some 7), (.bin .lss (.t 4) (.t 6)), none⟩] false) (.cond (.t 7) .skip (.exit 0))) (.seq (.block 1 (.seq (.region [⟨(some 10), (.mv (.t 0)), none⟩, ⟨(some 11), (.mv (.t 3)), none⟩, ⟨(some 12), (.iaddr 2 (.t 10) (.t 11)), none⟩, ⟨(some 13), (.faddr 0 (.t 12)), none⟩, ⟨(some 14), (.load false 1 (.t 13)), none⟩, ⟨(some 15), (.bin .lss (.t 14) (.c (.int .i64 0))), none⟩, ⟨(some 16), (.mv (.t 15)), none⟩, ⟨(some 17), (.mv (.t 0)), (some (16, false))⟩, ⟨(some 18), (.mv (.t 3)), (some (16, false))⟩, ⟨(some 19), (.iaddr 2 (.t 17) (.t 18)), (some (16, false))⟩, ⟨(some 20), (.faddr 1 (.t 19)), (some (16, false))⟩, ⟨(some 21), (.load false 1 (.t 20)), (some (16, false))⟩, ⟨(some 22), (.mv (.t 0)), (some (16, false))⟩, ⟨(some 23), (.mv (.t 3)), (some (16, false))⟩, ⟨(some 24), (.iaddr 2 (.t 22) (.t 23)), (some (16, false))⟩, ⟨(some 25), (.faddr 0 (.t 24)), (some (16, false))⟩, ⟨(some 26), (.load false 1 (.t 25)), (some (16, false))⟩, ⟨(some 27), (.bin .leq (.t 21) (.t 26)), (some (16, false))⟩, ⟨(some 28), (.pick (.t 16) (.c (.bool true)) (.t 27)), none⟩, ⟨(some 29), (.mv (.t 28)), none⟩, ⟨(some 30), (.mv (.t 0)), (some (29, false))⟩, ⟨(some 31), (.mv (.t 3)), (some (29, false))⟩, ⟨(some 32), (.iaddr 2 (.t 30) (.t 31)), (some (29, false))⟩, ⟨(some 33), (.faddr 1 (.t 32)), (some (29, false))⟩, ⟨(some 34), (.load false 1 (.t 33)), (some (29, false))⟩, ⟨(some 35), (.bin .gtr (.t 34) (.c (.int .i64 1048577))), (some (29, false))⟩, ⟨(some 36), (.pick (.t 29) (.c (.bool true)) (.t 35)), none⟩, ⟨(some 37), (.mv (.t 36)), none⟩, ⟨(some 38), (.mv (.t 3)), (some (37, false))⟩, ⟨(some 39), (.bin .gtr (.t 38) (.c (.int .i64 0))), (some (37, false))⟩, ⟨(some 40), (.mv (.t 39)), (some (37, false))⟩, ⟨(some 41), (.mv (.t 0)), (some (40, true))⟩, ⟨(some 42), (.mv (.t 3)), (some (40, true))⟩, ⟨(some 43), (.iaddr 2 (.t 41) (.t 42)), (some (40, true))⟩, ⟨(some 44), (.faddr 0 (.t 43)), (some (40, true))⟩, ⟨(some 45), (.load false 1 (.t 44)), (some (40, true))⟩, ⟨(some 46), (.mv (.t 0)), (some (40, true))⟩, ⟨(some 47), (.mv (.t 3)), (some (40, true))⟩, ⟨(some 48), (.bin .sub (.t 47) (.c (.int .i64 1))), (some (40, true))⟩, ⟨(some 49), (.iaddr 2 (.t 46) (.t 48)), (some (40, true))⟩, ⟨(some 50), (.faddr 1 (.t 49)), (some (40, true))⟩, ⟨(some 51), (.load false 1 (.t 50)), (some (40, true))⟩, ⟨(some 52), (.bin .leq (.t 45) (.t 51)), (some (40, true))⟩, ⟨(some 53), (.pick (.t 40) (.t 52) (.c (.bool false))), (some (37, false))⟩, ⟨(some 54), (.pick (.t 37) (.c (.bool true)) (.t 53)), none⟩] true) (.cond (.t 54) (.seq (.region [⟨(some 2), (.mv (.c (.bool false))), none⟩] false) .ret) .skip))) (.region [⟨(some 8), (.mv (.t 3)), none⟩, ⟨(some 9), (.bin .add (.t 8) (.c (.int .i64 1))), none⟩, ⟨(some 3), (.mv (.t 9)), none⟩] false)))))) (.seq (.region [⟨(some 55), (.mv (.t 0)), none⟩, ⟨(some 56), (.len false (.t 55)), none⟩, ⟨(some 57), (.bin .leq (.t 56) (.c (.int .i64 4096))), none⟩, ⟨(some 2), (.mv (.t 57)), none⟩] false) .ret)))
def c_pandectlaw02_few : VC := (.seq (.region [⟨(some 2), (.mv (.c (.bool false))), none⟩] false) (.seq (.region [⟨(some 3), (.mv (.c (.int .i64 0))), none⟩] false) (.seq (.seq (.region [⟨(some 4), (.mv (.c (.int .i64 0))), none⟩] false) (.block 0 (.loop (.seq (.seq (.region [⟨(some 5), (.mv (.t 4)), none⟩, ⟨(some 6), (.mv (.t 0)), none⟩, ⟨(some 7), (.len false (.t 6)), none⟩, ⟨(some 8), (.bin .lss (.t 5) (.t 7)), none⟩] false) (.cond (.t 8) .skip (.exit 0))) (.seq (.block 1 (.region [⟨(some 11), (.mv (.t 3)), none⟩, ⟨(some 12), (.mv (.t 0)), none⟩, ⟨(some 13), (.mv (.t 4)), none⟩, ⟨(some 14), (.iaddr 1 (.t 12) (.t 13)), none⟩, ⟨(some 15), (.load false 1 (.t 14)), none⟩, ⟨(some 16), (.len false (.t 15)), none⟩, ⟨(some 17), (.bin .add (.t 11) (.t 16)), none⟩, ⟨(some 3), (.mv (.t 17)), none⟩] false)) (.region [⟨(some 9), (.mv (.t 4)), none⟩, ⟨(some 10), (.bin .add (.t 9) (.c (.int .i64 1))), none⟩, ⟨(some 4), (.mv (.t 10)), none⟩] false)))))) (.seq (.region [⟨(some 18), (.mv (.t 3)), none⟩, ⟨(some 19), (.bin .leq (.t 18) (.c (.int .i64 60))), none⟩, ⟨(some 2), (.mv (.t 19)), none⟩] false) .ret))))
theorem sp_pandectref02_Size (l : List Sp) (hl : l.length ≤ 10000) : PCall Tryd.prog 28 [.sl 2 (l.map Sp.enc)] (pI (sizeS l)) := by
  refine PCall_intro ?_ (cI _) (by simp only [ClosedL, List.mem_cons, List.not_mem_nil, or_false, forall_eq_or_imp, forall_eq, false_implies, implies_true]; repeat' (first | exact cI _ | exact cS _ | exact cB _ | exact closed_fn0 _ | exact closed_nilsl | exact closed_agg (Un.closed _) | exact closed_agg (It.closed _) | exact closed_agg (EI.closed _) | exact closed_agg (Ac.closed _) | exact closed_agg (Wd.closed _) | exact closed_agg (St.closed _) | exact closed_agg (Sta.closed _) | exact closed_eis _ | exact closed_acs _ | exact closed_strs _ | exact closed_map (fun w _ => Wd.closed w) | exact closed_map (fun w _ => St.closed w) | exact closed_map (fun w _ => Un.closed w) | exact closed_map (fun w _ => It.closed w) | exact closed_sc _ | exact closed_sps _ | exact closed_agg (Sp.closed _) | exact closed_ro (EI.closed _) | exact closed_ro (Sta.closed _) | exact closed_ro (It.closed _) | exact closed_ro (by simp only [List.mem_cons, List.not_mem_nil, or_false, forall_eq]; first | exact cI _ | exact cS _ | exact closed_eis _) | refine And.intro ?_ ?_))
  refine ACall_fn (vc := c_pandectref02_Size) (ts := [.t 2]) Go.Proofs.Tryd.func28 (by kernel_rfl) rfl rfl (Nat.le_of_ble_eq_true rfl) (by kernel_rfl) ?_
  unfold c_pandectref02_Size
  refine VW_seq (VW_region [0] ?_)
  simp only [OpsW_nil, OpsW_n, StepW, pok, pval, VA.ev, Env.get, Env.put, Env.keep, argEnv, thenQ, Heap.nil, ite_true, ite_false, true_and, reduceCtorEq]
  refine VW_seq (VW_region [0, 3] ?_)
  simp only [OpsW_nil, OpsW_n, StepW, pok, pval, VA.ev, Env.get, Env.put, Env.keep, thenQ, ite_true, ite_false, true_and, reduceCtorEq]
  refine VW_seq (VW_region [3, 4] ?_)
  simp only [OpsW_nil, OpsW_n, StepW, pok, pval, VA.ev, Env.get, Env.put, Env.keep, thenQ, Nat.succ_ne_self, List.map, Nat.reduceEqDiff, ite_true, ite_false, true_and, reduceCtorEq]
  refine ACall_p (sp_pandectref02_Of l hl) ?_
  rw [ofR_eq]
  unfold sizeS
  have hc := (norm_spec l).1
  have hn := norm_len l
  generalize normS l = c at hc hn ⊢
  try simp only [midQ, OpsW_nil, OpsW_n, OpsW_y, OpsW_xt, OpsW_xf, OpsW_u, StepW, guardOf, DrawW_nil, DrawW_n, DrawW_y, DrawW_xt, DrawW_xf, DrawW_u, DrawH, VOp.isIaddr, QW, dok, dval, VOp.pure, VOp.simple, VOp.det, pok, pval, VA.ev, Env.get, Env.put, Env.keep, argEnv, thenQ, blockQ, retQ, resV, resOk, RS.ev, RS.ok, gd, pickV, isBool, aggV, intV, binV, binOk, strV, binbV, boolV, binbOk, unV, unOk, convV, isInt, isStr, numOf, loV, hiV, lenV, boundOk, sliceV, sliceOk, faddrV, isAddr, locCells, locOk, cellsOfAgg, isAggP, iaddrV, iaddrOk, idxV, idxOk, lenOk, extV, extOk, fillV, fillOk, mmV, PV.cells, PV.fits, overlay, PV.nth, PV.row, lookV, mapRows, mapOk, keysOk, keyOk, keyEq, mapFind, mapPut, mapHas, mapsetV, Heap.get, Heap.set, Heap.del, Heap.le, HL.get, HL.set, HL.del, HL.le, Heap.push, Heap.nil, Nat.le_refl, Nat.add_eq_left, Nat.left_eq_add, Nat.succ_ne_self, Nat.one_ne_zero, Env.le, killed, oldId, oldRows, oldOk, srcRows, srcOk, elemsV, elemsOk, eqOk, ekOk, eqCells, eqCell, storeV, storeOk, AB.live, pxV, pxOk, fxV, fxOk, isPtr, slLike, isNil, notNil, List.map, List.set, List.replicate, List.length, List.getD_cons_zero, List.getD_cons_succ, List.getD_nil, List.take, List.drop, List.take_zero, List.drop_zero, List.take_succ_cons, List.drop_succ_cons, List.append, List.cons_append, List.nil_append, Option.map, Nat.reduceEqDiff, Nat.reduceAdd, Nat.reduceLT, Nat.reduceLeDiff, Nat.reduceSub, Nat.reduceMul, reduceIte, Bool.false_eq_true, Bool.true_eq_false, ite_true, ite_false, if_true, if_false, true_and, and_true, implies_true, forall_const, ne_eq, not_false_eq_true, reduceCtorEq, BEq.rfl, beq_self_eq_true, Option.some.injEq, Nat.zero_add, Nat.add_zero, List.length_cons, List.length_nil, true_implies, imp_self, Int.reduceToNat, Int.toNat_natCast, Bool.not_false, Bool.not_true]
  refine VW_seq ?_
  refine VW_seq (VW_region [3, 4, 5] ?_)
  simp only [OpsW_nil, OpsW_n, StepW, pok, pval, VA.ev, Env.get, Env.put, Env.keep, thenQ, Nat.succ_ne_self, Nat.reduceEqDiff, ite_true, ite_false, true_and]
  refine VW_block ?_
  refine VW_loop (σ := { s : Nat // s ≤ c.length }) (fun s => ([(3, pI (sumS (c.take s.1))), (4, .sl 2 (c.map Sp.enc)), (5, pI s.1)], ⟨[], 0⟩)) (fun s => c.length - s.1) ⟨0, by simp⟩ ?_ ?_ ?_
  · simp only [Env.get, Nat.succ_ne_self, Env.le, List.take, Nat.reduceEqDiff, ite_true, ite_false, true_and, and_true]
    exact ⟨rfl, rfl⟩
  · simp only [Heap.le, HL.le, Nat.le_refl, and_true]
  rintro ⟨k, hk⟩
  simp only []
  refine VW_seq ?_
  refine VW_seq (VW_region [3, 4, 5, 11] ?_)
  simp only [OpsW_nil, OpsW_n, StepW, pok, pval, VA.ev, Env.get, Env.put, Env.keep, thenQ, intV, binV, binOk, lenV, lenOk, Heap.le, HL.le, Nat.succ_ne_self, Env.le, Nat.reduceEqDiff, ite_true, ite_false, true_and, and_true, List.length_map]
  refine VW_cond rfl (fun h1 => ?_) (fun h1 => ?_)
  · refine VW_skip ?_
    try simp only [thenQ]
    simp only [decide_eq_true_eq] at h1
    have ka : k < c.length := by omega
    have hst := sum_step ka
    have hb0 := sum_take_bound hc k
    have hb1 := sum_take_bound hc (k + 1)
    obtain ⟨e1, e2, e3⟩ := canon_elem (b := -1) (by omega) hc c[k] (List.getElem_mem ka)
    refine VW_seq ?_
    refine VW_block ?_
    refine VW_drawS [3, 4, 5] (by simp [Heap.le, Heap.get, HL.le, HL.get]) ?_
    simp only [DrawW_nil, DrawW_n, QW, dok, dval, VOp.pure, VOp.simple, VOp.det, pok, pval, VA.ev, Env.get, Env.put, Env.keep, thenQ, blockQ, gd, aggV, intV, binV, binOk, isInt, numOf, lenV, faddrV, isAddr, locCells, locOk, iaddrV, iaddrOk, PV.nth, PV.row, Nat.le_refl, Nat.succ_ne_self, List.length, List.getD_cons_zero, List.take, List.drop, List.take_succ_cons, Nat.reduceEqDiff, Nat.reduceAdd, Nat.reduceLeDiff, Bool.false_eq_true, ite_true, ite_false, true_and, and_true, implies_true, forall_const, Nat.zero_add, List.length_cons, Int.toNat_natCast, List.length_map, rowm ka, Sp.enc, w64 (n := sumS (c.take k) + c[k].to) (by omega) (by omega), w64 (n := sumS (c.take k) + c[k].to - c[k].frm) (by omega) (by omega)]
    repeat (with_reducible refine And.intro ?_ ?_; first | omega | (with_reducible constructor <;> omega) | exact False.elim | exact True.intro)
    refine VW_region [3, 4, 5] ?_
    simp only [OpsW_nil, OpsW_n, StepW, pok, pval, VA.ev, Env.get, Env.put, Env.keep, thenQ, intV, binV, binOk, Nat.le_refl, Nat.succ_ne_self, Nat.reduceEqDiff, ite_true, ite_false, true_and, w64 (n := (k : Int) + 1) (by omega) (by omega)]
    refine ⟨⟨k + 1, by omega⟩, ?_, ?_⟩
    · rw [hst]
      have e : sumS (c.take k) + c[k].to - c[k].frm = sumS (c.take k) + (c[k].to - c[k].frm) := by omega
      rw [e]
      exact ⟨rfl, rfl⟩
    · simp only []; omega
  · simp only [decide_eq_false_iff_not] at h1
    refine VW_exit ?_
    try simp only [thenQ, blockQ, retQ, ite_true]
    refine VW_seq (VW_region [2] ?_)
    simp only [OpsW_nil, OpsW_n, StepW, pok, pval, VA.ev, Env.get, Env.put, Env.keep, thenQ, Nat.succ_ne_self, Nat.reduceEqDiff, ite_true, ite_false, true_and]
    refine VW_ret ?_
    try simp only [Env.get, retQ, resV, resOk, RS.ev, RS.ok, ite_true, true_and, and_true]
    rw [List.take_of_length_le (by omega)]
    exact View.refl _ _
theorem sp_pandectref02_Ends (l : List Sp) (hl : l.length ≤ 10000) : PCall Tryd.prog 30 [.sl 2 (l.map Sp.enc)] (.sl 1 ((edges (normS l)).map fun x => [pI x])) := by
  refine PCall_intro ?_ (closed_sc _) (by simp only [ClosedL, List.mem_cons, List.not_mem_nil, or_false, forall_eq_or_imp, forall_eq, false_implies, implies_true]; repeat' (first | exact cI _ | exact cS _ | exact cB _ | exact closed_fn0 _ | exact closed_nilsl | exact closed_agg (Un.closed _) | exact closed_agg (It.closed _) | exact closed_agg (EI.closed _) | exact closed_agg (Ac.closed _) | exact closed_agg (Wd.closed _) | exact closed_agg (St.closed _) | exact closed_agg (Sta.closed _) | exact closed_eis _ | exact closed_acs _ | exact closed_strs _ | exact closed_map (fun w _ => Wd.closed w) | exact closed_map (fun w _ => St.closed w) | exact closed_map (fun w _ => Un.closed w) | exact closed_map (fun w _ => It.closed w) | exact closed_sc _ | exact closed_sps _ | exact closed_agg (Sp.closed _) | exact closed_ro (EI.closed _) | exact closed_ro (Sta.closed _) | exact closed_ro (It.closed _) | exact closed_ro (by simp only [List.mem_cons, List.not_mem_nil, or_false, forall_eq]; first | exact cI _ | exact cS _ | exact closed_eis _) | refine And.intro ?_ ?_))
  refine ACall_fn (vc := c_pandectref02_Ends) (ts := [.t 2]) Go.Proofs.Tryd.func30 (by kernel_rfl) rfl rfl (Nat.le_of_ble_eq_true rfl) (by kernel_rfl) ?_
  unfold c_pandectref02_Ends
  refine VW_seq (VW_region [0] ?_)
  simp only [OpsW_nil, OpsW_n, StepW, pok, pval, VA.ev, Env.get, Env.put, Env.keep, argEnv, thenQ, Heap.nil, ite_true, ite_false, true_and, reduceCtorEq]
  refine VW_seq (VW_region [0, 3] ?_)
  simp only [OpsW_nil, OpsW_n, StepW, pok, pval, VA.ev, Env.get, Env.put, Env.keep, thenQ, Heap.push, fxV, fxOk, List.map, Nat.reduceEqDiff, ite_true, ite_false, true_and, reduceCtorEq, Nat.zero_add]
  refine VW_seq (VW_region [3, 4] ?_)
  simp only [OpsW_nil, OpsW_n, StepW, pok, pval, VA.ev, Env.get, Env.put, Env.keep, thenQ, Nat.succ_ne_self, List.map, Nat.reduceEqDiff, ite_true, ite_false, true_and, reduceCtorEq]
  refine ACall_p (sp_pandectref02_Of l hl) ?_
  rw [ofR_eq]
  have hn := norm_len l
  generalize normS l = c at hn ⊢
  try simp only [midQ, OpsW_nil, OpsW_n, OpsW_y, OpsW_xt, OpsW_xf, OpsW_u, StepW, guardOf, DrawW_nil, DrawW_n, DrawW_y, DrawW_xt, DrawW_xf, DrawW_u, DrawH, VOp.isIaddr, QW, dok, dval, VOp.pure, VOp.simple, VOp.det, pok, pval, VA.ev, Env.get, Env.put, Env.keep, argEnv, thenQ, blockQ, retQ, resV, resOk, RS.ev, RS.ok, gd, pickV, isBool, aggV, intV, binV, binOk, strV, binbV, boolV, binbOk, unV, unOk, convV, isInt, isStr, numOf, loV, hiV, lenV, boundOk, sliceV, sliceOk, faddrV, isAddr, locCells, locOk, cellsOfAgg, isAggP, iaddrV, iaddrOk, idxV, idxOk, lenOk, extV, extOk, fillV, fillOk, mmV, PV.cells, PV.fits, overlay, PV.nth, PV.row, lookV, mapRows, mapOk, keysOk, keyOk, keyEq, mapFind, mapPut, mapHas, mapsetV, Heap.get, Heap.set, Heap.del, Heap.le, HL.get, HL.set, HL.del, HL.le, Heap.push, Heap.nil, Nat.le_refl, Nat.add_eq_left, Nat.left_eq_add, Nat.succ_ne_self, Nat.one_ne_zero, Env.le, killed, oldId, oldRows, oldOk, srcRows, srcOk, elemsV, elemsOk, eqOk, ekOk, eqCells, eqCell, storeV, storeOk, AB.live, pxV, pxOk, fxV, fxOk, isPtr, slLike, isNil, notNil, List.map, List.set, List.replicate, List.length, List.getD_cons_zero, List.getD_cons_succ, List.getD_nil, List.take, List.drop, List.take_zero, List.drop_zero, List.take_succ_cons, List.drop_succ_cons, List.append, List.cons_append, List.nil_append, Option.map, Nat.reduceEqDiff, Nat.reduceAdd, Nat.reduceLT, Nat.reduceLeDiff, Nat.reduceSub, Nat.reduceMul, reduceIte, Bool.false_eq_true, Bool.true_eq_false, ite_true, ite_false, if_true, if_false, true_and, and_true, implies_true, forall_const, ne_eq, not_false_eq_true, reduceCtorEq, BEq.rfl, beq_self_eq_true, Option.some.injEq, Nat.zero_add, Nat.add_zero, List.length_cons, List.length_nil, true_implies, imp_self, Int.reduceToNat, Int.toNat_natCast, Bool.not_false, Bool.not_true]
  refine VW_seq ?_
  refine VW_seq (VW_region [3, 4, 5] ?_)
  simp only [OpsW_nil, OpsW_n, StepW, pok, pval, VA.ev, Env.get, Env.put, Env.keep, thenQ, Nat.succ_ne_self, Nat.reduceEqDiff, ite_true, ite_false, true_and]
  refine VW_block ?_
  refine VW_loop (σ := { s : Nat × Nat × Nat // s.1 ≤ c.length ∧ s.2.1 < s.2.2 }) (fun s => ([(3, .own s.1.2.1 0 (edges (c.take s.1.1)).length), (4, .sl 2 (c.map Sp.enc)), (5, pI s.1.1)], ⟨[(s.1.2.1, .arr false 1 ((edges (c.take s.1.1)).map fun x => [pI x]))], s.1.2.2⟩)) (fun s => c.length - s.1.1) ⟨(0, 0, 1), by simp⟩ ?_ ?_ ?_
  · simp only [Env.get, Nat.succ_ne_self, Env.le, List.take, Nat.reduceEqDiff, ite_true, ite_false, true_and, and_true]
    exact ⟨rfl, rfl⟩
  · simp only [Heap.get, Heap.le, HL.get, HL.le, Nat.le_refl, List.take, ite_true, true_and, and_true, Option.some.injEq]
    rfl
  rintro ⟨⟨k, id, n⟩, hk, hid⟩
  simp only [] at hk hid ⊢
  have qi0 : (id = n) = False := by simp; omega
  have qi1 : (n = id) = False := by simp; omega
  have qi2 : ∀ j, (n + j = id) = False := fun j => by simp; try omega
  have qi3 : ∀ j, (id = n + j) = False := fun j => by simp; try omega
  have qi4 : ∀ j, (n + (j + 1) = n) = False := fun j => by simp; try omega
  have qi5 : ∀ j, (n = n + (j + 1)) = False := fun j => by simp; try omega
  have qi6 : (n + 1 + 1 = n) = False := by simp; try omega
  have qi7 : (n = n + 1 + 1) = False := by simp; try omega
  have qi8 : (n + 1 + 1 + 1 = n) = False := by simp; try omega
  have qi9 : (n = n + 1 + 1 + 1) = False := by simp; try omega
  refine VW_seq ?_
  refine VW_seq (VW_region [3, 4, 5, 12] ?_)
  simp only [OpsW_nil, OpsW_n, StepW, pok, pval, VA.ev, Env.get, Env.put, Env.keep, thenQ, intV, binV, binOk, lenV, lenOk, Heap.get, Heap.le, HL.le, Nat.succ_ne_self, Env.le, Nat.reduceEqDiff, ite_true, ite_false, true_and, and_true, List.length_map]
  refine VW_cond rfl (fun h1 => ?_) (fun h1 => ?_)
  · refine VW_skip ?_
    try simp only [thenQ]
    simp only [decide_eq_true_eq] at h1
    have ka : k < c.length := by omega
    have hst := edges_step ka
    have hle := edges_len (c.take k)
    have hle2 : (c.take k).length ≤ c.length := by simp; omega
    generalize edges (c.take k) = E at hst hle ⊢
    have tk : List.take E.length (E.map fun x => [pI x]) = E.map fun x => [pI x] := List.take_of_length_le (by simp)
    have tk2 : List.take (E.length + 1) ((E.map fun x => [pI x]) ++ [[pI c[k].frm]]) = (E.map fun x => [pI x]) ++ [[pI c[k].frm]] := List.take_of_length_le (by simp)
    have tl2 : ((E.map fun x => [pI x]) ++ [[pI c[k].frm]]).length = E.length + 1 := by simp
    refine VW_seq ?_
    refine VW_block ?_
    refine VW_seq (VW_region [3, 4, 5] ?_)
    simp only [OpsW_nil, OpsW_n, StepW, pok, pval, VA.ev, Env.get, Env.put, Env.keep, thenQ, aggV, isInt, numOf, lenV, faddrV, isAddr, locCells, locOk, iaddrV, iaddrOk, PV.cells, PV.fits, PV.nth, PV.row, Heap.get, Heap.del, HL.get, HL.del, Heap.push, Nat.le_refl, Nat.succ_ne_self, killed, oldId, oldRows, oldOk, srcRows, srcOk, elemsV, elemsOk, List.set, List.replicate, List.length, List.getD_cons_zero, List.take, List.drop, List.take_succ_cons, Nat.reduceEqDiff, Nat.reduceAdd, Nat.reduceLT, Nat.reduceLeDiff, Bool.false_eq_true, ite_true, ite_false, true_and, and_true, implies_true, BEq.rfl, Nat.zero_add, List.length_cons, Int.toNat_natCast, List.length_map, rowm ka, Sp.enc, tk, qi0, qi1, qi2, qi3, qi4, qi5, qi6, qi7, qi8, qi9]
    repeat (with_reducible refine And.intro ?_ ?_; first | omega | (with_reducible constructor <;> omega) | exact False.elim | exact True.intro)
    refine VW_seq (VW_region [3, 4, 5, 28] ?_)
    simp only [OpsW_nil, OpsW_n, StepW, pok, pval, VA.ev, Env.get, Env.put, Env.keep, thenQ, aggV, intV, binV, binOk, isInt, numOf, lenV, faddrV, isAddr, locCells, locOk, iaddrV, iaddrOk, PV.nth, PV.row, Nat.le_refl, Nat.succ_ne_self, List.length, List.getD_cons_zero, List.take, List.drop, List.take_succ_cons, Nat.reduceEqDiff, Bool.false_eq_true, ite_true, ite_false, true_and, and_true, implies_true, Nat.zero_add, List.length_cons, Int.toNat_natCast, List.length_map, rowm ka, Sp.enc, qi0, qi1, qi2, qi3, qi4, qi5, qi6, qi7, qi8, qi9]
    repeat (with_reducible refine And.intro ?_ ?_; first | omega | (with_reducible constructor <;> omega) | exact False.elim | exact True.intro)
    refine VW_cond rfl (fun h2 => ?_) (fun h2 => ?_)
    · have h3 : c[k].to < 1048577 := by simp at h2; omega
      rw [if_pos h3] at hst
      refine VW_region [3, 4, 5] ?_
      simp only [OpsW_nil, OpsW_n, StepW, pok, pval, VA.ev, Env.get, Env.put, Env.keep, thenQ, blockQ, aggV, isInt, numOf, lenV, faddrV, isAddr, locCells, locOk, iaddrV, iaddrOk, PV.cells, PV.fits, PV.nth, PV.row, Heap.get, Heap.del, HL.get, HL.del, Heap.push, Nat.le_refl, Nat.left_eq_add, Nat.succ_ne_self, killed, oldId, oldRows, oldOk, srcRows, srcOk, elemsV, elemsOk, List.set, List.replicate, List.length, List.getD_cons_zero, List.take, List.drop, List.take_succ_cons, Nat.reduceEqDiff, Nat.reduceLT, Nat.reduceLeDiff, Bool.false_eq_true, ite_true, ite_false, true_and, and_true, implies_true, BEq.rfl, Nat.zero_add, List.length_cons, Int.toNat_natCast, List.length_map, rowm ka, Sp.enc, qi0, qi1, qi2, qi3, qi4, qi5, qi6, qi7, qi8, qi9, tk2, tl2]
      repeat (with_reducible refine And.intro ?_ ?_; first | omega | (with_reducible constructor <;> omega) | exact False.elim | exact True.intro)
      refine VW_region [3, 4, 5] ?_
      simp only [OpsW_nil, OpsW_n, StepW, pok, pval, VA.ev, Env.get, Env.put, Env.keep, thenQ, intV, binV, binOk, HL.get, Nat.succ_ne_self, Nat.reduceEqDiff, ite_true, ite_false, true_and, qi0, qi1, qi2, qi3, qi4, qi5, qi6, qi7, qi8, qi9, w64 (n := (k : Int) + 1) (by omega) (by omega)]
      refine ⟨⟨(k + 1, n + 3, n + 4), by simp only []; omega, by simp only []; omega⟩, ?_, ?_, ?_⟩
      · rw [hst]; simp
      · rw [hst]; simp
      · simp only []; omega
    · have h3 : ¬ c[k].to < 1048577 := by simp at h2; omega
      rw [if_neg h3] at hst
      refine VW_skip ?_
      try simp only [thenQ, blockQ]
      refine VW_region [3, 4, 5] ?_
      simp only [OpsW_nil, OpsW_n, StepW, pok, pval, VA.ev, Env.get, Env.put, Env.keep, thenQ, intV, binV, binOk, HL.get, Nat.succ_ne_self, Nat.reduceEqDiff, ite_true, ite_false, true_and, qi0, qi1, qi2, qi3, qi4, qi5, qi6, qi7, qi8, qi9, w64 (n := (k : Int) + 1) (by omega) (by omega)]
      refine ⟨⟨(k + 1, n + 1, n + 2), by simp only []; omega, by simp only []; omega⟩, ?_, ?_, ?_⟩
      · rw [hst]; simp
      · rw [hst]; simp
      · simp only []; omega
  · simp only [decide_eq_false_iff_not] at h1
    refine VW_exit ?_
    try simp only [thenQ, blockQ, retQ, ite_true]
    refine VW_seq (VW_region [2] ?_)
    simp only [OpsW_nil, OpsW_n, StepW, pok, pval, VA.ev, Env.get, Env.put, Env.keep, thenQ, Nat.succ_ne_self, Nat.reduceEqDiff, ite_true, ite_false, true_and, qi0, qi1, qi2, qi3, qi4, qi5, qi6, qi7, qi8, qi9]
    refine VW_ret ?_
    try simp only [Env.get, retQ, resV, resOk, RS.ev, RS.ok, ite_true, true_and, and_true]
    rw [List.take_of_length_le (by omega)]
    exact View.own_all (fz := false) (by simp [Heap.get, HL.get]) (by simp)
theorem sp_pandectref02_Ints (l m : List Int) (hl : l.length ≤ 100000) (hm : m.length ≤ 100000) : PCall Tryd.prog 29 [.sl 1 (l.map fun x => [pI x]), .sl 1 (m.map fun x => [pI x])] (.bool (decide (l = m))) := by
  refine PCall_intro ?_ (cB _) (by simp only [ClosedL, List.mem_cons, List.not_mem_nil, or_false, forall_eq_or_imp, forall_eq, false_implies, implies_true]; repeat' (first | exact cI _ | exact cS _ | exact cB _ | exact closed_fn0 _ | exact closed_nilsl | exact closed_agg (Un.closed _) | exact closed_agg (It.closed _) | exact closed_agg (EI.closed _) | exact closed_agg (Ac.closed _) | exact closed_agg (Wd.closed _) | exact closed_agg (St.closed _) | exact closed_agg (Sta.closed _) | exact closed_eis _ | exact closed_acs _ | exact closed_strs _ | exact closed_map (fun w _ => Wd.closed w) | exact closed_map (fun w _ => St.closed w) | exact closed_map (fun w _ => Un.closed w) | exact closed_map (fun w _ => It.closed w) | exact closed_sc _ | exact closed_sps _ | exact closed_agg (Sp.closed _) | exact closed_ro (EI.closed _) | exact closed_ro (Sta.closed _) | exact closed_ro (It.closed _) | exact closed_ro (by simp only [List.mem_cons, List.not_mem_nil, or_false, forall_eq]; first | exact cI _ | exact cS _ | exact closed_eis _) | refine And.intro ?_ ?_))
  refine ACall_fn (vc := c_pandectref02_Ints) (ts := [.t 4]) Go.Proofs.Tryd.func29 (by kernel_rfl) rfl rfl (Nat.le_of_ble_eq_true rfl) (by kernel_rfl) ?_
  unfold c_pandectref02_Ints
  refine VW_seq (VW_region [0, 1] ?_)
  simp only [OpsW_nil, OpsW_n, StepW, pok, pval, VA.ev, Env.get, Env.put, Env.keep, argEnv, thenQ, Heap.nil, Nat.succ_ne_self, Nat.reduceEqDiff, ite_true, ite_false, true_and, reduceCtorEq, Nat.zero_add]
  refine VW_seq ?_
  refine VW_seq (VW_region [0, 1, 10] ?_)
  simp only [OpsW_nil, OpsW_n, StepW, pok, pval, VA.ev, Env.get, Env.put, Env.keep, thenQ, intV, binV, binOk, lenV, lenOk, Nat.succ_ne_self, Nat.reduceEqDiff, ite_true, ite_false, true_and, reduceCtorEq, List.length_map]
  refine VW_cond rfl (fun h1 => ?_) (fun h1 => ?_)
  · refine VW_seq (VW_region [4] ?_)
    simp only [OpsW_nil, OpsW_n, StepW, pok, pval, VA.ev, Env.get, Env.put, Env.keep, thenQ, Nat.reduceEqDiff, ite_true, ite_false, true_and, reduceCtorEq]
    refine VW_ret ?_
    try simp only [Env.get, thenQ, retQ, resV, resOk, RS.ev, RS.ok, ite_true, true_and, and_true]
    have e : decide (l = m) = false := by
      rw [decide_eq_false_iff_not]
      rintro rfl
      simp at h1
    rw [e]; exact View.refl _ _
  have hlm : l.length = m.length := by simp at h1; omega
  refine VW_skip ?_
  try simp only [thenQ]
  refine VW_seq ?_
  refine VW_seq (VW_region [0, 1, 5] ?_)
  simp only [OpsW_nil, OpsW_n, StepW, pok, pval, VA.ev, Env.get, Env.put, Env.keep, thenQ, Nat.succ_ne_self, Nat.reduceEqDiff, ite_true, ite_false, true_and, reduceCtorEq]
  refine VW_block ?_
  refine VW_loop (σ := { i : Nat // i ≤ l.length ∧ l.take i = m.take i }) (fun s => ([(0, .sl 1 (l.map fun x => [pI x])), (1, .sl 1 (m.map fun x => [pI x])), (5, pI s.1)], ⟨[], 0⟩)) (fun s => l.length - s.1) ⟨0, by simp⟩ ?_ ?_ ?_
  · simp only [Env.get, Nat.succ_ne_self, Env.le, Nat.reduceEqDiff, ite_true, ite_false, true_and, and_true, reduceCtorEq]
    rfl
  · simp only [Heap.le, HL.le, Nat.le_refl, and_true]
  rintro ⟨i, hi, hpre⟩
  simp only []
  refine VW_seq ?_
  refine VW_seq (VW_region [0, 1, 5, 14] ?_)
  simp only [OpsW_nil, OpsW_n, StepW, pok, pval, VA.ev, Env.get, Env.put, Env.keep, thenQ, intV, binV, binOk, lenV, lenOk, Heap.le, HL.le, Nat.succ_ne_self, Env.le, Nat.reduceEqDiff, ite_true, ite_false, true_and, and_true, reduceCtorEq, List.length_map]
  refine VW_cond rfl (fun h2 => ?_) (fun h2 => ?_)
  · refine VW_skip ?_
    try simp only [thenQ]
    simp only [decide_eq_true_eq] at h2
    have ia : i < l.length := by omega
    have ib : i < m.length := by omega
    refine VW_seq ?_
    refine VW_block ?_
    refine VW_seq (VW_drawS [0, 1, 5, 25] (by simp [Heap.le, Heap.get, HL.le, HL.get]) ?_)
    simp only [DrawW_nil, DrawW_n, QW, dok, dval, VOp.pure, VOp.simple, VOp.det, pok, pval, VA.ev, Env.get, Env.put, Env.keep, thenQ, gd, aggV, intV, binV, binOk, isInt, numOf, lenV, locCells, locOk, iaddrV, iaddrOk, PV.nth, PV.row, Nat.le_refl, Nat.succ_ne_self, List.length, List.getD_cons_zero, List.take, List.take_succ_cons, Nat.reduceEqDiff, Bool.false_eq_true, ite_true, ite_false, true_and, and_true, implies_true, forall_const, reduceCtorEq, Nat.zero_add, List.length_cons, Int.toNat_natCast, List.length_map, rowm ia, rowm ib]
    repeat (with_reducible refine And.intro ?_ ?_; first | omega | (with_reducible constructor <;> omega) | exact False.elim | exact True.intro)
    refine VW_cond rfl (fun h3 => ?_) (fun h3 => ?_)
    · refine VW_seq (VW_region [4] ?_)
      simp only [OpsW_nil, OpsW_n, StepW, pok, pval, VA.ev, Env.get, Env.put, Env.keep, thenQ, Nat.succ_ne_self, Nat.reduceEqDiff, ite_true, ite_false, true_and, reduceCtorEq]
      refine VW_ret ?_
      try simp only [Env.get, thenQ, blockQ, retQ, resV, resOk, RS.ev, RS.ok, ite_true, true_and, and_true]
      have e : decide (l = m) = false := by
        rw [decide_eq_false_iff_not]
        rintro rfl
        simp at h3
      rw [e]; exact View.refl _ _
    have hs : l[i] = m[i] := by simpa using h3
    refine VW_skip ?_
    try simp only [thenQ, blockQ]
    refine VW_region [0, 1, 5] ?_
    simp only [OpsW_nil, OpsW_n, StepW, pok, pval, VA.ev, Env.get, Env.put, Env.keep, thenQ, intV, binV, binOk, Nat.le_refl, Nat.succ_ne_self, Nat.reduceEqDiff, ite_true, ite_false, true_and, reduceCtorEq, w64 (n := (i : Int) + 1) (by omega) (by omega)]
    refine ⟨⟨i + 1, by omega, by rw [List.take_add_one, List.take_add_one, List.getElem?_eq_getElem ia, List.getElem?_eq_getElem ib, hpre, hs]⟩, ?_, ?_⟩
    · rfl
    · simp only []; omega
  · refine VW_exit ?_
    try simp only [thenQ, blockQ, retQ, ite_true]
    refine VW_seq (VW_region [4] ?_)
    simp only [OpsW_nil, OpsW_n, StepW, pok, pval, VA.ev, Env.get, Env.put, Env.keep, thenQ, Nat.succ_ne_self, Nat.reduceEqDiff, ite_true, ite_false, true_and, reduceCtorEq]
    refine VW_ret ?_
    try simp only [Env.get, retQ, resV, resOk, RS.ev, RS.ok, ite_true, true_and, and_true]
    simp only [decide_eq_false_iff_not] at h2
    have e : decide (l = m) = true := by
      have : i = l.length := by omega
      subst this
      rw [List.take_length, hlm, List.take_length] at hpre
      simpa using hpre
    rw [e]; exact View.refl _ _
theorem sp_pandectref02_May (l : List Sp) (hl : l.length ≤ 1000000) : PCall Tryd.prog 25 [.sl 2 (l.map Sp.enc)] (.bool (validB l)) := by
  refine PCall_intro ?_ (cB _) (by simp only [ClosedL, List.mem_cons, List.not_mem_nil, or_false, forall_eq_or_imp, forall_eq, false_implies, implies_true]; repeat' (first | exact cI _ | exact cS _ | exact cB _ | exact closed_fn0 _ | exact closed_nilsl | exact closed_agg (Un.closed _) | exact closed_agg (It.closed _) | exact closed_agg (EI.closed _) | exact closed_agg (Ac.closed _) | exact closed_agg (Wd.closed _) | exact closed_agg (St.closed _) | exact closed_agg (Sta.closed _) | exact closed_eis _ | exact closed_acs _ | exact closed_strs _ | exact closed_map (fun w _ => Wd.closed w) | exact closed_map (fun w _ => St.closed w) | exact closed_map (fun w _ => Un.closed w) | exact closed_map (fun w _ => It.closed w) | exact closed_sc _ | exact closed_sps _ | exact closed_agg (Sp.closed _) | exact closed_ro (EI.closed _) | exact closed_ro (Sta.closed _) | exact closed_ro (It.closed _) | exact closed_ro (by simp only [List.mem_cons, List.not_mem_nil, or_false, forall_eq]; first | exact cI _ | exact cS _ | exact closed_eis _) | refine And.intro ?_ ?_))
  refine ACall_fn (vc := c_pandectref02_May) (ts := [.t 2]) Go.Proofs.Tryd.func25 (by kernel_rfl) rfl rfl (Nat.le_of_ble_eq_true rfl) (by kernel_rfl) ?_
  unfold c_pandectref02_May
  refine VW_seq (VW_region [0] ?_)
  simp only [OpsW_nil, OpsW_n, StepW, pok, pval, VA.ev, Env.get, Env.put, Env.keep, argEnv, thenQ, Heap.nil, ite_true, ite_false, true_and, reduceCtorEq]
  refine VW_seq ?_
  refine VW_seq (VW_region [0, 3] ?_)
  simp only [OpsW_nil, OpsW_n, StepW, pok, pval, VA.ev, Env.get, Env.put, Env.keep, thenQ, ite_true, ite_false, true_and, reduceCtorEq]
  refine VW_block ?_
  refine VW_loop (σ := { s : Nat // s ≤ l.length ∧ canonB (-1) l = canonB (lastTo l s) (l.drop s) }) (fun s => ([(0, .sl 2 (l.map Sp.enc)), (3, pI s.1)], ⟨[], 0⟩)) (fun s => l.length - s.1) ⟨0, by simp [lastTo]⟩ ?_ ?_ ?_
  · simp only [Env.get, Env.le, ite_true, ite_false, true_and, and_true, reduceCtorEq]
    rfl
  · simp only [Heap.le, HL.le, Nat.le_refl, and_true]
  rintro ⟨i, hi, hpre⟩
  simp only []
  refine VW_seq ?_
  refine VW_seq (VW_region [0, 3, 7] ?_)
  simp only [OpsW_nil, OpsW_n, StepW, pok, pval, VA.ev, Env.get, Env.put, Env.keep, thenQ, intV, binV, binOk, lenV, lenOk, Heap.le, HL.le, Nat.succ_ne_self, Env.le, Nat.reduceEqDiff, ite_true, ite_false, true_and, and_true, reduceCtorEq, List.length_map]
  refine VW_cond rfl (fun h1 => ?_) (fun h1 => ?_)
  · refine VW_skip ?_
    try simp only [thenQ]
    simp only [decide_eq_true_eq] at h1
    have ia : i < l.length := by omega
    have hb := bad_step l i ia
    refine VW_seq ?_
    refine VW_block ?_
    refine VW_seq (VW_mid (σ := Unit) (fun _ => ([(0, .sl 2 (l.map Sp.enc)), (3, pI i), (54, .bool (badB l i l[i]))], ⟨[], 0⟩)) (VW_drawS [0, 3, 54] (by simp [Heap.le, Heap.get, HL.le, HL.get]) ?_) (fun _ => ?_))
    · unfold badB
      cases e1 : decide (l[i].frm < 0) with
      | true =>
        simp only [midQ, DrawW_nil, DrawW_n, DrawW_xf, DrawW_u, QW, dok, dval, VOp.pure, VOp.simple, VOp.det, pok, pval, VA.ev, Env.get, Env.put, Env.keep, gd, pickV, isBool, aggV, intV, binV, binOk, isInt, numOf, lenV, faddrV, isAddr, locCells, locOk, iaddrV, iaddrOk, PV.nth, PV.row, Heap.le, HL.le, Nat.le_refl, Nat.succ_ne_self, Env.le, List.length, List.getD_cons_zero, List.take, List.drop, List.take_succ_cons, Nat.reduceEqDiff, Nat.reduceAdd, Nat.reduceLeDiff, Bool.false_eq_true, ite_true, ite_false, true_and, and_true, implies_true, forall_const, reduceCtorEq, Nat.zero_add, List.length_cons, Int.toNat_natCast, e1, List.length_map, rowm ia, Sp.enc]
        repeat (with_reducible refine And.intro ?_ ?_; first | omega | (with_reducible constructor <;> omega) | exact False.elim | exact True.intro)
        exact ⟨(), by first | trivial | rfl⟩
      | false =>
        cases e2 : decide (l[i].to ≤ l[i].frm) with
        | true =>
          simp only [midQ, DrawW_nil, DrawW_n, DrawW_y, DrawW_xf, DrawW_u, QW, dok, dval, VOp.pure, VOp.simple, VOp.det, pok, pval, VA.ev, Env.get, Env.put, Env.keep, gd, pickV, isBool, aggV, intV, binV, binOk, isInt, numOf, lenV, faddrV, isAddr, locCells, locOk, iaddrV, iaddrOk, PV.nth, PV.row, Heap.le, HL.le, Nat.le_refl, Nat.succ_ne_self, Env.le, List.length, List.getD_cons_zero, List.take, List.drop, List.take_succ_cons, Nat.reduceEqDiff, Nat.reduceAdd, Nat.reduceLeDiff, Bool.false_eq_true, ite_true, ite_false, true_and, and_true, implies_true, forall_const, reduceCtorEq, Nat.zero_add, List.length_cons, Int.toNat_natCast, e1, e2, List.length_map, rowm ia, Sp.enc]
          repeat (with_reducible refine And.intro ?_ ?_; first | omega | (with_reducible constructor <;> omega) | exact False.elim | exact True.intro)
          exact ⟨(), by first | trivial | rfl⟩
        | false =>
          cases e3 : decide (1048577 < l[i].to) with
          | true =>
            simp only [midQ, DrawW_nil, DrawW_n, DrawW_y, DrawW_xf, DrawW_u, QW, dok, dval, VOp.pure, VOp.simple, VOp.det, pok, pval, VA.ev, Env.get, Env.put, Env.keep, gd, pickV, isBool, aggV, intV, binV, binOk, isInt, numOf, lenV, faddrV, isAddr, locCells, locOk, iaddrV, iaddrOk, PV.nth, PV.row, Heap.le, HL.le, Nat.le_refl, Nat.succ_ne_self, Env.le, List.length, List.getD_cons_zero, List.take, List.drop, List.take_succ_cons, Nat.reduceEqDiff, Nat.reduceAdd, Nat.reduceLeDiff, Bool.false_eq_true, ite_true, ite_false, true_and, and_true, implies_true, forall_const, reduceCtorEq, Nat.zero_add, List.length_cons, Int.toNat_natCast, e1, e2, e3, List.length_map, rowm ia, Sp.enc]
            repeat (with_reducible refine And.intro ?_ ?_; first | omega | (with_reducible constructor <;> omega) | exact False.elim | exact True.intro)
            exact ⟨(), by first | trivial | rfl⟩
          | false =>
            cases i with
            | zero =>
              have e0 : decide ((0 : Int) < ((0 : Nat) : Int)) = false := rfl
              simp only [midQ, DrawW_nil, DrawW_n, DrawW_y, DrawW_xt, QW, dok, dval, VOp.pure, VOp.simple, VOp.det, pok, pval, VA.ev, Env.get, Env.put, Env.keep, gd, pickV, isBool, aggV, intV, binV, binOk, isInt, numOf, lenV, faddrV, isAddr, locCells, locOk, iaddrV, iaddrOk, PV.nth, PV.row, Heap.le, HL.le, Nat.le_refl, Nat.succ_ne_self, Env.le, List.length, List.getD_cons_zero, List.take, List.drop, List.take_succ_cons, Nat.reduceEqDiff, Nat.reduceAdd, Nat.reduceLeDiff, Bool.false_eq_true, ite_true, ite_false, true_and, and_true, implies_true, forall_const, reduceCtorEq, Nat.zero_add, List.length_cons, Int.toNat_natCast, e1, e2, e3, e0, List.length_map, rowm ia, Sp.enc]
              repeat (with_reducible refine And.intro ?_ ?_; first | omega | (with_reducible constructor <;> omega) | exact False.elim | exact True.intro)
              exact ⟨(), by first | trivial | rfl⟩
            | succ j =>
              have ja : j < l.length := by omega
              have e0 : decide ((0 : Int) < ((j + 1 : Nat) : Int)) = true := by simp
              have e4 : IntKind.i64.wrap (((j + 1 : Nat) : Int) - 1) = (j : Int) := by rw [w64 (by omega) (by omega)]; omega
              have e5 : lastTo l (j + 1) = l[j].to := by simp [lastTo, List.getD_eq_getElem?_getD, ja]
              simp only [midQ, DrawW_nil, DrawW_n, DrawW_y, QW, dok, dval, VOp.pure, VOp.simple, VOp.det, pok, pval, VA.ev, Env.get, Env.put, Env.keep, gd, pickV, isBool, aggV, intV, binV, binOk, isInt, numOf, lenV, faddrV, isAddr, locCells, locOk, iaddrV, iaddrOk, PV.nth, PV.row, Heap.le, HL.le, Nat.le_refl, Nat.succ_ne_self, Env.le, List.length, List.getD_cons_zero, List.take, List.drop, List.take_succ_cons, Nat.reduceEqDiff, Nat.reduceAdd, Nat.reduceLeDiff, Bool.false_eq_true, ite_true, ite_false, true_and, and_true, implies_true, forall_const, reduceCtorEq, Nat.zero_add, List.length_cons, Int.toNat_natCast, e1, e2, e3, e0, e4, e5, List.length_map, rowm ia, rowm ja, Sp.enc]
              repeat (with_reducible refine And.intro ?_ ?_; first | omega | (with_reducible constructor <;> omega) | exact False.elim | exact True.intro)
              exact ⟨(), by first | trivial | rfl⟩
    refine VW_cond rfl (fun h2 => ?_) (fun h2 => ?_)
    · refine VW_seq (VW_region [2] ?_)
      simp only [OpsW_nil, OpsW_n, StepW, pok, pval, VA.ev, Env.get, Env.put, Env.keep, thenQ, Nat.succ_ne_self, Nat.reduceEqDiff, ite_true, ite_false, true_and, reduceCtorEq]
      refine VW_ret ?_
      try simp only [Env.get, thenQ, blockQ, retQ, resV, resOk, RS.ev, RS.ok, ite_true, true_and, and_true]
      have e : validB l = false := by unfold validB; rw [hpre, hb, h2]; rfl
      rw [e]
      exact View.refl _ _
    refine VW_skip ?_
    try simp only [thenQ, blockQ]
    refine VW_region [0, 3] ?_
    simp only [OpsW_nil, OpsW_n, StepW, pok, pval, VA.ev, Env.get, Env.put, Env.keep, thenQ, intV, binV, binOk, Nat.le_refl, Nat.reduceEqDiff, ite_true, ite_false, true_and, reduceCtorEq, w64 (n := (i : Int) + 1) (by omega) (by omega)]
    refine ⟨⟨i + 1, by omega, by rw [hpre, hb, h2]; rfl⟩, ?_, ?_⟩
    · rfl
    · simp only []; omega
  · simp only [decide_eq_false_iff_not] at h1
    refine VW_exit ?_
    try simp only [thenQ, blockQ, retQ, ite_true]
    refine VW_seq (VW_region [2] ?_)
    simp only [OpsW_nil, OpsW_n, StepW, pok, pval, VA.ev, Env.get, Env.put, Env.keep, thenQ, intV, binV, binOk, lenV, lenOk, Nat.succ_ne_self, Nat.reduceEqDiff, ite_true, ite_false, true_and, reduceCtorEq, List.length_map]
    refine VW_ret ?_
    try simp only [Env.get, retQ, resV, resOk, RS.ev, RS.ok, ite_true, true_and, and_true]
    have e : validB l = decide ((l.length : Int) ≤ 4096) := by
      unfold validB
      rw [hpre, List.drop_eq_nil_of_le (by omega), Bool.eq_iff_iff]
      simp [canonB]; omega
    rw [e]
    exact View.refl _ _
/-- How many spans. -/
def total (ls : List (List Sp)) : Nat := (ls.map List.length).sum
theorem total_step {ls : List (List Sp)} {k : Nat} (ka : k < ls.length) : total (ls.take (k + 1)) = total (ls.take k) + ls[k].length := by
  unfold total
  rw [List.take_add_one, List.getElem?_eq_getElem ka, List.map_append, List.sum_append]
  simp
def encLL (l : List Sp) : List PV := [.sl 2 (l.map Sp.enc)]
theorem closed_ll (ls : List (List Sp)) : Closed (.sl 1 (ls.map encLL)) := closed_map (fun a _ x hx => by simp only [encLL, List.mem_cons, List.not_mem_nil, or_false] at hx; subst hx; exact closed_sps _)
theorem sp_pandectlaw02_few (ls : List (List Sp)) (hl : ls.length ≤ 3) (ht : ∀ l ∈ ls, l.length ≤ 10000000000000) : PCall Tryd.prog 10 [.sl 1 (ls.map encLL)] (.bool (decide (total ls ≤ 60))) := by
  refine PCall_intro ?_ (cB _) (by intro x hx; rw [List.mem_singleton] at hx; subst hx; exact closed_ll ls)
  refine ACall_fn (vc := c_pandectlaw02_few) (ts := [.t 2]) Go.Proofs.Tryd.func10 (by kernel_rfl) rfl rfl (Nat.le_of_ble_eq_true rfl) (by kernel_rfl) ?_
  unfold c_pandectlaw02_few
  have hsum : ∀ k, k ≤ ls.length → total (ls.take k) ≤ k * 10000000000000 := by
    intro k
    induction k with
    | zero => intro _; simp [total]
    | succ k ih =>
      intro hk
      have := ih (by omega)
      have h1 := ht ls[k] (List.getElem_mem (by omega))
      have e := total_step (ls := ls) (k := k) (by omega)
      omega
  refine VW_seq (VW_region [0] ?_)
  simp only [OpsW_nil, OpsW_n, StepW, pok, pval, VA.ev, Env.get, Env.put, Env.keep, argEnv, thenQ, Heap.nil, ite_true, ite_false, true_and, reduceCtorEq]
  refine VW_seq (VW_region [0, 3] ?_)
  simp only [OpsW_nil, OpsW_n, StepW, pok, pval, VA.ev, Env.get, Env.put, Env.keep, thenQ, ite_true, ite_false, true_and, reduceCtorEq]
  refine VW_seq ?_
  refine VW_seq (VW_region [0, 3, 4] ?_)
  simp only [OpsW_nil, OpsW_n, StepW, pok, pval, VA.ev, Env.get, Env.put, Env.keep, thenQ, Nat.succ_ne_self, Nat.reduceEqDiff, ite_true, ite_false, true_and, reduceCtorEq]
  refine VW_block ?_
  refine VW_loop (σ := { s : Nat // s ≤ ls.length }) (fun s => ([(0, .sl 1 (ls.map encLL)), (3, pI (total (ls.take s.1))), (4, pI s.1)], ⟨[], 0⟩)) (fun s => ls.length - s.1) ⟨0, by simp⟩ ?_ ?_ ?_
  · simp only [Env.get, Nat.succ_ne_self, Env.le, List.take, Nat.reduceEqDiff, ite_true, ite_false, true_and, and_true, reduceCtorEq]
    exact ⟨rfl, rfl⟩
  · simp only [Heap.le, HL.le, Nat.le_refl, and_true]
  rintro ⟨k, hk⟩
  simp only []
  refine VW_seq ?_
  refine VW_seq (VW_region [0, 3, 4, 8] ?_)
  simp only [OpsW_nil, OpsW_n, StepW, pok, pval, VA.ev, Env.get, Env.put, Env.keep, thenQ, intV, binV, binOk, lenV, lenOk, Heap.le, HL.le, Nat.succ_ne_self, Env.le, Nat.reduceEqDiff, ite_true, ite_false, true_and, and_true, reduceCtorEq, List.length_map]
  refine VW_cond rfl (fun h1 => ?_) (fun h1 => ?_)
  · refine VW_skip ?_
    try simp only [thenQ]
    simp only [decide_eq_true_eq] at h1
    have ka : k < ls.length := by omega
    have h2 := ht ls[k] (List.getElem_mem ka)
    have h3 := hsum k hk
    have e := total_step ka
    refine VW_seq ?_
    refine VW_block ?_
    refine VW_region [0, 3, 4] ?_
    simp only [OpsW_nil, OpsW_n, StepW, pok, pval, VA.ev, Env.get, Env.put, Env.keep, thenQ, blockQ, aggV, intV, binV, binOk, isInt, numOf, lenV, locCells, locOk, iaddrV, iaddrOk, lenOk, PV.nth, PV.row, Nat.le_refl, Nat.succ_ne_self, List.length, List.getD_cons_zero, List.take, List.take_succ_cons, Nat.reduceEqDiff, Bool.false_eq_true, ite_true, ite_false, true_and, and_true, implies_true, reduceCtorEq, Nat.zero_add, List.length_cons, Int.toNat_natCast, List.length_map, rowm ka, encLL, w64 (n := (total (ls.take k) : Int) + (ls[k].length : Int)) (by omega) (by omega)]
    repeat (with_reducible refine And.intro ?_ ?_; first | omega | (with_reducible constructor <;> omega) | exact False.elim | exact True.intro)
    refine VW_region [0, 3, 4] ?_
    simp only [OpsW_nil, OpsW_n, StepW, pok, pval, VA.ev, Env.get, Env.put, Env.keep, thenQ, intV, binV, binOk, Nat.le_refl, Nat.succ_ne_self, Nat.reduceEqDiff, ite_true, ite_false, true_and, reduceCtorEq, w64 (n := (k : Int) + 1) (by omega) (by omega)]
    refine ⟨⟨k + 1, by omega⟩, ?_, ?_⟩
    · rw [e]; exact ⟨rfl, rfl⟩
    · simp only []; omega
  · simp only [decide_eq_false_iff_not] at h1
    refine VW_exit ?_
    try simp only [thenQ, blockQ, retQ, ite_true]
    refine VW_seq (VW_region [2] ?_)
    simp only [OpsW_nil, OpsW_n, StepW, pok, pval, VA.ev, Env.get, Env.put, Env.keep, thenQ, intV, binV, binOk, Nat.succ_ne_self, Nat.reduceEqDiff, ite_true, ite_false, true_and, reduceCtorEq]
    refine VW_ret ?_
    try simp only [Env.get, retQ, resV, resOk, RS.ev, RS.ok, ite_true, true_and, and_true]
    rw [List.take_of_length_le (by omega)]
    have e : decide (total ls ≤ 60) = decide ((total ls : Int) ≤ 60) := by rw [decide_eq_decide]; omega
    rw [e]
    exact View.refl _ _
end Go.Proofs.YtepmaobfbfbecaaDoor.w

