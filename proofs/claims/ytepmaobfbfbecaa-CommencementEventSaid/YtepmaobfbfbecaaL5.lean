/-
  Walks: the law CommencementEvent.
-/
import Derived.Test.YtepmaobfbfbecaaL0
import Derived.Test.YtepmaobfbfbecaaVmH
set_option linter.all false
namespace Go.Proofs.Ytepmaobfbfbecaa.w
open Go Go.VM
set_option maxRecDepth 20000
set_option maxHeartbeats 0
set_option pp.deepTerms false
def c_pandectlaw27_CommencementEvent : VC := (.seq (.region [⟨(some 4), (.box 3 (.t 0)), none⟩, ⟨(some 5), (.box 28 (.t 1)), none⟩, ⟨(some 8), (.mv (.c (.bool false))), none⟩] false) (.seq (.seq (.region [⟨(some 16), (.call 10 []), none⟩, ⟨(some 17), (.un .not (.t 16)), none⟩, ⟨(some 18), (.mv (.t 17)), none⟩, ⟨(some 19), (.load true 28 (.t 5)), (some (18, false))⟩, ⟨(some 20), (.bslice 28 1 [(.int .i64 0), (.int .i64 0), (.int .i64 0), (.int .i64 0), .nilsl, .nilsl, (.int .i64 0), (.int .i64 0), (.int .i64 0), (.int .i64 0), (.int .i64 0), (.int .i64 0), (.str []), .nilsl, .nilsl, .nilsl, .nilsl, .nilsl, (.str []), (.str []), (.int .i64 0), (.int .i64 0), (.str []), (.int .i64 0), (.int .i64 0), (.int .i64 0), (.str []), .nilsl] [(0, (.t 19))]), (some (18, false))⟩, ⟨(some 21), (.mv (.t 2)), (some (18, false))⟩, ⟨(some 22), (.app 28 392 [(.int .i64 0), (.int .i64 0), (.int .i64 0), (.int .i64 0), .nilsl, .nilsl, (.int .i64 0), (.int .i64 0), (.int .i64 0), (.int .i64 0), (.int .i64 0), (.int .i64 0), (.str []), .nilsl, .nilsl, .nilsl, .nilsl, .nilsl, (.str []), (.str []), (.int .i64 0), (.int .i64 0), (.str []), (.int .i64 0), (.int .i64 0), (.int .i64 0), (.str []), .nilsl] false (.t 20) (.t 21)), (some (18, false))⟩, ⟨(some 23), (.call 11 [(.t 22)]), (some (18, false))⟩, ⟨(some 24), (.un .not (.t 23)), (some (18, false))⟩, ⟨(some 25), (.pick (.t 18) (.c (.bool true)) (.t 24)), none⟩, ⟨(some 26), (.mv (.t 25)), none⟩, ⟨(some 27), (.faddr 2 (.t 4)), (some (26, false))⟩, ⟨(some 28), (.load false 1 (.t 27)), (some (26, false))⟩, ⟨(some 29), (.len true (.t 28)), (some (26, false))⟩, ⟨(some 30), (.bin .gtr (.t 29) (.c (.int .i64 100))), (some (26, false))⟩, ⟨(some 31), (.pick (.t 26) (.c (.bool true)) (.t 30)), none⟩] false) (.cond (.t 31) (.seq (.region [⟨(some 32), (.call 10 []), none⟩, ⟨(some 8), (.mv (.t 32)), none⟩] false) .ret) .skip)) (.seq (.region [⟨(some 33), (.load true 3 (.t 4)), none⟩, ⟨(some 34), (.load true 28 (.t 5)), none⟩, ⟨(some 35), (.mv (.t 2)), none⟩, ⟨(some 36), (.call 21 [(.t 33), (.t 34), (.t 35)]), none⟩, ⟨(some 9), (.mv (.t 36)), none⟩] false) (.seq (.draw2 [⟨(some 37), (.load true 3 (.t 4)), none⟩, ⟨(some 38), (.load true 28 (.t 5)), none⟩, ⟨(some 39), (.fx (.mk0 28) []), none⟩, ⟨(some 40), (.mv (.t 2)), none⟩, ⟨(some 41), (.app 28 392 [(.int .i64 0), (.int .i64 0), (.int .i64 0), (.int .i64 0), .nilsl, .nilsl, (.int .i64 0), (.int .i64 0), (.int .i64 0), (.int .i64 0), (.int .i64 0), (.int .i64 0), (.str []), .nilsl, .nilsl, .nilsl, .nilsl, .nilsl, (.str []), (.str []), (.int .i64 0), (.int .i64 0), (.str []), (.int .i64 0), (.int .i64 0), (.int .i64 0), (.str []), .nilsl] false (.t 39) (.t 40)), none⟩, ⟨(some 42), (.faddr 2 (.t 4)), none⟩, ⟨(some 43), (.load false 1 (.t 42)), none⟩, ⟨(some 44), (.mv (.t 3)), none⟩, ⟨(some 45), (.build [(.int .i64 0), .nilsl, .nilsl, (.int .i64 0), (.int .i64 0), (.int .i64 0), (.int .i64 0), (.int .i64 0), (.int .i64 0), (.str []), .nilsl, .nilsl, .nilsl, .nilsl, .nilsl, (.str []), (.str []), (.int .i64 0), (.int .i64 0), (.str []), (.int .i64 0), (.int .i64 0), (.int .i64 0), (.str []), .nilsl] [(0, (1, (.c (.int .i64 10)))), (23, (1, (.t 43))), (22, (1, (.t 44)))]), none⟩, ⟨(some 46), (.build [(.int .i64 0), (.int .i64 0), (.int .i64 0), (.int .i64 0), .nilsl, .nilsl, (.int .i64 0), (.int .i64 0), (.int .i64 0), (.int .i64 0), (.int .i64 0), (.int .i64 0), (.str []), .nilsl, .nilsl, .nilsl, .nilsl, .nilsl, (.str []), (.str []), (.int .i64 0), (.int .i64 0), (.str []), (.int .i64 0), (.int .i64 0), (.int .i64 0), (.str []), .nilsl] [(3, (25, (.t 45)))]), none⟩, ⟨(some 47), (.bslice 28 1 [(.int .i64 0), (.int .i64 0), (.int .i64 0), (.int .i64 0), .nilsl, .nilsl, (.int .i64 0), (.int .i64 0), (.int .i64 0), (.int .i64 0), (.int .i64 0), (.int .i64 0), (.str []), .nilsl, .nilsl, .nilsl, .nilsl, .nilsl, (.str []), (.str []), (.int .i64 0), (.int .i64 0), (.str []), (.int .i64 0), (.int .i64 0), (.int .i64 0), (.str []), .nilsl] [(0, (.t 46))]), none⟩, ⟨(some 48), (.app 28 392 [(.int .i64 0), (.int .i64 0), (.int .i64 0), (.int .i64 0), .nilsl, .nilsl, (.int .i64 0), (.int .i64 0), (.int .i64 0), (.int .i64 0), (.int .i64 0), (.int .i64 0), (.str []), .nilsl, .nilsl, .nilsl, .nilsl, .nilsl, (.str []), (.str []), (.int .i64 0), (.int .i64 0), (.str []), (.int .i64 0), (.int .i64 0), (.int .i64 0), (.str []), .nilsl] false (.t 41) (.t 47)), none⟩, ⟨(some 49), (.call 21 [(.t 37), (.t 38), (.t 48)]), none⟩, ⟨(some 10), (.mv (.t 49)), none⟩] [false, false, false, false, false, false, false, false, false, false, false, false, false, false]) (.seq (.region [⟨(some 51), (.faddr 2 (.t 4)), none⟩, ⟨(some 52), (.load false 1 (.t 51)), none⟩, ⟨(some 53), (.mv (.t 2)), none⟩, ⟨(some 54), (.call 12 [(.t 52), (.t 53)]), none⟩, ⟨(some 50), (.mv (.t 54)), none⟩, ⟨(some 55), (.ext (.t 50) 0), none⟩, ⟨(some 56), (.ext (.t 50) 1), none⟩, ⟨(some 11), (.mv (.t 55)), none⟩, ⟨(some 12), (.mv (.t 56)), none⟩] false) (.seq (.region [⟨(some 57), (.load true 3 (.t 4)), none⟩, ⟨(some 58), (.faddr 3 (.t 5)), none⟩, ⟨(some 59), (.faddr 17 (.t 58)), none⟩, ⟨(some 60), (.load true 3 (.t 59)), none⟩, ⟨(some 61), (.call 14 [(.t 57), (.t 60)]), none⟩, ⟨(some 13), (.alloc [(.int .i64 0), (.int .i64 0), (.str [])]), none⟩, ⟨none, (.store 3 (.t 13) (.t 61)), none⟩] false) (.seq (.seq (.region [⟨(some 62), (.mv (.t 12)), none⟩, ⟨(some 63), (.mv (.t 62)), none⟩, ⟨(some 64), (.faddr 0 (.t 13)), (some (63, false))⟩, ⟨(some 65), (.load false 1 (.t 64)), (some (63, false))⟩, ⟨(some 66), (.bin .neq (.t 65) (.c (.int .i64 3))), (some (63, false))⟩, ⟨(some 67), (.pick (.t 63) (.c (.bool true)) (.t 66)), none⟩, ⟨(some 68), (.mv (.t 67)), none⟩, ⟨(some 69), (.faddr 2 (.t 13)), (some (68, false))⟩, ⟨(some 70), (.load false 1 (.t 69)), (some (68, false))⟩, ⟨(some 71), (.faddr 2 (.t 4)), (some (68, false))⟩, ⟨(some 72), (.load false 1 (.t 71)), (some (68, false))⟩, ⟨(some 73), (.bin .neq (.t 70) (.t 72)), (some (68, false))⟩, ⟨(some 74), (.pick (.t 68) (.c (.bool true)) (.t 73)), none⟩] false) (.cond (.t 74) (.seq (.region [⟨(some 75), (.mv (.t 9)), none⟩, ⟨(some 76), (.mv (.t 10)), none⟩, ⟨(some 77), (.call 16 [(.t 75), (.t 76)]), none⟩, ⟨(some 8), (.mv (.t 77)), none⟩] false) .ret) .skip)) (.seq (.seq (.region [⟨(some 78), (.mv (.t 2)), none⟩, ⟨(some 79), (.len false (.t 78)), none⟩, ⟨(some 80), (.mv (.c (.int .i64 0))), none⟩] false) (.block 0 (.loop (.seq (.region [⟨(some 81), (.bin .lss (.t 80) (.t 79)), none⟩] false) (.seq (.cond (.t 81) .skip (.exit 0)) (.seq (.block 1 (.seq (.region [⟨(some 82), (.iaddr 28 (.t 78) (.t 80)), none⟩, ⟨(some 83), (.load true 28 (.t 82)), none⟩, ⟨(some 15), (.alloc [(.int .i64 0), (.int .i64 0), (.int .i64 0), (.int .i64 0), .nilsl, .nilsl, (.int .i64 0), (.int .i64 0), (.int .i64 0), (.int .i64 0), (.int .i64 0), (.int .i64 0), (.str []), .nilsl, .nilsl, .nilsl, .nilsl, .nilsl, (.str []), (.str []), (.int .i64 0), (.int .i64 0), (.str []), (.int .i64 0), (.int .i64 0), (.int .i64 0), (.str []), .nilsl]), none⟩, ⟨none, (.store 28 (.t 15) (.t 83)), none⟩] false) (.seq (.region [⟨(some 84), (.faddr 3 (.t 15)), none⟩, ⟨(some 85), (.load true 25 (.t 84)), none⟩, ⟨(some 86), (.faddr 0 (.t 5)), none⟩, ⟨(some 87), (.load false 1 (.t 86)), none⟩, ⟨(some 88), (.faddr 1 (.t 5)), none⟩, ⟨(some 89), (.load false 1 (.t 88)), none⟩, ⟨(some 90), (.call 19 [(.t 85), (.t 87), (.t 89)]), none⟩] false) (.cond (.t 90) (.seq (.region [⟨(some 8), (.mv (.c (.bool true))), none⟩] false) .ret) .skip)))) (.region [⟨(some 91), (.bin .add (.t 80) (.c (.int .i64 1))), none⟩, ⟨(some 80), (.mv (.t 91)), none⟩] false))))))) (.seq (.region [⟨(some 92), (.mv (.t 9)), none⟩, ⟨(some 93), (.len false (.t 92)), none⟩, ⟨(some 94), (.bin .eql (.t 93) (.c (.int .i64 0))), none⟩, ⟨(some 8), (.mv (.t 94)), none⟩] false) .ret)))))))))
theorem law_CommencementEvent (a : Sta) (d : EI) (l : List EI) (day : Int) (_ : a.ok) (_ : d.ok) (_ : okL EI.ok l) (_ : i64 day) (hz : l.length * 392 ≤ 140737488351232) :
    PCall Try.prog 6 [.agg a.enc, .agg d.enc, .sl 28 (l.map EI.enc), pI day] (.bool true) := by
  refine PCall_intro ?_ (cB _) (by simp only [ClosedL, List.mem_cons, List.not_mem_nil, or_false, forall_eq_or_imp, forall_eq, false_implies, implies_true]; repeat' (first | exact cI _ | exact cS _ | exact cB _ | exact closed_fn0 _ | exact closed_nilsl | exact closed_agg (Un.closed _) | exact closed_agg (It.closed _) | exact closed_agg (EI.closed _) | exact closed_agg (Ac.closed _) | exact closed_agg (Wd.closed _) | exact closed_agg (St.closed _) | exact closed_agg (Sta.closed _) | exact closed_eis _ | exact closed_acs _ | exact closed_strs _ | exact closed_map (fun w _ => Wd.closed w) | exact closed_map (fun w _ => St.closed w) | exact closed_map (fun w _ => Un.closed w) | exact closed_map (fun w _ => It.closed w) | exact closed_sc _ | exact closed_sps _ | exact closed_agg (Sp.closed _) | exact closed_ro (EI.closed _) | exact closed_ro (Sta.closed _) | exact closed_ro (It.closed _) | exact closed_ro (by simp only [List.mem_cons, List.not_mem_nil, or_false, forall_eq]; first | exact cI _ | exact cS _ | exact closed_eis _) | refine And.intro ?_ ?_))
  refine ACall_fn (vc := c_pandectlaw27_CommencementEvent) (ts := [.t 8]) Go.Proofs.Try.func6 (by kernel_rfl) rfl rfl (Nat.le_of_ble_eq_true rfl) (by kernel_rfl) ?_
  unfold c_pandectlaw27_CommencementEvent
  refine VW_seq (VW_region [2, 3, 4, 5] ?_)
  simp only [OpsW_nil, OpsW_n, StepW, pok, pval, VA.ev, Env.get, Env.put, Env.keep, argEnv, thenQ, PV.cells, PV.fits, Heap.push, Heap.nil, Nat.succ_ne_self, List.length, Nat.reduceEqDiff, Nat.reduceAdd, ite_true, ite_false, true_and, reduceCtorEq, BEq.rfl, Nat.zero_add, Sta.enc, ei_len28]
  refine VW_freeze [(2, .sl 28 (l.map EI.enc)), (3, pI day), (4, .ro a.enc), (5, .ro d.enc)] ⟨View.refl _ _, View.refl _ _, View.loc (z := 3) (fz := false) (es := [a.enc]) rfl (by simp) rfl (by simp [Sta.enc]), View.loc (z := 28) (fz := false) (es := [d.enc]) rfl (by simp) rfl (by simp [ei_len28]), trivial⟩ ?_
  try simp only []
  refine VW_seq ?_
  refine VW_seqJ (σ := Unit) [2, 3, 4, 5, 31] (fun _ => ([(2, .sl 28 (l.map EI.enc)), (3, pI day), (4, .ro a.enc), (5, .ro d.enc), (31, .bool (!fewB (d :: l) || decide ((100 : Int) < a.event.length)))], ⟨[], 20⟩)) ?_ (fun _ => ?_)
  · simp only [OpsW_n, StepW, pok, pval, VA.ev, Env.get, Env.put, Env.keep, unV, unOk, Heap.le, HL.le, Nat.succ_ne_self, Env.le, List.map, Nat.reduceEqDiff, ite_true, ite_false, true_and, and_true]
    refine ACall_p run.awake ?_
    simp only [OpsW_n, OpsW_y, StepW, pok, pval, VA.ev, Env.get, Env.put, pickV, isBool, aggV, unV, unOk, locCells, locOk, PV.cells, PV.fits, PV.nth, Heap.get, Heap.del, HL.get, HL.del, Heap.push, Nat.le_refl, Nat.succ_ne_self, killed, oldId, oldRows, oldOk, srcRows, srcOk, elemsV, elemsOk, List.map, List.set, List.replicate, List.length, List.take, List.drop, List.take_succ_cons, List.cons_append, List.nil_append, Nat.reduceEqDiff, Nat.reduceAdd, Nat.reduceLT, Bool.false_eq_true, Bool.true_eq_false, ite_true, ite_false, true_and, and_true, BEq.rfl, Nat.zero_add, List.length_cons, imp_self, Bool.not_true, List.length_map, ei_len28, ei_take]
    refine ⟨by omega, by omega, ACall_v [.sl 28 ((d :: l).map EI.enc)] ⟨View.own_all (fz := false) rfl (by simp; omega), trivial⟩ (sp_pandectref27_Few (d :: l) (by simp; omega)) (scalar_bool _) ?_⟩
    cases e1 : fewB (d :: l) with
    | false =>
      try simp only [OpsW_nil, OpsW_n, OpsW_xf, StepW, pok, pval, VA.ev, Env.get, Env.put, pickV, isBool, Nat.succ_ne_self, Nat.reduceEqDiff, Nat.reduceLeDiff, ite_true, ite_false, true_and, and_true, Bool.not_false]
      exact ⟨(), by first | trivial | rfl⟩
    | true =>
      try simp only [OpsW_nil, OpsW_n, OpsW_y, StepW, pok, pval, VA.ev, Env.get, Env.put, pickV, isBool, aggV, intV, binV, binOk, lenV, faddrV, isAddr, locCells, locOk, lenOk, PV.nth, Nat.le_refl, Nat.succ_ne_self, List.length, List.getD_cons_zero, List.take, List.drop, List.take_succ_cons, Nat.reduceEqDiff, Nat.reduceLeDiff, Bool.false_eq_true, ite_true, ite_false, true_and, and_true, implies_true, Nat.zero_add, List.length_cons, Bool.not_true, Sta.enc]
      exact ⟨(), by first | trivial | rfl⟩
  refine VW_cond rfl (fun h1 => ?_) (fun h1 => ?_)
  · refine VW_seq (VW_region [8] ?_)
    simp only [OpsW_nil, OpsW_n, StepW, pok, pval, VA.ev, Env.get, Env.put, Env.keep, thenQ, List.map, Nat.reduceEqDiff, ite_true, ite_false, true_and]
    refine ACall_p run.awake ?_
    try simp only [OpsW_nil, OpsW_n, OpsW_y, OpsW_xt, OpsW_xf, OpsW_u, StepW, guardOf, DrawW_nil, DrawW_n, DrawW_y, DrawW_xt, DrawW_xf, DrawW_u, DrawH, VOp.isIaddr, QW, dok, dval, VOp.pure, VOp.simple, VOp.det, pok, pval, VA.ev, Env.get, Env.put, Env.keep, argEnv, thenQ, blockQ, retQ, resV, resOk, RS.ev, RS.ok, gd, pickV, isBool, aggV, intV, binV, binOk, strV, binbV, boolV, binbOk, unV, unOk, convV, isInt, isStr, numOf, loV, hiV, lenV, boundOk, sliceV, sliceOk, faddrV, isAddr, locCells, locOk, cellsOfAgg, isAggP, iaddrV, iaddrOk, idxV, idxOk, lenOk, extV, extOk, fillV, fillOk, mmV, PV.cells, PV.fits, overlay, PV.nth, PV.row, lookV, mapRows, mapOk, keysOk, keyOk, keyEq, mapFind, mapPut, mapHas, mapsetV, Heap.get, Heap.set, Heap.del, Heap.le, HL.get, HL.set, HL.del, HL.le, Heap.push, Heap.nil, Nat.le_refl, Nat.add_eq_left, Nat.left_eq_add, Nat.succ_ne_self, Nat.one_ne_zero, Env.le, killed, oldId, oldRows, oldOk, srcRows, srcOk, elemsV, elemsOk, eqOk, ekOk, eqCells, eqCell, storeV, storeOk, AB.live, pxV, pxOk, fxV, fxOk, isPtr, slLike, isNil, notNil, List.map, List.set, List.replicate, List.length, List.getD_cons_zero, List.getD_cons_succ, List.getD_nil, List.take, List.drop, List.take_zero, List.drop_zero, List.take_succ_cons, List.drop_succ_cons, List.append, List.cons_append, List.nil_append, Option.map, Nat.reduceEqDiff, Nat.reduceAdd, Nat.reduceLT, Nat.reduceLeDiff, Nat.reduceSub, Nat.reduceMul, reduceIte, Bool.false_eq_true, Bool.true_eq_false, ite_true, ite_false, if_true, if_false, true_and, and_true, implies_true, forall_const, ne_eq, not_false_eq_true, reduceCtorEq, BEq.rfl, beq_self_eq_true, Option.some.injEq, Nat.zero_add, Nat.add_zero, List.length_cons, List.length_nil, true_implies, imp_self, Int.reduceToNat, Int.toNat_natCast, Bool.not_false, Bool.not_true]
    refine VW_ret ?_
    try simp only [Env.get, thenQ, retQ, resV, resOk, RS.ev, RS.ok, ite_true, true_and, and_true]
    exact View.refl _ _
  simp only [Bool.or_eq_false_iff, Bool.not_eq_false', decide_eq_false_iff_not] at h1
  have h40 := few_len h1.1
  have fl := (force_canon a d l).2
  have fl' := (force_canon a d (l ++ [ordE 10 0 0 day a.event])).2
  simp only [List.length_append, List.length_cons, List.length_nil] at fl'
  refine VW_skip ?_
  try simp only [thenQ]
  refine VW_seq (VW_region [2, 3, 4, 5, 9] ?_)
  simp only [OpsW_nil, OpsW_n, StepW, pok, pval, VA.ev, Env.get, Env.put, Env.keep, thenQ, aggV, locCells, locOk, PV.nth, Nat.le_refl, Nat.succ_ne_self, List.map, List.length, List.getD_cons_zero, List.take, List.take_succ_cons, Nat.reduceEqDiff, Nat.reduceAdd, Bool.true_eq_false, ite_true, ite_false, true_and, and_true, Nat.zero_add, List.length_cons, imp_self, ei_len28, ei_take, Sta.enc]
  refine ACall_p (sp_commencement_InForce a d l (by omega)) ?_
  try simp only [OpsW_nil, OpsW_n, OpsW_y, OpsW_xt, OpsW_xf, OpsW_u, StepW, guardOf, DrawW_nil, DrawW_n, DrawW_y, DrawW_xt, DrawW_xf, DrawW_u, DrawH, VOp.isIaddr, QW, dok, dval, VOp.pure, VOp.simple, VOp.det, pok, pval, VA.ev, Env.get, Env.put, Env.keep, argEnv, thenQ, blockQ, retQ, resV, resOk, RS.ev, RS.ok, gd, pickV, isBool, aggV, intV, binV, binOk, strV, binbV, boolV, binbOk, unV, unOk, convV, isInt, isStr, numOf, loV, hiV, lenV, boundOk, sliceV, sliceOk, faddrV, isAddr, locCells, locOk, cellsOfAgg, isAggP, iaddrV, iaddrOk, idxV, idxOk, lenOk, extV, extOk, fillV, fillOk, mmV, PV.cells, PV.fits, overlay, PV.nth, PV.row, lookV, mapRows, mapOk, keysOk, keyOk, keyEq, mapFind, mapPut, mapHas, mapsetV, Heap.get, Heap.set, Heap.del, Heap.le, HL.get, HL.set, HL.del, HL.le, Heap.push, Heap.nil, Nat.le_refl, Nat.add_eq_left, Nat.left_eq_add, Nat.succ_ne_self, Nat.one_ne_zero, Env.le, killed, oldId, oldRows, oldOk, srcRows, srcOk, elemsV, elemsOk, eqOk, ekOk, eqCells, eqCell, storeV, storeOk, AB.live, pxV, pxOk, fxV, fxOk, isPtr, slLike, isNil, notNil, List.map, List.set, List.replicate, List.length, List.getD_cons_zero, List.getD_cons_succ, List.getD_nil, List.take, List.drop, List.take_zero, List.drop_zero, List.take_succ_cons, List.drop_succ_cons, List.append, List.cons_append, List.nil_append, Option.map, Nat.reduceEqDiff, Nat.reduceAdd, Nat.reduceLT, Nat.reduceLeDiff, Nat.reduceSub, Nat.reduceMul, reduceIte, Bool.false_eq_true, Bool.true_eq_false, ite_true, ite_false, if_true, if_false, true_and, and_true, implies_true, forall_const, ne_eq, not_false_eq_true, reduceCtorEq, BEq.rfl, beq_self_eq_true, Option.some.injEq, Nat.zero_add, Nat.add_zero, List.length_cons, List.length_nil, true_implies, imp_self, Int.reduceToNat, Int.toNat_natCast, Bool.not_false, Bool.not_true]
  refine VW_seq (VW_draw2C 12 1000 [2, 4, 5, 9, 10] rfl (by simp) ?_)
  simp only [StepW, QW, dok, dval, VOp.pure, VOp.simple, VOp.det, pok, pval, VA.ev, Env.get, Env.put, Env.keep, thenQ, gd, aggV, faddrV, isAddr, locCells, locOk, fillV, fillOk, PV.cells, PV.fits, overlay, PV.nth, Heap.get, Heap.del, Heap.le, HL.get, HL.del, HL.le, Heap.push, Nat.le_refl, Nat.succ_ne_self, killed, oldId, oldRows, oldOk, srcRows, srcOk, elemsV, elemsOk, fxV, fxOk, List.map, List.set, List.replicate, List.length, List.getD_cons_zero, List.take, List.drop, List.take_succ_cons, List.drop_succ_cons, List.cons_append, List.nil_append, Nat.reduceEqDiff, Nat.reduceAdd, Nat.reduceLT, Nat.reduceLeDiff, Bool.false_eq_true, Bool.true_eq_false, ite_true, ite_false, true_and, and_true, implies_true, BEq.rfl, Nat.zero_add, Nat.add_zero, List.length_cons, List.length_nil, imp_self, DrawC_nil, DrawC_at, DrawC_n, Nat.reduceBEq, Nat.reduceAdd, ei_len28, ei_take, Sta.enc, List.length_map]
  have tk : (l.map EI.enc).take l.length = l.map EI.enc := List.take_of_length_le (by simp)
  have hx : (ordE 10 0 0 day a.event).it.kind = 10 := rfl
  have he : (ordE 10 0 0 day a.event).it.event = a.event := rfl
  have same := event_same a d l _ hx he
  generalize hm : forceS a d (l ++ [ordE 10 0 0 day a.event]) = more at same fl'
  rw [tk]
  refine ⟨by omega, by omega, by simp; omega, by simp; omega, ?_⟩
  refine ACall_f [.agg a.enc, .agg d.enc, .sl 28 ((l ++ [ordE 10 0 0 day a.event]).map EI.enc)] ⟨View.refl _ _, View.refl _ _, orders_view (fz := false) (raw := [rawO 10 0 0 day a.event]) (by simp [Heap.get, HL.get, rawO]) (by simp) rfl (fun i hi => ?_), trivial⟩ (ACall_p (sp_commencement_InForce a d _ (by simp; omega)) ?_)
  · obtain rfl : i = 0 := by simp at hi; omega
    exact rawO_view _ _ _ _ _ _
  rw [hm]
  try simp only [Nat.reduceLeDiff, true_and]
  refine VW_seq (VW_region [2, 4, 5, 9, 10, 12] ?_)
  simp only [OpsW_nil, OpsW_n, StepW, pok, pval, VA.ev, Env.get, Env.put, Env.keep, thenQ, aggV, faddrV, isAddr, locCells, locOk, extV, extOk, PV.nth, Nat.le_refl, Nat.succ_ne_self, List.map, List.length, List.getD_cons_zero, List.take, List.drop, List.take_succ_cons, Nat.reduceEqDiff, Bool.false_eq_true, ite_true, ite_false, true_and, and_true, implies_true, Nat.zero_add, List.length_cons]
  refine ACall_p (sp_commencement_EventDay l a.event (by omega)) ?_
  try simp only [List.length, List.getD_cons_zero, List.getD_cons_succ, Nat.reduceAdd, Nat.reduceLT, true_and, Nat.zero_add]
  refine VW_seq (VW_region [2, 4, 5, 9, 10, 12, 13] ?_)
  simp only [OpsW_nil, OpsW_n, StepW, pok, pval, VA.ev, Env.get, Env.put, Env.keep, thenQ, aggV, faddrV, isAddr, locCells, locOk, PV.cells, PV.fits, overlay, PV.nth, PV.row, Heap.get, Heap.set, HL.get, HL.set, Heap.push, Nat.le_refl, Nat.succ_ne_self, storeV, storeOk, List.map, List.set, List.length, List.getD_cons_zero, List.take, List.take_succ_cons, List.nil_append, Nat.reduceEqDiff, Nat.reduceAdd, Nat.reduceLT, Bool.true_eq_false, ite_true, ite_false, true_and, and_true, Nat.zero_add, List.length_cons, imp_self, Sta.enc, ei_d3]
  refine ⟨by rw [it_l17]; omega, ?_⟩
  rw [it_start]
  refine ACall_p (sp_commencement_EffectiveStart a d.it.start) ?_
  have none' := event_none a d l
  generalize ruleS a d.it.start = rs at same none' ⊢
  generalize hev : (eventS a.event l).2 = told at same none' ⊢
  try simp only [HL.del, List.length, List.drop, List.drop_succ_cons, List.cons_append, List.nil_append, Nat.reduceAdd, true_and, BEq.rfl, Nat.zero_add, List.length_cons, Sta.enc]
  refine VW_seq ?_
  refine VW_seqJ (σ := Unit) [2, 5, 9, 10, 74] (fun _ => ([(2, .sl 28 (l.map EI.enc)), (5, .ro d.enc), (9, .sl 2 ((forceS a d l).map Sp.enc)), (10, .sl 2 (more.map Sp.enc)), (74, .bool (told || ((rs.kind != 3) || (rs.event != a.event))))], ⟨[], 24⟩)) ?_ (fun _ => ?_)
  · cases told with
    | true =>
      try simp only [OpsW_nil, OpsW_n, OpsW_xf, StepW, pok, pval, VA.ev, Env.get, Env.put, Env.keep, pickV, isBool, Heap.le, HL.le, Nat.le_refl, Nat.succ_ne_self, Env.le, Nat.reduceEqDiff, ite_true, ite_false, true_and, and_true]
      exact ⟨(), by first | trivial | rfl⟩
    | false =>
      cases e2 : rs.kind != 3 with
      | false =>
        try simp only [OpsW_nil, OpsW_n, OpsW_y, StepW, pok, pval, VA.ev, Env.get, Env.put, Env.keep, pickV, isBool, aggV, intV, binV, binOk, strV, faddrV, isAddr, locCells, locOk, PV.nth, PV.row, Heap.get, Heap.le, HL.get, HL.le, Nat.le_refl, Nat.succ_ne_self, Env.le, List.length, List.getD_cons_zero, List.take, List.drop, List.take_succ_cons, List.drop_succ_cons, Nat.reduceEqDiff, Nat.reduceAdd, Nat.reduceLT, Nat.reduceLeDiff, Bool.false_eq_true, ite_true, ite_false, true_and, and_true, implies_true, Nat.zero_add, Nat.add_zero, List.length_cons, e2]
        exact ⟨(), by first | trivial | rfl⟩
      | true =>
        try simp only [OpsW_nil, OpsW_n, OpsW_y, OpsW_xf, StepW, pok, pval, VA.ev, Env.get, Env.put, Env.keep, pickV, isBool, aggV, intV, binV, binOk, faddrV, isAddr, locCells, locOk, PV.nth, PV.row, Heap.get, Heap.le, HL.get, HL.le, Nat.le_refl, Nat.succ_ne_self, Env.le, List.length, List.getD_cons_zero, List.take, List.drop, List.take_succ_cons, Nat.reduceEqDiff, Nat.reduceAdd, Nat.reduceLT, Nat.reduceLeDiff, Bool.false_eq_true, ite_true, ite_false, true_and, and_true, implies_true, Nat.zero_add, Nat.add_zero, List.length_cons, e2]
        exact ⟨(), by first | trivial | rfl⟩
  refine VW_cond rfl (fun h1 => ?_) (fun h1 => ?_)
  · refine VW_seq (VW_region [8] ?_)
    simp only [OpsW_nil, OpsW_n, StepW, pok, pval, VA.ev, Env.get, Env.put, Env.keep, thenQ, Nat.succ_ne_self, List.map, Nat.reduceEqDiff, ite_true, ite_false, true_and]
    have hs : more = forceS a d l := same (by
      simp only [Bool.or_eq_true, bne_iff_ne] at h1
      exact h1)
    refine ACall_p (sp_pandectref02_Same _ _ (by omega) (by omega)) ?_
    have hd : decide (forceS a d l = more) = true := decide_eq_true hs.symm
    try simp only [hd]
    refine VW_ret ?_
    try simp only [Env.get, thenQ, retQ, resV, resOk, RS.ev, RS.ok, ite_true, true_and, and_true]
    exact View.refl _ _
  simp only [Bool.or_eq_false_iff, bne_eq_false_iff_eq] at h1
  refine VW_skip ?_
  try simp only [thenQ]
  refine VW_seq ?_
  refine VW_seq (VW_region [5, 9, 78, 79, 80] ?_)
  simp only [OpsW_nil, OpsW_n, StepW, pok, pval, VA.ev, Env.get, Env.put, Env.keep, thenQ, lenV, lenOk, Nat.succ_ne_self, Nat.reduceEqDiff, ite_true, ite_false, true_and, List.length_map]
  refine VW_block ?_
  refine VW_loop (σ := { s : Nat × Nat // s.1 ≤ l.length ∧ ∀ i (hi : i < l.length), i < s.1 → refers l[i].it d.act d.item = false })
    (fun s => ([(5, .ro d.enc), (9, .sl 2 ((forceS a d l).map Sp.enc)), (78, .sl 28 (l.map EI.enc)), (79, pI l.length), (80, pI s.1.1)], ⟨[], s.1.2⟩)) (fun s => l.length - s.1.1) ⟨(0, 24), by simp⟩ ?_ ?_ ?_
  · simp only [Env.get, Nat.succ_ne_self, Env.le, Nat.reduceEqDiff, ite_true, ite_false, true_and, and_true]
    rfl
  · simp only [Heap.le, HL.le, Nat.le_refl, and_true]
    trace_state
  rintro ⟨⟨k, n⟩, hk, hr⟩
  simp only [] at hk hr ⊢
  refine VW_seq (VW_region [5, 9, 78, 79, 80, 81] ?_)
  simp only [OpsW_nil, OpsW_n, StepW, pok, pval, VA.ev, Env.get, Env.put, Env.keep, thenQ, intV, binV, binOk, Heap.le, HL.le, Nat.succ_ne_self, Env.le, Nat.reduceEqDiff, ite_true, ite_false, true_and, and_true]
  refine VW_seq ?_
  refine VW_cond rfl (fun h3 => ?_) (fun h3 => ?_)
  · refine VW_skip ?_
    try simp only [thenQ]
    simp only [decide_eq_true_eq] at h3
    have ka : k < l.length := by omega
    refine VW_seq ?_
    refine VW_block ?_
    refine VW_seq (VW_region [5, 9, 15, 78, 79, 80] ?_)
    simp only [OpsW_nil, OpsW_n, StepW, pok, pval, VA.ev, Env.get, Env.put, Env.keep, thenQ, aggV, isInt, numOf, lenV, locCells, locOk, iaddrV, iaddrOk, PV.cells, PV.fits, overlay, PV.nth, PV.row, Heap.get, Heap.set, HL.get, HL.set, HL.del, Heap.push, Nat.le_refl, Nat.succ_ne_self, storeV, storeOk, List.set, List.length, List.getD_cons_zero, List.take, List.drop, List.drop_succ_cons, List.nil_append, Nat.reduceEqDiff, Nat.reduceAdd, Nat.reduceLT, Bool.true_eq_false, ite_true, ite_false, true_and, and_true, BEq.rfl, Nat.zero_add, imp_self, Int.toNat_natCast, List.length_map, rowm ka, ei_len28, ei_take, beq_self_eq_true, List.append_nil]
    repeat (with_reducible refine And.intro ?_ ?_; first | omega | (with_reducible constructor <;> omega) | exact False.elim | exact True.intro)
    refine VW_seq (VW_region [5, 9, 78, 79, 80, 90] ?_)
    simp only [OpsW_nil, OpsW_n, StepW, pok, pval, VA.ev, Env.get, Env.put, Env.keep, thenQ, aggV, faddrV, isAddr, locCells, locOk, PV.nth, PV.row, Heap.get, HL.get, Nat.le_refl, Nat.succ_ne_self, List.map, List.length, List.getD_cons_zero, List.drop, Nat.reduceEqDiff, Nat.reduceLT, Nat.reduceLeDiff, Bool.false_eq_true, Bool.true_eq_false, ite_true, ite_false, true_and, and_true, implies_true, Nat.zero_add, imp_self, ei_d3, ei_t0, ei_t1, ei_l1, ei_len28, it_take, It.enc_len]
    repeat (with_reducible refine And.intro ?_ ?_; first | omega | (with_reducible constructor <;> omega) | exact False.elim | exact True.intro)
    refine ACall_p (sp_commencement_Refers l[k].it d.act d.item) ?_
    try simp only [OpsW_nil, OpsW_n, OpsW_y, OpsW_xt, OpsW_xf, OpsW_u, StepW, guardOf, DrawW_nil, DrawW_n, DrawW_y, DrawW_xt, DrawW_xf, DrawW_u, DrawH, VOp.isIaddr, QW, dok, dval, VOp.pure, VOp.simple, VOp.det, pok, pval, VA.ev, Env.get, Env.put, Env.keep, argEnv, thenQ, blockQ, retQ, resV, resOk, RS.ev, RS.ok, gd, pickV, isBool, aggV, intV, binV, binOk, strV, binbV, boolV, binbOk, unV, unOk, convV, isInt, isStr, numOf, loV, hiV, lenV, boundOk, sliceV, sliceOk, faddrV, isAddr, locCells, locOk, cellsOfAgg, isAggP, iaddrV, iaddrOk, idxV, idxOk, lenOk, extV, extOk, fillV, fillOk, mmV, PV.cells, PV.fits, overlay, PV.nth, PV.row, lookV, mapRows, mapOk, keysOk, keyOk, keyEq, mapFind, mapPut, mapHas, mapsetV, Heap.get, Heap.set, Heap.del, Heap.le, HL.get, HL.set, HL.del, HL.le, Heap.push, Heap.nil, Nat.le_refl, Nat.add_eq_left, Nat.left_eq_add, Nat.succ_ne_self, Nat.one_ne_zero, Env.le, killed, oldId, oldRows, oldOk, srcRows, srcOk, elemsV, elemsOk, eqOk, ekOk, eqCells, eqCell, storeV, storeOk, AB.live, pxV, pxOk, fxV, fxOk, isPtr, slLike, isNil, notNil, List.map, List.set, List.replicate, List.length, List.getD_cons_zero, List.getD_cons_succ, List.getD_nil, List.take, List.drop, List.take_zero, List.drop_zero, List.take_succ_cons, List.drop_succ_cons, List.append, List.cons_append, List.nil_append, Option.map, Nat.reduceEqDiff, Nat.reduceAdd, Nat.reduceLT, Nat.reduceLeDiff, Nat.reduceSub, Nat.reduceMul, reduceIte, Bool.false_eq_true, Bool.true_eq_false, ite_true, ite_false, if_true, if_false, true_and, and_true, implies_true, forall_const, ne_eq, not_false_eq_true, reduceCtorEq, BEq.rfl, beq_self_eq_true, Option.some.injEq, Nat.zero_add, Nat.add_zero, List.length_cons, List.length_nil, true_implies, imp_self, Int.reduceToNat, Int.toNat_natCast, Bool.not_false, Bool.not_true]
    refine VW_cond rfl (fun h4 => ?_) (fun h4 => ?_)
    · refine VW_seq (VW_region [8] ?_)
      simp only [OpsW_nil, OpsW_n, StepW, pok, pval, VA.ev, Env.get, Env.put, Env.keep, thenQ, Nat.succ_ne_self, Nat.reduceEqDiff, ite_true, ite_false, true_and]
      refine VW_ret ?_
      try simp only [Env.get, thenQ, blockQ, retQ, resV, resOk, RS.ev, RS.ok, ite_true, true_and, and_true]
      exact View.refl _ _
    refine VW_skip ?_
    try simp only [thenQ, blockQ]
    refine VW_region [5, 9, 78, 79, 80] ?_
    simp only [OpsW_nil, OpsW_n, StepW, pok, pval, VA.ev, Env.get, Env.put, Env.keep, thenQ, intV, binV, binOk, Nat.succ_ne_self, Nat.reduceEqDiff, ite_true, ite_false, true_and, w64 (n := (k : Int) + 1) (by omega) (by omega)]
    refine ⟨⟨(k + 1, n + 1), by simp only []; omega, fun i hi hik => ?_⟩, ?_, ?_⟩
    · rcases Nat.lt_or_ge i k with h5 | h5
      · exact hr i hi h5
      · obtain rfl : i = k := by simp only [] at hik; omega
        exact h4
    · simp
    · simp only []; omega
  · refine VW_exit ?_
    try simp only [thenQ, blockQ, retQ, ite_true]
    simp only [decide_eq_false_iff_not] at h3
    refine VW_seq (VW_region [8] ?_)
    simp only [OpsW_nil, OpsW_n, StepW, pok, pval, VA.ev, Env.get, Env.put, Env.keep, thenQ, intV, binV, binOk, lenV, lenOk, Nat.succ_ne_self, Nat.reduceEqDiff, ite_true, ite_false, true_and]
    have hn : forceS a d l = [] := none' h1.1 h1.2.1 h1.2.2 (by
      rw [List.any_eq_false]
      intro x hx
      obtain ⟨i, hi, rfl⟩ := List.getElem_of_mem hx
      rw [hr i hi (by omega)]; simp)
    rw [hn]
    refine VW_ret ?_
    try simp only [Env.get, retQ, resV, resOk, RS.ev, RS.ok, List.map, ite_true, true_and, and_true, List.length_nil]
    exact View.refl _ _
end Go.Proofs.Ytepmaobfbfbecaa.w

