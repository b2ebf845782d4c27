/-
  Walks: the law CommencementLastOrder.
-/
import Derived.Test.YtepmaobfbfbecaaL0
import Derived.Test.YtepmaobfbfbecaaR5
import Derived.Test.YtepmaobfbfbecaaVmI
set_option linter.all false
namespace Go.Proofs.Ytepmaobfbfbecaa.w
open Go Go.VM
set_option maxRecDepth 20000
set_option maxHeartbeats 0
set_option pp.deepTerms false
def c_pandectlaw27_CommencementLastOrder : VC := (.seq (.region [⟨(some 6), (.box 3 (.t 0)), none⟩, ⟨(some 7), (.box 28 (.t 1)), none⟩, ⟨(some 12), (.mv (.c (.bool false))), none⟩] false) (.seq (.seq (.region [⟨(some 16), (.call 10 []), none⟩, ⟨(some 17), (.un .not (.t 16)), none⟩, ⟨(some 18), (.mv (.t 17)), none⟩, ⟨(some 19), (.load true 28 (.t 7)), (some (18, false))⟩, ⟨(some 20), (.bslice 28 1 [(.int .i64 0), (.int .i64 0), (.int .i64 0), (.int .i64 0), .nilsl, .nilsl, (.int .i64 0), (.int .i64 0), (.int .i64 0), (.int .i64 0), (.int .i64 0), (.int .i64 0), (.str []), .nilsl, .nilsl, .nilsl, .nilsl, .nilsl, (.str []), (.str []), (.int .i64 0), (.int .i64 0), (.str []), (.int .i64 0), (.int .i64 0), (.int .i64 0), (.str []), .nilsl] [(0, (.t 19))]), (some (18, false))⟩, ⟨(some 21), (.mv (.t 2)), (some (18, false))⟩, ⟨(some 22), (.app 28 392 [(.int .i64 0), (.int .i64 0), (.int .i64 0), (.int .i64 0), .nilsl, .nilsl, (.int .i64 0), (.int .i64 0), (.int .i64 0), (.int .i64 0), (.int .i64 0), (.int .i64 0), (.str []), .nilsl, .nilsl, .nilsl, .nilsl, .nilsl, (.str []), (.str []), (.int .i64 0), (.int .i64 0), (.str []), (.int .i64 0), (.int .i64 0), (.int .i64 0), (.str []), .nilsl] false (.t 20) (.t 21)), (some (18, false))⟩, ⟨(some 23), (.call 11 [(.t 22)]), (some (18, false))⟩, ⟨(some 24), (.un .not (.t 23)), (some (18, false))⟩, ⟨(some 25), (.pick (.t 18) (.c (.bool true)) (.t 24)), none⟩, ⟨(some 26), (.mv (.t 25)), none⟩, ⟨(some 27), (.faddr 2 (.t 6)), (some (26, false))⟩, ⟨(some 28), (.load false 1 (.t 27)), (some (26, false))⟩, ⟨(some 29), (.len true (.t 28)), (some (26, false))⟩, ⟨(some 30), (.bin .gtr (.t 29) (.c (.int .i64 100))), (some (26, false))⟩, ⟨(some 31), (.pick (.t 26) (.c (.bool true)) (.t 30)), none⟩, ⟨(some 32), (.mv (.t 31)), none⟩, ⟨(some 33), (.faddr 3 (.t 7)), (some (32, false))⟩, ⟨(some 34), (.faddr 0 (.t 33)), (some (32, false))⟩, ⟨(some 35), (.load false 1 (.t 34)), (some (32, false))⟩, ⟨(some 36), (.bin .lss (.t 35) (.c (.int .i64 0))), (some (32, false))⟩, ⟨(some 37), (.pick (.t 32) (.c (.bool true)) (.t 36)), none⟩, ⟨(some 38), (.mv (.t 37)), none⟩, ⟨(some 39), (.faddr 3 (.t 7)), (some (38, false))⟩, ⟨(some 40), (.faddr 0 (.t 39)), (some (38, false))⟩, ⟨(some 41), (.load false 1 (.t 40)), (some (38, false))⟩, ⟨(some 42), (.bin .gtr (.t 41) (.c (.int .i64 6))), (some (38, false))⟩, ⟨(some 43), (.pick (.t 38) (.c (.bool true)) (.t 42)), none⟩] false) (.cond (.t 43) (.seq (.region [⟨(some 44), (.call 10 []), none⟩, ⟨(some 12), (.mv (.t 44)), none⟩] false) .ret) .skip)) (.seq (.draw2 [⟨(some 45), (.bslice 1 3 [(.int .i64 0)] [(0, (.c (.int .i64 7))), (1, (.c (.int .i64 8))), (2, (.c (.int .i64 9)))]), none⟩, ⟨(some 46), (.mv (.t 3)), none⟩, ⟨(some 47), (.bin .rem (.t 46) (.c (.int .u8 3))), none⟩, ⟨(some 48), (.iaddr 1 (.t 45) (.t 47)), none⟩, ⟨(some 49), (.load false 1 (.t 48)), none⟩, ⟨(some 50), (.faddr 0 (.t 7)), none⟩, ⟨(some 51), (.load false 1 (.t 50)), none⟩, ⟨(some 52), (.faddr 1 (.t 7)), none⟩, ⟨(some 53), (.load false 1 (.t 52)), none⟩, ⟨(some 54), (.mv (.t 4)), none⟩, ⟨(some 55), (.build [(.int .i64 0), .nilsl, .nilsl, (.int .i64 0), (.int .i64 0), (.int .i64 0), (.int .i64 0), (.int .i64 0), (.int .i64 0), (.str []), .nilsl, .nilsl, .nilsl, .nilsl, .nilsl, (.str []), (.str []), (.int .i64 0), (.int .i64 0), (.str []), (.int .i64 0), (.int .i64 0), (.int .i64 0), (.str []), .nilsl] [(0, (1, (.t 49))), (20, (1, (.t 51))), (21, (1, (.t 53))), (22, (1, (.t 54)))]), none⟩, ⟨(some 13), (.alloc [(.int .i64 0), .nilsl, .nilsl, (.int .i64 0), (.int .i64 0), (.int .i64 0), (.int .i64 0), (.int .i64 0), (.int .i64 0), (.str []), .nilsl, .nilsl, .nilsl, .nilsl, .nilsl, (.str []), (.str []), (.int .i64 0), (.int .i64 0), (.str []), (.int .i64 0), (.int .i64 0), (.int .i64 0), (.str []), .nilsl]), none⟩, ⟨none, (.store 25 (.t 13) (.t 55)), none⟩] [true, true, true, true, true, true, true, true, true, true, true, true, false]) (.seq (.seq (.region [⟨(some 56), (.mv (.t 3)), none⟩, ⟨(some 57), (.bin .rem (.t 56) (.c (.int .u8 2))), none⟩, ⟨(some 58), (.bin .eql (.t 57) (.c (.int .u8 0))), none⟩] false) (.cond (.t 58) (.region [⟨(some 59), (.faddr 21 (.t 13)), none⟩, ⟨none, (.store 1 (.t 59) (.c (.int .i64 (-1)))), none⟩] false) .skip)) (.seq (.region [⟨(some 60), (.load true 3 (.t 6)), none⟩, ⟨(some 61), (.load true 28 (.t 7)), none⟩, ⟨(some 62), (.mv (.t 2)), none⟩, ⟨(some 63), (.call 21 [(.t 60), (.t 61), (.t 62)]), none⟩, ⟨(some 14), (.mv (.t 63)), none⟩] false) (.seq (.draw2 [⟨(some 64), (.load true 3 (.t 6)), none⟩, ⟨(some 65), (.load true 28 (.t 7)), none⟩, ⟨(some 66), (.fx (.mk0 28) []), none⟩, ⟨(some 67), (.mv (.t 2)), none⟩, ⟨(some 68), (.app 28 392 [(.int .i64 0), (.int .i64 0), (.int .i64 0), (.int .i64 0), .nilsl, .nilsl, (.int .i64 0), (.int .i64 0), (.int .i64 0), (.int .i64 0), (.int .i64 0), (.int .i64 0), (.str []), .nilsl, .nilsl, .nilsl, .nilsl, .nilsl, (.str []), (.str []), (.int .i64 0), (.int .i64 0), (.str []), (.int .i64 0), (.int .i64 0), (.int .i64 0), (.str []), .nilsl] false (.t 66) (.t 67)), none⟩, ⟨(some 69), (.load true 25 (.t 13)), none⟩, ⟨(some 70), (.build [(.int .i64 0), (.int .i64 0), (.int .i64 0), (.int .i64 0), .nilsl, .nilsl, (.int .i64 0), (.int .i64 0), (.int .i64 0), (.int .i64 0), (.int .i64 0), (.int .i64 0), (.str []), .nilsl, .nilsl, .nilsl, .nilsl, .nilsl, (.str []), (.str []), (.int .i64 0), (.int .i64 0), (.str []), (.int .i64 0), (.int .i64 0), (.int .i64 0), (.str []), .nilsl] [(3, (25, (.t 69)))]), none⟩, ⟨(some 71), (.bslice 28 1 [(.int .i64 0), (.int .i64 0), (.int .i64 0), (.int .i64 0), .nilsl, .nilsl, (.int .i64 0), (.int .i64 0), (.int .i64 0), (.int .i64 0), (.int .i64 0), (.int .i64 0), (.str []), .nilsl, .nilsl, .nilsl, .nilsl, .nilsl, (.str []), (.str []), (.int .i64 0), (.int .i64 0), (.str []), (.int .i64 0), (.int .i64 0), (.int .i64 0), (.str []), .nilsl] [(0, (.t 70))]), none⟩, ⟨(some 72), (.app 28 392 [(.int .i64 0), (.int .i64 0), (.int .i64 0), (.int .i64 0), .nilsl, .nilsl, (.int .i64 0), (.int .i64 0), (.int .i64 0), (.int .i64 0), (.int .i64 0), (.int .i64 0), (.str []), .nilsl, .nilsl, .nilsl, .nilsl, .nilsl, (.str []), (.str []), (.int .i64 0), (.int .i64 0), (.str []), (.int .i64 0), (.int .i64 0), (.int .i64 0), (.str []), .nilsl] false (.t 68) (.t 71)), none⟩, ⟨(some 73), (.call 21 [(.t 64), (.t 65), (.t 72)]), none⟩, ⟨(some 15), (.mv (.t 73)), none⟩] [false, false, false, false, false, false, false, false, false, false, false]) (.seq (.seq (.region [⟨(some 74), (.mv (.t 5)), none⟩, ⟨(some 75), (.mv (.t 4)), none⟩, ⟨(some 76), (.bin .lss (.t 74) (.t 75)), none⟩] false) (.cond (.t 76) (.seq (.region [⟨(some 77), (.mv (.t 15)), none⟩, ⟨(some 78), (.mv (.t 5)), none⟩, ⟨(some 79), (.call 23 [(.t 77), (.t 78)]), none⟩, ⟨(some 80), (.mv (.t 14)), none⟩, ⟨(some 81), (.mv (.t 5)), none⟩, ⟨(some 82), (.call 23 [(.t 80), (.t 81)]), none⟩, ⟨(some 83), (.binb .eql (.t 79) (.t 82)), none⟩, ⟨(some 12), (.mv (.t 83)), none⟩] false) .ret) .skip)) (.seq (.region [⟨(some 84), (.mv (.t 15)), none⟩, ⟨(some 85), (.mv (.t 5)), none⟩, ⟨(some 86), (.call 23 [(.t 84), (.t 85)]), none⟩, ⟨(some 87), (.faddr 0 (.t 13)), none⟩, ⟨(some 88), (.load false 1 (.t 87)), none⟩, ⟨(some 89), (.bin .neq (.t 88) (.c (.int .i64 8))), none⟩, ⟨(some 90), (.mv (.t 89)), none⟩, ⟨(some 91), (.mv (.t 5)), (some (90, true))⟩, ⟨(some 92), (.bin .geq (.t 91) (.c (.int .i64 0))), (some (90, true))⟩, ⟨(some 93), (.pick (.t 90) (.t 92) (.c (.bool false))), none⟩, ⟨(some 94), (.mv (.t 93)), none⟩, ⟨(some 95), (.mv (.t 5)), (some (94, true))⟩, ⟨(some 96), (.bin .leq (.t 95) (.c (.int .i64 1048576))), (some (94, true))⟩, ⟨(some 97), (.pick (.t 94) (.t 96) (.c (.bool false))), none⟩, ⟨(some 98), (.binb .eql (.t 86) (.t 97)), none⟩, ⟨(some 12), (.mv (.t 98)), none⟩] true) .ret))))))))
/-- The order that the law types out, as it is built. -/
def rawI (kind act item day : Int) : List PV := [pI kind, .nilsl, .nilsl, pI 0, pI 0, pI 0, pI 0, pI 0, pI 0, .str [], .nilsl, .nilsl, .nilsl, .nilsl, .nilsl, .str [], .str [], pI 0, pI 0, .str [], pI act, pI item, pI day, .str [], .nilsl]
theorem law_CommencementLastOrder (a : Sta) (d : EI) (l : List EI) (kind day other : Int) (_ : a.ok) (_ : d.ok) (_ : okL EI.ok l) (hk1 : (Lit.int .u8 kind).wf = true) (_ : i64 day) (_ : i64 other) (hz : l.length * 392 ≤ 140737488351232) :
    PCall Try.prog 8 [.agg a.enc, .agg d.enc, .sl 28 (l.map EI.enc), .int .u8 kind, pI day, pI other] (.bool true) := by
  have hk0 : 0 ≤ kind ∧ kind < 256 := by
    simp [Lit.wf, IntKind.min, IntKind.max, IntKind.signed, IntKind.bits] at hk1
    omega
  have cU : Closed (PV.int .u8 kind) := Closed.of_scalar (scalar_int _ _)
  refine PCall_intro ?_ (cB _) (by simp only [ClosedL, List.mem_cons, List.not_mem_nil, or_false, forall_eq_or_imp, forall_eq, false_implies, implies_true]; exact ⟨closed_agg (Sta.closed _), closed_agg (EI.closed _), closed_eis _, cU, cI _, cI _⟩)
  refine ACall_fn (vc := c_pandectlaw27_CommencementLastOrder) (ts := [.t 12]) Go.Proofs.Try.func8 (by kernel_rfl) rfl rfl (Nat.le_of_ble_eq_true rfl) (by kernel_rfl) ?_
  unfold c_pandectlaw27_CommencementLastOrder
  refine VW_seq (VW_region [2, 3, 4, 5, 6, 7] ?_)
  simp only [OpsW_nil, OpsW_n, StepW, pok, pval, VA.ev, Env.get, Env.put, Env.keep, argEnv, thenQ, PV.cells, PV.fits, Heap.push, Heap.nil, Nat.succ_ne_self, List.length, Nat.reduceEqDiff, Nat.reduceAdd, ite_true, ite_false, true_and, reduceCtorEq, BEq.rfl, Nat.zero_add, Sta.enc, ei_len28]
  refine VW_freeze [(2, .sl 28 (l.map EI.enc)), (3, .int .u8 kind), (4, pI day), (5, pI other), (6, .ro a.enc), (7, .ro d.enc)] ⟨View.refl _ _, View.refl _ _, View.refl _ _, View.refl _ _, View.loc (z := 3) (fz := false) (es := [a.enc]) rfl (by simp) rfl (by simp [Sta.enc]), View.loc (z := 28) (fz := false) (es := [d.enc]) rfl (by simp) rfl (by simp [ei_len28]), trivial⟩ ?_
  try simp only []
  refine VW_seq ?_
  refine VW_seqJ (σ := Unit) [2, 3, 4, 5, 6, 7, 43] (fun _ => ([(2, .sl 28 (l.map EI.enc)), (3, .int .u8 kind), (4, pI day), (5, pI other), (6, .ro a.enc), (7, .ro d.enc), (43, .bool (!fewB (d :: l) || (decide ((100 : Int) < a.event.length) || (decide (d.it.kind < 0) || decide (6 < d.it.kind)))))], ⟨[], 20⟩)) ?_ (fun _ => ?_)
  · simp only [OpsW_n, StepW, pok, pval, VA.ev, Env.get, Env.put, Env.keep, unV, unOk, Heap.le, HL.le, Nat.succ_ne_self, Env.le, List.map, Nat.reduceEqDiff, ite_true, ite_false, true_and, and_true]
    refine ACall_p run.awake ?_
    simp only [OpsW_n, OpsW_y, StepW, pok, pval, VA.ev, Env.get, Env.put, pickV, isBool, aggV, unV, unOk, locCells, locOk, PV.cells, PV.fits, PV.nth, Heap.get, Heap.del, HL.get, HL.del, Heap.push, Nat.le_refl, Nat.succ_ne_self, killed, oldId, oldRows, oldOk, srcRows, srcOk, elemsV, elemsOk, List.map, List.set, List.replicate, List.length, List.take, List.drop, List.take_succ_cons, List.cons_append, List.nil_append, Nat.reduceEqDiff, Nat.reduceAdd, Nat.reduceLT, Bool.false_eq_true, Bool.true_eq_false, ite_true, ite_false, true_and, and_true, BEq.rfl, Nat.zero_add, List.length_cons, imp_self, Bool.not_true, List.length_map, ei_len28, ei_take]
    refine ⟨by omega, by omega, ACall_v [.sl 28 ((d :: l).map EI.enc)] ⟨View.own_all (fz := false) rfl (by simp; omega), trivial⟩ (sp_pandectref27_Few (d :: l) (by simp; omega)) (scalar_bool _) ?_⟩
    cases e1 : fewB (d :: l) with
    | false =>
      try simp only [OpsW_nil, OpsW_n, OpsW_xf, StepW, pok, pval, VA.ev, Env.get, Env.put, pickV, isBool, Nat.succ_ne_self, Nat.reduceEqDiff, Nat.reduceLeDiff, ite_true, ite_false, true_and, and_true, Bool.not_false]
      exact ⟨(), rfl⟩
    | true =>
      cases e2 : decide ((100 : Int) < a.event.length) with
      | true =>
        try simp only [OpsW_nil, OpsW_n, OpsW_y, OpsW_xf, StepW, pok, pval, VA.ev, Env.get, Env.put, pickV, isBool, aggV, intV, binV, binOk, lenV, faddrV, isAddr, locCells, locOk, lenOk, PV.nth, Nat.le_refl, Nat.succ_ne_self, List.length, List.getD_cons_zero, List.take, List.drop, List.take_succ_cons, Nat.reduceEqDiff, Nat.reduceLeDiff, Bool.false_eq_true, ite_true, ite_false, true_and, and_true, implies_true, Nat.zero_add, List.length_cons, Bool.not_true, Sta.enc, e2]
        exact ⟨(), rfl⟩
      | false =>
        cases e3 : decide (d.it.kind < 0) with
        | true =>
          try simp only [OpsW_nil, OpsW_n, OpsW_y, OpsW_xf, StepW, pok, pval, VA.ev, Env.get, Env.put, pickV, isBool, aggV, intV, binV, binOk, lenV, faddrV, isAddr, locCells, locOk, lenOk, PV.nth, Nat.le_refl, Nat.succ_ne_self, List.length, List.getD_cons_zero, List.take, List.drop, List.take_succ_cons, Nat.reduceEqDiff, Nat.reduceLeDiff, Bool.false_eq_true, ite_true, ite_false, true_and, and_true, implies_true, Nat.zero_add, List.length_cons, Bool.not_true, Sta.enc, e2, ei_d3, it_t0, It.enc_len, e3]
          exact ⟨(), rfl⟩
        | false =>
          try simp only [OpsW_nil, OpsW_n, OpsW_y, StepW, pok, pval, VA.ev, Env.get, Env.put, pickV, isBool, aggV, intV, binV, binOk, lenV, faddrV, isAddr, locCells, locOk, lenOk, PV.nth, Nat.le_refl, Nat.succ_ne_self, List.length, List.getD_cons_zero, List.take, List.drop, List.take_succ_cons, Nat.reduceEqDiff, Nat.reduceLeDiff, Bool.false_eq_true, ite_true, ite_false, true_and, and_true, implies_true, Nat.zero_add, List.length_cons, Bool.not_true, Sta.enc, e2, ei_d3, it_t0, It.enc_len, e3]
          exact ⟨(), rfl⟩
  refine VW_cond rfl (fun h1 => ?_) (fun h1 => ?_)
  · refine VW_seq (VW_region [12] ?_)
    simp only [OpsW_nil, OpsW_n, StepW, pok, pval, VA.ev, Env.get, Env.put, Env.keep, thenQ, List.map, Nat.reduceEqDiff, ite_true, ite_false, true_and]
    refine ACall_p run.awake ?_
    try simp only [midQ, OpsW_nil, OpsW_n, OpsW_y, OpsW_xt, OpsW_xf, OpsW_u, StepW, guardOf, DrawW_nil, DrawW_n, DrawW_y, DrawW_xt, DrawW_xf, DrawW_u, DrawH, VOp.isIaddr, QW, dok, dval, VOp.pure, VOp.simple, VOp.det, pok, pval, VA.ev, Env.get, Env.put, Env.keep, argEnv, thenQ, blockQ, retQ, resV, resOk, RS.ev, RS.ok, gd, pickV, isBool, aggV, intV, binV, binOk, strV, binbV, boolV, binbOk, unV, unOk, convV, isInt, isStr, numOf, loV, hiV, lenV, boundOk, sliceV, sliceOk, faddrV, isAddr, locCells, locOk, cellsOfAgg, isAggP, iaddrV, iaddrOk, idxV, idxOk, lenOk, extV, extOk, fillV, fillOk, mmV, PV.cells, PV.fits, overlay, PV.nth, PV.row, lookV, mapRows, mapOk, keysOk, keyOk, keyEq, mapFind, mapPut, mapHas, mapsetV, Heap.get, Heap.set, Heap.del, Heap.le, HL.get, HL.set, HL.del, HL.le, Heap.push, Heap.nil, Nat.le_refl, Nat.add_eq_left, Nat.left_eq_add, Nat.succ_ne_self, Nat.one_ne_zero, Env.le, killed, oldId, oldRows, oldOk, srcRows, srcOk, elemsV, elemsOk, eqOk, ekOk, eqCells, eqCell, storeV, storeOk, AB.live, pxV, pxOk, fxV, fxOk, isPtr, slLike, isNil, notNil, List.map, List.set, List.replicate, List.length, List.getD_cons_zero, List.getD_cons_succ, List.getD_nil, List.take, List.drop, List.take_zero, List.drop_zero, List.take_succ_cons, List.drop_succ_cons, List.append, List.cons_append, List.nil_append, Option.map, Nat.reduceEqDiff, Nat.reduceAdd, Nat.reduceLT, Nat.reduceLeDiff, Nat.reduceSub, Nat.reduceMul, reduceIte, Bool.false_eq_true, Bool.true_eq_false, ite_true, ite_false, if_true, if_false, true_and, and_true, implies_true, forall_const, ne_eq, not_false_eq_true, reduceCtorEq, BEq.rfl, beq_self_eq_true, Option.some.injEq, Nat.zero_add, Nat.add_zero, List.length_cons, List.length_nil, true_implies, imp_self, Int.reduceToNat, Int.toNat_natCast, Bool.not_false, Bool.not_true]
    refine VW_ret ?_
    try simp only [Env.get, thenQ, retQ, resV, resOk, RS.ev, RS.ok, ite_true, true_and, and_true]
    exact View.refl _ _
  simp only [Bool.or_eq_false_iff, Bool.not_eq_false', decide_eq_false_iff_not] at h1
  obtain ⟨hf, h2, h3, h4⟩ := h1
  have h40 := few_len hf
  refine VW_skip ?_
  try simp only [thenQ]
  have hm3 : kind.tmod 3 = 0 ∨ kind.tmod 3 = 1 ∨ kind.tmod 3 = 2 := by rw [Int.tmod_eq_emod_of_nonneg hk0.1]; omega
  refine VW_seq (VW_mid (σ := { k : Int // k = 7 ∨ k = 8 ∨ k = 9 }) (fun s => ([(2, .sl 28 (l.map EI.enc)), (3, .int .u8 kind), (4, pI day), (5, pI other), (6, .ro a.enc), (7, .ro d.enc), (13, .loc 20 0 0)], ⟨[(20, .arr false 25 [rawI s.1 d.act d.item day])], 21⟩)) (VW_draw2E 1000 [2, 3, 4, 5, 6, 7, 13] (by simp) ?_) (fun s => ?_))
  · rcases hm3 with hm3 | hm3 | hm3
    · simp only [midQ, StepW, DrawW_nil, DrawW_n, QW, dok, dval, VOp.pure, VOp.simple, VOp.det, pok, pval, VA.ev, Env.get, Env.put, Env.keep, gd, aggV, intV, binV, binOk, isInt, numOf, lenV, faddrV, isAddr, locCells, locOk, iaddrV, iaddrOk, fillV, fillOk, PV.cells, PV.fits, overlay, PV.nth, PV.row, Heap.get, Heap.set, Heap.le, HL.get, HL.set, HL.del, HL.le, Heap.push, Nat.le_refl, Nat.succ_ne_self, Env.le, elemsV, elemsOk, storeV, storeOk, List.set, List.replicate, List.length, List.getD_cons_zero, List.take, List.drop, List.take_succ_cons, List.drop_succ_cons, List.cons_append, List.nil_append, Nat.reduceEqDiff, Nat.reduceAdd, Nat.reduceLT, Nat.reduceLeDiff, Bool.false_eq_true, ite_true, ite_false, true_and, and_true, implies_true, forall_const, ne_eq, BEq.rfl, Option.some.injEq, Nat.zero_add, List.length_cons, Int.reduceToNat, hm3, ei_t0, ei_t1, ei_l1, ei_len28]
      exact ⟨by omega, by omega, ⟨7, by omega⟩, rfl⟩
    · simp only [midQ, StepW, DrawW_nil, DrawW_n, QW, dok, dval, VOp.pure, VOp.simple, VOp.det, pok, pval, VA.ev, Env.get, Env.put, Env.keep, gd, aggV, intV, binV, binOk, isInt, numOf, lenV, faddrV, isAddr, locCells, locOk, iaddrV, iaddrOk, fillV, fillOk, PV.cells, PV.fits, overlay, PV.nth, PV.row, Heap.get, Heap.set, Heap.le, HL.get, HL.set, HL.del, HL.le, Heap.push, Nat.le_refl, Nat.succ_ne_self, Env.le, elemsV, elemsOk, storeV, storeOk, List.set, List.replicate, List.length, List.getD_cons_zero, List.getD_cons_succ, List.take, List.drop, List.take_succ_cons, List.drop_succ_cons, List.cons_append, List.nil_append, Nat.reduceEqDiff, Nat.reduceAdd, Nat.reduceLT, Nat.reduceLeDiff, Bool.false_eq_true, ite_true, ite_false, true_and, and_true, implies_true, forall_const, ne_eq, BEq.rfl, Option.some.injEq, Nat.zero_add, List.length_cons, Int.reduceToNat, hm3, ei_t0, ei_t1, ei_l1, ei_len28]
      exact ⟨by omega, by omega, ⟨8, by omega⟩, rfl⟩
    · simp only [midQ, StepW, DrawW_nil, DrawW_n, QW, dok, dval, VOp.pure, VOp.simple, VOp.det, pok, pval, VA.ev, Env.get, Env.put, Env.keep, gd, aggV, intV, binV, binOk, isInt, numOf, lenV, faddrV, isAddr, locCells, locOk, iaddrV, iaddrOk, fillV, fillOk, PV.cells, PV.fits, overlay, PV.nth, PV.row, Heap.get, Heap.set, Heap.le, HL.get, HL.set, HL.del, HL.le, Heap.push, Nat.le_refl, Nat.succ_ne_self, Env.le, elemsV, elemsOk, storeV, storeOk, List.set, List.replicate, List.length, List.getD_cons_zero, List.getD_cons_succ, List.take, List.drop, List.take_succ_cons, List.drop_succ_cons, List.cons_append, List.nil_append, Nat.reduceEqDiff, Nat.reduceAdd, Nat.reduceLT, Nat.reduceLeDiff, Bool.false_eq_true, ite_true, ite_false, true_and, and_true, implies_true, forall_const, ne_eq, BEq.rfl, Option.some.injEq, Nat.zero_add, List.length_cons, Int.reduceToNat, hm3, ei_t0, ei_t1, ei_l1, ei_len28]
      exact ⟨by omega, by omega, ⟨9, by omega⟩, rfl⟩
  obtain ⟨k, hk⟩ := s
  simp only [rawI]
  refine VW_seq (VW_mid (σ := { i : Int // i = d.item ∨ i = -1 }) (fun s => ([(2, .sl 28 (l.map EI.enc)), (4, pI day), (5, pI other), (6, .ro a.enc), (7, .ro d.enc), (13, .loc 20 0 0)], ⟨[(20, .arr false 25 [rawI k d.act s.1 day])], 21⟩)) ?_ (fun s => ?_))
  · refine VW_seq (VW_region [2, 4, 5, 6, 7, 13, 58] ?_)
    simp only [OpsW_nil, OpsW_n, StepW, pok, pval, VA.ev, Env.get, Env.put, Env.keep, thenQ, intV, binV, binOk, Nat.succ_ne_self, Nat.reduceEqDiff, ite_true, ite_false, true_and, ne_eq]
    refine ⟨by omega, ?_⟩
    refine VW_cond rfl (fun h2 => ?_) (fun h2 => ?_)
    · refine VW_region [2, 4, 5, 6, 7, 13] ?_
      simp only [midQ, OpsW_nil, OpsW_n, StepW, pok, pval, VA.ev, Env.get, Env.put, Env.keep, faddrV, isAddr, PV.cells, PV.fits, overlay, PV.row, Heap.get, Heap.set, Heap.le, HL.get, HL.set, HL.del, HL.le, Nat.le_refl, Nat.succ_ne_self, Env.le, storeV, storeOk, List.set, List.length, List.getD_cons_zero, List.take, List.drop, List.take_succ_cons, List.drop_succ_cons, List.cons_append, List.nil_append, Nat.reduceEqDiff, Nat.reduceAdd, Nat.reduceLT, Nat.reduceLeDiff, ite_true, ite_false, true_and, and_true, BEq.rfl, Option.some.injEq, Nat.zero_add, List.length_cons]
      exact ⟨⟨-1, .inr rfl⟩, by simp [rawI]⟩
    · refine VW_skip ?_
      try simp only [midQ, Env.get, Heap.get, Heap.le, HL.get, HL.le, Nat.le_refl, Nat.succ_ne_self, Env.le, Nat.reduceEqDiff, ite_true, ite_false, true_and, and_true, Option.some.injEq]
      exact ⟨⟨d.item, .inl rfl⟩, by simp [rawI]⟩
  obtain ⟨it, hit⟩ := s
  simp only []
  refine VW_freeze [(2, .sl 28 (l.map EI.enc)), (4, pI day), (5, pI other), (6, .ro a.enc), (7, .ro d.enc), (13, .ro (rawI k d.act it day))] ⟨View.refl _ _, View.refl _ _, View.refl _ _, View.refl _ _, View.refl _ _, View.loc (z := 25) (fz := false) (es := [rawI k d.act it day]) rfl (by simp) rfl (by simp [rawI]), trivial⟩ ?_
  try simp only []
  refine VW_seq (VW_region [2, 4, 5, 6, 7, 13, 14] ?_)
  simp only [OpsW_nil, OpsW_n, StepW, pok, pval, VA.ev, Env.get, Env.put, Env.keep, thenQ, aggV, locCells, locOk, PV.nth, Nat.le_refl, Nat.succ_ne_self, List.map, List.length, List.getD_cons_zero, List.take, List.take_succ_cons, Nat.reduceEqDiff, Nat.reduceAdd, Bool.true_eq_false, ite_true, ite_false, true_and, and_true, Nat.zero_add, List.length_cons, imp_self, ei_len28, ei_take, Sta.enc]
  refine ACall_p (sp_commencement_InForce a d l (by omega)) ?_
  try simp only [midQ, OpsW_nil, OpsW_n, OpsW_y, OpsW_xt, OpsW_xf, OpsW_u, StepW, guardOf, DrawW_nil, DrawW_n, DrawW_y, DrawW_xt, DrawW_xf, DrawW_u, DrawH, VOp.isIaddr, QW, dok, dval, VOp.pure, VOp.simple, VOp.det, pok, pval, VA.ev, Env.get, Env.put, Env.keep, argEnv, thenQ, blockQ, retQ, resV, resOk, RS.ev, RS.ok, gd, pickV, isBool, aggV, intV, binV, binOk, strV, binbV, boolV, binbOk, unV, unOk, convV, isInt, isStr, numOf, loV, hiV, lenV, boundOk, sliceV, sliceOk, faddrV, isAddr, locCells, locOk, cellsOfAgg, isAggP, iaddrV, iaddrOk, idxV, idxOk, lenOk, extV, extOk, fillV, fillOk, mmV, PV.cells, PV.fits, overlay, PV.nth, PV.row, lookV, mapRows, mapOk, keysOk, keyOk, keyEq, mapFind, mapPut, mapHas, mapsetV, Heap.get, Heap.set, Heap.del, Heap.le, HL.get, HL.set, HL.del, HL.le, Heap.push, Heap.nil, Nat.le_refl, Nat.add_eq_left, Nat.left_eq_add, Nat.succ_ne_self, Nat.one_ne_zero, Env.le, killed, oldId, oldRows, oldOk, srcRows, srcOk, elemsV, elemsOk, eqOk, ekOk, eqCells, eqCell, storeV, storeOk, AB.live, pxV, pxOk, fxV, fxOk, isPtr, slLike, isNil, notNil, List.map, List.set, List.replicate, List.length, List.getD_cons_zero, List.getD_cons_succ, List.getD_nil, List.take, List.drop, List.take_zero, List.drop_zero, List.take_succ_cons, List.drop_succ_cons, List.append, List.cons_append, List.nil_append, Option.map, Nat.reduceEqDiff, Nat.reduceAdd, Nat.reduceLT, Nat.reduceLeDiff, Nat.reduceSub, Nat.reduceMul, reduceIte, Bool.false_eq_true, Bool.true_eq_false, ite_true, ite_false, if_true, if_false, true_and, and_true, implies_true, forall_const, ne_eq, not_false_eq_true, reduceCtorEq, BEq.rfl, beq_self_eq_true, Option.some.injEq, Nat.zero_add, Nat.add_zero, List.length_cons, List.length_nil, true_implies, imp_self, Int.reduceToNat, Int.toNat_natCast, Bool.not_false, Bool.not_true]
  refine VW_seq (VW_draw2C 9 1000 [4, 5, 13, 14, 15] rfl (by simp) ?_)
  simp only [StepW, QW, dok, dval, VOp.pure, VOp.simple, VOp.det, pok, pval, VA.ev, Env.get, Env.put, Env.keep, thenQ, gd, aggV, locCells, locOk, fillV, fillOk, PV.cells, PV.fits, overlay, PV.nth, Heap.get, Heap.del, Heap.le, HL.get, HL.del, HL.le, Heap.push, Nat.le_refl, Nat.succ_ne_self, killed, oldId, oldRows, oldOk, srcRows, srcOk, elemsV, elemsOk, fxV, fxOk, List.map, List.set, List.replicate, List.length, List.getD_cons_zero, List.take, List.drop, List.take_succ_cons, List.drop_succ_cons, List.cons_append, List.nil_append, Nat.reduceEqDiff, Nat.reduceAdd, Nat.reduceLT, Nat.reduceLeDiff, Bool.true_eq_false, ite_true, ite_false, true_and, and_true, implies_true, BEq.rfl, Nat.zero_add, Nat.add_zero, List.length_cons, List.length_nil, imp_self, DrawC_nil, DrawC_at, DrawC_n, Nat.reduceBEq, Nat.reduceAdd, ei_len28, ei_take, Sta.enc, List.length_map, rawI]
  have tk : (l.map EI.enc).take l.length = l.map EI.enc := List.take_of_length_le (by simp)
  have lo := last_order a d (ordE k d.act it day []) l it day other k (by omega) ⟨rfl, rfl, rfl, rfl, hit⟩ (by omega)
  have c1 := (force_canon a d l).1
  have fl := (force_canon a d l).2
  have c2 := (force_canon a d (l ++ [ordE k d.act it day []])).1
  have fl' := (force_canon a d (l ++ [ordE k d.act it day []])).2
  simp only [List.length_append, List.length_cons, List.length_nil] at fl'
  generalize hm : forceS a d (l ++ [ordE k d.act it day []]) = more at lo c2 fl'
  rw [tk]
  refine ⟨by omega, by omega, by simp; omega, by simp; omega, ?_⟩
  refine ACall_f [.agg a.enc, .agg d.enc, .sl 28 ((l ++ [ordE k d.act it day []]).map EI.enc)] ⟨View.refl _ _, View.refl _ _, orders_view (fz := false) (raw := [rawO k d.act it day []]) (by simp [Heap.get, HL.get, rawO]) (by simp) rfl (fun i hi => ?_), trivial⟩ (ACall_p (sp_commencement_InForce a d _ (by simp; omega)) ?_)
  · obtain rfl : i = 0 := by simp at hi; omega
    exact rawO_view _ _ _ _ _ _
  rw [hm]
  generalize forceS a d l = was at lo c1 fl ⊢
  have w1 := sp_dateset_Contains was other (by omega)
  have w2 := sp_dateset_Contains more other (by omega)
  rw [norm_self c1] at w1
  rw [norm_self c2] at w2
  rw [← memB_iff, ← memB_iff] at lo
  try simp only [Nat.reduceLeDiff, true_and]
  refine VW_seq ?_
  refine VW_seq (VW_region [5, 13, 14, 15, 76] ?_)
  simp only [OpsW_nil, OpsW_n, StepW, pok, pval, VA.ev, Env.get, Env.put, Env.keep, thenQ, intV, binV, binOk, Nat.succ_ne_self, Nat.reduceEqDiff, ite_true, ite_false, true_and]
  refine VW_cond rfl (fun h5 => ?_) (fun h5 => ?_)
  · simp only [decide_eq_true_eq] at h5
    refine VW_seq (VW_region [12] ?_)
    simp only [OpsW_nil, OpsW_n, StepW, pok, pval, VA.ev, Env.get, Env.put, Env.keep, thenQ, binbV, boolV, binbOk, Nat.succ_ne_self, List.map, Nat.reduceEqDiff, ite_true, ite_false, true_and]
    refine ACall_p w2 ?_
    try simp only [midQ, OpsW_nil, OpsW_n, OpsW_y, OpsW_xt, OpsW_xf, OpsW_u, StepW, guardOf, DrawW_nil, DrawW_n, DrawW_y, DrawW_xt, DrawW_xf, DrawW_u, DrawH, VOp.isIaddr, QW, dok, dval, VOp.pure, VOp.simple, VOp.det, pok, pval, VA.ev, Env.get, Env.put, Env.keep, argEnv, thenQ, blockQ, retQ, resV, resOk, RS.ev, RS.ok, gd, pickV, isBool, aggV, intV, binV, binOk, strV, binbV, boolV, binbOk, unV, unOk, convV, isInt, isStr, numOf, loV, hiV, lenV, boundOk, sliceV, sliceOk, faddrV, isAddr, locCells, locOk, cellsOfAgg, isAggP, iaddrV, iaddrOk, idxV, idxOk, lenOk, extV, extOk, fillV, fillOk, mmV, PV.cells, PV.fits, overlay, PV.nth, PV.row, lookV, mapRows, mapOk, keysOk, keyOk, keyEq, mapFind, mapPut, mapHas, mapsetV, Heap.get, Heap.set, Heap.del, Heap.le, HL.get, HL.set, HL.del, HL.le, Heap.push, Heap.nil, Nat.le_refl, Nat.add_eq_left, Nat.left_eq_add, Nat.succ_ne_self, Nat.one_ne_zero, Env.le, killed, oldId, oldRows, oldOk, srcRows, srcOk, elemsV, elemsOk, eqOk, ekOk, eqCells, eqCell, storeV, storeOk, AB.live, pxV, pxOk, fxV, fxOk, isPtr, slLike, isNil, notNil, List.map, List.set, List.replicate, List.length, List.getD_cons_zero, List.getD_cons_succ, List.getD_nil, List.take, List.drop, List.take_zero, List.drop_zero, List.take_succ_cons, List.drop_succ_cons, List.append, List.cons_append, List.nil_append, Option.map, Nat.reduceEqDiff, Nat.reduceAdd, Nat.reduceLT, Nat.reduceLeDiff, Nat.reduceSub, Nat.reduceMul, reduceIte, Bool.false_eq_true, Bool.true_eq_false, ite_true, ite_false, if_true, if_false, true_and, and_true, implies_true, forall_const, ne_eq, not_false_eq_true, reduceCtorEq, BEq.rfl, beq_self_eq_true, Option.some.injEq, Nat.zero_add, Nat.add_zero, List.length_cons, List.length_nil, true_implies, imp_self, Int.reduceToNat, Int.toNat_natCast, Bool.not_false, Bool.not_true]
    refine ACall_p w1 ?_
    have hb : memB more other = memB was other := Bool.eq_iff_iff.2 (lo.1 h5)
    rw [hb]
    try simp only [true_and, BEq.rfl, beq_self_eq_true]
    refine VW_ret ?_
    try simp only [Env.get, thenQ, retQ, resV, resOk, RS.ev, RS.ok, ite_true, true_and, and_true]
    exact View.refl _ _
  refine VW_skip ?_
  try simp only [thenQ]
  simp only [decide_eq_false_iff_not] at h5
  have hb : memB more other = (k != 8 && (decide (0 ≤ other) && decide (other ≤ 1048576))) := by
    rw [Bool.eq_iff_iff, lo.2 h5]
    simp
  generalize memB more other = x at hb w2
  refine VW_seq (VW_drawS [12] (by simp [Heap.le, HL.le, Heap.get, HL.get]) ?_)
  simp only [DrawW_n, QW, dok, dval, VOp.pure, VOp.simple, VOp.det, pok, pval, VA.ev, Env.get, Env.put, Env.keep, thenQ, gd, aggV, intV, binV, binOk, faddrV, isAddr, locCells, locOk, PV.nth, Nat.succ_ne_self, List.length, List.getD_cons_zero, List.take, List.drop, List.take_succ_cons, Nat.reduceEqDiff, Nat.reduceAdd, Nat.reduceLeDiff, Bool.false_eq_true, ite_true, ite_false, true_and, and_true, implies_true, forall_const, Nat.zero_add, List.length_cons]
  refine ⟨_, .inl w2, ?_⟩
  try simp only [midQ, OpsW_nil, OpsW_n, OpsW_y, OpsW_xt, OpsW_xf, OpsW_u, StepW, guardOf, DrawW_nil, DrawW_n, DrawW_y, DrawW_xt, DrawW_xf, DrawW_u, DrawH, VOp.isIaddr, QW, dok, dval, VOp.pure, VOp.simple, VOp.det, pok, pval, VA.ev, Env.get, Env.put, Env.keep, argEnv, thenQ, blockQ, retQ, resV, resOk, RS.ev, RS.ok, gd, pickV, isBool, aggV, intV, binV, binOk, strV, binbV, boolV, binbOk, unV, unOk, convV, isInt, isStr, numOf, loV, hiV, lenV, boundOk, sliceV, sliceOk, faddrV, isAddr, locCells, locOk, cellsOfAgg, isAggP, iaddrV, iaddrOk, idxV, idxOk, lenOk, extV, extOk, fillV, fillOk, mmV, PV.cells, PV.fits, overlay, PV.nth, PV.row, lookV, mapRows, mapOk, keysOk, keyOk, keyEq, mapFind, mapPut, mapHas, mapsetV, Heap.get, Heap.set, Heap.del, Heap.le, HL.get, HL.set, HL.del, HL.le, Heap.push, Heap.nil, Nat.le_refl, Nat.add_eq_left, Nat.left_eq_add, Nat.succ_ne_self, Nat.one_ne_zero, Env.le, killed, oldId, oldRows, oldOk, srcRows, srcOk, elemsV, elemsOk, eqOk, ekOk, eqCells, eqCell, storeV, storeOk, AB.live, pxV, pxOk, fxV, fxOk, isPtr, slLike, isNil, notNil, List.map, List.set, List.replicate, List.length, List.getD_cons_zero, List.getD_cons_succ, List.getD_nil, List.take, List.drop, List.take_zero, List.drop_zero, List.take_succ_cons, List.drop_succ_cons, List.append, List.cons_append, List.nil_append, Option.map, Nat.reduceEqDiff, Nat.reduceAdd, Nat.reduceLT, Nat.reduceLeDiff, Nat.reduceSub, Nat.reduceMul, reduceIte, Bool.false_eq_true, Bool.true_eq_false, ite_true, ite_false, if_true, if_false, true_and, and_true, implies_true, forall_const, ne_eq, not_false_eq_true, reduceCtorEq, BEq.rfl, beq_self_eq_true, Option.some.injEq, Nat.zero_add, Nat.add_zero, List.length_cons, List.length_nil, true_implies, imp_self, Int.reduceToNat, Int.toNat_natCast, Bool.not_false, Bool.not_true, rawI]
  cases e1 : k != 8 with
  | false =>
    rw [e1] at hb
    subst hb
    try simp only [DrawW_nil, DrawW_n, DrawW_xt, QW, dok, dval, VOp.pure, VOp.simple, VOp.det, pok, pval, VA.ev, Env.get, Env.put, gd, pickV, isBool, binbV, boolV, binbOk, Nat.succ_ne_self, Nat.reduceEqDiff, Bool.false_eq_true, ite_true, ite_false, true_and, implies_true, e1]
    refine VW_ret ?_
    try simp only [Env.get, retQ, resV, resOk, RS.ev, RS.ok, ite_true, true_and, and_true]
    exact View.refl _ _
  | true =>
    cases e2 : decide (0 ≤ other) with
    | false =>
      rw [e1, e2] at hb
      subst hb
      try simp only [DrawW_nil, DrawW_n, DrawW_y, DrawW_xt, QW, dok, dval, VOp.pure, VOp.simple, VOp.det, pok, pval, VA.ev, Env.get, Env.put, gd, pickV, isBool, intV, binV, binOk, binbV, boolV, binbOk, Nat.succ_ne_self, Nat.reduceEqDiff, Bool.false_eq_true, ite_true, ite_false, true_and, implies_true, e1, e2]
      refine VW_ret ?_
      try simp only [Env.get, retQ, resV, resOk, RS.ev, RS.ok, ite_true, true_and, and_true]
      exact View.refl _ _
    | true =>
      rw [e1, e2] at hb
      simp only [Bool.true_and] at hb
      subst hb
      try simp only [DrawW_nil, DrawW_n, DrawW_y, QW, dok, dval, VOp.pure, VOp.simple, VOp.det, pok, pval, VA.ev, Env.get, Env.put, gd, pickV, isBool, intV, binV, binOk, binbV, boolV, binbOk, Nat.succ_ne_self, Nat.reduceEqDiff, ite_true, ite_false, true_and, implies_true, BEq.rfl, e1, e2, beq_self_eq_true]
      refine VW_ret ?_
      try simp only [Env.get, retQ, resV, resOk, RS.ev, RS.ok, ite_true, true_and, and_true]
      exact View.refl _ _
end Go.Proofs.Ytepmaobfbfbecaa.w
namespace Go.Proofs.Ytepmaobfbfbecaa.rd
open Go Go.VM
theorem rU8 {W : World} (n : Nat) : Reads Try.prog W n 5 (fun a => (Lit.int .u8 a).wf = true) (fun a => [.int .u8 a]) := reads_int Try.underlying5
end Go.Proofs.Ytepmaobfbfbecaa.rd

