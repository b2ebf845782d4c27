/-
  Walks: the laws DatesetSplits.
-/
import Derived.Test.YtepmaobfbfbecaaDoorD3
set_option linter.all false
namespace Go.Proofs.YtepmaobfbfbecaaDoor.w
open Go Go.VM
set_option maxRecDepth 20000
set_option maxHeartbeats 0
set_option pp.deepTerms false
def c_pandectlaw02_DatesetSplits : VC := (.seq (.region [⟨(some 6), (.mv (.c (.bool false))), none⟩] false) (.seq (.seq (.region [⟨(some 11), (.call 9 []), none⟩, ⟨(some 12), (.un .not (.t 11)), none⟩] false) (.cond (.t 12) (.seq (.region [⟨(some 6), (.mv (.c (.bool false))), none⟩] false) .ret) .skip)) (.seq (.seq (.region [⟨(some 13), (.mv (.t 0)), none⟩, ⟨(some 14), (.bslice 1 1 [.nilsl] [(0, (.t 13))]), none⟩, ⟨(some 15), (.call 10 [(.t 14)]), none⟩, ⟨(some 16), (.un .not (.t 15)), none⟩] false) (.cond (.t 16) (.seq (.region [⟨(some 6), (.mv (.c (.bool true))), none⟩] false) .ret) .skip)) (.seq (.region [⟨(some 17), (.mv (.t 0)), none⟩, ⟨(some 18), (.mv (.t 1)), none⟩, ⟨(some 19), (.call 11 [(.t 17), (.t 18)]), none⟩, ⟨(some 20), (.mv (.t 0)), none⟩, ⟨(some 21), (.mv (.t 1)), none⟩, ⟨(some 22), (.call 12 [(.t 20), (.t 21)]), none⟩, ⟨(some 7), (.mv (.t 19)), none⟩, ⟨(some 8), (.mv (.t 22)), none⟩] false) (.seq (.seq (.region [⟨(some 23), (.mv (.t 7)), none⟩, ⟨(some 24), (.mv (.t 0)), none⟩, ⟨(some 25), (.mv (.t 1)), none⟩, ⟨(some 26), (.call 14 [(.t 24), (.t 25)]), none⟩, ⟨(some 27), (.call 13 [(.t 23), (.t 26)]), none⟩, ⟨(some 28), (.un .not (.t 27)), none⟩, ⟨(some 29), (.mv (.t 28)), none⟩, ⟨(some 30), (.mv (.t 8)), (some (29, false))⟩, ⟨(some 31), (.mv (.t 0)), (some (29, false))⟩, ⟨(some 32), (.mv (.t 1)), (some (29, false))⟩, ⟨(some 33), (.call 15 [(.t 31), (.t 32)]), (some (29, false))⟩, ⟨(some 34), (.call 13 [(.t 30), (.t 33)]), (some (29, false))⟩, ⟨(some 35), (.un .not (.t 34)), (some (29, false))⟩, ⟨(some 36), (.pick (.t 29) (.c (.bool true)) (.t 35)), none⟩, ⟨(some 37), (.mv (.t 36)), none⟩, ⟨(some 38), (.mv (.t 7)), (some (37, false))⟩, ⟨(some 39), (.call 16 [(.t 38)]), (some (37, false))⟩, ⟨(some 40), (.un .not (.t 39)), (some (37, false))⟩, ⟨(some 41), (.pick (.t 37) (.c (.bool true)) (.t 40)), none⟩, ⟨(some 42), (.mv (.t 41)), none⟩, ⟨(some 43), (.mv (.t 8)), (some (42, false))⟩, ⟨(some 44), (.call 16 [(.t 43)]), (some (42, false))⟩, ⟨(some 45), (.un .not (.t 44)), (some (42, false))⟩, ⟨(some 46), (.pick (.t 42) (.c (.bool true)) (.t 45)), none⟩] false) (.cond (.t 46) (.seq (.region [⟨(some 6), (.mv (.c (.bool false))), none⟩] false) .ret) .skip)) (.seq (.region [⟨(some 47), (.mv (.t 0)), none⟩, ⟨(some 48), (.mv (.t 2)), none⟩, ⟨(some 49), (.call 17 [(.t 47), (.t 48)]), none⟩, ⟨(some 50), (.mv (.t 2)), none⟩, ⟨(some 51), (.bin .geq (.t 50) (.c (.int .i64 0))), none⟩, ⟨(some 52), (.mv (.t 51)), none⟩, ⟨(some 53), (.mv (.t 2)), (some (52, true))⟩, ⟨(some 54), (.bin .leq (.t 53) (.c (.int .i64 1048576))), (some (52, true))⟩, ⟨(some 55), (.pick (.t 52) (.t 54) (.c (.bool false))), none⟩, ⟨(some 9), (.mv (.t 49)), none⟩, ⟨(some 10), (.mv (.t 55)), none⟩] false) (.seq (.region [⟨(some 56), (.mv (.t 7)), none⟩, ⟨(some 57), (.mv (.t 2)), none⟩, ⟨(some 58), (.call 17 [(.t 56), (.t 57)]), none⟩, ⟨(some 59), (.mv (.t 9)), none⟩, ⟨(some 60), (.mv (.t 59)), none⟩, ⟨(some 61), (.mv (.t 2)), (some (60, true))⟩, ⟨(some 62), (.mv (.t 1)), (some (60, true))⟩, ⟨(some 63), (.bin .lss (.t 61) (.t 62)), (some (60, true))⟩, ⟨(some 64), (.pick (.t 60) (.t 63) (.c (.bool false))), none⟩, ⟨(some 65), (.binb .eql (.t 58) (.t 64)), none⟩, ⟨(some 66), (.mv (.t 65)), none⟩, ⟨(some 67), (.mv (.t 8)), (some (66, true))⟩, ⟨(some 68), (.mv (.t 2)), (some (66, true))⟩, ⟨(some 69), (.call 17 [(.t 67), (.t 68)]), (some (66, true))⟩, ⟨(some 70), (.mv (.t 10)), (some (66, true))⟩, ⟨(some 71), (.mv (.t 70)), (some (66, true))⟩, ⟨(some 72), (.mv (.t 2)), (some (71, true))⟩, ⟨(some 73), (.mv (.t 1)), (some (71, true))⟩, ⟨(some 74), (.bin .geq (.t 72) (.t 73)), (some (71, true))⟩, ⟨(some 75), (.mv (.t 74)), (some (71, true))⟩, ⟨(some 76), (.mv (.t 9)), (some (75, false))⟩, ⟨(some 77), (.pick (.t 75) (.c (.bool true)) (.t 76)), (some (71, true))⟩, ⟨(some 78), (.pick (.t 71) (.t 77) (.c (.bool false))), (some (66, true))⟩, ⟨(some 79), (.binb .eql (.t 69) (.t 78)), (some (66, true))⟩, ⟨(some 80), (.pick (.t 66) (.t 79) (.c (.bool false))), none⟩, ⟨(some 6), (.mv (.t 80)), none⟩] false) .ret)))))))
theorem trunc_len' (l : List Sp) (day : Int) : (truncS l day).length ≤ 2 * (l.length + 1) := both_len ctAnd l [⟨0, day⟩]
theorem extend_len' (l : List Sp) (day : Int) : (extendS l day).length ≤ 2 * (2 * (l.length + 1) + 1) := by
  have h := both_len ctOr (truncS l day) [⟨day, 1048577⟩]
  have h2 := trunc_len' l day
  simp only [List.length_cons, List.length_nil] at h
  unfold extendS
  omega
theorem valid_canon {l : List Sp} (h : Canon l) (hl : l.length ≤ 4096) : validB l = true := by
  unfold validB
  rw [(canonB_iff l (-1) (by omega)).2 h, decide_eq_true hl]; rfl
theorem law_DatesetSplits (l : List Sp) (day other : Int) (_ : okL Sp.ok l) (_ : i64 day) (_ : i64 other) (za : l.length * 16 ≤ 140737488351232) :
    PCall Tryd.prog 3 [.sl 2 (l.map Sp.enc), pI day, pI other] (.bool true) := by
  refine PCall_intro ?_ (cB _) (by simp only [ClosedL, List.mem_cons, List.not_mem_nil, or_false, forall_eq_or_imp, forall_eq, false_implies, implies_true]; repeat' (first | exact cI _ | exact cS _ | exact cB _ | exact closed_fn0 _ | exact closed_nilsl | exact closed_agg (Un.closed _) | exact closed_agg (It.closed _) | exact closed_agg (EI.closed _) | exact closed_agg (Ac.closed _) | exact closed_agg (Wd.closed _) | exact closed_agg (St.closed _) | exact closed_agg (Sta.closed _) | exact closed_eis _ | exact closed_acs _ | exact closed_strs _ | exact closed_map (fun w _ => Wd.closed w) | exact closed_map (fun w _ => St.closed w) | exact closed_map (fun w _ => Un.closed w) | exact closed_map (fun w _ => It.closed w) | exact closed_sc _ | exact closed_sps _ | exact closed_agg (Sp.closed _) | exact closed_ro (EI.closed _) | exact closed_ro (Sta.closed _) | exact closed_ro (It.closed _) | exact closed_ro (by simp only [List.mem_cons, List.not_mem_nil, or_false, forall_eq]; first | exact cI _ | exact cS _ | exact closed_eis _) | refine And.intro ?_ ?_))
  refine ACall_fn (vc := c_pandectlaw02_DatesetSplits) (ts := [.t 6]) Go.Proofs.Tryd.func3 (by kernel_rfl) rfl rfl (Nat.le_of_ble_eq_true rfl) (by kernel_rfl) ?_
  unfold c_pandectlaw02_DatesetSplits
  refine VW_seq (VW_region [0, 1, 2] ?_)
  simp only [OpsW_nil, OpsW_n, StepW, pok, pval, VA.ev, Env.get, Env.put, Env.keep, argEnv, thenQ, Heap.nil, Nat.succ_ne_self, Nat.reduceEqDiff, Nat.reduceAdd, ite_true, ite_false, true_and, reduceCtorEq, Nat.zero_add]
  refine VW_seq ?_
  refine VW_seq (VW_region [0, 1, 2, 12] ?_)
  simp only [OpsW_nil, OpsW_n, StepW, pok, pval, VA.ev, Env.get, Env.put, Env.keep, thenQ, unV, unOk, Nat.succ_ne_self, List.map, Nat.reduceEqDiff, ite_true, ite_false, reduceCtorEq]
  refine ACall_p awake ?_
  simp only [true_and, Bool.not_true]
  refine VW_cond rfl (fun h1 => by cases h1) (fun _ => ?_)
  refine VW_skip ?_
  try simp only [thenQ]
  refine VW_seq ?_
  refine VW_seq (VW_region [0, 1, 2, 16] ?_)
  simp only [OpsW_nil, OpsW_n, StepW, pok, pval, VA.ev, Env.get, Env.put, Env.keep, thenQ, unV, unOk, PV.cells, PV.fits, Heap.push, Nat.succ_ne_self, elemsV, elemsOk, List.map, List.set, List.replicate, Nat.reduceEqDiff, Nat.reduceLT, ite_true, ite_false, true_and, and_true, reduceCtorEq, BEq.rfl, Nat.zero_add]
  refine few_call [l] (by simp) (by intro x hl; simp at hl; rcases hl with rfl; omega) rfl rfl rfl ?_
  try simp only [true_and]
  refine VW_cond rfl (fun h2 => ?_) (fun h2 => ?_)
  · refine VW_seq (VW_region [6] ?_)
    simp only [OpsW_nil, OpsW_n, StepW, pok, pval, VA.ev, Env.get, Env.put, Env.keep, thenQ, Nat.reduceEqDiff, ite_true, ite_false, true_and, reduceCtorEq]
    refine VW_ret ?_
    try simp only [Env.get, thenQ, retQ, resV, resOk, RS.ev, RS.ok, ite_true, true_and, and_true]
    exact View.refl _ _
  have ht : total [l] ≤ 60 := by simpa using h2
  have ht' : l.length ≤ 60 := by simpa [total] using ht
  have lt := trunc_len' l day
  have le := extend_len' l day
  have ct := (trunc_spec l day).1
  have ce := (extend_spec l day).1
  have vt := valid_canon ct (by omega)
  have ve := valid_canon ce (by omega)
  have xt := chi_trunc l day other
  have xe := chi_extend l day other
  unfold chi at xt xe
  refine VW_skip ?_
  try simp only [thenQ]
  refine VW_seq (VW_region [0, 1, 2, 7, 8] ?_)
  simp only [OpsW_nil, OpsW_n, StepW, pok, pval, VA.ev, Env.get, Env.put, Env.keep, thenQ, Nat.succ_ne_self, List.map, Nat.reduceEqDiff, ite_true, ite_false, true_and, reduceCtorEq]
  refine ACall_p (sp_dateset_Truncate l day (by omega)) ?_
  try simp only [OpsW_nil, OpsW_n, OpsW_y, OpsW_xt, OpsW_xf, OpsW_u, StepW, guardOf, DrawW_nil, DrawW_n, DrawW_y, DrawW_xt, DrawW_xf, DrawW_u, DrawH, VOp.isIaddr, QW, dok, dval, VOp.pure, VOp.simple, VOp.det, pok, pval, VA.ev, Env.get, Env.put, Env.keep, argEnv, thenQ, blockQ, retQ, resV, resOk, RS.ev, RS.ok, gd, pickV, isBool, aggV, intV, binV, binOk, strV, binbV, boolV, binbOk, unV, unOk, convV, isInt, isStr, numOf, loV, hiV, lenV, boundOk, sliceV, sliceOk, faddrV, isAddr, locCells, locOk, cellsOfAgg, isAggP, iaddrV, iaddrOk, idxV, idxOk, lenOk, extV, extOk, fillV, fillOk, mmV, PV.cells, PV.fits, overlay, PV.nth, PV.row, lookV, mapRows, mapOk, keysOk, keyOk, keyEq, mapFind, mapPut, mapHas, mapsetV, Heap.get, Heap.set, Heap.del, Heap.le, HL.get, HL.set, HL.del, HL.le, Heap.push, Heap.nil, Nat.le_refl, Nat.add_eq_left, Nat.left_eq_add, Nat.succ_ne_self, Nat.one_ne_zero, Env.le, killed, oldId, oldRows, oldOk, srcRows, srcOk, elemsV, elemsOk, eqOk, ekOk, eqCells, eqCell, storeV, storeOk, AB.live, pxV, pxOk, fxV, fxOk, isPtr, slLike, isNil, notNil, List.map, List.set, List.replicate, List.length, List.getD_cons_zero, List.getD_cons_succ, List.getD_nil, List.take, List.drop, List.take_zero, List.drop_zero, List.take_succ_cons, List.drop_succ_cons, List.append, List.cons_append, List.nil_append, Option.map, Nat.reduceEqDiff, Nat.reduceAdd, Nat.reduceLT, Nat.reduceLeDiff, Nat.reduceSub, Nat.reduceMul, reduceIte, Bool.false_eq_true, Bool.true_eq_false, ite_true, ite_false, if_true, if_false, true_and, and_true, implies_true, forall_const, ne_eq, not_false_eq_true, reduceCtorEq, BEq.rfl, beq_self_eq_true, Option.some.injEq, Nat.zero_add, Nat.add_zero, List.length_cons, List.length_nil, true_implies, imp_self, Int.reduceToNat, Int.toNat_natCast, Bool.not_false, Bool.not_true]
  refine ACall_p (sp_dateset_ExtendFrom l day (by omega) (by omega)) ?_
  try simp only [OpsW_nil, OpsW_n, OpsW_y, OpsW_xt, OpsW_xf, OpsW_u, StepW, guardOf, DrawW_nil, DrawW_n, DrawW_y, DrawW_xt, DrawW_xf, DrawW_u, DrawH, VOp.isIaddr, QW, dok, dval, VOp.pure, VOp.simple, VOp.det, pok, pval, VA.ev, Env.get, Env.put, Env.keep, argEnv, thenQ, blockQ, retQ, resV, resOk, RS.ev, RS.ok, gd, pickV, isBool, aggV, intV, binV, binOk, strV, binbV, boolV, binbOk, unV, unOk, convV, isInt, isStr, numOf, loV, hiV, lenV, boundOk, sliceV, sliceOk, faddrV, isAddr, locCells, locOk, cellsOfAgg, isAggP, iaddrV, iaddrOk, idxV, idxOk, lenOk, extV, extOk, fillV, fillOk, mmV, PV.cells, PV.fits, overlay, PV.nth, PV.row, lookV, mapRows, mapOk, keysOk, keyOk, keyEq, mapFind, mapPut, mapHas, mapsetV, Heap.get, Heap.set, Heap.del, Heap.le, HL.get, HL.set, HL.del, HL.le, Heap.push, Heap.nil, Nat.le_refl, Nat.add_eq_left, Nat.left_eq_add, Nat.succ_ne_self, Nat.one_ne_zero, Env.le, killed, oldId, oldRows, oldOk, srcRows, srcOk, elemsV, elemsOk, eqOk, ekOk, eqCells, eqCell, storeV, storeOk, AB.live, pxV, pxOk, fxV, fxOk, isPtr, slLike, isNil, notNil, List.map, List.set, List.replicate, List.length, List.getD_cons_zero, List.getD_cons_succ, List.getD_nil, List.take, List.drop, List.take_zero, List.drop_zero, List.take_succ_cons, List.drop_succ_cons, List.append, List.cons_append, List.nil_append, Option.map, Nat.reduceEqDiff, Nat.reduceAdd, Nat.reduceLT, Nat.reduceLeDiff, Nat.reduceSub, Nat.reduceMul, reduceIte, Bool.false_eq_true, Bool.true_eq_false, ite_true, ite_false, if_true, if_false, true_and, and_true, implies_true, forall_const, ne_eq, not_false_eq_true, reduceCtorEq, BEq.rfl, beq_self_eq_true, Option.some.injEq, Nat.zero_add, Nat.add_zero, List.length_cons, List.length_nil, true_implies, imp_self, Int.reduceToNat, Int.toNat_natCast, Bool.not_false, Bool.not_true]
  refine VW_seq ?_
  refine VW_seq (VW_region [0, 1, 2, 7, 8, 46] ?_)
  simp only [OpsW_n, StepW, pok, pval, VA.ev, Env.get, Env.put, Env.keep, thenQ, unV, unOk, Nat.succ_ne_self, List.map, Nat.reduceEqDiff, ite_true, ite_false, true_and, reduceCtorEq]
  refine ACall_p (sp_pandectref02_Until l day (by omega)) ?_
  rw [untilR_eq]
  try simp only [OpsW_nil, OpsW_n, OpsW_y, OpsW_xt, OpsW_xf, OpsW_u, StepW, guardOf, DrawW_nil, DrawW_n, DrawW_y, DrawW_xt, DrawW_xf, DrawW_u, DrawH, VOp.isIaddr, QW, dok, dval, VOp.pure, VOp.simple, VOp.det, pok, pval, VA.ev, Env.get, Env.put, Env.keep, argEnv, thenQ, blockQ, retQ, resV, resOk, RS.ev, RS.ok, gd, pickV, isBool, aggV, intV, binV, binOk, strV, binbV, boolV, binbOk, unV, unOk, convV, isInt, isStr, numOf, loV, hiV, lenV, boundOk, sliceV, sliceOk, faddrV, isAddr, locCells, locOk, cellsOfAgg, isAggP, iaddrV, iaddrOk, idxV, idxOk, lenOk, extV, extOk, fillV, fillOk, mmV, PV.cells, PV.fits, overlay, PV.nth, PV.row, lookV, mapRows, mapOk, keysOk, keyOk, keyEq, mapFind, mapPut, mapHas, mapsetV, Heap.get, Heap.set, Heap.del, Heap.le, HL.get, HL.set, HL.del, HL.le, Heap.push, Heap.nil, Nat.le_refl, Nat.add_eq_left, Nat.left_eq_add, Nat.succ_ne_self, Nat.one_ne_zero, Env.le, killed, oldId, oldRows, oldOk, srcRows, srcOk, elemsV, elemsOk, eqOk, ekOk, eqCells, eqCell, storeV, storeOk, AB.live, pxV, pxOk, fxV, fxOk, isPtr, slLike, isNil, notNil, List.map, List.set, List.replicate, List.length, List.getD_cons_zero, List.getD_cons_succ, List.getD_nil, List.take, List.drop, List.take_zero, List.drop_zero, List.take_succ_cons, List.drop_succ_cons, List.append, List.cons_append, List.nil_append, Option.map, Nat.reduceEqDiff, Nat.reduceAdd, Nat.reduceLT, Nat.reduceLeDiff, Nat.reduceSub, Nat.reduceMul, reduceIte, Bool.false_eq_true, Bool.true_eq_false, ite_true, ite_false, if_true, if_false, true_and, and_true, implies_true, forall_const, ne_eq, not_false_eq_true, reduceCtorEq, BEq.rfl, beq_self_eq_true, Option.some.injEq, Nat.zero_add, Nat.add_zero, List.length_cons, List.length_nil, true_implies, imp_self, Int.reduceToNat, Int.toNat_natCast, Bool.not_false, Bool.not_true]
  refine ACall_p (sp_pandectref02_Same _ _ (by omega) (by omega)) ?_
  try simp only [OpsW_n, OpsW_y, StepW, pok, pval, VA.ev, Env.get, Env.put, pickV, isBool, unV, unOk, Nat.succ_ne_self, List.map, Nat.reduceEqDiff, Bool.false_eq_true, ite_true, ite_false, true_and, reduceCtorEq, Bool.not_true, decide_true]
  refine ACall_p (sp_pandectref02_Since l day (by omega) (by rw [untilR_eq]; omega)) ?_
  rw [sinceR_eq]
  try simp only [OpsW_nil, OpsW_n, OpsW_y, OpsW_xt, OpsW_xf, OpsW_u, StepW, guardOf, DrawW_nil, DrawW_n, DrawW_y, DrawW_xt, DrawW_xf, DrawW_u, DrawH, VOp.isIaddr, QW, dok, dval, VOp.pure, VOp.simple, VOp.det, pok, pval, VA.ev, Env.get, Env.put, Env.keep, argEnv, thenQ, blockQ, retQ, resV, resOk, RS.ev, RS.ok, gd, pickV, isBool, aggV, intV, binV, binOk, strV, binbV, boolV, binbOk, unV, unOk, convV, isInt, isStr, numOf, loV, hiV, lenV, boundOk, sliceV, sliceOk, faddrV, isAddr, locCells, locOk, cellsOfAgg, isAggP, iaddrV, iaddrOk, idxV, idxOk, lenOk, extV, extOk, fillV, fillOk, mmV, PV.cells, PV.fits, overlay, PV.nth, PV.row, lookV, mapRows, mapOk, keysOk, keyOk, keyEq, mapFind, mapPut, mapHas, mapsetV, Heap.get, Heap.set, Heap.del, Heap.le, HL.get, HL.set, HL.del, HL.le, Heap.push, Heap.nil, Nat.le_refl, Nat.add_eq_left, Nat.left_eq_add, Nat.succ_ne_self, Nat.one_ne_zero, Env.le, killed, oldId, oldRows, oldOk, srcRows, srcOk, elemsV, elemsOk, eqOk, ekOk, eqCells, eqCell, storeV, storeOk, AB.live, pxV, pxOk, fxV, fxOk, isPtr, slLike, isNil, notNil, List.map, List.set, List.replicate, List.length, List.getD_cons_zero, List.getD_cons_succ, List.getD_nil, List.take, List.drop, List.take_zero, List.drop_zero, List.take_succ_cons, List.drop_succ_cons, List.append, List.cons_append, List.nil_append, Option.map, Nat.reduceEqDiff, Nat.reduceAdd, Nat.reduceLT, Nat.reduceLeDiff, Nat.reduceSub, Nat.reduceMul, reduceIte, Bool.false_eq_true, Bool.true_eq_false, ite_true, ite_false, if_true, if_false, true_and, and_true, implies_true, forall_const, ne_eq, not_false_eq_true, reduceCtorEq, BEq.rfl, beq_self_eq_true, Option.some.injEq, Nat.zero_add, Nat.add_zero, List.length_cons, List.length_nil, true_implies, imp_self, Int.reduceToNat, Int.toNat_natCast, Bool.not_false, Bool.not_true]
  refine ACall_p (sp_pandectref02_Same _ _ (by omega) (by omega)) ?_
  try simp only [OpsW_n, OpsW_y, StepW, pok, pval, VA.ev, Env.get, Env.put, pickV, isBool, unV, unOk, Nat.succ_ne_self, List.map, Nat.reduceEqDiff, Bool.false_eq_true, ite_true, ite_false, true_and, reduceCtorEq, Bool.not_true, decide_true]
  refine ACall_p (sp_dateset_Valid (truncS l day) (by omega)) ?_
  try simp only [OpsW_nil, OpsW_n, OpsW_y, StepW, pok, pval, VA.ev, Env.get, Env.put, pickV, isBool, unV, unOk, Nat.succ_ne_self, List.map, Nat.reduceEqDiff, Bool.false_eq_true, ite_true, ite_false, true_and, reduceCtorEq, Bool.not_true, vt]
  refine ACall_p (sp_dateset_Valid (extendS l day) (by omega)) ?_
  try simp only [true_and, Bool.not_true, ve]
  refine VW_cond rfl (fun h3 => by cases h3) (fun _ => ?_)
  refine VW_skip ?_
  try simp only [thenQ]
  have hw : decide (day ≤ other) = !decide (other < day) := by rw [Bool.eq_iff_iff]; simp
  rw [hw] at xe
  have hC := sp_dateset_Contains l other (by omega)
  generalize memB (normS l) other = m at xt xe hC
  refine VW_seqJ (σ := Unit) [1, 2, 7, 8, 9, 10] (fun _ => ([(1, pI day), (2, pI other), (7, .sl 2 ((truncS l day).map Sp.enc)), (8, .sl 2 ((extendS l day).map Sp.enc)), (9, .bool m), (10, .bool (decide (0 ≤ other) && decide (other ≤ 1048576)))], ⟨[], 100⟩)) ?_ (fun _ => ?_)
  · simp only [OpsW_n, StepW, pok, pval, VA.ev, Env.get, Env.put, Env.keep, intV, binV, binOk, Heap.le, HL.le, Nat.succ_ne_self, Env.le, List.map, Nat.reduceEqDiff, ite_true, ite_false, true_and, and_true, reduceCtorEq]
    refine ACall_p hC ?_
    cases e1 : decide (0 ≤ other) with
    | false =>
      try simp only [OpsW_nil, OpsW_n, OpsW_xt, StepW, pok, pval, VA.ev, Env.get, Env.put, pickV, isBool, Nat.succ_ne_self, Nat.reduceEqDiff, Nat.reduceLeDiff, Bool.false_eq_true, ite_true, ite_false, true_and, and_true, reduceCtorEq, e1]
      exact ⟨(), by first | trivial | rfl⟩
    | true =>
      try simp only [OpsW_nil, OpsW_n, OpsW_y, StepW, pok, pval, VA.ev, Env.get, Env.put, pickV, isBool, intV, binV, binOk, Nat.succ_ne_self, Nat.reduceEqDiff, Nat.reduceLeDiff, ite_true, ite_false, true_and, and_true, reduceCtorEq, e1]
      exact ⟨(), by first | trivial | rfl⟩
  generalize (decide (0 ≤ other) && decide (other ≤ 1048576)) = v at xe ⊢
  have hT := sp_dateset_Contains (truncS l day) other (by omega)
  have hE := sp_dateset_Contains (extendS l day) other (by omega)
  rw [xt] at hT
  rw [xe] at hE
  refine VW_seq (VW_region [6] ?_)
  cases e3 : decide (other < day) with
  | false =>
    rw [e3] at hT hE hw
    cases m with
    | false =>
      cases v with
      | false =>
        simp only [OpsW_n, OpsW_xt, StepW, pok, pval, VA.ev, Env.get, Env.put, Env.keep, thenQ, pickV, isBool, binbV, boolV, binbOk, Nat.succ_ne_self, List.map, Nat.reduceEqDiff, Bool.false_eq_true, ite_true, ite_false, true_and]
        refine ACall_p hT ?_
        try simp only [OpsW_nil, OpsW_n, OpsW_y, OpsW_xt, OpsW_u, StepW, pok, pval, VA.ev, Env.get, Env.put, pickV, isBool, binbV, boolV, binbOk, Nat.succ_ne_self, List.map, Nat.reduceEqDiff, Bool.false_eq_true, ite_true, ite_false, true_and, BEq.rfl, Bool.and_false, Bool.false_and]
        refine ACall_p hE ?_
        try simp only [true_and, BEq.rfl, Bool.not_false, Bool.false_and]
        refine VW_ret ?_
        try simp only [Env.get, retQ, resV, resOk, RS.ev, RS.ok, ite_true, true_and, and_true]
        exact View.refl _ _
      | true =>
        simp only [OpsW_n, OpsW_xt, StepW, pok, pval, VA.ev, Env.get, Env.put, Env.keep, thenQ, pickV, isBool, binbV, boolV, binbOk, Nat.succ_ne_self, List.map, Nat.reduceEqDiff, Bool.false_eq_true, ite_true, ite_false, true_and]
        refine ACall_p hT ?_
        try simp only [OpsW_y, StepW, pok, pval, VA.ev, Env.get, Env.put, intV, binV, binOk, Nat.succ_ne_self, List.map, Nat.reduceEqDiff, ite_true, ite_false, true_and, BEq.rfl, Bool.and_false]
        refine ACall_p hE ?_
        try simp only [OpsW_nil, OpsW_n, OpsW_y, OpsW_xf, StepW, pok, pval, VA.ev, Env.get, Env.put, pickV, isBool, binbV, boolV, binbOk, Nat.succ_ne_self, Nat.reduceEqDiff, ite_true, ite_false, true_and, BEq.rfl, Bool.not_false, hw, Bool.true_and, Bool.true_or]
        refine VW_ret ?_
        try simp only [Env.get, retQ, resV, resOk, RS.ev, RS.ok, ite_true, true_and, and_true]
        exact View.refl _ _
    | true =>
      cases v with
      | false =>
        simp only [OpsW_n, OpsW_y, StepW, pok, pval, VA.ev, Env.get, Env.put, Env.keep, thenQ, pickV, isBool, intV, binV, binOk, binbV, boolV, binbOk, Nat.succ_ne_self, List.map, Nat.reduceEqDiff, ite_true, ite_false, true_and, e3]
        refine ACall_p hT ?_
        try simp only [OpsW_nil, OpsW_n, OpsW_y, OpsW_xt, OpsW_u, StepW, pok, pval, VA.ev, Env.get, Env.put, pickV, isBool, binbV, boolV, binbOk, Nat.succ_ne_self, List.map, Nat.reduceEqDiff, Bool.false_eq_true, ite_true, ite_false, true_and, BEq.rfl, Bool.and_false, e3]
        refine ACall_p hE ?_
        try simp only [true_and, BEq.rfl, Bool.not_false, Bool.false_and]
        refine VW_ret ?_
        try simp only [Env.get, retQ, resV, resOk, RS.ev, RS.ok, ite_true, true_and, and_true]
        exact View.refl _ _
      | true =>
        simp only [OpsW_n, OpsW_y, StepW, pok, pval, VA.ev, Env.get, Env.put, Env.keep, thenQ, pickV, isBool, intV, binV, binOk, binbV, boolV, binbOk, Nat.succ_ne_self, List.map, Nat.reduceEqDiff, ite_true, ite_false, true_and, e3]
        refine ACall_p hT ?_
        try simp only [OpsW_y, StepW, pok, pval, VA.ev, Env.get, Env.put, intV, binV, binOk, Nat.succ_ne_self, List.map, Nat.reduceEqDiff, ite_true, ite_false, true_and, BEq.rfl, Bool.and_false, e3]
        refine ACall_p hE ?_
        try simp only [OpsW_nil, OpsW_n, OpsW_y, OpsW_xf, StepW, pok, pval, VA.ev, Env.get, Env.put, pickV, isBool, binbV, boolV, binbOk, Nat.succ_ne_self, Nat.reduceEqDiff, ite_true, ite_false, true_and, BEq.rfl, Bool.not_false, hw, Bool.true_and, Bool.true_or]
        refine VW_ret ?_
        try simp only [Env.get, retQ, resV, resOk, RS.ev, RS.ok, ite_true, true_and, and_true]
        exact View.refl _ _
  | true =>
    rw [e3] at hT hE hw
    cases m with
    | false =>
      cases v with
      | false =>
        simp only [OpsW_n, OpsW_xt, StepW, pok, pval, VA.ev, Env.get, Env.put, Env.keep, thenQ, pickV, isBool, binbV, boolV, binbOk, Nat.succ_ne_self, List.map, Nat.reduceEqDiff, Bool.false_eq_true, ite_true, ite_false, true_and]
        refine ACall_p hT ?_
        try simp only [OpsW_nil, OpsW_n, OpsW_y, OpsW_xt, OpsW_u, StepW, pok, pval, VA.ev, Env.get, Env.put, pickV, isBool, binbV, boolV, binbOk, Nat.succ_ne_self, List.map, Nat.reduceEqDiff, Bool.false_eq_true, ite_true, ite_false, true_and, BEq.rfl, Bool.false_and]
        refine ACall_p hE ?_
        try simp only [true_and, BEq.rfl, Bool.not_true, Bool.false_and]
        refine VW_ret ?_
        try simp only [Env.get, retQ, resV, resOk, RS.ev, RS.ok, ite_true, true_and, and_true]
        exact View.refl _ _
      | true =>
        simp only [OpsW_n, OpsW_xt, StepW, pok, pval, VA.ev, Env.get, Env.put, Env.keep, thenQ, pickV, isBool, binbV, boolV, binbOk, Nat.succ_ne_self, List.map, Nat.reduceEqDiff, Bool.false_eq_true, ite_true, ite_false, true_and]
        refine ACall_p hT ?_
        try simp only [OpsW_y, StepW, pok, pval, VA.ev, Env.get, Env.put, intV, binV, binOk, Nat.succ_ne_self, List.map, Nat.reduceEqDiff, ite_true, ite_false, true_and, BEq.rfl, Bool.false_and]
        refine ACall_p hE ?_
        try simp only [OpsW_nil, OpsW_n, OpsW_y, StepW, pok, pval, VA.ev, Env.get, Env.put, pickV, isBool, binbV, boolV, binbOk, Nat.succ_ne_self, Nat.reduceEqDiff, Bool.false_eq_true, ite_true, ite_false, true_and, BEq.rfl, Bool.not_true, hw, Bool.true_and, Bool.false_or, Bool.or_false]
        refine VW_ret ?_
        try simp only [Env.get, retQ, resV, resOk, RS.ev, RS.ok, ite_true, true_and, and_true]
        exact View.refl _ _
    | true =>
      cases v with
      | false =>
        simp only [OpsW_n, OpsW_y, StepW, pok, pval, VA.ev, Env.get, Env.put, Env.keep, thenQ, pickV, isBool, intV, binV, binOk, binbV, boolV, binbOk, Nat.succ_ne_self, List.map, Nat.reduceEqDiff, ite_true, ite_false, true_and, e3]
        refine ACall_p hT ?_
        try simp only [OpsW_nil, OpsW_n, OpsW_y, OpsW_xt, OpsW_u, StepW, pok, pval, VA.ev, Env.get, Env.put, pickV, isBool, binbV, boolV, binbOk, Nat.succ_ne_self, List.map, Nat.reduceEqDiff, Bool.false_eq_true, ite_true, ite_false, true_and, BEq.rfl, Bool.true_and, e3]
        refine ACall_p hE ?_
        try simp only [true_and, BEq.rfl, Bool.not_true, Bool.false_and]
        refine VW_ret ?_
        try simp only [Env.get, retQ, resV, resOk, RS.ev, RS.ok, ite_true, true_and, and_true]
        exact View.refl _ _
      | true =>
        simp only [OpsW_n, OpsW_y, StepW, pok, pval, VA.ev, Env.get, Env.put, Env.keep, thenQ, pickV, isBool, intV, binV, binOk, binbV, boolV, binbOk, Nat.succ_ne_self, List.map, Nat.reduceEqDiff, ite_true, ite_false, true_and, e3]
        refine ACall_p hT ?_
        try simp only [OpsW_y, StepW, pok, pval, VA.ev, Env.get, Env.put, intV, binV, binOk, Nat.succ_ne_self, List.map, Nat.reduceEqDiff, ite_true, ite_false, true_and, BEq.rfl, Bool.true_and, e3]
        refine ACall_p hE ?_
        try simp only [OpsW_nil, OpsW_n, OpsW_y, StepW, pok, pval, VA.ev, Env.get, Env.put, pickV, isBool, binbV, boolV, binbOk, Nat.succ_ne_self, Nat.reduceEqDiff, Bool.false_eq_true, ite_true, ite_false, true_and, BEq.rfl, Bool.not_true, hw, Bool.true_and, Bool.or_true]
        refine VW_ret ?_
        try simp only [Env.get, retQ, resV, resOk, RS.ev, RS.ok, ite_true, true_and, and_true]
        exact View.refl _ _
end Go.Proofs.YtepmaobfbfbecaaDoor.w

