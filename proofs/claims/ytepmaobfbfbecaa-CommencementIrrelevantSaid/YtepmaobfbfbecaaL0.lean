/-
  Small laws that the walks of the laws share.
  Walks: the law CommencementIrrelevant.
-/
import Derived.Test.YtepmaobfbfbecaaC1
import Derived.Test.YtepmaobfbfbecaaVmG
set_option linter.all false
namespace Go.Proofs.Ytepmaobfbfbecaa.w
open Go Go.VM
theorem ei_len28 (x : EI) : x.enc.length = 28 := by simp [EI.enc, It.enc_len]
theorem ei_take (x : EI) : List.take 28 x.enc = x.enc := List.take_of_length_le (by rw [ei_len28]; exact Nat.le_refl _)
theorem ei_d3 (x : EI) : List.drop 3 x.enc = x.it.enc := rfl
theorem ei_d20 (x : EI) : List.drop 20 x.enc = List.drop 17 x.it.enc := rfl
theorem ei_t0 (x : EI) : List.take 1 x.enc = [pI x.act] := rfl
theorem ei_t1 (x : EI) : List.take 1 (List.drop 1 x.enc) = [pI x.item] := rfl
theorem ei_t2 (x : EI) : List.take 1 (List.drop 2 x.enc) = [pI x.day] := rfl
theorem ei_l1 (x : EI) : (List.drop 1 x.enc).length = 27 := by simp [ei_len28]
theorem ei_l2 (x : EI) : (List.drop 2 x.enc).length = 26 := by simp [ei_len28]
theorem it_t0 (x : It) : List.take 1 x.enc = [pI x.kind] := by rw [It.enc_eq]; rfl
theorem it_start (x : It) : List.take 3 (List.drop 17 x.enc) = x.start.enc := by rw [It.enc_eq]; rfl
theorem it_l17 (x : It) : (List.drop 17 x.enc).length = 8 := by simp [It.enc_len]
/-- Lists that the laws do not look at. -/
theorem few_len {d : EI} {l : List EI} (h : fewB (d :: l) = true) : l.length ≤ 40 := by
  unfold fewB at h
  simp only [Bool.and_eq_true, decide_eq_true_eq, List.length_cons] at h
  omega
theorem filter_step (p : EI → Bool) {l : List EI} {k : Nat} (ka : k < l.length) : (l.take (k + 1)).filter p = (l.take k).filter p ++ if p l[k] then [l[k]] else [] := by
  rw [List.take_add_one, List.getElem?_eq_getElem ka, List.filter_append]
  simp [List.filter_cons]
theorem filter_le (p : EI → Bool) (l : List EI) (k : Nat) : ((l.take k).filter p).length ≤ l.length :=
  Nat.le_trans (List.length_filter_le ..) (by simp; omega)
end Go.Proofs.Ytepmaobfbfbecaa.w


namespace Go.Proofs.Ytepmaobfbfbecaa.w
open Go Go.VM
set_option maxRecDepth 20000
set_option maxHeartbeats 0
set_option pp.deepTerms false
def c_pandectlaw27_CommencementIrrelevant : VC := (.seq (.region [⟨(some 3), (.box 3 (.t 0)), none⟩, ⟨(some 4), (.box 28 (.t 1)), none⟩, ⟨(some 6), (.mv (.c (.bool false))), none⟩] false) (.seq (.seq (.region [⟨(some 10), (.call 10 []), none⟩, ⟨(some 11), (.un .not (.t 10)), none⟩, ⟨(some 12), (.mv (.t 11)), none⟩, ⟨(some 13), (.load true 28 (.t 4)), (some (12, false))⟩, ⟨(some 14), (.bslice 28 1 [(.int .i64 0), (.int .i64 0), (.int .i64 0), (.int .i64 0), .nilsl, .nilsl, (.int .i64 0), (.int .i64 0), (.int .i64 0), (.int .i64 0), (.int .i64 0), (.int .i64 0), (.str []), .nilsl, .nilsl, .nilsl, .nilsl, .nilsl, (.str []), (.str []), (.int .i64 0), (.int .i64 0), (.str []), (.int .i64 0), (.int .i64 0), (.int .i64 0), (.str []), .nilsl] [(0, (.t 13))]), (some (12, false))⟩, ⟨(some 15), (.mv (.t 2)), (some (12, false))⟩, ⟨(some 16), (.app 28 392 [(.int .i64 0), (.int .i64 0), (.int .i64 0), (.int .i64 0), .nilsl, .nilsl, (.int .i64 0), (.int .i64 0), (.int .i64 0), (.int .i64 0), (.int .i64 0), (.int .i64 0), (.str []), .nilsl, .nilsl, .nilsl, .nilsl, .nilsl, (.str []), (.str []), (.int .i64 0), (.int .i64 0), (.str []), (.int .i64 0), (.int .i64 0), (.int .i64 0), (.str []), .nilsl] false (.t 14) (.t 15)), (some (12, false))⟩, ⟨(some 17), (.call 11 [(.t 16)]), (some (12, false))⟩, ⟨(some 18), (.un .not (.t 17)), (some (12, false))⟩, ⟨(some 19), (.pick (.t 12) (.c (.bool true)) (.t 18)), none⟩, ⟨(some 20), (.mv (.t 19)), none⟩, ⟨(some 21), (.faddr 2 (.t 3)), (some (20, false))⟩, ⟨(some 22), (.load false 1 (.t 21)), (some (20, false))⟩, ⟨(some 23), (.len true (.t 22)), (some (20, false))⟩, ⟨(some 24), (.bin .gtr (.t 23) (.c (.int .i64 100))), (some (20, false))⟩, ⟨(some 25), (.pick (.t 20) (.c (.bool true)) (.t 24)), none⟩] false) (.cond (.t 25) (.seq (.region [⟨(some 26), (.call 10 []), none⟩, ⟨(some 6), (.mv (.t 26)), none⟩] false) .ret) .skip)) (.seq (.region [⟨(some 27), (.fx (.mk0 28) []), none⟩, ⟨(some 7), (.mv (.t 27)), none⟩] false) (.seq (.seq (.region [⟨(some 28), (.mv (.t 2)), none⟩, ⟨(some 29), (.len false (.t 28)), none⟩, ⟨(some 30), (.mv (.c (.int .i64 0))), none⟩] false) (.block 0 (.loop (.seq (.region [⟨(some 31), (.bin .lss (.t 30) (.t 29)), none⟩] false) (.seq (.cond (.t 31) .skip (.exit 0)) (.seq (.block 1 (.seq (.region [⟨(some 32), (.iaddr 28 (.t 28) (.t 30)), none⟩, ⟨(some 33), (.load true 28 (.t 32)), none⟩, ⟨(some 9), (.alloc [(.int .i64 0), (.int .i64 0), (.int .i64 0), (.int .i64 0), .nilsl, .nilsl, (.int .i64 0), (.int .i64 0), (.int .i64 0), (.int .i64 0), (.int .i64 0), (.int .i64 0), (.str []), .nilsl, .nilsl, .nilsl, .nilsl, .nilsl, (.str []), (.str []), (.int .i64 0), (.int .i64 0), (.str []), (.int .i64 0), (.int .i64 0), (.int .i64 0), (.str []), .nilsl]), none⟩, ⟨none, (.store 28 (.t 9) (.t 33)), none⟩] false) (.seq (.region [⟨(some 34), (.faddr 3 (.t 9)), none⟩, ⟨(some 35), (.faddr 0 (.t 34)), none⟩, ⟨(some 36), (.load false 1 (.t 35)), none⟩, ⟨(some 37), (.bin .eql (.t 36) (.c (.int .i64 10))), none⟩, ⟨(some 38), (.mv (.t 37)), none⟩, ⟨(some 39), (.faddr 3 (.t 9)), (some (38, false))⟩, ⟨(some 40), (.load true 25 (.t 39)), (some (38, false))⟩, ⟨(some 41), (.faddr 0 (.t 4)), (some (38, false))⟩, ⟨(some 42), (.load false 1 (.t 41)), (some (38, false))⟩, ⟨(some 43), (.faddr 1 (.t 4)), (some (38, false))⟩, ⟨(some 44), (.load false 1 (.t 43)), (some (38, false))⟩, ⟨(some 45), (.call 19 [(.t 40), (.t 42), (.t 44)]), (some (38, false))⟩, ⟨(some 46), (.pick (.t 38) (.c (.bool true)) (.t 45)), none⟩] false) (.cond (.t 46) (.region [⟨(some 47), (.mv (.t 7)), none⟩, ⟨(some 48), (.load true 28 (.t 9)), none⟩, ⟨(some 49), (.bslice 28 1 [(.int .i64 0), (.int .i64 0), (.int .i64 0), (.int .i64 0), .nilsl, .nilsl, (.int .i64 0), (.int .i64 0), (.int .i64 0), (.int .i64 0), (.int .i64 0), (.int .i64 0), (.str []), .nilsl, .nilsl, .nilsl, .nilsl, .nilsl, (.str []), (.str []), (.int .i64 0), (.int .i64 0), (.str []), (.int .i64 0), (.int .i64 0), (.int .i64 0), (.str []), .nilsl] [(0, (.t 48))]), none⟩, ⟨(some 50), (.app 28 392 [(.int .i64 0), (.int .i64 0), (.int .i64 0), (.int .i64 0), .nilsl, .nilsl, (.int .i64 0), (.int .i64 0), (.int .i64 0), (.int .i64 0), (.int .i64 0), (.int .i64 0), (.str []), .nilsl, .nilsl, .nilsl, .nilsl, .nilsl, (.str []), (.str []), (.int .i64 0), (.int .i64 0), (.str []), (.int .i64 0), (.int .i64 0), (.int .i64 0), (.str []), .nilsl] false (.t 47) (.t 49)), none⟩, ⟨(some 7), (.mv (.t 50)), none⟩] false) .skip)))) (.region [⟨(some 51), (.bin .add (.t 30) (.c (.int .i64 1))), none⟩, ⟨(some 30), (.mv (.t 51)), none⟩] false))))))) (.seq (.region [⟨(some 52), (.load true 3 (.t 3)), none⟩, ⟨(some 53), (.load true 28 (.t 4)), none⟩, ⟨(some 54), (.mv (.t 2)), none⟩, ⟨(some 55), (.call 21 [(.t 52), (.t 53), (.t 54)]), none⟩, ⟨(some 56), (.load true 3 (.t 3)), none⟩, ⟨(some 57), (.load true 28 (.t 4)), none⟩, ⟨(some 58), (.mv (.t 7)), none⟩, ⟨(some 59), (.call 21 [(.t 56), (.t 57), (.t 58)]), none⟩, ⟨(some 60), (.call 16 [(.t 55), (.t 59)]), none⟩, ⟨(some 6), (.mv (.t 60)), none⟩] true) .ret)))))
theorem law_CommencementIrrelevant (a : Sta) (d : EI) (l : List EI) (_ : a.ok) (_ : d.ok) (_ : okL EI.ok l) (hz : l.length * 392 ≤ 140737488351232) :
    PCall Try.prog 5 [.agg a.enc, .agg d.enc, .sl 28 (l.map EI.enc)] (.bool true) := by
  have ed := It.enc_eq d.it
  refine PCall_intro ?_ (cB _) (by simp only [ClosedL, List.mem_cons, List.not_mem_nil, or_false, forall_eq_or_imp, forall_eq, false_implies, implies_true]; repeat' (first | exact cI _ | exact cS _ | exact cB _ | exact closed_fn0 _ | exact closed_nilsl | exact closed_agg (Un.closed _) | exact closed_agg (It.closed _) | exact closed_agg (EI.closed _) | exact closed_agg (Ac.closed _) | exact closed_agg (Wd.closed _) | exact closed_agg (St.closed _) | exact closed_agg (Sta.closed _) | exact closed_eis _ | exact closed_acs _ | exact closed_strs _ | exact closed_map (fun w _ => Wd.closed w) | exact closed_map (fun w _ => St.closed w) | exact closed_map (fun w _ => Un.closed w) | exact closed_map (fun w _ => It.closed w) | exact closed_sc _ | exact closed_sps _ | exact closed_agg (Sp.closed _) | exact closed_ro (EI.closed _) | exact closed_ro (Sta.closed _) | exact closed_ro (It.closed _) | exact closed_ro (by simp only [List.mem_cons, List.not_mem_nil, or_false, forall_eq]; first | exact cI _ | exact cS _ | exact closed_eis _) | refine And.intro ?_ ?_))
  refine ACall_fn (vc := c_pandectlaw27_CommencementIrrelevant) (ts := [.t 6]) Go.Proofs.Try.func5 (by kernel_rfl) rfl rfl (Nat.le_of_ble_eq_true rfl) (by kernel_rfl) ?_
  unfold c_pandectlaw27_CommencementIrrelevant
  refine VW_seq (VW_region [2, 3, 4] ?_)
  simp only [OpsW_nil, OpsW_n, StepW, pok, pval, VA.ev, Env.get, Env.put, Env.keep, argEnv, thenQ, PV.cells, PV.fits, Heap.push, Heap.nil, Nat.succ_ne_self, List.length, Nat.reduceEqDiff, Nat.reduceAdd, ite_true, ite_false, true_and, reduceCtorEq, BEq.rfl, Nat.zero_add, Sta.enc, ei_len28]
  refine VW_seq ?_
  refine VW_seq (VW_region [2, 3, 4, 25] ?_)
  simp only [OpsW_n, StepW, pok, pval, VA.ev, Env.get, Env.put, Env.keep, thenQ, unV, unOk, List.map, Nat.reduceEqDiff, ite_true, ite_false, true_and]
  refine ACall_p run.awake ?_
  simp only [OpsW_n, OpsW_y, StepW, pok, pval, VA.ev, Env.get, Env.put, pickV, isBool, aggV, unV, unOk, locCells, locOk, PV.cells, PV.fits, PV.nth, PV.row, Heap.get, Heap.del, HL.get, HL.del, Heap.push, Nat.le_refl, Nat.succ_ne_self, killed, oldId, oldRows, oldOk, srcRows, srcOk, elemsV, elemsOk, List.map, List.set, List.replicate, List.length, List.getD_cons_zero, List.take, List.drop, List.take_succ_cons, List.cons_append, List.nil_append, Nat.reduceEqDiff, Nat.reduceAdd, Nat.reduceLT, Bool.false_eq_true, Bool.true_eq_false, ite_true, ite_false, true_and, and_true, reduceCtorEq, BEq.rfl, Nat.zero_add, List.length_cons, imp_self, Bool.not_true, List.length_map, ei_len28, ei_take]
  refine ⟨by omega, by omega, ACall_v [.sl 28 ((d :: l).map EI.enc)] ⟨View.own_all (fz := false) rfl (by simp; omega), trivial⟩ (sp_pandectref27_Few (d :: l) (by simp; omega)) (scalar_bool _) ?_⟩
  cases hf : fewB (d :: l) with
  | false =>
    try simp only [OpsW_nil, OpsW_n, OpsW_xf, StepW, pok, pval, VA.ev, Env.get, Env.put, pickV, isBool, Nat.succ_ne_self, Nat.reduceEqDiff, ite_true, ite_false, true_and, Bool.not_false]
    refine VW_cond rfl (fun h1 => ?_) (fun h1 => by cases h1)
    refine VW_seq (VW_region [6] ?_)
    simp only [OpsW_nil, OpsW_n, StepW, pok, pval, VA.ev, Env.get, Env.put, Env.keep, thenQ, List.map, Nat.reduceEqDiff, ite_true, ite_false, true_and]
    refine ACall_p run.awake ?_
    try simp only [OpsW_nil, OpsW_n, OpsW_y, OpsW_xt, OpsW_xf, OpsW_u, StepW, guardOf, DrawW_nil, DrawW_n, DrawW_y, DrawW_xt, DrawW_xf, DrawW_u, DrawH, VOp.isIaddr, QW, dok, dval, VOp.pure, VOp.simple, VOp.det, pok, pval, VA.ev, Env.get, Env.put, Env.keep, argEnv, thenQ, blockQ, retQ, resV, resOk, RS.ev, RS.ok, gd, pickV, isBool, aggV, intV, binV, binOk, strV, binbV, boolV, binbOk, unV, unOk, convV, isInt, isStr, numOf, loV, hiV, lenV, boundOk, sliceV, sliceOk, faddrV, isAddr, locCells, locOk, cellsOfAgg, isAggP, iaddrV, iaddrOk, idxV, idxOk, lenOk, extV, extOk, fillV, fillOk, mmV, PV.cells, PV.fits, overlay, PV.nth, PV.row, lookV, mapRows, mapOk, keysOk, keyOk, keyEq, mapFind, mapPut, mapHas, mapsetV, Heap.get, Heap.set, Heap.del, Heap.le, HL.get, HL.set, HL.del, HL.le, Heap.push, Heap.nil, Nat.le_refl, Nat.add_eq_left, Nat.left_eq_add, Nat.succ_ne_self, Nat.one_ne_zero, Env.le, killed, oldId, oldRows, oldOk, srcRows, srcOk, elemsV, elemsOk, eqOk, ekOk, eqCells, eqCell, storeV, storeOk, AB.live, pxV, pxOk, fxV, fxOk, isPtr, slLike, isNil, notNil, List.map, List.set, List.replicate, List.length, List.getD_cons_zero, List.getD_cons_succ, List.getD_nil, List.take, List.drop, List.take_zero, List.drop_zero, List.take_succ_cons, List.drop_succ_cons, List.append, List.cons_append, List.nil_append, Option.map, Nat.reduceEqDiff, Nat.reduceAdd, Nat.reduceLT, Nat.reduceLeDiff, Nat.reduceSub, Nat.reduceMul, reduceIte, Bool.false_eq_true, Bool.true_eq_false, ite_true, ite_false, if_true, if_false, true_and, and_true, implies_true, forall_const, ne_eq, not_false_eq_true, reduceCtorEq, BEq.rfl, beq_self_eq_true, Option.some.injEq, Nat.zero_add, Nat.add_zero, List.length_cons, List.length_nil, true_implies, imp_self, Int.reduceToNat, Int.toNat_natCast, Bool.not_false, Bool.not_true]
    refine VW_ret ?_
    try simp only [Env.get, thenQ, retQ, resV, resOk, RS.ev, RS.ok, ite_true, true_and, and_true]
    exact View.refl _ _
  | true =>
    try simp only [OpsW_nil, OpsW_n, OpsW_y, StepW, pok, pval, VA.ev, Env.get, Env.put, pickV, isBool, aggV, intV, binV, binOk, lenV, faddrV, isAddr, locCells, locOk, lenOk, PV.nth, PV.row, Heap.get, HL.get, Nat.le_refl, Nat.succ_ne_self, List.length, List.getD_cons_zero, List.take, List.drop, List.take_succ_cons, List.drop_succ_cons, Nat.reduceEqDiff, Nat.reduceLT, Bool.false_eq_true, ite_true, ite_false, true_and, and_true, implies_true, reduceCtorEq, Nat.zero_add, List.length_cons, Bool.not_true]
    refine VW_cond rfl (fun h1 => ?_) (fun h1 => ?_)
    · refine VW_seq (VW_region [6] ?_)
      simp only [OpsW_nil, OpsW_n, StepW, pok, pval, VA.ev, Env.get, Env.put, Env.keep, thenQ, List.map, Nat.reduceEqDiff, ite_true, ite_false, true_and]
      refine ACall_p run.awake ?_
      try simp only [OpsW_nil, OpsW_n, OpsW_y, OpsW_xt, OpsW_xf, OpsW_u, StepW, guardOf, DrawW_nil, DrawW_n, DrawW_y, DrawW_xt, DrawW_xf, DrawW_u, DrawH, VOp.isIaddr, QW, dok, dval, VOp.pure, VOp.simple, VOp.det, pok, pval, VA.ev, Env.get, Env.put, Env.keep, argEnv, thenQ, blockQ, retQ, resV, resOk, RS.ev, RS.ok, gd, pickV, isBool, aggV, intV, binV, binOk, strV, binbV, boolV, binbOk, unV, unOk, convV, isInt, isStr, numOf, loV, hiV, lenV, boundOk, sliceV, sliceOk, faddrV, isAddr, locCells, locOk, cellsOfAgg, isAggP, iaddrV, iaddrOk, idxV, idxOk, lenOk, extV, extOk, fillV, fillOk, mmV, PV.cells, PV.fits, overlay, PV.nth, PV.row, lookV, mapRows, mapOk, keysOk, keyOk, keyEq, mapFind, mapPut, mapHas, mapsetV, Heap.get, Heap.set, Heap.del, Heap.le, HL.get, HL.set, HL.del, HL.le, Heap.push, Heap.nil, Nat.le_refl, Nat.add_eq_left, Nat.left_eq_add, Nat.succ_ne_self, Nat.one_ne_zero, Env.le, killed, oldId, oldRows, oldOk, srcRows, srcOk, elemsV, elemsOk, eqOk, ekOk, eqCells, eqCell, storeV, storeOk, AB.live, pxV, pxOk, fxV, fxOk, isPtr, slLike, isNil, notNil, List.map, List.set, List.replicate, List.length, List.getD_cons_zero, List.getD_cons_succ, List.getD_nil, List.take, List.drop, List.take_zero, List.drop_zero, List.take_succ_cons, List.drop_succ_cons, List.append, List.cons_append, List.nil_append, Option.map, Nat.reduceEqDiff, Nat.reduceAdd, Nat.reduceLT, Nat.reduceLeDiff, Nat.reduceSub, Nat.reduceMul, reduceIte, Bool.false_eq_true, Bool.true_eq_false, ite_true, ite_false, if_true, if_false, true_and, and_true, implies_true, forall_const, ne_eq, not_false_eq_true, reduceCtorEq, BEq.rfl, beq_self_eq_true, Option.some.injEq, Nat.zero_add, Nat.add_zero, List.length_cons, List.length_nil, true_implies, imp_self, Int.reduceToNat, Int.toNat_natCast, Bool.not_false, Bool.not_true]
      refine VW_ret ?_
      try simp only [Env.get, thenQ, retQ, resV, resOk, RS.ev, RS.ok, ite_true, true_and, and_true]
      exact View.refl _ _
    have h40 := few_len hf
    refine VW_skip ?_
    try simp only [thenQ]
    refine VW_seq (VW_region [2, 3, 4, 7] ?_)
    simp only [OpsW_nil, OpsW_n, StepW, pok, pval, VA.ev, Env.get, Env.put, Env.keep, thenQ, Heap.push, Nat.succ_ne_self, fxV, fxOk, List.map, Nat.reduceEqDiff, Nat.reduceAdd, ite_true, ite_false, true_and]
    refine VW_seq ?_
    refine VW_seq (VW_region [2, 3, 4, 7, 28, 29, 30] ?_)
    simp only [OpsW_nil, OpsW_n, StepW, pok, pval, VA.ev, Env.get, Env.put, Env.keep, thenQ, lenV, lenOk, Nat.succ_ne_self, Nat.reduceEqDiff, ite_true, ite_false, true_and, List.length_map]
    refine VW_block ?_
    refine VW_loop (σ := { s : Nat × Nat × Nat // s.1 ≤ l.length ∧ 1 < s.2.1 ∧ s.2.1 < s.2.2 })
      (fun s => ([(2, .sl 28 (l.map EI.enc)), (3, .loc 0 0 0), (4, .loc 1 0 0), (7, .own s.1.2.1 0 ((l.take s.1.1).filter (mattersB d.act d.item)).length), (28, .sl 28 (l.map EI.enc)), (29, pI l.length), (30, pI s.1.1)],
        ⟨[(s.1.2.1, .arr false 28 (((l.take s.1.1).filter (mattersB d.act d.item)).map EI.enc)), (1, .arr false 28 [d.enc]), (0, .arr false 3 [[pI a.kind, pI a.day, .str a.event]])], s.1.2.2⟩)) (fun s => l.length - s.1.1) ⟨(0, 4, 5), by simp⟩ ?_ ?_ ?_
    · simp only [Env.get, Nat.succ_ne_self, Env.le, List.take, Nat.reduceEqDiff, ite_true, ite_false, true_and, and_true]
      exact ⟨rfl, rfl⟩
    · simp only [Heap.get, Heap.le, HL.get, HL.le, Nat.le_refl, Nat.succ_ne_self, List.take, Nat.reduceEqDiff, ite_true, ite_false, true_and, and_true, reduceCtorEq, Option.some.injEq]
      rfl
    rintro ⟨⟨k, id, n⟩, hk, hid, hn⟩
    simp only [] at hk hid hn ⊢
    have qi0 : (id = n) = False := by simp; omega
    have qi1 : (n = id) = False := by simp; omega
    have qi2 : (id = 0) = False := by simp; omega
    have qi3 : (0 = id) = False := by simp; omega
    have qi4 : (n = 0) = False := by simp; omega
    have qi5 : (0 = n) = False := by simp; omega
    have qi6 : (id = 1) = False := by simp; omega
    have qi7 : (1 = id) = False := by simp; omega
    have qi8 : (n = 1) = False := by simp; omega
    have qi9 : (1 = n) = False := by simp; omega
    have qi10 : ∀ j, (n + j = id) = False := fun j => by simp; try omega
    have qi11 : ∀ j, (id = n + j) = False := fun j => by simp; try omega
    have qi12 : ∀ j, (n + (j + 1) = n) = False := fun j => by simp; try omega
    have qi13 : ∀ j, (n = n + (j + 1)) = False := fun j => by simp; try omega
    have qi14 : ∀ j, (n + j = 0) = False := fun j => by simp; try omega
    have qi15 : ∀ j, (0 = n + j) = False := fun j => by simp; try omega
    have qi16 : ∀ j, (n + j = 1) = False := fun j => by simp; try omega
    have qi17 : ∀ j, (1 = n + j) = False := fun j => by simp; try omega
    refine VW_seq (VW_region [2, 3, 4, 7, 28, 29, 30, 31] ?_)
    simp only [OpsW_nil, OpsW_n, StepW, pok, pval, VA.ev, Env.get, Env.put, Env.keep, thenQ, intV, binV, binOk, Heap.get, Heap.le, HL.le, Nat.succ_ne_self, Env.le, Nat.reduceEqDiff, ite_true, ite_false, true_and, and_true]
    refine VW_seq ?_
    refine VW_cond rfl (fun h2 => ?_) (fun h2 => ?_)
    · refine VW_skip ?_
      try simp only [thenQ]
      simp only [decide_eq_true_eq] at h2
      have ka : k < l.length := by omega
      have eo := It.enc_eq l[k].it
      refine VW_seq ?_
      refine VW_block ?_
      refine VW_seq (VW_region [2, 3, 4, 7, 9, 28, 29, 30] ?_)
      simp only [OpsW_nil, OpsW_n, StepW, pok, pval, VA.ev, Env.get, Env.put, Env.keep, thenQ, aggV, isInt, numOf, lenV, locCells, locOk, iaddrV, iaddrOk, PV.cells, PV.fits, overlay, PV.nth, PV.row, Heap.get, Heap.set, HL.get, HL.set, HL.del, Heap.push, Nat.le_refl, Nat.succ_ne_self, storeV, storeOk, List.set, List.length, List.getD_cons_zero, List.take, List.drop, List.drop_succ_cons, List.nil_append, Nat.reduceEqDiff, Nat.reduceAdd, Nat.reduceLT, Bool.true_eq_false, ite_true, ite_false, true_and, and_true, BEq.rfl, Nat.zero_add, imp_self, Int.toNat_natCast, List.length_map, rowm ka, ei_len28, ei_take, List.append_nil, qi0, qi1, qi2, qi3, qi4, qi5, qi6, qi7, qi8, qi9, qi10, qi11, qi12, qi13, qi14, qi15, qi16, qi17]
      repeat (with_reducible refine And.intro ?_ ?_; first | omega | (with_reducible constructor <;> omega) | exact False.elim | exact True.intro)
      have hR := sp_commencement_Refers l[k].it d.act d.item
      have hst := filter_step (mattersB d.act d.item) ka
      have hle := filter_le (mattersB d.act d.item) l k
      generalize (l.take k).filter (mattersB d.act d.item) = F at hst hle ⊢
      have tk : List.take F.length (F.map EI.enc) = F.map EI.enc := List.take_of_length_le (by simp)
      refine VW_seq (VW_region [2, 3, 4, 7, 9, 28, 29, 30, 46] ?_)
      cases e1 : (l[k].it.kind == 10) with
      | true =>
        have hm : mattersB d.act d.item l[k] = true := by unfold mattersB; rw [e1]; rfl
        rw [hm] at hst
        simp only [OpsW_nil, OpsW_n, OpsW_xf, StepW, pok, pval, VA.ev, Env.get, Env.put, Env.keep, thenQ, pickV, isBool, aggV, intV, binV, binOk, faddrV, isAddr, locCells, locOk, PV.nth, PV.row, Heap.get, HL.get, Nat.succ_ne_self, List.length, List.getD_cons_zero, Nat.reduceEqDiff, Nat.reduceLT, Nat.reduceLeDiff, Bool.false_eq_true, ite_true, ite_false, true_and, and_true, implies_true, Nat.zero_add, Nat.add_zero, qi0, qi1, qi2, qi3, qi4, qi5, qi6, qi7, qi8, qi9, qi10, qi11, qi12, qi13, qi14, qi15, qi16, qi17, ei_d3, it_t0, It.enc_len, e1]
        refine VW_cond rfl (fun h3 => ?_) (fun h3 => by cases h3)
        refine VW_region [2, 3, 4, 7, 28, 29, 30] ?_
        simp only [OpsW_nil, OpsW_n, StepW, pok, pval, VA.ev, Env.get, Env.put, Env.keep, thenQ, blockQ, aggV, locCells, locOk, PV.cells, PV.fits, PV.nth, PV.row, Heap.get, Heap.del, HL.get, HL.del, Heap.push, Nat.le_refl, Nat.succ_ne_self, killed, oldId, oldRows, oldOk, srcRows, srcOk, elemsV, elemsOk, List.set, List.replicate, List.length, List.getD_cons_zero, List.take, List.drop, List.take_succ_cons, Nat.reduceEqDiff, Nat.reduceLT, Nat.reduceLeDiff, Bool.true_eq_false, ite_true, ite_false, true_and, and_true, BEq.rfl, Nat.zero_add, List.length_cons, imp_self, qi0, qi1, qi2, qi3, qi4, qi5, qi6, qi7, qi8, qi9, qi10, qi11, qi12, qi13, qi14, qi15, qi16, qi17, ei_len28, ei_take, List.length_map, tk]
        refine ⟨by omega, by omega, ?_⟩
        refine VW_region [2, 3, 4, 7, 28, 29, 30] ?_
        simp only [OpsW_nil, OpsW_n, StepW, pok, pval, VA.ev, Env.get, Env.put, Env.keep, thenQ, intV, binV, binOk, HL.get, Nat.succ_ne_self, Nat.reduceEqDiff, ite_true, ite_false, true_and, and_true, reduceCtorEq, qi0, qi1, qi2, qi3, qi4, qi5, qi6, qi7, qi8, qi9, qi10, qi11, qi12, qi13, qi14, qi15, qi16, qi17, w64 (n := (k : Int) + 1) (by omega) (by omega)]
        refine ⟨⟨(k + 1, n + 2, n + 3), by simp only []; omega, by simp only []; omega, by simp only []; omega⟩, ?_, ?_, ?_⟩
        · rw [hst]; simp
        · rw [hst]; simp
        · simp only []; omega
      | false =>
        have hm : mattersB d.act d.item l[k] = refers l[k].it d.act d.item := by unfold mattersB; rw [e1]; rfl
        rw [hm] at hst
        simp only [OpsW_nil, OpsW_n, OpsW_y, StepW, pok, pval, VA.ev, Env.get, Env.put, Env.keep, thenQ, pickV, isBool, aggV, intV, binV, binOk, faddrV, isAddr, locCells, locOk, PV.nth, PV.row, Heap.get, HL.get, Nat.le_refl, Nat.succ_ne_self, List.map, List.length, List.getD_cons_zero, List.drop, Nat.reduceEqDiff, Nat.reduceLT, Nat.reduceLeDiff, Bool.false_eq_true, Bool.true_eq_false, ite_true, ite_false, true_and, and_true, implies_true, reduceCtorEq, Nat.zero_add, Nat.add_zero, imp_self, qi0, qi1, qi2, qi3, qi4, qi5, qi6, qi7, qi8, qi9, qi10, qi11, qi12, qi13, qi14, qi15, qi16, qi17, ei_d3, it_t0, It.enc_len, e1, ei_t0, ei_t1, ei_l1, ei_len28, it_take]
        refine ACall_p hR ?_
        try simp only [OpsW_nil, OpsW_n, OpsW_y, OpsW_xt, OpsW_xf, OpsW_u, StepW, guardOf, DrawW_nil, DrawW_n, DrawW_y, DrawW_xt, DrawW_xf, DrawW_u, DrawH, VOp.isIaddr, QW, dok, dval, VOp.pure, VOp.simple, VOp.det, pok, pval, VA.ev, Env.get, Env.put, Env.keep, argEnv, thenQ, blockQ, retQ, resV, resOk, RS.ev, RS.ok, gd, pickV, isBool, aggV, intV, binV, binOk, strV, binbV, boolV, binbOk, unV, unOk, convV, isInt, isStr, numOf, loV, hiV, lenV, boundOk, sliceV, sliceOk, faddrV, isAddr, locCells, locOk, cellsOfAgg, isAggP, iaddrV, iaddrOk, idxV, idxOk, lenOk, extV, extOk, fillV, fillOk, mmV, PV.cells, PV.fits, overlay, PV.nth, PV.row, lookV, mapRows, mapOk, keysOk, keyOk, keyEq, mapFind, mapPut, mapHas, mapsetV, Heap.get, Heap.set, Heap.del, Heap.le, HL.get, HL.set, HL.del, HL.le, Heap.push, Heap.nil, Nat.le_refl, Nat.add_eq_left, Nat.left_eq_add, Nat.succ_ne_self, Nat.one_ne_zero, Env.le, killed, oldId, oldRows, oldOk, srcRows, srcOk, elemsV, elemsOk, eqOk, ekOk, eqCells, eqCell, storeV, storeOk, AB.live, pxV, pxOk, fxV, fxOk, isPtr, slLike, isNil, notNil, List.map, List.set, List.replicate, List.length, List.getD_cons_zero, List.getD_cons_succ, List.getD_nil, List.take, List.drop, List.take_zero, List.drop_zero, List.take_succ_cons, List.drop_succ_cons, List.append, List.cons_append, List.nil_append, Option.map, Nat.reduceEqDiff, Nat.reduceAdd, Nat.reduceLT, Nat.reduceLeDiff, Nat.reduceSub, Nat.reduceMul, reduceIte, Bool.false_eq_true, Bool.true_eq_false, ite_true, ite_false, if_true, if_false, true_and, and_true, implies_true, forall_const, ne_eq, not_false_eq_true, reduceCtorEq, BEq.rfl, beq_self_eq_true, Option.some.injEq, Nat.zero_add, Nat.add_zero, List.length_cons, List.length_nil, true_implies, imp_self, Int.reduceToNat, Int.toNat_natCast, Bool.not_false, Bool.not_true, qi0, qi1, qi2, qi3, qi4, qi5, qi6, qi7, qi8, qi9, qi10, qi11, qi12, qi13, qi14, qi15, qi16, qi17]
        refine VW_cond rfl (fun h3 => ?_) (fun h3 => ?_)
        · rw [h3] at hst
          refine VW_region [2, 3, 4, 7, 28, 29, 30] ?_
          simp only [OpsW_nil, OpsW_n, StepW, pok, pval, VA.ev, Env.get, Env.put, Env.keep, thenQ, blockQ, aggV, locCells, locOk, PV.cells, PV.fits, PV.nth, PV.row, Heap.get, Heap.del, HL.get, HL.del, Heap.push, Nat.le_refl, Nat.succ_ne_self, killed, oldId, oldRows, oldOk, srcRows, srcOk, elemsV, elemsOk, List.set, List.replicate, List.length, List.getD_cons_zero, List.take, List.drop, List.take_succ_cons, Nat.reduceEqDiff, Nat.reduceLT, Nat.reduceLeDiff, Bool.true_eq_false, ite_true, ite_false, true_and, and_true, BEq.rfl, Nat.zero_add, List.length_cons, imp_self, qi0, qi1, qi2, qi3, qi4, qi5, qi6, qi7, qi8, qi9, qi10, qi11, qi12, qi13, qi14, qi15, qi16, qi17, ei_len28, ei_take, List.length_map, tk]
          refine ⟨by omega, by omega, ?_⟩
          refine VW_region [2, 3, 4, 7, 28, 29, 30] ?_
          simp only [OpsW_nil, OpsW_n, StepW, pok, pval, VA.ev, Env.get, Env.put, Env.keep, thenQ, intV, binV, binOk, HL.get, Nat.succ_ne_self, Nat.reduceEqDiff, ite_true, ite_false, true_and, and_true, reduceCtorEq, qi0, qi1, qi2, qi3, qi4, qi5, qi6, qi7, qi8, qi9, qi10, qi11, qi12, qi13, qi14, qi15, qi16, qi17, w64 (n := (k : Int) + 1) (by omega) (by omega)]
          refine ⟨⟨(k + 1, n + 2, n + 3), by simp only []; omega, by simp only []; omega, by simp only []; omega⟩, ?_, ?_, ?_⟩
          · rw [hst]; simp
          · rw [hst]; simp
          · simp only []; omega
        · rw [h3] at hst
          refine VW_skip ?_
          try simp only [thenQ, blockQ]
          refine VW_region [2, 3, 4, 7, 28, 29, 30] ?_
          simp only [OpsW_nil, OpsW_n, StepW, pok, pval, VA.ev, Env.get, Env.put, Env.keep, thenQ, intV, binV, binOk, HL.get, Nat.succ_ne_self, Nat.reduceEqDiff, ite_true, ite_false, true_and, and_true, reduceCtorEq, qi0, qi1, qi2, qi3, qi4, qi5, qi6, qi7, qi8, qi9, qi10, qi11, qi12, qi13, qi14, qi15, qi16, qi17, w64 (n := (k : Int) + 1) (by omega) (by omega)]
          refine ⟨⟨(k + 1, id, n + 1), by simp only []; omega, by simp only []; omega, by simp only []; omega⟩, ?_, ?_, ?_⟩
          · rw [hst]; simp
          · rw [hst]; simp [qi0, qi1, qi2, qi3, qi6, qi7]
          · simp only []; omega
    · refine VW_exit ?_
      try simp only [thenQ, blockQ, retQ, ite_true]
      simp only [decide_eq_false_iff_not] at h2
      have e : l.take k = l := List.take_of_length_le (by omega)
      rw [e]
      have hle := filter_le (mattersB d.act d.item) l l.length
      rw [List.take_length] at hle
      have hirr := irrelevant a d l
      generalize l.filter (mattersB d.act d.item) = F at hirr hle ⊢
      have fl1 := (force_canon a d l).2
      have fl2 := (force_canon a d F).2
      refine VW_freeze [(2, .sl 28 (l.map EI.enc)), (3, .ro a.enc), (4, .ro d.enc), (7, .sl 28 (F.map EI.enc))] ⟨View.refl _ _, View.loc (z := 3) (fz := false) (es := [a.enc]) ?_ (by simp) rfl (by simp [Sta.enc]), View.loc (z := 28) (fz := false) (es := [d.enc]) ?_ (by simp) rfl (by simp [ei_len28]), View.own_all (fz := false) ?_ (by simp), trivial⟩ ?_
      · try simp only [Heap.get, HL.get, Nat.succ_ne_self, ite_true, ite_false, Option.some.injEq, qi0, qi1, qi2, qi3, qi4, qi5, qi6, qi7, qi8, qi9, qi10, qi11, qi12, qi13, qi14, qi15, qi16, qi17]
        rfl
      · try simp only [Heap.get, HL.get, ite_true, ite_false, reduceCtorEq, qi0, qi1, qi2, qi3, qi4, qi5, qi6, qi7, qi8, qi9, qi10, qi11, qi12, qi13, qi14, qi15, qi16, qi17]
        try rfl
      · try simp only [Heap.get, HL.get, ite_true, ite_false, qi0, qi1, qi2, qi3, qi4, qi5, qi6, qi7, qi8, qi9, qi10, qi11, qi12, qi13, qi14, qi15, qi16, qi17]
        try rfl
      refine VW_seq (VW_drawS [6] (by simp [Heap.le, HL.le]) ?_)
      simp only [DrawW_nil, DrawW_n, QW, dok, dval, VOp.pure, VOp.simple, VOp.det, pok, pval, VA.ev, Env.get, Env.put, Env.keep, thenQ, gd, aggV, locCells, locOk, PV.nth, Nat.le_refl, Nat.succ_ne_self, List.length, List.getD_cons_zero, List.take, List.take_succ_cons, Nat.reduceEqDiff, Nat.reduceAdd, Bool.true_eq_false, ite_true, ite_false, true_and, and_true, implies_true, forall_const, Nat.zero_add, List.length_cons, imp_self, qi0, qi1, qi2, qi3, qi4, qi5, qi6, qi7, qi8, qi9, qi10, qi11, qi12, qi13, qi14, qi15, qi16, qi17, ei_len28, ei_take, Sta.enc]
      refine ⟨_, .inl (sp_commencement_InForce a d l (by omega)), ?_⟩
      try simp only [OpsW_nil, OpsW_n, OpsW_y, OpsW_xt, OpsW_xf, OpsW_u, StepW, guardOf, DrawW_nil, DrawW_n, DrawW_y, DrawW_xt, DrawW_xf, DrawW_u, DrawH, VOp.isIaddr, QW, dok, dval, VOp.pure, VOp.simple, VOp.det, pok, pval, VA.ev, Env.get, Env.put, Env.keep, argEnv, thenQ, blockQ, retQ, resV, resOk, RS.ev, RS.ok, gd, pickV, isBool, aggV, intV, binV, binOk, strV, binbV, boolV, binbOk, unV, unOk, convV, isInt, isStr, numOf, loV, hiV, lenV, boundOk, sliceV, sliceOk, faddrV, isAddr, locCells, locOk, cellsOfAgg, isAggP, iaddrV, iaddrOk, idxV, idxOk, lenOk, extV, extOk, fillV, fillOk, mmV, PV.cells, PV.fits, overlay, PV.nth, PV.row, lookV, mapRows, mapOk, keysOk, keyOk, keyEq, mapFind, mapPut, mapHas, mapsetV, Heap.get, Heap.set, Heap.del, Heap.le, HL.get, HL.set, HL.del, HL.le, Heap.push, Heap.nil, Nat.le_refl, Nat.add_eq_left, Nat.left_eq_add, Nat.succ_ne_self, Nat.one_ne_zero, Env.le, killed, oldId, oldRows, oldOk, srcRows, srcOk, elemsV, elemsOk, eqOk, ekOk, eqCells, eqCell, storeV, storeOk, AB.live, pxV, pxOk, fxV, fxOk, isPtr, slLike, isNil, notNil, List.map, List.set, List.replicate, List.length, List.getD_cons_zero, List.getD_cons_succ, List.getD_nil, List.take, List.drop, List.take_zero, List.drop_zero, List.take_succ_cons, List.drop_succ_cons, List.append, List.cons_append, List.nil_append, Option.map, Nat.reduceEqDiff, Nat.reduceAdd, Nat.reduceLT, Nat.reduceLeDiff, Nat.reduceSub, Nat.reduceMul, reduceIte, Bool.false_eq_true, Bool.true_eq_false, ite_true, ite_false, if_true, if_false, true_and, and_true, implies_true, forall_const, ne_eq, not_false_eq_true, reduceCtorEq, BEq.rfl, beq_self_eq_true, Option.some.injEq, Nat.zero_add, Nat.add_zero, List.length_cons, List.length_nil, true_implies, imp_self, Int.reduceToNat, Int.toNat_natCast, Bool.not_false, Bool.not_true, qi0, qi1, qi2, qi3, qi4, qi5, qi6, qi7, qi8, qi9, qi10, qi11, qi12, qi13, qi14, qi15, qi16, qi17, ei_len28, ei_take, Sta.enc]
      refine ⟨_, .inl (sp_commencement_InForce a d F (by omega)), ?_⟩
      try simp only [OpsW_nil, OpsW_n, OpsW_y, OpsW_xt, OpsW_xf, OpsW_u, StepW, guardOf, DrawW_nil, DrawW_n, DrawW_y, DrawW_xt, DrawW_xf, DrawW_u, DrawH, VOp.isIaddr, QW, dok, dval, VOp.pure, VOp.simple, VOp.det, pok, pval, VA.ev, Env.get, Env.put, Env.keep, argEnv, thenQ, blockQ, retQ, resV, resOk, RS.ev, RS.ok, gd, pickV, isBool, aggV, intV, binV, binOk, strV, binbV, boolV, binbOk, unV, unOk, convV, isInt, isStr, numOf, loV, hiV, lenV, boundOk, sliceV, sliceOk, faddrV, isAddr, locCells, locOk, cellsOfAgg, isAggP, iaddrV, iaddrOk, idxV, idxOk, lenOk, extV, extOk, fillV, fillOk, mmV, PV.cells, PV.fits, overlay, PV.nth, PV.row, lookV, mapRows, mapOk, keysOk, keyOk, keyEq, mapFind, mapPut, mapHas, mapsetV, Heap.get, Heap.set, Heap.del, Heap.le, HL.get, HL.set, HL.del, HL.le, Heap.push, Heap.nil, Nat.le_refl, Nat.add_eq_left, Nat.left_eq_add, Nat.succ_ne_self, Nat.one_ne_zero, Env.le, killed, oldId, oldRows, oldOk, srcRows, srcOk, elemsV, elemsOk, eqOk, ekOk, eqCells, eqCell, storeV, storeOk, AB.live, pxV, pxOk, fxV, fxOk, isPtr, slLike, isNil, notNil, List.map, List.set, List.replicate, List.length, List.getD_cons_zero, List.getD_cons_succ, List.getD_nil, List.take, List.drop, List.take_zero, List.drop_zero, List.take_succ_cons, List.drop_succ_cons, List.append, List.cons_append, List.nil_append, Option.map, Nat.reduceEqDiff, Nat.reduceAdd, Nat.reduceLT, Nat.reduceLeDiff, Nat.reduceSub, Nat.reduceMul, reduceIte, Bool.false_eq_true, Bool.true_eq_false, ite_true, ite_false, if_true, if_false, true_and, and_true, implies_true, forall_const, ne_eq, not_false_eq_true, reduceCtorEq, BEq.rfl, beq_self_eq_true, Option.some.injEq, Nat.zero_add, Nat.add_zero, List.length_cons, List.length_nil, true_implies, imp_self, Int.reduceToNat, Int.toNat_natCast, Bool.not_false, Bool.not_true]
      refine ⟨_, .inl (sp_pandectref02_Same (forceS a d l) (forceS a d F) (by omega) (by omega)), ?_⟩
      try simp only [OpsW_nil, OpsW_n, OpsW_y, OpsW_xt, OpsW_xf, OpsW_u, StepW, guardOf, DrawW_nil, DrawW_n, DrawW_y, DrawW_xt, DrawW_xf, DrawW_u, DrawH, VOp.isIaddr, QW, dok, dval, VOp.pure, VOp.simple, VOp.det, pok, pval, VA.ev, Env.get, Env.put, Env.keep, argEnv, thenQ, blockQ, retQ, resV, resOk, RS.ev, RS.ok, gd, pickV, isBool, aggV, intV, binV, binOk, strV, binbV, boolV, binbOk, unV, unOk, convV, isInt, isStr, numOf, loV, hiV, lenV, boundOk, sliceV, sliceOk, faddrV, isAddr, locCells, locOk, cellsOfAgg, isAggP, iaddrV, iaddrOk, idxV, idxOk, lenOk, extV, extOk, fillV, fillOk, mmV, PV.cells, PV.fits, overlay, PV.nth, PV.row, lookV, mapRows, mapOk, keysOk, keyOk, keyEq, mapFind, mapPut, mapHas, mapsetV, Heap.get, Heap.set, Heap.del, Heap.le, HL.get, HL.set, HL.del, HL.le, Heap.push, Heap.nil, Nat.le_refl, Nat.add_eq_left, Nat.left_eq_add, Nat.succ_ne_self, Nat.one_ne_zero, Env.le, killed, oldId, oldRows, oldOk, srcRows, srcOk, elemsV, elemsOk, eqOk, ekOk, eqCells, eqCell, storeV, storeOk, AB.live, pxV, pxOk, fxV, fxOk, isPtr, slLike, isNil, notNil, List.map, List.set, List.replicate, List.length, List.getD_cons_zero, List.getD_cons_succ, List.getD_nil, List.take, List.drop, List.take_zero, List.drop_zero, List.take_succ_cons, List.drop_succ_cons, List.append, List.cons_append, List.nil_append, Option.map, Nat.reduceEqDiff, Nat.reduceAdd, Nat.reduceLT, Nat.reduceLeDiff, Nat.reduceSub, Nat.reduceMul, reduceIte, Bool.false_eq_true, Bool.true_eq_false, ite_true, ite_false, if_true, if_false, true_and, and_true, implies_true, forall_const, ne_eq, not_false_eq_true, reduceCtorEq, BEq.rfl, beq_self_eq_true, Option.some.injEq, Nat.zero_add, Nat.add_zero, List.length_cons, List.length_nil, true_implies, imp_self, Int.reduceToNat, Int.toNat_natCast, Bool.not_false, Bool.not_true]
      refine VW_ret ?_
      try simp only [Env.get, retQ, resV, resOk, RS.ev, RS.ok, ite_true, true_and, and_true]
      rw [hirr, decide_eq_true rfl]
      exact View.refl _ _
end Go.Proofs.Ytepmaobfbfbecaa.w

