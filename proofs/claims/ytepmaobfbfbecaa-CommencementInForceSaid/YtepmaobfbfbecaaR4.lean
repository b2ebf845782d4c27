/-
  Walks: pandectref27.Spans.
  Walks: the laws CommencementInitial, CommencementInForce.
-/
import Derived.Test.YtepmaobfbfbecaaC1
set_option linter.all false
namespace Go.Proofs.Ytepmaobfbfbecaa.w
open Go Go.VM
set_option maxRecDepth 20000
set_option maxHeartbeats 0
set_option pp.deepTerms false
def c_pandectref27_Spans : VC := (.seq (.region [⟨(some 3), (.box 3 (.t 0)), none⟩, ⟨(some 4), (.box 28 (.t 1)), none⟩, ⟨(some 6), (.mv (.c .nilsl)), none⟩] false) (.seq (.seq (.region [⟨(some 10), (.faddr 3 (.t 4)), none⟩, ⟨(some 11), (.faddr 0 (.t 10)), none⟩, ⟨(some 12), (.load false 1 (.t 11)), none⟩, ⟨(some 13), (.bin .lss (.t 12) (.c (.int .i64 0))), none⟩, ⟨(some 14), (.mv (.t 13)), none⟩, ⟨(some 15), (.faddr 3 (.t 4)), (some (14, false))⟩, ⟨(some 16), (.faddr 0 (.t 15)), (some (14, false))⟩, ⟨(some 17), (.load false 1 (.t 16)), (some (14, false))⟩, ⟨(some 18), (.bin .gtr (.t 17) (.c (.int .i64 6))), (some (14, false))⟩, ⟨(some 19), (.pick (.t 14) (.c (.bool true)) (.t 18)), none⟩] false) (.cond (.t 19) (.seq (.region [⟨(some 20), (.fx (.mk0 2) []), none⟩, ⟨(some 6), (.mv (.t 20)), none⟩] false) .ret) .skip)) (.seq (.region [⟨(some 21), (.load true 3 (.t 3)), none⟩, ⟨(some 22), (.faddr 3 (.t 4)), none⟩, ⟨(some 23), (.faddr 17 (.t 22)), none⟩, ⟨(some 24), (.load true 3 (.t 23)), none⟩, ⟨(some 25), (.call 15 [(.t 21), (.t 24)]), none⟩, ⟨(some 26), (.mv (.t 2)), none⟩, ⟨(some 27), (.call 18 [(.t 25), (.t 26)]), none⟩, ⟨(some 7), (.mv (.t 27)), none⟩] false) (.seq (.seq (.region [⟨(some 8), (.mv (.c (.int .i64 0))), none⟩] false) (.block 0 (.loop (.seq (.seq (.region [⟨(some 28), (.mv (.t 8)), none⟩, ⟨(some 29), (.mv (.t 2)), none⟩, ⟨(some 30), (.len false (.t 29)), none⟩, ⟨(some 31), (.bin .lss (.t 28) (.t 30)), none⟩] false) (.cond (.t 31) .skip (.exit 0))) (.seq (.block 1 (.seq (.region [⟨(some 34), (.mv (.t 2)), none⟩, ⟨(some 35), (.mv (.t 8)), none⟩, ⟨(some 36), (.iaddr 28 (.t 34) (.t 35)), none⟩, ⟨(some 37), (.faddr 3 (.t 36)), none⟩, ⟨(some 38), (.load true 25 (.t 37)), none⟩, ⟨(some 9), (.alloc [(.int .i64 0), .nilsl, .nilsl, (.int .i64 0), (.int .i64 0), (.int .i64 0), (.int .i64 0), (.int .i64 0), (.int .i64 0), (.str []), .nilsl, .nilsl, .nilsl, .nilsl, .nilsl, (.str []), (.str []), (.int .i64 0), (.int .i64 0), (.str []), (.int .i64 0), (.int .i64 0), (.int .i64 0), (.str []), .nilsl]), none⟩, ⟨none, (.store 25 (.t 9) (.t 38)), none⟩] false) (.seq (.seq (.region [⟨(some 39), (.load true 25 (.t 9)), none⟩, ⟨(some 40), (.faddr 0 (.t 4)), none⟩, ⟨(some 41), (.load false 1 (.t 40)), none⟩, ⟨(some 42), (.faddr 1 (.t 4)), none⟩, ⟨(some 43), (.load false 1 (.t 42)), none⟩, ⟨(some 44), (.call 20 [(.t 39), (.t 41), (.t 43)]), none⟩, ⟨(some 45), (.un .not (.t 44)), none⟩] false) (.cond (.t 45) (.exit 1) .skip)) (.seq (.seq (.region [⟨(some 46), (.faddr 0 (.t 9)), none⟩, ⟨(some 47), (.load false 1 (.t 46)), none⟩, ⟨(some 48), (.bin .eql (.t 47) (.c (.int .i64 7))), none⟩, ⟨(some 49), (.mv (.t 48)), none⟩, ⟨(some 50), (.faddr 0 (.t 9)), (some (49, false))⟩, ⟨(some 51), (.load false 1 (.t 50)), (some (49, false))⟩, ⟨(some 52), (.bin .eql (.t 51) (.c (.int .i64 9))), (some (49, false))⟩, ⟨(some 53), (.pick (.t 49) (.c (.bool true)) (.t 52)), none⟩] false) (.cond (.t 53) (.region [⟨(some 54), (.mv (.t 7)), none⟩, ⟨(some 55), (.faddr 22 (.t 9)), none⟩, ⟨(some 56), (.load false 1 (.t 55)), none⟩, ⟨(some 57), (.call 34 [(.t 54), (.t 56)]), none⟩, ⟨(some 7), (.mv (.t 57)), none⟩] false) .skip)) (.seq (.region [⟨(some 58), (.faddr 0 (.t 9)), none⟩, ⟨(some 59), (.load false 1 (.t 58)), none⟩, ⟨(some 60), (.bin .eql (.t 59) (.c (.int .i64 8))), none⟩] false) (.cond (.t 60) (.region [⟨(some 61), (.mv (.t 7)), none⟩, ⟨(some 62), (.faddr 22 (.t 9)), none⟩, ⟨(some 63), (.load false 1 (.t 62)), none⟩, ⟨(some 64), (.call 35 [(.t 61), (.t 63)]), none⟩, ⟨(some 7), (.mv (.t 64)), none⟩] false) .skip)))))) (.region [⟨(some 32), (.mv (.t 8)), none⟩, ⟨(some 33), (.bin .add (.t 32) (.c (.int .i64 1))), none⟩, ⟨(some 8), (.mv (.t 33)), none⟩] false)))))) (.seq (.region [⟨(some 65), (.mv (.t 7)), none⟩, ⟨(some 6), (.mv (.t 65)), none⟩] false) .ret)))))
theorem sp_pandectref27_Spans (a : Sta) (d : EI) (l : List EI) (hl : l.length ≤ 5000) : PCall Try.prog 24 [.agg a.enc, .agg d.enc, .sl 28 (l.map EI.enc)] (.sl 2 ((forceS a d l).map Sp.enc)) := by
  refine PCall_intro ?_ (closed_sps _) (by simp only [ClosedL, List.mem_cons, List.not_mem_nil, or_false, forall_eq_or_imp, forall_eq, false_implies, implies_true]; repeat' (first | exact cI _ | exact cS _ | exact cB _ | exact closed_fn0 _ | exact closed_nilsl | exact closed_agg (Un.closed _) | exact closed_agg (It.closed _) | exact closed_agg (EI.closed _) | exact closed_agg (Ac.closed _) | exact closed_agg (Wd.closed _) | exact closed_agg (St.closed _) | exact closed_agg (Sta.closed _) | exact closed_eis _ | exact closed_acs _ | exact closed_strs _ | exact closed_map (fun w _ => Wd.closed w) | exact closed_map (fun w _ => St.closed w) | exact closed_map (fun w _ => Un.closed w) | exact closed_map (fun w _ => It.closed w) | exact closed_sc _ | exact closed_sps _ | exact closed_agg (Sp.closed _) | exact closed_ro (EI.closed _) | exact closed_ro (Sta.closed _) | exact closed_ro (It.closed _) | exact closed_ro (by simp only [List.mem_cons, List.not_mem_nil, or_false, forall_eq]; first | exact cI _ | exact cS _ | exact closed_eis _) | refine And.intro ?_ ?_))
  refine ACall_fn (vc := c_pandectref27_Spans) (ts := [.t 6]) Go.Proofs.Try.func24 (by kernel_rfl) rfl rfl (Nat.le_of_ble_eq_true rfl) (by kernel_rfl) ?_
  unfold c_pandectref27_Spans
  refine VW_seq (VW_region [2, 3, 4] ?_)
  simp only [OpsW_nil, OpsW_n, StepW, pok, pval, VA.ev, Env.get, Env.put, Env.keep, argEnv, thenQ, PV.cells, PV.fits, Heap.push, Heap.nil, Nat.succ_ne_self, List.length, Nat.reduceEqDiff, Nat.reduceAdd, ite_true, ite_false, true_and, reduceCtorEq, BEq.rfl, Nat.zero_add, Sta.enc, ei_len28]
  refine VW_freeze [(2, .sl 28 (l.map EI.enc)), (3, .ro a.enc), (4, .ro d.enc)] ⟨View.refl _ _, View.loc (z := 3) (fz := false) (es := [a.enc]) rfl (by simp) rfl (by simp [Sta.enc]), View.loc (z := 28) (fz := false) (es := [d.enc]) rfl (by simp) rfl (by simp [ei_len28]), trivial⟩ ?_
  try simp only []
  refine VW_seq ?_
  refine VW_seqJ (σ := Unit) [2, 3, 4, 19] (fun _ => ([(2, .sl 28 (l.map EI.enc)), (3, .ro a.enc), (4, .ro d.enc), (19, .bool (decide (d.it.kind < 0) || decide (6 < d.it.kind)))], ⟨[], 2⟩)) ?_ (fun _ => ?_)
  · cases e1 : decide (d.it.kind < 0) with
    | true =>
      simp only [OpsW_nil, OpsW_n, OpsW_xf, StepW, pok, pval, VA.ev, Env.get, Env.put, Env.keep, pickV, isBool, aggV, intV, binV, binOk, faddrV, isAddr, locCells, locOk, PV.nth, Heap.le, HL.le, Nat.le_refl, Nat.succ_ne_self, Env.le, List.getD_cons_zero, List.drop, Nat.reduceEqDiff, Nat.reduceLeDiff, Bool.false_eq_true, ite_true, ite_false, true_and, and_true, implies_true, ei_d3, it_t0, It.enc_len, e1]
      exact ⟨(), by first | trivial | rfl⟩
    | false =>
      simp only [OpsW_nil, OpsW_n, OpsW_y, StepW, pok, pval, VA.ev, Env.get, Env.put, Env.keep, pickV, isBool, aggV, intV, binV, binOk, faddrV, isAddr, locCells, locOk, PV.nth, Heap.le, HL.le, Nat.le_refl, Nat.succ_ne_self, Env.le, List.getD_cons_zero, List.drop, Nat.reduceEqDiff, Nat.reduceLeDiff, Bool.false_eq_true, ite_true, ite_false, true_and, and_true, implies_true, ei_d3, it_t0, It.enc_len, e1]
      exact ⟨(), by first | trivial | rfl⟩
  refine VW_cond rfl (fun h1 => ?_) (fun h1 => ?_)
  · refine VW_seq (VW_region [6] ?_)
    simp only [OpsW_nil, OpsW_n, StepW, pok, pval, VA.ev, Env.get, Env.put, Env.keep, thenQ, Heap.push, fxV, fxOk, List.map, Nat.reduceEqDiff, Nat.reduceAdd, ite_true, ite_false, true_and]
    refine VW_ret ?_
    try simp only [Env.get, thenQ, retQ, resV, resOk, RS.ev, RS.ok, ite_true, true_and, and_true]
    have e : forceS a d l = [] := if_pos (by simpa using h1)
    rw [e]; exact View.own_all (fz := false) rfl rfl
  simp only [Bool.or_eq_false_iff, decide_eq_false_iff_not] at h1
  have hF : forceS a d l = l.foldl (turnS d.act d.item) (initS (ruleS a d.it.start) l) := if_neg (by omega)
  refine VW_skip ?_
  try simp only [thenQ]
  refine VW_seq (VW_region [2, 4, 7] ?_)
  simp only [OpsW_nil, OpsW_n, StepW, pok, pval, VA.ev, Env.get, Env.put, Env.keep, thenQ, aggV, faddrV, isAddr, locCells, locOk, PV.nth, Nat.le_refl, Nat.succ_ne_self, List.map, List.length, List.getD_cons_zero, List.take, List.take_succ_cons, Nat.reduceEqDiff, Nat.reduceAdd, Nat.reduceLeDiff, Bool.true_eq_false, ite_true, ite_false, true_and, and_true, Nat.zero_add, List.length_cons, imp_self, ei_d3, ei_d20, it_start, it_l17, It.enc_len, Sta.enc]
  refine ACall_p (sp_pandectref27_Rule a d.it.start) ?_
  try simp only [midQ, OpsW_nil, OpsW_n, OpsW_y, OpsW_xt, OpsW_xf, OpsW_u, StepW, guardOf, DrawW_nil, DrawW_n, DrawW_y, DrawW_xt, DrawW_xf, DrawW_u, DrawH, VOp.isIaddr, QW, dok, dval, VOp.pure, VOp.simple, VOp.det, pok, pval, VA.ev, Env.get, Env.put, Env.keep, argEnv, thenQ, blockQ, retQ, resV, resOk, RS.ev, RS.ok, gd, pickV, isBool, aggV, intV, binV, binOk, strV, binbV, boolV, binbOk, unV, unOk, convV, isInt, isStr, numOf, loV, hiV, lenV, boundOk, sliceV, sliceOk, faddrV, isAddr, locCells, locOk, cellsOfAgg, isAggP, iaddrV, iaddrOk, idxV, idxOk, lenOk, extV, extOk, fillV, fillOk, mmV, PV.cells, PV.fits, overlay, PV.nth, PV.row, lookV, mapRows, mapOk, keysOk, keyOk, keyEq, mapFind, mapPut, mapHas, mapsetV, Heap.get, Heap.set, Heap.del, Heap.le, HL.get, HL.set, HL.del, HL.le, Heap.push, Heap.nil, Nat.le_refl, Nat.add_eq_left, Nat.left_eq_add, Nat.succ_ne_self, Nat.one_ne_zero, Env.le, killed, oldId, oldRows, oldOk, srcRows, srcOk, elemsV, elemsOk, eqOk, ekOk, eqCells, eqCell, storeV, storeOk, AB.live, pxV, pxOk, fxV, fxOk, isPtr, slLike, isNil, notNil, List.map, List.set, List.replicate, List.length, List.getD_cons_zero, List.getD_cons_succ, List.getD_nil, List.take, List.drop, List.take_zero, List.drop_zero, List.take_succ_cons, List.drop_succ_cons, List.append, List.cons_append, List.nil_append, Option.map, Nat.reduceEqDiff, Nat.reduceAdd, Nat.reduceLT, Nat.reduceLeDiff, Nat.reduceSub, Nat.reduceMul, reduceIte, Bool.false_eq_true, Bool.true_eq_false, ite_true, ite_false, if_true, if_false, true_and, and_true, implies_true, forall_const, ne_eq, not_false_eq_true, reduceCtorEq, BEq.rfl, beq_self_eq_true, Option.some.injEq, Nat.zero_add, Nat.add_zero, List.length_cons, List.length_nil, true_implies, imp_self, Int.reduceToNat, Int.toNat_natCast, Bool.not_false, Bool.not_true]
  refine ACall_p (sp_pandectref27_Begins (ruleS a d.it.start) l (by omega)) ?_
  try simp only [midQ, OpsW_nil, OpsW_n, OpsW_y, OpsW_xt, OpsW_xf, OpsW_u, StepW, guardOf, DrawW_nil, DrawW_n, DrawW_y, DrawW_xt, DrawW_xf, DrawW_u, DrawH, VOp.isIaddr, QW, dok, dval, VOp.pure, VOp.simple, VOp.det, pok, pval, VA.ev, Env.get, Env.put, Env.keep, argEnv, thenQ, blockQ, retQ, resV, resOk, RS.ev, RS.ok, gd, pickV, isBool, aggV, intV, binV, binOk, strV, binbV, boolV, binbOk, unV, unOk, convV, isInt, isStr, numOf, loV, hiV, lenV, boundOk, sliceV, sliceOk, faddrV, isAddr, locCells, locOk, cellsOfAgg, isAggP, iaddrV, iaddrOk, idxV, idxOk, lenOk, extV, extOk, fillV, fillOk, mmV, PV.cells, PV.fits, overlay, PV.nth, PV.row, lookV, mapRows, mapOk, keysOk, keyOk, keyEq, mapFind, mapPut, mapHas, mapsetV, Heap.get, Heap.set, Heap.del, Heap.le, HL.get, HL.set, HL.del, HL.le, Heap.push, Heap.nil, Nat.le_refl, Nat.add_eq_left, Nat.left_eq_add, Nat.succ_ne_self, Nat.one_ne_zero, Env.le, killed, oldId, oldRows, oldOk, srcRows, srcOk, elemsV, elemsOk, eqOk, ekOk, eqCells, eqCell, storeV, storeOk, AB.live, pxV, pxOk, fxV, fxOk, isPtr, slLike, isNil, notNil, List.map, List.set, List.replicate, List.length, List.getD_cons_zero, List.getD_cons_succ, List.getD_nil, List.take, List.drop, List.take_zero, List.drop_zero, List.take_succ_cons, List.drop_succ_cons, List.append, List.cons_append, List.nil_append, Option.map, Nat.reduceEqDiff, Nat.reduceAdd, Nat.reduceLT, Nat.reduceLeDiff, Nat.reduceSub, Nat.reduceMul, reduceIte, Bool.false_eq_true, Bool.true_eq_false, ite_true, ite_false, if_true, if_false, true_and, and_true, implies_true, forall_const, ne_eq, not_false_eq_true, reduceCtorEq, BEq.rfl, beq_self_eq_true, Option.some.injEq, Nat.zero_add, Nat.add_zero, List.length_cons, List.length_nil, true_implies, imp_self, Int.reduceToNat, Int.toNat_natCast, Bool.not_false, Bool.not_true]
  have hc0 := initS_canon (ruleS a d.it.start) l
  have hn0 := initS_len (ruleS a d.it.start) l
  generalize initS (ruleS a d.it.start) l = s0 at hF hc0 hn0 ⊢
  have hp := fun k => force_prefix d.act d.item s0 hc0 (l.take k)
  refine VW_seq ?_
  refine VW_seq (VW_region [2, 4, 7, 8] ?_)
  simp only [OpsW_nil, OpsW_n, StepW, pok, pval, VA.ev, Env.get, Env.put, Env.keep, thenQ, Nat.succ_ne_self, Nat.reduceEqDiff, ite_true, ite_false, true_and]
  refine VW_block ?_
  refine VW_loop (σ := { s : Nat × Nat // s.1 ≤ l.length }) (fun s => ([(2, .sl 28 (l.map EI.enc)), (4, .ro d.enc), (7, .sl 2 (((l.take s.1.1).foldl (turnS d.act d.item) s0).map Sp.enc)), (8, pI s.1.1)], ⟨[], s.1.2⟩)) (fun s => l.length - s.1.1) ⟨(0, 2), by simp⟩ ?_ ?_ ?_
  · simp only [Env.get, Nat.succ_ne_self, Env.le, List.take, Nat.reduceEqDiff, ite_true, ite_false, true_and, and_true]
    exact ⟨rfl, rfl⟩
  · simp only [Heap.le, HL.le, Nat.le_refl, and_true]
  rintro ⟨⟨k, n⟩, hk⟩
  simp only [] at hk ⊢
  obtain ⟨pc, pn⟩ := hp k
  have pn2 : (l.take k).length ≤ 5000 := by simp; omega
  refine VW_seq ?_
  refine VW_seq (VW_region [2, 4, 7, 8, 31] ?_)
  simp only [OpsW_nil, OpsW_n, StepW, pok, pval, VA.ev, Env.get, Env.put, Env.keep, thenQ, intV, binV, binOk, lenV, lenOk, Heap.le, HL.le, Nat.succ_ne_self, Env.le, Nat.reduceEqDiff, ite_true, ite_false, true_and, and_true, List.length_map]
  refine VW_cond rfl (fun h2 => ?_) (fun h2 => ?_)
  · refine VW_skip ?_
    try simp only [thenQ]
    simp only [decide_eq_true_eq] at h2
    have ka : k < l.length := by omega
    have hst : (l.take (k + 1)).foldl (turnS d.act d.item) s0 = turnS d.act d.item ((l.take k).foldl (turnS d.act d.item) s0) l[k] := by
      rw [List.take_add_one, List.getElem?_eq_getElem ka, List.foldl_append]; rfl
    generalize (l.take k).foldl (turnS d.act d.item) s0 = D at pc pn hst ⊢
    have hT : turnS d.act d.item D l[k] = (if refers l[k].it d.act d.item then (if l[k].it.kind = 7 ∨ l[k].it.kind = 9 then extendS D l[k].it.day else if l[k].it.kind = 8 then truncS D l[k].it.day else D) else D) := rfl
    rw [hT] at hst
    have hR := sp_pandectref27_Names l[k].it d.act d.item
    refine VW_seq ?_
    refine VW_block ?_
    refine VW_seq (VW_region [2, 4, 7, 8, 9] ?_)
    simp only [OpsW_nil, OpsW_n, StepW, pok, pval, VA.ev, Env.get, Env.put, Env.keep, thenQ, aggV, isInt, numOf, lenV, faddrV, isAddr, locCells, locOk, iaddrV, iaddrOk, PV.cells, PV.fits, overlay, PV.nth, PV.row, Heap.get, Heap.set, HL.get, HL.set, HL.del, Heap.push, Nat.le_refl, Nat.succ_ne_self, storeV, storeOk, List.set, List.length, List.getD_cons_zero, List.take, List.drop, List.drop_succ_cons, List.nil_append, Nat.reduceEqDiff, Nat.reduceAdd, Nat.reduceLT, Bool.true_eq_false, ite_true, ite_false, true_and, and_true, BEq.rfl, Nat.zero_add, imp_self, Int.toNat_natCast, List.length_map, rowm ka, ei_d3, It.enc_len, it_take, List.append_nil]
    repeat (with_reducible refine And.intro ?_ ?_; first | omega | (with_reducible constructor <;> omega) | exact False.elim | exact True.intro)
    refine VW_seq ?_
    refine VW_seq (VW_region [2, 4, 7, 8, 9, 45] ?_)
    simp only [OpsW_nil, OpsW_n, StepW, pok, pval, VA.ev, Env.get, Env.put, Env.keep, thenQ, aggV, unV, unOk, faddrV, isAddr, locCells, locOk, PV.nth, PV.row, Heap.get, HL.get, Nat.le_refl, Nat.succ_ne_self, List.map, List.length, List.getD_cons_zero, List.drop, Nat.reduceEqDiff, Nat.reduceLT, Nat.reduceLeDiff, Bool.false_eq_true, Bool.true_eq_false, ite_true, ite_false, true_and, and_true, implies_true, Nat.zero_add, imp_self, It.enc_len, it_take, ei_t0, ei_t1, ei_l1, ei_len28]
    refine ACall_p hR ?_
    try simp only [true_and]
    refine VW_cond rfl (fun h3 => ?_) (fun h3 => ?_)
    · rw [if_neg (by simpa using h3)] at hst
      refine VW_exit ?_
      try simp only [thenQ, blockQ, retQ, Nat.succ_ne_self, ite_true, ite_false]
      refine VW_region [2, 4, 7, 8] ?_
      simp only [OpsW_nil, OpsW_n, StepW, pok, pval, VA.ev, Env.get, Env.put, Env.keep, thenQ, intV, binV, binOk, Nat.succ_ne_self, Nat.reduceEqDiff, ite_true, ite_false, true_and, w64 (n := (k : Int) + 1) (by omega) (by omega)]
      refine ⟨⟨(k + 1, n + 1), by simp only []; omega⟩, ?_, ?_, ?_⟩
      · rw [hst]; exact ⟨rfl, rfl⟩
      · exact Nat.le_refl _
      · simp only []; omega
    rw [if_pos (by simpa using h3)] at hst
    refine VW_skip ?_
    try simp only [thenQ]
    refine VW_seq ?_
    refine VW_seqJ (σ := Unit) [2, 4, 7, 8, 9, 53] (fun _ => ([(2, .sl 28 (l.map EI.enc)), (4, .ro d.enc), (7, .sl 2 (D.map Sp.enc)), (8, pI k), (9, .loc n 0 0), (53, .bool ((l[k].it.kind == 7) || (l[k].it.kind == 9)))], ⟨[(n, .arr false 25 [l[k].it.enc])], n + 1⟩)) ?_ (fun _ => ?_)
    · cases e1 : (l[k].it.kind == 7) with
      | true =>
        simp only [OpsW_nil, OpsW_n, OpsW_xf, StepW, pok, pval, VA.ev, Env.get, Env.put, Env.keep, pickV, isBool, aggV, intV, binV, binOk, faddrV, isAddr, locCells, locOk, PV.nth, PV.row, Heap.get, Heap.le, HL.get, HL.le, Nat.le_refl, Nat.succ_ne_self, Env.le, List.length, List.getD_cons_zero, List.drop, Nat.reduceEqDiff, Nat.reduceLT, Nat.reduceLeDiff, Bool.false_eq_true, ite_true, ite_false, true_and, and_true, implies_true, Nat.zero_add, Nat.add_zero, it_t0, It.enc_len, e1]
        exact ⟨(), by first | trivial | rfl⟩
      | false =>
        simp only [OpsW_nil, OpsW_n, OpsW_y, StepW, pok, pval, VA.ev, Env.get, Env.put, Env.keep, pickV, isBool, aggV, intV, binV, binOk, faddrV, isAddr, locCells, locOk, PV.nth, PV.row, Heap.get, Heap.le, HL.get, HL.le, Nat.le_refl, Nat.succ_ne_self, Env.le, List.length, List.getD_cons_zero, List.drop, Nat.reduceEqDiff, Nat.reduceLT, Nat.reduceLeDiff, Bool.false_eq_true, ite_true, ite_false, true_and, and_true, implies_true, Nat.zero_add, Nat.add_zero, it_t0, It.enc_len, e1]
        exact ⟨(), by first | trivial | rfl⟩
    refine VW_mid (σ := Unit) (fun _ => ([(2, .sl 28 (l.map EI.enc)), (4, .ro d.enc), (7, .sl 2 ((if l[k].it.kind = 7 ∨ l[k].it.kind = 9 then extendS D l[k].it.day else D).map Sp.enc)), (8, pI k), (9, .loc n 0 0)], ⟨[(n, .arr false 25 [l[k].it.enc])], n + 1⟩)) ?_ (fun _ => ?_)
    · refine VW_cond rfl (fun h4 => ?_) (fun h4 => ?_)
      · refine VW_region [2, 4, 7, 8, 9] ?_
        simp only [midQ, OpsW_nil, OpsW_n, StepW, pok, pval, VA.ev, Env.get, Env.put, Env.keep, aggV, faddrV, isAddr, locCells, locOk, PV.nth, PV.row, Heap.get, Heap.le, HL.get, HL.le, Nat.succ_ne_self, Env.le, List.map, List.length, List.getD_cons_zero, Nat.reduceEqDiff, Nat.reduceLT, Nat.reduceLeDiff, Bool.false_eq_true, ite_true, ite_false, true_and, and_true, implies_true, Nat.zero_add, it_d, it_ld]
        refine ACall_p (sp_pandectref02_Since D l[k].it.day (by omega) (by rw [untilR_eq]; exact Nat.le_trans (trunc_len pc _) (by omega))) ?_
        try simp only [HL.get, Nat.le_refl, ite_true, and_true]
        rw [sinceR_eq, if_pos (by simpa using h4)]
        exact ⟨(), by first | trivial | rfl⟩
      · refine VW_skip ?_
        try simp only [midQ, Env.get, Heap.get, Heap.le, HL.get, HL.le, Nat.le_refl, Nat.succ_ne_self, Env.le, Nat.reduceEqDiff, ite_true, ite_false, true_and, and_true]
        rw [if_neg (by simpa using h4)]
        exact ⟨(), by first | trivial | rfl⟩
    simp only []
    refine VW_seq (VW_region [2, 4, 7, 8, 9, 60] ?_)
    simp only [OpsW_nil, OpsW_n, StepW, pok, pval, VA.ev, Env.get, Env.put, Env.keep, thenQ, aggV, intV, binV, binOk, faddrV, isAddr, locCells, locOk, PV.nth, PV.row, Heap.get, HL.get, Nat.succ_ne_self, List.length, List.getD_cons_zero, List.drop, Nat.reduceEqDiff, Nat.reduceLT, Nat.reduceLeDiff, Bool.false_eq_true, ite_true, ite_false, true_and, and_true, implies_true, Nat.zero_add, Nat.add_zero, it_t0, It.enc_len]
    refine VW_cond rfl (fun h5 => ?_) (fun h5 => ?_)
    · have k8 : l[k].it.kind = 8 := by simpa using h5
      have n79 : ¬ (l[k].it.kind = 7 ∨ l[k].it.kind = 9) := by omega
      rw [if_neg n79, if_pos k8] at hst
      rw [if_neg n79]
      refine VW_region [2, 4, 7, 8] ?_
      simp only [OpsW_nil, OpsW_n, StepW, pok, pval, VA.ev, Env.get, Env.put, Env.keep, thenQ, blockQ, aggV, faddrV, isAddr, locCells, locOk, PV.nth, PV.row, Heap.get, HL.get, Nat.succ_ne_self, List.map, List.length, List.getD_cons_zero, Nat.reduceEqDiff, Nat.reduceLT, Nat.reduceLeDiff, Bool.false_eq_true, ite_true, ite_false, true_and, and_true, implies_true, Nat.zero_add, it_d, it_ld]
      refine ACall_p (sp_pandectref02_Until D l[k].it.day (by omega)) ?_
      try simp only [midQ, OpsW_nil, OpsW_n, OpsW_y, OpsW_xt, OpsW_xf, OpsW_u, StepW, guardOf, DrawW_nil, DrawW_n, DrawW_y, DrawW_xt, DrawW_xf, DrawW_u, DrawH, VOp.isIaddr, QW, dok, dval, VOp.pure, VOp.simple, VOp.det, pok, pval, VA.ev, Env.get, Env.put, Env.keep, argEnv, thenQ, blockQ, retQ, resV, resOk, RS.ev, RS.ok, gd, pickV, isBool, aggV, intV, binV, binOk, strV, binbV, boolV, binbOk, unV, unOk, convV, isInt, isStr, numOf, loV, hiV, lenV, boundOk, sliceV, sliceOk, faddrV, isAddr, locCells, locOk, cellsOfAgg, isAggP, iaddrV, iaddrOk, idxV, idxOk, lenOk, extV, extOk, fillV, fillOk, mmV, PV.cells, PV.fits, overlay, PV.nth, PV.row, lookV, mapRows, mapOk, keysOk, keyOk, keyEq, mapFind, mapPut, mapHas, mapsetV, Heap.get, Heap.set, Heap.del, Heap.le, HL.get, HL.set, HL.del, HL.le, Heap.push, Heap.nil, Nat.le_refl, Nat.add_eq_left, Nat.left_eq_add, Nat.succ_ne_self, Nat.one_ne_zero, Env.le, killed, oldId, oldRows, oldOk, srcRows, srcOk, elemsV, elemsOk, eqOk, ekOk, eqCells, eqCell, storeV, storeOk, AB.live, pxV, pxOk, fxV, fxOk, isPtr, slLike, isNil, notNil, List.map, List.set, List.replicate, List.length, List.getD_cons_zero, List.getD_cons_succ, List.getD_nil, List.take, List.drop, List.take_zero, List.drop_zero, List.take_succ_cons, List.drop_succ_cons, List.append, List.cons_append, List.nil_append, Option.map, Nat.reduceEqDiff, Nat.reduceAdd, Nat.reduceLT, Nat.reduceLeDiff, Nat.reduceSub, Nat.reduceMul, reduceIte, Bool.false_eq_true, Bool.true_eq_false, ite_true, ite_false, if_true, if_false, true_and, and_true, implies_true, forall_const, ne_eq, not_false_eq_true, reduceCtorEq, BEq.rfl, beq_self_eq_true, Option.some.injEq, Nat.zero_add, Nat.add_zero, List.length_cons, List.length_nil, true_implies, imp_self, Int.reduceToNat, Int.toNat_natCast, Bool.not_false, Bool.not_true]
      rw [untilR_eq]
      refine VW_region [2, 4, 7, 8] ?_
      simp only [OpsW_nil, OpsW_n, StepW, pok, pval, VA.ev, Env.get, Env.put, Env.keep, thenQ, intV, binV, binOk, Nat.succ_ne_self, Nat.reduceEqDiff, ite_true, ite_false, true_and, w64 (n := (k : Int) + 1) (by omega) (by omega)]
      refine ⟨⟨(k + 1, n + 1), by simp only []; omega⟩, ?_, ?_, ?_⟩
      · rw [hst]; exact ⟨rfl, rfl⟩
      · exact Nat.le_refl _
      · simp only []; omega
    · have k8 : ¬ l[k].it.kind = 8 := by simpa using h5
      rw [if_neg k8] at hst
      rw [← hst]
      refine VW_skip ?_
      try simp only [thenQ, blockQ]
      refine VW_region [2, 4, 7, 8] ?_
      simp only [OpsW_nil, OpsW_n, StepW, pok, pval, VA.ev, Env.get, Env.put, Env.keep, thenQ, intV, binV, binOk, Nat.succ_ne_self, Nat.reduceEqDiff, ite_true, ite_false, true_and, w64 (n := (k : Int) + 1) (by omega) (by omega)]
      refine ⟨⟨(k + 1, n + 1), by simp only []; omega⟩, ?_, ?_, ?_⟩
      · exact ⟨rfl, rfl⟩
      · exact Nat.le_refl _
      · simp only []; omega
  · simp only [decide_eq_false_iff_not] at h2
    refine VW_exit ?_
    try simp only [thenQ, blockQ, retQ, ite_true]
    refine VW_seq (VW_region [6] ?_)
    simp only [OpsW_nil, OpsW_n, StepW, pok, pval, VA.ev, Env.get, Env.put, Env.keep, thenQ, Nat.succ_ne_self, Nat.reduceEqDiff, ite_true, ite_false, true_and]
    refine VW_ret ?_
    try simp only [Env.get, retQ, resV, resOk, RS.ev, RS.ok, ite_true, true_and, and_true]
    have e : l.take k = l := List.take_of_length_le (by omega)
    rw [e, ← hF]
    exact View.refl _ _
end Go.Proofs.Ytepmaobfbfbecaa.w


namespace Go.Proofs.Ytepmaobfbfbecaa.w
open Go Go.VM
set_option maxRecDepth 20000
set_option maxHeartbeats 0
set_option pp.deepTerms false
def c_pandectlaw27_CommencementInitial : VC := (.seq (.region [⟨(some 4), (.box 3 (.t 0)), none⟩, ⟨(some 5), (.box 3 (.t 1)), none⟩, ⟨(some 8), (.mv (.c (.bool false))), none⟩] false) (.seq (.seq (.region [⟨(some 14), (.call 10 []), none⟩, ⟨(some 15), (.un .not (.t 14)), none⟩, ⟨(some 16), (.mv (.t 15)), none⟩, ⟨(some 17), (.mv (.t 3)), (some (16, false))⟩, ⟨(some 18), (.call 11 [(.t 17)]), (some (16, false))⟩, ⟨(some 19), (.un .not (.t 18)), (some (16, false))⟩, ⟨(some 20), (.pick (.t 16) (.c (.bool true)) (.t 19)), none⟩, ⟨(some 21), (.mv (.t 20)), none⟩, ⟨(some 22), (.mv (.t 2)), (some (21, false))⟩, ⟨(some 23), (.len true (.t 22)), (some (21, false))⟩, ⟨(some 24), (.bin .gtr (.t 23) (.c (.int .i64 100))), (some (21, false))⟩, ⟨(some 25), (.pick (.t 21) (.c (.bool true)) (.t 24)), none⟩, ⟨(some 26), (.mv (.t 25)), none⟩, ⟨(some 27), (.faddr 2 (.t 4)), (some (26, false))⟩, ⟨(some 28), (.load false 1 (.t 27)), (some (26, false))⟩, ⟨(some 29), (.len true (.t 28)), (some (26, false))⟩, ⟨(some 30), (.bin .gtr (.t 29) (.c (.int .i64 100))), (some (26, false))⟩, ⟨(some 31), (.pick (.t 26) (.c (.bool true)) (.t 30)), none⟩, ⟨(some 32), (.mv (.t 31)), none⟩, ⟨(some 33), (.faddr 2 (.t 5)), (some (32, false))⟩, ⟨(some 34), (.load false 1 (.t 33)), (some (32, false))⟩, ⟨(some 35), (.len true (.t 34)), (some (32, false))⟩, ⟨(some 36), (.bin .gtr (.t 35) (.c (.int .i64 100))), (some (32, false))⟩, ⟨(some 37), (.pick (.t 32) (.c (.bool true)) (.t 36)), none⟩] false) (.cond (.t 37) (.seq (.region [⟨(some 38), (.call 10 []), none⟩, ⟨(some 8), (.mv (.t 38)), none⟩] false) .ret) .skip)) (.seq (.region [⟨(some 40), (.mv (.t 2)), none⟩, ⟨(some 41), (.mv (.t 3)), none⟩, ⟨(some 42), (.call 12 [(.t 40), (.t 41)]), none⟩, ⟨(some 39), (.mv (.t 42)), none⟩, ⟨(some 43), (.ext (.t 39) 0), none⟩, ⟨(some 44), (.ext (.t 39) 1), none⟩, ⟨(some 9), (.mv (.t 43)), none⟩, ⟨(some 10), (.mv (.t 44)), none⟩] false) (.seq (.region [⟨(some 46), (.mv (.t 2)), none⟩, ⟨(some 47), (.mv (.t 3)), none⟩, ⟨(some 48), (.call 13 [(.t 46), (.t 47)]), none⟩, ⟨(some 45), (.mv (.t 48)), none⟩, ⟨(some 49), (.ext (.t 45) 0), none⟩, ⟨(some 50), (.ext (.t 45) 1), none⟩, ⟨(some 11), (.mv (.t 49)), none⟩, ⟨(some 12), (.mv (.t 50)), none⟩] false) (.seq (.region [⟨(some 51), (.load true 3 (.t 4)), none⟩, ⟨(some 52), (.load true 3 (.t 5)), none⟩, ⟨(some 53), (.call 14 [(.t 51), (.t 52)]), none⟩, ⟨(some 13), (.alloc [(.int .i64 0), (.int .i64 0), (.str [])]), none⟩, ⟨none, (.store 3 (.t 13) (.t 53)), none⟩] false) (.seq (.region [⟨(some 54), (.mv (.t 9)), none⟩, ⟨(some 55), (.mv (.t 11)), none⟩, ⟨(some 56), (.bin .eql (.t 54) (.t 55)), none⟩, ⟨(some 57), (.mv (.t 56)), none⟩, ⟨(some 58), (.mv (.t 10)), (some (57, true))⟩, ⟨(some 59), (.mv (.t 12)), (some (57, true))⟩, ⟨(some 60), (.binb .eql (.t 58) (.t 59)), (some (57, true))⟩, ⟨(some 61), (.pick (.t 57) (.t 60) (.c (.bool false))), none⟩, ⟨(some 62), (.mv (.t 61)), none⟩, ⟨(some 63), (.load true 3 (.t 13)), (some (62, true))⟩, ⟨(some 64), (.load true 3 (.t 4)), (some (62, true))⟩, ⟨(some 65), (.load true 3 (.t 5)), (some (62, true))⟩, ⟨(some 66), (.call 15 [(.t 64), (.t 65)]), (some (62, true))⟩, ⟨(some 67), (.eqs false [.i, .i, .s] (.t 63) (.t 66)), (some (62, true))⟩, ⟨(some 68), (.pick (.t 62) (.t 67) (.c (.bool false))), none⟩, ⟨(some 69), (.mv (.t 68)), none⟩, ⟨(some 70), (.load true 3 (.t 13)), (some (69, true))⟩, ⟨(some 71), (.mv (.t 3)), (some (69, true))⟩, ⟨(some 72), (.call 17 [(.t 70), (.t 71)]), (some (69, true))⟩, ⟨(some 73), (.load true 3 (.t 13)), (some (69, true))⟩, ⟨(some 74), (.mv (.t 3)), (some (69, true))⟩, ⟨(some 75), (.call 18 [(.t 73), (.t 74)]), (some (69, true))⟩, ⟨(some 76), (.call 16 [(.t 72), (.t 75)]), (some (69, true))⟩, ⟨(some 77), (.pick (.t 69) (.t 76) (.c (.bool false))), none⟩, ⟨(some 78), (.mv (.t 77)), none⟩, ⟨(some 79), (.load true 3 (.t 4)), (some (78, true))⟩, ⟨(some 80), (.mv (.t 3)), (some (78, true))⟩, ⟨(some 81), (.call 17 [(.t 79), (.t 80)]), (some (78, true))⟩, ⟨(some 82), (.load true 3 (.t 4)), (some (78, true))⟩, ⟨(some 83), (.mv (.t 3)), (some (78, true))⟩, ⟨(some 84), (.call 18 [(.t 82), (.t 83)]), (some (78, true))⟩, ⟨(some 85), (.call 16 [(.t 81), (.t 84)]), (some (78, true))⟩, ⟨(some 86), (.pick (.t 78) (.t 85) (.c (.bool false))), none⟩, ⟨(some 8), (.mv (.t 86)), none⟩] true) .ret))))))
def c_pandectlaw27_CommencementInForce : VC := (.seq (.region [⟨(some 3), (.box 3 (.t 0)), none⟩, ⟨(some 4), (.box 28 (.t 1)), none⟩, ⟨(some 6), (.mv (.c (.bool false))), none⟩] false) (.seq (.seq (.region [⟨(some 8), (.call 10 []), none⟩, ⟨(some 9), (.un .not (.t 8)), none⟩, ⟨(some 10), (.mv (.t 9)), none⟩, ⟨(some 11), (.load true 28 (.t 4)), (some (10, false))⟩, ⟨(some 12), (.bslice 28 1 [(.int .i64 0), (.int .i64 0), (.int .i64 0), (.int .i64 0), .nilsl, .nilsl, (.int .i64 0), (.int .i64 0), (.int .i64 0), (.int .i64 0), (.int .i64 0), (.int .i64 0), (.str []), .nilsl, .nilsl, .nilsl, .nilsl, .nilsl, (.str []), (.str []), (.int .i64 0), (.int .i64 0), (.str []), (.int .i64 0), (.int .i64 0), (.int .i64 0), (.str []), .nilsl] [(0, (.t 11))]), (some (10, false))⟩, ⟨(some 13), (.mv (.t 2)), (some (10, false))⟩, ⟨(some 14), (.app 28 392 [(.int .i64 0), (.int .i64 0), (.int .i64 0), (.int .i64 0), .nilsl, .nilsl, (.int .i64 0), (.int .i64 0), (.int .i64 0), (.int .i64 0), (.int .i64 0), (.int .i64 0), (.str []), .nilsl, .nilsl, .nilsl, .nilsl, .nilsl, (.str []), (.str []), (.int .i64 0), (.int .i64 0), (.str []), (.int .i64 0), (.int .i64 0), (.int .i64 0), (.str []), .nilsl] false (.t 12) (.t 13)), (some (10, false))⟩, ⟨(some 15), (.call 11 [(.t 14)]), (some (10, false))⟩, ⟨(some 16), (.un .not (.t 15)), (some (10, false))⟩, ⟨(some 17), (.pick (.t 10) (.c (.bool true)) (.t 16)), none⟩, ⟨(some 18), (.mv (.t 17)), none⟩, ⟨(some 19), (.faddr 2 (.t 3)), (some (18, false))⟩, ⟨(some 20), (.load false 1 (.t 19)), (some (18, false))⟩, ⟨(some 21), (.len true (.t 20)), (some (18, false))⟩, ⟨(some 22), (.bin .gtr (.t 21) (.c (.int .i64 100))), (some (18, false))⟩, ⟨(some 23), (.pick (.t 18) (.c (.bool true)) (.t 22)), none⟩] false) (.cond (.t 23) (.seq (.region [⟨(some 24), (.call 10 []), none⟩, ⟨(some 6), (.mv (.t 24)), none⟩] false) .ret) .skip)) (.seq (.region [⟨(some 25), (.load true 3 (.t 3)), none⟩, ⟨(some 26), (.load true 28 (.t 4)), none⟩, ⟨(some 27), (.mv (.t 2)), none⟩, ⟨(some 28), (.call 21 [(.t 25), (.t 26), (.t 27)]), none⟩, ⟨(some 7), (.mv (.t 28)), none⟩] false) (.seq (.region [⟨(some 29), (.mv (.t 7)), none⟩, ⟨(some 30), (.load true 3 (.t 3)), none⟩, ⟨(some 31), (.load true 28 (.t 4)), none⟩, ⟨(some 32), (.mv (.t 2)), none⟩, ⟨(some 33), (.call 24 [(.t 30), (.t 31), (.t 32)]), none⟩, ⟨(some 34), (.call 16 [(.t 29), (.t 33)]), none⟩, ⟨(some 35), (.mv (.t 34)), none⟩, ⟨(some 36), (.mv (.t 7)), (some (35, true))⟩, ⟨(some 37), (.call 25 [(.t 36)]), (some (35, true))⟩, ⟨(some 38), (.pick (.t 35) (.t 37) (.c (.bool false))), none⟩, ⟨(some 6), (.mv (.t 38)), none⟩] false) .ret))))
theorem canon_valid {l : List Sp} (h : Canon l) (hl : l.length ≤ 4096) : validB l = true := by
  unfold validB
  rw [(canonB_iff l (-1) (by omega)).2 h, decide_eq_true hl]; rfl
theorem law_CommencementInForce (a : Sta) (d : EI) (l : List EI) (_ : a.ok) (_ : d.ok) (_ : okL EI.ok l) (hz : l.length * 392 ≤ 140737488351232) :
    PCall Try.prog 9 [.agg a.enc, .agg d.enc, .sl 28 (l.map EI.enc)] (.bool true) := by
  refine PCall_intro ?_ (cB _) (by simp only [ClosedL, List.mem_cons, List.not_mem_nil, or_false, forall_eq_or_imp, forall_eq, false_implies, implies_true]; repeat' (first | exact cI _ | exact cS _ | exact cB _ | exact closed_fn0 _ | exact closed_nilsl | exact closed_agg (Un.closed _) | exact closed_agg (It.closed _) | exact closed_agg (EI.closed _) | exact closed_agg (Ac.closed _) | exact closed_agg (Wd.closed _) | exact closed_agg (St.closed _) | exact closed_agg (Sta.closed _) | exact closed_eis _ | exact closed_acs _ | exact closed_strs _ | exact closed_map (fun w _ => Wd.closed w) | exact closed_map (fun w _ => St.closed w) | exact closed_map (fun w _ => Un.closed w) | exact closed_map (fun w _ => It.closed w) | exact closed_sc _ | exact closed_sps _ | exact closed_agg (Sp.closed _) | exact closed_ro (EI.closed _) | exact closed_ro (Sta.closed _) | exact closed_ro (It.closed _) | exact closed_ro (by simp only [List.mem_cons, List.not_mem_nil, or_false, forall_eq]; first | exact cI _ | exact cS _ | exact closed_eis _) | refine And.intro ?_ ?_))
  refine ACall_fn (vc := c_pandectlaw27_CommencementInForce) (ts := [.t 6]) Go.Proofs.Try.func9 (by kernel_rfl) rfl rfl (Nat.le_of_ble_eq_true rfl) (by kernel_rfl) ?_
  unfold c_pandectlaw27_CommencementInForce
  refine VW_seq (VW_region [2, 3, 4] ?_)
  simp only [OpsW_nil, OpsW_n, StepW, pok, pval, VA.ev, Env.get, Env.put, Env.keep, argEnv, thenQ, PV.cells, PV.fits, Heap.push, Heap.nil, Nat.succ_ne_self, List.length, Nat.reduceEqDiff, Nat.reduceAdd, ite_true, ite_false, true_and, reduceCtorEq, BEq.rfl, Nat.zero_add, Sta.enc, ei_len28]
  refine VW_freeze [(2, .sl 28 (l.map EI.enc)), (3, .ro a.enc), (4, .ro d.enc)] ⟨View.refl _ _, View.loc (z := 3) (fz := false) (es := [a.enc]) rfl (by simp) rfl (by simp [Sta.enc]), View.loc (z := 28) (fz := false) (es := [d.enc]) rfl (by simp) rfl (by simp [ei_len28]), trivial⟩ ?_
  try simp only []
  refine VW_seq ?_
  refine VW_seqJ (σ := Unit) [2, 3, 4, 23] (fun _ => ([(2, .sl 28 (l.map EI.enc)), (3, .ro a.enc), (4, .ro d.enc), (23, .bool (!fewB (d :: l) || decide ((100 : Int) < a.event.length)))], ⟨[], 20⟩)) ?_ (fun _ => ?_)
  · simp only [OpsW_n, StepW, pok, pval, VA.ev, Env.get, Env.put, Env.keep, unV, unOk, Heap.le, HL.le, Nat.succ_ne_self, Env.le, List.map, Nat.reduceEqDiff, ite_true, ite_false, true_and, and_true]
    refine ACall_p run.awake ?_
    simp only [OpsW_n, OpsW_y, StepW, pok, pval, VA.ev, Env.get, Env.put, pickV, isBool, aggV, unV, unOk, locCells, locOk, PV.cells, PV.fits, PV.nth, Heap.get, Heap.del, HL.get, HL.del, Heap.push, Nat.le_refl, Nat.succ_ne_self, killed, oldId, oldRows, oldOk, srcRows, srcOk, elemsV, elemsOk, List.map, List.set, List.replicate, List.length, List.take, List.drop, List.take_succ_cons, List.cons_append, List.nil_append, Nat.reduceEqDiff, Nat.reduceAdd, Nat.reduceLT, Bool.false_eq_true, Bool.true_eq_false, ite_true, ite_false, true_and, and_true, BEq.rfl, Nat.zero_add, List.length_cons, imp_self, Bool.not_true, List.length_map, ei_len28, ei_take]
    refine ⟨by omega, by omega, ACall_v [.sl 28 ((d :: l).map EI.enc)] ⟨View.own_all (fz := false) rfl (by simp; omega), trivial⟩ (sp_pandectref27_Few (d :: l) (by simp; omega)) (scalar_bool _) ?_⟩
    cases e1 : fewB (d :: l) with
    | false =>
      try simp only [OpsW_nil, OpsW_n, OpsW_xf, StepW, pok, pval, VA.ev, Env.get, Env.put, pickV, isBool, Nat.succ_ne_self, Nat.reduceEqDiff, Nat.reduceLeDiff, ite_true, ite_false, true_and, and_true, Bool.not_false]
      exact ⟨(), by first | trivial | rfl⟩
    | true =>
      try simp only [OpsW_nil, OpsW_n, OpsW_y, StepW, pok, pval, VA.ev, Env.get, Env.put, pickV, isBool, aggV, intV, binV, binOk, lenV, faddrV, isAddr, locCells, locOk, lenOk, PV.nth, Nat.le_refl, Nat.succ_ne_self, List.length, List.getD_cons_zero, List.take, List.drop, List.take_succ_cons, Nat.reduceEqDiff, Nat.reduceLeDiff, Bool.false_eq_true, ite_true, ite_false, true_and, and_true, implies_true, Nat.zero_add, List.length_cons, Bool.not_true, Sta.enc]
      exact ⟨(), by first | trivial | rfl⟩
  refine VW_cond rfl (fun h1 => ?_) (fun h1 => ?_)
  · refine VW_seq (VW_region [6] ?_)
    simp only [OpsW_nil, OpsW_n, StepW, pok, pval, VA.ev, Env.get, Env.put, Env.keep, thenQ, List.map, Nat.reduceEqDiff, ite_true, ite_false, true_and]
    refine ACall_p run.awake ?_
    try simp only [OpsW_nil, OpsW_n, OpsW_y, OpsW_xt, OpsW_xf, OpsW_u, StepW, guardOf, DrawW_nil, DrawW_n, DrawW_y, DrawW_xt, DrawW_xf, DrawW_u, DrawH, VOp.isIaddr, QW, dok, dval, VOp.pure, VOp.simple, VOp.det, pok, pval, VA.ev, Env.get, Env.put, Env.keep, argEnv, thenQ, blockQ, retQ, resV, resOk, RS.ev, RS.ok, gd, pickV, isBool, aggV, intV, binV, binOk, strV, binbV, boolV, binbOk, unV, unOk, convV, isInt, isStr, numOf, loV, hiV, lenV, boundOk, sliceV, sliceOk, faddrV, isAddr, locCells, locOk, cellsOfAgg, isAggP, iaddrV, iaddrOk, idxV, idxOk, lenOk, extV, extOk, fillV, fillOk, mmV, PV.cells, PV.fits, overlay, PV.nth, PV.row, lookV, mapRows, mapOk, keysOk, keyOk, keyEq, mapFind, mapPut, mapHas, mapsetV, Heap.get, Heap.set, Heap.del, Heap.le, HL.get, HL.set, HL.del, HL.le, Heap.push, Heap.nil, Nat.le_refl, Nat.add_eq_left, Nat.left_eq_add, Nat.succ_ne_self, Nat.one_ne_zero, Env.le, killed, oldId, oldRows, oldOk, srcRows, srcOk, elemsV, elemsOk, eqOk, ekOk, eqCells, eqCell, storeV, storeOk, AB.live, pxV, pxOk, fxV, fxOk, isPtr, slLike, isNil, notNil, List.map, List.set, List.replicate, List.length, List.getD_cons_zero, List.getD_cons_succ, List.getD_nil, List.take, List.drop, List.take_zero, List.drop_zero, List.take_succ_cons, List.drop_succ_cons, List.append, List.cons_append, List.nil_append, Option.map, Nat.reduceEqDiff, Nat.reduceAdd, Nat.reduceLT, Nat.reduceLeDiff, Nat.reduceSub, Nat.reduceMul, reduceIte, Bool.false_eq_true, Bool.true_eq_false, ite_true, ite_false, if_true, if_false, true_and, and_true, implies_true, forall_const, ne_eq, not_false_eq_true, reduceCtorEq, BEq.rfl, beq_self_eq_true, Option.some.injEq, Nat.zero_add, Nat.add_zero, List.length_cons, List.length_nil, true_implies, imp_self, Int.reduceToNat, Int.toNat_natCast, Bool.not_false, Bool.not_true]
    refine VW_ret ?_
    try simp only [Env.get, thenQ, retQ, resV, resOk, RS.ev, RS.ok, ite_true, true_and, and_true]
    exact View.refl _ _
  simp only [Bool.or_eq_false_iff, Bool.not_eq_false', decide_eq_false_iff_not] at h1
  have h40 := few_len h1.1
  have fl := (force_canon a d l).2
  have hv := canon_valid (force_canon a d l).1 (by omega)
  refine VW_skip ?_
  try simp only [thenQ]
  refine VW_seq (VW_region [2, 3, 4, 7] ?_)
  simp only [OpsW_nil, OpsW_n, StepW, pok, pval, VA.ev, Env.get, Env.put, Env.keep, thenQ, aggV, locCells, locOk, PV.nth, Nat.le_refl, Nat.succ_ne_self, List.map, List.length, List.getD_cons_zero, List.take, List.take_succ_cons, Nat.reduceEqDiff, Nat.reduceAdd, Bool.true_eq_false, ite_true, ite_false, true_and, and_true, Nat.zero_add, List.length_cons, imp_self, ei_len28, ei_take, Sta.enc]
  refine ACall_p (sp_commencement_InForce a d l (by omega)) ?_
  try simp only [OpsW_nil, OpsW_n, OpsW_y, OpsW_xt, OpsW_xf, OpsW_u, StepW, guardOf, DrawW_nil, DrawW_n, DrawW_y, DrawW_xt, DrawW_xf, DrawW_u, DrawH, VOp.isIaddr, QW, dok, dval, VOp.pure, VOp.simple, VOp.det, pok, pval, VA.ev, Env.get, Env.put, Env.keep, argEnv, thenQ, blockQ, retQ, resV, resOk, RS.ev, RS.ok, gd, pickV, isBool, aggV, intV, binV, binOk, strV, binbV, boolV, binbOk, unV, unOk, convV, isInt, isStr, numOf, loV, hiV, lenV, boundOk, sliceV, sliceOk, faddrV, isAddr, locCells, locOk, cellsOfAgg, isAggP, iaddrV, iaddrOk, idxV, idxOk, lenOk, extV, extOk, fillV, fillOk, mmV, PV.cells, PV.fits, overlay, PV.nth, PV.row, lookV, mapRows, mapOk, keysOk, keyOk, keyEq, mapFind, mapPut, mapHas, mapsetV, Heap.get, Heap.set, Heap.del, Heap.le, HL.get, HL.set, HL.del, HL.le, Heap.push, Heap.nil, Nat.le_refl, Nat.add_eq_left, Nat.left_eq_add, Nat.succ_ne_self, Nat.one_ne_zero, Env.le, killed, oldId, oldRows, oldOk, srcRows, srcOk, elemsV, elemsOk, eqOk, ekOk, eqCells, eqCell, storeV, storeOk, AB.live, pxV, pxOk, fxV, fxOk, isPtr, slLike, isNil, notNil, List.map, List.set, List.replicate, List.length, List.getD_cons_zero, List.getD_cons_succ, List.getD_nil, List.take, List.drop, List.take_zero, List.drop_zero, List.take_succ_cons, List.drop_succ_cons, List.append, List.cons_append, List.nil_append, Option.map, Nat.reduceEqDiff, Nat.reduceAdd, Nat.reduceLT, Nat.reduceLeDiff, Nat.reduceSub, Nat.reduceMul, reduceIte, Bool.false_eq_true, Bool.true_eq_false, ite_true, ite_false, if_true, if_false, true_and, and_true, implies_true, forall_const, ne_eq, not_false_eq_true, reduceCtorEq, BEq.rfl, beq_self_eq_true, Option.some.injEq, Nat.zero_add, Nat.add_zero, List.length_cons, List.length_nil, true_implies, imp_self, Int.reduceToNat, Int.toNat_natCast, Bool.not_false, Bool.not_true]
  refine VW_seq (VW_region [6] ?_)
  simp only [OpsW_n, StepW, pok, pval, VA.ev, Env.get, Env.put, Env.keep, thenQ, aggV, locCells, locOk, PV.nth, Nat.le_refl, Nat.succ_ne_self, List.map, List.length, List.getD_cons_zero, List.take, List.take_succ_cons, Nat.reduceEqDiff, Nat.reduceAdd, Bool.true_eq_false, ite_true, ite_false, true_and, and_true, Nat.zero_add, List.length_cons, imp_self, ei_len28, ei_take, Sta.enc]
  refine ACall_p (sp_pandectref27_Spans a d l (by omega)) ?_
  try simp only [OpsW_nil, OpsW_n, OpsW_y, OpsW_xt, OpsW_xf, OpsW_u, StepW, guardOf, DrawW_nil, DrawW_n, DrawW_y, DrawW_xt, DrawW_xf, DrawW_u, DrawH, VOp.isIaddr, QW, dok, dval, VOp.pure, VOp.simple, VOp.det, pok, pval, VA.ev, Env.get, Env.put, Env.keep, argEnv, thenQ, blockQ, retQ, resV, resOk, RS.ev, RS.ok, gd, pickV, isBool, aggV, intV, binV, binOk, strV, binbV, boolV, binbOk, unV, unOk, convV, isInt, isStr, numOf, loV, hiV, lenV, boundOk, sliceV, sliceOk, faddrV, isAddr, locCells, locOk, cellsOfAgg, isAggP, iaddrV, iaddrOk, idxV, idxOk, lenOk, extV, extOk, fillV, fillOk, mmV, PV.cells, PV.fits, overlay, PV.nth, PV.row, lookV, mapRows, mapOk, keysOk, keyOk, keyEq, mapFind, mapPut, mapHas, mapsetV, Heap.get, Heap.set, Heap.del, Heap.le, HL.get, HL.set, HL.del, HL.le, Heap.push, Heap.nil, Nat.le_refl, Nat.add_eq_left, Nat.left_eq_add, Nat.succ_ne_self, Nat.one_ne_zero, Env.le, killed, oldId, oldRows, oldOk, srcRows, srcOk, elemsV, elemsOk, eqOk, ekOk, eqCells, eqCell, storeV, storeOk, AB.live, pxV, pxOk, fxV, fxOk, isPtr, slLike, isNil, notNil, List.map, List.set, List.replicate, List.length, List.getD_cons_zero, List.getD_cons_succ, List.getD_nil, List.take, List.drop, List.take_zero, List.drop_zero, List.take_succ_cons, List.drop_succ_cons, List.append, List.cons_append, List.nil_append, Option.map, Nat.reduceEqDiff, Nat.reduceAdd, Nat.reduceLT, Nat.reduceLeDiff, Nat.reduceSub, Nat.reduceMul, reduceIte, Bool.false_eq_true, Bool.true_eq_false, ite_true, ite_false, if_true, if_false, true_and, and_true, implies_true, forall_const, ne_eq, not_false_eq_true, reduceCtorEq, BEq.rfl, beq_self_eq_true, Option.some.injEq, Nat.zero_add, Nat.add_zero, List.length_cons, List.length_nil, true_implies, imp_self, Int.reduceToNat, Int.toNat_natCast, Bool.not_false, Bool.not_true]
  refine ACall_p (sp_pandectref02_Same (forceS a d l) (forceS a d l) (by omega) (by omega)) ?_
  have hd : decide (forceS a d l = forceS a d l) = true := decide_eq_true rfl
  try simp only [OpsW_nil, OpsW_n, OpsW_y, StepW, pok, pval, VA.ev, Env.get, Env.put, pickV, isBool, Nat.succ_ne_self, List.map, Nat.reduceEqDiff, ite_true, ite_false, true_and, decide_true]
  refine ACall_p (sp_dateset_Valid (forceS a d l) (by omega)) ?_
  try simp only [hv]
  refine VW_ret ?_
  try simp only [Env.get, retQ, resV, resOk, RS.ev, RS.ok, ite_true, true_and, and_true]
  exact View.refl _ _
theorem few_len' {l : List EI} (h : fewB l = true) : l.length ≤ 40 := by
  unfold fewB at h
  simp only [Bool.and_eq_true, decide_eq_true_eq] at h
  omega
theorem law_CommencementInitial (a b : Sta) (name : Str) (l : List EI) (_ : a.ok) (_ : b.ok) (_ : okS name) (_ : okL EI.ok l) (hz : l.length * 392 ≤ 140737488351232) :
    PCall Try.prog 3 [.agg a.enc, .agg b.enc, .str name, .sl 28 (l.map EI.enc)] (.bool true) := by
  refine PCall_intro ?_ (cB _) (by simp only [ClosedL, List.mem_cons, List.not_mem_nil, or_false, forall_eq_or_imp, forall_eq, false_implies, implies_true]; repeat' (first | exact cI _ | exact cS _ | exact cB _ | exact closed_fn0 _ | exact closed_nilsl | exact closed_agg (Un.closed _) | exact closed_agg (It.closed _) | exact closed_agg (EI.closed _) | exact closed_agg (Ac.closed _) | exact closed_agg (Wd.closed _) | exact closed_agg (St.closed _) | exact closed_agg (Sta.closed _) | exact closed_eis _ | exact closed_acs _ | exact closed_strs _ | exact closed_map (fun w _ => Wd.closed w) | exact closed_map (fun w _ => St.closed w) | exact closed_map (fun w _ => Un.closed w) | exact closed_map (fun w _ => It.closed w) | exact closed_sc _ | exact closed_sps _ | exact closed_agg (Sp.closed _) | exact closed_ro (EI.closed _) | exact closed_ro (Sta.closed _) | exact closed_ro (It.closed _) | exact closed_ro (by simp only [List.mem_cons, List.not_mem_nil, or_false, forall_eq]; first | exact cI _ | exact cS _ | exact closed_eis _) | refine And.intro ?_ ?_))
  refine ACall_fn (vc := c_pandectlaw27_CommencementInitial) (ts := [.t 8]) Go.Proofs.Try.func3 (by kernel_rfl) rfl rfl (Nat.le_of_ble_eq_true rfl) (by kernel_rfl) ?_
  unfold c_pandectlaw27_CommencementInitial
  refine VW_seq (VW_region [2, 3, 4, 5] ?_)
  simp only [OpsW_nil, OpsW_n, StepW, pok, pval, VA.ev, Env.get, Env.put, Env.keep, argEnv, thenQ, PV.cells, PV.fits, Heap.push, Heap.nil, Nat.succ_ne_self, List.length, Nat.reduceEqDiff, Nat.reduceAdd, ite_true, ite_false, true_and, reduceCtorEq, BEq.rfl, Nat.zero_add, Sta.enc]
  refine VW_freeze [(2, .str name), (3, .sl 28 (l.map EI.enc)), (4, .ro a.enc), (5, .ro b.enc)] ⟨View.refl _ _, View.refl _ _, View.loc (z := 3) (fz := false) (es := [a.enc]) rfl (by simp) rfl (by simp [Sta.enc]), View.loc (z := 3) (fz := false) (es := [b.enc]) rfl (by simp) rfl (by simp [Sta.enc]), trivial⟩ ?_
  try simp only []
  refine VW_seq ?_
  refine VW_seqJ (σ := Unit) [2, 3, 4, 5, 37] (fun _ => ([(2, .str name), (3, .sl 28 (l.map EI.enc)), (4, .ro a.enc), (5, .ro b.enc), (37, .bool (!fewB l || (decide ((100 : Int) < name.length) || (decide ((100 : Int) < a.event.length) || decide ((100 : Int) < b.event.length)))))], ⟨[], 20⟩)) ?_ (fun _ => ?_)
  · simp only [OpsW_n, StepW, pok, pval, VA.ev, Env.get, Env.put, Env.keep, unV, unOk, Heap.le, HL.le, Nat.succ_ne_self, Env.le, List.map, Nat.reduceEqDiff, ite_true, ite_false, true_and, and_true]
    refine ACall_p run.awake ?_
    simp only [OpsW_n, OpsW_y, StepW, pok, pval, VA.ev, Env.get, Env.put, pickV, isBool, unV, unOk, Nat.succ_ne_self, List.map, Nat.reduceEqDiff, Bool.false_eq_true, ite_true, ite_false, true_and, Bool.not_true]
    refine ACall_p (sp_pandectref27_Few l (by omega)) ?_
    cases e1 : fewB l with
    | false =>
      try simp only [OpsW_nil, OpsW_n, OpsW_xf, StepW, pok, pval, VA.ev, Env.get, Env.put, pickV, isBool, Nat.succ_ne_self, Nat.reduceEqDiff, Nat.reduceLeDiff, ite_true, ite_false, true_and, and_true, Bool.not_false]
      exact ⟨(), by first | trivial | rfl⟩
    | true =>
      cases e2 : decide ((100 : Int) < name.length) with
      | true =>
        try simp only [OpsW_nil, OpsW_n, OpsW_y, OpsW_xf, StepW, pok, pval, VA.ev, Env.get, Env.put, pickV, isBool, intV, binV, binOk, lenV, lenOk, Nat.succ_ne_self, Nat.reduceEqDiff, Nat.reduceLeDiff, Bool.false_eq_true, ite_true, ite_false, true_and, and_true, Bool.not_true, Sta.enc, e2]
        exact ⟨(), by first | trivial | rfl⟩
      | false =>
        cases e3 : decide ((100 : Int) < a.event.length) with
        | true =>
          try simp only [OpsW_nil, OpsW_n, OpsW_y, OpsW_xf, StepW, pok, pval, VA.ev, Env.get, Env.put, pickV, isBool, aggV, intV, binV, binOk, lenV, faddrV, isAddr, locCells, locOk, lenOk, PV.nth, Nat.le_refl, Nat.succ_ne_self, List.length, List.getD_cons_zero, List.take, List.drop, List.take_succ_cons, Nat.reduceEqDiff, Nat.reduceLeDiff, Bool.false_eq_true, ite_true, ite_false, true_and, and_true, implies_true, Nat.zero_add, List.length_cons, Bool.not_true, Sta.enc, e2, e3]
          exact ⟨(), by first | trivial | rfl⟩
        | false =>
          try simp only [OpsW_nil, OpsW_n, OpsW_y, StepW, pok, pval, VA.ev, Env.get, Env.put, pickV, isBool, aggV, intV, binV, binOk, lenV, faddrV, isAddr, locCells, locOk, lenOk, PV.nth, Nat.le_refl, Nat.succ_ne_self, List.length, List.getD_cons_zero, List.take, List.drop, List.take_succ_cons, Nat.reduceEqDiff, Nat.reduceLeDiff, Bool.false_eq_true, ite_true, ite_false, true_and, and_true, implies_true, Nat.zero_add, List.length_cons, Bool.not_true, Sta.enc, e2, e3]
          exact ⟨(), by first | trivial | rfl⟩
  refine VW_cond rfl (fun h1 => ?_) (fun h1 => ?_)
  · refine VW_seq (VW_region [8] ?_)
    simp only [OpsW_nil, OpsW_n, StepW, pok, pval, VA.ev, Env.get, Env.put, Env.keep, thenQ, List.map, Nat.reduceEqDiff, ite_true, ite_false, true_and]
    refine ACall_p run.awake ?_
    try simp only [OpsW_nil, OpsW_n, OpsW_y, OpsW_xt, OpsW_xf, OpsW_u, StepW, guardOf, DrawW_nil, DrawW_n, DrawW_y, DrawW_xt, DrawW_xf, DrawW_u, DrawH, VOp.isIaddr, QW, dok, dval, VOp.pure, VOp.simple, VOp.det, pok, pval, VA.ev, Env.get, Env.put, Env.keep, argEnv, thenQ, blockQ, retQ, resV, resOk, RS.ev, RS.ok, gd, pickV, isBool, aggV, intV, binV, binOk, strV, binbV, boolV, binbOk, unV, unOk, convV, isInt, isStr, numOf, loV, hiV, lenV, boundOk, sliceV, sliceOk, faddrV, isAddr, locCells, locOk, cellsOfAgg, isAggP, iaddrV, iaddrOk, idxV, idxOk, lenOk, extV, extOk, fillV, fillOk, mmV, PV.cells, PV.fits, overlay, PV.nth, PV.row, lookV, mapRows, mapOk, keysOk, keyOk, keyEq, mapFind, mapPut, mapHas, mapsetV, Heap.get, Heap.set, Heap.del, Heap.le, HL.get, HL.set, HL.del, HL.le, Heap.push, Heap.nil, Nat.le_refl, Nat.add_eq_left, Nat.left_eq_add, Nat.succ_ne_self, Nat.one_ne_zero, Env.le, killed, oldId, oldRows, oldOk, srcRows, srcOk, elemsV, elemsOk, eqOk, ekOk, eqCells, eqCell, storeV, storeOk, AB.live, pxV, pxOk, fxV, fxOk, isPtr, slLike, isNil, notNil, List.map, List.set, List.replicate, List.length, List.getD_cons_zero, List.getD_cons_succ, List.getD_nil, List.take, List.drop, List.take_zero, List.drop_zero, List.take_succ_cons, List.drop_succ_cons, List.append, List.cons_append, List.nil_append, Option.map, Nat.reduceEqDiff, Nat.reduceAdd, Nat.reduceLT, Nat.reduceLeDiff, Nat.reduceSub, Nat.reduceMul, reduceIte, Bool.false_eq_true, Bool.true_eq_false, ite_true, ite_false, if_true, if_false, true_and, and_true, implies_true, forall_const, ne_eq, not_false_eq_true, reduceCtorEq, BEq.rfl, beq_self_eq_true, Option.some.injEq, Nat.zero_add, Nat.add_zero, List.length_cons, List.length_nil, true_implies, imp_self, Int.reduceToNat, Int.toNat_natCast, Bool.not_false, Bool.not_true]
    refine VW_ret ?_
    try simp only [Env.get, thenQ, retQ, resV, resOk, RS.ev, RS.ok, ite_true, true_and, and_true]
    exact View.refl _ _
  simp only [Bool.or_eq_false_iff, Bool.not_eq_false', decide_eq_false_iff_not] at h1
  have h40 := few_len' h1.1
  refine VW_skip ?_
  try simp only [thenQ]
  refine VW_seq (VW_region [2, 3, 4, 5, 9, 10] ?_)
  simp only [OpsW_nil, OpsW_n, StepW, pok, pval, VA.ev, Env.get, Env.put, Env.keep, thenQ, extV, extOk, PV.nth, Nat.succ_ne_self, List.map, Nat.reduceEqDiff, ite_true, ite_false, true_and]
  refine ACall_p (sp_commencement_EventDay l name (by omega)) ?_
  try simp only [List.length, List.getD_cons_zero, List.getD_cons_succ, Nat.reduceAdd, Nat.reduceLT, true_and, Nat.zero_add]
  refine VW_seq (VW_region [3, 4, 5, 9, 10, 11, 12] ?_)
  simp only [OpsW_nil, OpsW_n, StepW, pok, pval, VA.ev, Env.get, Env.put, Env.keep, thenQ, extV, extOk, PV.nth, Nat.succ_ne_self, List.map, Nat.reduceEqDiff, ite_true, ite_false, true_and]
  refine ACall_p (sp_pandectref27_Event l name (by omega)) ?_
  try simp only [List.length, List.getD_cons_zero, List.getD_cons_succ, Nat.reduceAdd, Nat.reduceLT, true_and, Nat.zero_add]
  refine VW_seq (VW_region [3, 4, 5, 9, 10, 11, 12, 13] ?_)
  simp only [OpsW_nil, OpsW_n, StepW, pok, pval, VA.ev, Env.get, Env.put, Env.keep, thenQ, aggV, locCells, locOk, PV.cells, PV.fits, overlay, PV.nth, PV.row, Heap.get, Heap.set, HL.get, HL.set, Heap.push, Nat.le_refl, Nat.succ_ne_self, storeV, storeOk, List.map, List.set, List.length, List.getD_cons_zero, List.take, List.take_succ_cons, List.nil_append, Nat.reduceEqDiff, Nat.reduceAdd, Nat.reduceLT, Bool.true_eq_false, ite_true, ite_false, true_and, and_true, Nat.zero_add, List.length_cons, imp_self, Sta.enc]
  refine ACall_p (sp_commencement_EffectiveStart a b) ?_
  have l1 := initS_len (ruleS a b) l
  have l2 := initS_len a l
  have hb1 : ∀ x : Bool, (x == x) = true := fun x => by cases x <;> rfl
  generalize hrs : ruleS a b = rs at l1 ⊢
  try simp only [HL.del, List.length, List.drop, List.drop_succ_cons, List.cons_append, List.nil_append, Nat.reduceAdd, true_and, BEq.rfl, Nat.zero_add, List.length_cons, Sta.enc]
  have hR := sp_pandectref27_Rule a b
  rw [hrs] at hR
  have d1 : decide (initS rs l = initS rs l) = true := decide_eq_true rfl
  have d2 : decide (initS a l = initS a l) = true := decide_eq_true rfl
  generalize (eventS name l).1 = ev1
  generalize (eventS name l).2 = ev2
  refine VW_seq (VW_drawS [8] (by simp [Heap.le, HL.le, Heap.get, HL.get]) ?_)
  simp only [DrawW_n, DrawW_y, QW, dok, dval, VOp.pure, VOp.simple, VOp.det, pok, pval, VA.ev, Env.get, Env.put, Env.keep, thenQ, gd, pickV, isBool, aggV, intV, binV, binOk, binbV, boolV, binbOk, locCells, locOk, cellsOfAgg, isAggP, PV.nth, PV.row, Heap.get, HL.get, Nat.le_refl, Nat.succ_ne_self, List.length, List.getD_cons_zero, List.take, List.drop, List.take_succ_cons, Nat.reduceEqDiff, Nat.reduceAdd, Nat.reduceLT, Bool.true_eq_false, ite_true, ite_false, true_and, and_true, implies_true, forall_const, BEq.rfl, Nat.zero_add, List.length_cons, imp_self, Sta.enc]
  refine ⟨_, .inl hR, ?_⟩
  try simp only [DrawW_n, DrawW_y, QW, dok, dval, VOp.pure, VOp.simple, VOp.det, pok, pval, VA.ev, Env.get, Env.put, gd, pickV, isBool, aggV, locCells, locOk, PV.nth, PV.row, Heap.get, HL.get, Nat.le_refl, Nat.succ_ne_self, eqOk, ekOk, eqCells, eqCell, List.length, List.getD_cons_zero, List.take, List.drop, List.take_succ_cons, Nat.reduceEqDiff, Nat.reduceAdd, Nat.reduceLT, Bool.true_eq_false, ite_true, ite_false, true_and, and_true, implies_true, forall_const, BEq.rfl, Nat.zero_add, List.length_cons, imp_self, Sta.enc, Bool.bne_false, Bool.and_true]
  refine ⟨_, .inl (sp_commencement_Initial rs l (by omega)), ?_⟩
  try simp only [OpsW_nil, OpsW_n, OpsW_y, OpsW_xt, OpsW_xf, OpsW_u, StepW, guardOf, DrawW_nil, DrawW_n, DrawW_y, DrawW_xt, DrawW_xf, DrawW_u, DrawH, VOp.isIaddr, QW, dok, dval, VOp.pure, VOp.simple, VOp.det, pok, pval, VA.ev, Env.get, Env.put, Env.keep, argEnv, thenQ, blockQ, retQ, resV, resOk, RS.ev, RS.ok, gd, pickV, isBool, aggV, intV, binV, binOk, strV, binbV, boolV, binbOk, unV, unOk, convV, isInt, isStr, numOf, loV, hiV, lenV, boundOk, sliceV, sliceOk, faddrV, isAddr, locCells, locOk, cellsOfAgg, isAggP, iaddrV, iaddrOk, idxV, idxOk, lenOk, extV, extOk, fillV, fillOk, mmV, PV.cells, PV.fits, overlay, PV.nth, PV.row, lookV, mapRows, mapOk, keysOk, keyOk, keyEq, mapFind, mapPut, mapHas, mapsetV, Heap.get, Heap.set, Heap.del, Heap.le, HL.get, HL.set, HL.del, HL.le, Heap.push, Heap.nil, Nat.le_refl, Nat.add_eq_left, Nat.left_eq_add, Nat.succ_ne_self, Nat.one_ne_zero, Env.le, killed, oldId, oldRows, oldOk, srcRows, srcOk, elemsV, elemsOk, eqOk, ekOk, eqCells, eqCell, storeV, storeOk, AB.live, pxV, pxOk, fxV, fxOk, isPtr, slLike, isNil, notNil, List.map, List.set, List.replicate, List.length, List.getD_cons_zero, List.getD_cons_succ, List.getD_nil, List.take, List.drop, List.take_zero, List.drop_zero, List.take_succ_cons, List.drop_succ_cons, List.append, List.cons_append, List.nil_append, Option.map, Nat.reduceEqDiff, Nat.reduceAdd, Nat.reduceLT, Nat.reduceLeDiff, Nat.reduceSub, Nat.reduceMul, reduceIte, Bool.false_eq_true, Bool.true_eq_false, ite_true, ite_false, if_true, if_false, true_and, and_true, implies_true, forall_const, ne_eq, not_false_eq_true, reduceCtorEq, BEq.rfl, beq_self_eq_true, Option.some.injEq, Nat.zero_add, Nat.add_zero, List.length_cons, List.length_nil, true_implies, imp_self, Int.reduceToNat, Int.toNat_natCast, Bool.not_false, Bool.not_true, Sta.enc]
  refine ⟨_, .inl (sp_pandectref27_Begins rs l (by omega)), ?_⟩
  try simp only [OpsW_nil, OpsW_n, OpsW_y, OpsW_xt, OpsW_xf, OpsW_u, StepW, guardOf, DrawW_nil, DrawW_n, DrawW_y, DrawW_xt, DrawW_xf, DrawW_u, DrawH, VOp.isIaddr, QW, dok, dval, VOp.pure, VOp.simple, VOp.det, pok, pval, VA.ev, Env.get, Env.put, Env.keep, argEnv, thenQ, blockQ, retQ, resV, resOk, RS.ev, RS.ok, gd, pickV, isBool, aggV, intV, binV, binOk, strV, binbV, boolV, binbOk, unV, unOk, convV, isInt, isStr, numOf, loV, hiV, lenV, boundOk, sliceV, sliceOk, faddrV, isAddr, locCells, locOk, cellsOfAgg, isAggP, iaddrV, iaddrOk, idxV, idxOk, lenOk, extV, extOk, fillV, fillOk, mmV, PV.cells, PV.fits, overlay, PV.nth, PV.row, lookV, mapRows, mapOk, keysOk, keyOk, keyEq, mapFind, mapPut, mapHas, mapsetV, Heap.get, Heap.set, Heap.del, Heap.le, HL.get, HL.set, HL.del, HL.le, Heap.push, Heap.nil, Nat.le_refl, Nat.add_eq_left, Nat.left_eq_add, Nat.succ_ne_self, Nat.one_ne_zero, Env.le, killed, oldId, oldRows, oldOk, srcRows, srcOk, elemsV, elemsOk, eqOk, ekOk, eqCells, eqCell, storeV, storeOk, AB.live, pxV, pxOk, fxV, fxOk, isPtr, slLike, isNil, notNil, List.map, List.set, List.replicate, List.length, List.getD_cons_zero, List.getD_cons_succ, List.getD_nil, List.take, List.drop, List.take_zero, List.drop_zero, List.take_succ_cons, List.drop_succ_cons, List.append, List.cons_append, List.nil_append, Option.map, Nat.reduceEqDiff, Nat.reduceAdd, Nat.reduceLT, Nat.reduceLeDiff, Nat.reduceSub, Nat.reduceMul, reduceIte, Bool.false_eq_true, Bool.true_eq_false, ite_true, ite_false, if_true, if_false, true_and, and_true, implies_true, forall_const, ne_eq, not_false_eq_true, reduceCtorEq, BEq.rfl, beq_self_eq_true, Option.some.injEq, Nat.zero_add, Nat.add_zero, List.length_cons, List.length_nil, true_implies, imp_self, Int.reduceToNat, Int.toNat_natCast, Bool.not_false, Bool.not_true, Sta.enc]
  refine ⟨_, .inl (sp_pandectref02_Same _ _ (by omega) (by omega)), ?_⟩
  try simp only [DrawW_nil, DrawW_n, DrawW_y, QW, dok, dval, VOp.pure, VOp.simple, VOp.det, pok, pval, VA.ev, Env.get, Env.put, gd, pickV, isBool, aggV, locCells, locOk, PV.nth, Nat.le_refl, Nat.succ_ne_self, List.length, List.getD_cons_zero, List.take, List.take_succ_cons, Nat.reduceEqDiff, Nat.reduceAdd, Bool.true_eq_false, ite_true, ite_false, true_and, and_true, implies_true, forall_const, Nat.zero_add, List.length_cons, imp_self, decide_true, Sta.enc]
  refine ⟨_, .inl (sp_commencement_Initial a l (by omega)), ?_⟩
  try simp only [OpsW_nil, OpsW_n, OpsW_y, OpsW_xt, OpsW_xf, OpsW_u, StepW, guardOf, DrawW_nil, DrawW_n, DrawW_y, DrawW_xt, DrawW_xf, DrawW_u, DrawH, VOp.isIaddr, QW, dok, dval, VOp.pure, VOp.simple, VOp.det, pok, pval, VA.ev, Env.get, Env.put, Env.keep, argEnv, thenQ, blockQ, retQ, resV, resOk, RS.ev, RS.ok, gd, pickV, isBool, aggV, intV, binV, binOk, strV, binbV, boolV, binbOk, unV, unOk, convV, isInt, isStr, numOf, loV, hiV, lenV, boundOk, sliceV, sliceOk, faddrV, isAddr, locCells, locOk, cellsOfAgg, isAggP, iaddrV, iaddrOk, idxV, idxOk, lenOk, extV, extOk, fillV, fillOk, mmV, PV.cells, PV.fits, overlay, PV.nth, PV.row, lookV, mapRows, mapOk, keysOk, keyOk, keyEq, mapFind, mapPut, mapHas, mapsetV, Heap.get, Heap.set, Heap.del, Heap.le, HL.get, HL.set, HL.del, HL.le, Heap.push, Heap.nil, Nat.le_refl, Nat.add_eq_left, Nat.left_eq_add, Nat.succ_ne_self, Nat.one_ne_zero, Env.le, killed, oldId, oldRows, oldOk, srcRows, srcOk, elemsV, elemsOk, eqOk, ekOk, eqCells, eqCell, storeV, storeOk, AB.live, pxV, pxOk, fxV, fxOk, isPtr, slLike, isNil, notNil, List.map, List.set, List.replicate, List.length, List.getD_cons_zero, List.getD_cons_succ, List.getD_nil, List.take, List.drop, List.take_zero, List.drop_zero, List.take_succ_cons, List.drop_succ_cons, List.append, List.cons_append, List.nil_append, Option.map, Nat.reduceEqDiff, Nat.reduceAdd, Nat.reduceLT, Nat.reduceLeDiff, Nat.reduceSub, Nat.reduceMul, reduceIte, Bool.false_eq_true, Bool.true_eq_false, ite_true, ite_false, if_true, if_false, true_and, and_true, implies_true, forall_const, ne_eq, not_false_eq_true, reduceCtorEq, BEq.rfl, beq_self_eq_true, Option.some.injEq, Nat.zero_add, Nat.add_zero, List.length_cons, List.length_nil, true_implies, imp_self, Int.reduceToNat, Int.toNat_natCast, Bool.not_false, Bool.not_true, Sta.enc]
  refine ⟨_, .inl (sp_pandectref27_Begins a l (by omega)), ?_⟩
  try simp only [OpsW_nil, OpsW_n, OpsW_y, OpsW_xt, OpsW_xf, OpsW_u, StepW, guardOf, DrawW_nil, DrawW_n, DrawW_y, DrawW_xt, DrawW_xf, DrawW_u, DrawH, VOp.isIaddr, QW, dok, dval, VOp.pure, VOp.simple, VOp.det, pok, pval, VA.ev, Env.get, Env.put, Env.keep, argEnv, thenQ, blockQ, retQ, resV, resOk, RS.ev, RS.ok, gd, pickV, isBool, aggV, intV, binV, binOk, strV, binbV, boolV, binbOk, unV, unOk, convV, isInt, isStr, numOf, loV, hiV, lenV, boundOk, sliceV, sliceOk, faddrV, isAddr, locCells, locOk, cellsOfAgg, isAggP, iaddrV, iaddrOk, idxV, idxOk, lenOk, extV, extOk, fillV, fillOk, mmV, PV.cells, PV.fits, overlay, PV.nth, PV.row, lookV, mapRows, mapOk, keysOk, keyOk, keyEq, mapFind, mapPut, mapHas, mapsetV, Heap.get, Heap.set, Heap.del, Heap.le, HL.get, HL.set, HL.del, HL.le, Heap.push, Heap.nil, Nat.le_refl, Nat.add_eq_left, Nat.left_eq_add, Nat.succ_ne_self, Nat.one_ne_zero, Env.le, killed, oldId, oldRows, oldOk, srcRows, srcOk, elemsV, elemsOk, eqOk, ekOk, eqCells, eqCell, storeV, storeOk, AB.live, pxV, pxOk, fxV, fxOk, isPtr, slLike, isNil, notNil, List.map, List.set, List.replicate, List.length, List.getD_cons_zero, List.getD_cons_succ, List.getD_nil, List.take, List.drop, List.take_zero, List.drop_zero, List.take_succ_cons, List.drop_succ_cons, List.append, List.cons_append, List.nil_append, Option.map, Nat.reduceEqDiff, Nat.reduceAdd, Nat.reduceLT, Nat.reduceLeDiff, Nat.reduceSub, Nat.reduceMul, reduceIte, Bool.false_eq_true, Bool.true_eq_false, ite_true, ite_false, if_true, if_false, true_and, and_true, implies_true, forall_const, ne_eq, not_false_eq_true, reduceCtorEq, BEq.rfl, beq_self_eq_true, Option.some.injEq, Nat.zero_add, Nat.add_zero, List.length_cons, List.length_nil, true_implies, imp_self, Int.reduceToNat, Int.toNat_natCast, Bool.not_false, Bool.not_true, Sta.enc]
  refine ⟨_, .inl (sp_pandectref02_Same _ _ (by omega) (by omega)), ?_⟩
  try simp only [decide_true]
  refine VW_ret ?_
  try simp only [Env.get, retQ, resV, resOk, RS.ev, RS.ok, ite_true, true_and, and_true]
  exact View.refl _ _
end Go.Proofs.Ytepmaobfbfbecaa.w

