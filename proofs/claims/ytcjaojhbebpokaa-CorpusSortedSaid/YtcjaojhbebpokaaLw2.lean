/-
  Walks: the law CorpusSorted.
-/
import Derived.Test.YtcjaojhbebpokaaLwA
import Derived.Test.YtcjaojhbebpokaaQ2
set_option linter.all false
namespace Go.Proofs.Ytcjaojhbebpokaa.w
open Go Go.VM
set_option maxRecDepth 20000
set_option maxHeartbeats 0
set_option pp.deepTerms false
def c_pandectlaw28_CorpusSorted : VC := (.seq (.region [⟨(some 2), (.mv (.c (.bool false))), none⟩] false) (.seq (.seq (.region [⟨(some 10), (.mv (.t 0)), none⟩, ⟨(some 11), (.call 11 [(.t 10), (.c (.int .i64 30))]), none⟩, ⟨(some 12), (.un .not (.t 11)), none⟩] false) (.cond (.t 12) (.seq (.region [⟨(some 13), (.call 12 []), none⟩, ⟨(some 2), (.mv (.t 13)), none⟩] false) .ret) .skip)) (.seq (.region [⟨(some 14), (.mv (.t 0)), none⟩, ⟨(some 15), (.call 14 [(.t 14)]), none⟩, ⟨(some 3), (.mv (.t 15)), none⟩, ⟨(some 4), (.mv (.c (.int .i64 0))), none⟩] false) (.seq (.seq (.region [⟨(some 16), (.mv (.t 0)), none⟩, ⟨(some 17), (.call 25 [(.t 16)]), none⟩, ⟨(some 18), (.len false (.t 17)), none⟩, ⟨(some 19), (.mv (.c (.int .i64 0))), none⟩] false) (.block 0 (.loop (.seq (.region [⟨(some 20), (.bin .lss (.t 19) (.t 18)), none⟩] false) (.seq (.cond (.t 20) .skip (.exit 0)) (.seq (.block 1 (.seq (.region [⟨(some 21), (.iaddr 7 (.t 17) (.t 19)), none⟩, ⟨(some 22), (.load true 7 (.t 21)), none⟩, ⟨(some 6), (.alloc [(.int .i64 0), (.str []), (.int .i64 0), (.int .i64 0), (.int .i64 0), (.str []), .nilsl]), none⟩, ⟨none, (.store 7 (.t 6) (.t 22)), none⟩] false) (.region [⟨(some 23), (.mv (.t 4)), none⟩, ⟨(some 24), (.faddr 6 (.t 6)), none⟩, ⟨(some 25), (.load false 1 (.t 24)), none⟩, ⟨(some 26), (.len false (.t 25)), none⟩, ⟨(some 27), (.bin .add (.t 23) (.t 26)), none⟩, ⟨(some 4), (.mv (.t 27)), none⟩] false))) (.region [⟨(some 28), (.bin .add (.t 19) (.c (.int .i64 1))), none⟩, ⟨(some 19), (.mv (.t 28)), none⟩] false))))))) (.seq (.seq (.region [⟨(some 29), (.mv (.t 3)), none⟩, ⟨(some 30), (.len false (.t 29)), none⟩, ⟨(some 31), (.mv (.c (.int .i64 0))), none⟩] false) (.block 2 (.loop (.seq (.region [⟨(some 32), (.bin .lss (.t 31) (.t 30)), none⟩] false) (.seq (.cond (.t 32) .skip (.exit 2)) (.seq (.block 3 (.seq (.region [⟨(some 33), (.mv (.t 31)), none⟩, ⟨(some 7), (.mv (.t 33)), none⟩] false) (.seq (.seq (.region [⟨(some 34), (.mv (.t 7)), none⟩, ⟨(some 35), (.bin .gtr (.t 34) (.c (.int .i64 0))), none⟩, ⟨(some 36), (.mv (.t 35)), none⟩, ⟨(some 37), (.mv (.t 3)), (some (36, true))⟩, ⟨(some 38), (.mv (.t 7)), (some (36, true))⟩, ⟨(some 39), (.bin .sub (.t 38) (.c (.int .i64 1))), (some (36, true))⟩, ⟨(some 40), (.iaddr 28 (.t 37) (.t 39)), (some (36, true))⟩, ⟨(some 41), (.load true 28 (.t 40)), (some (36, true))⟩, ⟨(some 42), (.mv (.t 3)), (some (36, true))⟩, ⟨(some 43), (.mv (.t 7)), (some (36, true))⟩, ⟨(some 44), (.iaddr 28 (.t 42) (.t 43)), (some (36, true))⟩, ⟨(some 45), (.load true 28 (.t 44)), (some (36, true))⟩, ⟨(some 46), (.call 23 [(.t 41), (.t 45)]), (some (36, true))⟩, ⟨(some 47), (.bin .geq (.t 46) (.c (.int .i64 0))), (some (36, true))⟩, ⟨(some 48), (.pick (.t 36) (.t 47) (.c (.bool false))), none⟩] true) (.cond (.t 48) (.seq (.region [⟨(some 2), (.mv (.c (.bool false))), none⟩] false) .ret) .skip)) (.seq (.draw2 [⟨(some 50), (.mv (.t 3)), none⟩, ⟨(some 51), (.mv (.t 7)), none⟩, ⟨(some 52), (.iaddr 28 (.t 50) (.t 51)), none⟩, ⟨(some 53), (.faddr 0 (.t 52)), none⟩, ⟨(some 54), (.load false 1 (.t 53)), none⟩, ⟨(some 55), (.mv (.t 3)), none⟩, ⟨(some 56), (.mv (.t 7)), none⟩, ⟨(some 57), (.iaddr 28 (.t 55) (.t 56)), none⟩, ⟨(some 58), (.faddr 1 (.t 57)), none⟩, ⟨(some 59), (.load false 1 (.t 58)), none⟩, ⟨(some 60), (.mv (.t 0)), none⟩, ⟨(some 61), (.call 16 [(.t 54), (.t 59), (.t 60)]), none⟩, ⟨(some 49), (.mv (.t 61)), none⟩, ⟨(some 62), (.ext (.t 49) 0), none⟩, ⟨(some 63), (.ext (.t 49) 1), none⟩, ⟨(some 8), (.alloc [(.int .i64 0), (.int .i64 0), (.int .i64 0), (.int .i64 0), .nilsl, .nilsl, (.int .i64 0), (.int .i64 0), (.int .i64 0), (.int .i64 0), (.int .i64 0), (.int .i64 0), (.str []), .nilsl, .nilsl, .nilsl, .nilsl, .nilsl, (.str []), (.str []), (.int .i64 0), (.int .i64 0), (.str []), (.int .i64 0), (.int .i64 0), (.int .i64 0), (.str []), .nilsl]), none⟩, ⟨none, (.store 28 (.t 8) (.t 62)), none⟩, ⟨(some 9), (.mv (.t 63)), none⟩] [true, true, true, true, true, true, true, true, true, true, true, true, true, true, false, true, false, false]) (.seq (.region [⟨(some 64), (.mv (.t 9)), none⟩, ⟨(some 65), (.un .not (.t 64)), none⟩, ⟨(some 66), (.mv (.t 65)), none⟩, ⟨(some 67), (.load true 28 (.t 8)), (some (66, false))⟩, ⟨(some 68), (.mv (.t 3)), (some (66, false))⟩, ⟨(some 69), (.mv (.t 7)), (some (66, false))⟩, ⟨(some 70), (.iaddr 28 (.t 68) (.t 69)), (some (66, false))⟩, ⟨(some 71), (.load true 28 (.t 70)), (some (66, false))⟩, ⟨(some 72), (.call 18 [(.t 67), (.t 71)]), (some (66, false))⟩, ⟨(some 73), (.un .not (.t 72)), (some (66, false))⟩, ⟨(some 74), (.pick (.t 66) (.c (.bool true)) (.t 73)), none⟩] true) (.cond (.t 74) (.seq (.region [⟨(some 2), (.mv (.c (.bool false))), none⟩] false) .ret) .skip)))))) (.region [⟨(some 75), (.bin .add (.t 31) (.c (.int .i64 1))), none⟩, ⟨(some 31), (.mv (.t 75)), none⟩] false))))))) (.seq (.region [⟨(some 76), (.mv (.t 3)), none⟩, ⟨(some 77), (.len false (.t 76)), none⟩, ⟨(some 78), (.mv (.t 4)), none⟩, ⟨(some 79), (.bin .eql (.t 77) (.t 78)), none⟩, ⟨(some 80), (.mv (.t 79)), none⟩, ⟨(some 81), (.call 12 []), (some (80, true))⟩, ⟨(some 82), (.pick (.t 80) (.t 81) (.c (.bool false))), none⟩, ⟨(some 2), (.mv (.t 82)), none⟩] false) .ret))))))
theorem law_CorpusSorted (l : List Gz) (hok : okL Gz.okZ l) (_ : l.length * 56 ≤ 140737488351232) : PCall Try.prog 6 [.sl 4 (l.map Gz.enc)] (.bool true) := by
  refine PCall_intro ?_ (cB _) (by simp only [ClosedL, List.mem_cons, List.not_mem_nil, or_false, forall_eq_or_imp, forall_eq, false_implies, implies_true]; repeat' (first | exact cI _ | exact cS _ | exact cB _ | exact closed_fn0 _ | exact closed_nilsl | exact closed_agg (Un.closed _) | exact closed_agg (It.closed _) | exact closed_agg (EI.closed _) | exact closed_agg (Ac.closed _) | exact closed_agg (Wd.closed _) | exact closed_agg (St.closed _) | exact closed_agg (Sta.closed _) | exact closed_eis _ | exact closed_acs _ | exact closed_gzs _ | exact Closed.of_scalar (scalar_int _ _) | exact closed_ro (Ac.closed _) | exact closed_ro (Gz.closed _) | exact closed_agg (Gz.closed _) | exact closed_strs _ | exact closed_map (fun w _ => Wd.closed w) | exact closed_map (fun w _ => St.closed w) | exact closed_map (fun w _ => Un.closed w) | exact closed_map (fun w _ => It.closed w) | exact closed_sc _ | exact closed_sps _ | exact closed_agg (Sp.closed _) | exact closed_ro (EI.closed _) | exact closed_ro (Sta.closed _) | exact closed_ro (It.closed _) | exact closed_ro (by simp only [List.mem_cons, List.not_mem_nil, or_false, forall_eq]; first | exact cI _ | exact cS _ | exact closed_eis _) | refine And.intro ?_ ?_))
  refine ACall_fn (vc := c_pandectlaw28_CorpusSorted) (ts := [.t 2]) Go.Proofs.Try.func6 (by kernel_rfl) rfl rfl (Nat.le_of_ble_eq_true rfl) (by kernel_rfl) ?_
  unfold c_pandectlaw28_CorpusSorted
  refine VW_seq (VW_region [0] ?_)
  simp only [OpsW_nil, OpsW_n, StepW, pok, pval, VA.ev, Env.get, Env.put, Env.keep, argEnv, thenQ, Heap.nil, ite_true, ite_false, true_and, reduceCtorEq]
  refine VW_seq ?_
  refine VW_seq (VW_region [0, 12] ?_)
  simp only [OpsW_nil, OpsW_n, StepW, pok, pval, VA.ev, Env.get, Env.put, Env.keep, thenQ, unV, unOk, List.map, Nat.reduceEqDiff, ite_true, ite_false, true_and, reduceCtorEq]
  refine ACall_ps (few30 hok) ?_
  rintro p ⟨b, rfl, hb⟩
  simp only [true_and]
  refine VW_cond rfl (fun h1 => ?_) (fun h1 => ?_)
  · refine VW_seq (VW_region [2] ?_)
    simp only [OpsW_nil, OpsW_n, StepW, pok, pval, VA.ev, Env.get, Env.put, Env.keep, thenQ, List.map, Nat.reduceEqDiff, ite_true, ite_false, true_and, reduceCtorEq]
    refine ACall_p run.awake ?_
    try simp only [midQ, OpsW_nil, OpsW_n, OpsW_y, OpsW_xt, OpsW_xf, OpsW_u, StepW, guardOf, DrawW_nil, DrawW_n, DrawW_y, DrawW_xt, DrawW_xf, DrawW_u, DrawH, VOp.isIaddr, QW, dok, dval, VOp.pure, VOp.simple, VOp.det, pok, pval, VA.ev, Env.get, Env.put, Env.keep, argEnv, thenQ, blockQ, retQ, resV, resOk, RS.ev, RS.ok, gd, pickV, isBool, aggV, intV, binV, binOk, strV, binbV, boolV, binbOk, unV, unOk, convV, isInt, isStr, numOf, loV, hiV, lenV, boundOk, sliceV, sliceOk, faddrV, isAddr, locCells, locOk, cellsOfAgg, isAggP, iaddrV, iaddrOk, idxV, idxOk, lenOk, extV, extOk, fillV, fillOk, mmV, PV.cells, PV.fits, overlay, PV.nth, PV.row, lookV, mapRows, mapOk, keysOk, keyOk, keyEq, mapFind, mapPut, mapHas, mapsetV, Heap.get, Heap.set, Heap.del, Heap.le, HL.get, HL.set, HL.del, HL.le, Heap.push, Heap.nil, Nat.le_refl, Nat.add_eq_left, Nat.left_eq_add, Nat.succ_ne_self, Nat.one_ne_zero, Env.le, killed, oldId, oldRows, oldOk, srcRows, srcOk, elemsV, elemsOk, eqOk, ekOk, eqCells, eqCell, storeV, storeOk, AB.live, pxV, pxOk, fxV, fxOk, isPtr, slLike, isNil, notNil, List.map, List.set, List.replicate, List.length, List.getD_cons_zero, List.getD_cons_succ, List.getD_nil, List.take, List.drop, List.take_zero, List.drop_zero, List.take_succ_cons, List.drop_succ_cons, List.append, List.cons_append, List.nil_append, Option.map, Nat.reduceEqDiff, Nat.reduceAdd, Nat.reduceLT, Nat.reduceLeDiff, Nat.reduceSub, Nat.reduceMul, reduceIte, Bool.false_eq_true, Bool.true_eq_false, ite_true, ite_false, if_true, if_false, true_and, and_true, implies_true, forall_const, ne_eq, not_false_eq_true, reduceCtorEq, BEq.rfl, beq_self_eq_true, Option.some.injEq, Nat.zero_add, Nat.add_zero, List.length_cons, List.length_nil, true_implies, imp_self, Int.reduceToNat, Int.toNat_natCast, Bool.not_false, Bool.not_true]
    refine VW_ret ?_
    try simp only [Env.get, thenQ, retQ, resV, resOk, RS.ev, RS.ok, ite_true, true_and, and_true]
    exact View.refl _ _
  have hn := hb (by simpa using h1)
  refine VW_skip ?_
  try simp only [thenQ]
  refine VW_seq (VW_region [0, 3, 4] ?_)
  simp only [OpsW_nil, OpsW_n, StepW, pok, pval, VA.ev, Env.get, Env.put, Env.keep, thenQ, Nat.succ_ne_self, List.map, Nat.reduceEqDiff, ite_true, ite_false, true_and, reduceCtorEq]
  refine ACall_p (sp_corpus_EnactedItems l hn.smal.len hn.smal.row hn.smal.items) ?_
  have hfm : ∀ d ∈ deedsS (actsS (rowG l)), fnd d.act d.item l = some d := fun d hd => fnd_mem hd
  have hlt := deedsS_lt (rowG l)
  have hdok := hn.deeds_ok
  have hlen : (deedsS (actsS (rowG l))).length = (itemsS (actsS (rowG l))).length := by unfold deedsS; rw [deedsF_len]
  have hsm := hn.smal.items
  generalize deedsS (actsS (rowG l)) = ds at hfm hlt hdok hlen ⊢
  try simp only [midQ, OpsW_nil, OpsW_n, OpsW_y, OpsW_xt, OpsW_xf, OpsW_u, StepW, guardOf, DrawW_nil, DrawW_n, DrawW_y, DrawW_xt, DrawW_xf, DrawW_u, DrawH, VOp.isIaddr, QW, dok, dval, VOp.pure, VOp.simple, VOp.det, pok, pval, VA.ev, Env.get, Env.put, Env.keep, argEnv, thenQ, blockQ, retQ, resV, resOk, RS.ev, RS.ok, gd, pickV, isBool, aggV, intV, binV, binOk, strV, binbV, boolV, binbOk, unV, unOk, convV, isInt, isStr, numOf, loV, hiV, lenV, boundOk, sliceV, sliceOk, faddrV, isAddr, locCells, locOk, cellsOfAgg, isAggP, iaddrV, iaddrOk, idxV, idxOk, lenOk, extV, extOk, fillV, fillOk, mmV, PV.cells, PV.fits, overlay, PV.nth, PV.row, lookV, mapRows, mapOk, keysOk, keyOk, keyEq, mapFind, mapPut, mapHas, mapsetV, Heap.get, Heap.set, Heap.del, Heap.le, HL.get, HL.set, HL.del, HL.le, Heap.push, Heap.nil, Nat.le_refl, Nat.add_eq_left, Nat.left_eq_add, Nat.succ_ne_self, Nat.one_ne_zero, Env.le, killed, oldId, oldRows, oldOk, srcRows, srcOk, elemsV, elemsOk, eqOk, ekOk, eqCells, eqCell, storeV, storeOk, AB.live, pxV, pxOk, fxV, fxOk, isPtr, slLike, isNil, notNil, List.map, List.set, List.replicate, List.length, List.getD_cons_zero, List.getD_cons_succ, List.getD_nil, List.take, List.drop, List.take_zero, List.drop_zero, List.take_succ_cons, List.drop_succ_cons, List.append, List.cons_append, List.nil_append, Option.map, Nat.reduceEqDiff, Nat.reduceAdd, Nat.reduceLT, Nat.reduceLeDiff, Nat.reduceSub, Nat.reduceMul, reduceIte, Bool.false_eq_true, Bool.true_eq_false, ite_true, ite_false, if_true, if_false, true_and, and_true, implies_true, forall_const, ne_eq, not_false_eq_true, reduceCtorEq, BEq.rfl, beq_self_eq_true, Option.some.injEq, Nat.zero_add, Nat.add_zero, List.length_cons, List.length_nil, true_implies, imp_self, Int.reduceToNat, Int.toNat_natCast, Bool.not_false, Bool.not_true]
  refine VW_seq ?_
  refine VW_seq (VW_region [0, 3, 4, 17, 18, 19] ?_)
  simp only [OpsW_nil, OpsW_n, StepW, pok, pval, VA.ev, Env.get, Env.put, Env.keep, thenQ, lenV, lenOk, Nat.succ_ne_self, List.map, Nat.reduceEqDiff, Bool.false_eq_true, ite_true, ite_false, true_and, reduceCtorEq]
  refine ACall_p (sp_corpus_Acts l hn.smal.len hn.smal.row) ?_
  have hal : (actsS (rowG l)).length ≤ 1000000 := by
    have h1 := foldIns_len (fstA [] (rowG l)) []
    have h2 := fst_le (rowG l) []
    have := hn.row
    unfold actsS
    simp only [List.length_nil] at h1
    omega
  generalize actsS (rowG l) = acts at hlen hsm hal ⊢
  try simp only [true_and, List.length_map]
  refine VW_block ?_
  refine VW_loop (σ := { s : Nat × Nat // s.1 ≤ acts.length }) (fun s => ([(0, .sl 4 (l.map Gz.enc)), (3, .sl 28 (ds.map EI.enc)), (4, pI (itemsS (acts.take s.1.1)).length), (17, .sl 7 (acts.map Ac.enc)), (18, pI acts.length), (19, pI s.1.1)], ⟨[], s.1.2⟩)) (fun s => acts.length - s.1.1) ⟨(0, 0), Nat.zero_le _⟩ ?_ ?_ ?_
  · try simp only [Env.get, Nat.succ_ne_self, Env.le, List.take, Nat.reduceEqDiff, ite_true, ite_false, true_and, and_true, reduceCtorEq, List.length_nil, List.take_zero, itemsS, List.flatMap_nil]
    all_goals (repeat' (first | rfl | trivial | omega | (simp only []; omega) | refine And.intro ?_ ?_))
  · try simp only [Heap.le, HL.le, Nat.le_refl, and_true]
    all_goals (repeat' (first | rfl | trivial | omega | (simp only []; omega) | refine And.intro ?_ ?_))
  rintro ⟨⟨i, t⟩, hi⟩
  simp only [] at hi ⊢
  refine VW_seq (VW_region [0, 3, 4, 17, 18, 19, 20] ?_)
  simp only [OpsW_nil, OpsW_n, StepW, pok, pval, VA.ev, Env.get, Env.put, Env.keep, thenQ, intV, binV, binOk, Heap.le, HL.le, Nat.succ_ne_self, Env.le, Nat.reduceEqDiff, ite_true, ite_false, true_and, and_true, reduceCtorEq]
  refine VW_seq ?_
  refine VW_cond rfl (fun h2 => ?_) (fun h2 => ?_)
  · refine VW_skip ?_
    try simp only [thenQ]
    simp only [decide_eq_true_eq] at h2
    have ia : i < acts.length := by omega
    have hrow := itemsS_take ia
    have hle := itemsS_le acts (i + 1)
    rw [hrow, List.length_append] at hle
    refine VW_seq ?_
    refine VW_block ?_
    refine VW_seq (VW_region [0, 3, 4, 6, 17, 18, 19] ?_)
    simp only [OpsW_nil, OpsW_n, StepW, pok, pval, VA.ev, Env.get, Env.put, Env.keep, thenQ, aggV, isInt, numOf, lenV, locCells, locOk, iaddrV, iaddrOk, PV.cells, PV.fits, overlay, PV.nth, PV.row, Heap.get, Heap.set, HL.get, HL.set, HL.del, Heap.push, Nat.le_refl, Nat.succ_ne_self, storeV, storeOk, List.set, List.length, List.getD_cons_zero, List.take, List.drop, List.drop_succ_cons, List.nil_append, Nat.reduceEqDiff, Nat.reduceAdd, Nat.reduceLT, Bool.true_eq_false, ite_true, ite_false, true_and, and_true, reduceCtorEq, BEq.rfl, Nat.zero_add, imp_self, Int.toNat_natCast, List.length_map, rowm ia, ac_take, ac_len, ac_drop, List.append_nil]
    repeat (with_reducible refine And.intro ?_ ?_; first | omega | (with_reducible constructor <;> omega) | exact False.elim | exact True.intro)
    refine VW_region [0, 3, 4, 17, 18, 19] ?_
    simp only [OpsW_nil, OpsW_n, StepW, pok, pval, VA.ev, Env.get, Env.put, Env.keep, thenQ, blockQ, aggV, intV, binV, binOk, lenV, faddrV, isAddr, locCells, locOk, lenOk, PV.nth, PV.row, Heap.get, HL.get, Nat.le_refl, Nat.succ_ne_self, List.length, List.getD_cons_zero, Nat.reduceEqDiff, Nat.reduceLT, Bool.false_eq_true, ite_true, ite_false, true_and, and_true, implies_true, reduceCtorEq, Nat.zero_add, List.length_map, ac_items0, ac_l6, ac_len, adI (a := (itemsS (acts.take i)).length) (b := acts[i].items.length) (by omega)]
    refine VW_region [0, 3, 4, 17, 18, 19] ?_
    simp only [OpsW_nil, OpsW_n, StepW, pok, pval, VA.ev, Env.get, Env.put, Env.keep, thenQ, intV, binV, binOk, Nat.succ_ne_self, Nat.reduceEqDiff, ite_true, ite_false, true_and, reduceCtorEq, ad1 (a := i) (by omega)]
    refine ⟨⟨(i + 1, t + 1), ia⟩, ?_⟩
    rw [hrow, List.length_append]
    try simp only [Nat.le_refl, true_and, and_true]
    all_goals (repeat' (first | rfl | trivial | omega | (simp only []; omega) | refine And.intro ?_ ?_))
  simp only [decide_eq_false_iff_not] at h2
  obtain rfl : i = acts.length := by omega
  rw [List.take_length]
  refine VW_exit ?_
  try simp only [thenQ, blockQ, retQ, ite_true]
  refine VW_seq ?_
  refine VW_seq (VW_region [0, 3, 4, 30, 31] ?_)
  simp only [OpsW_nil, OpsW_n, StepW, pok, pval, VA.ev, Env.get, Env.put, Env.keep, thenQ, lenV, lenOk, Nat.succ_ne_self, Nat.reduceEqDiff, ite_true, ite_false, true_and, reduceCtorEq, List.length_map]
  refine VW_block ?_
  refine VW_loop (σ := { s : Nat × Nat // s.1 ≤ ds.length }) (fun s => ([(0, .sl 4 (l.map Gz.enc)), (3, .sl 28 (ds.map EI.enc)), (4, pI (itemsS acts).length), (30, pI ds.length), (31, pI s.1.1)], ⟨[], s.1.2⟩)) (fun s => ds.length - s.1.1) ⟨(0, t), Nat.zero_le _⟩ ?_ ?_ ?_
  · try simp only [Env.get, Nat.succ_ne_self, Env.le, Nat.reduceEqDiff, ite_true, ite_false, true_and, and_true, reduceCtorEq]
    all_goals (repeat' (first | rfl | trivial | omega | (simp only []; omega) | refine And.intro ?_ ?_))
  · try simp only [Heap.le, HL.le, Nat.le_refl, and_true]
    all_goals (repeat' (first | rfl | trivial | omega | (simp only []; omega) | refine And.intro ?_ ?_))
  clear h2 hi
  rintro ⟨⟨i, t⟩, hi⟩
  simp only [] at hi ⊢
  refine VW_seq (VW_region [0, 3, 4, 30, 31, 32] ?_)
  simp only [OpsW_nil, OpsW_n, StepW, pok, pval, VA.ev, Env.get, Env.put, Env.keep, thenQ, intV, binV, binOk, Heap.le, HL.le, Nat.succ_ne_self, Env.le, Nat.reduceEqDiff, ite_true, ite_false, true_and, and_true, reduceCtorEq]
  refine VW_seq ?_
  refine VW_cond rfl (fun h3 => ?_) (fun h3 => ?_)
  · refine VW_skip ?_
    try simp only [thenQ]
    simp only [decide_eq_true_eq] at h3
    have ia : i < ds.length := by omega
    have hfi := hfm _ (List.getElem_mem ia)
    have hoki := hdok _ (List.getElem_mem ia)
    have hprev : ∀ (k : Nat) (h : k + 1 < ds.length), cmpE ds[k] ds[k + 1] = -1 := fun k h => cmpE_lt (List.pairwise_iff_getElem.1 hlt k (k + 1) (by omega) h (by omega))
    have rx := rowm (enc := EI.enc) ia
    refine VW_seq ?_
    refine VW_block ?_
    refine VW_seq (VW_region [0, 3, 4, 7, 30, 31] ?_)
    simp only [OpsW_nil, OpsW_n, StepW, pok, pval, VA.ev, Env.get, Env.put, Env.keep, thenQ, Nat.succ_ne_self, Nat.reduceEqDiff, ite_true, ite_false, true_and, reduceCtorEq]
    refine VW_seq ?_
    refine VW_mid (σ := Unit) (fun _ => ([(0, .sl 4 (l.map Gz.enc)), (3, .sl 28 (ds.map EI.enc)), (4, pI (itemsS acts).length), (7, pI i), (30, pI ds.length), (31, pI i)], ⟨[], t⟩)) ?_ (fun _ => ?_)
    · refine VW_seq (VW_drawS [0, 3, 4, 7, 30, 31, 48] (by simp [Heap.le, Heap.get, HL.le, HL.get]) ?_)
      cases i with
      | zero =>
        have e0 : decide ((0 : Int) < ((0 : Nat) : Int)) = false := rfl
        simp only [DrawW_nil, DrawW_n, DrawW_xt, QW, dok, dval, VOp.pure, VOp.simple, VOp.det, pok, pval, VA.ev, Env.get, Env.put, Env.keep, thenQ, gd, pickV, isBool, intV, binV, binOk, Nat.succ_ne_self, Nat.reduceEqDiff, Bool.false_eq_true, ite_true, ite_false, true_and, implies_true, reduceCtorEq, e0]
        refine VW_cond rfl (fun h4 => by cases h4) (fun h4 => ?_)
        refine VW_skip ?_
        try simp only [midQ, Env.get, Heap.le, HL.le, Nat.le_refl, Nat.succ_ne_self, Env.le, Nat.reduceEqDiff, ite_true, ite_false, and_true, reduceCtorEq]
        exact ⟨(), by first | trivial | rfl | exact ⟨rfl, rfl⟩⟩
      | succ k =>
        have e0 : decide ((0 : Int) < ((k + 1 : Nat) : Int)) = true := decide_eq_true (by omega)
        have e1 : IntKind.i64.wrap (((k + 1 : Nat) : Int) - 1) = ((k : Nat) : Int) := by rw [w64 (by omega) (by omega)]; omega
        have ka : k < ds.length := by omega
        simp only [DrawW_nil, DrawW_n, DrawW_y, QW, dok, dval, VOp.pure, VOp.simple, VOp.det, pok, pval, VA.ev, Env.get, Env.put, Env.keep, thenQ, gd, pickV, isBool, aggV, intV, binV, binOk, strV, isInt, numOf, lenV, locCells, locOk, iaddrV, iaddrOk, PV.nth, PV.row, Nat.le_refl, Nat.succ_ne_self, Nat.reduceEqDiff, Bool.true_eq_false, ite_true, ite_false, true_and, and_true, implies_true, forall_const, reduceCtorEq, imp_self, Int.toNat_natCast, e0, e1, List.length_map, rowm ka, rx, ei_t28, ei_l28]
        repeat (with_reducible refine And.intro ?_ ?_; first | omega | (with_reducible constructor <;> omega) | exact False.elim | exact True.intro)
        refine ⟨_, .inl (sp23 ..), ?_⟩
        rw [hprev k ia]
        try simp only [true_and]
        refine VW_cond rfl (fun h4 => by cases h4) (fun h4 => ?_)
        refine VW_skip ?_
        try simp only [midQ, Env.get, Heap.le, HL.le, Nat.le_refl, Nat.succ_ne_self, Env.le, Nat.reduceEqDiff, ite_true, ite_false, and_true, reduceCtorEq]
        exact ⟨(), by first | trivial | rfl | exact ⟨rfl, rfl⟩⟩
    generalize hx : ds[i] = x at hfi hoki rx
    have qi0 : (t = (t + 1)) = False := eq_false (by omega)
    have qi1 : ((t + 1) = t) = False := eq_false (by omega)
    refine VW_seq (VW_draw2E (t + 10) [0, 3, 4, 7, 8, 9, 30, 31] (by simp) ?_)
    simp only [StepW, DrawW_nil, DrawW_n, QW, dok, dval, VOp.pure, VOp.simple, VOp.det, pok, pval, VA.ev, Env.get, Env.put, Env.keep, thenQ, gd, aggV, isInt, numOf, lenV, faddrV, isAddr, locCells, locOk, iaddrV, iaddrOk, extV, extOk, PV.cells, PV.fits, overlay, PV.nth, PV.row, Heap.get, Heap.set, Heap.le, HL.get, HL.set, HL.del, HL.le, Heap.push, Nat.le_refl, Nat.succ_ne_self, storeV, storeOk, List.set, List.length, List.getD_cons_zero, List.take, List.drop, List.nil_append, Nat.reduceEqDiff, Nat.reduceAdd, Nat.reduceLT, Nat.reduceLeDiff, Bool.false_eq_true, ite_true, ite_false, true_and, and_true, implies_true, forall_const, reduceCtorEq, Nat.zero_add, Int.toNat_natCast, List.length_map, rx, ei_act, ei_item, ei_l1, ei_l28, qi0, qi1]
    repeat (with_reducible refine And.intro ?_ ?_; first | omega | (with_reducible constructor <;> omega) | exact False.elim | exact True.intro)
    refine ⟨_, .inl (find_nice hn x.act x.item), ?_⟩
    rw [hfi]
    simp only [List.length, List.getD_cons_zero, List.getD_cons_succ, List.drop, List.drop_succ_cons, Nat.reduceAdd, Nat.reduceLT, true_and, BEq.rfl, Nat.zero_add, resF, Option.getD_some, Option.isSome_some, ei_l28, ei_d28, List.append_nil, qi0, qi1]
    repeat (with_reducible refine And.intro ?_ ?_; first | omega | (with_reducible constructor <;> omega) | exact False.elim | exact True.intro)
    try simp only [midQ, OpsW_nil, OpsW_n, OpsW_y, OpsW_xt, OpsW_xf, OpsW_u, StepW, guardOf, DrawW_nil, DrawW_n, DrawW_y, DrawW_xt, DrawW_xf, DrawW_u, DrawH, VOp.isIaddr, QW, dok, dval, VOp.pure, VOp.simple, VOp.det, pok, pval, VA.ev, Env.get, Env.put, Env.keep, argEnv, thenQ, blockQ, retQ, resV, resOk, RS.ev, RS.ok, gd, pickV, isBool, aggV, intV, binV, binOk, strV, binbV, boolV, binbOk, unV, unOk, convV, isInt, isStr, numOf, loV, hiV, lenV, boundOk, sliceV, sliceOk, faddrV, isAddr, locCells, locOk, cellsOfAgg, isAggP, iaddrV, iaddrOk, idxV, idxOk, lenOk, extV, extOk, fillV, fillOk, mmV, PV.cells, PV.fits, overlay, PV.nth, PV.row, lookV, mapRows, mapOk, keysOk, keyOk, keyEq, mapFind, mapPut, mapHas, mapsetV, Heap.get, Heap.set, Heap.del, Heap.le, HL.get, HL.set, HL.del, HL.le, Heap.push, Heap.nil, Nat.le_refl, Nat.add_eq_left, Nat.left_eq_add, Nat.succ_ne_self, Nat.one_ne_zero, Env.le, killed, oldId, oldRows, oldOk, srcRows, srcOk, elemsV, elemsOk, eqOk, ekOk, eqCells, eqCell, storeV, storeOk, AB.live, pxV, pxOk, fxV, fxOk, isPtr, slLike, isNil, notNil, List.map, List.set, List.replicate, List.length, List.getD_cons_zero, List.getD_cons_succ, List.getD_nil, List.take, List.drop, List.take_zero, List.drop_zero, List.take_succ_cons, List.drop_succ_cons, List.append, List.cons_append, List.nil_append, Option.map, Nat.reduceEqDiff, Nat.reduceAdd, Nat.reduceLT, Nat.reduceLeDiff, Nat.reduceSub, Nat.reduceMul, reduceIte, Bool.false_eq_true, Bool.true_eq_false, ite_true, ite_false, if_true, if_false, true_and, and_true, implies_true, forall_const, ne_eq, not_false_eq_true, reduceCtorEq, BEq.rfl, beq_self_eq_true, Option.some.injEq, Nat.zero_add, Nat.add_zero, List.length_cons, List.length_nil, true_implies, imp_self, Int.reduceToNat, Int.toNat_natCast, Bool.not_false, Bool.not_true, qi0, qi1]
    refine VW_seq (VW_drawS [0, 3, 4, 30, 31, 74] (by simp [Heap.le, Heap.get, HL.le, HL.get]) ?_)
    simp only [DrawW_nil, DrawW_n, DrawW_y, QW, dok, dval, VOp.pure, VOp.simple, VOp.det, pok, pval, VA.ev, Env.get, Env.put, Env.keep, thenQ, gd, pickV, isBool, aggV, unV, unOk, isInt, numOf, lenV, locCells, locOk, iaddrV, iaddrOk, PV.nth, PV.row, Heap.get, HL.get, Nat.le_refl, Nat.succ_ne_self, List.length, List.getD_cons_zero, List.drop, Nat.reduceEqDiff, Nat.reduceLT, Bool.false_eq_true, Bool.true_eq_false, ite_true, ite_false, true_and, and_true, implies_true, forall_const, reduceCtorEq, Nat.zero_add, imp_self, Int.toNat_natCast, Bool.not_true, List.length_map, rx, ei_t28, ei_l28, qi0, qi1]
    repeat (with_reducible refine And.intro ?_ ?_; first | omega | (with_reducible constructor <;> omega) | exact False.elim | exact True.intro)
    refine ⟨_, .inl (sp_pandectref28_Same x x hoki hoki), ?_⟩
    rw [eqB_t rfl]
    try simp only [true_and, Bool.not_true]
    refine VW_cond rfl (fun h4 => by cases h4) (fun h4 => ?_)
    refine VW_skip ?_
    try simp only [thenQ, blockQ]
    refine VW_region [0, 3, 4, 30, 31] ?_
    simp only [OpsW_nil, OpsW_n, StepW, pok, pval, VA.ev, Env.get, Env.put, Env.keep, thenQ, intV, binV, binOk, Nat.succ_ne_self, Nat.reduceEqDiff, ite_true, ite_false, true_and, reduceCtorEq, ad1 (a := i) (by omega)]
    refine ⟨⟨(i + 1, t + 1), ia⟩, ?_⟩
    try simp only [Nat.le_refl, true_and]
    all_goals (repeat' (first | rfl | trivial | omega | (simp only []; omega) | refine And.intro ?_ ?_))
  · refine VW_exit ?_
    try simp only [thenQ, blockQ, retQ, ite_true]
    refine VW_seq (VW_region [2] ?_)
    have e1 : ((ds.length : Int) == ((itemsS acts).length : Int)) = true := by rw [hlen]; simp
    simp only [OpsW_nil, OpsW_n, OpsW_y, StepW, pok, pval, VA.ev, Env.get, Env.put, Env.keep, thenQ, pickV, isBool, intV, binV, binOk, lenV, lenOk, Nat.succ_ne_self, List.map, Nat.reduceEqDiff, ite_true, ite_false, true_and, reduceCtorEq, List.length_map, e1]
    refine ACall_p run.awake ?_
    try simp only [midQ, OpsW_nil, OpsW_n, OpsW_y, OpsW_xt, OpsW_xf, OpsW_u, StepW, guardOf, DrawW_nil, DrawW_n, DrawW_y, DrawW_xt, DrawW_xf, DrawW_u, DrawH, VOp.isIaddr, QW, dok, dval, VOp.pure, VOp.simple, VOp.det, pok, pval, VA.ev, Env.get, Env.put, Env.keep, argEnv, thenQ, blockQ, retQ, resV, resOk, RS.ev, RS.ok, gd, pickV, isBool, aggV, intV, binV, binOk, strV, binbV, boolV, binbOk, unV, unOk, convV, isInt, isStr, numOf, loV, hiV, lenV, boundOk, sliceV, sliceOk, faddrV, isAddr, locCells, locOk, cellsOfAgg, isAggP, iaddrV, iaddrOk, idxV, idxOk, lenOk, extV, extOk, fillV, fillOk, mmV, PV.cells, PV.fits, overlay, PV.nth, PV.row, lookV, mapRows, mapOk, keysOk, keyOk, keyEq, mapFind, mapPut, mapHas, mapsetV, Heap.get, Heap.set, Heap.del, Heap.le, HL.get, HL.set, HL.del, HL.le, Heap.push, Heap.nil, Nat.le_refl, Nat.add_eq_left, Nat.left_eq_add, Nat.succ_ne_self, Nat.one_ne_zero, Env.le, killed, oldId, oldRows, oldOk, srcRows, srcOk, elemsV, elemsOk, eqOk, ekOk, eqCells, eqCell, storeV, storeOk, AB.live, pxV, pxOk, fxV, fxOk, isPtr, slLike, isNil, notNil, List.map, List.set, List.replicate, List.length, List.getD_cons_zero, List.getD_cons_succ, List.getD_nil, List.take, List.drop, List.take_zero, List.drop_zero, List.take_succ_cons, List.drop_succ_cons, List.append, List.cons_append, List.nil_append, Option.map, Nat.reduceEqDiff, Nat.reduceAdd, Nat.reduceLT, Nat.reduceLeDiff, Nat.reduceSub, Nat.reduceMul, reduceIte, Bool.false_eq_true, Bool.true_eq_false, ite_true, ite_false, if_true, if_false, true_and, and_true, implies_true, forall_const, ne_eq, not_false_eq_true, reduceCtorEq, BEq.rfl, beq_self_eq_true, Option.some.injEq, Nat.zero_add, Nat.add_zero, List.length_cons, List.length_nil, true_implies, imp_self, Int.reduceToNat, Int.toNat_natCast, Bool.not_false, Bool.not_true]
    refine VW_ret ?_
    try simp only [Env.get, retQ, resV, resOk, RS.ev, RS.ok, ite_true, true_and, and_true]
    exact View.refl _ _
end Go.Proofs.Ytcjaojhbebpokaa.w

