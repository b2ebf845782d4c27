/-
  Walks: the law CorpusMonotone.
-/
import Derived.Test.YtcjaojhbebpokaaLwA
import Derived.Test.YtcjaojhbebpokaaQ3
import Derived.Test.YtcjaojhbebpokaaVmP
set_option linter.all false
namespace Go.Proofs.Ytcjaojhbebpokaa.w
open Go Go.VM
set_option maxRecDepth 20000
set_option maxHeartbeats 0
set_option pp.deepTerms false
def c_pandectlaw28_CorpusMonotone : VC := (.seq (.region [⟨(some 3), (.box 4 (.t 1)), none⟩, ⟨(some 4), (.mv (.c (.bool false))), none⟩] false) (.seq (.draw2 [⟨(some 15), (.fx (.mk0 4) []), none⟩, ⟨(some 16), (.mv (.t 0)), none⟩, ⟨(some 17), (.app 4 56 [(.int .i64 0), (.int .i64 0), (.str []), .nilsl] false (.t 15) (.t 16)), none⟩, ⟨(some 18), (.load true 4 (.t 3)), none⟩, ⟨(some 19), (.bslice 4 1 [(.int .i64 0), (.int .i64 0), (.str []), .nilsl] [(0, (.t 18))]), none⟩, ⟨(some 20), (.app 4 56 [(.int .i64 0), (.int .i64 0), (.str []), .nilsl] false (.t 17) (.t 19)), none⟩, ⟨(some 5), (.mv (.t 20)), none⟩] [false, false, false, false, false, false, false]) (.seq (.seq (.region [⟨(some 21), (.mv (.t 5)), none⟩, ⟨(some 22), (.call 11 [(.t 21), (.c (.int .i64 30))]), none⟩, ⟨(some 23), (.un .not (.t 22)), none⟩] false) (.cond (.t 23) (.seq (.region [⟨(some 24), (.call 12 []), none⟩, ⟨(some 4), (.mv (.t 24)), none⟩] false) .ret) .skip)) (.seq (.seq (.region [⟨(some 25), (.mv (.t 0)), none⟩, ⟨(some 26), (.call 14 [(.t 25)]), none⟩, ⟨(some 27), (.len false (.t 26)), none⟩, ⟨(some 28), (.mv (.c (.int .i64 0))), none⟩] false) (.block 0 (.loop (.seq (.region [⟨(some 29), (.bin .lss (.t 28) (.t 27)), none⟩] false) (.seq (.cond (.t 29) .skip (.exit 0)) (.seq (.block 1 (.seq (.region [⟨(some 30), (.iaddr 28 (.t 26) (.t 28)), none⟩, ⟨(some 31), (.load true 28 (.t 30)), none⟩, ⟨(some 7), (.alloc [(.int .i64 0), (.int .i64 0), (.int .i64 0), (.int .i64 0), .nilsl, .nilsl, (.int .i64 0), (.int .i64 0), (.int .i64 0), (.int .i64 0), (.int .i64 0), (.int .i64 0), (.str []), .nilsl, .nilsl, .nilsl, .nilsl, .nilsl, (.str []), (.str []), (.int .i64 0), (.int .i64 0), (.str []), (.int .i64 0), (.int .i64 0), (.int .i64 0), (.str []), .nilsl]), none⟩, ⟨none, (.store 28 (.t 7) (.t 31)), none⟩] false) (.seq (.region [⟨(some 33), (.faddr 0 (.t 7)), none⟩, ⟨(some 34), (.load false 1 (.t 33)), none⟩, ⟨(some 35), (.faddr 1 (.t 7)), none⟩, ⟨(some 36), (.load false 1 (.t 35)), none⟩, ⟨(some 37), (.mv (.t 5)), none⟩, ⟨(some 38), (.call 16 [(.t 34), (.t 36), (.t 37)]), none⟩, ⟨(some 32), (.mv (.t 38)), none⟩, ⟨(some 39), (.ext (.t 32) 0), none⟩, ⟨(some 40), (.ext (.t 32) 1), none⟩, ⟨(some 8), (.alloc [(.int .i64 0), (.int .i64 0), (.int .i64 0), (.int .i64 0), .nilsl, .nilsl, (.int .i64 0), (.int .i64 0), (.int .i64 0), (.int .i64 0), (.int .i64 0), (.int .i64 0), (.str []), .nilsl, .nilsl, .nilsl, .nilsl, .nilsl, (.str []), (.str []), (.int .i64 0), (.int .i64 0), (.str []), (.int .i64 0), (.int .i64 0), (.int .i64 0), (.str []), .nilsl]), none⟩, ⟨none, (.store 28 (.t 8) (.t 39)), none⟩, ⟨(some 9), (.mv (.t 40)), none⟩] false) (.seq (.region [⟨(some 10), (.mv (.c (.bool false))), none⟩] false) (.seq (.seq (.region [⟨(some 41), (.faddr 3 (.t 3)), none⟩, ⟨(some 42), (.load false 1 (.t 41)), none⟩, ⟨(some 43), (.len false (.t 42)), none⟩, ⟨(some 44), (.mv (.c (.int .i64 0))), none⟩] false) (.block 2 (.loop (.seq (.region [⟨(some 45), (.bin .lss (.t 44) (.t 43)), none⟩] false) (.seq (.cond (.t 45) .skip (.exit 2)) (.seq (.block 3 (.seq (.region [⟨(some 46), (.iaddr 7 (.t 42) (.t 44)), none⟩, ⟨(some 47), (.load true 7 (.t 46)), none⟩, ⟨(some 12), (.alloc [(.int .i64 0), (.str []), (.int .i64 0), (.int .i64 0), (.int .i64 0), (.str []), .nilsl]), none⟩, ⟨none, (.store 7 (.t 12) (.t 47)), none⟩] false) (.seq (.region [⟨(some 48), (.faddr 6 (.t 12)), none⟩, ⟨(some 49), (.load false 1 (.t 48)), none⟩, ⟨(some 50), (.len false (.t 49)), none⟩, ⟨(some 51), (.mv (.c (.int .i64 0))), none⟩] false) (.block 4 (.loop (.seq (.region [⟨(some 52), (.bin .lss (.t 51) (.t 50)), none⟩] false) (.seq (.cond (.t 52) .skip (.exit 4)) (.seq (.block 5 (.seq (.region [⟨(some 53), (.iaddr 25 (.t 49) (.t 51)), none⟩, ⟨(some 54), (.load true 25 (.t 53)), none⟩, ⟨(some 14), (.alloc [(.int .i64 0), .nilsl, .nilsl, (.int .i64 0), (.int .i64 0), (.int .i64 0), (.int .i64 0), (.int .i64 0), (.int .i64 0), (.str []), .nilsl, .nilsl, .nilsl, .nilsl, .nilsl, (.str []), (.str []), (.int .i64 0), (.int .i64 0), (.str []), (.int .i64 0), (.int .i64 0), (.int .i64 0), (.str []), .nilsl]), none⟩, ⟨none, (.store 25 (.t 14) (.t 54)), none⟩] false) (.region [⟨(some 55), (.mv (.t 10)), none⟩, ⟨(some 56), (.mv (.t 55)), none⟩, ⟨(some 57), (.faddr 0 (.t 14)), (some (56, false))⟩, ⟨(some 58), (.load false 1 (.t 57)), (some (56, false))⟩, ⟨(some 59), (.bin .eql (.t 58) (.c (.int .i64 11))), (some (56, false))⟩, ⟨(some 60), (.mv (.t 59)), (some (56, false))⟩, ⟨(some 61), (.faddr 20 (.t 14)), (some (60, true))⟩, ⟨(some 62), (.load false 1 (.t 61)), (some (60, true))⟩, ⟨(some 63), (.faddr 0 (.t 7)), (some (60, true))⟩, ⟨(some 64), (.load false 1 (.t 63)), (some (60, true))⟩, ⟨(some 65), (.bin .eql (.t 62) (.t 64)), (some (60, true))⟩, ⟨(some 66), (.pick (.t 60) (.t 65) (.c (.bool false))), (some (56, false))⟩, ⟨(some 67), (.mv (.t 66)), (some (56, false))⟩, ⟨(some 68), (.faddr 21 (.t 14)), (some (67, true))⟩, ⟨(some 69), (.load false 1 (.t 68)), (some (67, true))⟩, ⟨(some 70), (.faddr 1 (.t 7)), (some (67, true))⟩, ⟨(some 71), (.load false 1 (.t 70)), (some (67, true))⟩, ⟨(some 72), (.bin .eql (.t 69) (.t 71)), (some (67, true))⟩, ⟨(some 73), (.pick (.t 67) (.t 72) (.c (.bool false))), (some (56, false))⟩, ⟨(some 74), (.pick (.t 56) (.c (.bool true)) (.t 73)), none⟩, ⟨(some 10), (.mv (.t 74)), none⟩] false))) (.region [⟨(some 75), (.bin .add (.t 51) (.c (.int .i64 1))), none⟩, ⟨(some 51), (.mv (.t 75)), none⟩] false))))))))) (.region [⟨(some 76), (.bin .add (.t 44) (.c (.int .i64 1))), none⟩, ⟨(some 44), (.mv (.t 76)), none⟩] false))))))) (.seq (.region [⟨(some 77), (.mv (.t 9)), none⟩, ⟨(some 78), (.un .not (.t 77)), none⟩, ⟨(some 79), (.mv (.t 78)), none⟩, ⟨(some 80), (.faddr 2 (.t 8)), (some (79, false))⟩, ⟨(some 81), (.load false 1 (.t 80)), (some (79, false))⟩, ⟨(some 82), (.faddr 2 (.t 7)), (some (79, false))⟩, ⟨(some 83), (.load false 1 (.t 82)), (some (79, false))⟩, ⟨(some 84), (.bin .neq (.t 81) (.t 83)), (some (79, false))⟩, ⟨(some 85), (.pick (.t 79) (.c (.bool true)) (.t 84)), none⟩, ⟨(some 86), (.mv (.t 85)), none⟩, ⟨(some 87), (.mv (.t 10)), (some (86, false))⟩, ⟨(some 88), (.un .not (.t 87)), (some (86, false))⟩, ⟨(some 89), (.mv (.t 88)), (some (86, false))⟩, ⟨(some 90), (.load true 28 (.t 8)), (some (89, true))⟩, ⟨(some 91), (.load true 28 (.t 7)), (some (89, true))⟩, ⟨(some 92), (.call 18 [(.t 90), (.t 91)]), (some (89, true))⟩, ⟨(some 93), (.un .not (.t 92)), (some (89, true))⟩, ⟨(some 94), (.pick (.t 89) (.t 93) (.c (.bool false))), (some (86, false))⟩, ⟨(some 95), (.pick (.t 86) (.c (.bool true)) (.t 94)), none⟩] false) (.cond (.t 95) (.seq (.region [⟨(some 4), (.mv (.c (.bool false))), none⟩] false) .ret) .skip))))))) (.region [⟨(some 96), (.bin .add (.t 28) (.c (.int .i64 1))), none⟩, ⟨(some 28), (.mv (.t 96)), none⟩] false))))))) (.seq (.region [⟨(some 97), (.call 12 []), none⟩, ⟨(some 4), (.mv (.t 97)), none⟩] false) .ret)))))
theorem any_snoc (n i : Int) (xs : List It) (x : It) : (xs ++ [x]).any (nameB n i) = ((xs.any (nameB n i)) || nameB n i x) := by simp
theorem law_CorpusMonotone (l : List Gz) (g : Gz) (hok : okL Gz.okZ l) (hg : g.okZ) (hz : l.length * 56 ≤ 140737488351232) : PCall Try.prog 7 [.sl 4 (l.map Gz.enc), .agg g.enc] (.bool true) := by
  refine PCall_intro ?_ (cB _) (by simp only [ClosedL, List.mem_cons, List.not_mem_nil, or_false, forall_eq_or_imp, forall_eq, false_implies, implies_true]; repeat' (first | exact cI _ | exact cS _ | exact cB _ | exact closed_fn0 _ | exact closed_nilsl | exact closed_agg (Un.closed _) | exact closed_agg (It.closed _) | exact closed_agg (EI.closed _) | exact closed_agg (Ac.closed _) | exact closed_agg (Wd.closed _) | exact closed_agg (St.closed _) | exact closed_agg (Sta.closed _) | exact closed_eis _ | exact closed_acs _ | exact closed_gzs _ | exact Closed.of_scalar (scalar_int _ _) | exact closed_ro (Ac.closed _) | exact closed_ro (Gz.closed _) | exact closed_agg (Gz.closed _) | exact closed_strs _ | exact closed_map (fun w _ => Wd.closed w) | exact closed_map (fun w _ => St.closed w) | exact closed_map (fun w _ => Un.closed w) | exact closed_map (fun w _ => It.closed w) | exact closed_sc _ | exact closed_sps _ | exact closed_agg (Sp.closed _) | exact closed_ro (EI.closed _) | exact closed_ro (Sta.closed _) | exact closed_ro (It.closed _) | exact closed_ro (by simp only [List.mem_cons, List.not_mem_nil, or_false, forall_eq]; first | exact cI _ | exact cS _ | exact closed_eis _) | refine And.intro ?_ ?_))
  refine ACall_fn (vc := c_pandectlaw28_CorpusMonotone) (ts := [.t 4]) Go.Proofs.Try.func7 (by kernel_rfl) rfl rfl (Nat.le_of_ble_eq_true rfl) (by kernel_rfl) ?_
  unfold c_pandectlaw28_CorpusMonotone
  refine VW_seq (VW_region [0, 3] ?_)
  simp only [OpsW_nil, OpsW_n, StepW, pok, pval, VA.ev, Env.get, Env.put, Env.keep, argEnv, thenQ, PV.cells, PV.fits, Heap.push, Heap.nil, Nat.succ_ne_self, Nat.reduceEqDiff, ite_true, ite_false, true_and, reduceCtorEq, BEq.rfl, Nat.zero_add, gz_len]
  have a1 : (l.map Gz.enc).take l.length = l.map Gz.enc := List.take_of_length_le (by simp)
  refine VW_seq (VW_draw2Q [0, 3, 5] ⟨[(0, .arr false 4 [g.enc])], 20⟩ (by simp [Heap.le, HL.le, Heap.get, HL.get]) ?_)
  simp only [StepW, DrawW_nil, DrawW_n, QW, dok, dval, VOp.pure, VOp.simple, VOp.det, pok, pval, VA.ev, Env.get, Env.put, Env.keep, thenQ, gd, aggV, locCells, locOk, PV.cells, PV.fits, PV.nth, PV.row, Heap.get, Heap.del, Heap.le, HL.get, HL.del, HL.le, Heap.push, Nat.le_refl, Nat.succ_ne_self, killed, oldId, oldRows, oldOk, srcRows, srcOk, elemsV, elemsOk, fxV, fxOk, List.map, List.set, List.replicate, List.length, List.getD_cons_zero, List.take, List.drop, List.nil_append, Nat.reduceEqDiff, Nat.reduceAdd, Nat.reduceLT, Nat.reduceLeDiff, Bool.true_eq_false, ite_true, ite_false, true_and, and_true, implies_true, reduceCtorEq, BEq.rfl, Nat.zero_add, Nat.add_zero, List.length_cons, List.length_nil, imp_self, gz_take, gz_len, List.length_map, a1]
  repeat (with_reducible refine And.intro ?_ ?_; first | omega | (with_reducible constructor <;> omega) | exact False.elim | exact True.intro)
  try simp only [OpsW_nil, OpsW_n, OpsW_y, OpsW_xt, OpsW_xf, OpsW_u, StepW, guardOf, DrawW_nil, DrawW_n, DrawW_y, DrawW_xt, DrawW_xf, DrawW_u, DrawH, VOp.isIaddr, QW, dok, dval, VOp.pure, VOp.simple, VOp.det, pok, pval, VA.ev, Env.get, Env.put, Env.keep, argEnv, thenQ, blockQ, retQ, resV, resOk, RS.ev, RS.ok, gd, pickV, isBool, aggV, intV, binV, binOk, strV, binbV, boolV, binbOk, unV, unOk, convV, isInt, isStr, numOf, loV, hiV, lenV, boundOk, sliceV, sliceOk, faddrV, isAddr, locCells, locOk, cellsOfAgg, isAggP, iaddrV, iaddrOk, idxV, idxOk, lenOk, extV, extOk, fillV, fillOk, mmV, PV.cells, PV.fits, overlay, PV.nth, PV.row, lookV, mapRows, mapOk, keysOk, keyOk, keyEq, mapFind, mapPut, mapHas, mapsetV, Heap.get, Heap.set, Heap.del, Heap.le, HL.get, HL.set, HL.del, HL.le, Heap.push, Heap.nil, Nat.le_refl, Nat.add_eq_left, Nat.left_eq_add, Nat.succ_ne_self, Nat.one_ne_zero, Env.le, killed, oldId, oldRows, oldOk, srcRows, srcOk, elemsV, elemsOk, eqOk, ekOk, eqCells, eqCell, storeV, storeOk, AB.live, pxV, pxOk, fxV, fxOk, isPtr, slLike, isNil, notNil, List.map, List.set, List.replicate, List.length, List.getD_cons_zero, List.getD_cons_succ, List.getD_nil, List.take, List.drop, List.take_zero, List.drop_zero, List.take_succ_cons, List.drop_succ_cons, List.append, List.cons_append, List.nil_append, Option.map, Nat.reduceEqDiff, Nat.reduceAdd, Nat.reduceLT, Nat.reduceLeDiff, Nat.reduceSub, Nat.reduceMul, reduceIte, Bool.false_eq_true, Bool.true_eq_false, ite_true, ite_false, if_true, if_false, true_and, and_true, implies_true, forall_const, ne_eq, not_false_eq_true, reduceCtorEq, BEq.rfl, beq_self_eq_true, Option.some.injEq, Nat.zero_add, Nat.add_zero, List.length_cons, List.length_nil, true_implies, imp_self, Int.reduceToNat, Int.toNat_natCast, Bool.not_false, Bool.not_true]
  refine VW_freeze [(0, .sl 4 (l.map Gz.enc)), (3, .ro g.enc), (5, .sl 4 ((l ++ [g]).map Gz.enc))] ⟨View.refl _ _, View.loc (z := 4) (fz := false) (es := [g.enc]) rfl (by simp) rfl (by simp [gz_len]), ?_, trivial⟩ ?_
  · simp only [List.map_append, List.map_cons, List.map_nil]
    exact View.own_all (fz := false) rfl (by simp)
  have hok2 : okL Gz.okZ (l ++ [g]) := by
    refine ⟨?_, fun a ha => ?_⟩
    · have : maxLen = 9223372036854775807 := rfl
      simp only [List.length_append, List.length_cons, List.length_nil]
      omega
    · rcases List.mem_append.1 ha with h | h
      · exact hok.2 a h
      · simp only [List.mem_singleton] at h; rw [h]; exact hg
  try simp only []
  refine VW_seq ?_
  refine VW_seq (VW_region [0, 3, 5, 23] ?_)
  simp only [OpsW_nil, OpsW_n, StepW, pok, pval, VA.ev, Env.get, Env.put, Env.keep, thenQ, unV, unOk, List.map, Nat.reduceEqDiff, ite_true, ite_false, true_and, reduceCtorEq]
  refine ACall_ps (few30 hok2) ?_
  rintro p ⟨b, rfl, hb⟩
  simp only [true_and]
  refine VW_cond rfl (fun h1 => ?_) (fun h1 => ?_)
  · refine VW_seq (VW_region [4] ?_)
    simp only [OpsW_nil, OpsW_n, StepW, pok, pval, VA.ev, Env.get, Env.put, Env.keep, thenQ, Nat.succ_ne_self, List.map, Nat.reduceEqDiff, ite_true, ite_false, true_and, reduceCtorEq]
    refine ACall_p run.awake ?_
    try simp only [OpsW_nil, OpsW_n, OpsW_y, OpsW_xt, OpsW_xf, OpsW_u, StepW, guardOf, DrawW_nil, DrawW_n, DrawW_y, DrawW_xt, DrawW_xf, DrawW_u, DrawH, VOp.isIaddr, QW, dok, dval, VOp.pure, VOp.simple, VOp.det, pok, pval, VA.ev, Env.get, Env.put, Env.keep, argEnv, thenQ, blockQ, retQ, resV, resOk, RS.ev, RS.ok, gd, pickV, isBool, aggV, intV, binV, binOk, strV, binbV, boolV, binbOk, unV, unOk, convV, isInt, isStr, numOf, loV, hiV, lenV, boundOk, sliceV, sliceOk, faddrV, isAddr, locCells, locOk, cellsOfAgg, isAggP, iaddrV, iaddrOk, idxV, idxOk, lenOk, extV, extOk, fillV, fillOk, mmV, PV.cells, PV.fits, overlay, PV.nth, PV.row, lookV, mapRows, mapOk, keysOk, keyOk, keyEq, mapFind, mapPut, mapHas, mapsetV, Heap.get, Heap.set, Heap.del, Heap.le, HL.get, HL.set, HL.del, HL.le, Heap.push, Heap.nil, Nat.le_refl, Nat.add_eq_left, Nat.left_eq_add, Nat.succ_ne_self, Nat.one_ne_zero, Env.le, killed, oldId, oldRows, oldOk, srcRows, srcOk, elemsV, elemsOk, eqOk, ekOk, eqCells, eqCell, storeV, storeOk, AB.live, pxV, pxOk, fxV, fxOk, isPtr, slLike, isNil, notNil, List.map, List.set, List.replicate, List.length, List.getD_cons_zero, List.getD_cons_succ, List.getD_nil, List.take, List.drop, List.take_zero, List.drop_zero, List.take_succ_cons, List.drop_succ_cons, List.append, List.cons_append, List.nil_append, Option.map, Nat.reduceEqDiff, Nat.reduceAdd, Nat.reduceLT, Nat.reduceLeDiff, Nat.reduceSub, Nat.reduceMul, reduceIte, Bool.false_eq_true, Bool.true_eq_false, ite_true, ite_false, if_true, if_false, true_and, and_true, implies_true, forall_const, ne_eq, not_false_eq_true, reduceCtorEq, BEq.rfl, beq_self_eq_true, Option.some.injEq, Nat.zero_add, Nat.add_zero, List.length_cons, List.length_nil, true_implies, imp_self, Int.reduceToNat, Int.toNat_natCast, Bool.not_false, Bool.not_true]
    refine VW_ret ?_
    try simp only [Env.get, thenQ, retQ, resV, resOk, RS.ev, RS.ok, ite_true, true_and, and_true]
    exact View.refl _ _
  have hm := hb (by simpa using h1)
  have hn := hm.left
  refine VW_skip ?_
  try simp only [thenQ]
  refine VW_seq ?_
  refine VW_seq (VW_region [3, 5, 26, 27, 28] ?_)
  simp only [OpsW_nil, OpsW_n, StepW, pok, pval, VA.ev, Env.get, Env.put, Env.keep, thenQ, lenV, lenOk, Nat.succ_ne_self, List.map, Nat.reduceEqDiff, Bool.false_eq_true, ite_true, ite_false, true_and, reduceCtorEq]
  refine ACall_p (sp_corpus_EnactedItems l hn.smal.len hn.smal.row hn.smal.items) ?_
  have hfm : ∀ d ∈ deedsS (actsS (rowG l)), ∃ x, fnd d.act d.item (l ++ [g]) = some x ∧ x.day = d.day ∧ ((itemsS g.acts).any (nameB d.act d.item) = false → x = d) := fun d hd => fnd_more hd
  have hdok := hn.deeds_ok
  have hgl : g.acts.length ≤ 1000000 ∧ (itemsS g.acts).length ≤ 1000 := by
    have h1 := hm.row
    have h2 := hm.items
    rw [rowG_app, rowG_one] at h1 h2
    rw [itemsS_app] at h2
    simp only [List.length_append] at h1 h2
    omega
  have hdl : (deedsS (actsS (rowG l))).length ≤ 1000000 := by unfold deedsS; rw [deedsF_len]; exact hn.smal.items
  generalize deedsS (actsS (rowG l)) = ds at hfm hdok hdl ⊢
  try simp only [true_and, List.length_map]
  refine VW_block ?_
  refine VW_loop (σ := { s : Nat × Nat // s.1 ≤ ds.length }) (fun s => ([(3, .ro g.enc), (5, .sl 4 ((l ++ [g]).map Gz.enc)), (26, .sl 28 (ds.map EI.enc)), (27, pI ds.length), (28, pI s.1.1)], ⟨[], s.1.2⟩)) (fun s => ds.length - s.1.1) ⟨(0, 20), Nat.zero_le _⟩ ?_ ?_ ?_
  · try simp only [Env.get, Nat.succ_ne_self, Env.le, Nat.reduceEqDiff, ite_true, ite_false, true_and, and_true]
    all_goals (repeat' (first | rfl | trivial | omega | (simp only []; omega) | refine And.intro ?_ ?_))
  · try simp only [Heap.le, HL.le, Nat.reduceLeDiff, and_true]
    all_goals (repeat' (first | rfl | trivial | omega | (simp only []; omega) | refine And.intro ?_ ?_))
  rintro ⟨⟨i, t⟩, hi⟩
  simp only [] at hi ⊢
  refine VW_seq (VW_region [3, 5, 26, 27, 28, 29] ?_)
  simp only [OpsW_nil, OpsW_n, StepW, pok, pval, VA.ev, Env.get, Env.put, Env.keep, thenQ, intV, binV, binOk, Heap.le, HL.le, Nat.succ_ne_self, Env.le, Nat.reduceEqDiff, ite_true, ite_false, true_and, and_true]
  refine VW_seq ?_
  refine VW_cond rfl (fun h2 => ?_) (fun h2 => ?_)
  · refine VW_skip ?_
    try simp only [thenQ]
    simp only [decide_eq_true_eq] at h2
    have ia : i < ds.length := by omega
    obtain ⟨x, hx1, hx2, hx3⟩ := hfm _ (List.getElem_mem ia)
    have hoki := hdok _ (List.getElem_mem ia)
    have rd0 := rowm (enc := EI.enc) ia
    generalize ds[i] = d at hx1 hx2 hx3 hoki rd0
    have hokx := hm.fnd_ok hx1
    have qi0 : (t = (t + 1)) = False := eq_false (by omega)
    have qi1 : ((t + 1) = t) = False := eq_false (by omega)
    refine VW_seq ?_
    refine VW_block ?_
    refine VW_seq (VW_region [3, 5, 7, 26, 27, 28] ?_)
    simp only [OpsW_nil, OpsW_n, StepW, pok, pval, VA.ev, Env.get, Env.put, Env.keep, thenQ, aggV, isInt, numOf, lenV, locCells, locOk, iaddrV, iaddrOk, PV.cells, PV.fits, overlay, PV.nth, PV.row, Heap.get, Heap.set, HL.get, HL.set, HL.del, Heap.push, Nat.le_refl, Nat.succ_ne_self, storeV, storeOk, List.set, List.length, List.getD_cons_zero, List.take, List.drop, List.drop_succ_cons, List.nil_append, Nat.reduceEqDiff, Nat.reduceAdd, Nat.reduceLT, Bool.true_eq_false, ite_true, ite_false, true_and, and_true, BEq.rfl, Nat.zero_add, imp_self, Int.toNat_natCast, List.length_map, rd0, ei_t28, ei_l28, ei_d28, List.append_nil, qi0, qi1]
    repeat (with_reducible refine And.intro ?_ ?_; first | omega | (with_reducible constructor <;> omega) | exact False.elim | exact True.intro)
    refine VW_seq (VW_region [3, 5, 7, 8, 9, 26, 27, 28] ?_)
    simp only [OpsW_nil, OpsW_n, StepW, pok, pval, VA.ev, Env.get, Env.put, Env.keep, thenQ, aggV, faddrV, isAddr, locCells, locOk, extV, extOk, PV.cells, PV.fits, overlay, PV.nth, PV.row, Heap.get, Heap.set, HL.get, HL.set, Heap.push, Nat.le_refl, Nat.succ_ne_self, storeV, storeOk, List.map, List.set, List.length, List.getD_cons_zero, List.take, List.drop, List.nil_append, Nat.reduceEqDiff, Nat.reduceAdd, Nat.reduceLT, Nat.reduceLeDiff, Bool.false_eq_true, ite_true, ite_false, true_and, and_true, implies_true, Nat.zero_add, Nat.add_zero, ei_act, ei_item, ei_l1, ei_l28, qi0, qi1]
    refine ACall_p (find_nice hm d.act d.item) ?_
    rw [hx1]
    try simp only [HL.del, List.length, List.getD_cons_zero, List.getD_cons_succ, List.drop, List.drop_succ_cons, Nat.reduceAdd, Nat.reduceLT, ite_false, true_and, BEq.rfl, Nat.zero_add, resF, Option.getD_some, Option.isSome_some, ei_l28, ei_d28, List.append_nil, qi0, qi1]
    refine VW_seq (VW_region [3, 5, 7, 8, 9, 10, 26, 27, 28] ?_)
    simp only [OpsW_nil, OpsW_n, StepW, pok, pval, VA.ev, Env.get, Env.put, Env.keep, thenQ, Nat.succ_ne_self, Nat.reduceEqDiff, ite_true, ite_false, true_and]
    refine VW_seq ?_
    refine VW_seq (VW_region [3, 5, 7, 8, 9, 10, 26, 27, 28, 42, 43, 44] ?_)
    simp only [OpsW_nil, OpsW_n, StepW, pok, pval, VA.ev, Env.get, Env.put, Env.keep, thenQ, aggV, lenV, faddrV, isAddr, locCells, locOk, lenOk, PV.nth, Nat.le_refl, Nat.succ_ne_self, Nat.reduceEqDiff, Bool.false_eq_true, ite_true, ite_false, true_and, and_true, implies_true, gz_acts0, gz_l3, gz_len, List.length_map]
    refine VW_block ?_
    refine VW_loop (σ := { s : Nat × Nat // s.1 ≤ g.acts.length ∧ t + 2 ≤ s.2 }) (fun s => ([(3, .ro g.enc), (5, .sl 4 ((l ++ [g]).map Gz.enc)), (7, .loc t 0 0), (8, .loc (t + 1) 0 0), (9, .bool true), (10, .bool ((itemsS (g.acts.take s.1.1)).any (nameB d.act d.item))), (26, .sl 28 (ds.map EI.enc)), (27, pI ds.length), (28, pI i), (42, .sl 7 (g.acts.map Ac.enc)), (43, pI g.acts.length), (44, pI s.1.1)], ⟨[(t + 1, .arr false 28 [x.enc]), (t, .arr false 28 [d.enc])], s.1.2⟩)) (fun s => g.acts.length - s.1.1) ⟨(0, t + 2), ⟨Nat.zero_le _, Nat.le_refl _⟩⟩ ?_ ?_ ?_
    · try simp only [Env.get, Nat.succ_ne_self, Env.le, List.take, Nat.reduceEqDiff, ite_true, ite_false, true_and, and_true, List.take_zero, itemsS, List.flatMap_nil, List.any_nil]
      all_goals (repeat' (first | rfl | trivial | omega | (simp only []; omega) | refine And.intro ?_ ?_))
    · try simp only [Heap.get, Heap.le, HL.get, HL.le, Nat.le_refl, ite_true, ite_false, and_true, qi0, qi1]
      all_goals (repeat' (first | rfl | trivial | omega | (simp only []; omega) | refine And.intro ?_ ?_))
    rintro ⟨⟨j, u⟩, hj, hu⟩
    simp only [] at hj hu ⊢
    refine VW_seq (VW_region [3, 5, 7, 8, 9, 10, 26, 27, 28, 42, 43, 44, 45] ?_)
    simp only [OpsW_nil, OpsW_n, StepW, pok, pval, VA.ev, Env.get, Env.put, Env.keep, thenQ, intV, binV, binOk, Heap.get, Heap.le, HL.le, Nat.succ_ne_self, Env.le, Nat.reduceEqDiff, ite_true, ite_false, true_and, and_true]
    refine VW_seq ?_
    refine VW_cond rfl (fun h3 => ?_) (fun h3 => ?_)
    · refine VW_skip ?_
      try simp only [thenQ]
      simp only [decide_eq_true_eq] at h3
      have ja : j < g.acts.length := by omega
      have hrow := itemsS_take ja
      have hil := items_each g.acts _ (List.getElem_mem ja)
      have ra := rowm (enc := Ac.enc) ja
      generalize g.acts[j] = a at hrow hil ra
      have qi0 : (t = (t + 1)) = False := eq_false (by omega)
      have qi1 : (t = u) = False := eq_false (by omega)
      have qi2 : (t = (u + 1)) = False := eq_false (by omega)
      have qi3 : ((t + 1) = t) = False := eq_false (by omega)
      have qi4 : ((t + 1) = u) = False := eq_false (by omega)
      have qi5 : ((t + 1) = (u + 1)) = False := eq_false (by omega)
      have qi6 : (u = t) = False := eq_false (by omega)
      have qi7 : (u = (t + 1)) = False := eq_false (by omega)
      have qi8 : (u = (u + 1)) = False := eq_false (by omega)
      have qi9 : ((u + 1) = t) = False := eq_false (by omega)
      have qi10 : ((u + 1) = (t + 1)) = False := eq_false (by omega)
      have qi11 : ((u + 1) = u) = False := eq_false (by omega)
      refine VW_seq ?_
      refine VW_block ?_
      refine VW_seq (VW_region [3, 5, 7, 8, 9, 10, 12, 26, 27, 28, 42, 43, 44] ?_)
      simp only [OpsW_nil, OpsW_n, StepW, pok, pval, VA.ev, Env.get, Env.put, Env.keep, thenQ, aggV, isInt, numOf, lenV, locCells, locOk, iaddrV, iaddrOk, PV.cells, PV.fits, overlay, PV.nth, PV.row, Heap.get, Heap.set, HL.get, HL.set, HL.del, Heap.push, Nat.le_refl, Nat.succ_ne_self, storeV, storeOk, List.set, List.length, List.getD_cons_zero, List.take, List.drop, List.drop_succ_cons, List.nil_append, Nat.reduceEqDiff, Nat.reduceAdd, Nat.reduceLT, Bool.true_eq_false, ite_true, ite_false, true_and, and_true, BEq.rfl, Nat.zero_add, imp_self, Int.toNat_natCast, List.length_map, ra, ac_take, ac_len, ac_drop, List.append_nil, qi0, qi1, qi2, qi3, qi4, qi5, qi6, qi7, qi8, qi9, qi10, qi11]
      repeat (with_reducible refine And.intro ?_ ?_; first | omega | (with_reducible constructor <;> omega) | exact False.elim | exact True.intro)
      refine VW_seq (VW_region [3, 5, 7, 8, 9, 10, 26, 27, 28, 42, 43, 44, 49, 50, 51] ?_)
      simp only [OpsW_nil, OpsW_n, StepW, pok, pval, VA.ev, Env.get, Env.put, Env.keep, thenQ, aggV, lenV, faddrV, isAddr, locCells, locOk, lenOk, PV.nth, PV.row, Heap.get, HL.get, Nat.le_refl, Nat.succ_ne_self, List.length, List.getD_cons_zero, Nat.reduceEqDiff, Nat.reduceLT, Bool.false_eq_true, ite_true, ite_false, true_and, and_true, implies_true, Nat.zero_add, ac_items0, ac_l6, ac_len, List.length_map, qi0, qi1, qi2, qi3, qi4, qi5, qi6, qi7, qi8, qi9, qi10, qi11]
      refine VW_block ?_
      refine VW_loop (σ := { s : Nat × Nat // s.1 ≤ a.items.length ∧ t + 2 ≤ s.2 }) (fun s => ([(3, .ro g.enc), (5, .sl 4 ((l ++ [g]).map Gz.enc)), (7, .loc t 0 0), (8, .loc (t + 1) 0 0), (9, .bool true), (10, .bool ((itemsS (g.acts.take j) ++ a.items.take s.1.1).any (nameB d.act d.item))), (26, .sl 28 (ds.map EI.enc)), (27, pI ds.length), (28, pI i), (42, .sl 7 (g.acts.map Ac.enc)), (43, pI g.acts.length), (44, pI j), (49, .sl 25 (a.items.map It.enc)), (50, pI a.items.length), (51, pI s.1.1)], ⟨[(t + 1, .arr false 28 [x.enc]), (t, .arr false 28 [d.enc])], s.1.2⟩)) (fun s => a.items.length - s.1.1) ⟨(0, u + 1), ⟨Nat.zero_le _, by show t + 2 ≤ u + 1; omega⟩⟩ ?_ ?_ ?_
      · try simp only [Env.get, Nat.succ_ne_self, Env.le, List.take, Nat.reduceEqDiff, ite_true, ite_false, true_and, and_true, List.take_zero, List.append_nil]
        all_goals (repeat' (first | rfl | trivial | omega | (simp only []; omega) | refine And.intro ?_ ?_))
      · try simp only [Heap.get, Heap.le, HL.get, HL.le, Nat.le_refl, ite_true, ite_false, and_true, qi0, qi1, qi2, qi3, qi4, qi5, qi6, qi7, qi8, qi9, qi10, qi11]
        all_goals (repeat' (first | rfl | trivial | omega | (simp only []; omega) | refine And.intro ?_ ?_))
      clear hu
      rintro ⟨⟨k, u⟩, hk, hu⟩
      simp only [] at hk hu ⊢
      refine VW_seq (VW_region [3, 5, 7, 8, 9, 10, 26, 27, 28, 42, 43, 44, 49, 50, 51, 52] ?_)
      simp only [OpsW_nil, OpsW_n, StepW, pok, pval, VA.ev, Env.get, Env.put, Env.keep, thenQ, intV, binV, binOk, Heap.get, Heap.le, HL.le, Nat.succ_ne_self, Env.le, Nat.reduceEqDiff, ite_true, ite_false, true_and, and_true]
      refine VW_seq ?_
      refine VW_cond rfl (fun h4 => ?_) (fun h4 => ?_)
      · refine VW_skip ?_
        try simp only [thenQ]
        simp only [decide_eq_true_eq] at h4
        have ka : k < a.items.length := by omega
        have hnext : (itemsS (g.acts.take j) ++ a.items.take (k + 1)).any (nameB d.act d.item) = ((itemsS (g.acts.take j) ++ a.items.take k).any (nameB d.act d.item) || nameB d.act d.item a.items[k]) := by
          rw [List.take_add_one, List.getElem?_eq_getElem ka, Option.toList_some, ← List.append_assoc, any_snoc]
        generalize (itemsS (g.acts.take j) ++ a.items.take k).any (nameB d.act d.item) = nm at hnext ⊢
        have ri := rowm (enc := It.enc) ka
        generalize a.items[k] = y at hnext ri
        have qi0 : (t = (t + 1)) = False := eq_false (by omega)
        have qi1 : (t = u) = False := eq_false (by omega)
        have qi2 : (t = (u + 1)) = False := eq_false (by omega)
        have qi3 : ((t + 1) = t) = False := eq_false (by omega)
        have qi4 : ((t + 1) = u) = False := eq_false (by omega)
        have qi5 : ((t + 1) = (u + 1)) = False := eq_false (by omega)
        have qi6 : (u = t) = False := eq_false (by omega)
        have qi7 : (u = (t + 1)) = False := eq_false (by omega)
        have qi8 : (u = (u + 1)) = False := eq_false (by omega)
        have qi9 : ((u + 1) = t) = False := eq_false (by omega)
        have qi10 : ((u + 1) = (t + 1)) = False := eq_false (by omega)
        have qi11 : ((u + 1) = u) = False := eq_false (by omega)
        refine VW_seq ?_
        refine VW_block ?_
        refine VW_seq (VW_region [3, 5, 7, 8, 9, 10, 14, 26, 27, 28, 42, 43, 44, 49, 50, 51] ?_)
        simp only [OpsW_nil, OpsW_n, StepW, pok, pval, VA.ev, Env.get, Env.put, Env.keep, thenQ, aggV, isInt, numOf, lenV, locCells, locOk, iaddrV, iaddrOk, PV.cells, PV.fits, overlay, PV.nth, PV.row, Heap.get, Heap.set, HL.get, HL.set, HL.del, Heap.push, Nat.le_refl, Nat.succ_ne_self, storeV, storeOk, List.set, List.length, List.getD_cons_zero, List.take, List.drop, List.drop_succ_cons, List.nil_append, Nat.reduceEqDiff, Nat.reduceAdd, Nat.reduceLT, Bool.true_eq_false, ite_true, ite_false, true_and, and_true, BEq.rfl, Nat.zero_add, imp_self, Int.toNat_natCast, List.length_map, ri, it_take25, it_len25, it_drop25, List.append_nil, qi0, qi1, qi2, qi3, qi4, qi5, qi6, qi7, qi8, qi9, qi10, qi11]
        repeat (with_reducible refine And.intro ?_ ?_; first | omega | (with_reducible constructor <;> omega) | exact False.elim | exact True.intro)
        cases nm with
        | true =>
          rw [Bool.true_or] at hnext
          refine VW_region [3, 5, 7, 8, 9, 10, 26, 27, 28, 42, 43, 44, 49, 50, 51] ?_
          simp only [OpsW_nil, OpsW_n, OpsW_xf, OpsW_u, StepW, pok, pval, VA.ev, Env.get, Env.put, Env.keep, thenQ, blockQ, pickV, isBool, Nat.succ_ne_self, Nat.reduceEqDiff, ite_true, ite_false, true_and, it_len25, qi0, qi1, qi2, qi3, qi4, qi5, qi6, qi7, qi8, qi9, qi10, qi11]
          refine VW_region [3, 5, 7, 8, 9, 10, 26, 27, 28, 42, 43, 44, 49, 50, 51] ?_
          simp only [OpsW_nil, OpsW_n, StepW, pok, pval, VA.ev, Env.get, Env.put, Env.keep, thenQ, intV, binV, binOk, HL.get, Nat.left_eq_add, Nat.succ_ne_self, Nat.reduceEqDiff, ite_true, ite_false, true_and, ad1 (a := k) (by omega)]
          refine ⟨⟨(k + 1, u + 1), ⟨ka, by show t + 2 ≤ u + 1; omega⟩⟩, ?_⟩
          rw [hnext]
          try simp only [Nat.le_refl, ite_false, true_and, and_true, qi0, qi1, qi2, qi3, qi4, qi5, qi6, qi7, qi8, qi9, qi10, qi11]
          all_goals (repeat' (first | rfl | trivial | omega | (simp only []; omega) | refine And.intro ?_ ?_))
        | false =>
          rw [Bool.false_or] at hnext
          cases e1 : (y.kind == 11) with
          | false =>
            have hB : nameB d.act d.item y = false := by simp [nameB, e1]
            rw [hB] at hnext
            refine VW_region [3, 5, 7, 8, 9, 10, 26, 27, 28, 42, 43, 44, 49, 50, 51] ?_
            simp only [OpsW_nil, OpsW_n, OpsW_y, OpsW_xt, StepW, pok, pval, VA.ev, Env.get, Env.put, Env.keep, thenQ, blockQ, pickV, isBool, aggV, intV, binV, binOk, faddrV, isAddr, locCells, locOk, PV.nth, PV.row, Heap.get, HL.get, Nat.succ_ne_self, List.length, List.getD_cons_zero, List.drop, Nat.reduceEqDiff, Nat.reduceLT, Nat.reduceLeDiff, Bool.false_eq_true, ite_true, ite_false, true_and, and_true, implies_true, Nat.zero_add, Nat.add_zero, it_kind, it_len25, e1, qi0, qi1, qi2, qi3, qi4, qi5, qi6, qi7, qi8, qi9, qi10, qi11]
            refine VW_region [3, 5, 7, 8, 9, 10, 26, 27, 28, 42, 43, 44, 49, 50, 51] ?_
            simp only [OpsW_nil, OpsW_n, StepW, pok, pval, VA.ev, Env.get, Env.put, Env.keep, thenQ, intV, binV, binOk, HL.get, Nat.left_eq_add, Nat.succ_ne_self, Nat.reduceEqDiff, ite_true, ite_false, true_and, ad1 (a := k) (by omega)]
            refine ⟨⟨(k + 1, u + 1), ⟨ka, by show t + 2 ≤ u + 1; omega⟩⟩, ?_⟩
            rw [hnext]
            try simp only [Nat.le_refl, ite_false, true_and, and_true, qi0, qi1, qi2, qi3, qi4, qi5, qi6, qi7, qi8, qi9, qi10, qi11]
            all_goals (repeat' (first | rfl | trivial | omega | (simp only []; omega) | refine And.intro ?_ ?_))
          | true =>
            cases e2 : (y.act == d.act) with
            | false =>
              have hB : nameB d.act d.item y = false := by simp [nameB, e2]
              rw [hB] at hnext
              refine VW_region [3, 5, 7, 8, 9, 10, 26, 27, 28, 42, 43, 44, 49, 50, 51] ?_
              simp only [OpsW_nil, OpsW_n, OpsW_y, OpsW_xt, StepW, pok, pval, VA.ev, Env.get, Env.put, Env.keep, thenQ, blockQ, pickV, isBool, aggV, intV, binV, binOk, faddrV, isAddr, locCells, locOk, PV.nth, PV.row, Heap.get, HL.get, Nat.succ_ne_self, List.length, List.getD_cons_zero, List.drop, Nat.reduceEqDiff, Nat.reduceLT, Nat.reduceLeDiff, Bool.false_eq_true, ite_true, ite_false, true_and, and_true, implies_true, Nat.zero_add, Nat.add_zero, it_kind, it_len25, it_act, it_l20, ei_l28, ei_act, e1, e2, qi0, qi1, qi2, qi3, qi4, qi5, qi6, qi7, qi8, qi9, qi10, qi11]
              refine VW_region [3, 5, 7, 8, 9, 10, 26, 27, 28, 42, 43, 44, 49, 50, 51] ?_
              simp only [OpsW_nil, OpsW_n, StepW, pok, pval, VA.ev, Env.get, Env.put, Env.keep, thenQ, intV, binV, binOk, HL.get, Nat.left_eq_add, Nat.succ_ne_self, Nat.reduceEqDiff, ite_true, ite_false, true_and, ad1 (a := k) (by omega)]
              refine ⟨⟨(k + 1, u + 1), ⟨ka, by show t + 2 ≤ u + 1; omega⟩⟩, ?_⟩
              rw [hnext]
              try simp only [Nat.le_refl, ite_false, true_and, and_true, qi0, qi1, qi2, qi3, qi4, qi5, qi6, qi7, qi8, qi9, qi10, qi11]
              all_goals (repeat' (first | rfl | trivial | omega | (simp only []; omega) | refine And.intro ?_ ?_))
            | true =>
              have hB : nameB d.act d.item y = (y.item == d.item) := by simp [nameB, e1, e2]
              rw [hB] at hnext
              refine VW_region [3, 5, 7, 8, 9, 10, 26, 27, 28, 42, 43, 44, 49, 50, 51] ?_
              simp only [OpsW_nil, OpsW_n, OpsW_y, StepW, pok, pval, VA.ev, Env.get, Env.put, Env.keep, thenQ, blockQ, pickV, isBool, aggV, intV, binV, binOk, faddrV, isAddr, locCells, locOk, PV.nth, PV.row, Heap.get, HL.get, Nat.succ_ne_self, List.length, List.getD_cons_zero, List.drop, Nat.reduceEqDiff, Nat.reduceLT, Nat.reduceLeDiff, Bool.false_eq_true, ite_true, ite_false, true_and, and_true, implies_true, Nat.zero_add, Nat.add_zero, it_kind, it_len25, it_act, it_l20, it_item, it_l21, ei_l28, ei_act, ei_item, ei_l1, e1, e2, qi0, qi1, qi2, qi3, qi4, qi5, qi6, qi7, qi8, qi9, qi10, qi11]
              refine VW_region [3, 5, 7, 8, 9, 10, 26, 27, 28, 42, 43, 44, 49, 50, 51] ?_
              simp only [OpsW_nil, OpsW_n, StepW, pok, pval, VA.ev, Env.get, Env.put, Env.keep, thenQ, intV, binV, binOk, HL.get, Nat.left_eq_add, Nat.succ_ne_self, Nat.reduceEqDiff, ite_true, ite_false, true_and, ad1 (a := k) (by omega)]
              refine ⟨⟨(k + 1, u + 1), ⟨ka, by show t + 2 ≤ u + 1; omega⟩⟩, ?_⟩
              rw [hnext]
              try simp only [Nat.le_refl, ite_false, true_and, and_true, qi0, qi1, qi2, qi3, qi4, qi5, qi6, qi7, qi8, qi9, qi10, qi11]
              all_goals (repeat' (first | rfl | trivial | omega | (simp only []; omega) | refine And.intro ?_ ?_))
      · simp only [decide_eq_false_iff_not] at h4
        obtain rfl : k = a.items.length := by omega
        rw [List.take_length, ← hrow]
        have qi0 : (t = (t + 1)) = False := eq_false (by omega)
        have qi1 : (t = u) = False := eq_false (by omega)
        have qi2 : ((t + 1) = t) = False := eq_false (by omega)
        have qi3 : ((t + 1) = u) = False := eq_false (by omega)
        have qi4 : (u = t) = False := eq_false (by omega)
        have qi5 : (u = (t + 1)) = False := eq_false (by omega)
        refine VW_exit ?_
        try simp only [thenQ, blockQ, retQ, Nat.succ_ne_self, Nat.reduceEqDiff, ite_true, ite_false, reduceCtorEq]
        refine VW_region [3, 5, 7, 8, 9, 10, 26, 27, 28, 42, 43, 44] ?_
        simp only [OpsW_nil, OpsW_n, StepW, pok, pval, VA.ev, Env.get, Env.put, Env.keep, thenQ, intV, binV, binOk, HL.get, Nat.left_eq_add, Nat.succ_ne_self, Nat.reduceEqDiff, ite_true, ite_false, true_and, and_true, ad1 (a := j) (by omega)]
        refine ⟨⟨(j + 1, u), ⟨ja, hu⟩⟩, ?_⟩
        try simp only [Nat.le_refl, true_and, and_true, qi0, qi1, qi2, qi3, qi4, qi5]
        all_goals (repeat' (first | rfl | trivial | omega | (simp only []; omega) | refine And.intro ?_ ?_))
    · simp only [decide_eq_false_iff_not] at h3
      obtain rfl : j = g.acts.length := by omega
      rw [List.take_length]
      have qi0 : (t = (t + 1)) = False := eq_false (by omega)
      have qi1 : (t = u) = False := eq_false (by omega)
      have qi2 : ((t + 1) = t) = False := eq_false (by omega)
      have qi3 : ((t + 1) = u) = False := eq_false (by omega)
      have qi4 : (u = t) = False := eq_false (by omega)
      have qi5 : (u = (t + 1)) = False := eq_false (by omega)
      refine VW_exit ?_
      try simp only [thenQ, blockQ, retQ, Nat.succ_ne_self, ite_true, ite_false, reduceCtorEq]
      have hday : (x.day != d.day) = false := by simp [hx2]
      refine VW_seqJ (σ := Unit) [3, 5, 26, 27, 28, 95] (fun _ => ([(3, .ro g.enc), (5, .sl 4 ((l ++ [g]).map Gz.enc)), (26, .sl 28 (ds.map EI.enc)), (27, pI ds.length), (28, pI i), (95, .bool false)], ⟨[], u⟩)) ?_ (fun _ => ?_)
      · cases hnm : (itemsS g.acts).any (nameB d.act d.item) with
        | true =>
          simp only [OpsW_nil, OpsW_n, OpsW_y, OpsW_xt, StepW, pok, pval, VA.ev, Env.get, Env.put, Env.keep, pickV, isBool, aggV, intV, binV, binOk, unV, unOk, faddrV, isAddr, locCells, locOk, PV.nth, PV.row, Heap.get, Heap.le, HL.get, HL.le, Nat.le_refl, Nat.succ_ne_self, Env.le, List.length, List.getD_cons_zero, Nat.reduceEqDiff, Nat.reduceLT, Nat.reduceLeDiff, Bool.false_eq_true, ite_true, ite_false, true_and, and_true, implies_true, Nat.zero_add, Bool.not_true, ei_day, ei_l2, ei_l28, hday, qi0, qi1, qi2, qi3, qi4, qi5]
          refine ⟨(), ?_⟩
          try simp only []
          all_goals (repeat' (first | rfl | trivial | omega | (simp only []; omega) | refine And.intro ?_ ?_))
        | false =>
          obtain rfl := hx3 hnm
          simp only [OpsW_nil, OpsW_n, OpsW_y, StepW, pok, pval, VA.ev, Env.get, Env.put, Env.keep, pickV, isBool, aggV, intV, binV, binOk, unV, unOk, faddrV, isAddr, locCells, locOk, PV.nth, PV.row, Heap.get, Heap.le, HL.get, HL.le, Nat.le_refl, Nat.succ_ne_self, Env.le, List.map, List.length, List.getD_cons_zero, List.drop, Nat.reduceEqDiff, Nat.reduceLT, Nat.reduceLeDiff, Bool.false_eq_true, Bool.true_eq_false, ite_true, ite_false, true_and, and_true, implies_true, Nat.zero_add, imp_self, Bool.not_false, Bool.not_true, ei_day, ei_l2, ei_l28, ei_t28, hday, qi0, qi1, qi2, qi3, qi4, qi5]
          refine ACall_p (sp_pandectref28_Same x x hokx hokx) ?_
          rw [eqB_t rfl]
          try simp only [Nat.le_refl, true_and, and_true, Bool.not_true]
          refine ⟨(), ?_⟩
          try simp only []
          all_goals (repeat' (first | rfl | trivial | omega | (simp only []; omega) | refine And.intro ?_ ?_))
      refine VW_cond rfl (fun h5 => by cases h5) (fun h5 => ?_)
      refine VW_skip ?_
      try simp only [thenQ, blockQ]
      refine VW_region [3, 5, 26, 27, 28] ?_
      simp only [OpsW_nil, OpsW_n, StepW, pok, pval, VA.ev, Env.get, Env.put, Env.keep, thenQ, intV, binV, binOk, Nat.succ_ne_self, Nat.reduceEqDiff, ite_true, ite_false, true_and, ad1 (a := i) (by omega)]
      refine ⟨⟨(i + 1, u), ia⟩, ?_⟩
      try simp only [Nat.le_refl, true_and]
      all_goals (repeat' (first | rfl | trivial | omega | (simp only []; omega) | refine And.intro ?_ ?_))
  · refine VW_exit ?_
    try simp only [thenQ, blockQ, retQ, ite_true]
    refine VW_seq (VW_region [4] ?_)
    simp only [OpsW_nil, OpsW_n, StepW, pok, pval, VA.ev, Env.get, Env.put, Env.keep, thenQ, Nat.succ_ne_self, List.map, Nat.reduceEqDiff, ite_true, ite_false, true_and]
    refine ACall_p run.awake ?_
    try simp only [OpsW_nil, OpsW_n, OpsW_y, OpsW_xt, OpsW_xf, OpsW_u, StepW, guardOf, DrawW_nil, DrawW_n, DrawW_y, DrawW_xt, DrawW_xf, DrawW_u, DrawH, VOp.isIaddr, QW, dok, dval, VOp.pure, VOp.simple, VOp.det, pok, pval, VA.ev, Env.get, Env.put, Env.keep, argEnv, thenQ, blockQ, retQ, resV, resOk, RS.ev, RS.ok, gd, pickV, isBool, aggV, intV, binV, binOk, strV, binbV, boolV, binbOk, unV, unOk, convV, isInt, isStr, numOf, loV, hiV, lenV, boundOk, sliceV, sliceOk, faddrV, isAddr, locCells, locOk, cellsOfAgg, isAggP, iaddrV, iaddrOk, idxV, idxOk, lenOk, extV, extOk, fillV, fillOk, mmV, PV.cells, PV.fits, overlay, PV.nth, PV.row, lookV, mapRows, mapOk, keysOk, keyOk, keyEq, mapFind, mapPut, mapHas, mapsetV, Heap.get, Heap.set, Heap.del, Heap.le, HL.get, HL.set, HL.del, HL.le, Heap.push, Heap.nil, Nat.le_refl, Nat.add_eq_left, Nat.left_eq_add, Nat.succ_ne_self, Nat.one_ne_zero, Env.le, killed, oldId, oldRows, oldOk, srcRows, srcOk, elemsV, elemsOk, eqOk, ekOk, eqCells, eqCell, storeV, storeOk, AB.live, pxV, pxOk, fxV, fxOk, isPtr, slLike, isNil, notNil, List.map, List.set, List.replicate, List.length, List.getD_cons_zero, List.getD_cons_succ, List.getD_nil, List.take, List.drop, List.take_zero, List.drop_zero, List.take_succ_cons, List.drop_succ_cons, List.append, List.cons_append, List.nil_append, Option.map, Nat.reduceEqDiff, Nat.reduceAdd, Nat.reduceLT, Nat.reduceLeDiff, Nat.reduceSub, Nat.reduceMul, reduceIte, Bool.false_eq_true, Bool.true_eq_false, ite_true, ite_false, if_true, if_false, true_and, and_true, implies_true, forall_const, ne_eq, not_false_eq_true, reduceCtorEq, BEq.rfl, beq_self_eq_true, Option.some.injEq, Nat.zero_add, Nat.add_zero, List.length_cons, List.length_nil, true_implies, imp_self, Int.reduceToNat, Int.toNat_natCast, Bool.not_false, Bool.not_true]
    refine VW_ret ?_
    try simp only [Env.get, retQ, resV, resOk, RS.ev, RS.ok, ite_true, true_and, and_true]
    exact View.refl _ _
end Go.Proofs.Ytcjaojhbebpokaa.w

