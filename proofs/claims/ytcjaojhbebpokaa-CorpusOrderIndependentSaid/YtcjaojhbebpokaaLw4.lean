/-
  Walks: the law CorpusOrderIndependent.
-/
import Derived.Test.YtcjaojhbebpokaaLwA
import Derived.Test.YtcjaojhbebpokaaQ4
set_option linter.all false
namespace Go.Proofs.Ytcjaojhbebpokaa.w
open Go Go.VM
set_option maxRecDepth 20000
set_option maxHeartbeats 0
set_option pp.deepTerms false
def c_pandectlaw28_CorpusOrderIndependent : VC := (.seq (.region [⟨(some 4), (.mv (.c (.bool false))), none⟩] false) (.seq (.seq (.region [⟨(some 8), (.mv (.t 0)), none⟩, ⟨(some 9), (.call 11 [(.t 8), (.c (.int .i64 30))]), none⟩, ⟨(some 10), (.un .not (.t 9)), none⟩, ⟨(some 11), (.mv (.t 10)), none⟩, ⟨(some 12), (.mv (.t 0)), (some (11, false))⟩, ⟨(some 13), (.call 26 [(.t 12)]), (some (11, false))⟩, ⟨(some 14), (.un .not (.t 13)), (some (11, false))⟩, ⟨(some 15), (.pick (.t 11) (.c (.bool true)) (.t 14)), none⟩, ⟨(some 16), (.mv (.t 15)), none⟩, ⟨(some 17), (.mv (.t 0)), (some (16, false))⟩, ⟨(some 18), (.len false (.t 17)), (some (16, false))⟩, ⟨(some 19), (.bin .eql (.t 18) (.c (.int .i64 0))), (some (16, false))⟩, ⟨(some 20), (.pick (.t 16) (.c (.bool true)) (.t 19)), none⟩] false) (.cond (.t 20) (.seq (.region [⟨(some 21), (.call 12 []), none⟩, ⟨(some 4), (.mv (.t 21)), none⟩] false) .ret) .skip)) (.seq (.region [⟨(some 22), (.mv (.t 1)), none⟩, ⟨(some 23), (.conv .i64 (.t 22)), none⟩, ⟨(some 24), (.mv (.t 0)), none⟩, ⟨(some 25), (.len false (.t 24)), none⟩, ⟨(some 26), (.bin .rem (.t 23) (.t 25)), none⟩, ⟨(some 5), (.mv (.t 26)), none⟩] false) (.seq (.region [⟨(some 6), (.mv (.c .nilsl)), none⟩] false) (.seq (.seq (.region [⟨(some 27), (.mv (.t 0)), none⟩, ⟨(some 28), (.len false (.t 27)), none⟩, ⟨(some 29), (.bin .sub (.t 28) (.c (.int .i64 1))), none⟩, ⟨(some 7), (.mv (.t 29)), none⟩] false) (.block 0 (.loop (.seq (.seq (.region [⟨(some 30), (.mv (.t 7)), none⟩, ⟨(some 31), (.bin .geq (.t 30) (.c (.int .i64 0))), none⟩] false) (.cond (.t 31) .skip (.exit 0))) (.seq (.block 1 (.region [⟨(some 34), (.mv (.t 6)), none⟩, ⟨(some 35), (.mv (.t 0)), none⟩, ⟨(some 36), (.mv (.t 7)), none⟩, ⟨(some 37), (.mv (.t 5)), none⟩, ⟨(some 38), (.bin .add (.t 36) (.t 37)), none⟩, ⟨(some 39), (.mv (.t 0)), none⟩, ⟨(some 40), (.len false (.t 39)), none⟩, ⟨(some 41), (.bin .rem (.t 38) (.t 40)), none⟩, ⟨(some 42), (.iaddr 4 (.t 35) (.t 41)), none⟩, ⟨(some 43), (.load true 4 (.t 42)), none⟩, ⟨(some 44), (.bslice 4 1 [(.int .i64 0), (.int .i64 0), (.str []), .nilsl] [(0, (.t 43))]), none⟩, ⟨(some 45), (.app 4 56 [(.int .i64 0), (.int .i64 0), (.str []), .nilsl] false (.t 34) (.t 44)), none⟩, ⟨(some 6), (.mv (.t 45)), none⟩] false)) (.region [⟨(some 32), (.mv (.t 7)), none⟩, ⟨(some 33), (.bin .sub (.t 32) (.c (.int .i64 1))), none⟩, ⟨(some 7), (.mv (.t 33)), none⟩] false)))))) (.seq (.region [⟨(some 46), (.mv (.t 6)), none⟩, ⟨(some 47), (.call 14 [(.t 46)]), none⟩, ⟨(some 48), (.mv (.t 0)), none⟩, ⟨(some 49), (.call 14 [(.t 48)]), none⟩, ⟨(some 50), (.call 13 [(.t 47), (.t 49)]), none⟩, ⟨(some 51), (.mv (.t 50)), none⟩, ⟨(some 52), (.call 12 []), (some (51, true))⟩, ⟨(some 53), (.pick (.t 51) (.t 52) (.c (.bool false))), none⟩, ⟨(some 4), (.mv (.t 53)), none⟩] false) .ret))))))
theorem conv_u8 {t : Int} (h : (Lit.int .u8 t).wf = true) : 0 ≤ t ∧ t ≤ 255 := by
  simpa [Lit.wf, IntKind.min, IntKind.max, IntKind.signed, IntKind.bits] using h
theorem tmodN (a b : Nat) : ((a : Int)).tmod (b : Int) = ((a % b : Nat) : Int) := rfl
theorem turnS_snoc (l : List Gz) (n k : Nat) : turnS l n (k + 1) = turnS l n k ++ [l.getD (turnI l.length n k) default] := by
  simp [turnS, List.range_succ]
theorem turnS_len (l : List Gz) (n k : Nat) : (turnS l n k).length = k := by simp [turnS]
theorem law_CorpusOrderIndependent (l : List Gz) (turn : Int) (hok : okL Gz.okZ l) (htu : (Lit.int .u8 turn).wf = true) (hz : l.length * 56 ≤ 140737488351232) : PCall Try.prog 8 [.sl 4 (l.map Gz.enc), .int .u8 turn] (.bool true) := by
  obtain ⟨t0, t1⟩ := conv_u8 htu
  refine PCall_intro ?_ (cB _) (by simp only [ClosedL, List.mem_cons, List.not_mem_nil, or_false, forall_eq_or_imp, forall_eq, false_implies, implies_true]; repeat' (first | exact cI _ | exact cS _ | exact cB _ | exact closed_fn0 _ | exact closed_nilsl | exact closed_agg (Un.closed _) | exact closed_agg (It.closed _) | exact closed_agg (EI.closed _) | exact closed_agg (Ac.closed _) | exact closed_agg (Wd.closed _) | exact closed_agg (St.closed _) | exact closed_agg (Sta.closed _) | exact closed_eis _ | exact closed_acs _ | exact closed_gzs _ | exact Closed.of_scalar (scalar_int _ _) | exact closed_ro (Ac.closed _) | exact closed_ro (Gz.closed _) | exact closed_agg (Gz.closed _) | exact closed_strs _ | exact closed_map (fun w _ => Wd.closed w) | exact closed_map (fun w _ => St.closed w) | exact closed_map (fun w _ => Un.closed w) | exact closed_map (fun w _ => It.closed w) | exact closed_sc _ | exact closed_sps _ | exact closed_agg (Sp.closed _) | exact closed_ro (EI.closed _) | exact closed_ro (Sta.closed _) | exact closed_ro (It.closed _) | exact closed_ro (by simp only [List.mem_cons, List.not_mem_nil, or_false, forall_eq]; first | exact cI _ | exact cS _ | exact closed_eis _) | refine And.intro ?_ ?_))
  refine ACall_fn (vc := c_pandectlaw28_CorpusOrderIndependent) (ts := [.t 4]) Go.Proofs.Try.func8 (by kernel_rfl) rfl rfl (Nat.le_of_ble_eq_true rfl) (by kernel_rfl) ?_
  unfold c_pandectlaw28_CorpusOrderIndependent
  refine VW_seq (VW_region [0, 1] ?_)
  simp only [OpsW_nil, OpsW_n, StepW, pok, pval, VA.ev, Env.get, Env.put, Env.keep, argEnv, thenQ, Heap.nil, Nat.succ_ne_self, Nat.reduceEqDiff, ite_true, ite_false, true_and, reduceCtorEq, Nat.zero_add]
  refine VW_seq ?_
  refine VW_seqJ (σ := { b : Bool // b = false → Nice l ∧ ((twiceS (rowG l)).length : Int) = 0 ∧ l.length ≠ 0 }) [0, 1, 20] (fun s => ([(0, .sl 4 (l.map Gz.enc)), (1, .int .u8 turn), (20, .bool s.1)], ⟨[], 0⟩)) ?_ (fun b => ?_)
  · simp only [OpsW_n, StepW, pok, pval, VA.ev, Env.get, Env.put, Env.keep, unV, unOk, Heap.le, HL.le, Nat.succ_ne_self, Env.le, List.map, Nat.reduceEqDiff, ite_true, ite_false, true_and, and_true, ne_eq, reduceCtorEq]
    refine ACall_ps (few30 hok) ?_
    rintro p ⟨b, rfl, hb⟩
    cases b with
    | false =>
      simp only [OpsW_nil, OpsW_n, OpsW_xf, StepW, pok, pval, VA.ev, Env.get, Env.put, pickV, isBool, Nat.le_refl, Nat.succ_ne_self, Nat.reduceEqDiff, ite_true, ite_false, true_and, and_true, reduceCtorEq, Bool.not_false]
      exact ⟨⟨true, fun h => Bool.noConfusion h⟩, by first | trivial | rfl⟩
    | true =>
      have hn := hb rfl
      simp only [OpsW_n, OpsW_y, StepW, pok, pval, VA.ev, Env.get, Env.put, pickV, isBool, unV, unOk, Nat.succ_ne_self, List.map, Nat.reduceEqDiff, Bool.false_eq_true, ite_true, ite_false, true_and, reduceCtorEq, Bool.not_true]
      refine ACall_p (sp_pandectref28_Once l hn.smal.len hn.smal.row) ?_
      cases ho : ((twiceS (rowG l)).length : Int) == 0 with
      | false =>
        try simp only [OpsW_nil, OpsW_n, OpsW_xf, StepW, pok, pval, VA.ev, Env.get, Env.put, pickV, isBool, Nat.le_refl, Nat.succ_ne_self, Nat.reduceEqDiff, ite_true, ite_false, true_and, and_true, reduceCtorEq, Bool.not_false]
        exact ⟨⟨true, fun h => Bool.noConfusion h⟩, by first | trivial | rfl⟩
      | true =>
        try simp only [OpsW_nil, OpsW_n, OpsW_y, StepW, pok, pval, VA.ev, Env.get, Env.put, pickV, isBool, intV, binV, binOk, lenV, lenOk, Nat.le_refl, Nat.succ_ne_self, Nat.reduceEqDiff, Bool.false_eq_true, ite_true, ite_false, true_and, and_true, reduceCtorEq, Bool.not_true, List.length_map]
        refine ⟨⟨(l.length : Int) == 0, fun h => ⟨hn, by simpa using ho, ?_⟩⟩, by first | trivial | rfl⟩
        intro e
        rw [e] at h
        simp at h
  obtain ⟨b, hb⟩ := b
  refine VW_cond rfl (fun h1 => ?_) (fun h1 => ?_)
  · refine VW_seq (VW_region [4] ?_)
    simp only [OpsW_nil, OpsW_n, StepW, pok, pval, VA.ev, Env.get, Env.put, Env.keep, thenQ, List.map, Nat.reduceEqDiff, ite_true, ite_false, true_and, reduceCtorEq]
    refine ACall_p run.awake ?_
    try simp only [OpsW_nil, OpsW_n, OpsW_y, OpsW_xt, OpsW_xf, OpsW_u, StepW, guardOf, DrawW_nil, DrawW_n, DrawW_y, DrawW_xt, DrawW_xf, DrawW_u, DrawH, VOp.isIaddr, QW, dok, dval, VOp.pure, VOp.simple, VOp.det, pok, pval, VA.ev, Env.get, Env.put, Env.keep, argEnv, thenQ, blockQ, retQ, resV, resOk, RS.ev, RS.ok, gd, pickV, isBool, aggV, intV, binV, binOk, strV, binbV, boolV, binbOk, unV, unOk, convV, isInt, isStr, numOf, loV, hiV, lenV, boundOk, sliceV, sliceOk, faddrV, isAddr, locCells, locOk, cellsOfAgg, isAggP, iaddrV, iaddrOk, idxV, idxOk, lenOk, extV, extOk, fillV, fillOk, mmV, PV.cells, PV.fits, overlay, PV.nth, PV.row, lookV, mapRows, mapOk, keysOk, keyOk, keyEq, mapFind, mapPut, mapHas, mapsetV, Heap.get, Heap.set, Heap.del, Heap.le, HL.get, HL.set, HL.del, HL.le, Heap.push, Heap.nil, Nat.le_refl, Nat.add_eq_left, Nat.left_eq_add, Nat.succ_ne_self, Nat.one_ne_zero, Env.le, killed, oldId, oldRows, oldOk, srcRows, srcOk, elemsV, elemsOk, eqOk, ekOk, eqCells, eqCell, storeV, storeOk, AB.live, pxV, pxOk, fxV, fxOk, isPtr, slLike, isNil, notNil, List.map, List.set, List.replicate, List.length, List.getD_cons_zero, List.getD_cons_succ, List.getD_nil, List.take, List.drop, List.take_zero, List.drop_zero, List.take_succ_cons, List.drop_succ_cons, List.append, List.cons_append, List.nil_append, Option.map, Nat.reduceEqDiff, Nat.reduceAdd, Nat.reduceLT, Nat.reduceLeDiff, Nat.reduceSub, Nat.reduceMul, reduceIte, Bool.false_eq_true, Bool.true_eq_false, ite_true, ite_false, if_true, if_false, true_and, and_true, implies_true, forall_const, ne_eq, not_false_eq_true, reduceCtorEq, BEq.rfl, beq_self_eq_true, Option.some.injEq, Nat.zero_add, Nat.add_zero, List.length_cons, List.length_nil, true_implies, imp_self, Int.reduceToNat, Int.toNat_natCast, Bool.not_false, Bool.not_true]
    refine VW_ret ?_
    try simp only [Env.get, thenQ, retQ, resV, resOk, RS.ev, RS.ok, ite_true, true_and, and_true]
    exact View.refl _ _
  obtain ⟨hn, ho, h0⟩ := hb h1
  have hll := hn.len
  refine VW_skip ?_
  try simp only [thenQ]
  obtain ⟨n, hnL, hnv⟩ : ∃ n : Nat, n < l.length ∧ (IntKind.i64.wrap turn).tmod (l.length : Int) = (n : Int) := by
    refine ⟨turn.toNat % l.length, Nat.mod_lt _ (by omega), ?_⟩
    rw [w64 (by omega) (by omega)]
    have e := tmodN turn.toNat l.length
    rw [show ((turn.toNat : Nat) : Int) = turn by omega] at e
    exact e
  refine VW_seq (VW_region [0, 5] ?_)
  simp only [OpsW_nil, OpsW_n, StepW, pok, pval, VA.ev, Env.get, Env.put, Env.keep, thenQ, intV, binV, binOk, convV, isInt, lenV, lenOk, Nat.succ_ne_self, Nat.reduceEqDiff, ite_true, ite_false, true_and, ne_eq, reduceCtorEq, List.length_map, hnv]
  repeat (with_reducible refine And.intro ?_ ?_; first | omega | (with_reducible constructor <;> omega) | exact False.elim | exact True.intro)
  refine VW_seq (VW_region [0, 5, 6] ?_)
  simp only [OpsW_nil, OpsW_n, StepW, pok, pval, VA.ev, Env.get, Env.put, Env.keep, thenQ, Nat.succ_ne_self, Nat.reduceEqDiff, ite_true, ite_false, true_and, reduceCtorEq]
  refine VW_own0 6 4 rfl ?_
  try simp only [Env.put, Heap.push, Nat.zero_add]
  refine VW_seq ?_
  refine VW_seq (VW_region [0, 5, 6, 7] ?_)
  simp only [OpsW_nil, OpsW_n, StepW, pok, pval, VA.ev, Env.get, Env.put, Env.keep, thenQ, intV, binV, binOk, lenV, lenOk, Nat.succ_ne_self, Nat.reduceEqDiff, ite_true, ite_false, true_and, reduceCtorEq, List.length_map]
  have z0 : (l.length : Int) - 1 - ((0 : Nat) : Int) = (l.length : Int) - 1 := by omega
  refine VW_block ?_
  refine VW_loop (σ := { s : Nat × Nat × Nat // s.1 ≤ l.length ∧ s.2.1 < s.2.2 }) (fun s => ([(0, .sl 4 (l.map Gz.enc)), (5, pI n), (6, .own s.1.2.1 0 (turnS l n s.1.1).length), (7, pI ((l.length : Int) - 1 - s.1.1))], ⟨[(s.1.2.1, .arr false 4 ((turnS l n s.1.1).map Gz.enc))], s.1.2.2⟩)) (fun s => l.length - s.1.1) ⟨(0, 0, 1), ⟨Nat.zero_le _, by show 0 < 1; omega⟩⟩ ?_ ?_ ?_
  · try simp only [Env.get, Nat.succ_ne_self, Env.le, List.map, Nat.reduceEqDiff, ite_true, ite_false, and_true, reduceCtorEq, List.length_nil, w64 (n := (l.length : Int) - 1) (by omega) (by omega), turnS, List.range_zero, z0]
    all_goals (repeat' (first | rfl | trivial | omega | (simp only []; omega) | refine And.intro ?_ ?_))
  · try simp only [Heap.get, Heap.le, HL.get, HL.le, Nat.le_refl, List.map, ite_true, and_true, turnS, List.range_zero]
    all_goals (repeat' (first | rfl | trivial | omega | (simp only []; omega) | refine And.intro ?_ ?_))
  rintro ⟨⟨k, id, t⟩, hk, ht⟩
  simp only [] at hk ht ⊢
  refine VW_seq ?_
  refine VW_seq (VW_region [0, 5, 6, 7, 31] ?_)
  simp only [OpsW_nil, OpsW_n, StepW, pok, pval, VA.ev, Env.get, Env.put, Env.keep, thenQ, intV, binV, binOk, Heap.get, Heap.le, HL.le, Nat.succ_ne_self, Env.le, Nat.reduceEqDiff, ite_true, ite_false, true_and, and_true, reduceCtorEq]
  refine VW_cond rfl (fun h2 => ?_) (fun h2 => ?_)
  · refine VW_skip ?_
    try simp only [thenQ]
    simp only [decide_eq_true_eq] at h2
    have kl : k < l.length := by omega
    have hti : turnI l.length n k < l.length := Nat.mod_lt _ (by omega)
    have e1 : IntKind.i64.wrap ((l.length : Int) - 1 - (k : Int) + (n : Int)) = ((l.length - 1 - k + n : Nat) : Int) := by rw [w64 (by omega) (by omega)]; omega
    have e2 : (((l.length - 1 - k + n : Nat) : Int)).tmod (l.length : Int) = ((turnI l.length n k : Nat) : Int) := tmodN _ _
    have e3 : (l.map Gz.enc).getD (turnI l.length n k) [] = (l.getD (turnI l.length n k) default).enc := by rw [rowm hti, List.getD_eq_getElem?_getD, List.getElem?_eq_getElem hti]; rfl
    have htl := turnS_len l n k
    have htk : ((turnS l n k).map Gz.enc).take (turnS l n k).length = (turnS l n k).map Gz.enc := List.take_of_length_le (by simp)
    have hsn := turnS_snoc l n k
    generalize l.getD (turnI l.length n k) default = g at hsn e3
    have qi0 : (id = t) = False := eq_false (by omega)
    have qi1 : (id = (t + 1)) = False := eq_false (by omega)
    have qi2 : (t = id) = False := eq_false (by omega)
    have qi3 : (t = (t + 1)) = False := eq_false (by omega)
    have qi4 : ((t + 1) = id) = False := eq_false (by omega)
    have qi5 : ((t + 1) = t) = False := eq_false (by omega)
    refine VW_seq ?_
    refine VW_block ?_
    refine VW_region [0, 5, 6, 7] ?_
    simp only [OpsW_nil, OpsW_n, StepW, pok, pval, VA.ev, Env.get, Env.put, Env.keep, thenQ, blockQ, aggV, intV, binV, binOk, isInt, numOf, lenV, locCells, locOk, iaddrV, iaddrOk, lenOk, PV.cells, PV.fits, PV.nth, PV.row, Heap.get, Heap.del, HL.get, HL.del, Heap.push, Nat.le_refl, Nat.succ_ne_self, killed, oldId, oldRows, oldOk, srcRows, srcOk, elemsV, elemsOk, List.set, List.replicate, List.length, List.take, List.drop, List.take_succ_cons, Nat.reduceEqDiff, Nat.reduceLT, Nat.reduceLeDiff, Bool.true_eq_false, ite_true, ite_false, true_and, and_true, ne_eq, reduceCtorEq, BEq.rfl, Nat.zero_add, List.length_cons, imp_self, Int.toNat_natCast, List.length_map, e1, e2, e3, gz_take, gz_len, htk, qi0, qi1, qi2, qi3, qi4, qi5]
    repeat (with_reducible refine And.intro ?_ ?_; first | omega | (with_reducible constructor <;> omega) | exact False.elim | exact True.intro)
    try simp only [OpsW_nil, OpsW_n, OpsW_y, OpsW_xt, OpsW_xf, OpsW_u, StepW, guardOf, DrawW_nil, DrawW_n, DrawW_y, DrawW_xt, DrawW_xf, DrawW_u, DrawH, VOp.isIaddr, QW, dok, dval, VOp.pure, VOp.simple, VOp.det, pok, pval, VA.ev, Env.get, Env.put, Env.keep, argEnv, thenQ, blockQ, retQ, resV, resOk, RS.ev, RS.ok, gd, pickV, isBool, aggV, intV, binV, binOk, strV, binbV, boolV, binbOk, unV, unOk, convV, isInt, isStr, numOf, loV, hiV, lenV, boundOk, sliceV, sliceOk, faddrV, isAddr, locCells, locOk, cellsOfAgg, isAggP, iaddrV, iaddrOk, idxV, idxOk, lenOk, extV, extOk, fillV, fillOk, mmV, PV.cells, PV.fits, overlay, PV.nth, PV.row, lookV, mapRows, mapOk, keysOk, keyOk, keyEq, mapFind, mapPut, mapHas, mapsetV, Heap.get, Heap.set, Heap.del, Heap.le, HL.get, HL.set, HL.del, HL.le, Heap.push, Heap.nil, Nat.le_refl, Nat.add_eq_left, Nat.left_eq_add, Nat.succ_ne_self, Nat.one_ne_zero, Env.le, killed, oldId, oldRows, oldOk, srcRows, srcOk, elemsV, elemsOk, eqOk, ekOk, eqCells, eqCell, storeV, storeOk, AB.live, pxV, pxOk, fxV, fxOk, isPtr, slLike, isNil, notNil, List.map, List.set, List.replicate, List.length, List.getD_cons_zero, List.getD_cons_succ, List.getD_nil, List.take, List.drop, List.take_zero, List.drop_zero, List.take_succ_cons, List.drop_succ_cons, List.append, List.cons_append, List.nil_append, Option.map, Nat.reduceEqDiff, Nat.reduceAdd, Nat.reduceLT, Nat.reduceLeDiff, Nat.reduceSub, Nat.reduceMul, reduceIte, Bool.false_eq_true, Bool.true_eq_false, ite_true, ite_false, if_true, if_false, true_and, and_true, implies_true, forall_const, ne_eq, not_false_eq_true, reduceCtorEq, BEq.rfl, beq_self_eq_true, Option.some.injEq, Nat.zero_add, Nat.add_zero, List.length_cons, List.length_nil, true_implies, imp_self, Int.reduceToNat, Int.toNat_natCast, Bool.not_false, Bool.not_true, qi0, qi1, qi2, qi3, qi4, qi5]
    refine VW_region [0, 5, 6, 7] ?_
    simp only [OpsW_nil, OpsW_n, StepW, pok, pval, VA.ev, Env.get, Env.put, Env.keep, thenQ, intV, binV, binOk, HL.get, Nat.succ_ne_self, Nat.reduceEqDiff, ite_true, ite_false, true_and, reduceCtorEq, w64 (n := (l.length : Int) - 1 - (k : Int) - 1) (by omega) (by omega)]
    refine ⟨⟨(k + 1, t + 1, t + 1 + 1), ⟨kl, by show t + 1 < t + 1 + 1; omega⟩⟩, ?_⟩
    rw [hsn, List.map_append, List.length_append]
    have e4 : (l.length : Int) - 1 - (k : Int) - 1 = (l.length : Int) - 1 - ((k + 1 : Nat) : Int) := by omega
    try simp only [Nat.le_refl, List.map, List.length, ite_true, ite_false, true_and, and_true, Nat.zero_add, qi0, qi1, qi2, qi3, qi4, qi5, e4]
    all_goals (repeat' (first | rfl | trivial | omega | (simp only []; omega) | refine And.intro ?_ ?_))
  · simp only [decide_eq_false_iff_not] at h2
    obtain rfl : k = l.length := by omega
    have hp := turn_perm l hnL
    have hnm := hn.perm hp
    have hds : actsS (rowG (turnS l n l.length)) = actsS (rowG l) := acts_perm (hp.flatMap_right _) (once_distinct ho)
    generalize turnS l n l.length = m at hp hnm hds ⊢
    refine VW_exit ?_
    try simp only [thenQ, blockQ, retQ, ite_true]
    refine VW_freeze [(0, .sl 4 (l.map Gz.enc)), (6, .sl 4 (m.map Gz.enc))] ⟨View.refl _ _, View.own_all (fz := false) (by simp [Heap.get, HL.get]) (by simp), trivial⟩ ?_
    try simp only []
    refine VW_seq (VW_region [4] ?_)
    simp only [OpsW_n, StepW, pok, pval, VA.ev, Env.get, Env.put, Env.keep, thenQ, Nat.succ_ne_self, List.map, Nat.reduceEqDiff, ite_true, ite_false, true_and, reduceCtorEq]
    refine ACall_p (sp_corpus_EnactedItems m hnm.smal.len hnm.smal.row hnm.smal.items) ?_
    try simp only [OpsW_nil, OpsW_n, OpsW_y, OpsW_xt, OpsW_xf, OpsW_u, StepW, guardOf, DrawW_nil, DrawW_n, DrawW_y, DrawW_xt, DrawW_xf, DrawW_u, DrawH, VOp.isIaddr, QW, dok, dval, VOp.pure, VOp.simple, VOp.det, pok, pval, VA.ev, Env.get, Env.put, Env.keep, argEnv, thenQ, blockQ, retQ, resV, resOk, RS.ev, RS.ok, gd, pickV, isBool, aggV, intV, binV, binOk, strV, binbV, boolV, binbOk, unV, unOk, convV, isInt, isStr, numOf, loV, hiV, lenV, boundOk, sliceV, sliceOk, faddrV, isAddr, locCells, locOk, cellsOfAgg, isAggP, iaddrV, iaddrOk, idxV, idxOk, lenOk, extV, extOk, fillV, fillOk, mmV, PV.cells, PV.fits, overlay, PV.nth, PV.row, lookV, mapRows, mapOk, keysOk, keyOk, keyEq, mapFind, mapPut, mapHas, mapsetV, Heap.get, Heap.set, Heap.del, Heap.le, HL.get, HL.set, HL.del, HL.le, Heap.push, Heap.nil, Nat.le_refl, Nat.add_eq_left, Nat.left_eq_add, Nat.succ_ne_self, Nat.one_ne_zero, Env.le, killed, oldId, oldRows, oldOk, srcRows, srcOk, elemsV, elemsOk, eqOk, ekOk, eqCells, eqCell, storeV, storeOk, AB.live, pxV, pxOk, fxV, fxOk, isPtr, slLike, isNil, notNil, List.map, List.set, List.replicate, List.length, List.getD_cons_zero, List.getD_cons_succ, List.getD_nil, List.take, List.drop, List.take_zero, List.drop_zero, List.take_succ_cons, List.drop_succ_cons, List.append, List.cons_append, List.nil_append, Option.map, Nat.reduceEqDiff, Nat.reduceAdd, Nat.reduceLT, Nat.reduceLeDiff, Nat.reduceSub, Nat.reduceMul, reduceIte, Bool.false_eq_true, Bool.true_eq_false, ite_true, ite_false, if_true, if_false, true_and, and_true, implies_true, forall_const, ne_eq, not_false_eq_true, reduceCtorEq, BEq.rfl, beq_self_eq_true, Option.some.injEq, Nat.zero_add, Nat.add_zero, List.length_cons, List.length_nil, true_implies, imp_self, Int.reduceToNat, Int.toNat_natCast, Bool.not_false, Bool.not_true]
    refine ACall_p (sp_corpus_EnactedItems l hn.smal.len hn.smal.row hn.smal.items) ?_
    rw [hds]
    try simp only [OpsW_nil, OpsW_n, OpsW_y, OpsW_xt, OpsW_xf, OpsW_u, StepW, guardOf, DrawW_nil, DrawW_n, DrawW_y, DrawW_xt, DrawW_xf, DrawW_u, DrawH, VOp.isIaddr, QW, dok, dval, VOp.pure, VOp.simple, VOp.det, pok, pval, VA.ev, Env.get, Env.put, Env.keep, argEnv, thenQ, blockQ, retQ, resV, resOk, RS.ev, RS.ok, gd, pickV, isBool, aggV, intV, binV, binOk, strV, binbV, boolV, binbOk, unV, unOk, convV, isInt, isStr, numOf, loV, hiV, lenV, boundOk, sliceV, sliceOk, faddrV, isAddr, locCells, locOk, cellsOfAgg, isAggP, iaddrV, iaddrOk, idxV, idxOk, lenOk, extV, extOk, fillV, fillOk, mmV, PV.cells, PV.fits, overlay, PV.nth, PV.row, lookV, mapRows, mapOk, keysOk, keyOk, keyEq, mapFind, mapPut, mapHas, mapsetV, Heap.get, Heap.set, Heap.del, Heap.le, HL.get, HL.set, HL.del, HL.le, Heap.push, Heap.nil, Nat.le_refl, Nat.add_eq_left, Nat.left_eq_add, Nat.succ_ne_self, Nat.one_ne_zero, Env.le, killed, oldId, oldRows, oldOk, srcRows, srcOk, elemsV, elemsOk, eqOk, ekOk, eqCells, eqCell, storeV, storeOk, AB.live, pxV, pxOk, fxV, fxOk, isPtr, slLike, isNil, notNil, List.map, List.set, List.replicate, List.length, List.getD_cons_zero, List.getD_cons_succ, List.getD_nil, List.take, List.drop, List.take_zero, List.drop_zero, List.take_succ_cons, List.drop_succ_cons, List.append, List.cons_append, List.nil_append, Option.map, Nat.reduceEqDiff, Nat.reduceAdd, Nat.reduceLT, Nat.reduceLeDiff, Nat.reduceSub, Nat.reduceMul, reduceIte, Bool.false_eq_true, Bool.true_eq_false, ite_true, ite_false, if_true, if_false, true_and, and_true, implies_true, forall_const, ne_eq, not_false_eq_true, reduceCtorEq, BEq.rfl, beq_self_eq_true, Option.some.injEq, Nat.zero_add, Nat.add_zero, List.length_cons, List.length_nil, true_implies, imp_self, Int.reduceToNat, Int.toNat_natCast, Bool.not_false, Bool.not_true]
    refine ACall_p (sp_pandectref28_Rows _ (by unfold deedsS; rw [deedsF_len]; exact hn.smal.items) hn.deeds_ok) ?_
    try simp only [OpsW_nil, OpsW_n, OpsW_y, StepW, pok, pval, VA.ev, Env.get, Env.put, pickV, isBool, Nat.succ_ne_self, List.map, Nat.reduceEqDiff, ite_true, ite_false, true_and, reduceCtorEq]
    refine ACall_p run.awake ?_
    try simp only [OpsW_nil, OpsW_n, OpsW_y, OpsW_xt, OpsW_xf, OpsW_u, StepW, guardOf, DrawW_nil, DrawW_n, DrawW_y, DrawW_xt, DrawW_xf, DrawW_u, DrawH, VOp.isIaddr, QW, dok, dval, VOp.pure, VOp.simple, VOp.det, pok, pval, VA.ev, Env.get, Env.put, Env.keep, argEnv, thenQ, blockQ, retQ, resV, resOk, RS.ev, RS.ok, gd, pickV, isBool, aggV, intV, binV, binOk, strV, binbV, boolV, binbOk, unV, unOk, convV, isInt, isStr, numOf, loV, hiV, lenV, boundOk, sliceV, sliceOk, faddrV, isAddr, locCells, locOk, cellsOfAgg, isAggP, iaddrV, iaddrOk, idxV, idxOk, lenOk, extV, extOk, fillV, fillOk, mmV, PV.cells, PV.fits, overlay, PV.nth, PV.row, lookV, mapRows, mapOk, keysOk, keyOk, keyEq, mapFind, mapPut, mapHas, mapsetV, Heap.get, Heap.set, Heap.del, Heap.le, HL.get, HL.set, HL.del, HL.le, Heap.push, Heap.nil, Nat.le_refl, Nat.add_eq_left, Nat.left_eq_add, Nat.succ_ne_self, Nat.one_ne_zero, Env.le, killed, oldId, oldRows, oldOk, srcRows, srcOk, elemsV, elemsOk, eqOk, ekOk, eqCells, eqCell, storeV, storeOk, AB.live, pxV, pxOk, fxV, fxOk, isPtr, slLike, isNil, notNil, List.map, List.set, List.replicate, List.length, List.getD_cons_zero, List.getD_cons_succ, List.getD_nil, List.take, List.drop, List.take_zero, List.drop_zero, List.take_succ_cons, List.drop_succ_cons, List.append, List.cons_append, List.nil_append, Option.map, Nat.reduceEqDiff, Nat.reduceAdd, Nat.reduceLT, Nat.reduceLeDiff, Nat.reduceSub, Nat.reduceMul, reduceIte, Bool.false_eq_true, Bool.true_eq_false, ite_true, ite_false, if_true, if_false, true_and, and_true, implies_true, forall_const, ne_eq, not_false_eq_true, reduceCtorEq, BEq.rfl, beq_self_eq_true, Option.some.injEq, Nat.zero_add, Nat.add_zero, List.length_cons, List.length_nil, true_implies, imp_self, Int.reduceToNat, Int.toNat_natCast, Bool.not_false, Bool.not_true]
    refine VW_ret ?_
    try simp only [Env.get, retQ, resV, resOk, RS.ev, RS.ok, ite_true, true_and, and_true]
    exact View.refl _ _
end Go.Proofs.Ytcjaojhbebpokaa.w

