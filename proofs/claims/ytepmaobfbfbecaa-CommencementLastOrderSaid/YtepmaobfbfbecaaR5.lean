/-
  Walks: dateset.Contains, Valid.
-/
import Derived.Test.YtepmaobfbfbecaaSo
import Derived.Test.YtepmaobfbfbecaaVmH
set_option linter.all false
namespace Go.Proofs.Ytepmaobfbfbecaa.w
open Go Go.VM
set_option maxRecDepth 20000
set_option maxHeartbeats 0
set_option pp.deepTerms false
def c_dateset_Contains : VC := (.seq (.region [⟨(some 4), (.mv (.c (.bool false))), none⟩] false) (.seq (.region [⟨(some 5), (.mv (.t 0)), none⟩, ⟨(some 6), (.call 33 [(.t 5)]), none⟩, ⟨(some 7), (.mv (.t 1)), none⟩, ⟨(some 8), (.call 32 [(.t 6), (.t 7)]), none⟩, ⟨(some 4), (.mv (.t 8)), none⟩] false) .ret))
def c_dateset_Valid : VC := (.seq (.region [⟨(some 2), (.mv (.c (.bool false))), none⟩] false) (.seq (.seq (.region [⟨(some 5), (.mv (.t 0)), none⟩, ⟨(some 6), (.len false (.t 5)), none⟩, ⟨(some 7), (.mv (.c (.int .i64 0))), none⟩] false) (.block 0 (.loop (.seq (.region [⟨(some 8), (.bin .lss (.t 7) (.t 6)), none⟩] false) (.seq (.cond (.t 8) .skip (.exit 0)) (.seq (.block 1 (.seq (.region [⟨(some 9), (.mv (.t 7)), none⟩, ⟨(some 10), (.iaddr 2 (.t 5) (.t 7)), none⟩, ⟨(some 11), (.load true 2 (.t 10)), none⟩, ⟨(some 4), (.alloc [(.int .i64 0), (.int .i64 0)]), none⟩, ⟨(some 3), (.mv (.t 9)), none⟩, ⟨none, (.store 2 (.t 4) (.t 11)), none⟩] false) (.seq (.region [⟨(some 12), (.faddr 0 (.t 4)), none⟩, ⟨(some 13), (.load false 1 (.t 12)), none⟩, ⟨(some 14), (.bin .lss (.t 13) (.c (.int .i64 0))), none⟩, ⟨(some 15), (.mv (.t 14)), none⟩, ⟨(some 16), (.faddr 1 (.t 4)), (some (15, false))⟩, ⟨(some 17), (.load false 1 (.t 16)), (some (15, false))⟩, ⟨(some 18), (.faddr 0 (.t 4)), (some (15, false))⟩, ⟨(some 19), (.load false 1 (.t 18)), (some (15, false))⟩, ⟨(some 20), (.bin .leq (.t 17) (.t 19)), (some (15, false))⟩, ⟨(some 21), (.pick (.t 15) (.c (.bool true)) (.t 20)), none⟩, ⟨(some 22), (.mv (.t 21)), none⟩, ⟨(some 23), (.faddr 1 (.t 4)), (some (22, false))⟩, ⟨(some 24), (.load false 1 (.t 23)), (some (22, false))⟩, ⟨(some 25), (.bin .gtr (.t 24) (.c (.int .i64 1048577))), (some (22, false))⟩, ⟨(some 26), (.pick (.t 22) (.c (.bool true)) (.t 25)), none⟩, ⟨(some 27), (.mv (.t 26)), none⟩, ⟨(some 28), (.mv (.t 3)), (some (27, false))⟩, ⟨(some 29), (.bin .gtr (.t 28) (.c (.int .i64 0))), (some (27, false))⟩, ⟨(some 30), (.mv (.t 29)), (some (27, false))⟩, ⟨(some 31), (.faddr 0 (.t 4)), (some (30, true))⟩, ⟨(some 32), (.load false 1 (.t 31)), (some (30, true))⟩, ⟨(some 33), (.mv (.t 0)), (some (30, true))⟩, ⟨(some 34), (.mv (.t 3)), (some (30, true))⟩, ⟨(some 35), (.bin .sub (.t 34) (.c (.int .i64 1))), (some (30, true))⟩, ⟨(some 36), (.iaddr 2 (.t 33) (.t 35)), (some (30, true))⟩, ⟨(some 37), (.faddr 1 (.t 36)), (some (30, true))⟩, ⟨(some 38), (.load false 1 (.t 37)), (some (30, true))⟩, ⟨(some 39), (.bin .leq (.t 32) (.t 38)), (some (30, true))⟩, ⟨(some 40), (.pick (.t 30) (.t 39) (.c (.bool false))), (some (27, false))⟩, ⟨(some 41), (.pick (.t 27) (.c (.bool true)) (.t 40)), none⟩] true) (.cond (.t 41) (.seq (.region [⟨(some 2), (.mv (.c (.bool false))), none⟩] false) .ret) .skip)))) (.region [⟨(some 42), (.bin .add (.t 7) (.c (.int .i64 1))), none⟩, ⟨(some 7), (.mv (.t 42)), none⟩] false))))))) (.seq (.region [⟨(some 43), (.mv (.t 0)), none⟩, ⟨(some 44), (.len false (.t 43)), none⟩, ⟨(some 45), (.bin .leq (.t 44) (.c (.int .i64 4096))), none⟩, ⟨(some 2), (.mv (.t 45)), none⟩] false) .ret)))
theorem sp_dateset_Contains (l : List Sp) (d : Int) (hl : l.length ≤ 10000) : PCall Try.prog 23 [.sl 2 (l.map Sp.enc), pI d] (.bool (memB (normS l) d)) := by
  refine PCall_intro ?_ (cB _) (by simp only [ClosedL, List.mem_cons, List.not_mem_nil, or_false, forall_eq_or_imp, forall_eq, false_implies, implies_true]; repeat' (first | exact cI _ | exact cS _ | exact cB _ | exact closed_fn0 _ | exact closed_nilsl | exact closed_agg (Un.closed _) | exact closed_agg (It.closed _) | exact closed_agg (EI.closed _) | exact closed_agg (Ac.closed _) | exact closed_agg (Wd.closed _) | exact closed_agg (St.closed _) | exact closed_agg (Sta.closed _) | exact closed_eis _ | exact closed_acs _ | exact closed_strs _ | exact closed_map (fun w _ => Wd.closed w) | exact closed_map (fun w _ => St.closed w) | exact closed_map (fun w _ => Un.closed w) | exact closed_map (fun w _ => It.closed w) | exact closed_sc _ | exact closed_sps _ | exact closed_agg (Sp.closed _) | exact closed_ro (EI.closed _) | exact closed_ro (Sta.closed _) | exact closed_ro (It.closed _) | exact closed_ro (by simp only [List.mem_cons, List.not_mem_nil, or_false, forall_eq]; first | exact cI _ | exact cS _ | exact closed_eis _) | refine And.intro ?_ ?_))
  refine ACall_fn (vc := c_dateset_Contains) (ts := [.t 4]) Go.Proofs.Try.func23 (by kernel_rfl) rfl rfl (Nat.le_of_ble_eq_true rfl) (by kernel_rfl) ?_
  unfold c_dateset_Contains
  refine VW_seq (VW_region [0, 1] ?_)
  simp only [OpsW_nil, OpsW_n, StepW, pok, pval, VA.ev, Env.get, Env.put, Env.keep, argEnv, thenQ, Heap.nil, Nat.succ_ne_self, Nat.reduceEqDiff, ite_true, ite_false, true_and, reduceCtorEq, Nat.zero_add]
  refine VW_seq (VW_region [4] ?_)
  simp only [OpsW_nil, OpsW_n, StepW, pok, pval, VA.ev, Env.get, Env.put, Env.keep, thenQ, Nat.succ_ne_self, List.map, Nat.reduceEqDiff, ite_true, ite_false, true_and, reduceCtorEq]
  refine ACall_p (norm_ok l (by omega)) ?_
  try simp only [midQ, OpsW_nil, OpsW_n, OpsW_y, OpsW_xt, OpsW_xf, OpsW_u, StepW, guardOf, DrawW_nil, DrawW_n, DrawW_y, DrawW_xt, DrawW_xf, DrawW_u, DrawH, VOp.isIaddr, QW, dok, dval, VOp.pure, VOp.simple, VOp.det, pok, pval, VA.ev, Env.get, Env.put, Env.keep, argEnv, thenQ, blockQ, retQ, resV, resOk, RS.ev, RS.ok, gd, pickV, isBool, aggV, intV, binV, binOk, strV, binbV, boolV, binbOk, unV, unOk, convV, isInt, isStr, numOf, loV, hiV, lenV, boundOk, sliceV, sliceOk, faddrV, isAddr, locCells, locOk, cellsOfAgg, isAggP, iaddrV, iaddrOk, idxV, idxOk, lenOk, extV, extOk, fillV, fillOk, mmV, PV.cells, PV.fits, overlay, PV.nth, PV.row, lookV, mapRows, mapOk, keysOk, keyOk, keyEq, mapFind, mapPut, mapHas, mapsetV, Heap.get, Heap.set, Heap.del, Heap.le, HL.get, HL.set, HL.del, HL.le, Heap.push, Heap.nil, Nat.le_refl, Nat.add_eq_left, Nat.left_eq_add, Nat.succ_ne_self, Nat.one_ne_zero, Env.le, killed, oldId, oldRows, oldOk, srcRows, srcOk, elemsV, elemsOk, eqOk, ekOk, eqCells, eqCell, storeV, storeOk, AB.live, pxV, pxOk, fxV, fxOk, isPtr, slLike, isNil, notNil, List.map, List.set, List.replicate, List.length, List.getD_cons_zero, List.getD_cons_succ, List.getD_nil, List.take, List.drop, List.take_zero, List.drop_zero, List.take_succ_cons, List.drop_succ_cons, List.append, List.cons_append, List.nil_append, Option.map, Nat.reduceEqDiff, Nat.reduceAdd, Nat.reduceLT, Nat.reduceLeDiff, Nat.reduceSub, Nat.reduceMul, reduceIte, Bool.false_eq_true, Bool.true_eq_false, ite_true, ite_false, if_true, if_false, true_and, and_true, implies_true, forall_const, ne_eq, not_false_eq_true, reduceCtorEq, BEq.rfl, beq_self_eq_true, Option.some.injEq, Nat.zero_add, Nat.add_zero, List.length_cons, List.length_nil, true_implies, imp_self, Int.reduceToNat, Int.toNat_natCast, Bool.not_false, Bool.not_true]
  refine ACall_p (sp_dateset_has (normS l) d (norm_spec l).1 (Nat.le_trans (norm_len l) (by omega))) ?_
  try simp only [midQ, OpsW_nil, OpsW_n, OpsW_y, OpsW_xt, OpsW_xf, OpsW_u, StepW, guardOf, DrawW_nil, DrawW_n, DrawW_y, DrawW_xt, DrawW_xf, DrawW_u, DrawH, VOp.isIaddr, QW, dok, dval, VOp.pure, VOp.simple, VOp.det, pok, pval, VA.ev, Env.get, Env.put, Env.keep, argEnv, thenQ, blockQ, retQ, resV, resOk, RS.ev, RS.ok, gd, pickV, isBool, aggV, intV, binV, binOk, strV, binbV, boolV, binbOk, unV, unOk, convV, isInt, isStr, numOf, loV, hiV, lenV, boundOk, sliceV, sliceOk, faddrV, isAddr, locCells, locOk, cellsOfAgg, isAggP, iaddrV, iaddrOk, idxV, idxOk, lenOk, extV, extOk, fillV, fillOk, mmV, PV.cells, PV.fits, overlay, PV.nth, PV.row, lookV, mapRows, mapOk, keysOk, keyOk, keyEq, mapFind, mapPut, mapHas, mapsetV, Heap.get, Heap.set, Heap.del, Heap.le, HL.get, HL.set, HL.del, HL.le, Heap.push, Heap.nil, Nat.le_refl, Nat.add_eq_left, Nat.left_eq_add, Nat.succ_ne_self, Nat.one_ne_zero, Env.le, killed, oldId, oldRows, oldOk, srcRows, srcOk, elemsV, elemsOk, eqOk, ekOk, eqCells, eqCell, storeV, storeOk, AB.live, pxV, pxOk, fxV, fxOk, isPtr, slLike, isNil, notNil, List.map, List.set, List.replicate, List.length, List.getD_cons_zero, List.getD_cons_succ, List.getD_nil, List.take, List.drop, List.take_zero, List.drop_zero, List.take_succ_cons, List.drop_succ_cons, List.append, List.cons_append, List.nil_append, Option.map, Nat.reduceEqDiff, Nat.reduceAdd, Nat.reduceLT, Nat.reduceLeDiff, Nat.reduceSub, Nat.reduceMul, reduceIte, Bool.false_eq_true, Bool.true_eq_false, ite_true, ite_false, if_true, if_false, true_and, and_true, implies_true, forall_const, ne_eq, not_false_eq_true, reduceCtorEq, BEq.rfl, beq_self_eq_true, Option.some.injEq, Nat.zero_add, Nat.add_zero, List.length_cons, List.length_nil, true_implies, imp_self, Int.reduceToNat, Int.toNat_natCast, Bool.not_false, Bool.not_true]
  refine VW_ret ?_
  try simp only [Env.get, retQ, resV, resOk, RS.ev, RS.ok, ite_true, true_and, and_true]
  exact View.refl _ _
def canonB : Int → List Sp → Bool
  | _, [] => true
  | b, s :: r => (!(decide (s.frm < 0) || (decide (s.to ≤ s.frm) || (decide (1048577 < s.to) || decide (s.frm ≤ b))))) && canonB s.to r
def validB (l : List Sp) : Bool := canonB (-1) l && decide (l.length ≤ 4096)
theorem canonB_iff : ∀ (l : List Sp) (b : Int), -1 ≤ b → (canonB b l = true ↔ CanonF b l)
  | [], b, _ => ⟨fun _ => trivial, fun _ => rfl⟩
  | s :: r, b, hb => by
    simp only [canonB, CanonF, Bool.and_eq_true, Bool.not_eq_true', Bool.or_eq_false_iff, decide_eq_false_iff_not, forever]
    constructor
    · rintro ⟨⟨h1, h2, h3, h4⟩, h5⟩
      exact ⟨by omega, by omega, by omega, (canonB_iff r s.to (by omega)).1 h5⟩
    · rintro ⟨h1, h2, h3, h4⟩
      exact ⟨⟨by omega, by omega, by omega, by omega⟩, (canonB_iff r s.to (by omega)).2 h4⟩
def lastTo (l : List Sp) : Nat → Int
  | 0 => -1
  | j + 1 => (l.getD j ⟨0, 0⟩).to
def badB (l : List Sp) (i : Nat) (s : Sp) : Bool := decide (s.frm < 0) || (decide (s.to ≤ s.frm) || (decide (1048577 < s.to) || (decide ((0 : Int) < (i : Int)) && decide (s.frm ≤ lastTo l i))))
theorem bad_step (l : List Sp) (i : Nat) (h : i < l.length) : canonB (lastTo l i) (l.drop i) = (!badB l i l[i] && canonB (lastTo l (i + 1)) (l.drop (i + 1))) := by
  rw [List.drop_eq_getElem_cons h, canonB]
  have e1 : lastTo l (i + 1) = l[i].to := by simp [lastTo, List.getD_eq_getElem?_getD, h]
  rw [e1]
  congr 2
  unfold badB
  cases i with
  | zero =>
    cases h1 : decide (l[0].frm < 0) with
    | true => rfl
    | false =>
      have h2 : ¬ l[0].frm ≤ -1 := by simp at h1; omega
      have : decide (l[0].frm ≤ lastTo l 0) = false := decide_eq_false h2
      rw [this]; simp
  | succ j => simp
theorem sp_dateset_Valid (l : List Sp) (hl : l.length ≤ 1000000) : PCall Try.prog 25 [.sl 2 (l.map Sp.enc)] (.bool (validB l)) := by
  refine PCall_intro ?_ (cB _) (by simp only [ClosedL, List.mem_cons, List.not_mem_nil, or_false, forall_eq_or_imp, forall_eq, false_implies, implies_true]; repeat' (first | exact cI _ | exact cS _ | exact cB _ | exact closed_fn0 _ | exact closed_nilsl | exact closed_agg (Un.closed _) | exact closed_agg (It.closed _) | exact closed_agg (EI.closed _) | exact closed_agg (Ac.closed _) | exact closed_agg (Wd.closed _) | exact closed_agg (St.closed _) | exact closed_agg (Sta.closed _) | exact closed_eis _ | exact closed_acs _ | exact closed_strs _ | exact closed_map (fun w _ => Wd.closed w) | exact closed_map (fun w _ => St.closed w) | exact closed_map (fun w _ => Un.closed w) | exact closed_map (fun w _ => It.closed w) | exact closed_sc _ | exact closed_sps _ | exact closed_agg (Sp.closed _) | exact closed_ro (EI.closed _) | exact closed_ro (Sta.closed _) | exact closed_ro (It.closed _) | exact closed_ro (by simp only [List.mem_cons, List.not_mem_nil, or_false, forall_eq]; first | exact cI _ | exact cS _ | exact closed_eis _) | refine And.intro ?_ ?_))
  refine ACall_fn (vc := c_dateset_Valid) (ts := [.t 2]) Go.Proofs.Try.func25 (by kernel_rfl) rfl rfl (Nat.le_of_ble_eq_true rfl) (by kernel_rfl) ?_
  unfold c_dateset_Valid
  refine VW_seq (VW_region [0] ?_)
  simp only [OpsW_nil, OpsW_n, StepW, pok, pval, VA.ev, Env.get, Env.put, Env.keep, argEnv, thenQ, Heap.nil, ite_true, ite_false, true_and, reduceCtorEq]
  refine VW_seq ?_
  refine VW_seq (VW_region [0, 5, 6, 7] ?_)
  simp only [OpsW_nil, OpsW_n, StepW, pok, pval, VA.ev, Env.get, Env.put, Env.keep, thenQ, lenV, lenOk, Nat.succ_ne_self, Nat.reduceEqDiff, ite_true, ite_false, true_and, reduceCtorEq, List.length_map]
  refine VW_block ?_
  refine VW_loop (σ := { s : Nat × Nat // s.1 ≤ l.length ∧ canonB (-1) l = canonB (lastTo l s.1) (l.drop s.1) }) (fun s => ([(0, .sl 2 (l.map Sp.enc)), (5, .sl 2 (l.map Sp.enc)), (6, pI l.length), (7, pI s.1.1)], ⟨[], s.1.2⟩)) (fun s => l.length - s.1.1) ⟨(0, 0), by simp [lastTo]⟩ ?_ ?_ ?_
  · simp only [Env.get, Nat.succ_ne_self, Env.le, Nat.reduceEqDiff, ite_true, ite_false, true_and, and_true, reduceCtorEq]
    rfl
  · simp only [Heap.le, HL.le, Nat.le_refl, and_true]
  rintro ⟨⟨i, n⟩, hi, hpre⟩
  simp only [] at hi hpre ⊢
  refine VW_seq (VW_region [0, 5, 6, 7, 8] ?_)
  simp only [OpsW_nil, OpsW_n, StepW, pok, pval, VA.ev, Env.get, Env.put, Env.keep, thenQ, intV, binV, binOk, Heap.le, HL.le, Nat.succ_ne_self, Env.le, Nat.reduceEqDiff, ite_true, ite_false, true_and, and_true, reduceCtorEq]
  refine VW_seq ?_
  refine VW_cond rfl (fun h1 => ?_) (fun h1 => ?_)
  · refine VW_skip ?_
    try simp only [thenQ]
    simp only [decide_eq_true_eq] at h1
    have ia : i < l.length := by omega
    have hb := bad_step l i ia
    refine VW_seq ?_
    refine VW_block ?_
    refine VW_seq (VW_region [0, 3, 4, 5, 6, 7] ?_)
    simp only [OpsW_nil, OpsW_n, StepW, pok, pval, VA.ev, Env.get, Env.put, Env.keep, thenQ, aggV, isInt, numOf, lenV, locCells, locOk, iaddrV, iaddrOk, PV.cells, PV.fits, overlay, PV.nth, PV.row, Heap.get, Heap.set, HL.get, HL.set, HL.del, Heap.push, Nat.le_refl, Nat.succ_ne_self, storeV, storeOk, List.set, List.length, List.getD_cons_zero, List.take, List.drop, List.take_succ_cons, List.drop_succ_cons, List.cons_append, List.nil_append, Nat.reduceEqDiff, Nat.reduceAdd, Nat.reduceLT, Bool.true_eq_false, ite_true, ite_false, true_and, and_true, reduceCtorEq, BEq.rfl, Nat.zero_add, List.length_cons, imp_self, Int.toNat_natCast, List.length_map, rowm ia, Sp.enc]
    repeat (with_reducible refine And.intro ?_ ?_; first | omega | (with_reducible constructor <;> omega) | exact False.elim | exact True.intro)
    refine VW_seq (VW_mid (σ := Unit) (fun _ => ([(0, .sl 2 (l.map Sp.enc)), (5, .sl 2 (l.map Sp.enc)), (6, pI l.length), (7, pI i), (41, .bool (badB l i l[i]))], ⟨[], n + 1⟩)) (VW_drawS [0, 5, 6, 7, 41] (by simp [Heap.le, Heap.get, HL.le, HL.get]) ?_) (fun _ => ?_))
    · unfold badB
      cases e1 : decide (l[i].frm < 0) with
      | true =>
        simp only [midQ, DrawW_nil, DrawW_n, DrawW_xf, DrawW_u, QW, dok, dval, VOp.pure, VOp.simple, VOp.det, pok, pval, VA.ev, Env.get, Env.put, Env.keep, gd, pickV, isBool, aggV, intV, binV, binOk, faddrV, isAddr, locCells, locOk, PV.nth, PV.row, Heap.get, Heap.le, HL.get, HL.le, Nat.le_refl, Nat.succ_ne_self, Env.le, List.length, List.getD_cons_zero, List.take, List.drop, List.take_succ_cons, Nat.reduceEqDiff, Nat.reduceAdd, Nat.reduceLT, Nat.reduceLeDiff, Bool.false_eq_true, ite_true, ite_false, true_and, and_true, implies_true, reduceCtorEq, Nat.zero_add, Nat.add_zero, List.length_cons, e1]
        exact ⟨(), by first | trivial | rfl⟩
      | false =>
        cases e2 : decide (l[i].to ≤ l[i].frm) with
        | true =>
          simp only [midQ, DrawW_nil, DrawW_n, DrawW_y, DrawW_xf, DrawW_u, QW, dok, dval, VOp.pure, VOp.simple, VOp.det, pok, pval, VA.ev, Env.get, Env.put, Env.keep, gd, pickV, isBool, aggV, intV, binV, binOk, faddrV, isAddr, locCells, locOk, PV.nth, PV.row, Heap.get, Heap.le, HL.get, HL.le, Nat.le_refl, Nat.succ_ne_self, Env.le, List.length, List.getD_cons_zero, List.take, List.drop, List.take_succ_cons, List.drop_succ_cons, Nat.reduceEqDiff, Nat.reduceAdd, Nat.reduceLT, Nat.reduceLeDiff, Bool.false_eq_true, ite_true, ite_false, true_and, and_true, implies_true, reduceCtorEq, Nat.zero_add, Nat.add_zero, List.length_cons, e1, e2]
          exact ⟨(), by first | trivial | rfl⟩
        | false =>
          cases e3 : decide (1048577 < l[i].to) with
          | true =>
            simp only [midQ, DrawW_nil, DrawW_n, DrawW_y, DrawW_xf, DrawW_u, QW, dok, dval, VOp.pure, VOp.simple, VOp.det, pok, pval, VA.ev, Env.get, Env.put, Env.keep, gd, pickV, isBool, aggV, intV, binV, binOk, faddrV, isAddr, locCells, locOk, PV.nth, PV.row, Heap.get, Heap.le, HL.get, HL.le, Nat.le_refl, Nat.succ_ne_self, Env.le, List.length, List.getD_cons_zero, List.take, List.drop, List.take_succ_cons, List.drop_succ_cons, Nat.reduceEqDiff, Nat.reduceAdd, Nat.reduceLT, Nat.reduceLeDiff, Bool.false_eq_true, ite_true, ite_false, true_and, and_true, implies_true, reduceCtorEq, Nat.zero_add, Nat.add_zero, List.length_cons, e1, e2, e3]
            exact ⟨(), by first | trivial | rfl⟩
          | false =>
            cases i with
            | zero =>
              have e0 : decide ((0 : Int) < ((0 : Nat) : Int)) = false := rfl
              simp only [midQ, DrawW_nil, DrawW_n, DrawW_y, DrawW_xt, QW, dok, dval, VOp.pure, VOp.simple, VOp.det, pok, pval, VA.ev, Env.get, Env.put, Env.keep, gd, pickV, isBool, aggV, intV, binV, binOk, faddrV, isAddr, locCells, locOk, PV.nth, PV.row, Heap.get, Heap.le, HL.get, HL.le, Nat.le_refl, Nat.succ_ne_self, Env.le, List.length, List.getD_cons_zero, List.take, List.drop, List.take_succ_cons, List.drop_succ_cons, Nat.reduceEqDiff, Nat.reduceAdd, Nat.reduceLT, Nat.reduceLeDiff, Bool.false_eq_true, ite_true, ite_false, true_and, and_true, implies_true, reduceCtorEq, Nat.zero_add, Nat.add_zero, List.length_cons, e1, e2, e3, e0]
              exact ⟨(), by first | trivial | rfl⟩
            | succ j =>
              have ja : j < l.length := by omega
              have e0 : decide ((0 : Int) < ((j + 1 : Nat) : Int)) = true := by simp
              have e4 : IntKind.i64.wrap (((j + 1 : Nat) : Int) - 1) = (j : Int) := by rw [w64 (by omega) (by omega)]; omega
              have e5 : lastTo l (j + 1) = l[j].to := by simp [lastTo, List.getD_eq_getElem?_getD, ja]
              simp only [midQ, DrawW_nil, DrawW_n, DrawW_y, QW, dok, dval, VOp.pure, VOp.simple, VOp.det, pok, pval, VA.ev, Env.get, Env.put, Env.keep, gd, pickV, isBool, aggV, intV, binV, binOk, isInt, numOf, lenV, faddrV, isAddr, locCells, locOk, iaddrV, iaddrOk, PV.nth, PV.row, Heap.get, Heap.le, HL.get, HL.le, Nat.le_refl, Nat.succ_ne_self, Env.le, List.length, List.getD_cons_zero, List.take, List.drop, List.take_succ_cons, List.drop_succ_cons, Nat.reduceEqDiff, Nat.reduceAdd, Nat.reduceLT, Nat.reduceLeDiff, Bool.false_eq_true, ite_true, ite_false, true_and, and_true, implies_true, forall_const, reduceCtorEq, Nat.zero_add, Nat.add_zero, List.length_cons, Int.toNat_natCast, e1, e2, e3, e0, e4, e5, List.length_map, rowm ja, Sp.enc]
              repeat (with_reducible refine And.intro ?_ ?_; first | omega | (with_reducible constructor <;> omega) | exact False.elim | exact True.intro)
              exact ⟨(), by first | trivial | rfl⟩
    refine VW_cond rfl (fun h2 => ?_) (fun h2 => ?_)
    · refine VW_seq (VW_region [2] ?_)
      simp only [OpsW_nil, OpsW_n, StepW, pok, pval, VA.ev, Env.get, Env.put, Env.keep, thenQ, Nat.reduceEqDiff, ite_true, ite_false, true_and, reduceCtorEq]
      refine VW_ret ?_
      try simp only [Env.get, thenQ, blockQ, retQ, resV, resOk, RS.ev, RS.ok, ite_true, true_and, and_true]
      have e : validB l = false := by unfold validB; rw [hpre, hb, h2]; rfl
      rw [e]
      exact View.refl _ _
    refine VW_skip ?_
    try simp only [thenQ, blockQ]
    refine VW_region [0, 5, 6, 7] ?_
    simp only [OpsW_nil, OpsW_n, StepW, pok, pval, VA.ev, Env.get, Env.put, Env.keep, thenQ, intV, binV, binOk, Nat.succ_ne_self, Nat.reduceEqDiff, ite_true, ite_false, true_and, reduceCtorEq, w64 (n := (i : Int) + 1) (by omega) (by omega)]
    refine ⟨⟨(i + 1, n + 1), by simp only []; omega, by simp only []; rw [hpre, hb, h2]; rfl⟩, ?_, ?_, ?_⟩
    · rfl
    · exact Nat.le_refl _
    · simp only []; omega
  · simp only [decide_eq_false_iff_not] at h1
    refine VW_exit ?_
    try simp only [thenQ, blockQ, retQ, ite_true]
    refine VW_seq (VW_region [2] ?_)
    simp only [OpsW_nil, OpsW_n, StepW, pok, pval, VA.ev, Env.get, Env.put, Env.keep, thenQ, intV, binV, binOk, lenV, lenOk, Nat.reduceEqDiff, ite_true, ite_false, true_and, reduceCtorEq, List.length_map]
    refine VW_ret ?_
    try simp only [Env.get, retQ, resV, resOk, RS.ev, RS.ok, ite_true, true_and, and_true]
    have e : validB l = decide ((l.length : Int) ≤ 4096) := by
      unfold validB
      rw [hpre, List.drop_eq_nil_of_le (by omega), Bool.eq_iff_iff]
      simp [canonB]; omega
    rw [e]
    exact View.refl _ _
end Go.Proofs.Ytepmaobfbfbecaa.w

