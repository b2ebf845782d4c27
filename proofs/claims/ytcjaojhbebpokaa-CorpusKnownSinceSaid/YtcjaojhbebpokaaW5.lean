/-
  Walks: slices.EqualFunc, unit.Equal.
-/
import Derived.Test.YtcjaojhbebpokaaRd
import Derived.Test.YtcjaojhbebpokaaW2b
set_option linter.all false
namespace Go.Proofs.Ytcjaojhbebpokaa.w
open Go Go.VM
set_option maxRecDepth 20000
set_option maxHeartbeats 0
def c78 : VC := (.seq (.region [⟨(some 6), (.mv (.c (.bool false))), none⟩] false) (.seq (.seq (.region [⟨(some 10), (.mv (.t 0)), none⟩, ⟨(some 11), (.len false (.t 10)), none⟩, ⟨(some 12), (.mv (.t 1)), none⟩, ⟨(some 13), (.len false (.t 12)), none⟩, ⟨(some 14), (.bin .neq (.t 11) (.t 13)), none⟩] false) (.cond (.t 14) (.seq (.region [⟨(some 6), (.mv (.c (.bool false))), none⟩] false) .ret) .skip)) (.seq (.seq (.region [⟨(some 15), (.mv (.t 0)), none⟩, ⟨(some 16), (.len false (.t 15)), none⟩, ⟨(some 17), (.mv (.c (.int .i64 0))), none⟩] false) (.block 0 (.loop (.seq (.region [⟨(some 18), (.bin .lss (.t 17) (.t 16)), none⟩] false) (.seq (.cond (.t 18) .skip (.exit 0)) (.seq (.block 1 (.seq (.region [⟨(some 19), (.mv (.t 17)), none⟩, ⟨(some 20), (.iaddr 8 (.t 15) (.t 17)), none⟩, ⟨(some 21), (.load true 8 (.t 20)), none⟩, ⟨(some 8), (.alloc [(.int .i64 0), (.int .i64 0), (.int .i64 0), (.int .i64 0), (.str []), .nilsl, .nilsl, .nilsl]), none⟩, ⟨(some 7), (.mv (.t 19)), none⟩, ⟨none, (.store 8 (.t 8) (.t 21)), none⟩] false) (.seq (.region [⟨(some 22), (.mv (.t 1)), none⟩, ⟨(some 23), (.mv (.t 7)), none⟩, ⟨(some 24), (.iaddr 8 (.t 22) (.t 23)), none⟩, ⟨(some 25), (.load true 8 (.t 24)), none⟩, ⟨(some 9), (.alloc [(.int .i64 0), (.int .i64 0), (.int .i64 0), (.int .i64 0), (.str []), .nilsl, .nilsl, .nilsl]), none⟩, ⟨none, (.store 8 (.t 9) (.t 25)), none⟩] false) (.seq (.region [⟨(some 26), (.mv (.t 2)), none⟩, ⟨(some 27), (.load true 8 (.t 8)), none⟩, ⟨(some 28), (.load true 8 (.t 9)), none⟩, ⟨(some 29), (.callv (.t 26) [(.t 27), (.t 28)]), none⟩, ⟨(some 30), (.un .not (.t 29)), none⟩] false) (.cond (.t 30) (.seq (.region [⟨(some 6), (.mv (.c (.bool false))), none⟩] false) .ret) .skip))))) (.region [⟨(some 31), (.bin .add (.t 17) (.c (.int .i64 1))), none⟩, ⟨(some 17), (.mv (.t 31)), none⟩] false))))))) (.seq (.region [⟨(some 6), (.mv (.c (.bool true))), none⟩] false) .ret))))
def c70 : VC := (.seq (.region [⟨(some 6), (.mv (.c (.bool false))), none⟩] false) (.seq (.seq (.region [⟨(some 10), (.mv (.t 0)), none⟩, ⟨(some 11), (.len false (.t 10)), none⟩, ⟨(some 12), (.mv (.t 1)), none⟩, ⟨(some 13), (.len false (.t 12)), none⟩, ⟨(some 14), (.bin .neq (.t 11) (.t 13)), none⟩] false) (.cond (.t 14) (.seq (.region [⟨(some 6), (.mv (.c (.bool false))), none⟩] false) .ret) .skip)) (.seq (.seq (.region [⟨(some 15), (.mv (.t 0)), none⟩, ⟨(some 16), (.len false (.t 15)), none⟩, ⟨(some 17), (.mv (.c (.int .i64 0))), none⟩] false) (.block 0 (.loop (.seq (.region [⟨(some 18), (.bin .lss (.t 17) (.t 16)), none⟩] false) (.seq (.cond (.t 18) .skip (.exit 0)) (.seq (.block 1 (.seq (.region [⟨(some 19), (.mv (.t 17)), none⟩, ⟨(some 20), (.iaddr 25 (.t 15) (.t 17)), none⟩, ⟨(some 21), (.load true 25 (.t 20)), none⟩, ⟨(some 8), (.alloc [(.int .i64 0), .nilsl, .nilsl, (.int .i64 0), (.int .i64 0), (.int .i64 0), (.int .i64 0), (.int .i64 0), (.int .i64 0), (.str []), .nilsl, .nilsl, .nilsl, .nilsl, .nilsl, (.str []), (.str []), (.int .i64 0), (.int .i64 0), (.str []), (.int .i64 0), (.int .i64 0), (.int .i64 0), (.str []), .nilsl]), none⟩, ⟨(some 7), (.mv (.t 19)), none⟩, ⟨none, (.store 25 (.t 8) (.t 21)), none⟩] false) (.seq (.region [⟨(some 22), (.mv (.t 1)), none⟩, ⟨(some 23), (.mv (.t 7)), none⟩, ⟨(some 24), (.iaddr 25 (.t 22) (.t 23)), none⟩, ⟨(some 25), (.load true 25 (.t 24)), none⟩, ⟨(some 9), (.alloc [(.int .i64 0), .nilsl, .nilsl, (.int .i64 0), (.int .i64 0), (.int .i64 0), (.int .i64 0), (.int .i64 0), (.int .i64 0), (.str []), .nilsl, .nilsl, .nilsl, .nilsl, .nilsl, (.str []), (.str []), (.int .i64 0), (.int .i64 0), (.str []), (.int .i64 0), (.int .i64 0), (.int .i64 0), (.str []), .nilsl]), none⟩, ⟨none, (.store 25 (.t 9) (.t 25)), none⟩] false) (.seq (.region [⟨(some 26), (.mv (.t 2)), none⟩, ⟨(some 27), (.load true 25 (.t 8)), none⟩, ⟨(some 28), (.load true 25 (.t 9)), none⟩, ⟨(some 29), (.callv (.t 26) [(.t 27), (.t 28)]), none⟩, ⟨(some 30), (.un .not (.t 29)), none⟩] false) (.cond (.t 30) (.seq (.region [⟨(some 6), (.mv (.c (.bool false))), none⟩] false) .ret) .skip))))) (.region [⟨(some 31), (.bin .add (.t 17) (.c (.int .i64 1))), none⟩, ⟨(some 17), (.mv (.t 31)), none⟩] false))))))) (.seq (.region [⟨(some 6), (.mv (.c (.bool true))), none⟩] false) .ret))))
theorem sp78 (l m : List Un) (hl0 : l.length ≤ maxLen) (hf : ∀ k (ka : k < l.length) (kb : k < m.length), PCall Try.prog 69 [.agg l[k].enc, .agg m[k].enc] (.bool (eqB l[k] m[k]))) :
    PCall Try.prog 78 [.sl 8 (l.map Un.enc), .sl 8 (m.map Un.enc), .fn (.func 69) [] []] (.bool (eqB l m)) := by
  have hl : l.length ≤ 9223372036854775807 := hl0
  refine PCall_intro ?_ (Closed.of_scalar (scalar_bool _)) (by simp only [ClosedL, List.mem_cons, List.not_mem_nil, or_false, forall_eq_or_imp, forall_eq, false_implies, implies_true]; repeat' (first | exact cI _ | exact cS _ | exact cB _ | exact closed_fn0 _ | exact closed_nilsl | exact closed_agg (Un.closed _) | exact closed_agg (It.closed _) | exact closed_agg (EI.closed _) | exact closed_agg (Ac.closed _) | exact closed_agg (Wd.closed _) | exact closed_agg (St.closed _) | exact closed_agg (Sta.closed _) | exact closed_eis _ | exact closed_acs _ | exact closed_gzs _ | exact Closed.of_scalar (scalar_int _ _) | exact closed_ro (Ac.closed _) | exact closed_ro (Gz.closed _) | exact closed_agg (Gz.closed _) | exact closed_strs _ | exact closed_map (fun w _ => Wd.closed w) | exact closed_map (fun w _ => St.closed w) | exact closed_map (fun w _ => Un.closed w) | exact closed_map (fun w _ => It.closed w) | exact closed_sc _ | exact closed_sps _ | exact closed_agg (Sp.closed _) | exact closed_ro (EI.closed _) | exact closed_ro (Sta.closed _) | exact closed_ro (It.closed _) | exact closed_ro (by simp only [List.mem_cons, List.not_mem_nil, or_false, forall_eq]; first | exact cI _ | exact cS _ | exact closed_eis _) | refine And.intro ?_ ?_))
  refine ACall_fn (vc := c78) (ts := [.t 6]) Go.Proofs.Try.func78 (by kernel_rfl) rfl rfl (Nat.le_of_ble_eq_true rfl) (by kernel_rfl) ?_
  unfold c78
  refine VW_seq (VW_region [0, 1, 2] ?_)
  simp only [OpsW_nil, OpsW_n, StepW, pok, pval, VA.ev, Env.get, Env.put, Env.keep, argEnv, thenQ, Heap.nil, Nat.succ_ne_self, Nat.reduceEqDiff, Nat.reduceAdd, ite_true, ite_false, true_and, reduceCtorEq, Nat.zero_add]
  refine VW_seq ?_
  refine VW_seq (VW_region [0, 1, 2, 14] ?_)
  simp only [OpsW_nil, OpsW_n, StepW, pok, pval, VA.ev, Env.get, Env.put, Env.keep, thenQ, intV, binV, binOk, lenV, lenOk, Nat.succ_ne_self, Nat.reduceEqDiff, ite_true, ite_false, true_and, reduceCtorEq, List.length_map]
  refine VW_cond rfl (fun h1 => ?_) (fun h1 => ?_)
  · refine VW_seq (VW_region [6] ?_)
    simp only [OpsW_nil, OpsW_n, StepW, pok, pval, VA.ev, Env.get, Env.put, Env.keep, thenQ, Nat.reduceEqDiff, ite_true, ite_false, true_and, reduceCtorEq]
    refine VW_ret ?_
    try simp only [Env.get, thenQ, retQ, resV, resOk, RS.ev, RS.ok, ite_true, true_and, and_true]
    simp only [bne_iff_ne, ne_eq, Int.natCast_inj] at h1
    rw [eqB_f (len_ne h1)]
    exact View.refl _ _
  simp only [bne_eq_false_iff_eq, Int.natCast_inj] at h1
  refine VW_skip ?_
  try simp only [thenQ]
  refine VW_seq ?_
  refine VW_seq (VW_region [1, 2, 15, 16, 17] ?_)
  simp only [OpsW_nil, OpsW_n, StepW, pok, pval, VA.ev, Env.get, Env.put, Env.keep, thenQ, lenV, lenOk, Nat.succ_ne_self, Nat.reduceEqDiff, ite_true, ite_false, true_and, reduceCtorEq, List.length_map]
  refine VW_block ?_
  refine VW_loop (σ := { s : Nat × Nat // s.1 ≤ l.length ∧ l.take s.1 = m.take s.1 }) (fun s => ([(1, .sl 8 (m.map Un.enc)), (2, .fn (.func 69) [] []), (15, .sl 8 (l.map Un.enc)), (16, pI l.length), (17, pI s.1.1)], ⟨[], s.1.2⟩)) (fun s => l.length - s.1.1) ⟨(0, 0), by simp⟩ ?_ ?_ ?_
  · simp only [Env.get, Nat.succ_ne_self, Env.le, Nat.reduceEqDiff, ite_true, ite_false, true_and, and_true]
    first | rfl | exact ⟨rfl, rfl⟩
  · exact ⟨Nat.le_refl _, trivial⟩
  rintro ⟨⟨k, n⟩, hk, he⟩
  simp only [] at hk he ⊢
  refine VW_seq (VW_region [1, 2, 15, 16, 17, 18] ?_)
  simp only [OpsW_nil, OpsW_n, StepW, pok, pval, VA.ev, Env.get, Env.put, Env.keep, thenQ, intV, binV, binOk, Heap.le, HL.le, Nat.succ_ne_self, Env.le, Nat.reduceEqDiff, ite_true, ite_false, true_and, and_true, List.length_map]
  refine VW_seq ?_
  refine VW_cond rfl (fun h2 => ?_) (fun h2 => ?_)
  · refine VW_skip ?_
    try simp only [thenQ]
    simp only [decide_eq_true_eq] at h2
    have ka : k < l.length := by omega
    have kb : k < m.length := by omega
    refine VW_seq ?_
    refine VW_block ?_
    refine VW_seq (VW_region [1, 2, 7, 8, 15, 16, 17] ?_)
    simp only [OpsW_nil, OpsW_n, StepW, pok, pval, VA.ev, Env.get, Env.put, Env.keep, thenQ, aggV, isInt, numOf, lenV, locCells, locOk, iaddrV, iaddrOk, PV.cells, PV.fits, overlay, PV.nth, PV.row, Heap.get, Heap.set, HL.get, HL.set, HL.del, Heap.push, Nat.le_refl, Nat.succ_ne_self, storeV, storeOk, List.set, List.length, List.getD_cons_zero, List.take, List.drop, List.drop_succ_cons, List.nil_append, Nat.reduceEqDiff, Nat.reduceAdd, Nat.reduceLT, Bool.true_eq_false, ite_true, ite_false, true_and, and_true, BEq.rfl, Nat.zero_add, imp_self, Int.toNat_natCast, List.length_map, rowm ka, un_take, rd.un_len]
    repeat (with_reducible refine And.intro ?_ ?_; first | omega | (with_reducible constructor <;> omega) | exact False.elim | exact True.intro)
    try simp only [rd.un_len, List.append_nil]
    refine VW_seq (VW_region [1, 2, 8, 9, 15, 16, 17] ?_)
    simp only [OpsW_nil, OpsW_n, StepW, pok, pval, VA.ev, Env.get, Env.put, Env.keep, thenQ, aggV, isInt, numOf, lenV, locCells, locOk, iaddrV, iaddrOk, PV.cells, PV.fits, overlay, PV.nth, PV.row, Heap.get, Heap.set, HL.get, HL.set, HL.del, Heap.push, Nat.le_refl, Nat.left_eq_add, Nat.succ_ne_self, storeV, storeOk, List.set, List.length, List.getD_cons_zero, List.take, List.drop, List.drop_succ_cons, List.nil_append, Nat.reduceEqDiff, Nat.reduceAdd, Nat.reduceLT, Bool.true_eq_false, ite_true, ite_false, true_and, and_true, BEq.rfl, Nat.zero_add, imp_self, Int.toNat_natCast, List.length_map, rowm kb, un_take, rd.un_len]
    repeat (with_reducible refine And.intro ?_ ?_; first | omega | (with_reducible constructor <;> omega) | exact False.elim | exact True.intro)
    try simp only [rd.un_len, List.append_nil]
    refine VW_seq (VW_region [1, 2, 15, 16, 17, 30] ?_)
    simp only [OpsW_nil, OpsW_n, StepW, pok, pval, VA.ev, Env.get, Env.put, Env.keep, thenQ, aggV, unV, unOk, locCells, locOk, PV.nth, PV.row, Heap.get, HL.get, Nat.le_refl, Nat.left_eq_add, Nat.succ_ne_self, List.map, List.length, List.getD_cons_zero, List.drop, List.cons_append, List.nil_append, Nat.reduceEqDiff, Nat.reduceLT, Bool.true_eq_false, ite_true, ite_false, true_and, and_true, Nat.zero_add, imp_self, un_take, rd.un_len]
    repeat (with_reducible refine And.intro ?_ ?_; first | omega | (with_reducible constructor <;> omega) | exact False.elim | exact True.intro)
    refine ACall_p (hf k ka kb) ?_
    try simp only [true_and]
    refine VW_cond rfl (fun h3 => ?_) (fun h3 => ?_)
    · refine VW_seq (VW_region [6] ?_)
      simp only [OpsW_nil, OpsW_n, StepW, pok, pval, VA.ev, Env.get, Env.put, Env.keep, thenQ, Nat.reduceEqDiff, ite_true, ite_false, true_and]
      refine VW_ret ?_
      try simp only [Env.get, thenQ, blockQ, retQ, resV, resOk, RS.ev, RS.ok, ite_true, true_and, and_true]
      have h4 : l[k] ≠ m[k] := fun e => by rw [e] at h3; simp [eqB] at h3
      rw [eqB_f (get_ne ka kb h4)]
      exact View.refl _ _
    have h4 : l[k] = m[k] := by simpa [eqB] using h3
    refine VW_skip ?_
    try simp only [thenQ, blockQ]
    refine VW_region [1, 2, 15, 16, 17] ?_
    simp only [OpsW_nil, OpsW_n, StepW, pok, pval, VA.ev, Env.get, Env.put, Env.keep, thenQ, intV, binV, binOk, Nat.succ_ne_self, Nat.reduceEqDiff, ite_true, ite_false, true_and, w64 (n := (k : Int) + 1) (by omega) (by omega)]
    refine ⟨⟨(k + 1, n + 2), by simp only []; omega, take_step he ka kb h4⟩, ?_, ?_, ?_⟩
    · simp
    · simp only [Nat.le_refl]
    · dsimp only; omega
  · simp only [decide_eq_false_iff_not] at h2
    obtain rfl : k = l.length := by omega
    refine VW_exit ?_
    try simp only [thenQ, blockQ, retQ, ite_true]
    refine VW_seq (VW_region [6] ?_)
    simp only [OpsW_nil, OpsW_n, StepW, pok, pval, VA.ev, Env.get, Env.put, Env.keep, thenQ, Nat.reduceEqDiff, ite_true, ite_false, true_and]
    refine VW_ret ?_
    try simp only [Env.get, retQ, resV, resOk, RS.ev, RS.ok, ite_true, true_and, and_true]
    rw [eqB_t (take_all h1 he)]
    exact View.refl _ _

theorem sp70 (l m : List It) (hl0 : l.length ≤ maxLen) (hf : ∀ k (ka : k < l.length) (kb : k < m.length), PCall Try.prog 58 [.agg l[k].enc, .agg m[k].enc] (.bool (eqB l[k] m[k]))) :
    PCall Try.prog 70 [.sl 25 (l.map It.enc), .sl 25 (m.map It.enc), .fn (.func 58) [] []] (.bool (eqB l m)) := by
  have hl : l.length ≤ 9223372036854775807 := hl0
  refine PCall_intro ?_ (Closed.of_scalar (scalar_bool _)) (by simp only [ClosedL, List.mem_cons, List.not_mem_nil, or_false, forall_eq_or_imp, forall_eq, false_implies, implies_true]; repeat' (first | exact cI _ | exact cS _ | exact cB _ | exact closed_fn0 _ | exact closed_nilsl | exact closed_agg (Un.closed _) | exact closed_agg (It.closed _) | exact closed_agg (EI.closed _) | exact closed_agg (Ac.closed _) | exact closed_agg (Wd.closed _) | exact closed_agg (St.closed _) | exact closed_agg (Sta.closed _) | exact closed_eis _ | exact closed_acs _ | exact closed_gzs _ | exact Closed.of_scalar (scalar_int _ _) | exact closed_ro (Ac.closed _) | exact closed_ro (Gz.closed _) | exact closed_agg (Gz.closed _) | exact closed_strs _ | exact closed_map (fun w _ => Wd.closed w) | exact closed_map (fun w _ => St.closed w) | exact closed_map (fun w _ => Un.closed w) | exact closed_map (fun w _ => It.closed w) | exact closed_sc _ | exact closed_sps _ | exact closed_agg (Sp.closed _) | exact closed_ro (EI.closed _) | exact closed_ro (Sta.closed _) | exact closed_ro (It.closed _) | exact closed_ro (by simp only [List.mem_cons, List.not_mem_nil, or_false, forall_eq]; first | exact cI _ | exact cS _ | exact closed_eis _) | refine And.intro ?_ ?_))
  refine ACall_fn (vc := c70) (ts := [.t 6]) Go.Proofs.Try.func70 (by kernel_rfl) rfl rfl (Nat.le_of_ble_eq_true rfl) (by kernel_rfl) ?_
  unfold c70
  refine VW_seq (VW_region [0, 1, 2] ?_)
  simp only [OpsW_nil, OpsW_n, StepW, pok, pval, VA.ev, Env.get, Env.put, Env.keep, argEnv, thenQ, Heap.nil, Nat.succ_ne_self, Nat.reduceEqDiff, Nat.reduceAdd, ite_true, ite_false, true_and, reduceCtorEq, Nat.zero_add]
  refine VW_seq ?_
  refine VW_seq (VW_region [0, 1, 2, 14] ?_)
  simp only [OpsW_nil, OpsW_n, StepW, pok, pval, VA.ev, Env.get, Env.put, Env.keep, thenQ, intV, binV, binOk, lenV, lenOk, Nat.succ_ne_self, Nat.reduceEqDiff, ite_true, ite_false, true_and, reduceCtorEq, List.length_map]
  refine VW_cond rfl (fun h1 => ?_) (fun h1 => ?_)
  · refine VW_seq (VW_region [6] ?_)
    simp only [OpsW_nil, OpsW_n, StepW, pok, pval, VA.ev, Env.get, Env.put, Env.keep, thenQ, Nat.reduceEqDiff, ite_true, ite_false, true_and, reduceCtorEq]
    refine VW_ret ?_
    try simp only [Env.get, thenQ, retQ, resV, resOk, RS.ev, RS.ok, ite_true, true_and, and_true]
    simp only [bne_iff_ne, ne_eq, Int.natCast_inj] at h1
    rw [eqB_f (len_ne h1)]
    exact View.refl _ _
  simp only [bne_eq_false_iff_eq, Int.natCast_inj] at h1
  refine VW_skip ?_
  try simp only [thenQ]
  refine VW_seq ?_
  refine VW_seq (VW_region [1, 2, 15, 16, 17] ?_)
  simp only [OpsW_nil, OpsW_n, StepW, pok, pval, VA.ev, Env.get, Env.put, Env.keep, thenQ, lenV, lenOk, Nat.succ_ne_self, Nat.reduceEqDiff, ite_true, ite_false, true_and, reduceCtorEq, List.length_map]
  refine VW_block ?_
  refine VW_loop (σ := { s : Nat × Nat // s.1 ≤ l.length ∧ l.take s.1 = m.take s.1 }) (fun s => ([(1, .sl 25 (m.map It.enc)), (2, .fn (.func 58) [] []), (15, .sl 25 (l.map It.enc)), (16, pI l.length), (17, pI s.1.1)], ⟨[], s.1.2⟩)) (fun s => l.length - s.1.1) ⟨(0, 0), by simp⟩ ?_ ?_ ?_
  · simp only [Env.get, Nat.succ_ne_self, Env.le, Nat.reduceEqDiff, ite_true, ite_false, true_and, and_true]
    first | rfl | exact ⟨rfl, rfl⟩
  · exact ⟨Nat.le_refl _, trivial⟩
  rintro ⟨⟨k, n⟩, hk, he⟩
  simp only [] at hk he ⊢
  refine VW_seq (VW_region [1, 2, 15, 16, 17, 18] ?_)
  simp only [OpsW_nil, OpsW_n, StepW, pok, pval, VA.ev, Env.get, Env.put, Env.keep, thenQ, intV, binV, binOk, Heap.le, HL.le, Nat.succ_ne_self, Env.le, Nat.reduceEqDiff, ite_true, ite_false, true_and, and_true, List.length_map]
  refine VW_seq ?_
  refine VW_cond rfl (fun h2 => ?_) (fun h2 => ?_)
  · refine VW_skip ?_
    try simp only [thenQ]
    simp only [decide_eq_true_eq] at h2
    have ka : k < l.length := by omega
    have kb : k < m.length := by omega
    refine VW_seq ?_
    refine VW_block ?_
    refine VW_seq (VW_region [1, 2, 7, 8, 15, 16, 17] ?_)
    simp only [OpsW_nil, OpsW_n, StepW, pok, pval, VA.ev, Env.get, Env.put, Env.keep, thenQ, aggV, isInt, numOf, lenV, locCells, locOk, iaddrV, iaddrOk, PV.cells, PV.fits, overlay, PV.nth, PV.row, Heap.get, Heap.set, HL.get, HL.set, HL.del, Heap.push, Nat.le_refl, Nat.succ_ne_self, storeV, storeOk, List.set, List.length, List.getD_cons_zero, List.take, List.drop, List.drop_succ_cons, List.nil_append, Nat.reduceEqDiff, Nat.reduceAdd, Nat.reduceLT, Bool.true_eq_false, ite_true, ite_false, true_and, and_true, BEq.rfl, Nat.zero_add, imp_self, Int.toNat_natCast, List.length_map, rowm ka, it_take, It.enc_len]
    repeat (with_reducible refine And.intro ?_ ?_; first | omega | (with_reducible constructor <;> omega) | exact False.elim | exact True.intro)
    try simp only [It.enc_len, List.append_nil]
    refine VW_seq (VW_region [1, 2, 8, 9, 15, 16, 17] ?_)
    simp only [OpsW_nil, OpsW_n, StepW, pok, pval, VA.ev, Env.get, Env.put, Env.keep, thenQ, aggV, isInt, numOf, lenV, locCells, locOk, iaddrV, iaddrOk, PV.cells, PV.fits, overlay, PV.nth, PV.row, Heap.get, Heap.set, HL.get, HL.set, HL.del, Heap.push, Nat.le_refl, Nat.left_eq_add, Nat.succ_ne_self, storeV, storeOk, List.set, List.length, List.getD_cons_zero, List.take, List.drop, List.drop_succ_cons, List.nil_append, Nat.reduceEqDiff, Nat.reduceAdd, Nat.reduceLT, Bool.true_eq_false, ite_true, ite_false, true_and, and_true, BEq.rfl, Nat.zero_add, imp_self, Int.toNat_natCast, List.length_map, rowm kb, it_take, It.enc_len]
    repeat (with_reducible refine And.intro ?_ ?_; first | omega | (with_reducible constructor <;> omega) | exact False.elim | exact True.intro)
    try simp only [It.enc_len, List.append_nil]
    refine VW_seq (VW_region [1, 2, 15, 16, 17, 30] ?_)
    simp only [OpsW_nil, OpsW_n, StepW, pok, pval, VA.ev, Env.get, Env.put, Env.keep, thenQ, aggV, unV, unOk, locCells, locOk, PV.nth, PV.row, Heap.get, HL.get, Nat.le_refl, Nat.left_eq_add, Nat.succ_ne_self, List.map, List.length, List.getD_cons_zero, List.drop, List.cons_append, List.nil_append, Nat.reduceEqDiff, Nat.reduceLT, Bool.true_eq_false, ite_true, ite_false, true_and, and_true, Nat.zero_add, imp_self, it_take, It.enc_len]
    repeat (with_reducible refine And.intro ?_ ?_; first | omega | (with_reducible constructor <;> omega) | exact False.elim | exact True.intro)
    refine ACall_p (hf k ka kb) ?_
    try simp only [true_and]
    refine VW_cond rfl (fun h3 => ?_) (fun h3 => ?_)
    · refine VW_seq (VW_region [6] ?_)
      simp only [OpsW_nil, OpsW_n, StepW, pok, pval, VA.ev, Env.get, Env.put, Env.keep, thenQ, Nat.reduceEqDiff, ite_true, ite_false, true_and]
      refine VW_ret ?_
      try simp only [Env.get, thenQ, blockQ, retQ, resV, resOk, RS.ev, RS.ok, ite_true, true_and, and_true]
      have h4 : l[k] ≠ m[k] := fun e => by rw [e] at h3; simp [eqB] at h3
      rw [eqB_f (get_ne ka kb h4)]
      exact View.refl _ _
    have h4 : l[k] = m[k] := by simpa [eqB] using h3
    refine VW_skip ?_
    try simp only [thenQ, blockQ]
    refine VW_region [1, 2, 15, 16, 17] ?_
    simp only [OpsW_nil, OpsW_n, StepW, pok, pval, VA.ev, Env.get, Env.put, Env.keep, thenQ, intV, binV, binOk, Nat.succ_ne_self, Nat.reduceEqDiff, ite_true, ite_false, true_and, w64 (n := (k : Int) + 1) (by omega) (by omega)]
    refine ⟨⟨(k + 1, n + 2), by simp only []; omega, take_step he ka kb h4⟩, ?_, ?_, ?_⟩
    · simp
    · simp only [Nat.le_refl]
    · dsimp only; omega
  · simp only [decide_eq_false_iff_not] at h2
    obtain rfl : k = l.length := by omega
    refine VW_exit ?_
    try simp only [thenQ, blockQ, retQ, ite_true]
    refine VW_seq (VW_region [6] ?_)
    simp only [OpsW_nil, OpsW_n, StepW, pok, pval, VA.ev, Env.get, Env.put, Env.keep, thenQ, Nat.reduceEqDiff, ite_true, ite_false, true_and]
    refine VW_ret ?_
    try simp only [Env.get, retQ, resV, resOk, RS.ev, RS.ok, ite_true, true_and, and_true]
    rw [eqB_t (take_all h1 he)]
    exact View.refl _ _

end Go.Proofs.Ytcjaojhbebpokaa.w

