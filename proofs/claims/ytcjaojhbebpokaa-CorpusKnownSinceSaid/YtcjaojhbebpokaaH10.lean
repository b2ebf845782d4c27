/-
  Walks: since when an enacted item is known.
-/
import Derived.Test.YtcjaojhbebpokaaH9
import Derived.Test.YtcjaojhbebpokaaH8b
import Derived.Test.YtcjaojhbebpokaaW7b
set_option linter.all false
namespace Go.Proofs.Ytcjaojhbebpokaa.w
open Go Go.VM
set_option maxRecDepth 20000
set_option maxHeartbeats 0
set_option pp.deepTerms false
def c_corpus_KnownSince : VC := (.seq (.region [⟨(some 6), (.mv (.c (.int .i64 0))), none⟩] false) (.seq (.region [⟨(some 13), (.mv (.t 0)), none⟩, ⟨(some 14), (.mv (.t 1)), none⟩, ⟨(some 15), (.mv (.t 2)), none⟩, ⟨(some 16), (.call 16 [(.t 13), (.t 14), (.t 15)]), none⟩, ⟨(some 12), (.mv (.t 16)), none⟩, ⟨(some 17), (.ext (.t 12) 0), none⟩, ⟨(some 18), (.ext (.t 12) 1), none⟩, ⟨(some 7), (.alloc [(.int .i64 0), (.int .i64 0), (.int .i64 0), (.int .i64 0), .nilsl, .nilsl, (.int .i64 0), (.int .i64 0), (.int .i64 0), (.int .i64 0), (.int .i64 0), (.int .i64 0), (.str []), .nilsl, .nilsl, .nilsl, .nilsl, .nilsl, (.str []), (.str []), (.int .i64 0), (.int .i64 0), (.str []), (.int .i64 0), (.int .i64 0), (.int .i64 0), (.str []), .nilsl]), none⟩, ⟨none, (.store 28 (.t 7) (.t 17)), none⟩, ⟨(some 8), (.mv (.t 18)), none⟩] false) (.seq (.seq (.region [⟨(some 9), (.mv (.c (.int .i64 1))), none⟩] false) (.block 0 (.loop (.seq (.seq (.region [⟨(some 19), (.mv (.t 8)), none⟩, ⟨(some 20), (.mv (.t 19)), none⟩, ⟨(some 21), (.mv (.t 9)), (some (20, true))⟩, ⟨(some 22), (.mv (.t 2)), (some (20, true))⟩, ⟨(some 23), (.len false (.t 22)), (some (20, true))⟩, ⟨(some 24), (.bin .leq (.t 21) (.t 23)), (some (20, true))⟩, ⟨(some 25), (.pick (.t 20) (.t 24) (.c (.bool false))), none⟩] false) (.cond (.t 25) .skip (.exit 0))) (.seq (.block 1 (.seq (.region [⟨(some 29), (.mv (.t 0)), none⟩, ⟨(some 30), (.mv (.t 1)), none⟩, ⟨(some 31), (.mv (.t 2)), none⟩, ⟨(some 32), (.mv (.t 9)), none⟩, ⟨(some 33), (.slice false 4 (.t 31) none (some (.t 32))), none⟩, ⟨(some 34), (.call 16 [(.t 29), (.t 30), (.t 33)]), none⟩, ⟨(some 28), (.mv (.t 34)), none⟩, ⟨(some 35), (.ext (.t 28) 0), none⟩, ⟨(some 36), (.ext (.t 28) 1), none⟩, ⟨(some 10), (.alloc [(.int .i64 0), (.int .i64 0), (.int .i64 0), (.int .i64 0), .nilsl, .nilsl, (.int .i64 0), (.int .i64 0), (.int .i64 0), (.int .i64 0), (.int .i64 0), (.int .i64 0), (.str []), .nilsl, .nilsl, .nilsl, .nilsl, .nilsl, (.str []), (.str []), (.int .i64 0), (.int .i64 0), (.str []), (.int .i64 0), (.int .i64 0), (.int .i64 0), (.str []), .nilsl]), none⟩, ⟨none, (.store 28 (.t 10) (.t 35)), none⟩, ⟨(some 11), (.mv (.t 36)), none⟩] false) (.seq (.region [⟨(some 37), (.mv (.t 11)), none⟩, ⟨(some 38), (.mv (.t 37)), none⟩, ⟨(some 39), (.load true 28 (.t 10)), (some (38, true))⟩, ⟨(some 40), (.load true 28 (.t 7)), (some (38, true))⟩, ⟨(some 41), (.call 38 [(.t 39), (.t 40)]), (some (38, true))⟩, ⟨(some 42), (.pick (.t 38) (.t 41) (.c (.bool false))), none⟩] false) (.cond (.t 42) (.seq (.region [⟨(some 43), (.mv (.t 9)), none⟩, ⟨(some 6), (.mv (.t 43)), none⟩] false) .ret) .skip)))) (.region [⟨(some 26), (.mv (.t 9)), none⟩, ⟨(some 27), (.bin .add (.t 26) (.c (.int .i64 1))), none⟩, ⟨(some 9), (.mv (.t 27)), none⟩] false)))))) (.seq (.region [⟨(some 6), (.mv (.c (.int .i64 0))), none⟩] false) .ret))))
def c_pandectref28_Since : VC := (.seq (.region [⟨(some 6), (.mv (.c (.int .i64 0))), none⟩] false) (.seq (.region [⟨(some 13), (.mv (.t 0)), none⟩, ⟨(some 14), (.mv (.t 1)), none⟩, ⟨(some 15), (.mv (.t 2)), none⟩, ⟨(some 16), (.call 17 [(.t 13), (.t 14), (.t 15)]), none⟩, ⟨(some 12), (.mv (.t 16)), none⟩, ⟨(some 17), (.ext (.t 12) 0), none⟩, ⟨(some 18), (.ext (.t 12) 1), none⟩, ⟨(some 7), (.alloc [(.int .i64 0), (.int .i64 0), (.int .i64 0), (.int .i64 0), .nilsl, .nilsl, (.int .i64 0), (.int .i64 0), (.int .i64 0), (.int .i64 0), (.int .i64 0), (.int .i64 0), (.str []), .nilsl, .nilsl, .nilsl, .nilsl, .nilsl, (.str []), (.str []), (.int .i64 0), (.int .i64 0), (.str []), (.int .i64 0), (.int .i64 0), (.int .i64 0), (.str []), .nilsl]), none⟩, ⟨none, (.store 28 (.t 7) (.t 17)), none⟩, ⟨(some 8), (.mv (.t 18)), none⟩] false) (.seq (.seq (.region [⟨(some 19), (.mv (.t 8)), none⟩, ⟨(some 20), (.un .not (.t 19)), none⟩] false) (.cond (.t 20) (.seq (.region [⟨(some 6), (.mv (.c (.int .i64 0))), none⟩] false) .ret) .skip)) (.seq (.seq (.region [⟨(some 9), (.mv (.c (.int .i64 1))), none⟩] false) (.block 0 (.loop (.seq (.seq (.region [⟨(some 21), (.mv (.t 9)), none⟩, ⟨(some 22), (.mv (.t 2)), none⟩, ⟨(some 23), (.len false (.t 22)), none⟩, ⟨(some 24), (.bin .leq (.t 21) (.t 23)), none⟩] false) (.cond (.t 24) .skip (.exit 0))) (.seq (.block 1 (.seq (.region [⟨(some 28), (.mv (.t 0)), none⟩, ⟨(some 29), (.mv (.t 1)), none⟩, ⟨(some 30), (.mv (.t 2)), none⟩, ⟨(some 31), (.mv (.t 9)), none⟩, ⟨(some 32), (.slice false 4 (.t 30) none (some (.t 31))), none⟩, ⟨(some 33), (.call 17 [(.t 28), (.t 29), (.t 32)]), none⟩, ⟨(some 27), (.mv (.t 33)), none⟩, ⟨(some 34), (.ext (.t 27) 0), none⟩, ⟨(some 35), (.ext (.t 27) 1), none⟩, ⟨(some 10), (.alloc [(.int .i64 0), (.int .i64 0), (.int .i64 0), (.int .i64 0), .nilsl, .nilsl, (.int .i64 0), (.int .i64 0), (.int .i64 0), (.int .i64 0), (.int .i64 0), (.int .i64 0), (.str []), .nilsl, .nilsl, .nilsl, .nilsl, .nilsl, (.str []), (.str []), (.int .i64 0), (.int .i64 0), (.str []), (.int .i64 0), (.int .i64 0), (.int .i64 0), (.str []), .nilsl]), none⟩, ⟨none, (.store 28 (.t 10) (.t 34)), none⟩, ⟨(some 11), (.mv (.t 35)), none⟩] false) (.seq (.region [⟨(some 36), (.mv (.t 11)), none⟩, ⟨(some 37), (.mv (.t 36)), none⟩, ⟨(some 38), (.load true 28 (.t 10)), (some (37, true))⟩, ⟨(some 39), (.load true 28 (.t 7)), (some (37, true))⟩, ⟨(some 40), (.call 18 [(.t 38), (.t 39)]), (some (37, true))⟩, ⟨(some 41), (.pick (.t 37) (.t 40) (.c (.bool false))), none⟩] false) (.cond (.t 41) (.seq (.region [⟨(some 42), (.mv (.t 9)), none⟩, ⟨(some 6), (.mv (.t 42)), none⟩] false) .ret) .skip)))) (.region [⟨(some 25), (.mv (.t 9)), none⟩, ⟨(some 26), (.bin .add (.t 25) (.c (.int .i64 1))), none⟩, ⟨(some 9), (.mv (.t 26)), none⟩] false)))))) (.seq (.region [⟨(some 6), (.mv (.c (.int .i64 0))), none⟩] false) .ret)))))
theorem findR_nice {l : List Gz} (h : Nice l) (n i : Int) : PCall Try.prog 17 [pI n, pI i, .sl 4 (l.map Gz.enc)] (resF (fnd n i l)) := sp_pandectref28_Find n i l h.smal
theorem upS_more (p : Nat → Bool) (f k : Nat) : upS p (f + 1) k = bif p k then (k : Int) else upS p f (k + 1) := rfl
theorem sp_corpus_KnownSince (n i : Int) (l : List Gz) (hn : Nice l) : PCall Try.prog 19 [pI n, pI i, .sl 4 (l.map Gz.enc)] (pI (sinceS n i l)) := by
  have hll := hn.len
  refine PCall_intro ?_ (cI _) (by simp only [ClosedL, List.mem_cons, List.not_mem_nil, or_false, forall_eq_or_imp, forall_eq, false_implies, implies_true]; repeat' (first | exact cI _ | exact cS _ | exact cB _ | exact closed_fn0 _ | exact closed_nilsl | exact closed_agg (Un.closed _) | exact closed_agg (It.closed _) | exact closed_agg (EI.closed _) | exact closed_agg (Ac.closed _) | exact closed_agg (Wd.closed _) | exact closed_agg (St.closed _) | exact closed_agg (Sta.closed _) | exact closed_eis _ | exact closed_acs _ | exact closed_gzs _ | exact Closed.of_scalar (scalar_int _ _) | exact closed_ro (Ac.closed _) | exact closed_ro (Gz.closed _) | exact closed_agg (Gz.closed _) | exact closed_strs _ | exact closed_map (fun w _ => Wd.closed w) | exact closed_map (fun w _ => St.closed w) | exact closed_map (fun w _ => Un.closed w) | exact closed_map (fun w _ => It.closed w) | exact closed_sc _ | exact closed_sps _ | exact closed_agg (Sp.closed _) | exact closed_ro (EI.closed _) | exact closed_ro (Sta.closed _) | exact closed_ro (It.closed _) | exact closed_ro (by simp only [List.mem_cons, List.not_mem_nil, or_false, forall_eq]; first | exact cI _ | exact cS _ | exact closed_eis _) | refine And.intro ?_ ?_))
  refine ACall_fn (vc := c_corpus_KnownSince) (ts := [.t 6]) Go.Proofs.Try.func19 (by kernel_rfl) rfl rfl (Nat.le_of_ble_eq_true rfl) (by kernel_rfl) ?_
  unfold c_corpus_KnownSince
  refine VW_seq (VW_region [0, 1, 2] ?_)
  simp only [OpsW_nil, OpsW_n, StepW, pok, pval, VA.ev, Env.get, Env.put, Env.keep, argEnv, thenQ, Heap.nil, Nat.succ_ne_self, Nat.reduceEqDiff, Nat.reduceAdd, ite_true, ite_false, true_and, reduceCtorEq, Nat.zero_add]
  refine VW_seq (VW_region [0, 1, 2, 7, 8] ?_)
  simp only [OpsW_nil, OpsW_n, StepW, pok, pval, VA.ev, Env.get, Env.put, Env.keep, thenQ, extV, extOk, PV.cells, PV.fits, overlay, PV.nth, PV.row, Heap.get, Heap.set, HL.get, HL.set, Heap.push, Nat.le_refl, Nat.succ_ne_self, storeV, storeOk, List.map, List.set, List.length, List.getD_cons_zero, List.take, List.nil_append, Nat.reduceEqDiff, Nat.reduceAdd, Nat.reduceLT, ite_true, ite_false, true_and, and_true, reduceCtorEq, Nat.zero_add]
  refine ACall_p (find_nice hn n i) ?_
  unfold sinceS
  cases hf : fnd n i l with
  | none =>
    simp only [HL.del, List.length, List.getD_cons_zero, List.getD_cons_succ, List.drop, List.drop_succ_cons, Nat.reduceAdd, Nat.reduceLT, true_and, BEq.rfl, Nat.zero_add, resF, Option.getD_none, Option.isSome_none, ei_l28]
    refine VW_seq ?_
    refine VW_seq (VW_region [0, 1, 2, 7, 8, 9] ?_)
    simp only [OpsW_nil, OpsW_n, StepW, pok, pval, VA.ev, Env.get, Env.put, Env.keep, thenQ, Nat.succ_ne_self, Nat.reduceEqDiff, ite_true, ite_false, true_and, reduceCtorEq]
    refine VW_block ?_
    refine VW_loop (σ := Unit) (fun s => ([(8, .bool false)], ⟨[], 1⟩)) (fun s => 0) () ?_ ?_ ?_
    · try simp only [Env.get, Nat.succ_ne_self, Env.le, Nat.reduceEqDiff, ite_true, ite_false, and_true, reduceCtorEq]
      all_goals (repeat' (first | rfl | trivial | omega | (simp only []; omega) | refine And.intro ?_ ?_))
    · try simp only [Heap.le, HL.le, Nat.le_refl, and_true]
      all_goals (repeat' (first | rfl | trivial | omega | (simp only []; omega) | refine And.intro ?_ ?_))
    rintro ⟨⟩
    refine VW_seq ?_
    refine VW_seq (VW_region [25] ?_)
    simp only [OpsW_nil, OpsW_n, OpsW_xt, StepW, pok, pval, VA.ev, Env.get, Env.put, Env.keep, thenQ, pickV, isBool, Heap.le, HL.le, Nat.succ_ne_self, Env.le, Nat.reduceEqDiff, Nat.reduceLT, Bool.false_eq_true, ite_true, ite_false, true_and, and_true]
    refine VW_cond rfl (fun h1 => by cases h1) (fun h1 => ?_)
    refine VW_exit ?_
    try simp only [thenQ, blockQ, retQ, ite_true]
    refine VW_seq (VW_region [6] ?_)
    simp only [OpsW_nil, OpsW_n, StepW, pok, pval, VA.ev, Env.get, Env.put, Env.keep, thenQ, Nat.reduceEqDiff, ite_true, ite_false, true_and]
    refine VW_ret ?_
    try simp only [Env.get, retQ, resV, resOk, RS.ev, RS.ok, ite_true, true_and, and_true]
    exact View.refl _ _
  | some d =>
    have hdok := hn.fnd_ok hf
    simp only [HL.del, List.length, List.getD_cons_zero, List.getD_cons_succ, List.drop, List.drop_succ_cons, Nat.reduceAdd, Nat.reduceLT, true_and, BEq.rfl, Nat.zero_add, resF, Option.getD_some, Option.isSome_some, ei_l28, ei_d28, List.append_nil]
    refine VW_seq ?_
    refine VW_seq (VW_region [0, 1, 2, 7, 8, 9] ?_)
    simp only [OpsW_nil, OpsW_n, StepW, pok, pval, VA.ev, Env.get, Env.put, Env.keep, thenQ, Nat.succ_ne_self, Nat.reduceEqDiff, ite_true, ite_false, true_and, reduceCtorEq]
    refine VW_block ?_
    refine VW_loop (σ := { s : Nat × Nat // 1 ≤ s.1 ∧ s.1 ≤ l.length + 1 ∧ upS (sinceB n i l d) l.length 1 = upS (sinceB n i l d) (l.length + 1 - s.1) s.1 ∧ 0 < s.2 }) (fun s => ([(0, pI n), (1, pI i), (2, .sl 4 (l.map Gz.enc)), (7, .loc 0 0 0), (8, .bool true), (9, pI s.1.1)], ⟨[(0, .arr false 28 [d.enc])], s.1.2⟩)) (fun s => l.length + 1 - s.1.1) ⟨(1, 1), ⟨Nat.le_refl _, by show 1 ≤ l.length + 1; omega, rfl, by show 0 < 1; omega⟩⟩ ?_ ?_ ?_
    · try simp only [Env.get, Nat.succ_ne_self, Env.le, Nat.reduceEqDiff, ite_true, ite_false, true_and, and_true, reduceCtorEq]
      all_goals (repeat' (first | rfl | trivial | omega | (simp only []; omega) | refine And.intro ?_ ?_))
    · try simp only [Heap.get, Heap.le, HL.get, HL.le, Nat.le_refl, ite_true, and_true]
      all_goals (repeat' (first | rfl | trivial | omega | (simp only []; omega) | refine And.intro ?_ ?_))
    rintro ⟨⟨k, t⟩, hk1, hk2, hup, ht⟩
    simp only [] at hk1 hk2 hup ht ⊢
    refine VW_seq ?_
    refine VW_seq (VW_region [0, 1, 2, 7, 8, 9, 25] ?_)
    simp only [OpsW_nil, OpsW_n, OpsW_y, StepW, pok, pval, VA.ev, Env.get, Env.put, Env.keep, thenQ, pickV, isBool, intV, binV, binOk, lenV, lenOk, Heap.get, Heap.le, HL.le, Nat.succ_ne_self, Env.le, Nat.reduceEqDiff, ite_true, ite_false, true_and, and_true, reduceCtorEq, List.length_map]
    refine VW_cond rfl (fun h1 => ?_) (fun h1 => ?_)
    · refine VW_skip ?_
      try simp only [thenQ]
      simp only [decide_eq_true_eq] at h1
      have kl : k ≤ l.length := by omega
      obtain ⟨f, hf⟩ : ∃ f, l.length + 1 - k = f + 1 := ⟨l.length - k, by omega⟩
      rw [hf, upS_more] at hup
      have hnx := hn.take k
      have hfd := find_nice hnx n i
      have hfok := fun x => hnx.fnd_ok (n := n) (i := i) (d := x)
      have hp : sinceB n i l d k = eqB (fnd n i (l.take k)) (some d) := rfl
      generalize fnd n i (l.take k) = ox at hfd hfok hp
      refine VW_seq ?_
      refine VW_block ?_
      refine VW_seq (VW_region [0, 1, 2, 7, 8, 9, 10, 11] ?_)
      have qi0 : (0 = t) = False := eq_false (by omega)
      have qi1 : (0 = (t + 1)) = False := eq_false (by omega)
      have qi2 : (t = 0) = False := eq_false (by omega)
      have qi3 : (t = (t + 1)) = False := eq_false (by omega)
      have qi4 : ((t + 1) = 0) = False := eq_false (by omega)
      have qi5 : ((t + 1) = t) = False := eq_false (by omega)
      have hm := mt_gz l k
      simp only [OpsW_nil, OpsW_n, StepW, pok, pval, VA.ev, Env.get, Env.put, Env.keep, thenQ, numOf, loV, hiV, lenV, boundOk, sliceV, sliceOk, extV, extOk, PV.cells, PV.fits, overlay, PV.nth, PV.row, Heap.get, Heap.set, HL.get, HL.set, Heap.push, Nat.le_refl, Nat.succ_ne_self, storeV, storeOk, List.map, List.set, List.length, List.getD_cons_zero, List.take, List.drop_zero, List.nil_append, Option.map, Nat.reduceEqDiff, Nat.reduceAdd, Nat.reduceLT, ite_true, ite_false, true_and, and_true, reduceCtorEq, Nat.zero_add, Int.toNat_natCast, List.length_map, hm, Nat.sub_zero, qi0, qi1, qi2, qi3, qi4, qi5]
      repeat (with_reducible refine And.intro ?_ ?_; first | omega | (with_reducible constructor <;> omega) | exact False.elim | exact True.intro)
      refine ACall_p hfd ?_
      simp only [HL.del, List.length, List.getD_cons_zero, List.getD_cons_succ, List.drop, List.drop_succ_cons, Nat.reduceAdd, Nat.reduceLT, ite_false, true_and, BEq.rfl, Nat.zero_add, resF, ei_l28, ei_t28, ei_d28, List.append_nil, qi0, qi1, qi2, qi3, qi4, qi5]
      refine VW_seqJ (σ := Unit) [0, 1, 2, 7, 8, 9, 42] (fun _ => ([(0, pI n), (1, pI i), (2, .sl 4 (l.map Gz.enc)), (7, .loc 0 0 0), (8, .bool true), (9, pI k), (42, .bool (sinceB n i l d k))], ⟨[(0, .arr false 28 [d.enc])], t + 1⟩)) ?_ (fun _ => ?_)
      · rw [hp, eqB_some]
        cases ox with
        | none =>
          simp only [OpsW_nil, OpsW_n, OpsW_xt, StepW, pok, pval, VA.ev, Env.get, Env.put, Env.keep, pickV, isBool, Heap.get, Heap.le, HL.get, HL.le, Nat.le_refl, Nat.succ_ne_self, Env.le, Nat.reduceEqDiff, Bool.false_eq_true, ite_true, ite_false, true_and, and_true, reduceCtorEq, Option.isSome_none, Option.getD_none, qi0, qi1, qi2, qi3, qi4, qi5]
          refine ⟨(), ?_⟩
          skip
          all_goals (repeat' (first | rfl | trivial | omega | (simp only []; omega) | refine And.intro ?_ ?_))
        | some x =>
          simp only [OpsW_nil, OpsW_n, OpsW_y, StepW, pok, pval, VA.ev, Env.get, Env.put, Env.keep, pickV, isBool, aggV, locCells, locOk, PV.nth, PV.row, Heap.get, Heap.le, HL.get, HL.le, Nat.le_refl, Nat.succ_ne_self, Env.le, List.map, List.length, List.getD_cons_zero, List.drop, Nat.reduceEqDiff, Nat.reduceLT, Bool.true_eq_false, ite_true, ite_false, true_and, and_true, reduceCtorEq, Nat.zero_add, imp_self, Option.isSome_some, Option.getD_some, ei_l28, ei_t28, qi0, qi1, qi2, qi3, qi4, qi5]
          refine ACall_p (sp38 x d (hfok x rfl) hdok) ?_
          simp only [HL.get, Nat.le_refl, ite_true, ite_false, and_true, qi0, qi1, qi2, qi3, qi4, qi5]
          refine ⟨(), ?_⟩
          skip
          all_goals (repeat' (first | rfl | trivial | omega | (simp only []; omega) | refine And.intro ?_ ?_))
      refine VW_cond rfl (fun h2 => ?_) (fun h2 => ?_)
      · rw [h2, cond_true] at hup
        refine VW_seq (VW_region [6] ?_)
        simp only [OpsW_nil, OpsW_n, StepW, pok, pval, VA.ev, Env.get, Env.put, Env.keep, thenQ, Nat.succ_ne_self, Nat.reduceEqDiff, ite_true, ite_false, true_and, reduceCtorEq]
        refine VW_ret ?_
        try simp only [Env.get, thenQ, blockQ, retQ, resV, resOk, RS.ev, RS.ok, ite_true, true_and, and_true]
        rw [hup]
        exact View.refl _ _
      rw [h2, cond_false] at hup
      refine VW_skip ?_
      try simp only [thenQ, blockQ]
      refine VW_region [0, 1, 2, 7, 8, 9] ?_
      simp only [OpsW_nil, OpsW_n, StepW, pok, pval, VA.ev, Env.get, Env.put, Env.keep, thenQ, intV, binV, binOk, HL.get, Nat.succ_ne_self, Nat.reduceEqDiff, ite_true, ite_false, true_and, and_true, reduceCtorEq, ad1 (a := k) (by omega)]
      refine ⟨⟨(k + 1, t + 1), ⟨by show 1 ≤ k + 1; omega, by show k + 1 ≤ l.length + 1; omega, by rw [hup]; show _ = upS _ (l.length + 1 - (k + 1)) (k + 1); rw [show l.length + 1 - (k + 1) = f by omega], by show 0 < t + 1; omega⟩⟩, ?_⟩
      try simp only [Nat.le_refl, true_and]
      all_goals (repeat' (first | rfl | trivial | omega | (simp only []; omega) | refine And.intro ?_ ?_))
    · simp only [decide_eq_false_iff_not] at h1
      obtain rfl : k = l.length + 1 := by omega
      refine VW_exit ?_
      try simp only [thenQ, blockQ, retQ, ite_true]
      refine VW_seq (VW_region [6] ?_)
      simp only [OpsW_nil, OpsW_n, StepW, pok, pval, VA.ev, Env.get, Env.put, Env.keep, thenQ, Nat.succ_ne_self, Nat.reduceEqDiff, ite_true, ite_false, true_and, reduceCtorEq]
      refine VW_ret ?_
      try simp only [Env.get, retQ, resV, resOk, RS.ev, RS.ok, ite_true, true_and, and_true]
      rw [hup, Nat.sub_self]
      exact View.refl _ _
theorem sp_pandectref28_Since (n i : Int) (l : List Gz) (hn : Nice l) : PCall Try.prog 20 [pI n, pI i, .sl 4 (l.map Gz.enc)] (pI (sinceS n i l)) := by
  have hll := hn.len
  refine PCall_intro ?_ (cI _) (by simp only [ClosedL, List.mem_cons, List.not_mem_nil, or_false, forall_eq_or_imp, forall_eq, false_implies, implies_true]; repeat' (first | exact cI _ | exact cS _ | exact cB _ | exact closed_fn0 _ | exact closed_nilsl | exact closed_agg (Un.closed _) | exact closed_agg (It.closed _) | exact closed_agg (EI.closed _) | exact closed_agg (Ac.closed _) | exact closed_agg (Wd.closed _) | exact closed_agg (St.closed _) | exact closed_agg (Sta.closed _) | exact closed_eis _ | exact closed_acs _ | exact closed_gzs _ | exact Closed.of_scalar (scalar_int _ _) | exact closed_ro (Ac.closed _) | exact closed_ro (Gz.closed _) | exact closed_agg (Gz.closed _) | exact closed_strs _ | exact closed_map (fun w _ => Wd.closed w) | exact closed_map (fun w _ => St.closed w) | exact closed_map (fun w _ => Un.closed w) | exact closed_map (fun w _ => It.closed w) | exact closed_sc _ | exact closed_sps _ | exact closed_agg (Sp.closed _) | exact closed_ro (EI.closed _) | exact closed_ro (Sta.closed _) | exact closed_ro (It.closed _) | exact closed_ro (by simp only [List.mem_cons, List.not_mem_nil, or_false, forall_eq]; first | exact cI _ | exact cS _ | exact closed_eis _) | refine And.intro ?_ ?_))
  refine ACall_fn (vc := c_pandectref28_Since) (ts := [.t 6]) Go.Proofs.Try.func20 (by kernel_rfl) rfl rfl (Nat.le_of_ble_eq_true rfl) (by kernel_rfl) ?_
  unfold c_pandectref28_Since
  refine VW_seq (VW_region [0, 1, 2] ?_)
  simp only [OpsW_nil, OpsW_n, StepW, pok, pval, VA.ev, Env.get, Env.put, Env.keep, argEnv, thenQ, Heap.nil, Nat.succ_ne_self, Nat.reduceEqDiff, Nat.reduceAdd, ite_true, ite_false, true_and, reduceCtorEq, Nat.zero_add]
  refine VW_seq (VW_region [0, 1, 2, 7, 8] ?_)
  simp only [OpsW_nil, OpsW_n, StepW, pok, pval, VA.ev, Env.get, Env.put, Env.keep, thenQ, extV, extOk, PV.cells, PV.fits, overlay, PV.nth, PV.row, Heap.get, Heap.set, HL.get, HL.set, Heap.push, Nat.le_refl, Nat.succ_ne_self, storeV, storeOk, List.map, List.set, List.length, List.getD_cons_zero, List.take, List.nil_append, Nat.reduceEqDiff, Nat.reduceAdd, Nat.reduceLT, ite_true, ite_false, true_and, and_true, reduceCtorEq, Nat.zero_add]
  refine ACall_p (findR_nice hn n i) ?_
  unfold sinceS
  cases hf : fnd n i l with
  | none =>
    simp only [HL.del, List.length, List.getD_cons_zero, List.getD_cons_succ, List.drop, List.drop_succ_cons, Nat.reduceAdd, Nat.reduceLT, true_and, BEq.rfl, Nat.zero_add, resF, Option.getD_none, Option.isSome_none, ei_l28]
    refine VW_seq ?_
    refine VW_seq (VW_region [0, 1, 2, 7, 20] ?_)
    simp only [OpsW_nil, OpsW_n, StepW, pok, pval, VA.ev, Env.get, Env.put, Env.keep, thenQ, unV, unOk, Nat.succ_ne_self, Nat.reduceEqDiff, ite_true, ite_false, true_and, reduceCtorEq, Bool.not_false]
    refine VW_cond rfl (fun h1 => ?_) (fun h1 => by cases h1)
    refine VW_seq (VW_region [6] ?_)
    simp only [OpsW_nil, OpsW_n, StepW, pok, pval, VA.ev, Env.get, Env.put, Env.keep, thenQ, Nat.succ_ne_self, Nat.reduceEqDiff, ite_true, ite_false, true_and, reduceCtorEq]
    refine VW_ret ?_
    try simp only [Env.get, thenQ, retQ, resV, resOk, RS.ev, RS.ok, ite_true, true_and, and_true]
    exact View.refl _ _
  | some d =>
    have hdok := hn.fnd_ok hf
    simp only [HL.del, List.length, List.getD_cons_zero, List.getD_cons_succ, List.drop, List.drop_succ_cons, Nat.reduceAdd, Nat.reduceLT, true_and, BEq.rfl, Nat.zero_add, resF, Option.getD_some, Option.isSome_some, ei_l28, ei_d28, List.append_nil]
    refine VW_seq ?_
    refine VW_seq (VW_region [0, 1, 2, 7, 20] ?_)
    simp only [OpsW_nil, OpsW_n, StepW, pok, pval, VA.ev, Env.get, Env.put, Env.keep, thenQ, unV, unOk, Nat.succ_ne_self, Nat.reduceEqDiff, ite_true, ite_false, true_and, reduceCtorEq, Bool.not_true]
    refine VW_cond rfl (fun h1 => by cases h1) (fun h1 => ?_)
    refine VW_skip ?_
    try simp only [thenQ]
    refine VW_seq ?_
    refine VW_seq (VW_region [0, 1, 2, 7, 9] ?_)
    simp only [OpsW_nil, OpsW_n, StepW, pok, pval, VA.ev, Env.get, Env.put, Env.keep, thenQ, Nat.succ_ne_self, Nat.reduceEqDiff, ite_true, ite_false, true_and, reduceCtorEq]
    refine VW_block ?_
    refine VW_loop (σ := { s : Nat × Nat // 1 ≤ s.1 ∧ s.1 ≤ l.length + 1 ∧ upS (sinceB n i l d) l.length 1 = upS (sinceB n i l d) (l.length + 1 - s.1) s.1 ∧ 0 < s.2 }) (fun s => ([(0, pI n), (1, pI i), (2, .sl 4 (l.map Gz.enc)), (7, .loc 0 0 0), (9, pI s.1.1)], ⟨[(0, .arr false 28 [d.enc])], s.1.2⟩)) (fun s => l.length + 1 - s.1.1) ⟨(1, 1), ⟨Nat.le_refl _, by show 1 ≤ l.length + 1; omega, rfl, by show 0 < 1; omega⟩⟩ ?_ ?_ ?_
    · try simp only [Env.get, Nat.succ_ne_self, Env.le, Nat.reduceEqDiff, ite_true, ite_false, true_and, and_true, reduceCtorEq]
      all_goals (repeat' (first | rfl | trivial | omega | (simp only []; omega) | refine And.intro ?_ ?_))
    · try simp only [Heap.get, Heap.le, HL.get, HL.le, Nat.le_refl, ite_true, and_true]
      all_goals (repeat' (first | rfl | trivial | omega | (simp only []; omega) | refine And.intro ?_ ?_))
    rintro ⟨⟨k, t⟩, hk1, hk2, hup, ht⟩
    simp only [] at hk1 hk2 hup ht ⊢
    refine VW_seq ?_
    refine VW_seq (VW_region [0, 1, 2, 7, 9, 24] ?_)
    simp only [OpsW_nil, OpsW_n, StepW, pok, pval, VA.ev, Env.get, Env.put, Env.keep, thenQ, intV, binV, binOk, lenV, lenOk, Heap.get, Heap.le, HL.le, Nat.succ_ne_self, Env.le, Nat.reduceEqDiff, ite_true, ite_false, true_and, and_true, reduceCtorEq, List.length_map]
    refine VW_cond rfl (fun h1 => ?_) (fun h1 => ?_)
    · refine VW_skip ?_
      try simp only [thenQ]
      simp only [decide_eq_true_eq] at h1
      have kl : k ≤ l.length := by omega
      obtain ⟨f, hf⟩ : ∃ f, l.length + 1 - k = f + 1 := ⟨l.length - k, by omega⟩
      rw [hf, upS_more] at hup
      have hnx := hn.take k
      have hfd := findR_nice hnx n i
      have hfok := fun x => hnx.fnd_ok (n := n) (i := i) (d := x)
      have hp : sinceB n i l d k = eqB (fnd n i (l.take k)) (some d) := rfl
      generalize fnd n i (l.take k) = ox at hfd hfok hp
      refine VW_seq ?_
      refine VW_block ?_
      refine VW_seq (VW_region [0, 1, 2, 7, 9, 10, 11] ?_)
      have qi0 : (0 = t) = False := eq_false (by omega)
      have qi1 : (0 = (t + 1)) = False := eq_false (by omega)
      have qi2 : (t = 0) = False := eq_false (by omega)
      have qi3 : (t = (t + 1)) = False := eq_false (by omega)
      have qi4 : ((t + 1) = 0) = False := eq_false (by omega)
      have qi5 : ((t + 1) = t) = False := eq_false (by omega)
      have hm := mt_gz l k
      simp only [OpsW_nil, OpsW_n, StepW, pok, pval, VA.ev, Env.get, Env.put, Env.keep, thenQ, numOf, loV, hiV, lenV, boundOk, sliceV, sliceOk, extV, extOk, PV.cells, PV.fits, overlay, PV.nth, PV.row, Heap.get, Heap.set, HL.get, HL.set, Heap.push, Nat.le_refl, Nat.succ_ne_self, storeV, storeOk, List.map, List.set, List.length, List.getD_cons_zero, List.take, List.drop_zero, List.nil_append, Option.map, Nat.reduceEqDiff, Nat.reduceAdd, Nat.reduceLT, ite_true, ite_false, true_and, and_true, reduceCtorEq, Nat.zero_add, Int.toNat_natCast, List.length_map, hm, Nat.sub_zero, qi0, qi1, qi2, qi3, qi4, qi5]
      repeat (with_reducible refine And.intro ?_ ?_; first | omega | (with_reducible constructor <;> omega) | exact False.elim | exact True.intro)
      refine ACall_p hfd ?_
      simp only [HL.del, List.length, List.getD_cons_zero, List.getD_cons_succ, List.drop, List.drop_succ_cons, Nat.reduceAdd, Nat.reduceLT, ite_false, true_and, BEq.rfl, Nat.zero_add, resF, ei_l28, ei_t28, ei_d28, List.append_nil, qi0, qi1, qi2, qi3, qi4, qi5]
      refine VW_seqJ (σ := Unit) [0, 1, 2, 7, 9, 41] (fun _ => ([(0, pI n), (1, pI i), (2, .sl 4 (l.map Gz.enc)), (7, .loc 0 0 0), (9, pI k), (41, .bool (sinceB n i l d k))], ⟨[(0, .arr false 28 [d.enc])], t + 1⟩)) ?_ (fun _ => ?_)
      · rw [hp, eqB_some]
        cases ox with
        | none =>
          simp only [OpsW_nil, OpsW_n, OpsW_xt, StepW, pok, pval, VA.ev, Env.get, Env.put, Env.keep, pickV, isBool, Heap.get, Heap.le, HL.get, HL.le, Nat.le_refl, Nat.succ_ne_self, Env.le, Nat.reduceEqDiff, Bool.false_eq_true, ite_true, ite_false, true_and, and_true, reduceCtorEq, Option.isSome_none, Option.getD_none, qi0, qi1, qi2, qi3, qi4, qi5]
          refine ⟨(), ?_⟩
          skip
          all_goals (repeat' (first | rfl | trivial | omega | (simp only []; omega) | refine And.intro ?_ ?_))
        | some x =>
          simp only [OpsW_nil, OpsW_n, OpsW_y, StepW, pok, pval, VA.ev, Env.get, Env.put, Env.keep, pickV, isBool, aggV, locCells, locOk, PV.nth, PV.row, Heap.get, Heap.le, HL.get, HL.le, Nat.le_refl, Nat.succ_ne_self, Env.le, List.map, List.length, List.getD_cons_zero, List.drop, Nat.reduceEqDiff, Nat.reduceLT, Bool.true_eq_false, ite_true, ite_false, true_and, and_true, reduceCtorEq, Nat.zero_add, imp_self, Option.isSome_some, Option.getD_some, ei_l28, ei_t28, qi0, qi1, qi2, qi3, qi4, qi5]
          refine ACall_p (sp_pandectref28_Same x d (hfok x rfl) hdok) ?_
          simp only [HL.get, Nat.le_refl, ite_true, ite_false, and_true, qi0, qi1, qi2, qi3, qi4, qi5]
          refine ⟨(), ?_⟩
          skip
          all_goals (repeat' (first | rfl | trivial | omega | (simp only []; omega) | refine And.intro ?_ ?_))
      refine VW_cond rfl (fun h2 => ?_) (fun h2 => ?_)
      · rw [h2, cond_true] at hup
        refine VW_seq (VW_region [6] ?_)
        simp only [OpsW_nil, OpsW_n, StepW, pok, pval, VA.ev, Env.get, Env.put, Env.keep, thenQ, Nat.succ_ne_self, Nat.reduceEqDiff, ite_true, ite_false, true_and, reduceCtorEq]
        refine VW_ret ?_
        try simp only [Env.get, thenQ, blockQ, retQ, resV, resOk, RS.ev, RS.ok, ite_true, true_and, and_true]
        rw [hup]
        exact View.refl _ _
      rw [h2, cond_false] at hup
      refine VW_skip ?_
      try simp only [thenQ, blockQ]
      refine VW_region [0, 1, 2, 7, 9] ?_
      simp only [OpsW_nil, OpsW_n, StepW, pok, pval, VA.ev, Env.get, Env.put, Env.keep, thenQ, intV, binV, binOk, HL.get, Nat.succ_ne_self, Nat.reduceEqDiff, ite_true, ite_false, true_and, and_true, reduceCtorEq, ad1 (a := k) (by omega)]
      refine ⟨⟨(k + 1, t + 1), ⟨by show 1 ≤ k + 1; omega, by show k + 1 ≤ l.length + 1; omega, by rw [hup]; show _ = upS _ (l.length + 1 - (k + 1)) (k + 1); rw [show l.length + 1 - (k + 1) = f by omega], by show 0 < t + 1; omega⟩⟩, ?_⟩
      try simp only [Nat.le_refl, true_and]
      all_goals (repeat' (first | rfl | trivial | omega | (simp only []; omega) | refine And.intro ?_ ?_))
    · simp only [decide_eq_false_iff_not] at h1
      obtain rfl : k = l.length + 1 := by omega
      refine VW_exit ?_
      try simp only [thenQ, blockQ, retQ, ite_true]
      refine VW_seq (VW_region [6] ?_)
      simp only [OpsW_nil, OpsW_n, StepW, pok, pval, VA.ev, Env.get, Env.put, Env.keep, thenQ, Nat.succ_ne_self, Nat.reduceEqDiff, ite_true, ite_false, true_and, reduceCtorEq]
      refine VW_ret ?_
      try simp only [Env.get, retQ, resV, resOk, RS.ev, RS.ok, ite_true, true_and, and_true]
      rw [hup, Nat.sub_self]
      exact View.refl _ _
end Go.Proofs.Ytcjaojhbebpokaa.w

