/-
  Walks: the law CorpusKnownSince.
-/
import Derived.Test.YtcjaojhbebpokaaLwA
import Derived.Test.YtcjaojhbebpokaaH10
set_option linter.all false
namespace Go.Proofs.Ytcjaojhbebpokaa.w
open Go Go.VM
set_option maxRecDepth 20000
set_option maxHeartbeats 0
set_option pp.deepTerms false
def c_pandectlaw28_CorpusKnownSince : VC := (.seq (.region [⟨(some 6), (.mv (.c (.bool false))), none⟩] false) (.seq (.seq (.region [⟨(some 13), (.mv (.t 0)), none⟩, ⟨(some 14), (.call 11 [(.t 13), (.c (.int .i64 30))]), none⟩, ⟨(some 15), (.un .not (.t 14)), none⟩] false) (.cond (.t 15) (.seq (.region [⟨(some 16), (.call 12 []), none⟩, ⟨(some 6), (.mv (.t 16)), none⟩] false) .ret) .skip)) (.seq (.region [⟨(some 18), (.mv (.t 1)), none⟩, ⟨(some 19), (.mv (.t 2)), none⟩, ⟨(some 20), (.mv (.t 0)), none⟩, ⟨(some 21), (.call 16 [(.t 18), (.t 19), (.t 20)]), none⟩, ⟨(some 17), (.mv (.t 21)), none⟩, ⟨(some 22), (.ext (.t 17) 0), none⟩, ⟨(some 23), (.ext (.t 17) 1), none⟩, ⟨(some 7), (.alloc [(.int .i64 0), (.int .i64 0), (.int .i64 0), (.int .i64 0), .nilsl, .nilsl, (.int .i64 0), (.int .i64 0), (.int .i64 0), (.int .i64 0), (.int .i64 0), (.int .i64 0), (.str []), .nilsl, .nilsl, .nilsl, .nilsl, .nilsl, (.str []), (.str []), (.int .i64 0), (.int .i64 0), (.str []), (.int .i64 0), (.int .i64 0), (.int .i64 0), (.str []), .nilsl]), none⟩, ⟨none, (.store 28 (.t 7) (.t 22)), none⟩, ⟨(some 8), (.mv (.t 23)), none⟩] false) (.seq (.region [⟨(some 24), (.mv (.t 1)), none⟩, ⟨(some 25), (.mv (.t 2)), none⟩, ⟨(some 26), (.mv (.t 0)), none⟩, ⟨(some 27), (.call 19 [(.t 24), (.t 25), (.t 26)]), none⟩, ⟨(some 9), (.mv (.t 27)), none⟩] false) (.seq (.seq (.region [⟨(some 28), (.mv (.t 8)), none⟩, ⟨(some 29), (.un .not (.t 28)), none⟩] false) (.cond (.t 29) (.seq (.region [⟨(some 30), (.mv (.t 9)), none⟩, ⟨(some 31), (.bin .eql (.t 30) (.c (.int .i64 0))), none⟩, ⟨(some 32), (.mv (.t 31)), none⟩, ⟨(some 33), (.call 12 []), (some (32, true))⟩, ⟨(some 34), (.pick (.t 32) (.t 33) (.c (.bool false))), none⟩, ⟨(some 6), (.mv (.t 34)), none⟩] false) .ret) .skip)) (.seq (.seq (.region [⟨(some 35), (.mv (.t 9)), none⟩, ⟨(some 36), (.bin .lss (.t 35) (.c (.int .i64 1))), none⟩, ⟨(some 37), (.mv (.t 36)), none⟩, ⟨(some 38), (.mv (.t 9)), (some (37, false))⟩, ⟨(some 39), (.mv (.t 0)), (some (37, false))⟩, ⟨(some 40), (.len false (.t 39)), (some (37, false))⟩, ⟨(some 41), (.bin .gtr (.t 38) (.t 40)), (some (37, false))⟩, ⟨(some 42), (.pick (.t 37) (.c (.bool true)) (.t 41)), none⟩] false) (.cond (.t 42) (.seq (.region [⟨(some 6), (.mv (.c (.bool false))), none⟩] false) .ret) .skip)) (.seq (.seq (.region [⟨(some 43), (.mv (.t 9)), none⟩, ⟨(some 44), (.bin .add (.t 43) (.c (.int .i64 1))), none⟩, ⟨(some 45), (.mv (.c (.int .i64 0))), none⟩] false) (.block 0 (.loop (.seq (.region [⟨(some 46), (.bin .lss (.t 45) (.t 44)), none⟩] false) (.seq (.cond (.t 46) .skip (.exit 0)) (.seq (.block 1 (.seq (.region [⟨(some 47), (.mv (.t 45)), none⟩, ⟨(some 10), (.mv (.t 47)), none⟩] false) (.seq (.region [⟨(some 49), (.mv (.t 1)), none⟩, ⟨(some 50), (.mv (.t 2)), none⟩, ⟨(some 51), (.mv (.t 0)), none⟩, ⟨(some 52), (.mv (.t 10)), none⟩, ⟨(some 53), (.slice false 4 (.t 51) none (some (.t 52))), none⟩, ⟨(some 54), (.call 16 [(.t 49), (.t 50), (.t 53)]), none⟩, ⟨(some 48), (.mv (.t 54)), none⟩, ⟨(some 55), (.ext (.t 48) 0), none⟩, ⟨(some 56), (.ext (.t 48) 1), none⟩, ⟨(some 11), (.alloc [(.int .i64 0), (.int .i64 0), (.int .i64 0), (.int .i64 0), .nilsl, .nilsl, (.int .i64 0), (.int .i64 0), (.int .i64 0), (.int .i64 0), (.int .i64 0), (.int .i64 0), (.str []), .nilsl, .nilsl, .nilsl, .nilsl, .nilsl, (.str []), (.str []), (.int .i64 0), (.int .i64 0), (.str []), (.int .i64 0), (.int .i64 0), (.int .i64 0), (.str []), .nilsl]), none⟩, ⟨none, (.store 28 (.t 11) (.t 55)), none⟩, ⟨(some 12), (.mv (.t 56)), none⟩] false) (.seq (.region [⟨(some 57), (.mv (.t 12)), none⟩, ⟨(some 58), (.mv (.t 57)), none⟩, ⟨(some 59), (.load true 28 (.t 11)), (some (58, true))⟩, ⟨(some 60), (.load true 28 (.t 7)), (some (58, true))⟩, ⟨(some 61), (.call 18 [(.t 59), (.t 60)]), (some (58, true))⟩, ⟨(some 62), (.pick (.t 58) (.t 61) (.c (.bool false))), none⟩, ⟨(some 63), (.mv (.t 10)), none⟩, ⟨(some 64), (.mv (.t 9)), none⟩, ⟨(some 65), (.bin .eql (.t 63) (.t 64)), none⟩, ⟨(some 66), (.binb .neq (.t 62) (.t 65)), none⟩] false) (.cond (.t 66) (.seq (.region [⟨(some 6), (.mv (.c (.bool false))), none⟩] false) .ret) .skip))))) (.region [⟨(some 67), (.bin .add (.t 45) (.c (.int .i64 1))), none⟩, ⟨(some 45), (.mv (.t 67)), none⟩] false))))))) (.seq (.region [⟨(some 68), (.call 12 []), none⟩, ⟨(some 6), (.mv (.t 68)), none⟩] false) .ret))))))))
theorem fnd_nil (n i : Int) : fnd n i [] = none := rfl
theorem sinceS_spec {n i : Int} {l : List Gz} {d : EI} (hd : fnd n i l = some d) : ∃ k : Nat, sinceS n i l = k ∧ 1 ≤ k ∧ k ≤ l.length ∧ fnd n i (l.take k) = some d ∧ ∀ j, j < k → fnd n i (l.take j) ≠ some d := by
  have hll : l.length ≠ 0 := by
    intro h
    rw [List.length_eq_zero_iff.1 h, fnd_nil] at hd
    cases hd
  unfold sinceS
  rw [hd]
  simp only
  rcases upS_spec (sinceB n i l d) l.length 1 with ⟨_, h2⟩ | ⟨j, h1, h2, h3, h4, h5⟩
  · have := h2 l.length (by omega) (by omega)
    unfold sinceB at this
    rw [List.take_length, hd, eqB_t rfl] at this
    cases this
  · refine ⟨j, h3, h1, by omega, eqB_iff.1 h4, fun q hq => ?_⟩
    by_cases hq0 : q = 0
    · subst hq0; rw [List.take_zero, fnd_nil]; exact fun h => by cases h
    · have := h5 q (by omega) hq
      intro h
      unfold sinceB at this
      rw [eqB_t h] at this
      cases this
theorem law_CorpusKnownSince (l : List Gz) (act item : Int) (hok : okL Gz.okZ l) (_ : i64 act) (_ : i64 item) (_ : l.length * 56 ≤ 140737488351232) : PCall Try.prog 9 [.sl 4 (l.map Gz.enc), pI act, pI item] (.bool true) := by
  refine PCall_intro ?_ (cB _) (by simp only [ClosedL, List.mem_cons, List.not_mem_nil, or_false, forall_eq_or_imp, forall_eq, false_implies, implies_true]; repeat' (first | exact cI _ | exact cS _ | exact cB _ | exact closed_fn0 _ | exact closed_nilsl | exact closed_agg (Un.closed _) | exact closed_agg (It.closed _) | exact closed_agg (EI.closed _) | exact closed_agg (Ac.closed _) | exact closed_agg (Wd.closed _) | exact closed_agg (St.closed _) | exact closed_agg (Sta.closed _) | exact closed_eis _ | exact closed_acs _ | exact closed_gzs _ | exact Closed.of_scalar (scalar_int _ _) | exact closed_ro (Ac.closed _) | exact closed_ro (Gz.closed _) | exact closed_agg (Gz.closed _) | exact closed_strs _ | exact closed_map (fun w _ => Wd.closed w) | exact closed_map (fun w _ => St.closed w) | exact closed_map (fun w _ => Un.closed w) | exact closed_map (fun w _ => It.closed w) | exact closed_sc _ | exact closed_sps _ | exact closed_agg (Sp.closed _) | exact closed_ro (EI.closed _) | exact closed_ro (Sta.closed _) | exact closed_ro (It.closed _) | exact closed_ro (by simp only [List.mem_cons, List.not_mem_nil, or_false, forall_eq]; first | exact cI _ | exact cS _ | exact closed_eis _) | refine And.intro ?_ ?_))
  refine ACall_fn (vc := c_pandectlaw28_CorpusKnownSince) (ts := [.t 6]) Go.Proofs.Try.func9 (by kernel_rfl) rfl rfl (Nat.le_of_ble_eq_true rfl) (by kernel_rfl) ?_
  unfold c_pandectlaw28_CorpusKnownSince
  refine VW_seq (VW_region [0, 1, 2] ?_)
  simp only [OpsW_nil, OpsW_n, StepW, pok, pval, VA.ev, Env.get, Env.put, Env.keep, argEnv, thenQ, Heap.nil, Nat.succ_ne_self, Nat.reduceEqDiff, Nat.reduceAdd, ite_true, ite_false, true_and, reduceCtorEq, Nat.zero_add]
  refine VW_seq ?_
  refine VW_seq (VW_region [0, 1, 2, 15] ?_)
  simp only [OpsW_nil, OpsW_n, StepW, pok, pval, VA.ev, Env.get, Env.put, Env.keep, thenQ, unV, unOk, Nat.succ_ne_self, List.map, Nat.reduceEqDiff, ite_true, ite_false, true_and, reduceCtorEq]
  refine ACall_ps (few30 hok) ?_
  rintro p ⟨b, rfl, hb⟩
  simp only [true_and]
  refine VW_cond rfl (fun h1 => ?_) (fun h1 => ?_)
  · refine VW_seq (VW_region [6] ?_)
    simp only [OpsW_nil, OpsW_n, StepW, pok, pval, VA.ev, Env.get, Env.put, Env.keep, thenQ, List.map, Nat.reduceEqDiff, ite_true, ite_false, true_and, reduceCtorEq]
    refine ACall_p run.awake ?_
    skip
    refine VW_ret ?_
    try simp only [Env.get, thenQ, retQ, resV, resOk, RS.ev, RS.ok, ite_true, true_and, and_true]
    exact View.refl _ _
  have hn := hb (by simpa using h1)
  have hll := hn.len
  refine VW_skip ?_
  try simp only [thenQ]
  refine VW_seq (VW_region [0, 1, 2, 7, 8] ?_)
  simp only [OpsW_nil, OpsW_n, StepW, pok, pval, VA.ev, Env.get, Env.put, Env.keep, thenQ, extV, extOk, PV.cells, PV.fits, overlay, PV.nth, PV.row, Heap.get, Heap.set, HL.get, HL.set, Heap.push, Nat.le_refl, Nat.succ_ne_self, storeV, storeOk, List.map, List.set, List.length, List.getD_cons_zero, List.take, List.nil_append, Nat.reduceEqDiff, Nat.reduceAdd, Nat.reduceLT, ite_true, ite_false, true_and, and_true, reduceCtorEq, Nat.zero_add]
  refine ACall_p (find_nice hn act item) ?_
  try simp only [HL.del, List.length, List.getD_cons_zero, List.getD_cons_succ, List.drop, List.drop_succ_cons, Nat.reduceAdd, Nat.reduceLT, true_and, BEq.rfl, Nat.zero_add, resF, ei_l28, ei_d28, List.append_nil]
  refine VW_seq (VW_region [0, 1, 2, 7, 8, 9] ?_)
  simp only [OpsW_nil, OpsW_n, StepW, pok, pval, VA.ev, Env.get, Env.put, Env.keep, thenQ, Nat.succ_ne_self, List.map, Nat.reduceEqDiff, ite_true, ite_false, true_and, reduceCtorEq]
  refine ACall_p (sp_corpus_KnownSince act item l hn) ?_
  skip
  refine VW_seq ?_
  cases hf : fnd act item l with
  | none =>
    have hs0 : sinceS act item l = 0 := by unfold sinceS; rw [hf]
    rw [hs0]
    refine VW_seq (VW_region [0, 1, 2, 7, 9, 29] ?_)
    simp only [OpsW_nil, OpsW_n, StepW, pok, pval, VA.ev, Env.get, Env.put, Env.keep, thenQ, unV, unOk, Nat.succ_ne_self, Nat.reduceEqDiff, ite_true, ite_false, true_and, reduceCtorEq, Bool.not_false, Option.isSome_none]
    refine VW_cond rfl (fun h2 => ?_) (fun h2 => by cases h2)
    refine VW_seq (VW_region [6] ?_)
    simp only [OpsW_nil, OpsW_n, OpsW_y, StepW, pok, pval, VA.ev, Env.get, Env.put, Env.keep, thenQ, pickV, isBool, intV, binV, binOk, Nat.succ_ne_self, List.map, Nat.reduceEqDiff, ite_true, ite_false, true_and, reduceCtorEq, BEq.rfl]
    refine ACall_p run.awake ?_
    skip
    refine VW_ret ?_
    try simp only [Env.get, thenQ, retQ, resV, resOk, RS.ev, RS.ok, ite_true, true_and, and_true]
    exact View.refl _ _
  | some d =>
    have hdok := hn.fnd_ok hf
    obtain ⟨k, hk, hk1, hk2, hk3, hk4⟩ := sinceS_spec hf
    rw [hk]
    refine VW_seq (VW_region [0, 1, 2, 7, 9, 29] ?_)
    simp only [OpsW_nil, OpsW_n, StepW, pok, pval, VA.ev, Env.get, Env.put, Env.keep, thenQ, unV, unOk, Nat.succ_ne_self, Nat.reduceEqDiff, ite_true, ite_false, true_and, reduceCtorEq, Bool.not_true, Option.isSome_some, Option.getD_some]
    refine VW_cond rfl (fun h2 => by cases h2) (fun h2 => ?_)
    refine VW_skip ?_
    try simp only [thenQ]
    refine VW_seq ?_
    refine VW_seq (VW_region [0, 1, 2, 7, 9, 42] ?_)
    have q1 : decide ((k : Int) < 1) = false := decide_eq_false (by omega)
    have q2 : decide ((l.length : Int) < (k : Int)) = false := decide_eq_false (by omega)
    simp only [OpsW_nil, OpsW_n, OpsW_y, StepW, pok, pval, VA.ev, Env.get, Env.put, Env.keep, thenQ, pickV, isBool, intV, binV, binOk, lenV, lenOk, Nat.succ_ne_self, Nat.reduceEqDiff, Bool.false_eq_true, ite_true, ite_false, true_and, reduceCtorEq, q1, q2, List.length_map]
    refine VW_cond rfl (fun h2 => by cases h2) (fun h2 => ?_)
    refine VW_skip ?_
    try simp only [thenQ]
    refine VW_seq ?_
    refine VW_seq (VW_region [0, 1, 2, 7, 9, 44, 45] ?_)
    simp only [OpsW_nil, OpsW_n, StepW, pok, pval, VA.ev, Env.get, Env.put, Env.keep, thenQ, intV, binV, binOk, Nat.succ_ne_self, Nat.reduceEqDiff, ite_true, ite_false, true_and, reduceCtorEq, ad1 (a := k) (by omega)]
    refine VW_block ?_
    refine VW_loop (σ := { s : Nat × Nat // s.1 ≤ k + 1 ∧ 0 < s.2 }) (fun s => ([(0, .sl 4 (l.map Gz.enc)), (1, pI act), (2, pI item), (7, .loc 0 0 0), (9, pI k), (44, pI (k + 1 : Nat)), (45, pI s.1.1)], ⟨[(0, .arr false 28 [d.enc])], s.1.2⟩)) (fun s => k + 1 - s.1.1) ⟨(0, 1), ⟨Nat.zero_le _, by show 0 < 1; omega⟩⟩ ?_ ?_ ?_
    · try simp only [Env.get, Nat.succ_ne_self, Env.le, Nat.reduceEqDiff, ite_true, ite_false, true_and, and_true, reduceCtorEq]
      all_goals (repeat' (first | rfl | trivial | omega | (simp only []; omega) | refine And.intro ?_ ?_))
    · try simp only [Heap.get, Heap.le, HL.get, HL.le, Nat.le_refl, ite_true, and_true]
      all_goals (repeat' (first | rfl | trivial | omega | (simp only []; omega) | refine And.intro ?_ ?_))
    rintro ⟨⟨j, t⟩, hj, ht⟩
    simp only [] at hj ht ⊢
    refine VW_seq (VW_region [0, 1, 2, 7, 9, 44, 45, 46] ?_)
    simp only [OpsW_nil, OpsW_n, StepW, pok, pval, VA.ev, Env.get, Env.put, Env.keep, thenQ, intV, binV, binOk, Heap.get, Heap.le, HL.le, Nat.succ_ne_self, Env.le, Nat.reduceEqDiff, ite_true, ite_false, true_and, and_true, reduceCtorEq]
    refine VW_seq ?_
    refine VW_cond rfl (fun h4 => ?_) (fun h4 => ?_)
    · refine VW_skip ?_
      try simp only [thenQ]
      simp only [decide_eq_true_eq] at h4
      have jk : j ≤ k := by omega
      have qi0 : (0 = t) = False := eq_false (by omega)
      have qi1 : (0 = (t + 1)) = False := eq_false (by omega)
      have qi2 : (t = 0) = False := eq_false (by omega)
      have qi3 : (t = (t + 1)) = False := eq_false (by omega)
      have qi4 : ((t + 1) = 0) = False := eq_false (by omega)
      have qi5 : ((t + 1) = t) = False := eq_false (by omega)
      have hm := mt_gz l j
      have hnx := hn.take j
      have hfd := find_nice hnx act item
      have hfok := fun x => hnx.fnd_ok (n := act) (i := item) (d := x)
      have hp : eqB (fnd act item (l.take j)) (some d) = decide (j = k) := by
        by_cases e : j = k
        · subst e; rw [eqB_t hk3]; simp
        · rw [eqB_f (hk4 j (by omega))]; simp [e]
      generalize fnd act item (l.take j) = ox at hfd hfok hp
      rw [eqB_some] at hp
      refine VW_seq ?_
      refine VW_block ?_
      refine VW_seq (VW_region [0, 1, 2, 7, 9, 10, 44, 45] ?_)
      simp only [OpsW_nil, OpsW_n, StepW, pok, pval, VA.ev, Env.get, Env.put, Env.keep, thenQ, Nat.succ_ne_self, Nat.reduceEqDiff, ite_true, ite_false, true_and, reduceCtorEq]
      refine VW_seq (VW_region [0, 1, 2, 7, 9, 10, 11, 12, 44, 45] ?_)
      simp only [OpsW_nil, OpsW_n, StepW, pok, pval, VA.ev, Env.get, Env.put, Env.keep, thenQ, numOf, loV, hiV, lenV, boundOk, sliceV, sliceOk, extV, extOk, PV.cells, PV.fits, overlay, PV.nth, PV.row, Heap.get, Heap.set, HL.get, HL.set, Heap.push, Nat.le_refl, Nat.succ_ne_self, storeV, storeOk, List.map, List.set, List.length, List.getD_cons_zero, List.take, List.drop_zero, List.nil_append, Option.map, Nat.reduceEqDiff, Nat.reduceAdd, Nat.reduceLT, ite_true, ite_false, true_and, and_true, reduceCtorEq, Nat.zero_add, Int.toNat_natCast, List.length_map, hm, Nat.sub_zero, qi0, qi1, qi2, qi3, qi4, qi5]
      repeat (with_reducible refine And.intro ?_ ?_; first | omega | (with_reducible constructor <;> omega) | exact False.elim | exact True.intro)
      refine ACall_p hfd ?_
      simp only [HL.del, List.length, List.getD_cons_zero, List.getD_cons_succ, List.drop, List.drop_succ_cons, Nat.reduceAdd, Nat.reduceLT, ite_false, true_and, BEq.rfl, Nat.zero_add, resF, ei_l28, ei_t28, ei_d28, List.append_nil, qi0, qi1, qi2, qi3, qi4, qi5]
      have hjk : ((j : Int) == (k : Int)) = decide (j = k) := by rw [Bool.eq_iff_iff]; simp; omega
      generalize decide (j = k) = bj at hp hjk
      refine VW_seqJ (σ := Unit) [0, 1, 2, 7, 9, 44, 45, 66] (fun _ => ([(0, .sl 4 (l.map Gz.enc)), (1, pI act), (2, pI item), (7, .loc 0 0 0), (9, pI k), (44, pI (k + 1 : Nat)), (45, pI j), (66, .bool false)], ⟨[(0, .arr false 28 [d.enc])], t + 1⟩)) ?_ (fun _ => ?_)
      · cases ox with
        | none =>
          simp only [Option.isSome_none, Bool.false_and] at hp
          subst hp
          simp only [OpsW_nil, OpsW_n, OpsW_xt, StepW, pok, pval, VA.ev, Env.get, Env.put, Env.keep, pickV, isBool, intV, binV, binOk, binbV, boolV, binbOk, Heap.get, Heap.le, HL.get, HL.le, Nat.le_refl, Nat.succ_ne_self, Env.le, Nat.reduceEqDiff, Bool.false_eq_true, ite_true, ite_false, true_and, and_true, reduceCtorEq, Option.isSome_none, Option.getD_none, hjk, qi0, qi1, qi2, qi3, qi4, qi5]
          refine ⟨(), ?_⟩
          try simp only [qi0, qi1, qi2, qi3, qi4, qi5, bne_self_eq_false]
          all_goals (repeat' (first | rfl | trivial | omega | (simp only []; omega) | refine And.intro ?_ ?_))
        | some x =>
          simp only [Option.isSome_some, Option.getD_some, Bool.true_and] at hp
          simp only [OpsW_nil, OpsW_n, OpsW_y, StepW, pok, pval, VA.ev, Env.get, Env.put, Env.keep, pickV, isBool, aggV, intV, binV, binOk, binbV, boolV, binbOk, locCells, locOk, PV.nth, PV.row, Heap.get, Heap.le, HL.get, HL.le, Nat.le_refl, Nat.succ_ne_self, Env.le, List.map, List.length, List.getD_cons_zero, List.drop, Nat.reduceEqDiff, Nat.reduceLT, Bool.true_eq_false, ite_true, ite_false, true_and, and_true, reduceCtorEq, Nat.zero_add, imp_self, Option.isSome_some, Option.getD_some, ei_l28, ei_t28, qi0, qi1, qi2, qi3, qi4, qi5]
          refine ACall_p (sp_pandectref28_Same x d (hfok x rfl) hdok) ?_
          rw [hp]
          cases bj with
          | false =>
            simp only [HL.get, Nat.le_refl, ite_true, ite_false, true_and, and_true, hjk, qi0, qi1, qi2, qi3, qi4, qi5]
            refine ⟨(), ?_⟩
            try simp only [qi0, qi1, qi2, qi3, qi4, qi5, bne_self_eq_false]
            all_goals (repeat' (first | rfl | trivial | omega | (simp only []; omega) | refine And.intro ?_ ?_))
          | true =>
            simp only [HL.get, Nat.le_refl, ite_true, ite_false, true_and, and_true, hjk, qi0, qi1, qi2, qi3, qi4, qi5]
            refine ⟨(), ?_⟩
            try simp only [qi0, qi1, qi2, qi3, qi4, qi5, bne_self_eq_false]
            all_goals (repeat' (first | rfl | trivial | omega | (simp only []; omega) | refine And.intro ?_ ?_))
      refine VW_cond rfl (fun h2 => by cases h2) (fun h2 => ?_)
      refine VW_skip ?_
      try simp only [thenQ, blockQ]
      refine VW_region [0, 1, 2, 7, 9, 44, 45] ?_
      simp only [OpsW_nil, OpsW_n, StepW, pok, pval, VA.ev, Env.get, Env.put, Env.keep, thenQ, intV, binV, binOk, HL.get, Nat.succ_ne_self, Nat.reduceEqDiff, ite_true, ite_false, true_and, and_true, reduceCtorEq, ad1 (a := j) (by omega)]
      refine ⟨⟨(j + 1, t + 1), ⟨by show j + 1 ≤ k + 1; omega, by show 0 < t + 1; omega⟩⟩, ?_⟩
      try simp only [Nat.le_refl, true_and]
      all_goals (repeat' (first | rfl | trivial | omega | (simp only []; omega) | refine And.intro ?_ ?_))
    · refine VW_exit ?_
      try simp only [thenQ, blockQ, retQ, ite_true]
      refine VW_seq (VW_region [6] ?_)
      simp only [OpsW_nil, OpsW_n, StepW, pok, pval, VA.ev, Env.get, Env.put, Env.keep, thenQ, Nat.succ_ne_self, List.map, Nat.reduceEqDiff, ite_true, ite_false, true_and, reduceCtorEq]
      refine ACall_p run.awake ?_
      skip
      refine VW_ret ?_
      try simp only [Env.get, retQ, resV, resOk, RS.ev, RS.ok, ite_true, true_and, and_true]
      exact View.refl _ _
end Go.Proofs.Ytcjaojhbebpokaa.w

