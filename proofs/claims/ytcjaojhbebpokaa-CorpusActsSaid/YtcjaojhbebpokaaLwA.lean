/-
  Walks: the law CorpusItems.
-/
import Derived.Test.YtcjaojhbebpokaaH9
import Derived.Test.YtcjaojhbebpokaaTb
set_option linter.all false
namespace Go.Proofs.Ytcjaojhbebpokaa.w
open Go Go.VM
set_option maxRecDepth 20000
set_option maxHeartbeats 0
set_option pp.deepTerms false
def c_pandectlaw28_CorpusItems : VC := (.seq (.region [⟨(some 2), (.mv (.c (.bool false))), none⟩] false) (.seq (.seq (.region [⟨(some 3), (.mv (.t 0)), none⟩, ⟨(some 4), (.call 11 [(.t 3), (.c (.int .i64 30))]), none⟩, ⟨(some 5), (.un .not (.t 4)), none⟩] false) (.cond (.t 5) (.seq (.region [⟨(some 6), (.call 12 []), none⟩, ⟨(some 2), (.mv (.t 6)), none⟩] false) .ret) .skip)) (.seq (.region [⟨(some 7), (.mv (.t 0)), none⟩, ⟨(some 8), (.call 14 [(.t 7)]), none⟩, ⟨(some 9), (.mv (.t 0)), none⟩, ⟨(some 10), (.call 15 [(.t 9)]), none⟩, ⟨(some 11), (.call 13 [(.t 8), (.t 10)]), none⟩, ⟨(some 12), (.mv (.t 11)), none⟩, ⟨(some 13), (.call 12 []), (some (12, true))⟩, ⟨(some 14), (.pick (.t 12) (.t 13) (.c (.bool false))), none⟩, ⟨(some 2), (.mv (.t 14)), none⟩] false) .ret)))
theorem few30 {l : List Gz} (hok : okL Gz.okZ l) : PCallS Try.prog 11 [.sl 4 (l.map Gz.enc), pI 30] (fun p => ∃ b, p = .bool b ∧ (b = true → Nice l)) :=
  (sp_few28 l 30 (by omega) hok).mono fun p ⟨b, h1, h2⟩ => ⟨b, h1, fun h => nice_of_few (by omega) hok (h2 h)⟩
theorem law_CorpusItems (l : List Gz) (hok : okL Gz.okZ l) (_ : l.length * 56 ≤ 140737488351232) : PCall Try.prog 3 [.sl 4 (l.map Gz.enc)] (.bool true) := by
  refine PCall_intro ?_ (cB _) (by simp only [ClosedL, List.mem_cons, List.not_mem_nil, or_false, forall_eq_or_imp, forall_eq, false_implies, implies_true]; repeat' (first | exact cI _ | exact cS _ | exact cB _ | exact closed_fn0 _ | exact closed_nilsl | exact closed_agg (Un.closed _) | exact closed_agg (It.closed _) | exact closed_agg (EI.closed _) | exact closed_agg (Ac.closed _) | exact closed_agg (Wd.closed _) | exact closed_agg (St.closed _) | exact closed_agg (Sta.closed _) | exact closed_eis _ | exact closed_acs _ | exact closed_gzs _ | exact Closed.of_scalar (scalar_int _ _) | exact closed_ro (Ac.closed _) | exact closed_ro (Gz.closed _) | exact closed_agg (Gz.closed _) | exact closed_strs _ | exact closed_map (fun w _ => Wd.closed w) | exact closed_map (fun w _ => St.closed w) | exact closed_map (fun w _ => Un.closed w) | exact closed_map (fun w _ => It.closed w) | exact closed_sc _ | exact closed_sps _ | exact closed_agg (Sp.closed _) | exact closed_ro (EI.closed _) | exact closed_ro (Sta.closed _) | exact closed_ro (It.closed _) | exact closed_ro (by simp only [List.mem_cons, List.not_mem_nil, or_false, forall_eq]; first | exact cI _ | exact cS _ | exact closed_eis _) | refine And.intro ?_ ?_))
  refine ACall_fn (vc := c_pandectlaw28_CorpusItems) (ts := [.t 2]) Go.Proofs.Try.func3 (by kernel_rfl) rfl rfl (Nat.le_of_ble_eq_true rfl) (by kernel_rfl) ?_
  unfold c_pandectlaw28_CorpusItems
  refine VW_seq (VW_region [0] ?_)
  simp only [OpsW_nil, OpsW_n, StepW, pok, pval, VA.ev, Env.get, Env.put, Env.keep, argEnv, thenQ, Heap.nil, ite_true, ite_false, true_and, reduceCtorEq]
  refine VW_seq ?_
  refine VW_seq (VW_region [0, 5] ?_)
  simp only [OpsW_nil, OpsW_n, StepW, pok, pval, VA.ev, Env.get, Env.put, Env.keep, thenQ, unV, unOk, List.map, Nat.reduceEqDiff, ite_true, ite_false, true_and, reduceCtorEq]
  refine ACall_ps (few30 hok) ?_
  rintro p ⟨b, rfl, hb⟩
  simp only [true_and]
  refine VW_cond rfl (fun h1 => ?_) (fun h1 => ?_)
  · refine VW_seq (VW_region [2] ?_)
    simp only [OpsW_nil, OpsW_n, StepW, pok, pval, VA.ev, Env.get, Env.put, Env.keep, thenQ, List.map, Nat.reduceEqDiff, ite_true, ite_false, true_and, reduceCtorEq]
    refine ACall_p run.awake ?_
    skip
    refine VW_ret ?_
    try simp only [Env.get, thenQ, retQ, resV, resOk, RS.ev, RS.ok, ite_true, true_and, and_true]
    exact View.refl _ _
  have hn := hb (by simpa using h1)
  refine VW_skip ?_
  try simp only [thenQ]
  refine VW_seq (VW_region [2] ?_)
  simp only [OpsW_n, StepW, pok, pval, VA.ev, Env.get, Env.put, Env.keep, thenQ, Nat.succ_ne_self, List.map, Nat.reduceEqDiff, ite_true, ite_false, true_and, reduceCtorEq]
  refine ACall_p (sp_corpus_EnactedItems l hn.smal.len hn.smal.row hn.smal.items) ?_
  skip
  refine ACall_p (sp_pandectref28_Deeds l hn.smal.len hn.smal.row hn.smal.items) ?_
  skip
  refine ACall_p (sp_pandectref28_Rows _ (by unfold deedsS; rw [deedsF_len]; exact hn.smal.items) hn.deeds_ok) ?_
  try simp only [OpsW_nil, OpsW_n, OpsW_y, StepW, pok, pval, VA.ev, Env.get, Env.put, pickV, isBool, Nat.succ_ne_self, List.map, Nat.reduceEqDiff, ite_true, ite_false, true_and, reduceCtorEq]
  refine ACall_p run.awake ?_
  skip
  refine VW_ret ?_
  try simp only [Env.get, retQ, resV, resOk, RS.ev, RS.ok, ite_true, true_and, and_true]
  exact View.refl _ _
end Go.Proofs.Ytcjaojhbebpokaa.w

