/-
  Walks: the law CorpusFinds.
-/
import Derived.Test.YtcjaojhbebpokaaLwA
import Derived.Test.YtcjaojhbebpokaaH10
import Derived.Test.YtcjaojhbebpokaaH9b
set_option linter.all false
namespace Go.Proofs.Ytcjaojhbebpokaa.w
open Go Go.VM
set_option maxRecDepth 20000
set_option maxHeartbeats 0
set_option pp.deepTerms false
def c_pandectlaw28_CorpusFinds : VC := (.seq (.region [⟨(some 8), (.mv (.c (.bool false))), none⟩] false) (.seq (.seq (.region [⟨(some 13), (.mv (.t 0)), none⟩, ⟨(some 14), (.call 11 [(.t 13), (.c (.int .i64 30))]), none⟩, ⟨(some 15), (.un .not (.t 14)), none⟩] false) (.cond (.t 15) (.seq (.region [⟨(some 16), (.call 12 []), none⟩, ⟨(some 8), (.mv (.t 16)), none⟩] false) .ret) .skip)) (.seq (.region [⟨(some 18), (.mv (.t 1)), none⟩, ⟨(some 19), (.mv (.t 2)), none⟩, ⟨(some 20), (.mv (.t 0)), none⟩, ⟨(some 21), (.call 16 [(.t 18), (.t 19), (.t 20)]), none⟩, ⟨(some 17), (.mv (.t 21)), none⟩, ⟨(some 22), (.ext (.t 17) 0), none⟩, ⟨(some 23), (.ext (.t 17) 1), none⟩, ⟨(some 9), (.alloc [(.int .i64 0), (.int .i64 0), (.int .i64 0), (.int .i64 0), .nilsl, .nilsl, (.int .i64 0), (.int .i64 0), (.int .i64 0), (.int .i64 0), (.int .i64 0), (.int .i64 0), (.str []), .nilsl, .nilsl, .nilsl, .nilsl, .nilsl, (.str []), (.str []), (.int .i64 0), (.int .i64 0), (.str []), (.int .i64 0), (.int .i64 0), (.int .i64 0), (.str []), .nilsl]), none⟩, ⟨none, (.store 28 (.t 9) (.t 22)), none⟩, ⟨(some 10), (.mv (.t 23)), none⟩] false) (.seq (.region [⟨(some 25), (.mv (.t 1)), none⟩, ⟨(some 26), (.mv (.t 2)), none⟩, ⟨(some 27), (.mv (.t 0)), none⟩, ⟨(some 28), (.call 17 [(.t 25), (.t 26), (.t 27)]), none⟩, ⟨(some 24), (.mv (.t 28)), none⟩, ⟨(some 29), (.ext (.t 24) 0), none⟩, ⟨(some 30), (.ext (.t 24) 1), none⟩, ⟨(some 11), (.alloc [(.int .i64 0), (.int .i64 0), (.int .i64 0), (.int .i64 0), .nilsl, .nilsl, (.int .i64 0), (.int .i64 0), (.int .i64 0), (.int .i64 0), (.int .i64 0), (.int .i64 0), (.str []), .nilsl, .nilsl, .nilsl, .nilsl, .nilsl, (.str []), (.str []), (.int .i64 0), (.int .i64 0), (.str []), (.int .i64 0), (.int .i64 0), (.int .i64 0), (.str []), .nilsl]), none⟩, ⟨none, (.store 28 (.t 11) (.t 29)), none⟩, ⟨(some 12), (.mv (.t 30)), none⟩] false) (.seq (.region [⟨(some 31), (.mv (.t 10)), none⟩, ⟨(some 32), (.mv (.t 12)), none⟩, ⟨(some 33), (.binb .eql (.t 31) (.t 32)), none⟩, ⟨(some 34), (.mv (.t 33)), none⟩, ⟨(some 35), (.load true 28 (.t 9)), (some (34, true))⟩, ⟨(some 36), (.load true 28 (.t 11)), (some (34, true))⟩, ⟨(some 37), (.call 18 [(.t 35), (.t 36)]), (some (34, true))⟩, ⟨(some 38), (.pick (.t 34) (.t 37) (.c (.bool false))), none⟩, ⟨(some 39), (.mv (.t 38)), none⟩, ⟨(some 40), (.mv (.t 1)), (some (39, true))⟩, ⟨(some 41), (.mv (.t 2)), (some (39, true))⟩, ⟨(some 42), (.mv (.t 0)), (some (39, true))⟩, ⟨(some 43), (.call 19 [(.t 40), (.t 41), (.t 42)]), (some (39, true))⟩, ⟨(some 44), (.mv (.t 1)), (some (39, true))⟩, ⟨(some 45), (.mv (.t 2)), (some (39, true))⟩, ⟨(some 46), (.mv (.t 0)), (some (39, true))⟩, ⟨(some 47), (.call 20 [(.t 44), (.t 45), (.t 46)]), (some (39, true))⟩, ⟨(some 48), (.bin .eql (.t 43) (.t 47)), (some (39, true))⟩, ⟨(some 49), (.pick (.t 39) (.t 48) (.c (.bool false))), none⟩, ⟨(some 50), (.mv (.t 49)), none⟩, ⟨(some 51), (.mv (.t 3)), (some (50, true))⟩, ⟨(some 52), (.mv (.t 0)), (some (50, true))⟩, ⟨(some 53), (.call 21 [(.t 51), (.t 52)]), (some (50, true))⟩, ⟨(some 54), (.mv (.t 3)), (some (50, true))⟩, ⟨(some 55), (.mv (.t 0)), (some (50, true))⟩, ⟨(some 56), (.call 22 [(.t 54), (.t 55)]), (some (50, true))⟩, ⟨(some 57), (.bin .eql (.t 53) (.t 56)), (some (50, true))⟩, ⟨(some 58), (.pick (.t 50) (.t 57) (.c (.bool false))), none⟩, ⟨(some 59), (.mv (.t 58)), none⟩, ⟨(some 60), (.call 12 []), (some (59, true))⟩, ⟨(some 61), (.pick (.t 59) (.t 60) (.c (.bool false))), none⟩, ⟨(some 8), (.mv (.t 61)), none⟩] false) .ret)))))
theorem law_CorpusFinds (l : List Gz) (act item day : Int) (hok : okL Gz.okZ l) (_ : i64 act) (_ : i64 item) (_ : i64 day) (_ : l.length * 56 ≤ 140737488351232) : PCall Try.prog 4 [.sl 4 (l.map Gz.enc), pI act, pI item, pI day] (.bool true) := by
  refine PCall_intro ?_ (cB _) (by simp only [ClosedL, List.mem_cons, List.not_mem_nil, or_false, forall_eq_or_imp, forall_eq, false_implies, implies_true]; repeat' (first | exact cI _ | exact cS _ | exact cB _ | exact closed_fn0 _ | exact closed_nilsl | exact closed_agg (Un.closed _) | exact closed_agg (It.closed _) | exact closed_agg (EI.closed _) | exact closed_agg (Ac.closed _) | exact closed_agg (Wd.closed _) | exact closed_agg (St.closed _) | exact closed_agg (Sta.closed _) | exact closed_eis _ | exact closed_acs _ | exact closed_gzs _ | exact Closed.of_scalar (scalar_int _ _) | exact closed_ro (Ac.closed _) | exact closed_ro (Gz.closed _) | exact closed_agg (Gz.closed _) | exact closed_strs _ | exact closed_map (fun w _ => Wd.closed w) | exact closed_map (fun w _ => St.closed w) | exact closed_map (fun w _ => Un.closed w) | exact closed_map (fun w _ => It.closed w) | exact closed_sc _ | exact closed_sps _ | exact closed_agg (Sp.closed _) | exact closed_ro (EI.closed _) | exact closed_ro (Sta.closed _) | exact closed_ro (It.closed _) | exact closed_ro (by simp only [List.mem_cons, List.not_mem_nil, or_false, forall_eq]; first | exact cI _ | exact cS _ | exact closed_eis _) | refine And.intro ?_ ?_))
  refine ACall_fn (vc := c_pandectlaw28_CorpusFinds) (ts := [.t 8]) Go.Proofs.Try.func4 (by kernel_rfl) rfl rfl (Nat.le_of_ble_eq_true rfl) (by kernel_rfl) ?_
  unfold c_pandectlaw28_CorpusFinds
  refine VW_seq (VW_region [0, 1, 2, 3] ?_)
  simp only [OpsW_nil, OpsW_n, StepW, pok, pval, VA.ev, Env.get, Env.put, Env.keep, argEnv, thenQ, Heap.nil, Nat.succ_ne_self, Nat.reduceEqDiff, Nat.reduceAdd, ite_true, ite_false, true_and, reduceCtorEq, Nat.zero_add]
  refine VW_seq ?_
  refine VW_seq (VW_region [0, 1, 2, 3, 15] ?_)
  simp only [OpsW_nil, OpsW_n, StepW, pok, pval, VA.ev, Env.get, Env.put, Env.keep, thenQ, unV, unOk, Nat.succ_ne_self, List.map, Nat.reduceEqDiff, ite_true, ite_false, true_and, reduceCtorEq]
  refine ACall_ps (few30 hok) ?_
  rintro p ⟨b, rfl, hb⟩
  simp only [true_and]
  refine VW_cond rfl (fun h1 => ?_) (fun h1 => ?_)
  · refine VW_seq (VW_region [8] ?_)
    simp only [OpsW_nil, OpsW_n, StepW, pok, pval, VA.ev, Env.get, Env.put, Env.keep, thenQ, List.map, Nat.reduceEqDiff, ite_true, ite_false, true_and, reduceCtorEq]
    refine ACall_p run.awake ?_
    skip
    refine VW_ret ?_
    try simp only [Env.get, thenQ, retQ, resV, resOk, RS.ev, RS.ok, ite_true, true_and, and_true]
    exact View.refl _ _
  have hn := hb (by simpa using h1)
  have hll := hn.len
  refine VW_skip ?_
  try simp only [thenQ]
  have hdok : ((fnd act item l).getD EI0).ok ∨ fnd act item l = none := by
    cases hf : fnd act item l with
    | none => exact .inr rfl
    | some d => exact .inl (hn.fnd_ok hf)
  have z0 : EI0.ok := by
    have i0 : i64 0 := by rw [i64_iff]; omega
    have s0 : okS [] := Nat.zero_le _
    exact ⟨i0, i0, i0, .mk _ i0 ⟨Nat.zero_le _, fun _ h => by cases h⟩ ⟨Nat.zero_le _, fun _ h => by cases h⟩ i0 i0 (.mk _ i0 i0 i0 i0 s0 ⟨Nat.zero_le _, fun _ h => by cases h⟩ ⟨Nat.zero_le _, fun _ h => by cases h⟩ (Nat.zero_le _) (fun _ h => by cases h)) ⟨Nat.zero_le _, fun _ h => by cases h⟩ ⟨Nat.zero_le _, fun _ h => by cases h⟩ s0 s0 ⟨i0, i0, s0⟩ i0 i0 i0 s0 (Nat.zero_le _) (fun _ h => by cases h)⟩
  have hdok2 : ((fnd act item l).getD EI0).ok := by
    rcases hdok with h | h
    · exact h
    · rw [h]; exact z0
  refine VW_seq (VW_region [0, 1, 2, 3, 9, 10] ?_)
  simp only [OpsW_nil, OpsW_n, StepW, pok, pval, VA.ev, Env.get, Env.put, Env.keep, thenQ, extV, extOk, PV.cells, PV.fits, overlay, PV.nth, PV.row, Heap.get, Heap.set, HL.get, HL.set, Heap.push, Nat.le_refl, Nat.succ_ne_self, storeV, storeOk, List.map, List.set, List.length, List.getD_cons_zero, List.take, List.nil_append, Nat.reduceEqDiff, Nat.reduceAdd, Nat.reduceLT, ite_true, ite_false, true_and, and_true, reduceCtorEq, Nat.zero_add]
  refine ACall_p (find_nice hn act item) ?_
  try simp only [HL.del, List.length, List.getD_cons_zero, List.getD_cons_succ, List.drop, List.drop_succ_cons, Nat.reduceAdd, Nat.reduceLT, true_and, BEq.rfl, Nat.zero_add, resF, ei_l28, ei_d28, List.append_nil]
  refine VW_seq (VW_region [0, 1, 2, 3, 9, 10, 11, 12] ?_)
  simp only [OpsW_nil, OpsW_n, StepW, pok, pval, VA.ev, Env.get, Env.put, Env.keep, thenQ, extV, extOk, PV.cells, PV.fits, overlay, PV.nth, PV.row, Heap.get, Heap.set, HL.get, HL.set, Heap.push, Nat.le_refl, Nat.succ_ne_self, storeV, storeOk, List.map, List.set, List.length, List.getD_cons_zero, List.take, List.nil_append, Nat.reduceEqDiff, Nat.reduceAdd, Nat.reduceLT, ite_true, ite_false, true_and, and_true, reduceCtorEq, Nat.zero_add]
  refine ACall_p (findR_nice hn act item) ?_
  try simp only [HL.del, List.length, List.getD_cons_zero, List.getD_cons_succ, List.drop, List.drop_succ_cons, Nat.reduceAdd, Nat.reduceLT, ite_false, true_and, reduceCtorEq, BEq.rfl, Nat.zero_add, resF, ei_l28, ei_d28, List.append_nil]
  generalize (fnd act item l).getD EI0 = d at hdok2 ⊢
  generalize (fnd act item l).isSome = sm
  have hsm : (sm == sm) = true := by cases sm <;> rfl
  refine VW_seq (VW_region [8] ?_)
  simp only [OpsW_n, OpsW_y, StepW, pok, pval, VA.ev, Env.get, Env.put, Env.keep, thenQ, pickV, isBool, aggV, binbV, boolV, binbOk, locCells, locOk, PV.nth, PV.row, Heap.get, HL.get, Nat.le_refl, Nat.succ_ne_self, List.map, List.length, List.getD_cons_zero, List.drop, Nat.reduceEqDiff, Nat.reduceLT, Bool.true_eq_false, ite_true, ite_false, true_and, and_true, reduceCtorEq, BEq.rfl, Nat.zero_add, imp_self, hsm, ei_l28, ei_t28]
  refine ACall_p (sp_pandectref28_Same d d hdok2 hdok2) ?_
  rw [eqB_t rfl]
  try simp only [OpsW_n, OpsW_y, StepW, pok, pval, VA.ev, Env.get, Env.put, pickV, isBool, intV, binV, binOk, strV, Nat.succ_ne_self, List.map, Nat.reduceEqDiff, ite_true, ite_false, true_and, reduceCtorEq]
  refine ACall_p (sp_corpus_KnownSince act item l hn) ?_
  skip
  refine ACall_p (sp_pandectref28_Since act item l hn) ?_
  generalize sinceS act item l = r
  try simp only [OpsW_n, OpsW_y, StepW, pok, pval, VA.ev, Env.get, Env.put, pickV, isBool, intV, binV, binOk, strV, Nat.succ_ne_self, List.map, Nat.reduceEqDiff, ite_true, ite_false, true_and, reduceCtorEq, BEq.rfl]
  refine ACall_p (sp_corpus_PublishedBy day l (by omega)) ?_
  skip
  refine ACall_p (sp_pandectref28_By day l (by omega)) ?_
  generalize byS day l = r2
  try simp only [OpsW_nil, OpsW_n, OpsW_y, StepW, pok, pval, VA.ev, Env.get, Env.put, pickV, isBool, Nat.succ_ne_self, List.map, Nat.reduceEqDiff, ite_true, ite_false, true_and, reduceCtorEq, BEq.rfl]
  refine ACall_p run.awake ?_
  skip
  refine VW_ret ?_
  try simp only [Env.get, retQ, resV, resOk, RS.ev, RS.ok, ite_true, true_and, and_true]
  exact View.refl _ _
end Go.Proofs.Ytcjaojhbebpokaa.w

