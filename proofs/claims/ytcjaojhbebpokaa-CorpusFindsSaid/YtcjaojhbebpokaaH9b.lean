/-
  Walks: days of publication.
-/
import Derived.Test.YtcjaojhbebpokaaH8
set_option linter.all false
namespace Go.Proofs.Ytcjaojhbebpokaa.w
open Go Go.VM
set_option maxRecDepth 20000
set_option maxHeartbeats 0
set_option pp.deepTerms false
def c_corpus_PublishedBy_1 : VC := (.seq (.region [⟨(some 2), (.box 4 (.t 0)), none⟩, ⟨(some 3), (.mv (.c (.bool false))), none⟩] false) (.seq (.region [⟨(some 4), (.faddr 1 (.t 2)), none⟩, ⟨(some 5), (.load false 1 (.t 4)), none⟩, ⟨(some 6), (.load false 1 (.t 1)), none⟩, ⟨(some 7), (.bin .gtr (.t 5) (.t 6)), none⟩, ⟨(some 3), (.mv (.t 7)), none⟩] false) .ret))
def c_slices_IndexFunc_Gazette : VC := (.seq (.region [⟨(some 4), (.mv (.c (.int .i64 0))), none⟩] false) (.seq (.seq (.region [⟨(some 6), (.mv (.t 0)), none⟩, ⟨(some 7), (.len false (.t 6)), none⟩, ⟨(some 8), (.mv (.c (.int .i64 0))), none⟩] false) (.block 0 (.loop (.seq (.region [⟨(some 9), (.bin .lss (.t 8) (.t 7)), none⟩] false) (.seq (.cond (.t 9) .skip (.exit 0)) (.seq (.block 1 (.seq (.region [⟨(some 10), (.mv (.t 8)), none⟩, ⟨(some 5), (.mv (.t 10)), none⟩] false) (.seq (.region [⟨(some 11), (.mv (.t 1)), none⟩, ⟨(some 12), (.mv (.t 0)), none⟩, ⟨(some 13), (.mv (.t 5)), none⟩, ⟨(some 14), (.iaddr 4 (.t 12) (.t 13)), none⟩, ⟨(some 15), (.load true 4 (.t 14)), none⟩, ⟨(some 16), (.callv (.t 11) [(.t 15)]), none⟩] false) (.cond (.t 16) (.seq (.region [⟨(some 17), (.mv (.t 5)), none⟩, ⟨(some 4), (.mv (.t 17)), none⟩] false) .ret) .skip)))) (.region [⟨(some 18), (.bin .add (.t 8) (.c (.int .i64 1))), none⟩, ⟨(some 8), (.mv (.t 18)), none⟩] false))))))) (.seq (.region [⟨(some 4), (.mv (.c (.int .i64 (-1)))), none⟩] false) .ret)))
def c_corpus_PublishedBy : VC := (.seq (.region [⟨(some 2), (.box 1 (.t 0)), none⟩, ⟨(some 4), (.mv (.c (.int .i64 0))), none⟩] false) (.seq (.region [⟨(some 6), (.mv (.t 1)), none⟩, ⟨(some 7), (.mkfn (.func 40) [] [(.t 2)]), none⟩, ⟨(some 8), (.call 39 [(.t 6), (.t 7)]), none⟩, ⟨(some 5), (.mv (.t 8)), none⟩] false) (.seq (.seq (.region [⟨(some 9), (.mv (.t 5)), none⟩, ⟨(some 10), (.bin .lss (.t 9) (.c (.int .i64 0))), none⟩] false) (.cond (.t 10) (.seq (.region [⟨(some 11), (.mv (.t 1)), none⟩, ⟨(some 12), (.len false (.t 11)), none⟩, ⟨(some 4), (.mv (.t 12)), none⟩] false) .ret) .skip)) (.seq (.region [⟨(some 13), (.mv (.t 5)), none⟩, ⟨(some 4), (.mv (.t 13)), none⟩] false) .ret))))
def c_pandectref28_By : VC := (.seq (.region [⟨(some 4), (.mv (.c (.int .i64 0))), none⟩] false) (.seq (.region [⟨(some 5), (.mv (.c (.int .i64 0))), none⟩] false) (.seq (.block 0 (.loop (.seq (.seq (.region [⟨(some 6), (.mv (.t 5)), none⟩, ⟨(some 7), (.mv (.t 1)), none⟩, ⟨(some 8), (.len false (.t 7)), none⟩, ⟨(some 9), (.bin .lss (.t 6) (.t 8)), none⟩, ⟨(some 10), (.mv (.t 9)), none⟩, ⟨(some 11), (.mv (.t 1)), (some (10, true))⟩, ⟨(some 12), (.mv (.t 5)), (some (10, true))⟩, ⟨(some 13), (.iaddr 4 (.t 11) (.t 12)), (some (10, true))⟩, ⟨(some 14), (.faddr 1 (.t 13)), (some (10, true))⟩, ⟨(some 15), (.load false 1 (.t 14)), (some (10, true))⟩, ⟨(some 16), (.mv (.t 0)), (some (10, true))⟩, ⟨(some 17), (.bin .leq (.t 15) (.t 16)), (some (10, true))⟩, ⟨(some 18), (.pick (.t 10) (.t 17) (.c (.bool false))), none⟩] false) (.cond (.t 18) .skip (.exit 0))) (.block 1 (.region [⟨(some 19), (.mv (.t 5)), none⟩, ⟨(some 20), (.bin .add (.t 19) (.c (.int .i64 1))), none⟩, ⟨(some 5), (.mv (.t 20)), none⟩] false))))) (.seq (.region [⟨(some 21), (.mv (.t 5)), none⟩, ⟨(some 4), (.mv (.t 21)), none⟩] false) .ret))))
/-! ### days of publication -/
def laterB (day : Int) (g : Gz) : Bool := decide (day < g.day)
/-- The number of gazettes ahead of the first one after a day. -/
def byS (day : Int) (l : List Gz) : Int := ((l.takeWhile fun g => !laterB day g).length : Int)
theorem gz_day (x : Gz) : ((x.enc.drop 1).take 1).getD 0 .any = pI x.day := rfl
theorem gz_l1 (x : Gz) : (x.enc.drop 1).length = 3 := rfl
theorem pos_by (day : Int) : ∀ (l : List Gz) (k : Nat), (posS (laterB day) l k = -1 ∧ byS day l = l.length) ∨ (posS (laterB day) l k = (k : Int) + byS day l)
  | [], k => .inl ⟨rfl, rfl⟩
  | x :: r, k => by
    simp only [posS, byS, List.takeWhile_cons]
    cases hp : laterB day x with
    | true => right; simp
    | false =>
      rcases pos_by day r (k + 1) with ⟨h1, h2⟩ | h1
      · left; refine ⟨by simpa using h1, ?_⟩
        simp only [byS] at h2
        simp only [Bool.not_false, if_true, List.length_cons]; omega
      · right
        simp only [byS] at h1
        simp only [cond_false, h1, Bool.not_false, if_true, List.length_cons]; omega
theorem byS_nonneg (day : Int) (l : List Gz) : 0 ≤ byS day l := by unfold byS; omega
theorem sp_corpus_PublishedBy_1 (a t : Nat) (n : Int) (g : Gz) (ha : a < t) :
    ACall Try.prog 40 [.agg g.enc, .loc a 0 0] ⟨[(a, .arr false 1 [[pI n]])], t⟩ (fun p h' => p = .bool (laterB n g) ∧ ∃ t', t ≤ t' ∧ h' = ⟨[(a, .arr false 1 [[pI n]])], t'⟩) := by
  refine ACall.drop ?_
  refine ACall_fn (vc := c_corpus_PublishedBy_1) (ts := [.t 3]) Go.Proofs.Try.func40 (by kernel_rfl) rfl rfl (Nat.le_of_ble_eq_true rfl) (by kernel_rfl) ?_
  unfold c_corpus_PublishedBy_1
  have qi0 : (a = t) = False := eq_false (by omega)
  have qi1 : (t = a) = False := eq_false (by omega)
  refine VW_seq (VW_region [1, 2, 3] ?_)
  simp only [OpsW_nil, OpsW_n, StepW, pok, pval, VA.ev, Env.get, Env.put, Env.keep, argEnv, thenQ, PV.cells, PV.fits, Heap.le, Heap.push, Nat.succ_ne_self, Nat.reduceEqDiff, ite_true, ite_false, true_and, reduceCtorEq, BEq.rfl, Nat.zero_add, gz_len]
  refine VW_seq (VW_region [3] ?_)
  simp only [OpsW_nil, OpsW_n, StepW, pok, pval, VA.ev, Env.get, Env.put, Env.keep, thenQ, aggV, intV, binV, binOk, faddrV, isAddr, locCells, locOk, PV.nth, PV.row, Heap.get, HL.get, Nat.le_refl, Nat.succ_ne_self, List.length, List.getD_cons_zero, List.take, List.drop, List.take_succ_cons, Nat.reduceEqDiff, Nat.reduceLT, Nat.reduceLeDiff, Bool.false_eq_true, ite_true, ite_false, true_and, and_true, implies_true, Nat.zero_add, List.length_cons, gz_day, gz_l1, gz_len, qi0, qi1]
  refine VW_ret ?_
  try simp only [Env.get, retQ, resV, resOk, RS.ev, RS.ok, ite_true, true_and, and_true]
  refine ⟨⟨[(a, .arr false 1 [[pI n]])], t + 1⟩, ?_, by unfold laterB; rfl, t + 1, by omega, rfl⟩
  try simp only [Heap.get, HL.get, HL.le, Nat.le_refl, ite_true, ite_false, and_true, qi0, qi1]
  all_goals (repeat' (first | rfl | trivial | omega | (simp only []; omega) | refine And.intro ?_ ?_))
theorem sp_index_Gz (a t : Nat) (n : Int) (l : List Gz) (ha : a < t) (hl : l.length ≤ 4611686018427387000) :
    ACall Try.prog 39 [.sl 4 (l.map Gz.enc), .fn (.func 40) [] [.loc a 0 0]] ⟨[(a, .arr false 1 [[pI n]])], t⟩
      (fun p h' => p = pI (posS (laterB n) l 0) ∧ ∃ t', t ≤ t' ∧ h' = ⟨[(a, .arr false 1 [[pI n]])], t'⟩) := by
  refine ACall_fn (vc := c_slices_IndexFunc_Gazette) (ts := [.t 4]) Go.Proofs.Try.func39 (by kernel_rfl) rfl rfl (Nat.le_of_ble_eq_true rfl) (by kernel_rfl) ?_
  unfold c_slices_IndexFunc_Gazette
  refine VW_seq (VW_region [0, 1] ?_)
  simp only [OpsW_nil, OpsW_n, StepW, pok, pval, VA.ev, Env.get, Env.put, Env.keep, argEnv, thenQ, Nat.succ_ne_self, Nat.reduceEqDiff, ite_true, ite_false, true_and, reduceCtorEq, Nat.zero_add]
  refine VW_seq ?_
  refine VW_seq (VW_region [0, 1, 7, 8] ?_)
  simp only [OpsW_nil, OpsW_n, StepW, pok, pval, VA.ev, Env.get, Env.put, Env.keep, thenQ, lenV, lenOk, Nat.succ_ne_self, Nat.reduceEqDiff, ite_true, ite_false, true_and, reduceCtorEq, List.length_map]
  refine VW_block ?_
  refine VW_loop (σ := { s : Nat × Nat // s.1 ≤ l.length ∧ posS (laterB n) l 0 = posS (laterB n) (l.drop s.1) s.1 ∧ t ≤ s.2 }) (fun s => ([(0, .sl 4 (l.map Gz.enc)), (1, .fn (.func 40) [] [.loc a 0 0]), (7, pI l.length), (8, pI s.1.1)], ⟨[(a, .arr false 1 [[pI n]])], s.1.2⟩)) (fun s => l.length - s.1.1) ⟨(0, t), ⟨Nat.zero_le _, rfl, Nat.le_refl _⟩⟩ ?_ ?_ ?_
  · try simp only [Env.get, Nat.succ_ne_self, Env.le, Nat.reduceEqDiff, ite_true, ite_false, true_and, and_true, reduceCtorEq]
    all_goals (repeat' (first | rfl | trivial | omega | (simp only []; omega) | refine And.intro ?_ ?_))
  · have qi0 : (a = t) = False := eq_false (by omega)
    have qi1 : (t = a) = False := eq_false (by omega)
    try simp only [Heap.get, Heap.le, HL.get, HL.le, Nat.le_refl, ite_true, and_true, qi0, qi1]
    all_goals (repeat' (first | rfl | trivial | omega | (simp only []; omega) | refine And.intro ?_ ?_))
  rintro ⟨⟨k, t1⟩, hk, hpos, ht⟩
  simp only [] at hk hpos ht ⊢
  have qi0 : (a = t1) = False := eq_false (by omega)
  have qi1 : (t1 = a) = False := eq_false (by omega)
  refine VW_seq (VW_region [0, 1, 7, 8, 9] ?_)
  simp only [OpsW_nil, OpsW_n, StepW, pok, pval, VA.ev, Env.get, Env.put, Env.keep, thenQ, intV, binV, binOk, Heap.get, Heap.le, HL.le, Nat.succ_ne_self, Env.le, Nat.reduceEqDiff, ite_true, ite_false, true_and, and_true, reduceCtorEq]
  refine VW_seq ?_
  refine VW_cond rfl (fun h1 => ?_) (fun h1 => ?_)
  · refine VW_skip ?_
    try simp only [thenQ]
    simp only [decide_eq_true_eq] at h1
    have ka : k < l.length := by omega
    rw [List.drop_eq_getElem_cons ka, posS] at hpos
    refine VW_seq ?_
    refine VW_block ?_
    refine VW_seq (VW_region [0, 1, 5, 7, 8] ?_)
    simp only [OpsW_nil, OpsW_n, StepW, pok, pval, VA.ev, Env.get, Env.put, Env.keep, thenQ, Nat.succ_ne_self, Nat.reduceEqDiff, ite_true, ite_false, true_and, reduceCtorEq]
    refine VW_seq (VW_region [0, 1, 5, 7, 8, 16] ?_)
    simp only [OpsW_nil, OpsW_n, StepW, pok, pval, VA.ev, Env.get, Env.put, Env.keep, thenQ, aggV, isInt, numOf, lenV, locCells, locOk, iaddrV, iaddrOk, PV.nth, PV.row, Nat.le_refl, Nat.succ_ne_self, List.map, List.cons_append, List.nil_append, Nat.reduceEqDiff, Bool.true_eq_false, ite_true, ite_false, true_and, and_true, reduceCtorEq, imp_self, Int.toNat_natCast, List.length_map, rowm ka, gz_take, gz_len]
    repeat (with_reducible refine And.intro ?_ ?_; first | omega | (with_reducible constructor <;> omega) | exact False.elim | exact True.intro)
    refine ACall.mono (sp_corpus_PublishedBy_1 a t1 n l[k] (by omega)) ?_
    rintro p h' ⟨rfl, t2, ht2, rfl⟩
    skip
    refine VW_cond rfl (fun h2 => ?_) (fun h2 => ?_)
    · rw [h2, cond_true] at hpos
      refine VW_seq (VW_region [4] ?_)
      simp only [OpsW_nil, OpsW_n, StepW, pok, pval, VA.ev, Env.get, Env.put, Env.keep, thenQ, Nat.succ_ne_self, Nat.reduceEqDiff, ite_true, ite_false, true_and, reduceCtorEq]
      refine VW_ret ?_
      try simp only [Env.get, thenQ, blockQ, retQ, resV, resOk, RS.ev, RS.ok, ite_true, true_and, and_true]
      exact ⟨by rw [hpos], t2, by omega, rfl⟩
    rw [h2, cond_false] at hpos
    refine VW_skip ?_
    try simp only [thenQ, blockQ]
    refine VW_region [0, 1, 7, 8] ?_
    simp only [OpsW_nil, OpsW_n, StepW, pok, pval, VA.ev, Env.get, Env.put, Env.keep, thenQ, intV, binV, binOk, HL.get, Nat.succ_ne_self, Nat.reduceEqDiff, ite_true, ite_false, true_and, and_true, reduceCtorEq, ad1 (a := k) (by omega)]
    refine ⟨⟨(k + 1, t2), ⟨ka, hpos, by show t ≤ t2; omega⟩⟩, ?_⟩
    try simp only [Nat.le_refl, true_and, qi0, qi1]
    all_goals (repeat' (first | rfl | trivial | omega | (simp only []; omega) | refine And.intro ?_ ?_))
  · simp only [decide_eq_false_iff_not] at h1
    obtain rfl : k = l.length := by omega
    rw [List.drop_length, posS] at hpos
    refine VW_exit ?_
    try simp only [thenQ, blockQ, retQ, ite_true]
    refine VW_seq (VW_region [4] ?_)
    simp only [OpsW_nil, OpsW_n, StepW, pok, pval, VA.ev, Env.get, Env.put, Env.keep, thenQ, Nat.reduceEqDiff, ite_true, ite_false, true_and, reduceCtorEq]
    refine VW_ret ?_
    try simp only [Env.get, retQ, resV, resOk, RS.ev, RS.ok, ite_true, true_and, and_true]
    exact ⟨by rw [hpos], t1, ht, rfl⟩
theorem sp_corpus_PublishedBy (day : Int) (l : List Gz) (hl : l.length ≤ 4611686018427387000) : PCall Try.prog 21 [pI day, .sl 4 (l.map Gz.enc)] (pI (byS day l)) := by
  refine PCall_intro ?_ (cI _) (by simp only [ClosedL, List.mem_cons, List.not_mem_nil, or_false, forall_eq_or_imp, forall_eq, false_implies, implies_true]; repeat' (first | exact cI _ | exact cS _ | exact cB _ | exact closed_fn0 _ | exact closed_nilsl | exact closed_agg (Un.closed _) | exact closed_agg (It.closed _) | exact closed_agg (EI.closed _) | exact closed_agg (Ac.closed _) | exact closed_agg (Wd.closed _) | exact closed_agg (St.closed _) | exact closed_agg (Sta.closed _) | exact closed_eis _ | exact closed_acs _ | exact closed_gzs _ | exact Closed.of_scalar (scalar_int _ _) | exact closed_ro (Ac.closed _) | exact closed_ro (Gz.closed _) | exact closed_agg (Gz.closed _) | exact closed_strs _ | exact closed_map (fun w _ => Wd.closed w) | exact closed_map (fun w _ => St.closed w) | exact closed_map (fun w _ => Un.closed w) | exact closed_map (fun w _ => It.closed w) | exact closed_sc _ | exact closed_sps _ | exact closed_agg (Sp.closed _) | exact closed_ro (EI.closed _) | exact closed_ro (Sta.closed _) | exact closed_ro (It.closed _) | exact closed_ro (by simp only [List.mem_cons, List.not_mem_nil, or_false, forall_eq]; first | exact cI _ | exact cS _ | exact closed_eis _) | refine And.intro ?_ ?_))
  refine ACall_fn (vc := c_corpus_PublishedBy) (ts := [.t 4]) Go.Proofs.Try.func21 (by kernel_rfl) rfl rfl (Nat.le_of_ble_eq_true rfl) (by kernel_rfl) ?_
  unfold c_corpus_PublishedBy
  refine VW_seq (VW_region [1, 2] ?_)
  simp only [OpsW_nil, OpsW_n, StepW, pok, pval, VA.ev, Env.get, Env.put, Env.keep, argEnv, thenQ, PV.cells, PV.fits, Heap.push, Heap.nil, Nat.succ_ne_self, Nat.reduceEqDiff, ite_true, ite_false, true_and, reduceCtorEq, BEq.rfl, Nat.zero_add]
  refine VW_seq (VW_region [1, 5] ?_)
  simp only [OpsW_nil, OpsW_n, StepW, pok, pval, VA.ev, Env.get, Env.put, Env.keep, thenQ, Nat.succ_ne_self, List.map, Nat.reduceEqDiff, ite_true, ite_false, true_and]
  refine ACall.mono (sp_index_Gz 0 1 day l (by omega) hl) ?_
  rintro p h' ⟨rfl, t, ht, rfl⟩
  skip
  have hnn := byS_nonneg day l
  refine VW_seq ?_
  rcases pos_by day l 0 with ⟨h1, h2⟩ | h1
  · rw [h1, h2]
    refine VW_seq (VW_region [1, 5, 10] ?_)
    simp only [OpsW_nil, OpsW_n, StepW, pok, pval, VA.ev, Env.get, Env.put, Env.keep, thenQ, intV, binV, binOk, Nat.reduceEqDiff, ite_true, ite_false, true_and]
    refine VW_cond rfl (fun h3 => ?_) (fun h3 => by cases h3)
    refine VW_seq (VW_region [4] ?_)
    simp only [OpsW_nil, OpsW_n, StepW, pok, pval, VA.ev, Env.get, Env.put, Env.keep, thenQ, lenV, lenOk, Nat.succ_ne_self, Nat.reduceEqDiff, ite_true, ite_false, true_and, List.length_map]
    refine VW_ret ?_
    try simp only [Env.get, thenQ, retQ, resV, resOk, RS.ev, RS.ok, ite_true, true_and, and_true]
    exact View.refl _ _
  · rw [h1]
    generalize byS day l = r at hnn ⊢
    refine VW_seq (VW_region [1, 5, 10] ?_)
    simp only [OpsW_nil, OpsW_n, StepW, pok, pval, VA.ev, Env.get, Env.put, Env.keep, thenQ, intV, binV, binOk, Nat.reduceEqDiff, ite_true, ite_false, true_and]
    refine VW_cond rfl (fun h3 => ?_) (fun h3 => ?_)
    · exfalso; simp only [decide_eq_true_eq] at h3; omega
    refine VW_skip ?_
    try simp only [thenQ]
    refine VW_seq (VW_region [4] ?_)
    simp only [OpsW_nil, OpsW_n, StepW, pok, pval, VA.ev, Env.get, Env.put, Env.keep, thenQ, Nat.succ_ne_self, Nat.reduceEqDiff, ite_true, ite_false, true_and]
    refine VW_ret ?_
    try simp only [Env.get, retQ, resV, resOk, RS.ev, RS.ok, ite_true, true_and, and_true]
    rw [show ((0 : Nat) : Int) + r = r by omega]
    exact View.refl _ _
theorem sp_pandectref28_By (day : Int) (l : List Gz) (hl : l.length ≤ 4611686018427387000) : PCall Try.prog 22 [pI day, .sl 4 (l.map Gz.enc)] (pI (byS day l)) := by
  refine PCall_intro ?_ (cI _) (by simp only [ClosedL, List.mem_cons, List.not_mem_nil, or_false, forall_eq_or_imp, forall_eq, false_implies, implies_true]; repeat' (first | exact cI _ | exact cS _ | exact cB _ | exact closed_fn0 _ | exact closed_nilsl | exact closed_agg (Un.closed _) | exact closed_agg (It.closed _) | exact closed_agg (EI.closed _) | exact closed_agg (Ac.closed _) | exact closed_agg (Wd.closed _) | exact closed_agg (St.closed _) | exact closed_agg (Sta.closed _) | exact closed_eis _ | exact closed_acs _ | exact closed_gzs _ | exact Closed.of_scalar (scalar_int _ _) | exact closed_ro (Ac.closed _) | exact closed_ro (Gz.closed _) | exact closed_agg (Gz.closed _) | exact closed_strs _ | exact closed_map (fun w _ => Wd.closed w) | exact closed_map (fun w _ => St.closed w) | exact closed_map (fun w _ => Un.closed w) | exact closed_map (fun w _ => It.closed w) | exact closed_sc _ | exact closed_sps _ | exact closed_agg (Sp.closed _) | exact closed_ro (EI.closed _) | exact closed_ro (Sta.closed _) | exact closed_ro (It.closed _) | exact closed_ro (by simp only [List.mem_cons, List.not_mem_nil, or_false, forall_eq]; first | exact cI _ | exact cS _ | exact closed_eis _) | refine And.intro ?_ ?_))
  refine ACall_fn (vc := c_pandectref28_By) (ts := [.t 4]) Go.Proofs.Try.func22 (by kernel_rfl) rfl rfl (Nat.le_of_ble_eq_true rfl) (by kernel_rfl) ?_
  unfold c_pandectref28_By
  refine VW_seq (VW_region [0, 1] ?_)
  simp only [OpsW_nil, OpsW_n, StepW, pok, pval, VA.ev, Env.get, Env.put, Env.keep, argEnv, thenQ, Heap.nil, Nat.succ_ne_self, Nat.reduceEqDiff, ite_true, ite_false, true_and, reduceCtorEq, Nat.zero_add]
  refine VW_seq (VW_region [0, 1, 5] ?_)
  simp only [OpsW_nil, OpsW_n, StepW, pok, pval, VA.ev, Env.get, Env.put, Env.keep, thenQ, Nat.succ_ne_self, Nat.reduceEqDiff, ite_true, ite_false, true_and, reduceCtorEq]
  refine VW_seq ?_
  refine VW_block ?_
  refine VW_loop (σ := { k : Nat // k ≤ l.length ∧ byS day l = (k : Int) + byS day (l.drop k) }) (fun s => ([(0, pI day), (1, .sl 4 (l.map Gz.enc)), (5, pI s.1)], ⟨[], 0⟩)) (fun s => l.length - s.1) ⟨0, ⟨Nat.zero_le _, by simp⟩⟩ ?_ ?_ ?_
  · try simp only [Env.get, Nat.succ_ne_self, Env.le, Nat.reduceEqDiff, ite_true, ite_false, true_and, and_true, reduceCtorEq]
    all_goals (repeat' (first | rfl | trivial | omega | (simp only []; omega) | refine And.intro ?_ ?_))
  · try simp only [Heap.le, HL.le, Nat.le_refl, and_true]
    all_goals (repeat' (first | rfl | trivial | omega | (simp only []; omega) | refine And.intro ?_ ?_))
  rintro ⟨k, hk, hby⟩
  simp only [] at hk hby ⊢
  refine VW_seq ?_
  refine VW_seqE (σ := { b : Bool // (b = true → k < l.length ∧ byS day l = ((k + 1 : Nat) : Int) + byS day (l.drop (k + 1))) ∧ (b = false → byS day l = k) }) [0, 1, 5, 18] (fun s => [(0, pI day), (1, .sl 4 (l.map Gz.enc)), (5, pI k), (18, .bool s.1)]) ?_ (fun b => ?_)
  · by_cases ka : k < l.length
    · have e1 : decide ((k : Int) < (l.length : Int)) = true := decide_eq_true (by omega)
      rw [List.drop_eq_getElem_cons ka] at hby
      simp only [OpsW_nil, OpsW_n, OpsW_y, StepW, pok, pval, VA.ev, Env.get, Env.put, Env.keep, pickV, isBool, aggV, intV, binV, binOk, isInt, numOf, lenV, faddrV, isAddr, locCells, locOk, iaddrV, iaddrOk, lenOk, PV.nth, PV.row, Nat.succ_ne_self, Env.le, Nat.reduceEqDiff, Nat.reduceLeDiff, Bool.false_eq_true, ite_true, ite_false, true_and, and_true, implies_true, reduceCtorEq, Int.toNat_natCast, List.length_map, rowm ka, gz_len, gz_day, gz_l1, e1]
      repeat (with_reducible refine And.intro ?_ ?_; first | omega | (with_reducible constructor <;> omega) | exact False.elim | exact True.intro)
      refine ⟨⟨decide (l[k].day ≤ day), ⟨fun h => ⟨ka, ?_⟩, fun h => ?_⟩⟩, ?_⟩
      · simp only [decide_eq_true_eq] at h
        have : laterB day l[k] = false := decide_eq_false (by omega)
        simp only [byS, List.takeWhile_cons, this, Bool.not_false, if_true, List.length_cons] at hby ⊢
        omega
      · simp only [decide_eq_false_iff_not] at h
        have : laterB day l[k] = true := decide_eq_true (by omega)
        simp only [byS, List.takeWhile_cons, this, Bool.not_true, Bool.false_eq_true, if_false, List.length_nil] at hby ⊢
        omega
      · first | trivial | rfl
    · have e1 : decide ((k : Int) < (l.length : Int)) = false := decide_eq_false (by omega)
      obtain rfl : k = l.length := by omega
      rw [List.drop_length] at hby
      simp only [OpsW_nil, OpsW_n, OpsW_xt, StepW, pok, pval, VA.ev, Env.get, Env.put, Env.keep, pickV, isBool, intV, binV, binOk, lenV, lenOk, Nat.succ_ne_self, Env.le, Nat.reduceEqDiff, Bool.false_eq_true, ite_true, ite_false, true_and, and_true, reduceCtorEq, List.length_map, e1]
      refine ⟨⟨false, ⟨fun h => Bool.noConfusion h, fun _ => ?_⟩⟩, ?_⟩
      · simpa [byS] using hby
      · first | trivial | rfl
  obtain ⟨b, hb1, hb2⟩ := b
  refine VW_cond rfl (fun h1 => ?_) (fun h1 => ?_)
  · obtain ⟨ka, hby'⟩ := hb1 h1
    refine VW_skip ?_
    try simp only [thenQ, Heap.le, HL.le, Env.le, and_true]
    refine VW_block ?_
    refine VW_region [0, 1, 5] ?_
    simp only [OpsW_nil, OpsW_n, StepW, pok, pval, VA.ev, Env.get, Env.put, Env.keep, thenQ, blockQ, intV, binV, binOk, Nat.le_refl, Nat.succ_ne_self, Nat.reduceEqDiff, ite_true, ite_false, true_and, reduceCtorEq, w64 (n := (k : Int) + 1) (by omega) (by omega)]
    refine ⟨⟨k + 1, ⟨ka, hby'⟩⟩, ?_⟩
    try simp only []
    all_goals (repeat' (first | rfl | trivial | omega | (simp only []; omega) | refine And.intro ?_ ?_))
  · have hby' := hb2 h1
    refine VW_exit ?_
    try simp only [thenQ, blockQ, retQ, ite_true]
    refine VW_seq (VW_region [4] ?_)
    simp only [OpsW_nil, OpsW_n, StepW, pok, pval, VA.ev, Env.get, Env.put, Env.keep, thenQ, Nat.succ_ne_self, Nat.reduceEqDiff, ite_true, ite_false, true_and, reduceCtorEq]
    refine VW_ret ?_
    try simp only [Env.get, retQ, resV, resOk, RS.ev, RS.ok, ite_true, true_and, and_true]
    rw [hby']
    exact View.refl _ _
end Go.Proofs.Ytcjaojhbebpokaa.w

