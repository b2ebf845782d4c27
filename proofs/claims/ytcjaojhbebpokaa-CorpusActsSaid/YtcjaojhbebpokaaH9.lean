/-
  Walks: equality of enacted items, rows of them.
  Plain laws: nice lists of gazettes; what is found, and since when.
-/
import Derived.Test.YtcjaojhbebpokaaH2
import Derived.Test.YtcjaojhbebpokaaH8
set_option linter.all false
namespace Go.Proofs.Ytcjaojhbebpokaa.w
open Go Go.VM
set_option maxRecDepth 20000
set_option maxHeartbeats 0
set_option pp.deepTerms false
def c_pandectref28_Same : VC := (.seq (.region [⟨(some 2), (.box 28 (.t 0)), none⟩, ⟨(some 3), (.box 28 (.t 1)), none⟩, ⟨(some 4), (.mv (.c (.bool false))), none⟩] false) (.seq (.region [⟨(some 5), (.faddr 0 (.t 2)), none⟩, ⟨(some 6), (.load false 1 (.t 5)), none⟩, ⟨(some 7), (.faddr 0 (.t 3)), none⟩, ⟨(some 8), (.load false 1 (.t 7)), none⟩, ⟨(some 9), (.bin .eql (.t 6) (.t 8)), none⟩, ⟨(some 10), (.mv (.t 9)), none⟩, ⟨(some 11), (.faddr 1 (.t 2)), (some (10, true))⟩, ⟨(some 12), (.load false 1 (.t 11)), (some (10, true))⟩, ⟨(some 13), (.faddr 1 (.t 3)), (some (10, true))⟩, ⟨(some 14), (.load false 1 (.t 13)), (some (10, true))⟩, ⟨(some 15), (.bin .eql (.t 12) (.t 14)), (some (10, true))⟩, ⟨(some 16), (.pick (.t 10) (.t 15) (.c (.bool false))), none⟩, ⟨(some 17), (.mv (.t 16)), none⟩, ⟨(some 18), (.faddr 2 (.t 2)), (some (17, true))⟩, ⟨(some 19), (.load false 1 (.t 18)), (some (17, true))⟩, ⟨(some 20), (.faddr 2 (.t 3)), (some (17, true))⟩, ⟨(some 21), (.load false 1 (.t 20)), (some (17, true))⟩, ⟨(some 22), (.bin .eql (.t 19) (.t 21)), (some (17, true))⟩, ⟨(some 23), (.pick (.t 17) (.t 22) (.c (.bool false))), none⟩, ⟨(some 24), (.mv (.t 23)), none⟩, ⟨(some 25), (.faddr 3 (.t 2)), (some (24, true))⟩, ⟨(some 26), (.load true 25 (.t 25)), (some (24, true))⟩, ⟨(some 27), (.faddr 3 (.t 3)), (some (24, true))⟩, ⟨(some 28), (.load true 25 (.t 27)), (some (24, true))⟩, ⟨(some 29), (.call 28 [(.t 26), (.t 28)]), (some (24, true))⟩, ⟨(some 30), (.pick (.t 24) (.t 29) (.c (.bool false))), none⟩, ⟨(some 4), (.mv (.t 30)), none⟩] false) .ret))
def c_pandectref28_Rows : VC := (.seq (.region [⟨(some 4), (.mv (.c (.bool false))), none⟩] false) (.seq (.seq (.region [⟨(some 6), (.mv (.t 0)), none⟩, ⟨(some 7), (.len false (.t 6)), none⟩, ⟨(some 8), (.mv (.t 1)), none⟩, ⟨(some 9), (.len false (.t 8)), none⟩, ⟨(some 10), (.bin .neq (.t 7) (.t 9)), none⟩] false) (.cond (.t 10) (.seq (.region [⟨(some 4), (.mv (.c (.bool false))), none⟩] false) .ret) .skip)) (.seq (.seq (.region [⟨(some 5), (.mv (.c (.int .i64 0))), none⟩] false) (.block 0 (.loop (.seq (.seq (.region [⟨(some 11), (.mv (.t 5)), none⟩, ⟨(some 12), (.mv (.t 0)), none⟩, ⟨(some 13), (.len false (.t 12)), none⟩, ⟨(some 14), (.bin .lss (.t 11) (.t 13)), none⟩] false) (.cond (.t 14) .skip (.exit 0))) (.seq (.block 1 (.seq (.region [⟨(some 17), (.mv (.t 0)), none⟩, ⟨(some 18), (.mv (.t 5)), none⟩, ⟨(some 19), (.iaddr 28 (.t 17) (.t 18)), none⟩, ⟨(some 20), (.load true 28 (.t 19)), none⟩, ⟨(some 21), (.mv (.t 1)), none⟩, ⟨(some 22), (.mv (.t 5)), none⟩, ⟨(some 23), (.iaddr 28 (.t 21) (.t 22)), none⟩, ⟨(some 24), (.load true 28 (.t 23)), none⟩, ⟨(some 25), (.call 18 [(.t 20), (.t 24)]), none⟩, ⟨(some 26), (.un .not (.t 25)), none⟩] true) (.cond (.t 26) (.seq (.region [⟨(some 4), (.mv (.c (.bool false))), none⟩] false) .ret) .skip))) (.region [⟨(some 15), (.mv (.t 5)), none⟩, ⟨(some 16), (.bin .add (.t 15) (.c (.int .i64 1))), none⟩, ⟨(some 5), (.mv (.t 16)), none⟩] false)))))) (.seq (.region [⟨(some 4), (.mv (.c (.bool true))), none⟩] false) .ret))))
theorem ei_ext {a b : EI} (h1 : a.act = b.act) (h2 : a.item = b.item) (h3 : a.day = b.day) (h4 : a.it = b.it) : a = b := by cases a; cases b; simp_all
theorem sp_pandectref28_Same (a b : EI) (ha : a.ok) (hb : b.ok) : PCall Try.prog 18 [.agg a.enc, .agg b.enc] (.bool (eqB a b)) := by
  refine PCall_intro ?_ (cB _) (by simp only [ClosedL, List.mem_cons, List.not_mem_nil, or_false, forall_eq_or_imp, forall_eq, false_implies, implies_true]; repeat' (first | exact cI _ | exact cS _ | exact cB _ | exact closed_fn0 _ | exact closed_nilsl | exact closed_agg (Un.closed _) | exact closed_agg (It.closed _) | exact closed_agg (EI.closed _) | exact closed_agg (Ac.closed _) | exact closed_agg (Wd.closed _) | exact closed_agg (St.closed _) | exact closed_agg (Sta.closed _) | exact closed_eis _ | exact closed_acs _ | exact closed_gzs _ | exact Closed.of_scalar (scalar_int _ _) | exact closed_ro (Ac.closed _) | exact closed_ro (Gz.closed _) | exact closed_agg (Gz.closed _) | exact closed_strs _ | exact closed_map (fun w _ => Wd.closed w) | exact closed_map (fun w _ => St.closed w) | exact closed_map (fun w _ => Un.closed w) | exact closed_map (fun w _ => It.closed w) | exact closed_sc _ | exact closed_sps _ | exact closed_agg (Sp.closed _) | exact closed_ro (EI.closed _) | exact closed_ro (Sta.closed _) | exact closed_ro (It.closed _) | exact closed_ro (by simp only [List.mem_cons, List.not_mem_nil, or_false, forall_eq]; first | exact cI _ | exact cS _ | exact closed_eis _) | refine And.intro ?_ ?_))
  refine ACall_fn (vc := c_pandectref28_Same) (ts := [.t 4]) Go.Proofs.Try.func18 (by kernel_rfl) rfl rfl (Nat.le_of_ble_eq_true rfl) (by kernel_rfl) ?_
  unfold c_pandectref28_Same
  refine VW_seq (VW_region [2, 3] ?_)
  simp only [OpsW_nil, OpsW_n, StepW, pok, pval, VA.ev, Env.get, Env.put, Env.keep, argEnv, thenQ, PV.cells, PV.fits, Heap.push, Heap.nil, Nat.succ_ne_self, Nat.reduceEqDiff, Nat.reduceAdd, ite_true, ite_false, true_and, reduceCtorEq, BEq.rfl, Nat.zero_add, ei_l28]
  refine VW_seq (VW_region [4] ?_)
  cases e1 : (a.act == b.act) with
  | false =>
    simp only [OpsW_nil, OpsW_n, OpsW_xt, StepW, pok, pval, VA.ev, Env.get, Env.put, Env.keep, thenQ, pickV, isBool, aggV, intV, binV, binOk, faddrV, isAddr, locCells, locOk, PV.nth, PV.row, Heap.get, HL.get, Nat.succ_ne_self, List.length, List.getD_cons_zero, List.drop, Nat.reduceEqDiff, Nat.reduceLT, Nat.reduceLeDiff, Bool.false_eq_true, ite_true, ite_false, true_and, and_true, implies_true, reduceCtorEq, Nat.zero_add, Nat.add_zero, ei_l28, ei_act, e1]
    refine VW_ret ?_
    try simp only [Env.get, retQ, resV, resOk, RS.ev, RS.ok, ite_true, true_and, and_true]
    rw [eqB_f (fun e => by subst e; simp at e1)]
    exact View.refl _ _
  | true =>
    cases e2 : (a.item == b.item) with
    | false =>
      simp only [OpsW_nil, OpsW_n, OpsW_y, OpsW_xt, StepW, pok, pval, VA.ev, Env.get, Env.put, Env.keep, thenQ, pickV, isBool, aggV, intV, binV, binOk, faddrV, isAddr, locCells, locOk, PV.nth, PV.row, Heap.get, HL.get, Nat.succ_ne_self, List.length, List.getD_cons_zero, List.drop, Nat.reduceEqDiff, Nat.reduceLT, Nat.reduceLeDiff, Bool.false_eq_true, ite_true, ite_false, true_and, and_true, implies_true, reduceCtorEq, Nat.zero_add, Nat.add_zero, ei_l28, ei_act, ei_item, ei_l1, e1, e2]
      refine VW_ret ?_
      try simp only [Env.get, retQ, resV, resOk, RS.ev, RS.ok, ite_true, true_and, and_true]
      rw [eqB_f (fun e => by subst e; simp at e2)]
      exact View.refl _ _
    | true =>
      cases e3 : (a.day == b.day) with
      | false =>
        simp only [OpsW_nil, OpsW_n, OpsW_y, OpsW_xt, StepW, pok, pval, VA.ev, Env.get, Env.put, Env.keep, thenQ, pickV, isBool, aggV, intV, binV, binOk, faddrV, isAddr, locCells, locOk, PV.nth, PV.row, Heap.get, HL.get, Nat.succ_ne_self, List.length, List.getD_cons_zero, List.drop, Nat.reduceEqDiff, Nat.reduceLT, Nat.reduceLeDiff, Bool.false_eq_true, ite_true, ite_false, true_and, and_true, implies_true, reduceCtorEq, Nat.zero_add, Nat.add_zero, ei_l28, ei_act, ei_item, ei_l1, ei_day, ei_l2, e1, e2, e3]
        refine VW_ret ?_
        try simp only [Env.get, retQ, resV, resOk, RS.ev, RS.ok, ite_true, true_and, and_true]
        rw [eqB_f (fun e => by subst e; simp at e3)]
        exact View.refl _ _
      | true =>
        simp only [OpsW_nil, OpsW_n, OpsW_y, StepW, pok, pval, VA.ev, Env.get, Env.put, Env.keep, thenQ, pickV, isBool, aggV, intV, binV, binOk, faddrV, isAddr, locCells, locOk, PV.nth, PV.row, Heap.get, HL.get, Nat.le_refl, Nat.succ_ne_self, List.map, List.length, List.getD_cons_zero, List.drop, Nat.reduceEqDiff, Nat.reduceLT, Nat.reduceLeDiff, Bool.false_eq_true, Bool.true_eq_false, ite_true, ite_false, true_and, and_true, implies_true, reduceCtorEq, Nat.zero_add, Nat.add_zero, imp_self, ei_l28, ei_act, ei_item, ei_l1, ei_day, ei_l2, e1, e2, e3, ei_it, it_take25, it_len25]
        refine ACall_p (sp28 a.it b.it ha.2.2.2 hb.2.2.2) ?_
        have hh : eqB a.it b.it = eqB a b := by
          simp only [beq_iff_eq] at e1 e2 e3
          by_cases h : a.it = b.it
          · rw [eqB_t h, eqB_t (ei_ext e1 e2 e3 h)]
          · rw [eqB_f h, eqB_f (fun e => h (by rw [e]))]
        skip
        refine VW_ret ?_
        try simp only [Env.get, retQ, resV, resOk, RS.ev, RS.ok, ite_true, true_and, and_true]
        rw [hh]
        exact View.refl _ _
/-- A list against itself. -/
theorem sp_pandectref28_Rows (l : List EI) (hl : l.length ≤ 1000000) (hok : ∀ d ∈ l, d.ok) : PCall Try.prog 13 [.sl 28 (l.map EI.enc), .sl 28 (l.map EI.enc)] (.bool true) := by
  refine PCall_intro ?_ (cB _) (by simp only [ClosedL, List.mem_cons, List.not_mem_nil, or_false, forall_eq_or_imp, forall_eq, false_implies, implies_true]; repeat' (first | exact cI _ | exact cS _ | exact cB _ | exact closed_fn0 _ | exact closed_nilsl | exact closed_agg (Un.closed _) | exact closed_agg (It.closed _) | exact closed_agg (EI.closed _) | exact closed_agg (Ac.closed _) | exact closed_agg (Wd.closed _) | exact closed_agg (St.closed _) | exact closed_agg (Sta.closed _) | exact closed_eis _ | exact closed_acs _ | exact closed_gzs _ | exact Closed.of_scalar (scalar_int _ _) | exact closed_ro (Ac.closed _) | exact closed_ro (Gz.closed _) | exact closed_agg (Gz.closed _) | exact closed_strs _ | exact closed_map (fun w _ => Wd.closed w) | exact closed_map (fun w _ => St.closed w) | exact closed_map (fun w _ => Un.closed w) | exact closed_map (fun w _ => It.closed w) | exact closed_sc _ | exact closed_sps _ | exact closed_agg (Sp.closed _) | exact closed_ro (EI.closed _) | exact closed_ro (Sta.closed _) | exact closed_ro (It.closed _) | exact closed_ro (by simp only [List.mem_cons, List.not_mem_nil, or_false, forall_eq]; first | exact cI _ | exact cS _ | exact closed_eis _) | refine And.intro ?_ ?_))
  refine ACall_fn (vc := c_pandectref28_Rows) (ts := [.t 4]) Go.Proofs.Try.func13 (by kernel_rfl) rfl rfl (Nat.le_of_ble_eq_true rfl) (by kernel_rfl) ?_
  unfold c_pandectref28_Rows
  refine VW_seq (VW_region [0, 1] ?_)
  simp only [OpsW_nil, OpsW_n, StepW, pok, pval, VA.ev, Env.get, Env.put, Env.keep, argEnv, thenQ, Heap.nil, Nat.succ_ne_self, Nat.reduceEqDiff, ite_true, ite_false, true_and, reduceCtorEq, Nat.zero_add]
  refine VW_seq ?_
  refine VW_seq (VW_region [0, 1, 10] ?_)
  simp only [OpsW_nil, OpsW_n, StepW, pok, pval, VA.ev, Env.get, Env.put, Env.keep, thenQ, intV, binV, binOk, lenV, lenOk, Nat.succ_ne_self, Nat.reduceEqDiff, ite_true, ite_false, true_and, reduceCtorEq, List.length_map]
  refine VW_cond rfl (fun h1 => ?_) (fun h1 => ?_)
  · simp at h1
  refine VW_skip ?_
  try simp only [thenQ]
  refine VW_seq ?_
  refine VW_seq (VW_region [0, 1, 5] ?_)
  simp only [OpsW_nil, OpsW_n, StepW, pok, pval, VA.ev, Env.get, Env.put, Env.keep, thenQ, Nat.succ_ne_self, Nat.reduceEqDiff, ite_true, ite_false, true_and, reduceCtorEq]
  refine VW_block ?_
  refine VW_loop (σ := { i : Nat // i ≤ l.length }) (fun s => ([(0, .sl 28 (l.map EI.enc)), (1, .sl 28 (l.map EI.enc)), (5, pI s.1)], ⟨[], 0⟩)) (fun s => l.length - s.1) ⟨0, Nat.zero_le _⟩ ?_ ?_ ?_
  · try simp only [Env.get, Nat.succ_ne_self, Env.le, Nat.reduceEqDiff, ite_true, ite_false, true_and, and_true, reduceCtorEq]
    all_goals (repeat' (first | rfl | trivial | omega | (simp only []; omega) | refine And.intro ?_ ?_))
  · try simp only [Heap.le, HL.le, Nat.le_refl, and_true]
    all_goals (repeat' (first | rfl | trivial | omega | (simp only []; omega) | refine And.intro ?_ ?_))
  rintro ⟨i, hi⟩
  simp only []
  refine VW_seq ?_
  refine VW_seq (VW_region [0, 1, 5, 14] ?_)
  simp only [OpsW_nil, OpsW_n, StepW, pok, pval, VA.ev, Env.get, Env.put, Env.keep, thenQ, intV, binV, binOk, lenV, lenOk, Heap.le, HL.le, Nat.succ_ne_self, Env.le, Nat.reduceEqDiff, ite_true, ite_false, true_and, and_true, reduceCtorEq, List.length_map]
  refine VW_cond rfl (fun h2 => ?_) (fun h2 => ?_)
  · refine VW_skip ?_
    try simp only [thenQ]
    simp only [decide_eq_true_eq] at h2
    have ia : i < l.length := by omega
    have hk := hok _ (List.getElem_mem ia)
    refine VW_seq ?_
    refine VW_block ?_
    refine VW_seq (VW_drawS [0, 1, 5, 26] (by simp [Heap.le, Heap.get, HL.le, HL.get]) ?_)
    simp only [DrawW_nil, DrawW_n, QW, dok, dval, VOp.pure, VOp.simple, VOp.det, pok, pval, VA.ev, Env.get, Env.put, Env.keep, thenQ, gd, aggV, unV, unOk, isInt, numOf, lenV, locCells, locOk, iaddrV, iaddrOk, PV.nth, PV.row, Nat.le_refl, Nat.succ_ne_self, Nat.reduceEqDiff, Bool.true_eq_false, ite_true, ite_false, true_and, and_true, implies_true, forall_const, reduceCtorEq, imp_self, Int.toNat_natCast, List.length_map, rowm ia, ei_t28, ei_l28]
    repeat (with_reducible refine And.intro ?_ ?_; first | omega | (with_reducible constructor <;> omega) | exact False.elim | exact True.intro)
    refine ⟨_, .inl (sp_pandectref28_Same l[i] l[i] hk hk), ?_⟩
    rw [eqB_t rfl]
    simp only [true_and, Bool.not_true]
    refine VW_cond rfl (fun h3 => by cases h3) (fun h3 => ?_)
    refine VW_skip ?_
    try simp only [thenQ, blockQ]
    refine VW_region [0, 1, 5] ?_
    simp only [OpsW_nil, OpsW_n, StepW, pok, pval, VA.ev, Env.get, Env.put, Env.keep, thenQ, intV, binV, binOk, Nat.le_refl, Nat.succ_ne_self, Nat.reduceEqDiff, ite_true, ite_false, true_and, reduceCtorEq, ad1 (a := i) (by omega)]
    refine ⟨⟨i + 1, ia⟩, ?_⟩
    try simp only [true_and]
    all_goals (repeat' (first | rfl | trivial | omega | (simp only []; omega) | refine And.intro ?_ ?_))
  · refine VW_exit ?_
    try simp only [thenQ, blockQ, retQ, ite_true]
    refine VW_seq (VW_region [4] ?_)
    simp only [OpsW_nil, OpsW_n, StepW, pok, pval, VA.ev, Env.get, Env.put, Env.keep, thenQ, Nat.succ_ne_self, Nat.reduceEqDiff, ite_true, ite_false, true_and, reduceCtorEq]
    refine VW_ret ?_
    try simp only [Env.get, retQ, resV, resOk, RS.ev, RS.ok, ite_true, true_and, and_true]
    exact View.refl _ _
end Go.Proofs.Ytcjaojhbebpokaa.w


namespace Go.Proofs.Ytcjaojhbebpokaa.w
open Go Go.VM
set_option maxRecDepth 20000
set_option maxHeartbeats 0
/-! ### sizes, members -/
theorem fst_sub : ∀ (r : List Ac) (s : List Int), (fstA s r).Sublist r
  | [], _ => List.Sublist.slnil
  | x :: r, s => by
    unfold fstA
    split
    · exact (fst_sub r s).cons x
    · exact (fst_sub r _).cons_cons x
theorem actsS_perm (row : List Ac) : (actsS row).Perm (fstA [] row) := by
  have := (fold_insA (fstA [] row) [] List.Pairwise.nil).2
  simpa [actsS] using this
theorem actsS_sorted (row : List Ac) : (actsS row).Pairwise leA := (fold_insA (fstA [] row) [] List.Pairwise.nil).1
theorem mem_actsS {row : List Ac} {a : Ac} (h : a ∈ actsS row) : a ∈ row := (fst_sub row []).subset ((actsS_perm row).mem_iff.1 h)
theorem itemsS_perm {a b : List Ac} (h : a.Perm b) : (itemsS a).length = (itemsS b).length := (h.flatMap_right _).length_eq
theorem itemsS_sub {a b : List Ac} (h : a.Sublist b) : (itemsS a).length ≤ (itemsS b).length := by
  induction h with
  | slnil => exact Nat.le_refl _
  | cons x _ ih => simp only [itemsS, List.flatMap_cons, List.length_append] at ih ⊢; omega
  | cons_cons x _ ih => simp only [itemsS, List.flatMap_cons, List.length_append] at ih ⊢; omega
theorem acts_items (row : List Ac) : (itemsS (actsS row)).length ≤ (itemsS row).length := by
  rw [itemsS_perm (actsS_perm row)]; exact itemsS_sub (fst_sub row [])
/-- A list of gazettes that the walks take. -/
structure Nice (l : List Gz) : Prop where
  ok : ∀ g ∈ l, g.okZ
  len : l.length ≤ 1000
  row : (rowG l).length ≤ 1000000
  items : (itemsS (rowG l)).length ≤ 1000
theorem rowG_app (a b : List Gz) : rowG (a ++ b) = rowG a ++ rowG b := by simp [rowG]
theorem Nice.take {l : List Gz} (h : Nice l) (k : Nat) : Nice (l.take k) := by
  refine ⟨fun g hg => h.ok g (List.mem_of_mem_take hg), by have := h.len; simp; omega, by have := rowG_le l k; have := h.row; omega, ?_⟩
  have e : rowG l = rowG (l.take k) ++ rowG (l.drop k) := by rw [← rowG_app, List.take_append_drop]
  have := h.items
  rw [e, itemsS_app, List.length_append] at this
  omega
theorem Nice.left {a b : List Gz} (h : Nice (a ++ b)) : Nice a := by
  have := h.take a.length
  rwa [List.take_left] at this
theorem Nice.smal {l : List Gz} (h : Nice l) : Smal l := ⟨by have := h.len; omega, h.row, by have := acts_items (rowG l); have := h.items; omega⟩
theorem row_le8 : ∀ (l : List Gz), (∀ g ∈ l, g.acts.length ≤ 8) → (rowG l).length ≤ 8 * l.length
  | [], _ => by simp [rowG]
  | g :: r, h => by
    have ih := row_le8 r (fun x hx => h x (List.mem_cons_of_mem _ hx))
    have := h g List.mem_cons_self
    simp only [rowG, List.flatMap_cons, List.length_append, List.length_cons] at ih ⊢
    omega
theorem nice_of_few {m : Nat} {l : List Gz} (hm : m ≤ 1000) (hok : okL Gz.okZ l) (h : FewG m l) : Nice l :=
  ⟨hok.2, by have := h.1; omega, by have := row_le8 l h.2.1; have := h.1; omega, by have := h.2.2; omega⟩
/-! ### validity -/
theorem by_ok {x : It} (h : x.ok) : ∀ k ∈ x.by', k.ok := (it_ok h).by'
theorem fixOf_ok {x : It} (h : x.ok) {p : (Int × Int) × It} (hp : fixOf x = some p) : p.2.ok := by
  unfold fixOf at hp
  split at hp
  · split at hp
    · cases hp
    · rename_i b r hb
      split at hp
      · cases hp; exact by_ok h b (by rw [hb]; exact List.mem_cons_self)
      · cases hp
  · cases hp
theorem fixAt_ok (k : Int × Int) : ∀ (xs : List It) (o : Option It), (∀ x ∈ xs, x.ok) → (∀ y, o = some y → y.ok) → ∀ y, xs.foldl (fixAt k) o = some y → y.ok
  | [], o, _, ho, y, hy => ho y hy
  | x :: r, o, hx, ho, y, hy => by
    refine fixAt_ok k r (fixAt k o x) (fun z hz => hx z (List.mem_cons_of_mem _ hz)) (fun z hz => ?_) y hy
    unfold fixAt at hz
    cases hf : fixOf x with
    | none => rw [hf] at hz; exact ho z hz
    | some p =>
      rw [hf] at hz
      simp only at hz
      split at hz
      · cases hz; exact fixOf_ok (hx x List.mem_cons_self) hf
      · exact ho z hz
theorem corrS_ok {xs : List It} (hx : ∀ x ∈ xs, x.ok) (k : Int × Int) {it : It} (h : it.ok) : (corrS xs k it).ok := by
  unfold corrS
  split
  · cases hf : xs.foldl (fixAt k) none with
    | none => exact h
    | some y => exact fixAt_ok k xs none hx (fun y hy => by cases hy) y hf
  · exact h
theorem deed_mem {n d : Int} : ∀ {l : List It} {k : Nat} {e : EI}, e ∈ deedsFrom n d k l → ∃ j, ∃ h : j < l.length, e = ⟨n, ((k + j : Nat) : Int), d, l[j]⟩
  | x :: r, k, e, h => by
    rcases List.mem_cons.1 h with rfl | h'
    · exact ⟨0, by simp, by simp⟩
    · obtain ⟨j, hj, rfl⟩ := deed_mem h'
      refine ⟨j + 1, by simpa using hj, ?_⟩
      simp; omega
theorem mem_deedsF {xs : List It} {acts : List Ac} {e : EI} : e ∈ deedsF xs acts ↔ ∃ a ∈ acts, ∃ j, ∃ h : j < a.items.length, e = ⟨a.number, (j : Nat), a.day, corrS xs (a.number, (j : Nat)) a.items[j]⟩ := by
  simp only [deedsF, List.mem_flatMap, List.mem_map]
  constructor
  · rintro ⟨a, ha, d, hd, rfl⟩
    obtain ⟨j, hj, rfl⟩ := deed_mem (by simpa [deeds] using hd)
    exact ⟨a, ha, j, hj, by simp [fixE]⟩
  · rintro ⟨a, ha, j, hj, rfl⟩
    refine ⟨a, ha, ⟨a.number, (j : Nat), a.day, a.items[j]⟩, ?_, rfl⟩
    have := deed_get a j hj
    rw [← this]; exact List.getElem_mem _
theorem deeds_ok {acts : List Ac} (hok : ∀ a ∈ acts, a.okZ) (hn : (itemsS acts).length ≤ 1000000) : ∀ d ∈ deedsS acts, d.ok := by
  intro d hd
  obtain ⟨a, ha, j, hj, rfl⟩ := mem_deedsF.1 hd
  have h1 := (hok a ha).1
  have h2 := items_each acts a ha
  refine ⟨h1.1, by show i64 (j : Nat); rw [i64_iff]; omega, h1.2.2.1, corrS_ok (fun x hx => ?_) _ (h1.2.2.2.2.2 _ (List.getElem_mem hj))⟩
  simp only [itemsS, List.mem_flatMap] at hx
  obtain ⟨b, hb, hxb⟩ := hx
  exact (hok b hb).1.2.2.2.2.2 x hxb
theorem Nice.acts_ok {l : List Gz} (h : Nice l) : ∀ a ∈ actsS (rowG l), a.okZ := by
  intro a ha
  have := mem_actsS ha
  simp only [rowG, List.mem_flatMap] at this
  obtain ⟨g, hg, hag⟩ := this
  exact (h.ok g hg).2.2.2.2 a hag
theorem Nice.deeds_ok {l : List Gz} (h : Nice l) : ∀ d ∈ deedsS (actsS (rowG l)), d.ok := w.deeds_ok h.acts_ok h.smal.items
/-! ### what is found -/
/-- The enacted item of this act and number, by these gazettes. -/
def fnd (n i : Int) (l : List Gz) : Option EI := (deedsS (actsS (rowG l))).find? (atB n i)
theorem Nice.fnd_ok {l : List Gz} (h : Nice l) {n i : Int} {d : EI} (hd : fnd n i l = some d) : d.ok := h.deeds_ok d (List.mem_of_find?_eq_some hd)
/-- The first k of so many from k0 on, with p; or 0. -/
def upS (p : Nat → Bool) : Nat → Nat → Int
  | 0, _ => 0
  | f + 1, k => bif p k then (k : Int) else upS p f (k + 1)
theorem upS_spec (p : Nat → Bool) : ∀ (f k : Nat), (upS p f k = 0 ∧ ∀ j, k ≤ j → j < k + f → p j = false) ∨ ∃ j, k ≤ j ∧ j < k + f ∧ upS p f k = (j : Int) ∧ p j = true ∧ ∀ i, k ≤ i → i < j → p i = false
  | 0, k => .inl ⟨rfl, fun j h1 h2 => by omega⟩
  | f + 1, k => by
    simp only [upS]
    cases hp : p k with
    | true => exact .inr ⟨k, Nat.le_refl _, by omega, rfl, hp, fun i h1 h2 => by omega⟩
    | false =>
      rcases upS_spec p f (k + 1) with ⟨h1, h2⟩ | ⟨j, h1, h2, h3, h4, h5⟩
      · refine .inl ⟨h1, fun j h3 h4 => ?_⟩
        by_cases e : j = k
        · subst e; exact hp
        · exact h2 j (by omega) (by omega)
      · refine .inr ⟨j, by omega, by omega, h3, h4, fun i h6 h7 => ?_⟩
        by_cases e : i = k
        · subst e; exact hp
        · exact h5 i (by omega) h7
noncomputable def sinceB (n i : Int) (l : List Gz) (d : EI) (k : Nat) : Bool := eqB (fnd n i (l.take k)) (some d)
noncomputable def sinceS (n i : Int) (l : List Gz) : Int := match fnd n i l with
  | none => 0
  | some d => upS (sinceB n i l d) l.length 1
theorem eqB_some {o : Option EI} {d : EI} : eqB o (some d) = (o.isSome && eqB (o.getD EI0) d) := by
  cases o with
  | none => rw [eqB_f (fun h => by cases h)]; rfl
  | some x =>
    simp only [Option.isSome_some, Option.getD_some, Bool.true_and]
    by_cases h : x = d
    · rw [eqB_t (by rw [h]), eqB_t h]
    · rw [eqB_f (fun e => h (Option.some.inj e)), eqB_f h]
theorem find_nice {l : List Gz} (h : Nice l) (n i : Int) : PCall Try.prog 16 [pI n, pI i, .sl 4 (l.map Gz.enc)] (resF (fnd n i l)) := sp_corpus_Find n i l h.smal
theorem mt_gz (l : List Gz) (k : Nat) : (l.map Gz.enc).take k = (l.take k).map Gz.enc := (List.map_take).symm
end Go.Proofs.Ytcjaojhbebpokaa.w

