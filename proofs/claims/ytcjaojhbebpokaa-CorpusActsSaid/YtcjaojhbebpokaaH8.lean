/-
  Walks: finding an enacted item, of the program and of the reference.
-/
import Derived.Test.YtcjaojhbebpokaaH7
set_option linter.all false
namespace Go.Proofs.Ytcjaojhbebpokaa.w
open Go Go.VM
set_option maxRecDepth 20000
set_option maxHeartbeats 0
set_option pp.deepTerms false
def c_corpus_Find_1 : VC := (.seq (.region [⟨(some 3), (.box 28 (.t 0)), none⟩, ⟨(some 4), (.mv (.c (.bool false))), none⟩] false) (.seq (.region [⟨(some 5), (.faddr 0 (.t 3)), none⟩, ⟨(some 6), (.load false 1 (.t 5)), none⟩, ⟨(some 7), (.load false 1 (.t 1)), none⟩, ⟨(some 8), (.bin .eql (.t 6) (.t 7)), none⟩, ⟨(some 9), (.mv (.t 8)), none⟩, ⟨(some 10), (.faddr 1 (.t 3)), (some (9, true))⟩, ⟨(some 11), (.load false 1 (.t 10)), (some (9, true))⟩, ⟨(some 12), (.load false 1 (.t 2)), (some (9, true))⟩, ⟨(some 13), (.bin .eql (.t 11) (.t 12)), (some (9, true))⟩, ⟨(some 14), (.pick (.t 9) (.t 13) (.c (.bool false))), none⟩, ⟨(some 4), (.mv (.t 14)), none⟩] false) .ret))
def c_slices_IndexFunc_EnactedItem : VC := (.seq (.region [⟨(some 4), (.mv (.c (.int .i64 0))), none⟩] false) (.seq (.seq (.region [⟨(some 6), (.mv (.t 0)), none⟩, ⟨(some 7), (.len false (.t 6)), none⟩, ⟨(some 8), (.mv (.c (.int .i64 0))), none⟩] false) (.block 0 (.loop (.seq (.region [⟨(some 9), (.bin .lss (.t 8) (.t 7)), none⟩] false) (.seq (.cond (.t 9) .skip (.exit 0)) (.seq (.block 1 (.seq (.region [⟨(some 10), (.mv (.t 8)), none⟩, ⟨(some 5), (.mv (.t 10)), none⟩] false) (.seq (.region [⟨(some 11), (.mv (.t 1)), none⟩, ⟨(some 12), (.mv (.t 0)), none⟩, ⟨(some 13), (.mv (.t 5)), none⟩, ⟨(some 14), (.iaddr 28 (.t 12) (.t 13)), none⟩, ⟨(some 15), (.load true 28 (.t 14)), none⟩, ⟨(some 16), (.callv (.t 11) [(.t 15)]), none⟩] false) (.cond (.t 16) (.seq (.region [⟨(some 17), (.mv (.t 5)), none⟩, ⟨(some 4), (.mv (.t 17)), none⟩] false) .ret) .skip)))) (.region [⟨(some 18), (.bin .add (.t 8) (.c (.int .i64 1))), none⟩, ⟨(some 8), (.mv (.t 18)), none⟩] false))))))) (.seq (.region [⟨(some 4), (.mv (.c (.int .i64 (-1)))), none⟩] false) .ret)))
def c_corpus_Find : VC := (.seq (.region [⟨(some 3), (.box 1 (.t 0)), none⟩, ⟨(some 4), (.box 1 (.t 1)), none⟩, ⟨(some 6), (.alloc [(.int .i64 0), (.int .i64 0), (.int .i64 0), (.int .i64 0), .nilsl, .nilsl, (.int .i64 0), (.int .i64 0), (.int .i64 0), (.int .i64 0), (.int .i64 0), (.int .i64 0), (.str []), .nilsl, .nilsl, .nilsl, .nilsl, .nilsl, (.str []), (.str []), (.int .i64 0), (.int .i64 0), (.str []), (.int .i64 0), (.int .i64 0), (.int .i64 0), (.str []), .nilsl]), none⟩, ⟨(some 7), (.mv (.c (.bool false))), none⟩] false) (.seq (.region [⟨(some 10), (.mv (.t 2)), none⟩, ⟨(some 11), (.call 14 [(.t 10)]), none⟩, ⟨(some 8), (.mv (.t 11)), none⟩] false) (.seq (.region [⟨(some 12), (.mv (.t 8)), none⟩, ⟨(some 13), (.mkfn (.func 37) [] [(.t 3), (.t 4)]), none⟩, ⟨(some 14), (.call 36 [(.t 12), (.t 13)]), none⟩, ⟨(some 9), (.mv (.t 14)), none⟩] false) (.seq (.seq (.region [⟨(some 15), (.mv (.t 9)), none⟩, ⟨(some 16), (.bin .lss (.t 15) (.c (.int .i64 0))), none⟩] false) (.cond (.t 16) (.seq (.region [⟨(some 17), (.build [(.int .i64 0), (.int .i64 0), (.int .i64 0), (.int .i64 0), .nilsl, .nilsl, (.int .i64 0), (.int .i64 0), (.int .i64 0), (.int .i64 0), (.int .i64 0), (.int .i64 0), (.str []), .nilsl, .nilsl, .nilsl, .nilsl, .nilsl, (.str []), (.str []), (.int .i64 0), (.int .i64 0), (.str []), (.int .i64 0), (.int .i64 0), (.int .i64 0), (.str []), .nilsl] []), none⟩, ⟨none, (.store 28 (.t 6) (.t 17)), none⟩, ⟨(some 7), (.mv (.c (.bool false))), none⟩] false) .ret) .skip)) (.seq (.region [⟨(some 18), (.mv (.t 8)), none⟩, ⟨(some 19), (.mv (.t 9)), none⟩, ⟨(some 20), (.iaddr 28 (.t 18) (.t 19)), none⟩, ⟨(some 21), (.load true 28 (.t 20)), none⟩, ⟨none, (.store 28 (.t 6) (.t 21)), none⟩, ⟨(some 7), (.mv (.c (.bool true))), none⟩] false) .ret)))))
theorem i1_len (n : Int) : ([pI n] : List PV).length = 1 := rfl
def atB (n i : Int) (d : EI) : Bool := d.act == n && d.item == i
def posS {α : Type} (p : α → Bool) : List α → Nat → Int
  | [], _ => -1
  | x :: r, k => bif p x then (k : Int) else posS p r (k + 1)
theorem pos_find {α : Type} (p : α → Bool) : ∀ (l : List α) (k : Nat), (posS p l k = -1 ∧ l.find? p = none) ∨ ∃ i, ∃ h : i < l.length, posS p l k = ((k + i : Nat) : Int) ∧ l.find? p = some l[i]
  | [], k => .inl ⟨rfl, rfl⟩
  | x :: r, k => by
    simp only [posS, List.find?_cons]
    cases hp : p x with
    | true => exact .inr ⟨0, by simp, by simp, by simp⟩
    | false =>
      rcases pos_find p r (k + 1) with ⟨h1, h2⟩ | ⟨i, hi, h1, h2⟩
      · exact .inl ⟨by simpa using h1, by simpa using h2⟩
      · refine .inr ⟨i + 1, by simpa using hi, ?_, by simpa using h2⟩
        simp only [cond_false, h1]
        omega
theorem sp_corpus_Find_1 (a b t : Nat) (n i : Int) (d : EI) (ha : a < t) (hb : b < t) (hab : a ≠ b) :
    ACall Try.prog 37 [.agg d.enc, .loc a 0 0, .loc b 0 0] ⟨[(b, .arr false 1 [[pI i]]), (a, .arr false 1 [[pI n]])], t⟩
      (fun p h' => p = .bool (atB n i d) ∧ ∃ t', t ≤ t' ∧ h' = ⟨[(b, .arr false 1 [[pI i]]), (a, .arr false 1 [[pI n]])], t'⟩) := by
  refine ACall.drop ?_
  refine ACall_fn (vc := c_corpus_Find_1) (ts := [.t 4]) Go.Proofs.Try.func37 (by kernel_rfl) rfl rfl (Nat.le_of_ble_eq_true rfl) (by kernel_rfl) ?_
  unfold c_corpus_Find_1
  have qi0 : (a = b) = False := eq_false (by omega)
  have qi1 : (a = t) = False := eq_false (by omega)
  have qi2 : (b = a) = False := eq_false (by omega)
  have qi3 : (b = t) = False := eq_false (by omega)
  have qi4 : (t = a) = False := eq_false (by omega)
  have qi5 : (t = b) = False := eq_false (by omega)
  refine VW_seq (VW_region [1, 2, 3] ?_)
  simp only [OpsW_nil, OpsW_n, StepW, pok, pval, VA.ev, Env.get, Env.put, Env.keep, argEnv, thenQ, PV.cells, PV.fits, Heap.le, Heap.push, Nat.succ_ne_self, Nat.reduceEqDiff, Nat.reduceAdd, ite_true, ite_false, true_and, reduceCtorEq, BEq.rfl, Nat.zero_add, ei_l28]
  refine VW_seq (VW_region [4] ?_)
  unfold atB
  cases e1 : (d.act == n) with
  | true =>
    simp only [OpsW_nil, OpsW_n, OpsW_y, StepW, pok, pval, VA.ev, Env.get, Env.put, Env.keep, thenQ, pickV, isBool, aggV, intV, binV, binOk, faddrV, isAddr, locCells, locOk, PV.nth, PV.row, Heap.get, HL.get, Nat.le_refl, Nat.succ_ne_self, List.length, List.getD_cons_zero, List.take, List.drop, List.take_succ_cons, Nat.reduceEqDiff, Nat.reduceLT, Nat.reduceLeDiff, Bool.false_eq_true, ite_true, ite_false, true_and, and_true, implies_true, Nat.zero_add, Nat.add_zero, List.length_cons, ei_l28, ei_act, ei_item, ei_l1, e1, qi0, qi1, qi2, qi3, qi4, qi5]
    refine VW_ret ?_
    try simp only [Env.get, retQ, resV, resOk, RS.ev, RS.ok, ite_true, true_and, and_true]
    refine ⟨⟨[(b, .arr false 1 [[pI i]]), (a, .arr false 1 [[pI n]])], t + 1⟩, ?_, by simp, t + 1, by omega, rfl⟩
    try simp only [Heap.get, HL.get, HL.le, Nat.le_refl, ite_true, ite_false, and_true, qi0, qi1, qi2, qi3, qi4, qi5]
    all_goals (repeat' (first | rfl | trivial | omega | (simp only []; omega) | refine And.intro ?_ ?_))
  | false =>
    simp only [OpsW_nil, OpsW_n, OpsW_xt, StepW, pok, pval, VA.ev, Env.get, Env.put, Env.keep, thenQ, pickV, isBool, aggV, intV, binV, binOk, faddrV, isAddr, locCells, locOk, PV.nth, PV.row, Heap.get, HL.get, Nat.le_refl, Nat.succ_ne_self, List.length, List.getD_cons_zero, List.take, List.drop, List.take_succ_cons, Nat.reduceEqDiff, Nat.reduceLT, Nat.reduceLeDiff, Bool.false_eq_true, ite_true, ite_false, true_and, and_true, implies_true, Nat.zero_add, Nat.add_zero, List.length_cons, ei_l28, ei_act, e1, qi0, qi1, qi2, qi3, qi4, qi5]
    refine VW_ret ?_
    try simp only [Env.get, retQ, resV, resOk, RS.ev, RS.ok, ite_true, true_and, and_true]
    refine ⟨⟨[(b, .arr false 1 [[pI i]]), (a, .arr false 1 [[pI n]])], t + 1⟩, ?_, by simp, t + 1, by omega, rfl⟩
    try simp only [Heap.get, HL.get, HL.le, Nat.le_refl, ite_true, ite_false, and_true, qi0, qi1, qi2, qi3, qi4, qi5]
    all_goals (repeat' (first | rfl | trivial | omega | (simp only []; omega) | refine And.intro ?_ ?_))
theorem sp_index_EI (a b t : Nat) (n i : Int) (l : List EI) (ha : a < t) (hb : b < t) (hab : a ≠ b) (hl : l.length ≤ 1000000) :
    ACall Try.prog 36 [.sl 28 (l.map EI.enc), .fn (.func 37) [] [.loc a 0 0, .loc b 0 0]] ⟨[(b, .arr false 1 [[pI i]]), (a, .arr false 1 [[pI n]])], t⟩
      (fun p h' => p = pI (posS (atB n i) l 0) ∧ ∃ t', t ≤ t' ∧ h' = ⟨[(b, .arr false 1 [[pI i]]), (a, .arr false 1 [[pI n]])], t'⟩) := by
  refine ACall_fn (vc := c_slices_IndexFunc_EnactedItem) (ts := [.t 4]) Go.Proofs.Try.func36 (by kernel_rfl) rfl rfl (Nat.le_of_ble_eq_true rfl) (by kernel_rfl) ?_
  unfold c_slices_IndexFunc_EnactedItem
  refine VW_seq (VW_region [0, 1] ?_)
  simp only [OpsW_nil, OpsW_n, StepW, pok, pval, VA.ev, Env.get, Env.put, Env.keep, argEnv, thenQ, Nat.succ_ne_self, Nat.reduceEqDiff, ite_true, ite_false, true_and, reduceCtorEq, Nat.zero_add]
  refine VW_seq ?_
  refine VW_seq (VW_region [0, 1, 7, 8] ?_)
  simp only [OpsW_nil, OpsW_n, StepW, pok, pval, VA.ev, Env.get, Env.put, Env.keep, thenQ, lenV, lenOk, Nat.succ_ne_self, Nat.reduceEqDiff, ite_true, ite_false, true_and, reduceCtorEq, List.length_map]
  refine VW_block ?_
  refine VW_loop (σ := { s : Nat × Nat // s.1 ≤ l.length ∧ posS (atB n i) l 0 = posS (atB n i) (l.drop s.1) s.1 ∧ t ≤ s.2 }) (fun s => ([(0, .sl 28 (l.map EI.enc)), (1, .fn (.func 37) [] [.loc a 0 0, .loc b 0 0]), (7, pI l.length), (8, pI s.1.1)], ⟨[(b, .arr false 1 [[pI i]]), (a, .arr false 1 [[pI n]])], s.1.2⟩)) (fun s => l.length - s.1.1) ⟨(0, t), ⟨Nat.zero_le _, rfl, Nat.le_refl _⟩⟩ ?_ ?_ ?_
  · try simp only [Env.get, Nat.succ_ne_self, Env.le, Nat.reduceEqDiff, ite_true, ite_false, true_and, and_true, reduceCtorEq]
    all_goals (repeat' (first | rfl | trivial | omega | (simp only []; omega) | refine And.intro ?_ ?_))
  · have qi0 : (a = b) = False := eq_false (by omega)
    have qi1 : (a = t) = False := eq_false (by omega)
    have qi2 : (b = a) = False := eq_false (by omega)
    have qi3 : (b = t) = False := eq_false (by omega)
    have qi4 : (t = a) = False := eq_false (by omega)
    have qi5 : (t = b) = False := eq_false (by omega)
    try simp only [Heap.get, Heap.le, HL.get, HL.le, Nat.le_refl, ite_true, ite_false, and_true, qi0, qi1, qi2, qi3, qi4, qi5]
    all_goals (repeat' (first | rfl | trivial | omega | (simp only []; omega) | refine And.intro ?_ ?_))
  rintro ⟨⟨k, t1⟩, hk, hpos, ht⟩
  simp only [] at hk hpos ht ⊢
  have qi0 : (a = b) = False := eq_false (by omega)
  have qi1 : (a = t1) = False := eq_false (by omega)
  have qi2 : (b = a) = False := eq_false (by omega)
  have qi3 : (b = t1) = False := eq_false (by omega)
  have qi4 : (t1 = a) = False := eq_false (by omega)
  have qi5 : (t1 = b) = False := eq_false (by omega)
  refine VW_seq (VW_region [0, 1, 7, 8, 9] ?_)
  simp only [OpsW_nil, OpsW_n, StepW, pok, pval, VA.ev, Env.get, Env.put, Env.keep, thenQ, intV, binV, binOk, Heap.get, Heap.le, HL.le, Nat.succ_ne_self, Env.le, Nat.reduceEqDiff, ite_true, ite_false, true_and, and_true, reduceCtorEq]
  refine VW_seq ?_
  refine VW_cond rfl (fun h1 => ?_) (fun h1 => ?_)
  · refine VW_skip ?_
    try simp only [thenQ]
    simp only [decide_eq_true_eq] at h1
    have ka : k < l.length := by omega
    rw [List.drop_eq_getElem_cons ka, posS] at hpos
    refine VW_seq ?_
    refine VW_block ?_
    refine VW_seq (VW_region [0, 1, 5, 7, 8] ?_)
    simp only [OpsW_nil, OpsW_n, StepW, pok, pval, VA.ev, Env.get, Env.put, Env.keep, thenQ, Nat.succ_ne_self, Nat.reduceEqDiff, ite_true, ite_false, true_and, reduceCtorEq]
    refine VW_seq (VW_region [0, 1, 5, 7, 8, 16] ?_)
    simp only [OpsW_nil, OpsW_n, StepW, pok, pval, VA.ev, Env.get, Env.put, Env.keep, thenQ, aggV, isInt, numOf, lenV, locCells, locOk, iaddrV, iaddrOk, PV.nth, PV.row, Nat.le_refl, Nat.succ_ne_self, List.map, List.cons_append, List.nil_append, Nat.reduceEqDiff, Bool.true_eq_false, ite_true, ite_false, true_and, and_true, reduceCtorEq, imp_self, Int.toNat_natCast, List.length_map, rowm ka, ei_t28, ei_l28]
    repeat (with_reducible refine And.intro ?_ ?_; first | omega | (with_reducible constructor <;> omega) | exact False.elim | exact True.intro)
    refine ACall.mono (sp_corpus_Find_1 a b t1 n i l[k] (by omega) (by omega) hab) ?_
    rintro p h' ⟨rfl, t2, ht2, rfl⟩
    skip
    refine VW_cond rfl (fun h2 => ?_) (fun h2 => ?_)
    · rw [h2, cond_true] at hpos
      refine VW_seq (VW_region [4] ?_)
      simp only [OpsW_nil, OpsW_n, StepW, pok, pval, VA.ev, Env.get, Env.put, Env.keep, thenQ, Nat.succ_ne_self, Nat.reduceEqDiff, ite_true, ite_false, true_and, reduceCtorEq]
      refine VW_ret ?_
      try simp only [Env.get, thenQ, blockQ, retQ, resV, resOk, RS.ev, RS.ok, ite_true, true_and, and_true]
      exact ⟨by rw [hpos], t2, by omega, rfl⟩
    rw [h2, cond_false] at hpos
    refine VW_skip ?_
    try simp only [thenQ, blockQ]
    refine VW_region [0, 1, 7, 8] ?_
    simp only [OpsW_nil, OpsW_n, StepW, pok, pval, VA.ev, Env.get, Env.put, Env.keep, thenQ, intV, binV, binOk, HL.get, Nat.succ_ne_self, Nat.reduceEqDiff, ite_true, ite_false, true_and, reduceCtorEq, ad1 (a := k) (by omega)]
    refine ⟨⟨(k + 1, t2), ⟨ka, hpos, by show t ≤ t2; omega⟩⟩, ?_⟩
    try simp only [Nat.le_refl, ite_false, true_and, and_true, qi0, qi1, qi2, qi3, qi4, qi5]
    all_goals (repeat' (first | rfl | trivial | omega | (simp only []; omega) | refine And.intro ?_ ?_))
  · simp only [decide_eq_false_iff_not] at h1
    obtain rfl : k = l.length := by omega
    rw [List.drop_length, posS] at hpos
    refine VW_exit ?_
    try simp only [thenQ, blockQ, retQ, ite_true]
    refine VW_seq (VW_region [4] ?_)
    simp only [OpsW_nil, OpsW_n, StepW, pok, pval, VA.ev, Env.get, Env.put, Env.keep, thenQ, Nat.reduceEqDiff, ite_true, ite_false, true_and, reduceCtorEq]
    refine VW_ret ?_
    try simp only [Env.get, retQ, resV, resOk, RS.ev, RS.ok, ite_true, true_and, and_true]
    exact ⟨by rw [hpos], t1, ht, rfl⟩
/-- An item of zeros, as data. -/
def It0 : It := .mk 0 [] [] 0 0 (.mk 0 0 0 0 [] [] [] []) [] [] [] [] ⟨0, 0, []⟩ 0 0 0 [] []
def EI0 : EI := ⟨0, 0, 0, It0⟩
theorem View.aggV {h : Heap} : ∀ {l q : List PV}, Views h l q → View h (.agg l) (.agg q) := by
  intro l q hv
  have hl : ∀ {l q : List PV}, Views h l q → l.length = q.length ∧ ∀ j, j < q.length → View h (PV.nth l j) (PV.nth q j) := by
    intro l
    induction l with
    | nil => intro q hv; cases q with
      | nil => exact ⟨rfl, fun j hj => by simp at hj⟩
      | cons y q => exact hv.elim
    | cons x l ih => intro q hv; cases q with
      | nil => exact hv.elim
      | cons y q =>
        obtain ⟨h1, h2⟩ := hv
        obtain ⟨h3, h4⟩ := ih h2
        refine ⟨by simp [h3], fun j hj => ?_⟩
        cases j with
        | zero => exact h1
        | succ j => simpa [PV.nth] using h4 j (by simpa using hj)
  exact View.agg (hl hv).1 (hl hv).2
theorem zEI_view {h : Heap} : View h (.agg zEI) (.agg EI0.enc) := by
  refine View.aggV ?_
  show Views h [_, _, _, _, _, _, _, _, _, _, _, _, _, _, _, _, _, _, _, _, _, _, _, _, _, _, _, _] [_, _, _, _, _, _, _, _, _, _, _, _, _, _, _, _, _, _, _, _, _, _, _, _, _, _, _, _]
  repeat' (first | exact trivial | refine And.intro ?_ ?_)
  all_goals first | exact View.refl _ _ | exact View.nil _ _
def resF (o : Option EI) : PV := .tup [.agg (o.getD EI0).enc, .bool o.isSome]
theorem resF_closed (o : Option EI) : Closed (resF o) := closed_tup (fun x hx => by
  simp only [List.mem_cons, List.not_mem_nil, or_false] at hx
  rcases hx with rfl | rfl
  · exact closed_agg (EI.closed _)
  · exact cB _)
theorem zEI_take : zEI.take 28 = zEI := rfl
theorem zEI_len : zEI.length = 28 := rfl
theorem zEI_drop : zEI.drop 28 = [] := rfl
/-- The bounds that few gazettes give. -/
structure Smal (l : List Gz) : Prop where
  len : l.length ≤ 1000000
  row : (rowG l).length ≤ 1000000
  items : (itemsS (actsS (rowG l))).length ≤ 1000000
theorem sp_corpus_Find (n i : Int) (l : List Gz) (hs : Smal l) : PCall Try.prog 16 [pI n, pI i, .sl 4 (l.map Gz.enc)] (resF ((deedsS (actsS (rowG l))).find? (atB n i))) := by
  refine PCall_intro ?_ (resF_closed _) (by simp only [ClosedL, List.mem_cons, List.not_mem_nil, or_false, forall_eq_or_imp, forall_eq, false_implies, implies_true]; repeat' (first | exact cI _ | exact cS _ | exact cB _ | exact closed_fn0 _ | exact closed_nilsl | exact closed_agg (Un.closed _) | exact closed_agg (It.closed _) | exact closed_agg (EI.closed _) | exact closed_agg (Ac.closed _) | exact closed_agg (Wd.closed _) | exact closed_agg (St.closed _) | exact closed_agg (Sta.closed _) | exact closed_eis _ | exact closed_acs _ | exact closed_gzs _ | exact Closed.of_scalar (scalar_int _ _) | exact closed_ro (Ac.closed _) | exact closed_ro (Gz.closed _) | exact closed_agg (Gz.closed _) | exact closed_strs _ | exact closed_map (fun w _ => Wd.closed w) | exact closed_map (fun w _ => St.closed w) | exact closed_map (fun w _ => Un.closed w) | exact closed_map (fun w _ => It.closed w) | exact closed_sc _ | exact closed_sps _ | exact closed_agg (Sp.closed _) | exact closed_ro (EI.closed _) | exact closed_ro (Sta.closed _) | exact closed_ro (It.closed _) | exact closed_ro (by simp only [List.mem_cons, List.not_mem_nil, or_false, forall_eq]; first | exact cI _ | exact cS _ | exact closed_eis _) | refine And.intro ?_ ?_))
  refine ACall_fn (vc := c_corpus_Find) (ts := [.c 6 true 28, .t 7]) Go.Proofs.Try.func16 (by kernel_rfl) rfl rfl (Nat.le_of_ble_eq_true rfl) (by kernel_rfl) ?_
  unfold c_corpus_Find
  refine VW_seq (VW_region [2, 3, 4, 6, 7] ?_)
  simp only [OpsW_nil, OpsW_n, StepW, pok, pval, VA.ev, Env.get, Env.put, Env.keep, argEnv, thenQ, PV.cells, PV.fits, Heap.push, Heap.nil, Nat.succ_ne_self, List.length, Nat.reduceEqDiff, Nat.reduceAdd, ite_true, ite_false, true_and, reduceCtorEq, BEq.rfl, Nat.zero_add]
  change VW Try.prog _ _ _ _ ⟨[(2, .arr false 28 [zEI]), (1, .arr false 1 [[pI i]]), (0, .arr false 1 [[pI n]])], 3⟩
  refine VW_seq (VW_region [3, 4, 6, 8] ?_)
  simp only [OpsW_nil, OpsW_n, StepW, pok, pval, VA.ev, Env.get, Env.put, Env.keep, thenQ, Nat.succ_ne_self, List.map, Nat.reduceEqDiff, ite_true, ite_false, true_and]
  refine ACall_p (sp_corpus_EnactedItems l hs.len hs.row hs.items) ?_
  have hdl : (deedsS (actsS (rowG l))).length ≤ 1000000 := by unfold deedsS; rw [deedsF_len]; exact hs.items
  generalize deedsS (actsS (rowG l)) = ds at hdl ⊢
  skip
  refine VW_seq (VW_region [6, 8, 9] ?_)
  simp only [OpsW_nil, OpsW_n, StepW, pok, pval, VA.ev, Env.get, Env.put, Env.keep, thenQ, Nat.succ_ne_self, List.map, Nat.reduceEqDiff, ite_true, ite_false, true_and]
  refine ACall.weakenL (h0 := ⟨[(1, .arr false 1 [[pI i]]), (0, .arr false 1 [[pI n]])] ++ [(2, .arr false 28 [zEI])], 3⟩) (by simp [Heap.le, HL.le, Heap.get, HL.get]) ?_
  refine ACall.frameL (by simp) (by simp) (ACall.mono (sp_index_EI 0 1 3 n i ds (by omega) (by omega) (by omega) hdl) ?_)
  rintro p h' ⟨rfl, t, ht, rfl⟩
  refine ⟨ht, by simp, by simp [AB.live], ?_⟩
  try simp only [List.cons_append, List.nil_append]
  refine VW_seq ?_
  rcases pos_find (atB n i) ds 0 with ⟨h1, h2⟩ | ⟨k, hk, h1, h2⟩
  · rw [h1, h2]
    refine VW_seq (VW_region [6, 8, 9, 16] ?_)
    simp only [OpsW_nil, OpsW_n, StepW, pok, pval, VA.ev, Env.get, Env.put, Env.keep, thenQ, intV, binV, binOk, Nat.succ_ne_self, Nat.reduceEqDiff, ite_true, ite_false, true_and]
    refine VW_cond rfl (fun h3 => ?_) (fun h3 => by cases h3)
    refine VW_seq (VW_region [6, 7] ?_)
    simp only [OpsW_nil, OpsW_n, StepW, pok, pval, VA.ev, Env.get, Env.put, Env.keep, thenQ, fillV, fillOk, PV.cells, PV.fits, overlay, PV.row, Heap.get, Heap.set, HL.get, HL.set, HL.del, Nat.le_refl, Nat.succ_ne_self, storeV, storeOk, List.set, List.length, List.getD_cons_zero, List.take, List.nil_append, Nat.reduceEqDiff, Nat.reduceAdd, Nat.reduceLT, ite_true, ite_false, true_and, and_true, reduceCtorEq, BEq.rfl, Nat.zero_add, List.length_cons, zEI_len, zEI_drop, List.append_nil]
    refine VW_ret ?_
    try simp only [Env.get, thenQ, retQ, resV, resOk, RS.ev, RS.ok, aggV, locCells, locOk, PV.nth, PV.row, Heap.get, HL.get, Nat.le_refl, Nat.succ_ne_self, List.map, List.length, List.getD_cons_zero, List.take, List.drop, List.take_succ_cons, Nat.reduceEqDiff, Nat.reduceAdd, Nat.reduceLT, Bool.true_eq_false, ite_true, ite_false, true_and, and_true, reduceCtorEq, Nat.zero_add, List.length_cons, imp_self, zEI_take, zEI_len]
    exact View.tup2 zEI_view (View.refl _ _)
  · rw [h1, h2, Nat.zero_add]
    refine VW_seq (VW_region [6, 8, 9, 16] ?_)
    simp only [OpsW_nil, OpsW_n, StepW, pok, pval, VA.ev, Env.get, Env.put, Env.keep, thenQ, intV, binV, binOk, Nat.succ_ne_self, Nat.reduceEqDiff, ite_true, ite_false, true_and]
    refine VW_cond rfl (fun h3 => ?_) (fun h3 => ?_)
    · exfalso; simp only [decide_eq_true_eq] at h3; omega
    refine VW_skip ?_
    try simp only [thenQ]
    refine VW_seq (VW_region [6, 7] ?_)
    simp only [OpsW_nil, OpsW_n, StepW, pok, pval, VA.ev, Env.get, Env.put, Env.keep, thenQ, aggV, isInt, numOf, lenV, locCells, locOk, iaddrV, iaddrOk, PV.cells, PV.fits, overlay, PV.nth, PV.row, Heap.get, Heap.set, HL.get, HL.set, HL.del, Nat.le_refl, Nat.succ_ne_self, storeV, storeOk, List.set, List.length, List.getD_cons_zero, List.take, List.nil_append, Nat.reduceEqDiff, Nat.reduceLT, Bool.true_eq_false, ite_true, ite_false, true_and, and_true, reduceCtorEq, BEq.rfl, Nat.zero_add, imp_self, Int.toNat_natCast, List.length_map, rowm hk, ei_l28, ei_t28, zEI_len, zEI_drop, List.append_nil]
    repeat (with_reducible refine And.intro ?_ ?_; first | omega | (with_reducible constructor <;> omega) | exact False.elim | exact True.intro)
    refine VW_ret ?_
    try simp only [Env.get, retQ, resV, resOk, RS.ev, RS.ok, aggV, locCells, locOk, PV.nth, PV.row, Heap.get, HL.get, Nat.le_refl, Nat.succ_ne_self, List.map, List.length, List.getD_cons_zero, List.drop, Nat.reduceEqDiff, Nat.reduceLT, Bool.true_eq_false, ite_true, ite_false, true_and, and_true, reduceCtorEq, Nat.zero_add, imp_self, ei_l28, ei_t28]
    exact View.refl _ _
end Go.Proofs.Ytcjaojhbebpokaa.w

