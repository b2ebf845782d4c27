import Derived.Test.YtehokmhebnkfdaaGreatH8
set_option linter.all false
namespace Go.Proofs.YtehokmhebnkfdaaGreat.w
open Go Go.VM
set_option maxRecDepth 20000
set_option maxHeartbeats 0
set_option pp.deepTerms false
def c_pandectref28_Find : VC := (.seq (.region [⟨(some 6), (.alloc [(.int .i64 0), (.int .i64 0), (.int .i64 0), (.int .i64 0), .nilsl, .nilsl, (.int .i64 0), (.int .i64 0), (.int .i64 0), (.int .i64 0), (.int .i64 0), (.int .i64 0), (.str []), .nilsl, .nilsl, .nilsl, .nilsl, .nilsl, (.str []), (.str []), (.int .i64 0), (.int .i64 0), (.str []), (.int .i64 0), (.int .i64 0), (.int .i64 0), (.str []), .nilsl]), none⟩, ⟨(some 7), (.mv (.c (.bool false))), none⟩] false) (.seq (.region [⟨(some 10), (.mv (.t 2)), none⟩, ⟨(some 11), (.call 46 [(.t 10)]), none⟩, ⟨(some 8), (.mv (.t 11)), none⟩] false) (.seq (.seq (.region [⟨(some 9), (.mv (.c (.int .i64 0))), none⟩] false) (.block 0 (.loop (.seq (.seq (.region [⟨(some 12), (.mv (.t 9)), none⟩, ⟨(some 13), (.mv (.t 8)), none⟩, ⟨(some 14), (.len false (.t 13)), none⟩, ⟨(some 15), (.bin .lss (.t 12) (.t 14)), none⟩] false) (.cond (.t 15) .skip (.exit 0))) (.seq (.block 1 (.seq (.region [⟨(some 18), (.mv (.t 8)), none⟩, ⟨(some 19), (.mv (.t 9)), none⟩, ⟨(some 20), (.iaddr 28 (.t 18) (.t 19)), none⟩, ⟨(some 21), (.faddr 0 (.t 20)), none⟩, ⟨(some 22), (.load false 1 (.t 21)), none⟩, ⟨(some 23), (.mv (.t 0)), none⟩, ⟨(some 24), (.bin .eql (.t 22) (.t 23)), none⟩, ⟨(some 25), (.mv (.t 24)), none⟩, ⟨(some 26), (.mv (.t 8)), (some (25, true))⟩, ⟨(some 27), (.mv (.t 9)), (some (25, true))⟩, ⟨(some 28), (.iaddr 28 (.t 26) (.t 27)), (some (25, true))⟩, ⟨(some 29), (.faddr 1 (.t 28)), (some (25, true))⟩, ⟨(some 30), (.load false 1 (.t 29)), (some (25, true))⟩, ⟨(some 31), (.mv (.t 1)), (some (25, true))⟩, ⟨(some 32), (.bin .eql (.t 30) (.t 31)), (some (25, true))⟩, ⟨(some 33), (.pick (.t 25) (.t 32) (.c (.bool false))), none⟩] false) (.cond (.t 33) (.seq (.region [⟨(some 34), (.mv (.t 8)), none⟩, ⟨(some 35), (.mv (.t 9)), none⟩, ⟨(some 36), (.iaddr 28 (.t 34) (.t 35)), none⟩, ⟨(some 37), (.load true 28 (.t 36)), none⟩, ⟨none, (.store 28 (.t 6) (.t 37)), none⟩, ⟨(some 7), (.mv (.c (.bool true))), none⟩] false) .ret) .skip))) (.region [⟨(some 16), (.mv (.t 9)), none⟩, ⟨(some 17), (.bin .add (.t 16) (.c (.int .i64 1))), none⟩, ⟨(some 9), (.mv (.t 17)), none⟩] false)))))) (.seq (.region [⟨(some 38), (.build [(.int .i64 0), (.int .i64 0), (.int .i64 0), (.int .i64 0), .nilsl, .nilsl, (.int .i64 0), (.int .i64 0), (.int .i64 0), (.int .i64 0), (.int .i64 0), (.int .i64 0), (.str []), .nilsl, .nilsl, .nilsl, .nilsl, .nilsl, (.str []), (.str []), (.int .i64 0), (.int .i64 0), (.str []), (.int .i64 0), (.int .i64 0), (.int .i64 0), (.str []), .nilsl] []), none⟩, ⟨none, (.store 28 (.t 6) (.t 38)), none⟩, ⟨(some 7), (.mv (.c (.bool false))), none⟩] false) .ret))))
theorem sp_pandectref28_Find (n i : Int) (l : List Gz) (hs : Smal l) : PCall Tryz.prog 40 [pI n, pI i, .sl 4 (l.map Gz.enc)] (resF ((deedsS (actsS (rowG l))).find? (atB n i))) := by
  refine Zaj ?_ (resF_closed _) (by simp only [Zav, List.mem_cons, List.not_mem_nil, or_false, forall_eq_or_imp, forall_eq, false_implies, implies_true]; repeat' (first  | exact cI _ | exact Zbr _ | exact Zaz (by simp only [List.mem_cons, List.not_mem_nil, or_false, forall_eq]; first | exact cI _ | exact cS _ | exact Zaq _) | refine And.intro ?_ ?_))
  refine Zan (vc := c_pandectref28_Find) (ts := [.c 6 true 28, .t 7]) Go.Proofs.Tryz.func40 (by kernel_rfl) rfl rfl (Nat.le_of_ble_eq_true rfl) (by kernel_rfl) ?_
  unfold c_pandectref28_Find
  refine Zad (Zaa [0, 1, 2, 6, 7] ?_)
  simp only [Zab, Zac, StepW, pok, pval, VA.ev, Env.get, Env.put, Env.keep, Zax, thenQ, Heap.push, Heap.nil, Nat.succ_ne_self, List.length, Nat.reduceEqDiff, Nat.reduceAdd, ite_true, ite_false, true_and, reduceCtorEq, Nat.zero_add]
  change VW Tryz.prog _ _ _ _ ⟨[(0, .arr false 28 [zEI])], 1⟩
  refine Zad (Zaa [0, 1, 6, 8] ?_)
  simp only [Zab, Zac, StepW, pok, pval, VA.ev, Env.get, Env.put, Env.keep, thenQ, Nat.succ_ne_self, List.map, Nat.reduceEqDiff, ite_true, ite_false, true_and, reduceCtorEq]
  refine Zas (sp_pandectref28_Deeds l hs.len hs.row hs.items) ?_
  have hdl : (deedsS (actsS (rowG l))).length ≤ 1000000 := by unfold deedsS; rw [deedsF_len]; exact hs.items
  generalize deedsS (actsS (rowG l)) = ds at hdl ⊢
  skip
  refine Zad ?_
  refine Zad (Zaa [0, 1, 6, 8, 9] ?_)
  simp only [Zab, Zac, StepW, pok, pval, VA.ev, Env.get, Env.put, Env.keep, thenQ, Nat.succ_ne_self, Nat.reduceEqDiff, ite_true, ite_false, true_and, reduceCtorEq]
  refine Zag ?_
  refine Za1 (σ := { s : Nat × Nat // s.1 ≤ ds.length ∧ ds.find? (atB n i) = (ds.drop s.1).find? (atB n i) ∧ 1 ≤ s.2 }) (fun s => ([(0, pI n), (1, pI i), (6, .loc 0 0 0), (8, .sl 28 (ds.map EI.enc)), (9, pI s.1.1)], ⟨[(0, .arr false 28 [zEI])], s.1.2⟩)) (fun s => ds.length - s.1.1) ⟨(0, 1), ⟨Nat.zero_le _, rfl, Nat.le_refl _⟩⟩ ?_ ?_ ?_
  · try simp only [Env.get, Nat.succ_ne_self, Env.le, Nat.reduceEqDiff, ite_true, ite_false, true_and, and_true, reduceCtorEq]
    all_goals (repeat' (first | rfl | trivial | omega | (simp only []; omega) | refine And.intro ?_ ?_))
  · try simp only [Heap.get, Heap.le, HL.get, HL.le, Nat.le_refl, ite_true, and_true]
    all_goals (repeat' (first | rfl | trivial | omega | (simp only []; omega) | refine And.intro ?_ ?_))
  rintro ⟨⟨k, t⟩, hk, hf, ht⟩
  simp only [] at hk hf ht ⊢
  refine Zad ?_
  refine Zad (Zaa [0, 1, 6, 8, 9, 15] ?_)
  simp only [Zab, Zac, StepW, pok, pval, VA.ev, Env.get, Env.put, Env.keep, thenQ, intV, binV, binOk, lenV, lenOk, Heap.get, Heap.le, HL.le, Nat.succ_ne_self, Env.le, Nat.reduceEqDiff, ite_true, ite_false, true_and, and_true, reduceCtorEq, List.length_map]
  refine Zaf rfl (fun h1 => ?_) (fun h1 => ?_)
  · refine Zah ?_
    try simp only [thenQ]
    simp only [decide_eq_true_eq] at h1
    have ka : k < ds.length := by omega
    rw [List.drop_eq_getElem_cons ka, List.find?_cons] at hf
    refine Zad ?_
    refine Zag ?_
    refine VW_seqE (σ := Unit) [0, 1, 6, 8, 9, 33] (fun _ => [(0, pI n), (1, pI i), (6, .loc 0 0 0), (8, .sl 28 (ds.map EI.enc)), (9, pI k), (33, .bool (atB n i ds[k]))]) ?_ (fun _ => ?_)
    · unfold atB
      cases e1 : (ds[k].act == n) with
      | true =>
        simp only [Zab, Zac, Za0, StepW, pok, pval, VA.ev, Env.get, Env.put, Env.keep, pickV, isBool, aggV, intV, binV, binOk, isInt, numOf, lenV, Zal, Zak, Zae, locOk, Zau, Zao, PV.nth, PV.row, Nat.succ_ne_self, Env.le, List.drop, Nat.reduceEqDiff, Nat.reduceLeDiff, Bool.false_eq_true, ite_true, ite_false, true_and, and_true, implies_true, reduceCtorEq, Int.toNat_natCast, List.length_map, rowm ka, Zb8, ei_act, ei_item, ei_l1, e1]
        repeat (with_reducible refine And.intro ?_ ?_; first | omega | (with_reducible constructor <;> omega) | exact False.elim | exact True.intro)
        exact ⟨(), by first | trivial | rfl⟩
      | false =>
        simp only [Zab, Zac, Zba, StepW, pok, pval, VA.ev, Env.get, Env.put, Env.keep, pickV, isBool, aggV, intV, binV, binOk, isInt, numOf, lenV, Zal, Zak, Zae, locOk, Zau, Zao, PV.nth, PV.row, Nat.succ_ne_self, Env.le, List.drop, Nat.reduceEqDiff, Nat.reduceLeDiff, Bool.false_eq_true, ite_true, ite_false, true_and, and_true, implies_true, reduceCtorEq, Int.toNat_natCast, List.length_map, rowm ka, Zb8, ei_act, e1]
        repeat (with_reducible refine And.intro ?_ ?_; first | omega | (with_reducible constructor <;> omega) | exact False.elim | exact True.intro)
        exact ⟨(), by first | trivial | rfl⟩
    refine Zaf rfl (fun h2 => ?_) (fun h2 => ?_)
    · rw [h2] at hf
      refine Zad (Zaa [6, 7] ?_)
      simp only [Zab, Zac, StepW, pok, pval, VA.ev, Env.get, Env.put, Env.keep, thenQ, aggV, isInt, numOf, lenV, Zae, locOk, Zau, Zao, PV.cells, PV.fits, overlay, PV.nth, PV.row, Heap.get, Heap.set, HL.get, HL.set, HL.del, Nat.le_refl, Nat.succ_ne_self, Za7, Za2, List.set, List.length, List.getD_cons_zero, List.take, List.nil_append, Nat.reduceEqDiff, Nat.reduceLT, Bool.true_eq_false, ite_true, ite_false, true_and, and_true, reduceCtorEq, BEq.rfl, Nat.zero_add, imp_self, Int.toNat_natCast, List.length_map, rowm ka, Zb8, ei_t28, zEI_len, zEI_drop, List.append_nil]
      repeat (with_reducible refine And.intro ?_ ?_; first | omega | (with_reducible constructor <;> omega) | exact False.elim | exact True.intro)
      refine Zam ?_
      try simp only [Env.get, thenQ, Zai, retQ, resV, resOk, RS.ev, RS.ok, aggV, Zae, locOk, PV.nth, PV.row, Heap.get, HL.get, Nat.le_refl, Nat.succ_ne_self, List.map, List.length, List.getD_cons_zero, List.drop, Nat.reduceEqDiff, Nat.reduceLT, Bool.true_eq_false, ite_true, ite_false, true_and, and_true, Nat.zero_add, imp_self, Zb8, ei_t28]
      rw [hf]
      exact View.refl _ _
    rw [h2] at hf
    refine Zah ?_
    try simp only [thenQ, Zai]
    refine Zaa [0, 1, 6, 8, 9] ?_
    simp only [Zab, Zac, StepW, pok, pval, VA.ev, Env.get, Env.put, Env.keep, thenQ, intV, binV, binOk, HL.get, Nat.succ_ne_self, Nat.reduceEqDiff, ite_true, ite_false, true_and, and_true, reduceCtorEq, ad1 (a := k) (by omega)]
    refine ⟨⟨(k + 1, t), ⟨ka, hf, ht⟩⟩, ?_⟩
    try simp only [Nat.le_refl, true_and]
    all_goals (repeat' (first | rfl | trivial | omega | (simp only []; omega) | refine And.intro ?_ ?_))
  · simp only [decide_eq_false_iff_not] at h1
    obtain rfl : k = ds.length := by omega
    rw [List.drop_length] at hf
    refine Zay ?_
    try simp only [thenQ, Zai, retQ, ite_true]
    refine Zad (Zaa [6, 7] ?_)
    simp only [Zab, Zac, StepW, pok, pval, VA.ev, Env.get, Env.put, Env.keep, thenQ, fillV, Zb4, PV.cells, PV.fits, overlay, PV.row, Heap.get, Heap.set, HL.get, HL.set, HL.del, Nat.le_refl, Nat.succ_ne_self, Za7, Za2, List.set, List.length, List.getD_cons_zero, List.take, List.nil_append, Nat.reduceEqDiff, Nat.reduceAdd, Nat.reduceLT, ite_true, ite_false, true_and, and_true, reduceCtorEq, BEq.rfl, Nat.zero_add, List.length_cons, zEI_len, zEI_drop, List.append_nil]
    refine Zam ?_
    try simp only [Env.get, retQ, resV, resOk, RS.ev, RS.ok, aggV, Zae, locOk, PV.nth, PV.row, Heap.get, HL.get, Nat.le_refl, Nat.succ_ne_self, List.map, List.length, List.getD_cons_zero, List.take, List.drop, List.take_succ_cons, Nat.reduceEqDiff, Nat.reduceAdd, Nat.reduceLT, Bool.true_eq_false, ite_true, ite_false, true_and, and_true, Nat.zero_add, List.length_cons, imp_self, zEI_take, zEI_len]
    rw [hf]
    exact View.tup2 zEI_view (View.refl _ _)
end Go.Proofs.YtehokmhebnkfdaaGreat.w
