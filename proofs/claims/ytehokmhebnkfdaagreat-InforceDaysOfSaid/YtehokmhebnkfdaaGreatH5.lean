import Derived.Test.YtehokmhebnkfdaaGreatH2
import Derived.Test.YtehokmhebnkfdaaGreatVmT
set_option linter.all false
namespace Go.Proofs.YtehokmhebnkfdaaGreat.w
open Go Go.VM
set_option maxRecDepth 20000
set_option maxHeartbeats 0
set_option pp.deepTerms false
def c_pandectref06_short : VC := (.seq (.region [⟨(some 2), (.mv (.c (.bool false))), none⟩] false) (.seq (.seq (.region [⟨(some 3), (.mv (.c (.int .i64 0))), none⟩] false) (.block 0 (.loop (.seq (.seq (.region [⟨(some 4), (.mv (.t 3)), none⟩, ⟨(some 5), (.mv (.t 0)), none⟩, ⟨(some 6), (.len false (.t 5)), none⟩, ⟨(some 7), (.bin .lss (.t 4) (.t 6)), none⟩] false) (.cond (.t 7) .skip (.exit 0))) (.seq (.block 1 (.seq (.region [⟨(some 10), (.mv (.t 0)), none⟩, ⟨(some 11), (.mv (.t 3)), none⟩, ⟨(some 12), (.iaddr 4 (.t 10) (.t 11)), none⟩, ⟨(some 13), (.faddr 0 (.t 12)), none⟩, ⟨(some 14), (.load false 1 (.t 13)), none⟩, ⟨(some 15), (.len true (.t 14)), none⟩, ⟨(some 16), (.bin .gtr (.t 15) (.c (.int .i64 100))), none⟩] false) (.cond (.t 16) (.seq (.region [⟨(some 2), (.mv (.c (.bool false))), none⟩] false) .ret) .skip))) (.region [⟨(some 8), (.mv (.t 3)), none⟩, ⟨(some 9), (.bin .add (.t 8) (.c (.int .i64 1))), none⟩, ⟨(some 3), (.mv (.t 9)), none⟩] false)))))) (.seq (.region [⟨(some 17), (.mv (.t 0)), none⟩, ⟨(some 18), (.len false (.t 17)), none⟩, ⟨(some 19), (.bin .leq (.t 18) (.c (.int .i64 300))), none⟩, ⟨(some 2), (.mv (.t 19)), none⟩] false) .ret)))
def c_pandectref06_words : VC := (.seq (.region [⟨(some 1), (.box 8 (.t 0)), none⟩, ⟨(some 2), (.mv (.c (.bool false))), none⟩] false) (.seq (.seq (.region [⟨(some 4), (.faddr 4 (.t 1)), none⟩, ⟨(some 5), (.load false 1 (.t 4)), none⟩, ⟨(some 6), (.len true (.t 5)), none⟩, ⟨(some 7), (.bin .gtr (.t 6) (.c (.int .i64 30))), none⟩, ⟨(some 8), (.mv (.t 7)), none⟩, ⟨(some 9), (.faddr 5 (.t 1)), (some (8, false))⟩, ⟨(some 10), (.load false 1 (.t 9)), (some (8, false))⟩, ⟨(some 11), (.call 126 [(.t 10)]), (some (8, false))⟩, ⟨(some 12), (.un .not (.t 11)), (some (8, false))⟩, ⟨(some 13), (.pick (.t 8) (.c (.bool true)) (.t 12)), none⟩, ⟨(some 14), (.mv (.t 13)), none⟩, ⟨(some 15), (.faddr 6 (.t 1)), (some (14, false))⟩, ⟨(some 16), (.load false 1 (.t 15)), (some (14, false))⟩, ⟨(some 17), (.call 126 [(.t 16)]), (some (14, false))⟩, ⟨(some 18), (.un .not (.t 17)), (some (14, false))⟩, ⟨(some 19), (.pick (.t 14) (.c (.bool true)) (.t 18)), none⟩] false) (.cond (.t 19) (.seq (.region [⟨(some 2), (.mv (.c (.bool false))), none⟩] false) .ret) .skip)) (.seq (.seq (.region [⟨(some 3), (.mv (.c (.int .i64 0))), none⟩] false) (.block 0 (.loop (.seq (.seq (.region [⟨(some 20), (.mv (.t 3)), none⟩, ⟨(some 21), (.faddr 7 (.t 1)), none⟩, ⟨(some 22), (.load false 1 (.t 21)), none⟩, ⟨(some 23), (.len false (.t 22)), none⟩, ⟨(some 24), (.bin .lss (.t 20) (.t 23)), none⟩] false) (.cond (.t 24) .skip (.exit 0))) (.seq (.block 1 (.seq (.region [⟨(some 27), (.faddr 7 (.t 1)), none⟩, ⟨(some 28), (.load false 1 (.t 27)), none⟩, ⟨(some 29), (.mv (.t 3)), none⟩, ⟨(some 30), (.iaddr 8 (.t 28) (.t 29)), none⟩, ⟨(some 31), (.load true 8 (.t 30)), none⟩, ⟨(some 32), (.call 95 [(.t 31)]), none⟩, ⟨(some 33), (.un .not (.t 32)), none⟩] false) (.cond (.t 33) (.seq (.region [⟨(some 2), (.mv (.c (.bool false))), none⟩] false) .ret) .skip))) (.region [⟨(some 25), (.mv (.t 3)), none⟩, ⟨(some 26), (.bin .add (.t 25) (.c (.int .i64 1))), none⟩, ⟨(some 3), (.mv (.t 26)), none⟩] false)))))) (.seq (.region [⟨(some 2), (.mv (.c (.bool true))), none⟩] false) .ret))))
def c_pandectref06_size : VC := (.seq (.region [⟨(some 3), (.box 8 (.t 0)), none⟩, ⟨(some 6), (.mv (.c (.int .i64 0))), none⟩] false) (.seq (.seq (.region [⟨(some 9), (.mv (.t 1)), none⟩, ⟨(some 10), (.bin .gtr (.t 9) (.c (.int .i64 20))), none⟩] false) (.cond (.t 10) (.seq (.region [⟨(some 11), (.mv (.t 2)), none⟩, ⟨(some 12), (.bin .add (.t 11) (.c (.int .i64 1))), none⟩, ⟨(some 6), (.mv (.t 12)), none⟩] false) .ret) .skip)) (.seq (.region [⟨(some 7), (.mv (.c (.int .i64 1))), none⟩] false) (.seq (.seq (.region [⟨(some 8), (.mv (.c (.int .i64 0))), none⟩] false) (.block 0 (.loop (.seq (.seq (.region [⟨(some 13), (.mv (.t 8)), none⟩, ⟨(some 14), (.faddr 7 (.t 3)), none⟩, ⟨(some 15), (.load false 1 (.t 14)), none⟩, ⟨(some 16), (.len false (.t 15)), none⟩, ⟨(some 17), (.bin .lss (.t 13) (.t 16)), none⟩, ⟨(some 18), (.mv (.t 17)), none⟩, ⟨(some 19), (.mv (.t 7)), (some (18, true))⟩, ⟨(some 20), (.mv (.t 2)), (some (18, true))⟩, ⟨(some 21), (.bin .leq (.t 19) (.t 20)), (some (18, true))⟩, ⟨(some 22), (.pick (.t 18) (.t 21) (.c (.bool false))), none⟩] false) (.cond (.t 22) .skip (.exit 0))) (.seq (.block 1 (.region [⟨(some 25), (.mv (.t 7)), none⟩, ⟨(some 26), (.faddr 7 (.t 3)), none⟩, ⟨(some 27), (.load false 1 (.t 26)), none⟩, ⟨(some 28), (.mv (.t 8)), none⟩, ⟨(some 29), (.iaddr 8 (.t 27) (.t 28)), none⟩, ⟨(some 30), (.load true 8 (.t 29)), none⟩, ⟨(some 31), (.mv (.t 1)), none⟩, ⟨(some 32), (.bin .add (.t 31) (.c (.int .i64 1))), none⟩, ⟨(some 33), (.mv (.t 2)), none⟩, ⟨(some 34), (.mv (.t 7)), none⟩, ⟨(some 35), (.bin .sub (.t 33) (.t 34)), none⟩, ⟨(some 36), (.call 94 [(.t 30), (.t 32), (.t 35)]), none⟩, ⟨(some 37), (.bin .add (.t 25) (.t 36)), none⟩, ⟨(some 7), (.mv (.t 37)), none⟩] false)) (.region [⟨(some 23), (.mv (.t 8)), none⟩, ⟨(some 24), (.bin .add (.t 23) (.c (.int .i64 1))), none⟩, ⟨(some 8), (.mv (.t 24)), none⟩] false)))))) (.seq (.region [⟨(some 38), (.mv (.t 7)), none⟩, ⟨(some 6), (.mv (.t 38)), none⟩] false) .ret)))))
def c_pandectref06_Few : VC := (.seq (.region [⟨(some 2), (.box 8 (.t 0)), none⟩, ⟨(some 4), (.mv (.c (.bool false))), none⟩] false) (.seq (.region [⟨(some 5), (.load true 8 (.t 2)), none⟩, ⟨(some 6), (.mv (.t 1)), none⟩, ⟨(some 7), (.call 94 [(.t 5), (.c (.int .i64 0)), (.t 6)]), none⟩, ⟨(some 8), (.mv (.t 1)), none⟩, ⟨(some 9), (.bin .leq (.t 7) (.t 8)), none⟩, ⟨(some 10), (.mv (.t 9)), none⟩, ⟨(some 11), (.load true 8 (.t 2)), (some (10, true))⟩, ⟨(some 12), (.call 95 [(.t 11)]), (some (10, true))⟩, ⟨(some 13), (.pick (.t 10) (.t 12) (.c (.bool false))), none⟩, ⟨(some 4), (.mv (.t 13)), none⟩] false) .ret))
def anyB (p : PV) : Prop := ∃ b, p = .bool b
def anyI (p : PV) : Prop := ∃ n, p = pI n
theorem Zcm {h : Heap} (b : Bool) : ∃ p, View h (.bool b) p ∧ anyB p ∧ Closed p := ⟨_, View.refl _ _, ⟨b, rfl⟩, cB _⟩
theorem anyI_ret {h : Heap} (n : Int) : ∃ p, View h (pI n) p ∧ anyI p ∧ Closed p := ⟨_, View.refl _ _, ⟨n, rfl⟩, cI _⟩
theorem clo1 {p : PV} (h : Closed p) : Zav [p] := fun x hx => by simp only [List.mem_cons, List.not_mem_nil, or_false] at hx; subst hx; exact h
theorem clo2 {p q : PV} (h : Closed p) (k : Closed q) : Zav [p, q] := fun x hx => by
  simp only [List.mem_cons, List.not_mem_nil, or_false] at hx
  rcases hx with rfl | rfl
  · exact h
  · exact k
theorem clo3 {p q r : PV} (h : Closed p) (k : Closed q) (m : Closed r) : Zav [p, q, r] := fun x hx => by
  simp only [List.mem_cons, List.not_mem_nil, or_false] at hx
  rcases hx with rfl | rfl | rfl
  · exact h
  · exact k
  · exact m
theorem sp_short (l : List Wd) (hl : l.length ≤ maxLen) : PCallS Tryz.prog 126 [.sl 4 (l.map Wd.enc)] anyB := by
  have hl : l.length ≤ 9223372036854775807 := hl
  refine Zcs ?_ (clo1 (Zbd (fun w _ => Wd.closed w)))
  refine Zan (vc := c_pandectref06_short) (ts := [.t 2]) Go.Proofs.Tryz.func126 (by kernel_rfl) rfl rfl (Nat.le_of_ble_eq_true rfl) (by kernel_rfl) ?_
  unfold c_pandectref06_short
  refine Zad (Zaa [0] ?_)
  simp only [Zab, Zac, StepW, pok, pval, VA.ev, Env.get, Env.put, Env.keep, Zax, thenQ, Heap.nil, ite_true, ite_false, true_and, reduceCtorEq]
  refine Zad ?_
  refine Zad (Zaa [0, 3] ?_)
  simp only [Zab, Zac, StepW, pok, pval, VA.ev, Env.get, Env.put, Env.keep, thenQ, ite_true, ite_false, true_and, reduceCtorEq]
  refine Zag ?_
  refine Za1 (σ := { i : Nat // i ≤ l.length }) (fun s => ([(0, .sl 4 (l.map Wd.enc)), (3, pI s.1)], ⟨[], 0⟩)) (fun s => l.length - s.1) ⟨0, Nat.zero_le _⟩ ?_ ?_ ?_
  · try simp only [Env.get, Env.le, ite_true, ite_false, true_and, and_true, reduceCtorEq]
    all_goals (repeat' (first | rfl | trivial | omega | (simp only []; omega) | refine And.intro ?_ ?_))
  · try simp only [Heap.le, HL.le, Nat.le_refl, and_true]
    all_goals (repeat' (first | rfl | trivial | omega | (simp only []; omega) | refine And.intro ?_ ?_))
  rintro ⟨i, hi⟩
  simp only []
  refine Zad ?_
  refine Zad (Zaa [0, 3, 7] ?_)
  simp only [Zab, Zac, StepW, pok, pval, VA.ev, Env.get, Env.put, Env.keep, thenQ, intV, binV, binOk, lenV, lenOk, Heap.le, HL.le, Nat.succ_ne_self, Env.le, Nat.reduceEqDiff, ite_true, ite_false, true_and, and_true, reduceCtorEq, List.length_map]
  refine Zaf rfl (fun h1 => ?_) (fun h1 => ?_)
  · refine Zah ?_
    try simp only [thenQ]
    simp only [decide_eq_true_eq] at h1
    have ia : i < l.length := by omega
    refine Zad ?_
    refine Zag ?_
    refine Zad (Zaa [0, 3, 16] ?_)
    simp only [Zab, Zac, StepW, pok, pval, VA.ev, Env.get, Env.put, Env.keep, thenQ, aggV, intV, binV, binOk, isInt, numOf, lenV, Zal, Zak, Zae, locOk, Zau, Zao, lenOk, PV.nth, PV.row, Nat.succ_ne_self, List.length, List.getD_cons_zero, List.take, List.drop, List.take_succ_cons, Nat.reduceEqDiff, Nat.reduceAdd, Nat.reduceLeDiff, Bool.false_eq_true, ite_true, ite_false, true_and, and_true, implies_true, reduceCtorEq, Nat.zero_add, List.length_cons, Int.toNat_natCast, List.length_map, rowm ia, Wd.enc]
    repeat (with_reducible refine And.intro ?_ ?_; first | omega | (with_reducible constructor <;> omega) | exact False.elim | exact True.intro)
    refine Zaf rfl (fun h2 => ?_) (fun h2 => ?_)
    · refine Zad (Zaa [2] ?_)
      simp only [Zab, Zac, StepW, pok, pval, VA.ev, Env.get, Env.put, Env.keep, thenQ, Nat.succ_ne_self, Nat.reduceEqDiff, ite_true, ite_false, true_and, reduceCtorEq]
      refine Zam ?_
      try simp only [Env.get, thenQ, Zai, retQ, resV, resOk, RS.ev, RS.ok, ite_true, true_and, and_true]
      exact Zcm _
    refine Zah ?_
    try simp only [thenQ, Zai]
    refine Zaa [0, 3] ?_
    simp only [Zab, Zac, StepW, pok, pval, VA.ev, Env.get, Env.put, Env.keep, thenQ, intV, binV, binOk, Nat.le_refl, Nat.reduceEqDiff, ite_true, ite_false, true_and, reduceCtorEq, w64 (n := (i : Int) + 1) (by omega) (by omega)]
    refine ⟨⟨i + 1, by omega⟩, ?_⟩
    try simp only []
    all_goals (repeat' (first | rfl | trivial | omega | (simp only []; omega) | refine And.intro ?_ ?_))
  · refine Zay ?_
    try simp only [thenQ, Zai, retQ, ite_true]
    refine Zad (Zaa [2] ?_)
    simp only [Zab, Zac, StepW, pok, pval, VA.ev, Env.get, Env.put, Env.keep, thenQ, intV, binV, binOk, lenV, lenOk, Nat.succ_ne_self, Nat.reduceEqDiff, ite_true, ite_false, true_and, reduceCtorEq, List.length_map]
    refine Zam ?_
    try simp only [Env.get, retQ, resV, resOk, RS.ev, RS.ok, ite_true, true_and, and_true]
    exact Zcm _
theorem un_t8 (u : Un) : u.enc.take 8 = u.enc := List.take_of_length_le (by rw [rd.un_len]; exact Nat.le_refl _)
theorem sp_words (u : Un) (hu : u.ok) : PCallS Tryz.prog 95 [.agg u.enc] anyB := by
  have eu := Un.Zb5 u
  refine Zcs ?_ (clo1 (Zar (Un.closed _)))
  refine Zan (vc := c_pandectref06_words) (ts := [.t 2]) Go.Proofs.Tryz.func95 (by kernel_rfl) rfl rfl (Nat.le_of_ble_eq_true rfl) (by kernel_rfl) ?_
  unfold c_pandectref06_words
  refine Zad (Zaa [1] ?_)
  simp only [Zab, Zac, StepW, pok, pval, VA.ev, Env.get, Env.put, Env.keep, Zax, thenQ, PV.cells, PV.fits, Heap.push, Heap.nil, Nat.succ_ne_self, List.length, Nat.reduceAdd, ite_true, ite_false, true_and, reduceCtorEq, BEq.rfl, Nat.zero_add, eu]
  refine Zad ?_
  refine VW_seqE (σ := Bool) [1, 19] (fun s => [(1, .loc 0 0 0), (19, .bool s)]) ?_ (fun b => ?_)
  · simp only [Zac, StepW, pok, pval, VA.ev, Env.get, Env.put, Env.keep, aggV, intV, binV, binOk, lenV, Zal, Zak, Zae, locOk, lenOk, PV.nth, PV.row, Heap.get, HL.get, Env.le, List.length, List.getD_cons_zero, List.take, List.drop, List.take_succ_cons, List.drop_succ_cons, Nat.reduceEqDiff, Nat.reduceAdd, Nat.reduceLT, Nat.reduceLeDiff, Bool.false_eq_true, ite_true, ite_false, true_and, and_true, implies_true, Nat.zero_add, List.length_cons]
    refine Zbg rfl (fun g1 => ?_) (fun g1 => ?_)
    rotate_left
    · simp only [Zab, Zac, Zbo, StepW, pok, pval, VA.ev, Env.get, Env.put, pickV, isBool, Nat.succ_ne_self, Nat.reduceEqDiff, ite_true, ite_false, true_and, and_true, Bool.not_false, g1]
      exact ⟨true, by first | trivial | rfl | exact ⟨rfl, rfl⟩⟩
    simp only [Zac, Za0, StepW, pok, pval, VA.ev, Env.get, Env.put, pickV, isBool, aggV, unV, unOk, Zal, Zak, Zae, locOk, PV.nth, PV.row, Heap.get, HL.get, Nat.succ_ne_self, List.map, List.length, List.getD_cons_zero, List.take, List.drop, List.take_succ_cons, List.drop_succ_cons, Nat.reduceEqDiff, Nat.reduceAdd, Nat.reduceLT, Nat.reduceLeDiff, Bool.false_eq_true, ite_true, ite_false, true_and, and_true, implies_true, Nat.zero_add, List.length_cons, g1]
    refine Zc5 (sp_short u.head (un_ok_head hu)) ?_
    rintro p ⟨b1, rfl⟩
    cases b1 with
    | false =>
      simp only [Zab, Zac, Zbo, StepW, pok, pval, VA.ev, Env.get, Env.put, pickV, isBool, Nat.succ_ne_self, Nat.reduceEqDiff, ite_true, ite_false, true_and, and_true, Bool.not_false]
      exact ⟨true, by first | trivial | rfl⟩
    | true =>
      simp only [Zab, Zac, Za0, StepW, pok, pval, VA.ev, Env.get, Env.put, pickV, isBool, aggV, unV, unOk, Zal, Zak, Zae, locOk, PV.nth, PV.row, Heap.get, HL.get, Nat.succ_ne_self, List.map, List.length, List.getD_cons_zero, List.take, List.drop, List.take_succ_cons, List.drop_succ_cons, Nat.reduceEqDiff, Nat.reduceAdd, Nat.reduceLT, Nat.reduceLeDiff, Bool.false_eq_true, ite_true, ite_false, true_and, and_true, implies_true, Nat.zero_add, List.length_cons, Bool.not_true]
      refine Zc5 (sp_short u.words (un_ok_words hu)) ?_
      rintro p ⟨b2, rfl⟩
      simp only [true_and, and_true]
      exact ⟨!b2, by first | trivial | rfl⟩
  refine Zaf rfl (fun h1 => ?_) (fun h1 => ?_)
  · refine Zad (Zaa [2] ?_)
    simp only [Zab, Zac, StepW, pok, pval, VA.ev, Env.get, Env.put, Env.keep, thenQ, Nat.reduceEqDiff, ite_true, ite_false, true_and]
    refine Zam ?_
    try simp only [Env.get, thenQ, retQ, resV, resOk, RS.ev, RS.ok, ite_true, true_and, and_true]
    exact Zcm _
  refine Zah ?_
  try simp only [thenQ]
  have hkl : u.kids.length ≤ 9223372036854775807 := (un_ok_kids hu).1
  refine Zad ?_
  refine Zad (Zaa [1, 3] ?_)
  simp only [Zab, Zac, StepW, pok, pval, VA.ev, Env.get, Env.put, Env.keep, thenQ, Nat.reduceEqDiff, ite_true, ite_false, true_and]
  refine Zag ?_
  refine Za1 (σ := { i : Nat // i ≤ u.kids.length }) (fun s => ([(1, .loc 0 0 0), (3, pI s.1)], ⟨[(0, .arr false 8 [u.enc])], 1⟩)) (fun s => u.kids.length - s.1) ⟨0, Nat.zero_le _⟩ ?_ ?_ ?_
  · try simp only [Env.get, Env.le, Nat.reduceEqDiff, ite_true, ite_false, true_and, and_true]
    all_goals (repeat' (first | rfl | trivial | omega | (simp only []; omega) | refine And.intro ?_ ?_))
  · try simp only [Heap.get, Heap.le, HL.get, HL.le, Nat.le_refl, ite_true, and_true, eu]
    all_goals (repeat' (first | rfl | trivial | omega | (simp only []; omega) | refine And.intro ?_ ?_))
  rintro ⟨i, hi⟩
  simp only []
  refine Zad ?_
  refine Zad (Zaa [1, 3, 24] ?_)
  simp only [Zab, Zac, StepW, pok, pval, VA.ev, Env.get, Env.put, Env.keep, thenQ, aggV, intV, binV, binOk, lenV, Zal, Zak, Zae, locOk, lenOk, PV.nth, PV.row, Heap.get, Heap.le, HL.get, HL.le, Nat.le_refl, Nat.succ_ne_self, Env.le, List.length, List.getD_cons_zero, List.take, List.drop, List.take_succ_cons, List.drop_succ_cons, Nat.reduceEqDiff, Nat.reduceLT, Bool.false_eq_true, ite_true, ite_false, true_and, and_true, implies_true, Nat.zero_add, List.length_cons, eu, List.length_map]
  refine Zaf rfl (fun h1 => ?_) (fun h1 => ?_)
  · refine Zah ?_
    try simp only [thenQ]
    simp only [decide_eq_true_eq] at h1
    have ia : i < u.kids.length := by omega
    refine Zad ?_
    refine Zag ?_
    refine Zad (Zaa [1, 3, 33] ?_)
    simp only [Zab, Zac, StepW, pok, pval, VA.ev, Env.get, Env.put, Env.keep, thenQ, aggV, unV, unOk, isInt, numOf, lenV, Zal, Zak, Zae, locOk, Zau, Zao, PV.nth, PV.row, Heap.get, HL.get, Nat.le_refl, Nat.succ_ne_self, List.map, List.length, List.getD_cons_zero, List.take, List.drop, List.take_succ_cons, List.drop_succ_cons, Nat.reduceEqDiff, Nat.reduceLT, Bool.false_eq_true, Bool.true_eq_false, ite_true, ite_false, true_and, and_true, implies_true, Nat.zero_add, List.length_cons, imp_self, Int.toNat_natCast, eu, List.length_map, rowm ia, un_t8, rd.un_len]
    repeat (with_reducible refine And.intro ?_ ?_; first | omega | (with_reducible constructor <;> omega) | exact False.elim | exact True.intro)
    refine Zc5 (sp_words u.kids[i] ((un_ok_kids hu).2 _ (List.getElem_mem ia))) ?_
    rintro p ⟨b2, rfl⟩
    simp only [true_and]
    refine Zaf rfl (fun h2 => ?_) (fun h2 => ?_)
    · refine Zad (Zaa [2] ?_)
      simp only [Zab, Zac, StepW, pok, pval, VA.ev, Env.get, Env.put, Env.keep, thenQ, Nat.succ_ne_self, Nat.reduceEqDiff, ite_true, ite_false, true_and]
      refine Zam ?_
      try simp only [Env.get, thenQ, Zai, retQ, resV, resOk, RS.ev, RS.ok, ite_true, true_and, and_true]
      exact Zcm _
    refine Zah ?_
    try simp only [thenQ, Zai]
    refine Zaa [1, 3] ?_
    simp only [Zab, Zac, StepW, pok, pval, VA.ev, Env.get, Env.put, Env.keep, thenQ, intV, binV, binOk, HL.get, Nat.le_refl, Nat.reduceEqDiff, ite_true, ite_false, true_and, and_true, w64 (n := (i : Int) + 1) (by omega) (by omega)]
    refine ⟨⟨i + 1, by omega⟩, ?_⟩
    try simp only [eu]
    all_goals (repeat' (first | rfl | trivial | omega | (simp only []; omega) | refine And.intro ?_ ?_))
  · refine Zay ?_
    try simp only [thenQ, Zai, retQ, ite_true]
    refine Zad (Zaa [2] ?_)
    simp only [Zab, Zac, StepW, pok, pval, VA.ev, Env.get, Env.put, Env.keep, thenQ, Nat.succ_ne_self, Nat.reduceEqDiff, ite_true, ite_false, true_and]
    refine Zam ?_
    try simp only [Env.get, retQ, resV, resOk, RS.ev, RS.ok, ite_true, true_and, and_true]
    exact Zcm _
termination_by SizeOf.sizeOf u
decreasing_by exact un_size ia
theorem sp_size (u : Un) (hu : u.ok) (deep most : Int) : PCallS Tryz.prog 94 [.agg u.enc, pI deep, pI most] anyI := by
  have eu := Un.Zb5 u
  refine Zcs ?_ (clo3 (Zar (Un.closed _)) (cI _) (cI _))
  refine Zan (vc := c_pandectref06_size) (ts := [.t 6]) Go.Proofs.Tryz.func94 (by kernel_rfl) rfl rfl (Nat.le_of_ble_eq_true rfl) (by kernel_rfl) ?_
  unfold c_pandectref06_size
  refine Zad (Zaa [1, 2, 3] ?_)
  simp only [Zab, Zac, StepW, pok, pval, VA.ev, Env.get, Env.put, Env.keep, Zax, thenQ, PV.cells, PV.fits, Heap.push, Heap.nil, Nat.succ_ne_self, List.length, Nat.reduceEqDiff, Nat.reduceAdd, ite_true, ite_false, true_and, reduceCtorEq, BEq.rfl, Nat.zero_add, eu]
  refine Zad ?_
  refine Zad (Zaa [1, 2, 3, 10] ?_)
  simp only [Zab, Zac, StepW, pok, pval, VA.ev, Env.get, Env.put, Env.keep, thenQ, intV, binV, binOk, Nat.succ_ne_self, Nat.reduceEqDiff, ite_true, ite_false, true_and]
  refine Zaf rfl (fun h1 => ?_) (fun h1 => ?_)
  · refine Zad (Zaa [6] ?_)
    simp only [Zab, Zac, StepW, pok, pval, VA.ev, Env.get, Env.put, Env.keep, thenQ, intV, binV, binOk, Nat.succ_ne_self, Nat.reduceEqDiff, ite_true, ite_false, true_and]
    refine Zam ?_
    try simp only [Env.get, thenQ, retQ, resV, resOk, RS.ev, RS.ok, ite_true, true_and, and_true]
    exact anyI_ret _
  refine Zah ?_
  try simp only [thenQ]
  have hkl : u.kids.length ≤ 9223372036854775807 := (un_ok_kids hu).1
  refine Zad (Zaa [1, 2, 3, 7] ?_)
  simp only [Zab, Zac, StepW, pok, pval, VA.ev, Env.get, Env.put, Env.keep, thenQ, Nat.succ_ne_self, Nat.reduceEqDiff, ite_true, ite_false, true_and]
  refine Zad ?_
  refine Zad (Zaa [1, 2, 3, 7, 8] ?_)
  simp only [Zab, Zac, StepW, pok, pval, VA.ev, Env.get, Env.put, Env.keep, thenQ, Nat.succ_ne_self, Nat.reduceEqDiff, ite_true, ite_false, true_and]
  refine Zag ?_
  refine Za1 (σ := { s : Nat × Int // s.1 ≤ u.kids.length }) (fun s => ([(1, pI deep), (2, pI most), (3, .loc 0 0 0), (7, pI s.1.2), (8, pI s.1.1)], ⟨[(0, .arr false 8 [u.enc])], 1⟩)) (fun s => u.kids.length - s.1.1) ⟨(0, 1), Nat.zero_le _⟩ ?_ ?_ ?_
  · try simp only [Env.get, Nat.succ_ne_self, Env.le, Nat.reduceEqDiff, ite_true, ite_false, true_and, and_true]
    all_goals (repeat' (first | rfl | trivial | omega | (simp only []; omega) | refine And.intro ?_ ?_))
  · try simp only [Heap.get, Heap.le, HL.get, HL.le, Nat.le_refl, ite_true, and_true, eu]
    all_goals (repeat' (first | rfl | trivial | omega | (simp only []; omega) | refine And.intro ?_ ?_))
  rintro ⟨⟨i, n⟩, hi⟩
  simp only [] at hi ⊢
  refine Zad ?_
  refine VW_seqE (σ := { b : Bool // b = true → i < u.kids.length }) [1, 2, 3, 7, 8, 22] (fun s => [(1, pI deep), (2, pI most), (3, .loc 0 0 0), (7, pI n), (8, pI i), (22, .bool s.1)]) ?_ (fun b => ?_)
  · by_cases ia : i < u.kids.length
    · have e1 : decide ((i : Int) < (u.kids.length : Int)) = true := decide_eq_true (by omega)
      simp only [Zab, Zac, Za0, StepW, pok, pval, VA.ev, Env.get, Env.put, Env.keep, pickV, isBool, aggV, intV, binV, binOk, lenV, Zal, Zak, Zae, locOk, lenOk, PV.nth, PV.row, Heap.get, HL.get, Nat.le_refl, Nat.succ_ne_self, Env.le, List.length, List.getD_cons_zero, List.take, List.drop, List.take_succ_cons, List.drop_succ_cons, Nat.reduceEqDiff, Nat.reduceLT, Bool.false_eq_true, ite_true, ite_false, true_and, and_true, implies_true, Nat.zero_add, List.length_cons, eu, List.length_map, e1]
      exact ⟨⟨_, fun _ => ia⟩, by first | trivial | rfl⟩
    · have e1 : decide ((i : Int) < (u.kids.length : Int)) = false := decide_eq_false (by omega)
      simp only [Zab, Zac, Zba, StepW, pok, pval, VA.ev, Env.get, Env.put, Env.keep, pickV, isBool, aggV, intV, binV, binOk, lenV, Zal, Zak, Zae, locOk, lenOk, PV.nth, PV.row, Heap.get, HL.get, Nat.le_refl, Nat.succ_ne_self, Env.le, List.length, List.getD_cons_zero, List.take, List.drop, List.take_succ_cons, List.drop_succ_cons, Nat.reduceEqDiff, Nat.reduceLT, Bool.false_eq_true, ite_true, ite_false, true_and, and_true, implies_true, Nat.zero_add, List.length_cons, eu, List.length_map, e1]
      exact ⟨⟨false, fun h => Bool.noConfusion h⟩, by first | trivial | rfl⟩
  obtain ⟨b, hb⟩ := b
  refine Zaf rfl (fun h1 => ?_) (fun h1 => ?_)
  · refine Zah ?_
    try simp only [thenQ, Heap.get, Heap.le, HL.le, Env.le, and_true]
    have ia := hb h1
    refine Zad ?_
    refine Zag ?_
    refine Zaa [1, 2, 3, 7, 8] ?_
    simp only [Zab, Zac, StepW, pok, pval, VA.ev, Env.get, Env.put, Env.keep, thenQ, Zai, aggV, intV, binV, binOk, strV, isInt, numOf, lenV, Zal, Zak, Zae, locOk, Zau, Zao, PV.nth, PV.row, Heap.get, HL.get, Nat.le_refl, Nat.succ_ne_self, List.map, List.length, List.getD_cons_zero, List.take, List.drop, List.take_succ_cons, List.drop_succ_cons, Nat.reduceEqDiff, Nat.reduceLT, Bool.false_eq_true, Bool.true_eq_false, ite_true, ite_false, true_and, and_true, implies_true, Nat.zero_add, List.length_cons, imp_self, Int.toNat_natCast, eu, List.length_map, rowm ia, un_t8, rd.un_len]
    repeat (with_reducible refine And.intro ?_ ?_; first | omega | (with_reducible constructor <;> omega) | exact False.elim | exact True.intro)
    refine Zc5 (sp_size u.kids[i] ((un_ok_kids hu).2 _ (List.getElem_mem ia)) _ _) ?_
    rintro p ⟨m, rfl⟩
    simp only [true_and]
    refine Zaa [1, 2, 3, 7, 8] ?_
    simp only [Zab, Zac, StepW, pok, pval, VA.ev, Env.get, Env.put, Env.keep, thenQ, intV, binV, binOk, HL.get, Nat.le_refl, Nat.succ_ne_self, Nat.reduceEqDiff, ite_true, ite_false, true_and, and_true, w64 (n := (i : Int) + 1) (by omega) (by omega)]
    refine ⟨⟨(i + 1, IntKind.i64.wrap (n + m)), by show i + 1 ≤ u.kids.length; omega⟩, ?_⟩
    try simp only [true_and, eu]
    all_goals (repeat' (first | rfl | trivial | omega | (simp only []; omega) | refine And.intro ?_ ?_))
  · refine Zay ?_
    try simp only [thenQ, Zai, retQ, ite_true]
    refine Zad (Zaa [6] ?_)
    simp only [Zab, Zac, StepW, pok, pval, VA.ev, Env.get, Env.put, Env.keep, thenQ, Nat.succ_ne_self, Nat.reduceEqDiff, ite_true, ite_false, true_and]
    refine Zam ?_
    try simp only [Env.get, retQ, resV, resOk, RS.ev, RS.ok, ite_true, true_and, and_true]
    exact anyI_ret _
termination_by SizeOf.sizeOf u
decreasing_by exact un_size ia
theorem sp_few06 (u : Un) (hu : u.ok) (most : Int) : PCallS Tryz.prog 66 [.agg u.enc, pI most] anyB := by
  have eu := Un.Zb5 u
  refine Zcs ?_ (clo2 (Zar (Un.closed _)) (cI _))
  refine Zan (vc := c_pandectref06_Few) (ts := [.t 4]) Go.Proofs.Tryz.func66 (by kernel_rfl) rfl rfl (Nat.le_of_ble_eq_true rfl) (by kernel_rfl) ?_
  unfold c_pandectref06_Few
  refine Zad (Zaa [1, 2, 4] ?_)
  simp only [Zab, Zac, StepW, pok, pval, VA.ev, Env.get, Env.put, Env.keep, Zax, thenQ, PV.cells, PV.fits, Heap.push, Heap.nil, Nat.succ_ne_self, List.length, Nat.reduceEqDiff, Nat.reduceAdd, ite_true, ite_false, true_and, reduceCtorEq, BEq.rfl, Nat.zero_add, eu]
  refine Zad (Zaa [4] ?_)
  simp only [Zac, StepW, pok, pval, VA.ev, Env.get, Env.put, Env.keep, thenQ, aggV, intV, binV, binOk, strV, Zae, locOk, PV.nth, PV.row, Heap.get, HL.get, Nat.le_refl, Nat.succ_ne_self, List.map, List.length, List.getD_cons_zero, List.take, List.drop, List.take_succ_cons, Nat.reduceEqDiff, Nat.reduceAdd, Nat.reduceLT, Bool.true_eq_false, ite_true, ite_false, true_and, and_true, Nat.zero_add, List.length_cons, imp_self]
  rw [← eu]
  refine Zc5 (sp_size u hu _ _) ?_
  rintro p ⟨m, rfl⟩
  simp only [true_and]
  cases e1 : decide (m ≤ most) with
  | true =>
    simp only [Zab, Zac, Za0, StepW, pok, pval, VA.ev, Env.get, Env.put, pickV, isBool, aggV, Zae, locOk, PV.nth, PV.row, Heap.get, HL.get, Nat.le_refl, Nat.succ_ne_self, List.map, List.length, List.getD_cons_zero, List.drop, Nat.reduceEqDiff, Nat.reduceLT, Bool.true_eq_false, ite_true, ite_false, true_and, and_true, Nat.zero_add, imp_self, e1, rd.un_len, un_t8]
    repeat (with_reducible refine And.intro ?_ ?_; first | omega | (with_reducible constructor <;> omega) | exact False.elim | exact True.intro)
    refine Zc5 (sp_words u hu) ?_
    rintro p ⟨b, rfl⟩
    skip
    refine Zam ?_
    try simp only [Env.get, retQ, resV, resOk, RS.ev, RS.ok, ite_true, true_and, and_true]
    exact Zcm _
  | false =>
    simp only [Zab, Zac, Zba, StepW, pok, pval, VA.ev, Env.get, Env.put, pickV, isBool, Nat.succ_ne_self, Nat.reduceEqDiff, Bool.false_eq_true, ite_true, ite_false, true_and, e1]
    refine Zam ?_
    try simp only [Env.get, retQ, resV, resOk, RS.ev, RS.ok, ite_true, true_and, and_true]
    exact Zcm _
end Go.Proofs.YtehokmhebnkfdaaGreat.w
namespace Go.Proofs.YtehokmhebnkfdaaGreat.w
open Go Go.VM
set_option maxRecDepth 20000
set_option maxHeartbeats 0
set_option pp.deepTerms false
def c_pandectref17_Few : VC := (.seq (.region [⟨(some 1), (.box 25 (.t 0)), none⟩, ⟨(some 2), (.mv (.c (.bool false))), none⟩] false) (.seq (.seq (.region [⟨(some 8), (.faddr 1 (.t 1)), none⟩, ⟨(some 9), (.load false 1 (.t 8)), none⟩, ⟨(some 10), (.len false (.t 9)), none⟩, ⟨(some 11), (.bin .gtr (.t 10) (.c (.int .i64 12))), none⟩, ⟨(some 12), (.mv (.t 11)), none⟩, ⟨(some 13), (.faddr 2 (.t 1)), (some (12, false))⟩, ⟨(some 14), (.load false 1 (.t 13)), (some (12, false))⟩, ⟨(some 15), (.len false (.t 14)), (some (12, false))⟩, ⟨(some 16), (.bin .gtr (.t 15) (.c (.int .i64 12))), (some (12, false))⟩, ⟨(some 17), (.pick (.t 12) (.c (.bool true)) (.t 16)), none⟩, ⟨(some 18), (.mv (.t 17)), none⟩, ⟨(some 19), (.faddr 13 (.t 1)), (some (18, false))⟩, ⟨(some 20), (.load false 1 (.t 19)), (some (18, false))⟩, ⟨(some 21), (.len false (.t 20)), (some (18, false))⟩, ⟨(some 22), (.bin .gtr (.t 21) (.c (.int .i64 300))), (some (18, false))⟩, ⟨(some 23), (.pick (.t 18) (.c (.bool true)) (.t 22)), none⟩, ⟨(some 24), (.mv (.t 23)), none⟩, ⟨(some 25), (.faddr 14 (.t 1)), (some (24, false))⟩, ⟨(some 26), (.load false 1 (.t 25)), (some (24, false))⟩, ⟨(some 27), (.len false (.t 26)), (some (24, false))⟩, ⟨(some 28), (.bin .gtr (.t 27) (.c (.int .i64 300))), (some (24, false))⟩, ⟨(some 29), (.pick (.t 24) (.c (.bool true)) (.t 28)), none⟩, ⟨(some 30), (.mv (.t 29)), none⟩, ⟨(some 31), (.faddr 15 (.t 1)), (some (30, false))⟩, ⟨(some 32), (.load false 1 (.t 31)), (some (30, false))⟩, ⟨(some 33), (.len true (.t 32)), (some (30, false))⟩, ⟨(some 34), (.bin .gtr (.t 33) (.c (.int .i64 100))), (some (30, false))⟩, ⟨(some 35), (.pick (.t 30) (.c (.bool true)) (.t 34)), none⟩, ⟨(some 36), (.mv (.t 35)), none⟩, ⟨(some 37), (.faddr 16 (.t 1)), (some (36, false))⟩, ⟨(some 38), (.load false 1 (.t 37)), (some (36, false))⟩, ⟨(some 39), (.len true (.t 38)), (some (36, false))⟩, ⟨(some 40), (.bin .gtr (.t 39) (.c (.int .i64 100))), (some (36, false))⟩, ⟨(some 41), (.pick (.t 36) (.c (.bool true)) (.t 40)), none⟩, ⟨(some 42), (.mv (.t 41)), none⟩, ⟨(some 43), (.faddr 17 (.t 1)), (some (42, false))⟩, ⟨(some 44), (.faddr 2 (.t 43)), (some (42, false))⟩, ⟨(some 45), (.load false 1 (.t 44)), (some (42, false))⟩, ⟨(some 46), (.len true (.t 45)), (some (42, false))⟩, ⟨(some 47), (.bin .gtr (.t 46) (.c (.int .i64 100))), (some (42, false))⟩, ⟨(some 48), (.pick (.t 42) (.c (.bool true)) (.t 47)), none⟩, ⟨(some 49), (.mv (.t 48)), none⟩, ⟨(some 50), (.faddr 23 (.t 1)), (some (49, false))⟩, ⟨(some 51), (.load false 1 (.t 50)), (some (49, false))⟩, ⟨(some 52), (.len true (.t 51)), (some (49, false))⟩, ⟨(some 53), (.bin .gtr (.t 52) (.c (.int .i64 100))), (some (49, false))⟩, ⟨(some 54), (.pick (.t 49) (.c (.bool true)) (.t 53)), none⟩, ⟨(some 55), (.mv (.t 54)), none⟩, ⟨(some 56), (.faddr 24 (.t 1)), (some (55, false))⟩, ⟨(some 57), (.load false 1 (.t 56)), (some (55, false))⟩, ⟨(some 58), (.len false (.t 57)), (some (55, false))⟩, ⟨(some 59), (.bin .gtr (.t 58) (.c (.int .i64 2))), (some (55, false))⟩, ⟨(some 60), (.pick (.t 55) (.c (.bool true)) (.t 59)), none⟩, ⟨(some 61), (.mv (.t 60)), none⟩, ⟨(some 62), (.faddr 5 (.t 1)), (some (61, false))⟩, ⟨(some 63), (.load true 8 (.t 62)), (some (61, false))⟩, ⟨(some 64), (.call 66 [(.t 63), (.c (.int .i64 30))]), (some (61, false))⟩, ⟨(some 65), (.un .not (.t 64)), (some (61, false))⟩, ⟨(some 66), (.pick (.t 61) (.c (.bool true)) (.t 65)), none⟩] false) (.cond (.t 66) (.seq (.region [⟨(some 2), (.mv (.c (.bool false))), none⟩] false) .ret) .skip)) (.seq (.seq (.region [⟨(some 3), (.mv (.c (.int .i64 0))), none⟩] false) (.block 0 (.loop (.seq (.seq (.region [⟨(some 67), (.mv (.t 3)), none⟩, ⟨(some 68), (.faddr 13 (.t 1)), none⟩, ⟨(some 69), (.load false 1 (.t 68)), none⟩, ⟨(some 70), (.len false (.t 69)), none⟩, ⟨(some 71), (.bin .lss (.t 67) (.t 70)), none⟩] false) (.cond (.t 71) .skip (.exit 0))) (.seq (.block 1 (.seq (.region [⟨(some 74), (.faddr 13 (.t 1)), none⟩, ⟨(some 75), (.load false 1 (.t 74)), none⟩, ⟨(some 76), (.mv (.t 3)), none⟩, ⟨(some 77), (.iaddr 1 (.t 75) (.t 76)), none⟩, ⟨(some 78), (.load false 1 (.t 77)), none⟩, ⟨(some 79), (.len true (.t 78)), none⟩, ⟨(some 80), (.bin .gtr (.t 79) (.c (.int .i64 100))), none⟩] false) (.cond (.t 80) (.seq (.region [⟨(some 2), (.mv (.c (.bool false))), none⟩] false) .ret) .skip))) (.region [⟨(some 72), (.mv (.t 3)), none⟩, ⟨(some 73), (.bin .add (.t 72) (.c (.int .i64 1))), none⟩, ⟨(some 3), (.mv (.t 73)), none⟩] false)))))) (.seq (.seq (.region [⟨(some 4), (.mv (.c (.int .i64 0))), none⟩] false) (.block 2 (.loop (.seq (.seq (.region [⟨(some 81), (.mv (.t 4)), none⟩, ⟨(some 82), (.faddr 14 (.t 1)), none⟩, ⟨(some 83), (.load false 1 (.t 82)), none⟩, ⟨(some 84), (.len false (.t 83)), none⟩, ⟨(some 85), (.bin .lss (.t 81) (.t 84)), none⟩] false) (.cond (.t 85) .skip (.exit 2))) (.seq (.block 3 (.seq (.region [⟨(some 88), (.faddr 14 (.t 1)), none⟩, ⟨(some 89), (.load false 1 (.t 88)), none⟩, ⟨(some 90), (.mv (.t 4)), none⟩, ⟨(some 91), (.iaddr 1 (.t 89) (.t 90)), none⟩, ⟨(some 92), (.load false 1 (.t 91)), none⟩, ⟨(some 93), (.len true (.t 92)), none⟩, ⟨(some 94), (.bin .gtr (.t 93) (.c (.int .i64 100))), none⟩] false) (.cond (.t 94) (.seq (.region [⟨(some 2), (.mv (.c (.bool false))), none⟩] false) .ret) .skip))) (.region [⟨(some 86), (.mv (.t 4)), none⟩, ⟨(some 87), (.bin .add (.t 86) (.c (.int .i64 1))), none⟩, ⟨(some 4), (.mv (.t 87)), none⟩] false)))))) (.seq (.seq (.region [⟨(some 5), (.mv (.c (.int .i64 0))), none⟩] false) (.block 4 (.loop (.seq (.seq (.region [⟨(some 95), (.mv (.t 5)), none⟩, ⟨(some 96), (.faddr 1 (.t 1)), none⟩, ⟨(some 97), (.load false 1 (.t 96)), none⟩, ⟨(some 98), (.len false (.t 97)), none⟩, ⟨(some 99), (.bin .lss (.t 95) (.t 98)), none⟩] false) (.cond (.t 99) .skip (.exit 4))) (.seq (.block 5 (.seq (.region [⟨(some 102), (.faddr 1 (.t 1)), none⟩, ⟨(some 103), (.load false 1 (.t 102)), none⟩, ⟨(some 104), (.mv (.t 5)), none⟩, ⟨(some 105), (.iaddr 2 (.t 103) (.t 104)), none⟩, ⟨(some 106), (.faddr 1 (.t 105)), none⟩, ⟨(some 107), (.load false 1 (.t 106)), none⟩, ⟨(some 108), (.len true (.t 107)), none⟩, ⟨(some 109), (.bin .gtr (.t 108) (.c (.int .i64 100))), none⟩] false) (.cond (.t 109) (.seq (.region [⟨(some 2), (.mv (.c (.bool false))), none⟩] false) .ret) .skip))) (.region [⟨(some 100), (.mv (.t 5)), none⟩, ⟨(some 101), (.bin .add (.t 100) (.c (.int .i64 1))), none⟩, ⟨(some 5), (.mv (.t 101)), none⟩] false)))))) (.seq (.seq (.region [⟨(some 6), (.mv (.c (.int .i64 0))), none⟩] false) (.block 6 (.loop (.seq (.seq (.region [⟨(some 110), (.mv (.t 6)), none⟩, ⟨(some 111), (.faddr 2 (.t 1)), none⟩, ⟨(some 112), (.load false 1 (.t 111)), none⟩, ⟨(some 113), (.len false (.t 112)), none⟩, ⟨(some 114), (.bin .lss (.t 110) (.t 113)), none⟩] false) (.cond (.t 114) .skip (.exit 6))) (.seq (.block 7 (.seq (.region [⟨(some 117), (.faddr 2 (.t 1)), none⟩, ⟨(some 118), (.load false 1 (.t 117)), none⟩, ⟨(some 119), (.mv (.t 6)), none⟩, ⟨(some 120), (.iaddr 2 (.t 118) (.t 119)), none⟩, ⟨(some 121), (.faddr 1 (.t 120)), none⟩, ⟨(some 122), (.load false 1 (.t 121)), none⟩, ⟨(some 123), (.len true (.t 122)), none⟩, ⟨(some 124), (.bin .gtr (.t 123) (.c (.int .i64 100))), none⟩] false) (.cond (.t 124) (.seq (.region [⟨(some 2), (.mv (.c (.bool false))), none⟩] false) .ret) .skip))) (.region [⟨(some 115), (.mv (.t 6)), none⟩, ⟨(some 116), (.bin .add (.t 115) (.c (.int .i64 1))), none⟩, ⟨(some 6), (.mv (.t 116)), none⟩] false)))))) (.seq (.seq (.region [⟨(some 7), (.mv (.c (.int .i64 0))), none⟩] false) (.block 8 (.loop (.seq (.seq (.region [⟨(some 125), (.mv (.t 7)), none⟩, ⟨(some 126), (.faddr 24 (.t 1)), none⟩, ⟨(some 127), (.load false 1 (.t 126)), none⟩, ⟨(some 128), (.len false (.t 127)), none⟩, ⟨(some 129), (.bin .lss (.t 125) (.t 128)), none⟩] false) (.cond (.t 129) .skip (.exit 8))) (.seq (.block 9 (.seq (.region [⟨(some 132), (.faddr 24 (.t 1)), none⟩, ⟨(some 133), (.load false 1 (.t 132)), none⟩, ⟨(some 134), (.mv (.t 7)), none⟩, ⟨(some 135), (.iaddr 25 (.t 133) (.t 134)), none⟩, ⟨(some 136), (.faddr 24 (.t 135)), none⟩, ⟨(some 137), (.load false 1 (.t 136)), none⟩, ⟨(some 138), (.len false (.t 137)), none⟩, ⟨(some 139), (.bin .gtr (.t 138) (.c (.int .i64 0))), none⟩, ⟨(some 140), (.mv (.t 139)), none⟩, ⟨(some 141), (.faddr 24 (.t 1)), (some (140, true))⟩, ⟨(some 142), (.load false 1 (.t 141)), (some (140, true))⟩, ⟨(some 143), (.mv (.t 7)), (some (140, true))⟩, ⟨(some 144), (.iaddr 25 (.t 142) (.t 143)), (some (140, true))⟩, ⟨(some 145), (.faddr 24 (.t 144)), (some (140, true))⟩, ⟨(some 146), (.load false 1 (.t 145)), (some (140, true))⟩, ⟨(some 147), (.iaddr 25 (.t 146) (.c (.int .i64 0))), (some (140, true))⟩, ⟨(some 148), (.faddr 24 (.t 147)), (some (140, true))⟩, ⟨(some 149), (.load false 1 (.t 148)), (some (140, true))⟩, ⟨(some 150), (.len false (.t 149)), (some (140, true))⟩, ⟨(some 151), (.bin .gtr (.t 150) (.c (.int .i64 0))), (some (140, true))⟩, ⟨(some 152), (.pick (.t 140) (.t 151) (.c (.bool false))), none⟩, ⟨(some 153), (.mv (.t 152)), none⟩, ⟨(some 154), (.faddr 24 (.t 1)), (some (153, false))⟩, ⟨(some 155), (.load false 1 (.t 154)), (some (153, false))⟩, ⟨(some 156), (.mv (.t 7)), (some (153, false))⟩, ⟨(some 157), (.iaddr 25 (.t 155) (.t 156)), (some (153, false))⟩, ⟨(some 158), (.load true 25 (.t 157)), (some (153, false))⟩, ⟨(some 159), (.call 41 [(.t 158)]), (some (153, false))⟩, ⟨(some 160), (.un .not (.t 159)), (some (153, false))⟩, ⟨(some 161), (.pick (.t 153) (.c (.bool true)) (.t 160)), none⟩] false) (.cond (.t 161) (.seq (.region [⟨(some 2), (.mv (.c (.bool false))), none⟩] false) .ret) .skip))) (.region [⟨(some 130), (.mv (.t 7)), none⟩, ⟨(some 131), (.bin .add (.t 130) (.c (.int .i64 1))), none⟩, ⟨(some 7), (.mv (.t 131)), none⟩] false)))))) (.seq (.region [⟨(some 2), (.mv (.c (.bool true))), none⟩] false) .ret))))))))
theorem rowS {l : List Str} {k : Nat} (h : k < l.length) : (l.map fun s => [PV.str s]).getD k [] = [.str l[k]] := by simp [List.getD_eq_getElem?_getD, h]
theorem sp_few17 (x : It) (hx : x.ok) : PCallS Tryz.prog 41 [.agg x.enc] anyB := by
  have ex := It.Zb5 x
  have ox := it_ok hx
  have hu := sp_few06 x.unit ox.unit 30
  have eu := Un.Zb5 x.unit
  rw [eu] at hu
  have l1 : x.at'.length ≤ 9223372036854775807 := ox.at'
  have l2 : x.to.length ≤ 9223372036854775807 := ox.to
  have l3 : x.old.length ≤ 9223372036854775807 := ox.old
  have l4 : x.new.length ≤ 9223372036854775807 := ox.new
  have l5 : x.by'.length ≤ 9223372036854775807 := ox.len
  refine Zcs ?_ (clo1 (Zar (It.closed _)))
  refine Zan (vc := c_pandectref17_Few) (ts := [.t 2]) Go.Proofs.Tryz.func41 (by kernel_rfl) rfl rfl (Nat.le_of_ble_eq_true rfl) (by kernel_rfl) ?_
  unfold c_pandectref17_Few
  refine Zad (Zaa [1] ?_)
  simp only [Zab, Zac, StepW, pok, pval, VA.ev, Env.get, Env.put, Env.keep, Zax, thenQ, PV.cells, PV.fits, Heap.push, Heap.nil, Nat.succ_ne_self, List.length, Nat.reduceAdd, ite_true, ite_false, true_and, reduceCtorEq, BEq.rfl, Nat.zero_add, ex]
  refine Zad ?_
  refine VW_seqE (σ := Bool) [1, 66] (fun s => [(1, .loc 0 0 0), (66, .bool s)]) ?_ (fun b => ?_)
  · simp only [Zac, StepW, pok, pval, VA.ev, Env.get, Env.put, Env.keep, aggV, intV, binV, binOk, lenV, Zal, Zak, Zae, locOk, lenOk, PV.nth, PV.row, Heap.get, HL.get, Env.le, List.length, List.getD_cons_zero, List.take, List.drop, List.take_succ_cons, List.drop_succ_cons, Nat.reduceEqDiff, Nat.reduceAdd, Nat.reduceLT, Nat.reduceLeDiff, Bool.false_eq_true, ite_true, ite_false, true_and, and_true, implies_true, Nat.zero_add, List.length_cons, It.strs]
    refine Zbg rfl (fun g1 => ?_) (fun g1 => ?_)
    rotate_left
    · simp only [Zab, Zac, Zbo, StepW, pok, pval, VA.ev, Env.get, Env.put, pickV, isBool, Nat.succ_ne_self, Nat.reduceEqDiff, ite_true, ite_false, true_and, and_true, Bool.not_false, g1]
      exact ⟨true, by first | trivial | rfl | exact ⟨rfl, rfl⟩⟩
    simp only [Zac, Za0, StepW, pok, pval, VA.ev, Env.get, Env.put, pickV, isBool, aggV, intV, binV, binOk, lenV, Zal, Zak, Zae, locOk, lenOk, PV.nth, PV.row, Heap.get, HL.get, Nat.succ_ne_self, List.length, List.getD_cons_zero, List.take, List.drop, List.take_succ_cons, List.drop_succ_cons, Nat.reduceEqDiff, Nat.reduceAdd, Nat.reduceLT, Nat.reduceLeDiff, Bool.false_eq_true, ite_true, ite_false, true_and, and_true, implies_true, Nat.zero_add, List.length_cons, g1]
    refine Zbg rfl (fun g2 => ?_) (fun g2 => ?_)
    rotate_left
    · simp only [Zab, Zac, Zbo, StepW, pok, pval, VA.ev, Env.get, Env.put, pickV, isBool, Nat.succ_ne_self, Nat.reduceEqDiff, ite_true, ite_false, true_and, and_true, Bool.not_false, g2]
      exact ⟨true, by first | trivial | rfl | exact ⟨rfl, rfl⟩⟩
    simp only [Zac, Za0, StepW, pok, pval, VA.ev, Env.get, Env.put, pickV, isBool, aggV, intV, binV, binOk, lenV, Zal, Zak, Zae, locOk, lenOk, PV.nth, PV.row, Heap.get, HL.get, Nat.succ_ne_self, List.length, List.getD_cons_zero, List.take, List.drop, List.take_succ_cons, List.drop_succ_cons, Nat.reduceEqDiff, Nat.reduceAdd, Nat.reduceLT, Nat.reduceLeDiff, Bool.false_eq_true, ite_true, ite_false, true_and, and_true, implies_true, Nat.zero_add, List.length_cons, g2]
    refine Zbg rfl (fun g3 => ?_) (fun g3 => ?_)
    rotate_left
    · simp only [Zab, Zac, Zbo, StepW, pok, pval, VA.ev, Env.get, Env.put, pickV, isBool, Nat.succ_ne_self, Nat.reduceEqDiff, ite_true, ite_false, true_and, and_true, Bool.not_false, g3]
      exact ⟨true, by first | trivial | rfl | exact ⟨rfl, rfl⟩⟩
    simp only [Zac, Za0, StepW, pok, pval, VA.ev, Env.get, Env.put, pickV, isBool, aggV, intV, binV, binOk, lenV, Zal, Zak, Zae, locOk, lenOk, PV.nth, PV.row, Heap.get, HL.get, Nat.succ_ne_self, List.length, List.getD_cons_zero, List.take, List.drop, List.take_succ_cons, List.drop_succ_cons, Nat.reduceEqDiff, Nat.reduceAdd, Nat.reduceLT, Nat.reduceLeDiff, Bool.false_eq_true, ite_true, ite_false, true_and, and_true, implies_true, Nat.zero_add, List.length_cons, g3]
    refine Zbg rfl (fun g4 => ?_) (fun g4 => ?_)
    rotate_left
    · simp only [Zab, Zac, Zbo, StepW, pok, pval, VA.ev, Env.get, Env.put, pickV, isBool, Nat.succ_ne_self, Nat.reduceEqDiff, ite_true, ite_false, true_and, and_true, Bool.not_false, g4]
      exact ⟨true, by first | trivial | rfl | exact ⟨rfl, rfl⟩⟩
    simp only [Zac, Za0, StepW, pok, pval, VA.ev, Env.get, Env.put, pickV, isBool, aggV, intV, binV, binOk, lenV, Zal, Zak, Zae, locOk, lenOk, PV.nth, PV.row, Heap.get, HL.get, Nat.succ_ne_self, List.length, List.getD_cons_zero, List.take, List.drop, List.take_succ_cons, List.drop_succ_cons, Nat.reduceEqDiff, Nat.reduceAdd, Nat.reduceLT, Nat.reduceLeDiff, Bool.false_eq_true, ite_true, ite_false, true_and, and_true, implies_true, Nat.zero_add, List.length_cons, g4]
    refine Zbg rfl (fun g5 => ?_) (fun g5 => ?_)
    rotate_left
    · simp only [Zab, Zac, Zbo, StepW, pok, pval, VA.ev, Env.get, Env.put, pickV, isBool, Nat.succ_ne_self, Nat.reduceEqDiff, ite_true, ite_false, true_and, and_true, Bool.not_false, g5]
      exact ⟨true, by first | trivial | rfl | exact ⟨rfl, rfl⟩⟩
    simp only [Zac, Za0, StepW, pok, pval, VA.ev, Env.get, Env.put, pickV, isBool, aggV, intV, binV, binOk, lenV, Zal, Zak, Zae, locOk, lenOk, PV.nth, PV.row, Heap.get, HL.get, Nat.succ_ne_self, List.length, List.getD_cons_zero, List.take, List.drop, List.take_succ_cons, List.drop_succ_cons, Nat.reduceEqDiff, Nat.reduceAdd, Nat.reduceLT, Nat.reduceLeDiff, Bool.false_eq_true, ite_true, ite_false, true_and, and_true, implies_true, Nat.zero_add, List.length_cons, g5]
    refine Zbg rfl (fun g6 => ?_) (fun g6 => ?_)
    rotate_left
    · simp only [Zab, Zac, Zbo, StepW, pok, pval, VA.ev, Env.get, Env.put, pickV, isBool, Nat.succ_ne_self, Nat.reduceEqDiff, ite_true, ite_false, true_and, and_true, Bool.not_false, g6]
      exact ⟨true, by first | trivial | rfl | exact ⟨rfl, rfl⟩⟩
    simp only [Zac, Za0, StepW, pok, pval, VA.ev, Env.get, Env.put, pickV, isBool, aggV, intV, binV, binOk, lenV, Zal, Zak, Zae, locOk, lenOk, PV.nth, PV.row, Heap.get, HL.get, Nat.succ_ne_self, List.length, List.getD_cons_zero, List.take, List.drop, List.take_succ_cons, List.drop_succ_cons, Nat.reduceEqDiff, Nat.reduceAdd, Nat.reduceLT, Nat.reduceLeDiff, Bool.false_eq_true, ite_true, ite_false, true_and, and_true, implies_true, Nat.zero_add, List.length_cons, g6]
    refine Zbg rfl (fun g7 => ?_) (fun g7 => ?_)
    rotate_left
    · simp only [Zab, Zac, Zbo, StepW, pok, pval, VA.ev, Env.get, Env.put, pickV, isBool, Nat.succ_ne_self, Nat.reduceEqDiff, ite_true, ite_false, true_and, and_true, Bool.not_false, g7]
      exact ⟨true, by first | trivial | rfl | exact ⟨rfl, rfl⟩⟩
    simp only [Zac, Za0, StepW, pok, pval, VA.ev, Env.get, Env.put, pickV, isBool, aggV, intV, binV, binOk, lenV, Zal, Zak, Zae, locOk, lenOk, PV.nth, PV.row, Heap.get, HL.get, Nat.succ_ne_self, List.length, List.getD_cons_zero, List.take, List.drop, List.take_succ_cons, List.drop_succ_cons, Nat.reduceEqDiff, Nat.reduceAdd, Nat.reduceLT, Nat.reduceLeDiff, Bool.false_eq_true, ite_true, ite_false, true_and, and_true, implies_true, Nat.zero_add, List.length_cons, g7]
    refine Zbg rfl (fun g8 => ?_) (fun g8 => ?_)
    rotate_left
    · simp only [Zab, Zac, Zbo, StepW, pok, pval, VA.ev, Env.get, Env.put, pickV, isBool, Nat.succ_ne_self, Nat.reduceEqDiff, ite_true, ite_false, true_and, and_true, Bool.not_false, g8]
      exact ⟨true, by first | trivial | rfl | exact ⟨rfl, rfl⟩⟩
    simp only [Zac, Za0, StepW, pok, pval, VA.ev, Env.get, Env.put, pickV, isBool, aggV, intV, binV, binOk, lenV, Zal, Zak, Zae, locOk, lenOk, PV.nth, PV.row, Heap.get, HL.get, Nat.le_refl, Nat.succ_ne_self, List.length, List.getD_cons_zero, List.take, List.drop, List.take_succ_cons, List.drop_succ_cons, Nat.reduceEqDiff, Nat.reduceLT, Bool.false_eq_true, ite_true, ite_false, true_and, and_true, implies_true, Nat.zero_add, List.length_cons, g8]
    refine Zbg rfl (fun g9 => ?_) (fun g9 => ?_)
    rotate_left
    · simp only [Zab, Zac, Zbo, StepW, pok, pval, VA.ev, Env.get, Env.put, pickV, isBool, Nat.succ_ne_self, Nat.reduceEqDiff, ite_true, ite_false, true_and, and_true, Bool.not_false, g9]
      exact ⟨true, by first | trivial | rfl | exact ⟨rfl, rfl⟩⟩
    simp only [Zab, Zac, Za0, StepW, pok, pval, VA.ev, Env.get, Env.put, pickV, isBool, aggV, unV, unOk, Zal, Zak, Zae, locOk, PV.nth, PV.row, Heap.get, HL.get, Nat.succ_ne_self, List.map, List.length, List.getD_cons_zero, List.take, List.drop, List.take_succ_cons, List.drop_succ_cons, Nat.reduceEqDiff, Nat.reduceAdd, Nat.reduceLT, Nat.reduceLeDiff, Bool.false_eq_true, Bool.true_eq_false, ite_true, ite_false, true_and, and_true, Nat.zero_add, List.length_cons, imp_self, g9]
    refine Zc5 hu ?_
    rintro p ⟨b1, rfl⟩
    simp only [true_and, and_true]
    exact ⟨!b1, by first | trivial | rfl⟩
  refine Zaf rfl (fun h1 => ?_) (fun h1 => ?_)
  · refine Zad (Zaa [2] ?_)
    simp only [Zab, Zac, StepW, pok, pval, VA.ev, Env.get, Env.put, Env.keep, thenQ, Nat.reduceEqDiff, ite_true, ite_false, true_and]
    refine Zam ?_
    try simp only [Env.get, thenQ, retQ, resV, resOk, RS.ev, RS.ok, ite_true, true_and, and_true]
    exact Zcm _
  refine Zah ?_
  try simp only [thenQ]
  clear hu
  refine Zad ?_
  refine Zad (Zaa [1, 3] ?_)
  simp only [Zab, Zac, StepW, pok, pval, VA.ev, Env.get, Env.put, Env.keep, thenQ, Nat.reduceEqDiff, ite_true, ite_false, true_and]
  refine Zag ?_
  refine Za1 (σ := { i : Nat // i ≤ x.old.length }) (fun s => ([(1, .loc 0 0 0), (3, pI s.1)], ⟨[(0, .arr false 25 [x.enc])], 1⟩)) (fun s => x.old.length - s.1) ⟨0, Nat.zero_le _⟩ ?_ ?_ ?_
  · try simp only [Env.get, Env.le, Nat.reduceEqDiff, ite_true, ite_false, true_and, and_true]
    all_goals (repeat' (first | rfl | trivial | omega | (simp only []; omega) | refine And.intro ?_ ?_))
  · try simp only [Heap.get, Heap.le, HL.get, HL.le, Nat.le_refl, ite_true, and_true, ex]
    all_goals (repeat' (first | rfl | trivial | omega | (simp only []; omega) | refine And.intro ?_ ?_))
  rintro ⟨i, hi⟩
  simp only []
  refine Zad ?_
  refine Zad (Zaa [1, 3, 71] ?_)
  simp only [Zab, Zac, StepW, pok, pval, VA.ev, Env.get, Env.put, Env.keep, thenQ, aggV, intV, binV, binOk, lenV, Zal, Zak, Zae, locOk, lenOk, PV.nth, PV.row, Heap.get, Heap.le, HL.get, HL.le, Nat.succ_ne_self, Env.le, List.length, List.getD_cons_zero, List.take, List.drop, List.take_succ_cons, List.drop_succ_cons, Nat.reduceEqDiff, Nat.reduceAdd, Nat.reduceLT, Nat.reduceLeDiff, Bool.false_eq_true, ite_true, ite_false, true_and, and_true, implies_true, Nat.zero_add, List.length_cons, ex, It.strs, List.length_map]
  refine Zaf rfl (fun h1 => ?_) (fun h1 => ?_)
  · refine Zah ?_
    try simp only [thenQ]
    simp only [decide_eq_true_eq] at h1
    have ia : i < x.old.length := by omega
    refine Zad ?_
    refine Zag ?_
    refine Zad (Zaa [1, 3, 80] ?_)
    simp only [Zab, Zac, StepW, pok, pval, VA.ev, Env.get, Env.put, Env.keep, thenQ, aggV, intV, binV, binOk, isInt, numOf, lenV, Zal, Zak, Zae, locOk, Zau, Zao, lenOk, PV.nth, PV.row, Heap.get, HL.get, Nat.le_refl, Nat.succ_ne_self, List.length, List.getD_cons_zero, List.take, List.drop, List.take_succ_cons, List.drop_succ_cons, Nat.reduceEqDiff, Nat.reduceAdd, Nat.reduceLT, Nat.reduceLeDiff, Bool.false_eq_true, ite_true, ite_false, true_and, and_true, implies_true, Nat.zero_add, List.length_cons, Int.toNat_natCast, ex, It.strs, List.length_map, rowS ia]
    repeat (with_reducible refine And.intro ?_ ?_; first | omega | (with_reducible constructor <;> omega) | exact False.elim | exact True.intro)
    refine Zaf rfl (fun h2 => ?_) (fun h2 => ?_)
    · refine Zad (Zaa [2] ?_)
      simp only [Zab, Zac, StepW, pok, pval, VA.ev, Env.get, Env.put, Env.keep, thenQ, Nat.succ_ne_self, Nat.reduceEqDiff, ite_true, ite_false, true_and]
      refine Zam ?_
      try simp only [Env.get, thenQ, Zai, retQ, resV, resOk, RS.ev, RS.ok, ite_true, true_and, and_true]
      exact Zcm _
    refine Zah ?_
    try simp only [thenQ, Zai]
    refine Zaa [1, 3] ?_
    simp only [Zab, Zac, StepW, pok, pval, VA.ev, Env.get, Env.put, Env.keep, thenQ, intV, binV, binOk, HL.get, Nat.le_refl, Nat.reduceEqDiff, ite_true, ite_false, true_and, and_true, w64 (n := (i : Int) + 1) (by omega) (by omega)]
    refine ⟨⟨i + 1, by omega⟩, ?_⟩
    try simp only [ex]
    all_goals (repeat' (first | rfl | trivial | omega | (simp only []; omega) | refine And.intro ?_ ?_))
  simp only [decide_eq_false_iff_not] at h1
  refine Zay ?_
  try simp only [thenQ, Zai, retQ, ite_true]
  clear h1 hi
  refine Zad ?_
  refine Zad (Zaa [1, 4] ?_)
  simp only [Zab, Zac, StepW, pok, pval, VA.ev, Env.get, Env.put, Env.keep, thenQ, Nat.reduceEqDiff, ite_true, ite_false, true_and]
  refine Zag ?_
  refine Za1 (σ := { i : Nat // i ≤ x.new.length }) (fun s => ([(1, .loc 0 0 0), (4, pI s.1)], ⟨[(0, .arr false 25 [x.enc])], 1⟩)) (fun s => x.new.length - s.1) ⟨0, Nat.zero_le _⟩ ?_ ?_ ?_
  · try simp only [Env.get, Env.le, Nat.reduceEqDiff, ite_true, ite_false, true_and, and_true]
    all_goals (repeat' (first | rfl | trivial | omega | (simp only []; omega) | refine And.intro ?_ ?_))
  · try simp only [Heap.get, Heap.le, HL.get, HL.le, Nat.le_refl, ite_true, true_and, and_true, Option.some.injEq, ex]
    all_goals (repeat' (first | rfl | trivial | omega | (simp only []; omega) | refine And.intro ?_ ?_))
  rintro ⟨i, hi⟩
  simp only []
  refine Zad ?_
  refine Zad (Zaa [1, 4, 85] ?_)
  simp only [Zab, Zac, StepW, pok, pval, VA.ev, Env.get, Env.put, Env.keep, thenQ, aggV, intV, binV, binOk, lenV, Zal, Zak, Zae, locOk, lenOk, PV.nth, PV.row, Heap.get, Heap.le, HL.get, HL.le, Nat.succ_ne_self, Env.le, List.length, List.getD_cons_zero, List.take, List.drop, List.take_succ_cons, List.drop_succ_cons, Nat.reduceEqDiff, Nat.reduceAdd, Nat.reduceLT, Nat.reduceLeDiff, Bool.false_eq_true, ite_true, ite_false, true_and, and_true, implies_true, Nat.zero_add, List.length_cons, ex, It.strs, List.length_map]
  refine Zaf rfl (fun h1 => ?_) (fun h1 => ?_)
  · refine Zah ?_
    try simp only [thenQ]
    simp only [decide_eq_true_eq] at h1
    have ia : i < x.new.length := by omega
    refine Zad ?_
    refine Zag ?_
    refine Zad (Zaa [1, 4, 94] ?_)
    simp only [Zab, Zac, StepW, pok, pval, VA.ev, Env.get, Env.put, Env.keep, thenQ, aggV, intV, binV, binOk, isInt, numOf, lenV, Zal, Zak, Zae, locOk, Zau, Zao, lenOk, PV.nth, PV.row, Heap.get, HL.get, Nat.le_refl, Nat.succ_ne_self, List.length, List.getD_cons_zero, List.take, List.drop, List.take_succ_cons, List.drop_succ_cons, Nat.reduceEqDiff, Nat.reduceAdd, Nat.reduceLT, Nat.reduceLeDiff, Bool.false_eq_true, ite_true, ite_false, true_and, and_true, implies_true, Nat.zero_add, List.length_cons, Int.toNat_natCast, ex, It.strs, List.length_map, rowS ia]
    repeat (with_reducible refine And.intro ?_ ?_; first | omega | (with_reducible constructor <;> omega) | exact False.elim | exact True.intro)
    refine Zaf rfl (fun h2 => ?_) (fun h2 => ?_)
    · refine Zad (Zaa [2] ?_)
      simp only [Zab, Zac, StepW, pok, pval, VA.ev, Env.get, Env.put, Env.keep, thenQ, Nat.reduceEqDiff, ite_true, ite_false, true_and]
      refine Zam ?_
      try simp only [Env.get, thenQ, Zai, retQ, resV, resOk, RS.ev, RS.ok, ite_true, true_and, and_true]
      exact Zcm _
    refine Zah ?_
    try simp only [thenQ, Zai]
    refine Zaa [1, 4] ?_
    simp only [Zab, Zac, StepW, pok, pval, VA.ev, Env.get, Env.put, Env.keep, thenQ, intV, binV, binOk, HL.get, Nat.le_refl, Nat.reduceEqDiff, ite_true, ite_false, true_and, and_true, w64 (n := (i : Int) + 1) (by omega) (by omega)]
    refine ⟨⟨i + 1, by omega⟩, ?_⟩
    try simp only [ex]
    all_goals (repeat' (first | rfl | trivial | omega | (simp only []; omega) | refine And.intro ?_ ?_))
  simp only [decide_eq_false_iff_not] at h1
  refine Zay ?_
  try simp only [thenQ, Zai, retQ, ite_true]
  clear h1 hi
  refine Zad ?_
  refine Zad (Zaa [1, 5] ?_)
  simp only [Zab, Zac, StepW, pok, pval, VA.ev, Env.get, Env.put, Env.keep, thenQ, Nat.reduceEqDiff, ite_true, ite_false, true_and]
  refine Zag ?_
  refine Za1 (σ := { i : Nat // i ≤ x.at'.length }) (fun s => ([(1, .loc 0 0 0), (5, pI s.1)], ⟨[(0, .arr false 25 [x.enc])], 1⟩)) (fun s => x.at'.length - s.1) ⟨0, Nat.zero_le _⟩ ?_ ?_ ?_
  · try simp only [Env.get, Env.le, Nat.reduceEqDiff, ite_true, ite_false, true_and, and_true]
    all_goals (repeat' (first | rfl | trivial | omega | (simp only []; omega) | refine And.intro ?_ ?_))
  · try simp only [Heap.get, Heap.le, HL.get, HL.le, Nat.le_refl, ite_true, true_and, and_true, Option.some.injEq, ex]
    all_goals (repeat' (first | rfl | trivial | omega | (simp only []; omega) | refine And.intro ?_ ?_))
  rintro ⟨i, hi⟩
  simp only []
  refine Zad ?_
  refine Zad (Zaa [1, 5, 99] ?_)
  simp only [Zab, Zac, StepW, pok, pval, VA.ev, Env.get, Env.put, Env.keep, thenQ, aggV, intV, binV, binOk, lenV, Zal, Zak, Zae, locOk, lenOk, PV.nth, PV.row, Heap.get, Heap.le, HL.get, HL.le, Nat.succ_ne_self, Env.le, List.length, List.getD_cons_zero, List.take, List.drop, List.take_succ_cons, List.drop_succ_cons, Nat.reduceEqDiff, Nat.reduceAdd, Nat.reduceLT, Nat.reduceLeDiff, Bool.false_eq_true, ite_true, ite_false, true_and, and_true, implies_true, Nat.zero_add, List.length_cons, ex, It.strs, List.length_map]
  refine Zaf rfl (fun h1 => ?_) (fun h1 => ?_)
  · refine Zah ?_
    try simp only [thenQ]
    simp only [decide_eq_true_eq] at h1
    have ia : i < x.at'.length := by omega
    refine Zad ?_
    refine Zag ?_
    refine Zad (Zaa [1, 5, 109] ?_)
    simp only [Zab, Zac, StepW, pok, pval, VA.ev, Env.get, Env.put, Env.keep, thenQ, aggV, intV, binV, binOk, isInt, numOf, lenV, Zal, Zak, Zae, locOk, Zau, Zao, lenOk, PV.nth, PV.row, Heap.get, HL.get, Nat.le_refl, Nat.succ_ne_self, List.length, List.getD_cons_zero, List.take, List.drop, List.take_succ_cons, List.drop_succ_cons, Nat.reduceEqDiff, Nat.reduceAdd, Nat.reduceLT, Nat.reduceLeDiff, Bool.false_eq_true, ite_true, ite_false, true_and, and_true, implies_true, Nat.zero_add, List.length_cons, Int.toNat_natCast, ex, It.strs, List.length_map, rowm ia, St.enc]
    repeat (with_reducible refine And.intro ?_ ?_; first | omega | (with_reducible constructor <;> omega) | exact False.elim | exact True.intro)
    refine Zaf rfl (fun h2 => ?_) (fun h2 => ?_)
    · refine Zad (Zaa [2] ?_)
      simp only [Zab, Zac, StepW, pok, pval, VA.ev, Env.get, Env.put, Env.keep, thenQ, Nat.reduceEqDiff, ite_true, ite_false, true_and]
      refine Zam ?_
      try simp only [Env.get, thenQ, Zai, retQ, resV, resOk, RS.ev, RS.ok, ite_true, true_and, and_true]
      exact Zcm _
    refine Zah ?_
    try simp only [thenQ, Zai]
    refine Zaa [1, 5] ?_
    simp only [Zab, Zac, StepW, pok, pval, VA.ev, Env.get, Env.put, Env.keep, thenQ, intV, binV, binOk, HL.get, Nat.le_refl, Nat.reduceEqDiff, ite_true, ite_false, true_and, and_true, w64 (n := (i : Int) + 1) (by omega) (by omega)]
    refine ⟨⟨i + 1, by omega⟩, ?_⟩
    try simp only [ex]
    all_goals (repeat' (first | rfl | trivial | omega | (simp only []; omega) | refine And.intro ?_ ?_))
  simp only [decide_eq_false_iff_not] at h1
  refine Zay ?_
  try simp only [thenQ, Zai, retQ, ite_true]
  clear h1 hi
  refine Zad ?_
  refine Zad (Zaa [1, 6] ?_)
  simp only [Zab, Zac, StepW, pok, pval, VA.ev, Env.get, Env.put, Env.keep, thenQ, Nat.reduceEqDiff, ite_true, ite_false, true_and]
  refine Zag ?_
  refine Za1 (σ := { i : Nat // i ≤ x.to.length }) (fun s => ([(1, .loc 0 0 0), (6, pI s.1)], ⟨[(0, .arr false 25 [x.enc])], 1⟩)) (fun s => x.to.length - s.1) ⟨0, Nat.zero_le _⟩ ?_ ?_ ?_
  · try simp only [Env.get, Env.le, Nat.reduceEqDiff, ite_true, ite_false, true_and, and_true]
    all_goals (repeat' (first | rfl | trivial | omega | (simp only []; omega) | refine And.intro ?_ ?_))
  · try simp only [Heap.get, Heap.le, HL.get, HL.le, Nat.le_refl, ite_true, true_and, and_true, Option.some.injEq, ex]
    all_goals (repeat' (first | rfl | trivial | omega | (simp only []; omega) | refine And.intro ?_ ?_))
  rintro ⟨i, hi⟩
  simp only []
  refine Zad ?_
  refine Zad (Zaa [1, 6, 114] ?_)
  simp only [Zab, Zac, StepW, pok, pval, VA.ev, Env.get, Env.put, Env.keep, thenQ, aggV, intV, binV, binOk, lenV, Zal, Zak, Zae, locOk, lenOk, PV.nth, PV.row, Heap.get, Heap.le, HL.get, HL.le, Nat.succ_ne_self, Env.le, List.length, List.getD_cons_zero, List.take, List.drop, List.take_succ_cons, List.drop_succ_cons, Nat.reduceEqDiff, Nat.reduceAdd, Nat.reduceLT, Nat.reduceLeDiff, Bool.false_eq_true, ite_true, ite_false, true_and, and_true, implies_true, Nat.zero_add, List.length_cons, ex, It.strs, List.length_map]
  refine Zaf rfl (fun h1 => ?_) (fun h1 => ?_)
  · refine Zah ?_
    try simp only [thenQ]
    simp only [decide_eq_true_eq] at h1
    have ia : i < x.to.length := by omega
    refine Zad ?_
    refine Zag ?_
    refine Zad (Zaa [1, 6, 124] ?_)
    simp only [Zab, Zac, StepW, pok, pval, VA.ev, Env.get, Env.put, Env.keep, thenQ, aggV, intV, binV, binOk, isInt, numOf, lenV, Zal, Zak, Zae, locOk, Zau, Zao, lenOk, PV.nth, PV.row, Heap.get, HL.get, Nat.le_refl, Nat.succ_ne_self, List.length, List.getD_cons_zero, List.take, List.drop, List.take_succ_cons, List.drop_succ_cons, Nat.reduceEqDiff, Nat.reduceAdd, Nat.reduceLT, Nat.reduceLeDiff, Bool.false_eq_true, ite_true, ite_false, true_and, and_true, implies_true, Nat.zero_add, List.length_cons, Int.toNat_natCast, ex, It.strs, List.length_map, rowm ia, St.enc]
    repeat (with_reducible refine And.intro ?_ ?_; first | omega | (with_reducible constructor <;> omega) | exact False.elim | exact True.intro)
    refine Zaf rfl (fun h2 => ?_) (fun h2 => ?_)
    · refine Zad (Zaa [2] ?_)
      simp only [Zab, Zac, StepW, pok, pval, VA.ev, Env.get, Env.put, Env.keep, thenQ, Nat.reduceEqDiff, ite_true, ite_false, true_and]
      refine Zam ?_
      try simp only [Env.get, thenQ, Zai, retQ, resV, resOk, RS.ev, RS.ok, ite_true, true_and, and_true]
      exact Zcm _
    refine Zah ?_
    try simp only [thenQ, Zai]
    refine Zaa [1, 6] ?_
    simp only [Zab, Zac, StepW, pok, pval, VA.ev, Env.get, Env.put, Env.keep, thenQ, intV, binV, binOk, HL.get, Nat.le_refl, Nat.reduceEqDiff, ite_true, ite_false, true_and, and_true, w64 (n := (i : Int) + 1) (by omega) (by omega)]
    refine ⟨⟨i + 1, by omega⟩, ?_⟩
    try simp only [ex]
    all_goals (repeat' (first | rfl | trivial | omega | (simp only []; omega) | refine And.intro ?_ ?_))
  simp only [decide_eq_false_iff_not] at h1
  refine Zay ?_
  try simp only [thenQ, Zai, retQ, ite_true]
  clear h1 hi
  refine Zad ?_
  refine Zad (Zaa [1, 7] ?_)
  simp only [Zab, Zac, StepW, pok, pval, VA.ev, Env.get, Env.put, Env.keep, thenQ, Nat.reduceEqDiff, ite_true, ite_false, true_and]
  refine Zag ?_
  refine Za1 (σ := { i : Nat // i ≤ x.by'.length }) (fun s => ([(1, .loc 0 0 0), (7, pI s.1)], ⟨[(0, .arr false 25 [x.enc])], 1⟩)) (fun s => x.by'.length - s.1) ⟨0, Nat.zero_le _⟩ ?_ ?_ ?_
  · try simp only [Env.get, Env.le, Nat.reduceEqDiff, ite_true, ite_false, true_and, and_true]
    all_goals (repeat' (first | rfl | trivial | omega | (simp only []; omega) | refine And.intro ?_ ?_))
  · try simp only [Heap.get, Heap.le, HL.get, HL.le, Nat.le_refl, ite_true, true_and, and_true, Option.some.injEq, ex]
    all_goals (repeat' (first | rfl | trivial | omega | (simp only []; omega) | refine And.intro ?_ ?_))
  rintro ⟨i, hi⟩
  simp only []
  refine Zad ?_
  refine Zad (Zaa [1, 7, 129] ?_)
  simp only [Zab, Zac, StepW, pok, pval, VA.ev, Env.get, Env.put, Env.keep, thenQ, aggV, intV, binV, binOk, lenV, Zal, Zak, Zae, locOk, lenOk, PV.nth, PV.row, Heap.get, Heap.le, HL.get, HL.le, Nat.le_refl, Nat.succ_ne_self, Env.le, List.length, List.getD_cons_zero, List.take, List.drop, List.take_succ_cons, List.drop_succ_cons, Nat.reduceEqDiff, Nat.reduceLT, Bool.false_eq_true, ite_true, ite_false, true_and, and_true, implies_true, Nat.zero_add, List.length_cons, ex, List.length_map]
  refine Zaf rfl (fun h1 => ?_) (fun h1 => ?_)
  · refine Zah ?_
    try simp only [thenQ]
    simp only [decide_eq_true_eq] at h1
    have ia : i < x.by'.length := by omega
    have hrec := sp_few17 x.by'[i] (ox.by' _ (List.getElem_mem ia))
    have ry := rowm (enc := It.enc) ia
    generalize x.by'[i] = y at hrec ry
    refine Zad ?_
    refine Zag ?_
    refine VW_seqE (σ := Bool) [1, 7, 161] (fun s => [(1, .loc 0 0 0), (7, pI i), (161, .bool s)]) ?_ (fun b => ?_)
    · cases hb : y.by' with
      | nil =>
        have e2 : decide (0 < (y.by'.length : Int)) = false := by rw [hb]; rfl
        simp only [Zab, Zac, Za0, Zba, StepW, pok, pval, VA.ev, Env.get, Env.put, Env.keep, pickV, isBool, aggV, intV, binV, binOk, unV, unOk, isInt, numOf, lenV, Zal, Zak, Zae, locOk, Zau, Zao, lenOk, PV.nth, PV.row, Heap.get, HL.get, Nat.le_refl, Nat.succ_ne_self, Env.le, List.map, List.length, List.getD_cons_zero, List.take, List.drop, List.take_succ_cons, List.drop_succ_cons, Nat.reduceEqDiff, Nat.reduceLT, Bool.false_eq_true, Bool.true_eq_false, ite_true, ite_false, true_and, and_true, implies_true, Nat.zero_add, List.length_cons, imp_self, Int.toNat_natCast, ex, List.length_map, ry, it_by, it_l24, Zbe, Zbz, e2]
        repeat (with_reducible refine And.intro ?_ ?_; first | omega | (with_reducible constructor <;> omega) | exact False.elim | exact True.intro)
        refine Zc5 hrec ?_
        rintro p ⟨b1, rfl⟩
        simp only [true_and, and_true]
        exact ⟨!b1, by first | trivial | rfl⟩
      | cons z r =>
        have e2 : decide (0 < (y.by'.length : Int)) = true := by rw [hb, decide_eq_true_eq]; simp
        have e3 : (0 : Int) < (y.by'.length : Int) := by simpa using e2
        have e4 : (y.by'.map It.enc).getD 0 [] = z.enc := by rw [hb]; rfl
        cases e5 : decide (0 < (z.by'.length : Int)) with
        | true =>
          simp only [Zab, Zac, Za0, Zbo, StepW, pok, pval, VA.ev, Env.get, Env.put, Env.keep, pickV, isBool, aggV, intV, binV, binOk, isInt, numOf, lenV, Zal, Zak, Zae, locOk, Zau, Zao, lenOk, PV.nth, PV.row, Heap.get, HL.get, Nat.le_refl, Nat.succ_ne_self, Env.le, List.length, List.getD_cons_zero, List.take, List.drop, List.take_succ_cons, List.drop_succ_cons, Nat.reduceEqDiff, Nat.reduceLT, Bool.false_eq_true, ite_true, ite_false, true_and, and_true, implies_true, Nat.zero_add, List.length_cons, Int.reduceToNat, Int.toNat_natCast, ex, List.length_map, ry, it_by, it_l24, Zbe, Zbz, e2, e4, e5]
          repeat (with_reducible refine And.intro ?_ ?_; first | omega | (with_reducible constructor <;> omega) | exact False.elim | exact True.intro)
          exact ⟨true, by first | trivial | rfl⟩
        | false =>
          simp only [Zab, Zac, Za0, StepW, pok, pval, VA.ev, Env.get, Env.put, Env.keep, pickV, isBool, aggV, intV, binV, binOk, unV, unOk, isInt, numOf, lenV, Zal, Zak, Zae, locOk, Zau, Zao, lenOk, PV.nth, PV.row, Heap.get, HL.get, Nat.le_refl, Nat.succ_ne_self, Env.le, List.map, List.length, List.getD_cons_zero, List.take, List.drop, List.take_succ_cons, List.drop_succ_cons, Nat.reduceEqDiff, Nat.reduceLT, Bool.false_eq_true, Bool.true_eq_false, ite_true, ite_false, true_and, and_true, implies_true, Nat.zero_add, List.length_cons, imp_self, Int.reduceToNat, Int.toNat_natCast, ex, List.length_map, ry, it_by, it_l24, Zbe, Zbz, e2, e4, e5]
          repeat (with_reducible refine And.intro ?_ ?_; first | omega | (with_reducible constructor <;> omega) | exact False.elim | exact True.intro)
          refine Zc5 hrec ?_
          rintro p ⟨b1, rfl⟩
          simp only [true_and, and_true]
          exact ⟨!b1, by first | trivial | rfl⟩
    refine Zaf rfl (fun h2 => ?_) (fun h2 => ?_)
    · refine Zad (Zaa [2] ?_)
      simp only [Zab, Zac, StepW, pok, pval, VA.ev, Env.get, Env.put, Env.keep, thenQ, Nat.reduceEqDiff, ite_true, ite_false, true_and]
      refine Zam ?_
      try simp only [Env.get, thenQ, Zai, retQ, resV, resOk, RS.ev, RS.ok, ite_true, true_and, and_true]
      exact Zcm _
    refine Zah ?_
    try simp only [thenQ, Zai]
    refine Zaa [1, 7] ?_
    simp only [Zab, Zac, StepW, pok, pval, VA.ev, Env.get, Env.put, Env.keep, thenQ, intV, binV, binOk, HL.get, Nat.le_refl, Nat.reduceEqDiff, ite_true, ite_false, true_and, and_true, w64 (n := (i : Int) + 1) (by omega) (by omega)]
    refine ⟨⟨i + 1, by omega⟩, ?_⟩
    try simp only [ex]
    all_goals (repeat' (first | rfl | trivial | omega | (simp only []; omega) | refine And.intro ?_ ?_))
  · refine Zay ?_
    try simp only [thenQ, Zai, retQ, ite_true]
    refine Zad (Zaa [2] ?_)
    simp only [Zab, Zac, StepW, pok, pval, VA.ev, Env.get, Env.put, Env.keep, thenQ, Nat.reduceEqDiff, ite_true, ite_false, true_and]
    refine Zam ?_
    try simp only [Env.get, retQ, resV, resOk, RS.ev, RS.ok, ite_true, true_and, and_true]
    exact Zcm _
termination_by SizeOf.sizeOf x
decreasing_by exact it_size ia
end Go.Proofs.YtehokmhebnkfdaaGreat.w
