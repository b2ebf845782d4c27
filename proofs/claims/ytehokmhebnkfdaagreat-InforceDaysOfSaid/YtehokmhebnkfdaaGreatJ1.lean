import Derived.Test.YtehokmhebnkfdaaGreatI2
import Derived.Test.YtehokmhebnkfdaaGreatCE1
import Derived.Test.YtehokmhebnkfdaaGreatK1
import Derived.Test.YtehokmhebnkfdaaGreatRd
import Derived.Test.YtehokmhebnkfdaaGreatVmAa
import Derived.KernelRfl
set_option linter.all false
namespace Go.Proofs.YtehokmhebnkfdaaGreat.w
open Go Go.VM
set_option maxRecDepth 20000
set_option maxHeartbeats 0
set_option pp.deepTerms false
def c_pandectref29_start : VC := (.seq (.region [⟨(some 4), (.alloc [(.int .i64 0), (.int .i64 0), (.str [])]), none⟩] false) (.seq (.region [⟨(some 7), (.mv (.t 1)), none⟩, ⟨(some 8), (.call 20 [(.t 7)]), none⟩, ⟨(some 5), (.mv (.t 8)), none⟩] false) (.seq (.seq (.region [⟨(some 6), (.mv (.c (.int .i64 0))), none⟩] false) (.block 0 (.loop (.seq (.seq (.region [⟨(some 9), (.mv (.t 6)), none⟩, ⟨(some 10), (.mv (.t 5)), none⟩, ⟨(some 11), (.len false (.t 10)), none⟩, ⟨(some 12), (.bin .lss (.t 9) (.t 11)), none⟩] false) (.cond (.t 12) .skip (.exit 0))) (.seq (.block 1 (.seq (.region [⟨(some 15), (.mv (.t 5)), none⟩, ⟨(some 16), (.mv (.t 6)), none⟩, ⟨(some 17), (.iaddr 7 (.t 15) (.t 16)), none⟩, ⟨(some 18), (.faddr 0 (.t 17)), none⟩, ⟨(some 19), (.load false 1 (.t 18)), none⟩, ⟨(some 20), (.mv (.t 0)), none⟩, ⟨(some 21), (.bin .eql (.t 19) (.t 20)), none⟩] false) (.cond (.t 21) (.seq (.region [⟨(some 22), (.mv (.t 5)), none⟩, ⟨(some 23), (.mv (.t 6)), none⟩, ⟨(some 24), (.iaddr 7 (.t 22) (.t 23)), none⟩, ⟨(some 25), (.faddr 3 (.t 24)), none⟩, ⟨(some 26), (.load true 3 (.t 25)), none⟩, ⟨none, (.store 3 (.t 4) (.t 26)), none⟩] false) .ret) .skip))) (.region [⟨(some 13), (.mv (.t 6)), none⟩, ⟨(some 14), (.bin .add (.t 13) (.c (.int .i64 1))), none⟩, ⟨(some 6), (.mv (.t 14)), none⟩] false)))))) (.seq (.region [⟨(some 27), (.build [(.int .i64 0), (.int .i64 0), (.str [])] []), none⟩, ⟨none, (.store 3 (.t 4) (.t 27)), none⟩] false) .ret))))
def c_pandectref29_Of : VC := (.seq (.region [⟨(some 2), (.box 28 (.t 0)), none⟩, ⟨(some 4), (.mv (.c .nilsl)), none⟩] false) (.seq (.region [⟨(some 5), (.faddr 0 (.t 2)), none⟩, ⟨(some 6), (.load false 1 (.t 5)), none⟩, ⟨(some 7), (.mv (.t 1)), none⟩, ⟨(some 8), (.call 65 [(.t 6), (.t 7)]), none⟩, ⟨(some 9), (.load true 28 (.t 2)), none⟩, ⟨(some 10), (.mv (.t 1)), none⟩, ⟨(some 11), (.call 46 [(.t 10)]), none⟩, ⟨(some 12), (.call 64 [(.t 8), (.t 9), (.t 11)]), none⟩, ⟨(some 4), (.mv (.t 12)), none⟩] true) .ret))
def c_pandectref29_Spans : VC := (.seq (.region [⟨(some 6), (.mv (.c .nilsl)), none⟩] false) (.seq (.region [⟨(some 10), (.mv (.t 0)), none⟩, ⟨(some 11), (.mv (.t 1)), none⟩, ⟨(some 12), (.mv (.t 2)), none⟩, ⟨(some 13), (.call 40 [(.t 10), (.t 11), (.t 12)]), none⟩, ⟨(some 9), (.mv (.t 13)), none⟩, ⟨(some 14), (.ext (.t 9) 0), none⟩, ⟨(some 15), (.ext (.t 9) 1), none⟩, ⟨(some 7), (.alloc [(.int .i64 0), (.int .i64 0), (.int .i64 0), (.int .i64 0), .nilsl, .nilsl, (.int .i64 0), (.int .i64 0), (.int .i64 0), (.int .i64 0), (.int .i64 0), (.int .i64 0), (.str []), .nilsl, .nilsl, .nilsl, .nilsl, .nilsl, (.str []), (.str []), (.int .i64 0), (.int .i64 0), (.str []), (.int .i64 0), (.int .i64 0), (.int .i64 0), (.str []), .nilsl]), none⟩, ⟨none, (.store 28 (.t 7) (.t 14)), none⟩, ⟨(some 8), (.mv (.t 15)), none⟩] false) (.seq (.seq (.region [⟨(some 16), (.mv (.t 8)), none⟩, ⟨(some 17), (.un .not (.t 16)), none⟩] false) (.cond (.t 17) (.seq (.region [⟨(some 18), (.fx (.mk0 2) []), none⟩, ⟨(some 6), (.mv (.t 18)), none⟩] false) .ret) .skip)) (.seq (.region [⟨(some 19), (.load true 28 (.t 7)), none⟩, ⟨(some 20), (.mv (.t 2)), none⟩, ⟨(some 21), (.call 38 [(.t 19), (.t 20)]), none⟩, ⟨(some 6), (.mv (.t 21)), none⟩] false) .ret))))
theorem acts_small (l : List Gz) (hs : Smal l) : (actsS (rowG l)).length ≤ 1000000 := by
  have h1 := (actsS_perm (rowG l)).length_eq
  have h2 := fst_le (rowG l) []
  have h3 := hs.row
  omega
theorem find_at (n : Int) : ∀ (acts : List Ac) (k : Nat), (∀ (j : Nat) (hj : j < acts.length), j < k → acts[j].number ≠ n) → ∀ (hk : k < acts.length), acts[k].number = n → startA acts n = acts[k].start
  | [], k, _, hk, _ => by simp at hk
  | a :: r, 0, _, _, h => by
    have h0 : a.number = n := h
    simp [startA, h0]
  | a :: r, k + 1, h1, hk, h => by
    have h0 : a.number ≠ n := h1 0 (by simp) (by omega)
    have ih := find_at n r k (fun j hj hjk => h1 (j + 1) (by simpa using hj) (by omega)) (by simpa using hk) h
    have h0' : (a.number == n) = false := by simpa using h0
    simp only [startA, List.find?_cons, h0'] at ih ⊢
    exact ih
theorem find_none (n : Int) : ∀ (acts : List Ac), (∀ (j : Nat) (hj : j < acts.length), acts[j].number ≠ n) → startA acts n = ⟨0, 0, []⟩
  | [], _ => rfl
  | a :: r, h => by
    have h0 : a.number ≠ n := h 0 (by simp)
    have ih := find_none n r (fun j hj => h (j + 1) (by simpa using hj))
    have h0' : (a.number == n) = false := by simpa using h0
    simp only [startA, List.find?_cons, h0'] at ih ⊢
    exact ih
theorem sp_pandectref29_start (n : Int) (l : List Gz) (hs : Smal l) : PCall Tryz.prog 65 [pI n, .sl 4 (l.map Gz.enc)] (.agg (startA (actsS (rowG l)) n).enc) := by
  have hal := acts_small l hs
  refine Zaj ?_ (Zar (Sta.closed _)) (by simp only [Zav, List.mem_cons, List.not_mem_nil, or_false, forall_eq_or_imp, forall_eq, false_implies, implies_true]; repeat' (first  | exact cI _ | exact Zbr _ | exact Zar (Gz.closed _) | exact Zaz (by simp only [List.mem_cons, List.not_mem_nil, or_false, forall_eq]; first | exact cI _ | exact cS _ | exact Zaq _) | refine And.intro ?_ ?_))
  refine Zan (vc := c_pandectref29_start) (ts := [.c 4 true 3]) Go.Proofs.Tryz.func65 (by kernel_rfl) rfl rfl (Nat.le_of_ble_eq_true rfl) (by kernel_rfl) ?_
  unfold c_pandectref29_start
  refine Zad (Zaa [0, 1, 4] ?_)
  simp only [Zab, Zac, StepW, Env.get, Env.put, Env.keep, Zax, thenQ, Heap.push, Heap.nil, Nat.succ_ne_self, List.length, Nat.reduceEqDiff, Nat.reduceAdd, ite_true, ite_false, reduceCtorEq, Nat.zero_add]
  refine Zad (Zaa [0, 4, 5] ?_)
  simp only [Zab, Zac, StepW, pok, pval, VA.ev, Env.get, Env.put, Env.keep, thenQ, Nat.succ_ne_self, List.map, Nat.reduceEqDiff, ite_true, ite_false, true_and, reduceCtorEq]
  refine Zas (sp_pandectref28_Acts l hs.len hs.row) ?_
  skip
  generalize actsS (rowG l) = acts at hal ⊢
  refine Zad ?_
  refine Zad (Zaa [0, 4, 5, 6] ?_)
  simp only [Zab, Zac, StepW, pok, pval, VA.ev, Env.get, Env.put, Env.keep, thenQ, Nat.succ_ne_self, Nat.reduceEqDiff, ite_true, ite_false, true_and, reduceCtorEq]
  refine Zag ?_
  refine Za1 (σ := { k : Nat // k ≤ acts.length ∧ ∀ (j : Nat) (hj : j < acts.length), j < k → acts[j].number ≠ n }) (fun x => ([(0, pI n), (4, .loc 0 0 0), (5, .sl 7 (acts.map Ac.enc)), (6, pI x.1)], ⟨[(0, .arr false 3 [[pI 0, pI 0, .str []]])], 1⟩)) (fun x => acts.length - x.1) ⟨0, Nat.zero_le _, fun j _ h => by cases h⟩ ?_ ?_ ?_
  · simp only [Env.get, Nat.succ_ne_self, Env.le, Nat.reduceEqDiff, ite_true, ite_false, true_and, and_true, reduceCtorEq]
    rfl
  · simp only [Heap.get, Heap.le, HL.get, HL.le, Nat.le_refl, ite_true, and_true]
  rintro ⟨k, hk, hpre⟩
  simp only []
  refine Zad ?_
  refine Zad (Zaa [0, 4, 5, 6, 12] ?_)
  simp only [Zab, Zac, StepW, pok, pval, VA.ev, Env.get, Env.put, Env.keep, thenQ, intV, binV, binOk, lenV, lenOk, Heap.get, Heap.le, HL.le, Nat.succ_ne_self, Env.le, Nat.reduceEqDiff, ite_true, ite_false, true_and, and_true, ne_eq, reduceCtorEq, List.length_map]
  refine Zaf rfl (fun h1 => ?_) (fun h1 => ?_)
  · have ka : k < acts.length := by simp only [decide_eq_true_eq] at h1; omega
    refine Zah ?_
    try simp only [thenQ]
    refine Zad ?_
    refine Zag ?_
    refine Zad (Zaa [0, 4, 5, 6, 21] ?_)
    simp only [Zab, Zac, StepW, pok, pval, VA.ev, Env.get, Env.put, Env.keep, thenQ, aggV, intV, binV, binOk, isInt, numOf, lenV, Zal, Zak, Zae, locOk, Zau, Zao, PV.nth, PV.row, Nat.succ_ne_self, List.drop, Nat.reduceEqDiff, Nat.reduceLeDiff, Bool.false_eq_true, ite_true, ite_false, true_and, and_true, implies_true, reduceCtorEq, Int.toNat_natCast, List.length_map, rowm ka, Zbw, ac_num]
    refine ⟨by omega, ?_⟩
    refine Zaf rfl (fun h2 => ?_) (fun h2 => ?_)
    · refine Zad (Zaa [4] ?_)
      simp only [Zab, Zac, StepW, pok, pval, VA.ev, Env.get, Env.put, Env.keep, thenQ, aggV, isInt, numOf, lenV, Zal, Zak, Zae, locOk, Zau, Zao, PV.cells, PV.fits, overlay, PV.nth, PV.row, Heap.get, Heap.set, HL.get, HL.set, HL.del, Nat.le_refl, Nat.succ_ne_self, Za7, Za2, List.set, List.length, List.getD_cons_zero, List.take, List.nil_append, Nat.reduceEqDiff, Nat.reduceLT, Nat.reduceLeDiff, Bool.true_eq_false, ite_true, ite_false, true_and, and_true, reduceCtorEq, Nat.zero_add, imp_self, Int.toNat_natCast, List.length_map, rowm ka, Zbw, ac_l3, ac_start3]
      refine ⟨⟨by omega, by omega⟩, rfl, ?_⟩
      refine Zam ?_
      try simp only [Env.get, thenQ, Zai, retQ, resV, resOk, RS.ev, RS.ok, aggV, Zae, locOk, PV.nth, PV.row, Heap.get, HL.get, List.length, List.getD_cons_zero, List.drop, Nat.reduceEqDiff, Nat.reduceLT, Bool.true_eq_false, ite_true, true_and, and_true, Nat.zero_add, imp_self]
      have e := find_at n acts k hpre ka (by simpa using h2)
      rw [e]
      exact ⟨Nat.le_refl 3, View.refl _ _⟩
    refine Zah ?_
    try simp only [thenQ, Zai]
    have hne : acts[k].number ≠ n := by simpa using h2
    refine Zaa [0, 4, 5, 6] ?_
    simp only [Zab, Zac, StepW, pok, pval, VA.ev, Env.get, Env.put, Env.keep, thenQ, intV, binV, binOk, HL.get, Nat.le_refl, Nat.succ_ne_self, Nat.reduceEqDiff, ite_true, ite_false, true_and, and_true, reduceCtorEq, ad1 (a := k) (by omega)]
    refine ⟨⟨k + 1, ka, fun j hj hjk => ?_⟩, ?_⟩
    · by_cases e : j = k
      · subst e; exact hne
      · exact hpre j hj (by omega)
    · try simp only [true_and]
      all_goals (repeat' (first | rfl | trivial | omega | (simp only []; omega) | refine And.intro ?_ ?_))
  · have ka : k = acts.length := by simp only [decide_eq_false_iff_not] at h1; omega
    refine Zay ?_
    try simp only [thenQ, Zai, retQ, ite_true]
    refine Zad (Zaa [4] ?_)
    simp only [Zab, Zac, StepW, pok, pval, VA.ev, Env.get, Env.put, Env.keep, thenQ, fillV, Zb4, PV.cells, PV.fits, overlay, PV.row, Heap.get, Heap.set, HL.get, HL.set, HL.del, Nat.le_refl, Nat.succ_ne_self, Za7, Za2, List.set, List.length, List.getD_cons_zero, List.take, List.drop, List.drop_succ_cons, List.cons_append, List.nil_append, Nat.reduceEqDiff, Nat.reduceAdd, Nat.reduceLT, ite_true, ite_false, true_and, and_true, reduceCtorEq, BEq.rfl, Nat.zero_add, List.length_cons]
    refine Zam ?_
    try simp only [Env.get, retQ, resV, resOk, RS.ev, RS.ok, aggV, Zae, locOk, PV.nth, PV.row, Heap.get, HL.get, Nat.le_refl, List.length, List.getD_cons_zero, List.take, List.drop, List.take_succ_cons, Nat.reduceEqDiff, Nat.reduceAdd, Nat.reduceLT, Bool.true_eq_false, ite_true, true_and, and_true, Nat.zero_add, List.length_cons, imp_self]
    rw [find_none n acts (fun j hj => hpre j hj (by omega))]
    exact View.refl _ _
theorem sp_pandectref29_Of (d : EI) (l : List Gz) (hs : Smal l) (hd5 : (dds l).length ≤ 5000) : PCall Tryz.prog 38 [.agg d.enc, .sl 4 (l.map Gz.enc)] (.sl 2 ((daysS l d).map Sp.enc)) := by
  refine Zaj ?_ (Zap _) (by simp only [Zav, List.mem_cons, List.not_mem_nil, or_false, forall_eq_or_imp, forall_eq, false_implies, implies_true]; repeat' (first  | exact Zar (EI.closed _) | exact Zbr _ | exact Zar (Gz.closed _) | exact Zap _ | exact Zar (Sp.closed _) | refine And.intro ?_ ?_))
  refine Zan (vc := c_pandectref29_Of) (ts := [.t 4]) Go.Proofs.Tryz.func38 (by kernel_rfl) rfl rfl (Nat.le_of_ble_eq_true rfl) (by kernel_rfl) ?_
  unfold c_pandectref29_Of
  refine Zad (Zaa [1, 2] ?_)
  simp only [Zab, Zac, StepW, pok, pval, VA.ev, Env.get, Env.put, Env.keep, Zax, thenQ, PV.cells, PV.fits, Heap.push, Heap.nil, Nat.succ_ne_self, Nat.reduceEqDiff, ite_true, ite_false, true_and, reduceCtorEq, BEq.rfl, Nat.zero_add, Zb8]
  refine VW_freeze [(1, .sl 4 (l.map Gz.enc)), (2, .ro d.enc)] ⟨View.refl _ _, View.loc (z := 28) (fz := false) (es := [d.enc]) rfl (by simp) rfl (by simp [Zb8]), trivial⟩ ?_
  refine Zad (Zca [4] (by simp [Heap.le, Heap.get, HL.le, HL.get]) ?_)
  simp only [Zbi, Zb3, QW, dok, dval, VOp.pure, VOp.simple, VOp.det, pok, pval, VA.ev, Env.get, Env.put, Env.keep, thenQ, gd, aggV, Zal, Zak, Zae, locOk, PV.nth, Nat.le_refl, Nat.succ_ne_self, List.drop, Nat.reduceEqDiff, Nat.reduceLeDiff, Bool.false_eq_true, Bool.true_eq_false, ite_true, ite_false, true_and, and_true, implies_true, forall_const, imp_self, Zb8, ei_t28, ei_act]
  refine ⟨_, .inl (sp_pandectref29_start d.act l hs), ?_⟩
  refine ⟨_, .inl (sp_pandectref28_Deeds l hs.len hs.row hs.items), ?_⟩
  refine ⟨_, .inl (c.sp_pandectref27_Spans _ d _ hd5), ?_⟩
  skip
  refine Zam ?_
  try simp only [Env.get, retQ, resV, resOk, RS.ev, RS.ok, ite_true, true_and, and_true]
  exact View.refl _ _
theorem sp_pandectref29_Spans (act item : Int) (l : List Gz) (hs : Smal l) (hd5 : (dds l).length ≤ 5000) : PCall Tryz.prog 17 [pI act, pI item, .sl 4 (l.map Gz.enc)] (.sl 2 ((match fnd act item l with | some d => daysS l d | none => []).map Sp.enc)) := by
  refine Zaj ?_ (Zap _) (by simp only [Zav, List.mem_cons, List.not_mem_nil, or_false, forall_eq_or_imp, forall_eq, false_implies, implies_true]; repeat' (first  | exact cI _ | exact Zbr _ | exact Zap _ | exact Zaz (by simp only [List.mem_cons, List.not_mem_nil, or_false, forall_eq]; first | exact cI _ | exact cS _ | exact Zaq _) | refine And.intro ?_ ?_))
  refine Zan (vc := c_pandectref29_Spans) (ts := [.t 6]) Go.Proofs.Tryz.func17 (by kernel_rfl) rfl rfl (Nat.le_of_ble_eq_true rfl) (by kernel_rfl) ?_
  unfold c_pandectref29_Spans
  refine Zad (Zaa [0, 1, 2] ?_)
  simp only [Zab, Zac, StepW, pok, pval, VA.ev, Env.get, Env.put, Env.keep, Zax, thenQ, Heap.nil, Nat.succ_ne_self, Nat.reduceEqDiff, Nat.reduceAdd, ite_true, ite_false, true_and, reduceCtorEq, Nat.zero_add]
  have F := sp_pandectref28_Find act item l hs
  refine Zad (Zaa [2, 7, 8] ?_)
  simp only [Zab, Zac, StepW, pok, pval, VA.ev, Env.get, Env.put, Env.keep, thenQ, extV, extOk, PV.cells, PV.fits, overlay, PV.nth, PV.row, Heap.get, Heap.set, HL.get, HL.set, Heap.push, Nat.le_refl, Nat.succ_ne_self, Za7, Za2, List.map, List.set, List.length, List.getD_cons_zero, List.take, List.nil_append, Nat.reduceEqDiff, Nat.reduceAdd, Nat.reduceLT, ite_true, ite_false, true_and, and_true, reduceCtorEq, Nat.zero_add]
  refine Zas F ?_
  show _
  have hf : (deedsS (actsS (rowG l))).find? (atB act item) = fnd act item l := rfl
  rw [hf]
  cases hfd : fnd act item l with
  | none =>
    simp only [HL.del, List.map, List.length, List.getD_cons_zero, List.getD_cons_succ, List.drop, List.drop_succ_cons, Nat.reduceAdd, Nat.reduceLT, true_and, BEq.rfl, Nat.zero_add, resF, Option.getD_none, Option.isSome_none, Zb8]
    refine Zad ?_
    refine Zad (Zaa [2, 7, 17] ?_)
    simp only [Zab, Zac, StepW, pok, pval, VA.ev, Env.get, Env.put, Env.keep, thenQ, unV, unOk, Nat.succ_ne_self, Nat.reduceEqDiff, ite_true, ite_false, true_and, Bool.not_false]
    refine Zaf rfl (fun _ => ?_) (fun h => by cases h)
    refine Zad (Zaa [6] ?_)
    simp only [Zab, Zac, StepW, pok, pval, VA.ev, Env.get, Env.put, Env.keep, thenQ, Heap.push, Nat.succ_ne_self, fxV, fxOk, List.map, Nat.reduceEqDiff, Nat.reduceAdd, ite_true, ite_false, true_and]
    refine Zam ?_
    try simp only [Env.get, thenQ, retQ, resV, resOk, RS.ev, RS.ok, ite_true, true_and, and_true]
    exact View.own_all (fz := false) (by simp [Heap.get, HL.get]) (by simp)
  | some d =>
    simp only [HL.del, List.length, List.getD_cons_zero, List.getD_cons_succ, List.drop, List.drop_succ_cons, Nat.reduceAdd, Nat.reduceLT, true_and, BEq.rfl, Nat.zero_add, resF, Option.getD_some, Option.isSome_some, Zb8]
    refine Zad ?_
    refine Zad (Zaa [2, 7, 17] ?_)
    simp only [Zab, Zac, StepW, pok, pval, VA.ev, Env.get, Env.put, Env.keep, thenQ, unV, unOk, Nat.succ_ne_self, Nat.reduceEqDiff, ite_true, ite_false, true_and, Bool.not_true]
    refine Zaf rfl (fun h => by cases h) (fun _ => ?_)
    refine Zah ?_
    try simp only [thenQ]
    refine Zad (Zaa [6] ?_)
    simp only [Zab, Zac, StepW, pok, pval, VA.ev, Env.get, Env.put, Env.keep, thenQ, aggV, Zae, locOk, PV.nth, PV.row, Heap.get, HL.get, Nat.le_refl, Nat.succ_ne_self, List.map, List.length, List.getD_cons_zero, List.drop, Nat.reduceEqDiff, Nat.reduceLT, Bool.true_eq_false, ite_true, ite_false, true_and, and_true, Nat.zero_add, imp_self, ei_t28, Zb8, ei_d28, List.append_nil]
    refine Zas (sp_pandectref29_Of d l hs hd5) ?_
    skip
    refine Zam ?_
    try simp only [Env.get, retQ, resV, resOk, RS.ev, RS.ok, ite_true, true_and, and_true]
    exact View.refl _ _
end Go.Proofs.YtehokmhebnkfdaaGreat.w
namespace Go.Proofs.YtehokmhebnkfdaaGreat.w
open Go Go.VM
set_option maxRecDepth 20000
set_option maxHeartbeats 0
set_option pp.deepTerms false
def c_pandectref29_Same : VC := (.seq (.region [⟨(some 4), (.mv (.c (.bool false))), none⟩] false) (.seq (.seq (.region [⟨(some 6), (.mv (.t 0)), none⟩, ⟨(some 7), (.len false (.t 6)), none⟩, ⟨(some 8), (.mv (.t 1)), none⟩, ⟨(some 9), (.len false (.t 8)), none⟩, ⟨(some 10), (.bin .neq (.t 7) (.t 9)), none⟩] false) (.cond (.t 10) (.seq (.region [⟨(some 4), (.mv (.c (.bool false))), none⟩] false) .ret) .skip)) (.seq (.seq (.region [⟨(some 5), (.mv (.c (.int .i64 0))), none⟩] false) (.block 0 (.loop (.seq (.seq (.region [⟨(some 11), (.mv (.t 5)), none⟩, ⟨(some 12), (.mv (.t 0)), none⟩, ⟨(some 13), (.len false (.t 12)), none⟩, ⟨(some 14), (.bin .lss (.t 11) (.t 13)), none⟩] false) (.cond (.t 14) .skip (.exit 0))) (.seq (.block 1 (.seq (.region [⟨(some 17), (.mv (.t 0)), none⟩, ⟨(some 18), (.mv (.t 5)), none⟩, ⟨(some 19), (.iaddr 2 (.t 17) (.t 18)), none⟩, ⟨(some 20), (.load true 2 (.t 19)), none⟩, ⟨(some 21), (.mv (.t 1)), none⟩, ⟨(some 22), (.mv (.t 5)), none⟩, ⟨(some 23), (.iaddr 2 (.t 21) (.t 22)), none⟩, ⟨(some 24), (.load true 2 (.t 23)), none⟩, ⟨(some 25), (.eqs true [.i, .i] (.t 20) (.t 24)), none⟩] true) (.cond (.t 25) (.seq (.region [⟨(some 4), (.mv (.c (.bool false))), none⟩] false) .ret) .skip))) (.region [⟨(some 15), (.mv (.t 5)), none⟩, ⟨(some 16), (.bin .add (.t 15) (.c (.int .i64 1))), none⟩, ⟨(some 5), (.mv (.t 16)), none⟩] false)))))) (.seq (.region [⟨(some 4), (.mv (.c (.bool true))), none⟩] false) .ret))))
theorem sp_pandectref29_Same (l m : List Sp) (hl : l.length ≤ 100000) (hm : m.length ≤ 100000) : PCall Tryz.prog 15 [.sl 2 (l.map Sp.enc), .sl 2 (m.map Sp.enc)] (.bool (decide (l = m))) := by
  refine Zaj ?_ (cB _) (by simp only [Zav, List.mem_cons, List.not_mem_nil, or_false, forall_eq_or_imp, forall_eq, false_implies, implies_true]; repeat' (first  | exact cB _ | exact Zap _ | refine And.intro ?_ ?_))
  refine Zan (vc := c_pandectref29_Same) (ts := [.t 4]) Go.Proofs.Tryz.func15 (by kernel_rfl) rfl rfl (Nat.le_of_ble_eq_true rfl) (by kernel_rfl) ?_
  unfold c_pandectref29_Same
  refine Zad (Zaa [0, 1] ?_)
  simp only [Zab, Zac, StepW, pok, pval, VA.ev, Env.get, Env.put, Env.keep, Zax, thenQ, Heap.nil, Nat.succ_ne_self, Nat.reduceEqDiff, ite_true, ite_false, true_and, reduceCtorEq, Nat.zero_add]
  refine Zad ?_
  refine Zad (Zaa [0, 1, 10] ?_)
  simp only [Zab, Zac, StepW, pok, pval, VA.ev, Env.get, Env.put, Env.keep, thenQ, intV, binV, binOk, lenV, lenOk, Nat.succ_ne_self, Nat.reduceEqDiff, ite_true, ite_false, true_and, reduceCtorEq, List.length_map]
  refine Zaf rfl (fun h1 => ?_) (fun h1 => ?_)
  · refine Zad (Zaa [4] ?_)
    simp only [Zab, Zac, StepW, pok, pval, VA.ev, Env.get, Env.put, Env.keep, thenQ, Nat.reduceEqDiff, ite_true, ite_false, true_and, reduceCtorEq]
    refine Zam ?_
    try simp only [Env.get, thenQ, retQ, resV, resOk, RS.ev, RS.ok, ite_true, true_and, and_true]
    have e : decide (l = m) = false := by
      rw [decide_eq_false_iff_not]
      rintro rfl
      simp at h1
    rw [e]; exact View.refl _ _
  have hlm : l.length = m.length := by simp at h1; omega
  refine Zah ?_
  try simp only [thenQ]
  refine Zad ?_
  refine Zad (Zaa [0, 1, 5] ?_)
  simp only [Zab, Zac, StepW, pok, pval, VA.ev, Env.get, Env.put, Env.keep, thenQ, Nat.succ_ne_self, Nat.reduceEqDiff, ite_true, ite_false, true_and, reduceCtorEq]
  refine Zag ?_
  refine Za1 (σ := { i : Nat // i ≤ l.length ∧ l.take i = m.take i }) (fun s => ([(0, .sl 2 (l.map Sp.enc)), (1, .sl 2 (m.map Sp.enc)), (5, pI s.1)], ⟨[], 0⟩)) (fun s => l.length - s.1) ⟨0, by simp⟩ ?_ ?_ ?_
  · simp only [Env.get, Nat.succ_ne_self, Env.le, Nat.reduceEqDiff, ite_true, ite_false, true_and, and_true, reduceCtorEq]
    rfl
  · simp only [Heap.le, HL.le, Nat.le_refl, and_true]
  rintro ⟨i, hi, hpre⟩
  simp only []
  refine Zad ?_
  refine Zad (Zaa [0, 1, 5, 14] ?_)
  simp only [Zab, Zac, StepW, pok, pval, VA.ev, Env.get, Env.put, Env.keep, thenQ, intV, binV, binOk, lenV, lenOk, Heap.le, HL.le, Nat.succ_ne_self, Env.le, Nat.reduceEqDiff, ite_true, ite_false, true_and, and_true, reduceCtorEq, List.length_map]
  refine Zaf rfl (fun h2 => ?_) (fun h2 => ?_)
  · refine Zah ?_
    try simp only [thenQ]
    simp only [decide_eq_true_eq] at h2
    have ia : i < l.length := by omega
    have ib : i < m.length := by omega
    refine Zad ?_
    refine Zag ?_
    refine Zad (Zca [0, 1, 5, 25] (by simp [Heap.le, Heap.get, HL.le, HL.get]) ?_)
    simp only [Zbi, Zb3, QW, dok, dval, VOp.pure, VOp.simple, VOp.det, pok, pval, VA.ev, Env.get, Env.put, Env.keep, thenQ, gd, aggV, isInt, numOf, lenV, Zae, locOk, Zbm, isAggP, Zau, Zao, PV.nth, PV.row, Nat.le_refl, Nat.succ_ne_self, eqOk, ekOk, Za4, Zbu, List.length, List.getD_cons_zero, List.take, List.take_succ_cons, Nat.reduceEqDiff, Nat.reduceAdd, Bool.true_eq_false, ite_true, ite_false, true_and, and_true, implies_true, forall_const, reduceCtorEq, Nat.zero_add, List.length_cons, imp_self, Int.toNat_natCast, List.length_map, rowm ia, rowm ib, Sp.enc]
    repeat (with_reducible refine And.intro ?_ ?_; first | omega | (with_reducible constructor <;> omega) | exact False.elim | exact True.intro)
    refine Zaf rfl (fun h3 => ?_) (fun h3 => ?_)
    · refine Zad (Zaa [4] ?_)
      simp only [Zab, Zac, StepW, pok, pval, VA.ev, Env.get, Env.put, Env.keep, thenQ, Nat.succ_ne_self, Nat.reduceEqDiff, ite_true, ite_false, true_and, reduceCtorEq]
      refine Zam ?_
      try simp only [Env.get, thenQ, Zai, retQ, resV, resOk, RS.ev, RS.ok, ite_true, true_and, and_true]
      have e : decide (l = m) = false := by
        rw [decide_eq_false_iff_not]
        rintro rfl
        simp at h3
      rw [e]; exact View.refl _ _
    have hs : l[i] = m[i] := by
      have : l[i].frm = m[i].frm ∧ l[i].to = m[i].to := by simpa using h3
      generalize l[i] = a at this
      generalize m[i] = b at this
      cases a; cases b; simp_all
    refine Zah ?_
    try simp only [thenQ, Zai]
    refine Zaa [0, 1, 5] ?_
    simp only [Zab, Zac, StepW, pok, pval, VA.ev, Env.get, Env.put, Env.keep, thenQ, intV, binV, binOk, Nat.le_refl, Nat.succ_ne_self, Nat.reduceEqDiff, ite_true, ite_false, true_and, reduceCtorEq, w64 (n := (i : Int) + 1) (by omega) (by omega)]
    refine ⟨⟨i + 1, by omega, by rw [List.take_add_one, List.take_add_one, List.getElem?_eq_getElem ia, List.getElem?_eq_getElem ib, hpre, hs]⟩, ?_, ?_⟩
    · rfl
    · simp only []; omega
  · refine Zay ?_
    try simp only [thenQ, Zai, retQ, ite_true]
    refine Zad (Zaa [4] ?_)
    simp only [Zab, Zac, StepW, pok, pval, VA.ev, Env.get, Env.put, Env.keep, thenQ, Nat.succ_ne_self, Nat.reduceEqDiff, ite_true, ite_false, true_and, reduceCtorEq]
    refine Zam ?_
    try simp only [Env.get, retQ, resV, resOk, RS.ev, RS.ok, ite_true, true_and, and_true]
    simp only [decide_eq_false_iff_not] at h2
    have e : decide (l = m) = true := by
      have : i = l.length := by omega
      subst this
      rw [List.take_length, hlm, List.take_length] at hpre
      simpa using hpre
    rw [e]; exact View.refl _ _
end Go.Proofs.YtehokmhebnkfdaaGreat.w
namespace Go.Proofs.YtehokmhebnkfdaaGreat.w
open Go Go.VM
set_option maxRecDepth 20000
set_option maxHeartbeats 0
set_option pp.deepTerms false
def Zcn : VC := (.seq (.region [⟨(some 6), (.mv (.c (.bool false))), none⟩] false) (.seq (.seq (.region [⟨(some 7), (.call 9 []), none⟩, ⟨(some 8), (.un .not (.t 7)), none⟩] false) (.cond (.t 8) (.seq (.region [⟨(some 6), (.mv (.c (.bool false))), none⟩] false) .ret) .skip)) (.seq (.seq (.region [⟨(some 9), (.mv (.t 0)), none⟩, ⟨(some 10), (.call 10 [(.t 9)]), none⟩, ⟨(some 11), (.un .not (.t 10)), none⟩] false) (.cond (.t 11) (.seq (.region [⟨(some 6), (.mv (.c (.bool true))), none⟩] false) .ret) .skip)) (.seq (.region [⟨(some 12), (.mv (.t 1)), none⟩, ⟨(some 13), (.mv (.t 2)), none⟩, ⟨(some 14), (.mv (.t 0)), none⟩, ⟨(some 15), (.call 16 [(.t 12), (.t 13), (.t 14)]), none⟩, ⟨(some 16), (.mv (.t 1)), none⟩, ⟨(some 17), (.mv (.t 2)), none⟩, ⟨(some 18), (.mv (.t 0)), none⟩, ⟨(some 19), (.call 17 [(.t 16), (.t 17), (.t 18)]), none⟩, ⟨(some 20), (.call 15 [(.t 15), (.t 19)]), none⟩, ⟨(some 6), (.mv (.t 20)), none⟩] false) .ret))))
theorem chg_mem {l : List Gz} {d : EI} : d ∈ chgS l ↔ d ∈ dds l ∧ isChg d = true := List.mem_filter
theorem days_none (l : List Gz) (d : EI) (h : isChg d = false) : daysS l d = [] := by
  unfold daysS c.forceS
  refine if_pos ?_
  have h1 : ¬ (0 ≤ d.it.kind ∧ d.it.kind ≤ 6) := fun h2 => by rw [chg_kind.2 h2] at h; cases h
  omega
theorem lastD_fold (l : List Gz) (act item : Int) (x : EI) : ∀ (r : List EI) (o : Option (List Sp)),
    (∀ d ∈ r, d.act = act → d.item = item → d = x) →
    r.foldl (fun o d => if d.act = act ∧ d.item = item then some (daysS l d) else o) o = if ∃ d ∈ r, d.act = act ∧ d.item = item then some (daysS l x) else o
  | [], o, _ => by simp
  | d :: r, o, h => by
    rw [List.foldl_cons, lastD_fold l act item x r _ (fun e he => h e (List.mem_cons_of_mem _ he))]
    by_cases h1 : d.act = act ∧ d.item = item
    · have hx := h d List.mem_cons_self h1.1 h1.2
      rw [if_pos h1, if_pos (show ∃ e ∈ d :: r, e.act = act ∧ e.item = item from ⟨d, List.mem_cons_self, h1⟩), hx]
      split <;> rfl
    · rw [if_neg h1]
      have : (∃ e ∈ d :: r, e.act = act ∧ e.item = item) ↔ ∃ e ∈ r, e.act = act ∧ e.item = item := by
        constructor
        · rintro ⟨e, he, h2⟩
          rcases List.mem_cons.1 he with rfl | he
          · exact absurd h2 h1
          · exact ⟨e, he, h2⟩
        · rintro ⟨e, he, h2⟩; exact ⟨e, List.mem_cons_of_mem _ he, h2⟩
      simp only [this]
theorem lastD_fnd (l : List Gz) (act item : Int) : (lastD l act item (chgS l)).getD [] = match fnd act item l with | some d => daysS l d | none => [] := by
  unfold lastD
  cases hf : fnd act item l with
  | none =>
    have hno : ¬ ∃ d ∈ chgS l, d.act = act ∧ d.item = item := by
      rintro ⟨d, hd, rfl, rfl⟩
      rw [fnd_mem (chg_mem.1 hd).1] at hf; cases hf
    rw [lastD_fold l act item EI0 (chgS l) none (fun d hd h1 h2 => absurd ⟨d, hd, h1, h2⟩ hno), if_neg hno]; rfl
  | some x =>
    obtain ⟨hx, h1, h2⟩ := fnd_some hf
    rw [lastD_fold l act item x (chgS l) none (fun d hd e1 e2 => deedsS_inj (chg_mem.1 hd).1 hx (e1.trans h1.symm) (e2.trans h2.symm))]
    simp only []
    by_cases hc : isChg x = true
    · rw [if_pos ⟨x, chg_mem.2 ⟨hx, hc⟩, h1, h2⟩]; rfl
    · have hc' : isChg x = false := by simpa using hc
      rw [days_none l x hc']
      split
      · rename_i h
        obtain ⟨d, hd, e1, e2⟩ := h
        have : d = x := deedsS_inj (chg_mem.1 hd).1 hx (e1.trans h1.symm) (e2.trans h2.symm)
        rw [this] at hd
        rw [(chg_mem.1 hd).2] at hc'; cases hc'
      · rfl
theorem Nice.dds {l : List Gz} (h : Nice l) (hf : FewG 30 l) : (dds l).length ≤ 30 := by
  have h1 := acts_items (rowG l)
  have h2 := hf.2.2
  have h3 := deedsF_len (Za3 (actsS (rowG l))) (actsS (rowG l))
  show (deedsS _).length ≤ 30
  unfold deedsS
  omega
theorem lastD_len (l : List Gz) (act item : Int) (h : (dds l).length ≤ 30) : ((lastD l act item (chgS l)).getD []).length ≤ 31 := by
  rw [lastD_fnd]
  split
  · have := days_len l ‹_›; omega
  · simp
theorem sp_Spans_last (l : List Gz) (act item : Int) (hs : Smal l) (hd5 : (dds l).length ≤ 5000) : PCall Tryz.prog 17 [pI act, pI item, .sl 4 (l.map Gz.enc)] (.sl 2 (((lastD l act item (chgS l)).getD []).map Sp.enc)) := by
  have h := sp_pandectref29_Spans act item l hs hd5
  rw [lastD_fnd]
  cases hf : fnd act item l <;> simpa only [hf] using h
theorem law_InforceDaysOf (l : List Gz) (act item : Int) (hok : okL Gz.okZ l) (_ : i64 act) (_ : i64 item) (_ : l.length * 56 ≤ 140737488351232) : PCall Tryz.prog 4 [.sl 4 (l.map Gz.enc), pI act, pI item] (.bool true) := by
  refine Zaj ?_ (cB _) (by simp only [Zav, List.mem_cons, List.not_mem_nil, or_false, forall_eq_or_imp, forall_eq, false_implies, implies_true]; repeat' (first  | exact cI _ | exact cB _ | exact Zbr _ | exact Zaz (by simp only [List.mem_cons, List.not_mem_nil, or_false, forall_eq]; first | exact cI _ | exact cS _ | exact Zaq _) | refine And.intro ?_ ?_))
  refine Zan (vc := Zcn) (ts := [.t 6]) Go.Proofs.Tryz.func4 (by kernel_rfl) rfl rfl (Nat.le_of_ble_eq_true rfl) (by kernel_rfl) ?_
  unfold Zcn
  refine Zad (Zaa [0, 1, 2] ?_)
  simp only [Zab, Zac, StepW, pok, pval, VA.ev, Env.get, Env.put, Env.keep, Zax, thenQ, Heap.nil, Nat.succ_ne_self, Nat.reduceEqDiff, Nat.reduceAdd, ite_true, ite_false, true_and, reduceCtorEq, Nat.zero_add]
  refine Zad ?_
  refine Zad (Zaa [0, 1, 2, 8] ?_)
  simp only [Zab, Zac, StepW, pok, pval, VA.ev, Env.get, Env.put, Env.keep, thenQ, unV, unOk, Nat.succ_ne_self, List.map, Nat.reduceEqDiff, ite_true, ite_false, reduceCtorEq]
  refine Zas awake ?_
  try simp only [true_and, Bool.not_true]
  refine Zaf rfl (fun h => by cases h) (fun _ => ?_)
  refine Zah ?_
  try simp only [thenQ]
  refine Zad ?_
  refine Zad (Zaa [0, 1, 2, 11] ?_)
  simp only [Zab, Zac, StepW, pok, pval, VA.ev, Env.get, Env.put, Env.keep, thenQ, unV, unOk, Nat.succ_ne_self, List.map, Nat.reduceEqDiff, ite_true, ite_false, true_and, reduceCtorEq]
  refine Zc5 (sp_pandectlaw29_few l hok) ?_
  rintro p ⟨b, rfl, hb⟩
  simp only [true_and]
  refine Zaf rfl (fun h1 => ?_) (fun h1 => ?_)
  · refine Zad (Zaa [6] ?_)
    simp only [Zab, Zac, StepW, pok, pval, VA.ev, Env.get, Env.put, Env.keep, thenQ, Nat.reduceEqDiff, ite_true, ite_false, true_and, reduceCtorEq]
    refine Zam ?_
    try simp only [Env.get, thenQ, retQ, resV, resOk, RS.ev, RS.ok, ite_true, true_and, and_true]
    exact View.refl _ _
  obtain ⟨hn, hf⟩ := hb (by simpa using h1)
  have hd := hn.dds hf
  have hll := lastD_len l act item hd
  refine Zah ?_
  try simp only [thenQ]
  refine Zad (Zaa [6] ?_)
  simp only [Zab, Zac, StepW, pok, pval, VA.ev, Env.get, Env.put, Env.keep, thenQ, Nat.succ_ne_self, List.map, Nat.reduceEqDiff, ite_true, ite_false, true_and, reduceCtorEq]
  refine Zas (sp_inforce_Days act item l hn.smal (by omega)) ?_
  skip
  refine Zas (sp_Spans_last l act item hn.smal (by omega)) ?_
  skip
  refine Zas (sp_pandectref29_Same _ _ (by omega) (by omega)) ?_
  rw [decide_eq_true rfl]
  skip
  refine Zam ?_
  try simp only [Env.get, retQ, resV, resOk, RS.ev, RS.ok, ite_true, true_and, and_true]
  exact View.refl _ _
end Go.Proofs.YtehokmhebnkfdaaGreat.w
namespace Go.Proofs.YtehokmhebnkfdaaGreat.rd
open Go Go.VM
variable {W : World}
theorem bItem : Tryz.prog.bytesOf 40 = 368 := by kernel_rfl
theorem bAct : Tryz.prog.bytesOf 53 = 88 := by kernel_rfl
theorem bGz : Tryz.prog.bytesOf 57 = 56 := by kernel_rfl
theorem rItsZ (n : Nat) : ReadsZ Tryz.prog W n 38 (fun l => okL It.ok l ∧ itemsOk l) (fun l => [.sl 25 (l.map It.enc)]) := by
  cases n with
  | zero => exact readsZ_zero
  | succ n =>
    refine ReadsZ.map (fun l : List It => l) (readsZ_slice Tryz.underlying38 k40 (by decide) bItem It.Zbj (rIt n).z) ?_ (fun _ => rfl)
    rintro l ⟨h1, h2, h3⟩
    refine ⟨⟨h1, h3⟩, ?_⟩
    have h5 : reachBytes = 140737488351232 := rfl
    unfold itemsOk maxItems
    omega
theorem rAcZ (n : Nat) : ReadsZ Tryz.prog W n 53 Ac.okZ Ac.enc := by
  cases n with
  | zero => exact readsZ_zero
  | succ n =>
    refine ReadsZ.map (fun x : Int × Str × Int × Sta × List It × Unit => (⟨x.1, x.2.1, x.2.2.1, x.2.2.2.1, x.2.2.2.2.1⟩ : Ac)) (readsZ_struct Tryz.underlying53 rfl k53 (Zb7 (by exact (rI n).z) (by exact k3) (by exact (fun _ => rfl)) (by rfl) (Zb7 (by exact (rS n).z) (by exact k9) (by exact (fun _ => rfl)) (by rfl) (Zb7 (by exact (rI n).z) (by exact k3) (by exact (fun _ => rfl)) (by rfl) (Zb7 (by exact (rSta n).z) (by exact k37) (by exact (fun _ => rfl)) (by rfl) (Zb7 (by exact (rItsZ n)) (by exact k38) (by exact (fun _ => rfl)) (by rfl) freadsZ_nil))))) (by exact fun _ => rfl)) ?_ ?_
    · rintro ⟨a, b, c, d, e, _⟩ ⟨h1, h2, h3, h4, h5, _⟩; exact ⟨⟨h1, h2, h3, h4, h5.1⟩, h5.2⟩
    · rintro ⟨a, b, c, d, e, _⟩; rfl
theorem rAcsZ (n : Nat) : ReadsZ Tryz.prog W n 54 (okL Ac.okZ) (fun l => [.sl 7 (l.map Ac.enc)]) := by
  cases n with
  | zero => exact readsZ_zero
  | succ n =>
    refine ReadsZ.map (fun l : List Ac => l) (readsZ_slice Tryz.underlying54 k53 (by decide) bAct (fun _ => rfl) (rAcZ n)) ?_ (fun _ => rfl)
    rintro l ⟨h1, h2, h3⟩
    exact ⟨h1, h3⟩
theorem rGzZ (n : Nat) : ReadsZ Tryz.prog W n 57 Gz.okZ Gz.enc := by
  cases n with
  | zero => exact readsZ_zero
  | succ n =>
    refine ReadsZ.map (fun x : Int × Int × Str × List Ac × Unit => (⟨x.1, x.2.1, x.2.2.1, x.2.2.2.1⟩ : Gz)) (readsZ_struct Tryz.underlying57 rfl k57 (Zb7 (by exact (rI n).z) (by exact k3) (by exact (fun _ => rfl)) (by rfl) (Zb7 (by exact (rI n).z) (by exact k3) (by exact (fun _ => rfl)) (by rfl) (Zb7 (by exact (rS n).z) (by exact k9) (by exact (fun _ => rfl)) (by rfl) (Zb7 (by exact (rAcsZ n)) (by exact k54) (by exact (fun _ => rfl)) (by rfl) freadsZ_nil)))) (by exact fun _ => rfl)) ?_ ?_
    · rintro ⟨a, b, c, d, _⟩ ⟨h1, h2, h3, h4, _⟩; exact ⟨h1, h2, h3, h4⟩
    · rintro ⟨a, b, c, d, _⟩; rfl
theorem rGzsZ (n : Nat) : ReadsZ Tryz.prog W n 22 (okL Gz.okZ) (fun l => [.sl 4 (l.map Gz.enc)]) := by
  cases n with
  | zero => exact readsZ_zero
  | succ n =>
    refine ReadsZ.map (fun l : List Gz => l) (readsZ_slice Tryz.underlying22 k57 (by decide) bGz (fun _ => rfl) (rGzZ n)) ?_ (fun _ => rfl)
    rintro l ⟨h1, h2, h3⟩
    exact ⟨h1, h3⟩
end Go.Proofs.YtehokmhebnkfdaaGreat.rd
