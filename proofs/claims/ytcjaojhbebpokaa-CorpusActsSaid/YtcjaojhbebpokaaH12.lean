/-
  Walks: corpus.every over the closure that gathers what occurs again; corpus.Duplicates.
  Plain laws: what occurs again, gathered and sorted, is what the reference puts in order.
-/
import Derived.Test.YtcjaojhbebpokaaH11
import Derived.Test.YtcjaojhbebpokaaSh
import Derived.Test.YtcjaojhbebpokaaVmI
set_option linter.all false
namespace Go.Proofs.Ytcjaojhbebpokaa.w
open Go Go.VM Go.Shelf Go.RowKit
set_option maxRecDepth 20000
set_option maxHeartbeats 0
set_option pp.deepTerms false
def c_corpus_Duplicates_1 : VC := (.seq (.region [⟨(some 3), (.box 7 (.t 0)), none⟩] false) (.seq (.region [⟨(some 5), (.mv (.t 1)), none⟩] false) (.cond (.t 5) (.region [⟨(some 6), (.load false 1 (.t 2)), none⟩, ⟨(some 7), (.faddr 0 (.t 3)), none⟩, ⟨(some 8), (.load false 1 (.t 7)), none⟩, ⟨none, (.mapset (.one .i) (.t 6) (.t 8) (.c (.bool true))), none⟩] false) .skip)))
def c_corpus_Duplicates : VC := (.seq (.region [⟨(some 2), (.mv (.c .nilsl)), none⟩] false) (.seq (.region [⟨(some 4), .mkmap, none⟩, ⟨(some 3), (.alloc [.nilmp]), none⟩, ⟨none, (.store 1 (.t 3) (.t 4)), none⟩] false) (.seq (.region [⟨(some 5), (.mv (.t 0)), none⟩, ⟨(some 6), (.mkfn (.func 53) [] [(.t 3)]), none⟩, ⟨(some 7), (.call 43 [(.t 5), (.t 6)]), none⟩] false) (.seq (.region [⟨(some 8), (.load false 1 (.t 3)), none⟩, ⟨(some 9), (.call 55 [(.t 8)]), none⟩, ⟨(some 10), (.call 54 [(.t 9)]), none⟩, ⟨(some 2), (.mv (.t 10)), none⟩] false) .ret))))
/-- A number into a list, once. -/
def addN (l : List Int) (n : Int) : List Int := if n ∈ l then l else l ++ [n]
theorem seen_add (n : Int) (l : List Int) : mapPut (pI n) (.bool true) (seenM l) = seenM (addN l n) := seen_put n l
theorem addN_len (l : List Int) (n : Int) : l.length ≤ (addN l n).length ∧ (addN l n).length ≤ l.length + 1 := by
  unfold addN; split <;> simp
def putD (L : List Int) (a : Ac) (again : Bool) : List Int := if again then addN L a.number else L
theorem putD_len (L : List Int) (a : Ac) (again : Bool) : (putD L a again).length ≤ L.length + 1 := by
  unfold putD; split
  · exact (addN_len L a.number).2
  · omega
theorem sp_corpus_Duplicates_1 (k b t : Nat) (L : List Int) (a : Ac) (again : Bool) (hk : k < t) (hb : b < t) (hkb : k ≠ b) (hl : L.length ≤ 1000000) :
    ACall Try.prog 53 [.agg a.enc, .bool again, .loc b 0 0] ⟨[(k, .map (seenM L)), (b, .arr false 1 [[.mp k]])], t⟩
      (fun _ h' => ∃ t', t ≤ t' ∧ h' = ⟨[(k, .map (seenM (putD L a again))), (b, .arr false 1 [[.mp k]])], t'⟩) := by
  refine ACall.drop ?_
  refine ACall_fn (vc := c_corpus_Duplicates_1) (ts := []) Go.Proofs.Try.func53 (by kernel_rfl) rfl rfl (Nat.le_of_ble_eq_true rfl) (by kernel_rfl) ?_
  unfold c_corpus_Duplicates_1
  refine VW_seq (VW_region [1, 2, 3] ?_)
  simp only [OpsW_nil, OpsW_n, StepW, VA.ev, Env.get, Env.put, Env.keep, argEnv, thenQ, PV.cells, PV.fits, Heap.le, Heap.push, Nat.succ_ne_self, Nat.reduceEqDiff, Nat.reduceAdd, ite_true, ite_false, true_and, reduceCtorEq, BEq.rfl, Nat.zero_add, ac_len]
  have qi0 : (k = b) = False := eq_false (by omega)
  have qi1 : (k = t) = False := eq_false (by omega)
  have qi2 : (k = (t + 1)) = False := eq_false (by omega)
  have qi3 : (b = k) = False := eq_false (by omega)
  have qi4 : (b = t) = False := eq_false (by omega)
  have qi5 : (b = (t + 1)) = False := eq_false (by omega)
  have qi6 : (t = k) = False := eq_false (by omega)
  have qi7 : (t = b) = False := eq_false (by omega)
  have qi8 : (t = (t + 1)) = False := eq_false (by omega)
  have qi9 : ((t + 1) = k) = False := eq_false (by omega)
  have qi10 : ((t + 1) = b) = False := eq_false (by omega)
  have qi11 : ((t + 1) = t) = False := eq_false (by omega)
  refine VW_seq (VW_region [2, 3, 5] ?_)
  simp only [OpsW_nil, OpsW_n, StepW, pok, pval, VA.ev, Env.get, Env.put, Env.keep, thenQ, Nat.succ_ne_self, Nat.reduceEqDiff, ite_true, ite_false, true_and]
  refine VW_cond rfl (fun h1 => ?_) (fun h1 => ?_)
  · refine VW_region [] ?_
    have hput := seen_add a.number L
    have hkeys := seen_keys a.number L
    simp only [OpsW_nil, OpsW_n, StepW, pok, pval, VA.ev, Env.get, Env.put, retQ, resOk, aggV, faddrV, isAddr, locCells, locOk, PV.nth, PV.row, mapRows, mapHas, mapsetV, Heap.get, Heap.set, HL.get, HL.set, HL.del, Nat.le_refl, Nat.succ_ne_self, List.length, List.getD_cons_zero, List.take, List.drop, List.take_succ_cons, Nat.reduceEqDiff, Nat.reduceLT, Nat.reduceLeDiff, Bool.false_eq_true, ite_true, ite_false, true_and, and_true, implies_true, Nat.zero_add, Nat.add_zero, List.length_cons, ac_take, ac_len, ac_num, hput, hkeys, qi0, qi1, qi2, qi3, qi4, qi5, qi6, qi7, qi8, qi9, qi10, qi11]
    have ha : again = true := by simpa using h1
    subst ha
    refine ⟨⟨[(k, .map (seenM (addN L a.number))), (b, .arr false 1 [[.mp k]])], t + 1⟩, ?_, t + 1, by omega, ?_⟩
    · try simp only [Heap.get, HL.get, HL.le, Nat.le_refl, ite_true, ite_false, and_true, qi0, qi1, qi2, qi3, qi4, qi5, qi6, qi7, qi8, qi9, qi10, qi11]
      all_goals (repeat' (first | rfl | trivial | omega | (simp only []; omega) | refine And.intro ?_ ?_))
    · simp [putD]
  · refine VW_skip ?_
    try simp only [retQ, resOk, true_and]
    have ha : again = false := by simpa using h1
    subst ha
    refine ⟨⟨[(k, .map (seenM L)), (b, .arr false 1 [[.mp k]])], t + 1⟩, ?_, t + 1, by omega, ?_⟩
    · try simp only [Heap.get, HL.get, HL.le, Nat.le_refl, ite_true, ite_false, and_true, qi0, qi1, qi2, qi3, qi4, qi5, qi6, qi7, qi8, qi9, qi10, qi11]
      all_goals (repeat' (first | rfl | trivial | omega | (simp only []; omega) | refine And.intro ?_ ?_))
    · simp [putD]
/-- One act more: the numbers seen, the numbers seen again. -/
def tellD (s : List Int × List Int) (a : Ac) : List Int × List Int := (addN s.1 a.number, putD s.2 a (decide (a.number ∈ s.1)))
theorem tellD_len : ∀ (r : List Ac) (s : List Int × List Int), (r.foldl tellD s).2.length ≤ s.2.length + r.length
  | [], s => by simp
  | x :: r, s => by
    have h := tellD_len r (tellD s x)
    have h2 := putD_len s.2 x (decide (x.number ∈ s.1))
    simp only [List.foldl_cons, List.length_cons]
    simp only [tellD] at h h2 ⊢
    omega
theorem sp_corpus_every2 (l : List Gz) (k b t : Nat) (hk : k < t) (hb : b < t) (hkb : k ≠ b) (hl : l.length ≤ 1000000) (hr : (rowG l).length ≤ 1000000) :
    ACall Try.prog 43 [.sl 4 (l.map Gz.enc), .fn (.func 53) [] [.loc b 0 0]] ⟨[(k, .map []), (b, .arr false 1 [[.mp k]])], t⟩
      (fun _ h' => ∃ t', t ≤ t' ∧ h' = ⟨[(k, .map (seenM ((rowG l).foldl tellD ([], [])).2)), (b, .arr false 1 [[.mp k]])], t'⟩) := by
  refine ACall.drop ?_
  refine ACall_fn (vc := c_corpus_every) (ts := []) Go.Proofs.Try.func43 (by kernel_rfl) rfl rfl (Nat.le_of_ble_eq_true rfl) (by kernel_rfl) ?_
  unfold c_corpus_every
  refine VW_seq (VW_region [0, 1, 4] ?_)
  simp only [OpsW_nil, OpsW_n, StepW, pok, pval, VA.ev, Env.get, Env.put, Env.keep, argEnv, thenQ, Heap.le, Heap.push, Nat.succ_ne_self, Nat.reduceEqDiff, ite_true, ite_false, true_and, reduceCtorEq, Nat.zero_add]
  refine VW_seq (VW_region [1, 4, 10, 11, 12] ?_)
  simp only [OpsW_nil, OpsW_n, StepW, pok, pval, VA.ev, Env.get, Env.put, Env.keep, thenQ, lenV, lenOk, Nat.succ_ne_self, Nat.reduceEqDiff, ite_true, ite_false, true_and, reduceCtorEq, List.length_map]
  refine VW_block ?_
  refine VW_loop (σ := { s : Nat × (List Int × List Int) × Nat // s.1 ≤ l.length ∧ s.2.1 = (rowG (l.take s.1)).foldl tellD ([], []) ∧ t < s.2.2 })
    (fun s => ([(1, .fn (.func 53) [] [.loc b 0 0]), (4, .mp t), (10, .sl 4 (l.map Gz.enc)), (11, pI l.length), (12, pI s.1.1)], ⟨[(t, .map (seenM s.1.2.1.1)), (k, .map (seenM s.1.2.1.2)), (b, .arr false 1 [[.mp k]])], s.1.2.2⟩)) (fun s => l.length - s.1.1) ⟨(0, ([], []), t + 1), ⟨Nat.zero_le _, rfl, by show t < t + 1; omega⟩⟩ ?_ ?_ ?_
  · try simp only [Env.get, Nat.succ_ne_self, Env.le, Nat.reduceEqDiff, ite_true, ite_false, true_and, and_true]
    all_goals (repeat' (first | rfl | trivial | omega | (simp only []; omega) | refine And.intro ?_ ?_))
  · have qi0 : (k = b) = False := eq_false (by omega)
    have qi1 : (k = t) = False := eq_false (by omega)
    have qi2 : (b = k) = False := eq_false (by omega)
    have qi3 : (b = t) = False := eq_false (by omega)
    have qi4 : (t = k) = False := eq_false (by omega)
    have qi5 : (t = b) = False := eq_false (by omega)
    try simp only [Heap.get, Heap.le, HL.get, HL.le, Nat.le_refl, List.map, ite_true, ite_false, and_true, qi0, qi1, qi2, qi3, qi4, qi5, List.map_nil, seenM]
    all_goals (repeat' (first | rfl | trivial | omega | (simp only []; omega) | refine And.intro ?_ ?_))
  rintro ⟨⟨i, S, t1⟩, hi, hS, htt⟩
  simp only [] at hi hS htt ⊢
  refine VW_seq (VW_region [1, 4, 10, 11, 12, 13] ?_)
  simp only [OpsW_nil, OpsW_n, StepW, pok, pval, VA.ev, Env.get, Env.put, Env.keep, thenQ, intV, binV, binOk, Heap.get, Heap.le, HL.le, Nat.succ_ne_self, Env.le, Nat.reduceEqDiff, ite_true, ite_false, true_and, and_true]
  refine VW_seq ?_
  refine VW_cond rfl (fun h1 => ?_) (fun h1 => ?_)
  · refine VW_skip ?_
    try simp only [thenQ]
    simp only [decide_eq_true_eq] at h1
    have ia : i < l.length := by omega
    have hrow := rowG_take ia
    have hrl := rowG_le l (i + 1)
    rw [hrow, List.length_append] at hrl
    have qi0 : (k = b) = False := eq_false (by omega)
    have qi1 : (k = t) = False := eq_false (by omega)
    have qi2 : (k = t1) = False := eq_false (by omega)
    have qi3 : (k = (t1 + 1)) = False := eq_false (by omega)
    have qi4 : (b = k) = False := eq_false (by omega)
    have qi5 : (b = t) = False := eq_false (by omega)
    have qi6 : (b = t1) = False := eq_false (by omega)
    have qi7 : (b = (t1 + 1)) = False := eq_false (by omega)
    have qi8 : (t = k) = False := eq_false (by omega)
    have qi9 : (t = b) = False := eq_false (by omega)
    have qi10 : (t = t1) = False := eq_false (by omega)
    have qi11 : (t = (t1 + 1)) = False := eq_false (by omega)
    have qi12 : (t1 = k) = False := eq_false (by omega)
    have qi13 : (t1 = b) = False := eq_false (by omega)
    have qi14 : (t1 = t) = False := eq_false (by omega)
    have qi15 : (t1 = (t1 + 1)) = False := eq_false (by omega)
    have qi16 : ((t1 + 1) = k) = False := eq_false (by omega)
    have qi17 : ((t1 + 1) = b) = False := eq_false (by omega)
    have qi18 : ((t1 + 1) = t) = False := eq_false (by omega)
    have qi19 : ((t1 + 1) = t1) = False := eq_false (by omega)
    refine VW_seq ?_
    refine VW_block ?_
    refine VW_seq (VW_region [1, 4, 6, 10, 11, 12] ?_)
    simp only [OpsW_nil, OpsW_n, StepW, pok, pval, VA.ev, Env.get, Env.put, Env.keep, thenQ, aggV, isInt, numOf, lenV, locCells, locOk, iaddrV, iaddrOk, PV.cells, PV.fits, overlay, PV.nth, PV.row, Heap.get, Heap.set, HL.get, HL.set, HL.del, Heap.push, Nat.le_refl, Nat.succ_ne_self, storeV, storeOk, List.set, List.length, List.getD_cons_zero, List.take, List.drop, List.drop_succ_cons, List.nil_append, Nat.reduceEqDiff, Nat.reduceAdd, Nat.reduceLT, Bool.true_eq_false, ite_true, ite_false, true_and, and_true, BEq.rfl, Nat.zero_add, imp_self, Int.toNat_natCast, List.length_map, rowm ia, gz_take, gz_len, gz_drop, List.append_nil, qi0, qi1, qi2, qi3, qi4, qi5, qi6, qi7, qi8, qi9, qi10, qi11, qi12, qi13, qi14, qi15, qi16, qi17, qi18, qi19]
    repeat (with_reducible refine And.intro ?_ ?_; first | omega | (with_reducible constructor <;> omega) | exact False.elim | exact True.intro)
    refine VW_seq (VW_region [1, 4, 10, 11, 12, 17, 18, 19] ?_)
    simp only [OpsW_nil, OpsW_n, StepW, pok, pval, VA.ev, Env.get, Env.put, Env.keep, thenQ, aggV, lenV, faddrV, isAddr, locCells, locOk, lenOk, PV.nth, PV.row, Heap.get, HL.get, Nat.le_refl, Nat.succ_ne_self, List.length, List.getD_cons_zero, List.take, List.take_succ_cons, Nat.reduceEqDiff, Nat.reduceLT, Bool.false_eq_true, ite_true, ite_false, true_and, and_true, implies_true, Nat.zero_add, List.length_cons, gz_acts, List.length_map, gz_len, qi0, qi1, qi2, qi3, qi4, qi5, qi6, qi7, qi8, qi9, qi10, qi11, qi12, qi13, qi14, qi15, qi16, qi17, qi18, qi19]
    refine VW_block ?_
    refine VW_loop (σ := { s : Nat × (List Int × List Int) × Nat // s.1 ≤ l[i].acts.length ∧ s.2.1 = (rowG (l.take i) ++ l[i].acts.take s.1).foldl tellD ([], []) ∧ t < s.2.2 })
      (fun s => ([(1, .fn (.func 53) [] [.loc b 0 0]), (4, .mp t), (10, .sl 4 (l.map Gz.enc)), (11, pI l.length), (12, pI i), (17, .sl 7 (l[i].acts.map Ac.enc)), (18, pI l[i].acts.length), (19, pI s.1.1)], ⟨[(t, .map (seenM s.1.2.1.1)), (k, .map (seenM s.1.2.1.2)), (b, .arr false 1 [[.mp k]])], s.1.2.2⟩)) (fun s => l[i].acts.length - s.1.1) ⟨(0, S, t1 + 1), ⟨Nat.zero_le _, by simpa using hS, by show t < t1 + 1; omega⟩⟩ ?_ ?_ ?_
    · try simp only [Env.get, Nat.succ_ne_self, Env.le, Nat.reduceEqDiff, ite_true, ite_false, true_and, and_true]
      all_goals (repeat' (first | rfl | trivial | omega | (simp only []; omega) | refine And.intro ?_ ?_))
    · try simp only [Heap.get, Heap.le, HL.get, HL.le, Nat.le_refl, ite_true, ite_false, and_true, qi0, qi1, qi2, qi3, qi4, qi5, qi6, qi7, qi8, qi9, qi10, qi11, qi12, qi13, qi14, qi15, qi16, qi17, qi18, qi19]
      all_goals (repeat' (first | rfl | trivial | omega | (simp only []; omega) | refine And.intro ?_ ?_))
    clear hS htt
    rintro ⟨⟨j, S, t1⟩, hj, hS, htt⟩
    simp only [] at hj hS htt ⊢
    refine VW_seq (VW_region [1, 4, 10, 11, 12, 17, 18, 19, 20] ?_)
    simp only [OpsW_nil, OpsW_n, StepW, pok, pval, VA.ev, Env.get, Env.put, Env.keep, thenQ, intV, binV, binOk, Heap.get, Heap.le, HL.le, Nat.succ_ne_self, Env.le, Nat.reduceEqDiff, ite_true, ite_false, true_and, and_true]
    refine VW_seq ?_
    refine VW_cond rfl (fun h2 => ?_) (fun h2 => ?_)
    · refine VW_skip ?_
      try simp only [thenQ]
      simp only [decide_eq_true_eq] at h2
      have ja : j < l[i].acts.length := by omega
      have hSl := tellD_len (rowG (l.take i) ++ l[i].acts.take j) ([], [])
      rw [← hS] at hSl
      have hSl2 : S.2.length ≤ 1000000 := by simp only [List.length_append, List.length_take, List.length_nil] at hSl; omega
      have hnext : tellD S l[i].acts[j] = (rowG (l.take i) ++ l[i].acts.take (j + 1)).foldl tellD ([], []) := by
        rw [List.take_add_one, List.getElem?_eq_getElem ja, Option.toList_some, ← List.append_assoc, List.foldl_append, ← hS]; rfl
      have qi0 : (k = b) = False := eq_false (by omega)
      have qi1 : (k = t) = False := eq_false (by omega)
      have qi2 : (k = t1) = False := eq_false (by omega)
      have qi3 : (k = (t1 + 1)) = False := eq_false (by omega)
      have qi4 : (b = k) = False := eq_false (by omega)
      have qi5 : (b = t) = False := eq_false (by omega)
      have qi6 : (b = t1) = False := eq_false (by omega)
      have qi7 : (b = (t1 + 1)) = False := eq_false (by omega)
      have qi8 : (t = k) = False := eq_false (by omega)
      have qi9 : (t = b) = False := eq_false (by omega)
      have qi10 : (t = t1) = False := eq_false (by omega)
      have qi11 : (t = (t1 + 1)) = False := eq_false (by omega)
      have qi12 : (t1 = k) = False := eq_false (by omega)
      have qi13 : (t1 = b) = False := eq_false (by omega)
      have qi14 : (t1 = t) = False := eq_false (by omega)
      have qi15 : (t1 = (t1 + 1)) = False := eq_false (by omega)
      have qi16 : ((t1 + 1) = k) = False := eq_false (by omega)
      have qi17 : ((t1 + 1) = b) = False := eq_false (by omega)
      have qi18 : ((t1 + 1) = t) = False := eq_false (by omega)
      have qi19 : ((t1 + 1) = t1) = False := eq_false (by omega)
      refine VW_seq ?_
      refine VW_block ?_
      refine VW_seq (VW_region [1, 4, 8, 10, 11, 12, 17, 18, 19] ?_)
      simp only [OpsW_nil, OpsW_n, StepW, pok, pval, VA.ev, Env.get, Env.put, Env.keep, thenQ, aggV, isInt, numOf, lenV, locCells, locOk, iaddrV, iaddrOk, PV.cells, PV.fits, overlay, PV.nth, PV.row, Heap.get, Heap.set, HL.get, HL.set, HL.del, Heap.push, Nat.le_refl, Nat.succ_ne_self, storeV, storeOk, List.set, List.length, List.getD_cons_zero, List.take, List.drop, List.drop_succ_cons, List.nil_append, Nat.reduceEqDiff, Nat.reduceAdd, Nat.reduceLT, Bool.true_eq_false, ite_true, ite_false, true_and, and_true, BEq.rfl, Nat.zero_add, imp_self, Int.toNat_natCast, List.length_map, rowm ja, ac_take, ac_len, ac_drop, List.append_nil, qi0, qi1, qi2, qi3, qi4, qi5, qi6, qi7, qi8, qi9, qi10, qi11, qi12, qi13, qi14, qi15, qi16, qi17, qi18, qi19]
      repeat (with_reducible refine And.intro ?_ ?_; first | omega | (with_reducible constructor <;> omega) | exact False.elim | exact True.intro)
      refine VW_seq (VW_region [1, 4, 8, 10, 11, 12, 17, 18, 19] ?_)
      have hfind := seen_find l[i].acts[j].number S.1
      have hput := seen_add l[i].acts[j].number S.1
      have hkeys := seen_keys l[i].acts[j].number S.1
      have hlook : lookV (.bool false) false (if l[i].acts[j].number ∈ S.1 then some (PV.bool true) else none) = .bool (decide (l[i].acts[j].number ∈ S.1)) := by
        by_cases h : l[i].acts[j].number ∈ S.1 <;> simp [h, lookV]
      simp only [OpsW_nil, OpsW_n, StepW, pok, pval, VA.ev, Env.get, Env.put, Env.keep, thenQ, aggV, faddrV, isAddr, locCells, locOk, PV.nth, PV.row, mapRows, mapOk, Heap.get, HL.get, Nat.le_refl, Nat.succ_ne_self, List.map, List.length, List.getD_cons_zero, List.drop, List.cons_append, List.nil_append, Nat.reduceEqDiff, Nat.reduceLT, Nat.reduceLeDiff, Bool.false_eq_true, Bool.true_eq_false, ite_true, ite_false, true_and, and_true, implies_true, Nat.zero_add, Nat.add_zero, imp_self, List.length_map, ac_take, ac_len, ac_num, hfind, hkeys, hlook, qi0, qi1, qi2, qi3, qi4, qi5, qi6, qi7, qi8, qi9, qi10, qi11, qi12, qi13, qi14, qi15, qi16, qi17, qi18, qi19]
      refine ACall.weakenL (h0 := ⟨[(k, .map (seenM S.2)), (b, .arr false 1 [[.mp k]])] ++ [(t1, .arr false 7 [l[i].acts[j].enc]), (t, .map (seenM S.1))], t1 + 1⟩) ?_ ?_
      · try simp only [Heap.get, Heap.le, HL.get, HL.le, Nat.le_refl, List.cons_append, List.nil_append, ite_true, ite_false, and_true, qi0, qi1, qi2, qi3, qi4, qi5, qi6, qi7, qi8, qi9, qi10, qi11, qi12, qi13, qi14, qi15, qi16, qi17, qi18, qi19]
        all_goals (repeat' (first | rfl | trivial | omega | (simp only []; omega) | refine And.intro ?_ ?_))
      refine ACall.frameL ?_ ?_ (ACall.mono (sp_corpus_Duplicates_1 k b (t1 + 1) S.2 l[i].acts[j] (decide (l[i].acts[j].number ∈ S.1)) (by omega) (by omega) hkb hSl2) ?_)
      · simp only [List.mem_cons, List.not_mem_nil, or_false, forall_eq_or_imp, forall_eq]; omega
      · simp
      rintro p h' ⟨t2, ht2, rfl⟩
      refine ⟨ht2, ?_, by simp [AB.live], ?_⟩
      · simp only [List.mem_cons, List.not_mem_nil, or_false, forall_eq_or_imp, forall_eq]; omega
      have qi0 : (k = b) = False := eq_false (by omega)
      have qi1 : (k = t) = False := eq_false (by omega)
      have qi2 : (k = t1) = False := eq_false (by omega)
      have qi3 : (b = k) = False := eq_false (by omega)
      have qi4 : (b = t) = False := eq_false (by omega)
      have qi5 : (b = t1) = False := eq_false (by omega)
      have qi6 : (t = k) = False := eq_false (by omega)
      have qi7 : (t = b) = False := eq_false (by omega)
      have qi8 : (t = t1) = False := eq_false (by omega)
      have qi9 : (t1 = k) = False := eq_false (by omega)
      have qi10 : (t1 = b) = False := eq_false (by omega)
      have qi11 : (t1 = t) = False := eq_false (by omega)
      try simp only [List.cons_append, List.nil_append, qi0, qi1, qi2, qi3, qi4, qi5, qi6, qi7, qi8, qi9, qi10, qi11]
      refine VW_region [1, 4, 10, 11, 12, 17, 18, 19] ?_
      simp only [OpsW_nil, OpsW_n, StepW, pok, pval, VA.ev, Env.get, Env.put, Env.keep, thenQ, blockQ, aggV, faddrV, isAddr, locCells, locOk, PV.nth, PV.row, mapRows, mapHas, mapsetV, Heap.get, Heap.set, HL.get, HL.set, HL.del, Nat.succ_ne_self, List.length, List.getD_cons_zero, List.drop, Nat.reduceEqDiff, Nat.reduceLT, Nat.reduceLeDiff, Bool.false_eq_true, ite_true, ite_false, true_and, and_true, implies_true, Nat.zero_add, Nat.add_zero, List.length_map, ac_take, ac_len, ac_num, hput, hkeys, qi0, qi1, qi2, qi3, qi4, qi5, qi6, qi7, qi8, qi9, qi10, qi11]
      refine VW_region [1, 4, 10, 11, 12, 17, 18, 19] ?_
      simp only [OpsW_nil, OpsW_n, StepW, pok, pval, VA.ev, Env.get, Env.put, Env.keep, thenQ, intV, binV, binOk, HL.get, Nat.succ_ne_self, Nat.reduceEqDiff, ite_true, ite_false, true_and, Option.some.injEq, ad1 (a := j) (by omega)]
      refine ⟨⟨(j + 1, tellD S l[i].acts[j], t2), ⟨ja, hnext, by show t < t2; omega⟩⟩, ?_⟩
      simp only [tellD]
      try simp only [Nat.le_refl, ite_false, true_and, and_true, qi0, qi1, qi2, qi3, qi4, qi5, qi6, qi7, qi8, qi9, qi10, qi11]
      all_goals (repeat' (first | rfl | trivial | omega | (simp only []; omega) | refine And.intro ?_ ?_))
    · simp only [decide_eq_false_iff_not] at h2
      obtain rfl : j = l[i].acts.length := by omega
      refine VW_exit ?_
      try simp only [thenQ, blockQ, retQ, resOk, Nat.succ_ne_self, ite_true, ite_false, true_and, reduceCtorEq]
      refine VW_region [1, 4, 10, 11, 12] ?_
      simp only [OpsW_nil, OpsW_n, StepW, pok, pval, VA.ev, Env.get, Env.put, Env.keep, thenQ, intV, binV, binOk, HL.get, Nat.succ_ne_self, Nat.reduceEqDiff, ite_true, ite_false, true_and, Option.some.injEq, ad1 (a := i) (by omega)]
      have qi0 : (k = b) = False := eq_false (by omega)
      have qi1 : (k = t) = False := eq_false (by omega)
      have qi2 : (b = k) = False := eq_false (by omega)
      have qi3 : (b = t) = False := eq_false (by omega)
      have qi4 : (t = k) = False := eq_false (by omega)
      have qi5 : (t = b) = False := eq_false (by omega)
      refine ⟨⟨(i + 1, S, t1), ⟨ia, by rw [hS, hrow, List.take_length], htt⟩⟩, ?_⟩
      try simp only [Nat.le_refl, ite_false, true_and, and_true, qi0, qi1, qi2, qi3, qi4, qi5]
      all_goals (repeat' (first | rfl | trivial | omega | (simp only []; omega) | refine And.intro ?_ ?_))
  · simp only [decide_eq_false_iff_not] at h1
    obtain rfl : i = l.length := by omega
    refine VW_exit ?_
    try simp only [thenQ, blockQ, retQ, resOk, ite_true, true_and]
    rw [List.take_length] at hS
    have qi0 : (k = b) = False := eq_false (by omega)
    have qi1 : (k = t) = False := eq_false (by omega)
    have qi2 : (b = k) = False := eq_false (by omega)
    have qi3 : (b = t) = False := eq_false (by omega)
    have qi4 : (t = k) = False := eq_false (by omega)
    have qi5 : (t = b) = False := eq_false (by omega)
    refine ⟨⟨[(k, .map (seenM S.2)), (b, .arr false 1 [[.mp k]])], t1⟩, ?_, t1, by omega, by rw [← hS]⟩
    try simp only [Heap.get, HL.get, HL.le, Nat.le_refl, ite_true, ite_false, and_true, qi0, qi1, qi2, qi3, qi4, qi5]
    all_goals (repeat' (first | rfl | trivial | omega | (simp only []; omega) | refine And.intro ?_ ?_))
/-- What occurs again, in order. -/
def dupS (row : List Ac) : List Int := (row.foldl tellD ([], [])).2.mergeSort leI
theorem tellD_mem : ∀ (r : List Ac) (s : List Int × List Int), (∀ x ∈ (r.foldl tellD s).2, x ∈ s.2 ∨ ∃ a ∈ r, x = a.number)
  | [], s, x, hx => .inl hx
  | y :: r, s, x, hx => by
    rcases tellD_mem r (tellD s y) x hx with h | ⟨a, ha, rfl⟩
    · simp only [tellD, putD, addN] at h
      split at h
      · split at h
        · exact .inl h
        · rcases List.mem_append.1 h with h | h
          · exact .inl h
          · exact .inr ⟨y, List.mem_cons_self, by simpa using h⟩
      · exact .inl h
    · exact .inr ⟨a, List.mem_cons_of_mem _ ha, rfl⟩
theorem sortsA (m : Nat) : AnyZI.SortsIn Try.prog Try.sortedA_ren Fence.wide m :=
  ⟨fun blk off cap ss W hH hblk hsz => callsIn_wide.2 (AnyM.slices_Sort_int Try.sortA blk off cap ss W hH hblk hsz),
   fun p cap W => callsIn_wide.2 (AnyM.slices_Sort_int_none Try.sortA p cap W)⟩
theorem sp_corpus_Duplicates (l : List Gz) (hl : l.length ≤ 1000000) (hr : (rowG l).length ≤ 1000000) (hw : ∀ a ∈ rowG l, (Lit.int .i64 a.number).wf = true) : PCall Try.prog 29 [.sl 4 (l.map Gz.enc)] (.sl 1 ((dupS (rowG l)).map encN)) := by
  refine PCall_intro ?_ (closed_sc _) (by simp only [ClosedL, List.mem_cons, List.not_mem_nil, or_false, forall_eq_or_imp, forall_eq, false_implies, implies_true]; repeat' (first | exact cI _ | exact cS _ | exact cB _ | exact closed_fn0 _ | exact closed_nilsl | exact closed_agg (Un.closed _) | exact closed_agg (It.closed _) | exact closed_agg (EI.closed _) | exact closed_agg (Ac.closed _) | exact closed_agg (Wd.closed _) | exact closed_agg (St.closed _) | exact closed_agg (Sta.closed _) | exact closed_eis _ | exact closed_acs _ | exact closed_gzs _ | exact Closed.of_scalar (scalar_int _ _) | exact closed_ro (Ac.closed _) | exact closed_ro (Gz.closed _) | exact closed_agg (Gz.closed _) | exact closed_strs _ | exact closed_map (fun w _ => Wd.closed w) | exact closed_map (fun w _ => St.closed w) | exact closed_map (fun w _ => Un.closed w) | exact closed_map (fun w _ => It.closed w) | exact closed_sc _ | exact closed_sps _ | exact closed_agg (Sp.closed _) | exact closed_ro (EI.closed _) | exact closed_ro (Sta.closed _) | exact closed_ro (It.closed _) | exact closed_ro (by simp only [List.mem_cons, List.not_mem_nil, or_false, forall_eq]; first | exact cI _ | exact cS _ | exact closed_eis _) | refine And.intro ?_ ?_))
  refine ACall_fn (vc := c_corpus_Duplicates) (ts := [.t 2]) Go.Proofs.Try.func29 (by kernel_rfl) rfl rfl (Nat.le_of_ble_eq_true rfl) (by kernel_rfl) ?_
  unfold c_corpus_Duplicates
  refine VW_seq (VW_region [0] ?_)
  simp only [OpsW_nil, OpsW_n, StepW, pok, pval, VA.ev, Env.get, Env.put, Env.keep, argEnv, thenQ, Heap.nil, ite_true, ite_false, true_and, reduceCtorEq]
  refine VW_seq (VW_region [0, 3] ?_)
  simp only [OpsW_nil, OpsW_n, StepW, VA.ev, Env.get, Env.put, Env.keep, thenQ, PV.cells, PV.fits, overlay, PV.row, Heap.get, Heap.set, HL.get, HL.set, HL.del, Heap.push, Nat.le_refl, Nat.succ_ne_self, storeV, storeOk, List.set, List.length, List.getD_cons_zero, List.take, List.drop, List.drop_succ_cons, List.cons_append, List.nil_append, Nat.reduceEqDiff, Nat.reduceAdd, Nat.reduceLT, ite_true, ite_false, true_and, and_true, reduceCtorEq, BEq.rfl, Nat.zero_add, List.length_cons]
  refine VW_seq (VW_region [3] ?_)
  simp only [OpsW_nil, OpsW_n, StepW, pok, pval, VA.ev, Env.get, Env.put, Env.keep, thenQ, Nat.succ_ne_self, List.map, Nat.reduceEqDiff, ite_true, ite_false, true_and, reduceCtorEq]
  refine ACall.weakenL (h0 := ⟨[(0, .map []), (1, .arr false 1 [[.mp 0]])], 2⟩) ?_ ?_
  · try simp only [Heap.get, Heap.le, HL.get, HL.le, Nat.le_refl, Nat.succ_ne_self, ite_true, ite_false, and_true, reduceCtorEq]
    all_goals (repeat' (first | rfl | trivial | omega | (simp only []; omega) | refine And.intro ?_ ?_))
  refine ACall.mono (sp_corpus_every2 l 0 1 2 (by omega) (by omega) (by omega) hl hr) ?_
  rintro p h' ⟨t, ht, rfl⟩
  generalize hS : ((rowG l).foldl tellD ([], [])).2 = L
  have hLl := tellD_len (rowG l) ([], [])
  have hLm := tellD_mem (rowG l) ([], [])
  rw [hS] at hLl hLm
  skip
  refine VW_seq (VW_region [2] ?_)
  simp only [OpsW_nil, OpsW_n, StepW, pok, pval, VA.ev, Env.get, Env.put, Env.keep, thenQ, aggV, locCells, locOk, PV.nth, PV.row, Heap.get, HL.get, Nat.le_refl, Nat.succ_ne_self, List.map, List.length, List.getD_cons_zero, List.take, List.drop, List.take_succ_cons, Nat.reduceEqDiff, Nat.reduceLT, Bool.false_eq_true, ite_true, ite_false, true_and, and_true, implies_true, reduceCtorEq, Nat.zero_add, List.length_cons]
  refine ACall.mono (ACall_keys (P := Try.prog) Try.keysA (by kernel_rfl) 0 _) ?_
  rintro p h' ⟨rfl, rfl⟩
  skip
  have hs := ACall_sortedKeys (P := Try.prog) Try.keysA Try.sortedA (by kernel_rfl) (sortsA 4) (enters_of Try.func63 (by kernel_rfl) rfl) (enters_of Try.func64 (by kernel_rfl) rfl)
    0 ⟨[(0, .map (seenM L)), (1, .arr false 1 [[.mp 0]])], t⟩ (L.map fun n => (n, .bool true)) (by simp [Heap.get, HL.get, seenM]) (fun p hp => by
      obtain ⟨n, hn, rfl⟩ := List.mem_map.1 hp
      rcases hLm n hn with h | ⟨a, ha, rfl⟩
      · cases h
      · exact hw a ha) (by simp at hLl ⊢; omega)
  refine ACall.mono hs ?_
  rintro p h' ⟨rfl, rfl⟩
  have he : ((L.map fun n => ((n, .bool true) : Int × PV)).map (·.1)) = L := by rw [List.map_map]; exact List.map_id L
  rw [he]
  refine VW_ret ?_
  try simp only [Env.get, retQ, resV, resOk, RS.ev, RS.ok, ite_true, true_and, and_true]
  have hd : dupS (rowG l) = L.mergeSort leI := by rw [dupS, hS]
  rw [hd]
  exact View.refl _ _
end Go.Proofs.Ytcjaojhbebpokaa.w


namespace Go.Proofs.Ytcjaojhbebpokaa.w
open Go Go.VM
theorem putN_cons (x n : Int) (r : List Int) : putN (x :: r) n = if x < n then x :: putN r n else if x = n then x :: r else n :: x :: r := by
  by_cases h : x < n
  · simp only [putN, List.takeWhile_cons, List.dropWhile_cons, h, decide_true, if_true]
    split <;> simp
  · by_cases h2 : x = n
    · simp [putN, h2]
    · simp [putN, h, h2]
theorem putN_mem (n m : Int) : ∀ l : List Int, m ∈ putN l n ↔ m ∈ l ∨ m = n
  | [] => by simp [putN]
  | x :: r => by
    rw [putN_cons]
    split
    · simp only [List.mem_cons, putN_mem n m r, or_assoc]
    · split
      · rename_i h; subst h
        simp only [List.mem_cons]
        constructor
        · exact .inl
        · rintro (h | h)
          · exact h
          · exact .inl h
      · simp only [List.mem_cons]
        constructor
        · rintro (h | h)
          · exact .inr h
          · exact .inl h
        · rintro (h | h)
          · exact .inr h
          · exact .inl h
theorem putN_sorted (n : Int) : ∀ l : List Int, l.Pairwise (· < ·) → (putN l n).Pairwise (· < ·)
  | [], _ => by simp [putN]
  | x :: r, h => by
    rw [List.pairwise_cons] at h
    rw [putN_cons]
    split
    · rename_i h1
      refine List.pairwise_cons.2 ⟨fun y hy => ?_, putN_sorted n r h.2⟩
      rcases (putN_mem n y r).1 hy with h2 | h2
      · exact h.1 y h2
      · omega
    · split
      · exact List.pairwise_cons.2 h
      · refine List.pairwise_cons.2 ⟨fun y hy => ?_, List.pairwise_cons.2 h⟩
        rcases List.mem_cons.1 hy with rfl | h2
        · omega
        · have := h.1 y h2; omega
theorem foldN_mem (m : Int) : ∀ (q l : List Int), m ∈ q.foldl putN l ↔ m ∈ l ∨ m ∈ q
  | [], l => by simp
  | x :: q, l => by rw [List.foldl_cons, foldN_mem m q, putN_mem, List.mem_cons, or_assoc]
theorem foldN_sorted : ∀ (q l : List Int), l.Pairwise (· < ·) → (q.foldl putN l).Pairwise (· < ·)
  | [], _, h => h
  | x :: q, l, h => foldN_sorted q _ (putN_sorted x l h)
theorem addN_mem (l : List Int) (n m : Int) : m ∈ addN l n ↔ m ∈ l ∨ m = n := by
  unfold addN
  split
  · constructor
    · exact .inl
    · rintro (h | h)
      · exact h
      · subst h; assumption
  · simp
theorem addN_nodup {l : List Int} (n : Int) (h : l.Nodup) : (addN l n).Nodup := by
  unfold addN
  split
  · exact h
  · refine List.nodup_append.2 ⟨h, by simp, fun a ha b hb => ?_⟩
    rintro rfl
    simp at hb
    subst hb; contradiction
theorem tellD_nodup : ∀ (r : List Ac) (s : List Int × List Int), s.2.Nodup → (r.foldl tellD s).2.Nodup
  | [], _, h => h
  | x :: r, s, h => tellD_nodup r _ (by
      simp only [tellD, putD]
      split
      · exact addN_nodup _ h
      · exact h)
theorem tellD_dup (x : Int) : ∀ (r : List Ac) (s : List Int × List Int) (seen : List Int), (∀ n, n ∈ s.1 ↔ n ∈ seen) → (x ∈ (r.foldl tellD s).2 ↔ x ∈ s.2 ∨ x ∈ dupA seen r)
  | [], s, seen, _ => by simp [dupA]
  | y :: r, s, seen, h => by
    rw [List.foldl_cons]
    by_cases hy : y.number ∈ s.1
    · have hy' := (h _).1 hy
      rw [tellD_dup x r (tellD s y) seen (fun n => by
        simp only [tellD, addN_mem]
        rw [h n]
        constructor
        · rintro (h1 | h1)
          · exact h1
          · rw [h1]; exact hy'
        · exact .inl)]
      simp only [tellD, putD, hy, decide_true, if_true, addN_mem, dupA, hy', List.mem_cons, or_assoc]
    · have hy' : ¬ y.number ∈ seen := fun e => hy ((h _).2 e)
      rw [tellD_dup x r (tellD s y) (y.number :: seen) (fun n => by
        simp only [tellD, addN_mem, List.mem_cons]
        rw [h n]
        exact or_comm)]
      simp only [tellD, putD, hy, decide_false, if_false, Bool.false_eq_true, dupA, hy']
theorem dup_twice (row : List Ac) : dupS row = twiceS row := by
  have hn := tellD_nodup row ([], []) (by simp)
  have hs := foldN_sorted (dupA [] row) [] List.Pairwise.nil
  have hp : (row.foldl tellD ([], [])).2.Perm (twiceS row) := by
    refine (List.perm_ext_iff_of_nodup hn ?_).2 fun x => ?_
    · exact hs.imp (fun h => by omega)
    · rw [tellD_dup x row ([], []) [] (fun _ => Iff.rfl), twiceS, foldN_mem]
  have tr : ∀ a b c : Int, leI a b = true → leI b c = true → leI a c = true := fun a b c h1 h2 => by simp only [leI, decide_eq_true_eq] at *; omega
  have to : ∀ a b : Int, (leI a b || leI b a) = true := fun a b => by simp only [leI, Bool.or_eq_true, decide_eq_true_eq]; omega
  refine List.Perm.eq_of_pairwise (le := fun a b => leI a b = true) (fun a b _ _ h1 h2 => ?_) (List.pairwise_mergeSort tr to _) (hs.imp (fun h => by simp only [leI, decide_eq_true_eq]; omega)) ((List.mergeSort_perm _ leI).trans hp)
  simp only [leI, decide_eq_true_eq] at h1 h2
  omega
end Go.Proofs.Ytcjaojhbebpokaa.w

