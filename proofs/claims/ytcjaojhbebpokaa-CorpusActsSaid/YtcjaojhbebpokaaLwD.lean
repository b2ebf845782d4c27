/-
  Walks: the law CorpusActs.
  How gazettes are read, with the sizes of their acts' items.
-/
import Derived.Test.YtcjaojhbebpokaaLwA
import Derived.Test.YtcjaojhbebpokaaH12
import Derived.Test.YtcjaojhbebpokaaRd
import Derived.Test.YtcjaojhbebpokaaVmAc
import Derived.Test.YtcjaojhbebpokaaVmAa
import Derived.KernelRfl
set_option linter.all false
namespace Go.Proofs.Ytcjaojhbebpokaa.w
open Go Go.VM
set_option maxRecDepth 20000
set_option maxHeartbeats 0
set_option pp.deepTerms false
def c_pandectlaw28_CorpusActs : VC := (.seq (.region [⟨(some 2), (.mv (.c (.bool false))), none⟩] false) (.seq (.seq (.region [⟨(some 10), (.mv (.t 0)), none⟩, ⟨(some 11), (.call 11 [(.t 10), (.c (.int .i64 30))]), none⟩, ⟨(some 12), (.un .not (.t 11)), none⟩] false) (.cond (.t 12) (.seq (.region [⟨(some 13), (.call 12 []), none⟩, ⟨(some 2), (.mv (.t 13)), none⟩] false) .ret) .skip)) (.seq (.region [⟨(some 14), (.mv (.t 0)), none⟩, ⟨(some 15), (.call 25 [(.t 14)]), none⟩, ⟨(some 16), (.mv (.t 0)), none⟩, ⟨(some 17), (.call 27 [(.t 16)]), none⟩, ⟨(some 3), (.mv (.t 15)), none⟩, ⟨(some 4), (.mv (.t 17)), none⟩] false) (.seq (.seq (.region [⟨(some 18), (.mv (.t 3)), none⟩, ⟨(some 19), (.len false (.t 18)), none⟩, ⟨(some 20), (.mv (.t 4)), none⟩, ⟨(some 21), (.len false (.t 20)), none⟩, ⟨(some 22), (.bin .neq (.t 19) (.t 21)), none⟩] false) (.cond (.t 22) (.seq (.region [⟨(some 2), (.mv (.c (.bool false))), none⟩] false) .ret) .skip)) (.seq (.seq (.region [⟨(some 23), (.mv (.t 3)), none⟩, ⟨(some 24), (.len false (.t 23)), none⟩, ⟨(some 25), (.mv (.c (.int .i64 0))), none⟩] false) (.block 0 (.loop (.seq (.region [⟨(some 26), (.bin .lss (.t 25) (.t 24)), none⟩] false) (.seq (.cond (.t 26) .skip (.exit 0)) (.seq (.block 1 (.seq (.region [⟨(some 27), (.mv (.t 25)), none⟩, ⟨(some 5), (.mv (.t 27)), none⟩] false) (.seq (.seq (.region [⟨(some 28), (.mv (.t 3)), none⟩, ⟨(some 29), (.mv (.t 5)), none⟩, ⟨(some 30), (.iaddr 7 (.t 28) (.t 29)), none⟩, ⟨(some 31), (.faddr 0 (.t 30)), none⟩, ⟨(some 32), (.load false 1 (.t 31)), none⟩, ⟨(some 33), (.mv (.t 4)), none⟩, ⟨(some 34), (.mv (.t 5)), none⟩, ⟨(some 35), (.iaddr 7 (.t 33) (.t 34)), none⟩, ⟨(some 36), (.faddr 0 (.t 35)), none⟩, ⟨(some 37), (.load false 1 (.t 36)), none⟩, ⟨(some 38), (.bin .neq (.t 32) (.t 37)), none⟩, ⟨(some 39), (.mv (.t 38)), none⟩, ⟨(some 40), (.mv (.t 3)), (some (39, false))⟩, ⟨(some 41), (.mv (.t 5)), (some (39, false))⟩, ⟨(some 42), (.iaddr 7 (.t 40) (.t 41)), (some (39, false))⟩, ⟨(some 43), (.faddr 2 (.t 42)), (some (39, false))⟩, ⟨(some 44), (.load false 1 (.t 43)), (some (39, false))⟩, ⟨(some 45), (.mv (.t 4)), (some (39, false))⟩, ⟨(some 46), (.mv (.t 5)), (some (39, false))⟩, ⟨(some 47), (.iaddr 7 (.t 45) (.t 46)), (some (39, false))⟩, ⟨(some 48), (.faddr 2 (.t 47)), (some (39, false))⟩, ⟨(some 49), (.load false 1 (.t 48)), (some (39, false))⟩, ⟨(some 50), (.bin .neq (.t 44) (.t 49)), (some (39, false))⟩, ⟨(some 51), (.pick (.t 39) (.c (.bool true)) (.t 50)), none⟩, ⟨(some 52), (.mv (.t 51)), none⟩, ⟨(some 53), (.mv (.t 3)), (some (52, false))⟩, ⟨(some 54), (.mv (.t 5)), (some (52, false))⟩, ⟨(some 55), (.iaddr 7 (.t 53) (.t 54)), (some (52, false))⟩, ⟨(some 56), (.faddr 1 (.t 55)), (some (52, false))⟩, ⟨(some 57), (.load false 1 (.t 56)), (some (52, false))⟩, ⟨(some 58), (.mv (.t 4)), (some (52, false))⟩, ⟨(some 59), (.mv (.t 5)), (some (52, false))⟩, ⟨(some 60), (.iaddr 7 (.t 58) (.t 59)), (some (52, false))⟩, ⟨(some 61), (.faddr 1 (.t 60)), (some (52, false))⟩, ⟨(some 62), (.load false 1 (.t 61)), (some (52, false))⟩, ⟨(some 63), (.bin .neq (.t 57) (.t 62)), (some (52, false))⟩, ⟨(some 64), (.pick (.t 52) (.c (.bool true)) (.t 63)), none⟩, ⟨(some 65), (.mv (.t 64)), none⟩, ⟨(some 66), (.mv (.t 3)), (some (65, false))⟩, ⟨(some 67), (.mv (.t 5)), (some (65, false))⟩, ⟨(some 68), (.iaddr 7 (.t 66) (.t 67)), (some (65, false))⟩, ⟨(some 69), (.faddr 3 (.t 68)), (some (65, false))⟩, ⟨(some 70), (.load true 3 (.t 69)), (some (65, false))⟩, ⟨(some 71), (.mv (.t 4)), (some (65, false))⟩, ⟨(some 72), (.mv (.t 5)), (some (65, false))⟩, ⟨(some 73), (.iaddr 7 (.t 71) (.t 72)), (some (65, false))⟩, ⟨(some 74), (.faddr 3 (.t 73)), (some (65, false))⟩, ⟨(some 75), (.load true 3 (.t 74)), (some (65, false))⟩, ⟨(some 76), (.eqs true [.i, .i, .s] (.t 70) (.t 75)), (some (65, false))⟩, ⟨(some 77), (.pick (.t 65) (.c (.bool true)) (.t 76)), none⟩, ⟨(some 78), (.mv (.t 77)), none⟩, ⟨(some 79), (.mv (.t 3)), (some (78, false))⟩, ⟨(some 80), (.mv (.t 5)), (some (78, false))⟩, ⟨(some 81), (.iaddr 7 (.t 79) (.t 80)), (some (78, false))⟩, ⟨(some 82), (.faddr 6 (.t 81)), (some (78, false))⟩, ⟨(some 83), (.load false 1 (.t 82)), (some (78, false))⟩, ⟨(some 84), (.len false (.t 83)), (some (78, false))⟩, ⟨(some 85), (.mv (.t 4)), (some (78, false))⟩, ⟨(some 86), (.mv (.t 5)), (some (78, false))⟩, ⟨(some 87), (.iaddr 7 (.t 85) (.t 86)), (some (78, false))⟩, ⟨(some 88), (.faddr 6 (.t 87)), (some (78, false))⟩, ⟨(some 89), (.load false 1 (.t 88)), (some (78, false))⟩, ⟨(some 90), (.len false (.t 89)), (some (78, false))⟩, ⟨(some 91), (.bin .neq (.t 84) (.t 90)), (some (78, false))⟩, ⟨(some 92), (.pick (.t 78) (.c (.bool true)) (.t 91)), none⟩] true) (.cond (.t 92) (.seq (.region [⟨(some 2), (.mv (.c (.bool false))), none⟩] false) .ret) .skip)) (.seq (.region [⟨(some 93), (.mv (.t 3)), none⟩, ⟨(some 94), (.mv (.t 5)), none⟩, ⟨(some 95), (.iaddr 7 (.t 93) (.t 94)), none⟩, ⟨(some 96), (.faddr 6 (.t 95)), none⟩, ⟨(some 97), (.load false 1 (.t 96)), none⟩, ⟨(some 98), (.len false (.t 97)), none⟩, ⟨(some 99), (.mv (.c (.int .i64 0))), none⟩] false) (.block 2 (.loop (.seq (.region [⟨(some 100), (.bin .lss (.t 99) (.t 98)), none⟩] false) (.seq (.cond (.t 100) .skip (.exit 2)) (.seq (.block 3 (.seq (.region [⟨(some 101), (.mv (.t 99)), none⟩, ⟨(some 6), (.mv (.t 101)), none⟩] false) (.seq (.region [⟨(some 102), (.mv (.t 3)), none⟩, ⟨(some 103), (.mv (.t 5)), none⟩, ⟨(some 104), (.iaddr 7 (.t 102) (.t 103)), none⟩, ⟨(some 105), (.faddr 6 (.t 104)), none⟩, ⟨(some 106), (.load false 1 (.t 105)), none⟩, ⟨(some 107), (.mv (.t 6)), none⟩, ⟨(some 108), (.iaddr 25 (.t 106) (.t 107)), none⟩, ⟨(some 109), (.load true 25 (.t 108)), none⟩, ⟨(some 110), (.mv (.t 4)), none⟩, ⟨(some 111), (.mv (.t 5)), none⟩, ⟨(some 112), (.iaddr 7 (.t 110) (.t 111)), none⟩, ⟨(some 113), (.faddr 6 (.t 112)), none⟩, ⟨(some 114), (.load false 1 (.t 113)), none⟩, ⟨(some 115), (.mv (.t 6)), none⟩, ⟨(some 116), (.iaddr 25 (.t 114) (.t 115)), none⟩, ⟨(some 117), (.load true 25 (.t 116)), none⟩, ⟨(some 118), (.call 28 [(.t 109), (.t 117)]), none⟩, ⟨(some 119), (.un .not (.t 118)), none⟩] true) (.cond (.t 119) (.seq (.region [⟨(some 2), (.mv (.c (.bool false))), none⟩] false) .ret) .skip)))) (.region [⟨(some 120), (.bin .add (.t 99) (.c (.int .i64 1))), none⟩, ⟨(some 99), (.mv (.t 120)), none⟩] false)))))))))) (.region [⟨(some 121), (.bin .add (.t 25) (.c (.int .i64 1))), none⟩, ⟨(some 25), (.mv (.t 121)), none⟩] false))))))) (.seq (.region [⟨(some 122), (.mv (.t 0)), none⟩, ⟨(some 123), (.call 29 [(.t 122)]), none⟩, ⟨(some 124), (.mv (.t 0)), none⟩, ⟨(some 125), (.call 30 [(.t 124)]), none⟩, ⟨(some 7), (.mv (.t 123)), none⟩, ⟨(some 8), (.mv (.t 125)), none⟩] false) (.seq (.seq (.region [⟨(some 126), (.mv (.t 7)), none⟩, ⟨(some 127), (.len false (.t 126)), none⟩, ⟨(some 128), (.mv (.t 8)), none⟩, ⟨(some 129), (.len false (.t 128)), none⟩, ⟨(some 130), (.bin .neq (.t 127) (.t 129)), none⟩] false) (.cond (.t 130) (.seq (.region [⟨(some 2), (.mv (.c (.bool false))), none⟩] false) .ret) .skip)) (.seq (.seq (.region [⟨(some 131), (.mv (.t 7)), none⟩, ⟨(some 132), (.len false (.t 131)), none⟩, ⟨(some 133), (.mv (.c (.int .i64 0))), none⟩] false) (.block 4 (.loop (.seq (.region [⟨(some 134), (.bin .lss (.t 133) (.t 132)), none⟩] false) (.seq (.cond (.t 134) .skip (.exit 4)) (.seq (.block 5 (.seq (.region [⟨(some 135), (.mv (.t 133)), none⟩, ⟨(some 9), (.mv (.t 135)), none⟩] false) (.seq (.region [⟨(some 136), (.mv (.t 7)), none⟩, ⟨(some 137), (.mv (.t 9)), none⟩, ⟨(some 138), (.iaddr 1 (.t 136) (.t 137)), none⟩, ⟨(some 139), (.load false 1 (.t 138)), none⟩, ⟨(some 140), (.mv (.t 8)), none⟩, ⟨(some 141), (.mv (.t 9)), none⟩, ⟨(some 142), (.iaddr 1 (.t 140) (.t 141)), none⟩, ⟨(some 143), (.load false 1 (.t 142)), none⟩, ⟨(some 144), (.bin .neq (.t 139) (.t 143)), none⟩] true) (.cond (.t 144) (.seq (.region [⟨(some 2), (.mv (.c (.bool false))), none⟩] false) .ret) .skip)))) (.region [⟨(some 145), (.bin .add (.t 133) (.c (.int .i64 1))), none⟩, ⟨(some 133), (.mv (.t 145)), none⟩] false))))))) (.seq (.region [⟨(some 146), (.call 12 []), none⟩, ⟨(some 2), (.mv (.t 146)), none⟩] false) .ret)))))))))
theorem law_CorpusActs (l : List Gz) (hok : okL Gz.okZ l) (_ : l.length * 56 ≤ 140737488351232) : PCall Try.prog 10 [.sl 4 (l.map Gz.enc)] (.bool true) := by
  refine PCall_intro ?_ (cB _) (by simp only [ClosedL, List.mem_cons, List.not_mem_nil, or_false, forall_eq_or_imp, forall_eq, false_implies, implies_true]; repeat' (first | exact cI _ | exact cS _ | exact cB _ | exact closed_fn0 _ | exact closed_nilsl | exact closed_agg (Un.closed _) | exact closed_agg (It.closed _) | exact closed_agg (EI.closed _) | exact closed_agg (Ac.closed _) | exact closed_agg (Wd.closed _) | exact closed_agg (St.closed _) | exact closed_agg (Sta.closed _) | exact closed_eis _ | exact closed_acs _ | exact closed_gzs _ | exact Closed.of_scalar (scalar_int _ _) | exact closed_ro (Ac.closed _) | exact closed_ro (Gz.closed _) | exact closed_agg (Gz.closed _) | exact closed_strs _ | exact closed_map (fun w _ => Wd.closed w) | exact closed_map (fun w _ => St.closed w) | exact closed_map (fun w _ => Un.closed w) | exact closed_map (fun w _ => It.closed w) | exact closed_sc _ | exact closed_sps _ | exact closed_agg (Sp.closed _) | exact closed_ro (EI.closed _) | exact closed_ro (Sta.closed _) | exact closed_ro (It.closed _) | exact closed_ro (by simp only [List.mem_cons, List.not_mem_nil, or_false, forall_eq]; first | exact cI _ | exact cS _ | exact closed_eis _) | refine And.intro ?_ ?_))
  refine ACall_fnQ (vc := c_pandectlaw28_CorpusActs) (ts := [.t 2]) Go.Proofs.Try.func10 (by kernel_rfl) rfl rfl (Nat.le_of_ble_eq_true rfl) (by kernel_rfl) ?_
  unfold c_pandectlaw28_CorpusActs
  refine VW_seq (VW_region [0] ?_)
  simp only [OpsW_nil, OpsW_n, StepW, pok, pval, VA.ev, Env.get, Env.put, Env.keep, argEnv, thenQ, Heap.nil, ite_true, ite_false, true_and, reduceCtorEq]
  refine VW_seq ?_
  refine VW_seq (VW_region [0, 12] ?_)
  simp only [OpsW_nil, OpsW_n, StepW, pok, pval, VA.ev, Env.get, Env.put, Env.keep, thenQ, unV, unOk, List.map, Nat.reduceEqDiff, ite_true, ite_false, true_and, reduceCtorEq]
  refine ACall_ps (few30 hok) ?_
  rintro p ⟨b, rfl, hb⟩
  simp only [true_and]
  refine VW_cond rfl (fun h1 => ?_) (fun h1 => ?_)
  · refine VW_seq (VW_region [2] ?_)
    simp only [OpsW_nil, OpsW_n, StepW, pok, pval, VA.ev, Env.get, Env.put, Env.keep, thenQ, List.map, Nat.reduceEqDiff, ite_true, ite_false, true_and, reduceCtorEq]
    refine ACall_p run.awake ?_
    skip
    refine VW_ret ?_
    try simp only [Env.get, thenQ, retQ, resV, resOk, RS.ev, RS.ok, ite_true, true_and, and_true]
    exact View.refl _ _
  have hn := hb (by simpa using h1)
  refine VW_skip ?_
  try simp only [thenQ]
  have hdup := sp_corpus_Duplicates l hn.smal.len hn.smal.row (fun a ha => by
    simp only [rowG, List.mem_flatMap] at ha
    obtain ⟨g, hg, hag⟩ := ha
    exact ((hn.ok g hg).2.2.2.2 a hag).1.1)
  rw [dup_twice] at hdup
  have htw := sp_pandectref28_Twice l hn.smal.len hn.smal.row
  have hA := hn.acts_ok
  have hi := acts_items (rowG l)
  have hAl : (actsS (rowG l)).length ≤ 1000000 := by
    have h1 := (actsS_perm (rowG l)).length_eq
    have h2 := fst_le (rowG l) []
    have h3 := hn.smal.row
    omega
  have hIl : ∀ a ∈ actsS (rowG l), a.items.length ≤ 1000000 := fun a ha => by
    have h1 := items_each _ a ha
    have h2 := hn.smal.items
    omega
  have hTl : (twiceS (rowG l)).length ≤ 1000000 := by
    have h1 := putN_fold (dupA [] (rowG l)) []
    have h2 := dupA_le (rowG l) []
    have h3 := hn.smal.row
    simp only [twiceS, List.length_nil] at h1 ⊢
    omega
  refine VW_seq (VW_region [0, 3, 4] ?_)
  simp only [OpsW_nil, OpsW_n, StepW, pok, pval, VA.ev, Env.get, Env.put, Env.keep, thenQ, Nat.succ_ne_self, List.map, Nat.reduceEqDiff, ite_true, ite_false, true_and, reduceCtorEq]
  refine ACall_p (sp_corpus_Acts l hn.smal.len hn.smal.row) ?_
  skip
  refine ACall_p (sp_pandectref28_Acts l hn.smal.len hn.smal.row) ?_
  skip
  generalize actsS (rowG l) = A at hA hi hAl hIl
  generalize twiceS (rowG l) = T at hdup htw hTl
  refine VW_seq ?_
  refine VW_seq (VW_region [0, 3, 4, 22] ?_)
  simp only [OpsW_nil, OpsW_n, StepW, pok, pval, VA.ev, Env.get, Env.put, Env.keep, thenQ, intV, binV, binOk, lenV, lenOk, Nat.succ_ne_self, Nat.reduceEqDiff, ite_true, ite_false, true_and, reduceCtorEq, List.length_map]
  refine VW_cond rfl (fun h2 => ?_) (fun h2 => ?_)
  · simp at h2
  refine VW_skip ?_
  try simp only [thenQ]
  refine VW_seq ?_
  refine VW_seq (VW_region [0, 3, 4, 24, 25] ?_)
  simp only [OpsW_nil, OpsW_n, StepW, pok, pval, VA.ev, Env.get, Env.put, Env.keep, thenQ, lenV, lenOk, Nat.succ_ne_self, Nat.reduceEqDiff, ite_true, ite_false, true_and, reduceCtorEq, List.length_map]
  refine VW_block ?_
  refine VW_loop (σ := { i : Nat // i ≤ A.length }) (fun s => ([(0, .sl 4 (l.map Gz.enc)), (3, .sl 7 (A.map Ac.enc)), (4, .sl 7 (A.map Ac.enc)), (24, pI A.length), (25, pI s.1)], ⟨[], 0⟩)) (fun s => A.length - s.1) ⟨0, Nat.zero_le _⟩ ?_ ?_ ?_
  · try simp only [Env.get, Nat.succ_ne_self, Env.le, Nat.reduceEqDiff, ite_true, ite_false, true_and, and_true, reduceCtorEq]
    all_goals (repeat' (first | rfl | trivial | omega | (simp only []; omega) | refine And.intro ?_ ?_))
  · try simp only [Heap.le, HL.le, Nat.le_refl, and_true]
    all_goals (repeat' (first | rfl | trivial | omega | (simp only []; omega) | refine And.intro ?_ ?_))
  rintro ⟨i, hi'⟩
  simp only []
  refine VW_seq (VW_region [0, 3, 4, 24, 25, 26] ?_)
  simp only [OpsW_nil, OpsW_n, StepW, pok, pval, VA.ev, Env.get, Env.put, Env.keep, thenQ, intV, binV, binOk, Heap.le, HL.le, Nat.succ_ne_self, Env.le, Nat.reduceEqDiff, ite_true, ite_false, true_and, and_true, reduceCtorEq]
  refine VW_seq ?_
  refine VW_cond rfl (fun h3 => ?_) (fun h3 => ?_)
  · refine VW_skip ?_
    try simp only [thenQ]
    simp only [decide_eq_true_eq] at h3
    have ia : i < A.length := by omega
    have hao := hA _ (List.getElem_mem ia)
    have hal := hIl _ (List.getElem_mem ia)
    refine VW_seq ?_
    refine VW_block ?_
    refine VW_seq (VW_region [0, 3, 4, 5, 24, 25] ?_)
    simp only [OpsW_nil, OpsW_n, StepW, pok, pval, VA.ev, Env.get, Env.put, Env.keep, thenQ, Nat.succ_ne_self, Nat.reduceEqDiff, ite_true, ite_false, true_and, reduceCtorEq]
    refine VW_seq ?_
    refine VW_seq (VW_drawS [0, 3, 4, 5, 24, 25, 92] (by simp [Heap.le, Heap.get, HL.le, HL.get]) ?_)
    simp only [DrawW_nil, DrawW_n, DrawW_y, QW, dok, dval, VOp.pure, VOp.simple, VOp.det, pok, pval, VA.ev, Env.get, Env.put, Env.keep, thenQ, gd, pickV, isBool, aggV, intV, binV, binOk, strV, isInt, numOf, lenV, faddrV, isAddr, locCells, locOk, cellsOfAgg, isAggP, iaddrV, iaddrOk, lenOk, PV.nth, PV.row, Nat.le_refl, Nat.succ_ne_self, eqOk, ekOk, eqCells, eqCell, List.length, List.getD_cons_zero, List.take, List.drop, List.take_succ_cons, Nat.reduceEqDiff, Nat.reduceAdd, Nat.reduceLeDiff, Bool.false_eq_true, Bool.true_eq_false, ite_true, ite_false, true_and, and_true, implies_true, forall_const, reduceCtorEq, BEq.rfl, Nat.zero_add, List.length_cons, imp_self, Int.toNat_natCast, List.length_map, rowm ia, Ac.enc, bne_self_eq_false, beq_self_eq_true, Bool.and_self, Bool.not_true]
    repeat (with_reducible refine And.intro ?_ ?_; first | omega | (with_reducible constructor <;> omega) | exact False.elim | exact True.intro)
    refine VW_cond rfl (fun h4 => ?_) (fun h4 => ?_)
    · simp at h4
    refine VW_skip ?_
    try simp only [thenQ]
    refine VW_seq (VW_region [0, 3, 4, 5, 24, 25, 98, 99] ?_)
    simp only [OpsW_nil, OpsW_n, StepW, pok, pval, VA.ev, Env.get, Env.put, Env.keep, thenQ, aggV, isInt, numOf, lenV, faddrV, isAddr, locCells, locOk, iaddrV, iaddrOk, lenOk, PV.nth, PV.row, Nat.le_refl, Nat.succ_ne_self, List.length, List.getD_cons_zero, List.take, List.drop, List.take_succ_cons, Nat.reduceEqDiff, Bool.false_eq_true, ite_true, ite_false, true_and, and_true, implies_true, reduceCtorEq, Nat.zero_add, List.length_cons, Int.toNat_natCast, List.length_map, rowm ia, Ac.enc]
    repeat (with_reducible refine And.intro ?_ ?_; first | omega | (with_reducible constructor <;> omega) | exact False.elim | exact True.intro)
    refine VW_block ?_
    refine VW_loop (σ := { j : Nat // j ≤ A[i].items.length }) (fun s => ([(0, .sl 4 (l.map Gz.enc)), (3, .sl 7 (A.map Ac.enc)), (4, .sl 7 (A.map Ac.enc)), (5, pI i), (24, pI A.length), (25, pI i), (98, pI A[i].items.length), (99, pI s.1)], ⟨[], 0⟩)) (fun s => A[i].items.length - s.1) ⟨0, Nat.zero_le _⟩ ?_ ?_ ?_
    · try simp only [Env.get, Nat.succ_ne_self, Env.le, Nat.reduceEqDiff, ite_true, ite_false, true_and, and_true, reduceCtorEq]
      all_goals (repeat' (first | rfl | trivial | omega | (simp only []; omega) | refine And.intro ?_ ?_))
    · try simp only [Heap.le, HL.le, Nat.le_refl, and_true]
      all_goals (repeat' (first | rfl | trivial | omega | (simp only []; omega) | refine And.intro ?_ ?_))
    rintro ⟨j, hj⟩
    simp only []
    refine VW_seq (VW_region [0, 3, 4, 5, 24, 25, 98, 99, 100] ?_)
    simp only [OpsW_nil, OpsW_n, StepW, pok, pval, VA.ev, Env.get, Env.put, Env.keep, thenQ, intV, binV, binOk, Heap.le, HL.le, Nat.succ_ne_self, Env.le, Nat.reduceEqDiff, ite_true, ite_false, true_and, and_true, reduceCtorEq]
    refine VW_seq ?_
    refine VW_cond rfl (fun h5 => ?_) (fun h5 => ?_)
    · refine VW_skip ?_
      try simp only [thenQ]
      simp only [decide_eq_true_eq] at h5
      have ja : j < A[i].items.length := by omega
      have hio := hao.1.2.2.2.2.2 _ (List.getElem_mem ja)
      refine VW_seq ?_
      refine VW_block ?_
      refine VW_seq (VW_region [0, 3, 4, 5, 6, 24, 25, 98, 99] ?_)
      simp only [OpsW_nil, OpsW_n, StepW, pok, pval, VA.ev, Env.get, Env.put, Env.keep, thenQ, Nat.succ_ne_self, Nat.reduceEqDiff, ite_true, ite_false, true_and, reduceCtorEq]
      refine VW_seq (VW_drawS [0, 3, 4, 5, 24, 25, 98, 99, 119] (by simp [Heap.le, Heap.get, HL.le, HL.get]) ?_)
      simp only [DrawW_nil, DrawW_n, QW, dok, dval, VOp.pure, VOp.simple, VOp.det, pok, pval, VA.ev, Env.get, Env.put, Env.keep, thenQ, gd, aggV, unV, unOk, isInt, numOf, lenV, faddrV, isAddr, locCells, locOk, iaddrV, iaddrOk, PV.nth, PV.row, Nat.le_refl, Nat.succ_ne_self, List.length, List.getD_cons_zero, List.take, List.drop, List.take_succ_cons, Nat.reduceEqDiff, Bool.false_eq_true, Bool.true_eq_false, ite_true, ite_false, true_and, and_true, implies_true, forall_const, reduceCtorEq, Nat.zero_add, List.length_cons, imp_self, Int.toNat_natCast, List.length_map, rowm ia, rowm ja, Ac.enc, it_take25, it_len25]
      repeat (with_reducible refine And.intro ?_ ?_; first | omega | (with_reducible constructor <;> omega) | exact False.elim | exact True.intro)
      refine ⟨_, .inl (sp28 A[i].items[j] A[i].items[j] hio hio), ?_⟩
      rw [eqB_t rfl]
      simp only [true_and, Bool.not_true]
      refine VW_cond rfl (fun h6 => by cases h6) (fun h6 => ?_)
      refine VW_skip ?_
      try simp only [thenQ, blockQ]
      refine VW_region [0, 3, 4, 5, 24, 25, 98, 99] ?_
      simp only [OpsW_nil, OpsW_n, StepW, pok, pval, VA.ev, Env.get, Env.put, Env.keep, thenQ, intV, binV, binOk, Nat.le_refl, Nat.succ_ne_self, Nat.reduceEqDiff, ite_true, ite_false, true_and, reduceCtorEq, ad1 (a := j) (by omega)]
      refine ⟨⟨j + 1, ja⟩, ?_⟩
      try simp only [true_and]
      all_goals (repeat' (first | rfl | trivial | omega | (simp only []; omega) | refine And.intro ?_ ?_))
    · simp only [decide_eq_false_iff_not] at h5
      refine VW_exit ?_
      try simp only [thenQ, blockQ, retQ, Nat.succ_ne_self, ite_true, ite_false, reduceCtorEq]
      refine VW_region [0, 3, 4, 24, 25] ?_
      simp only [OpsW_nil, OpsW_n, StepW, pok, pval, VA.ev, Env.get, Env.put, Env.keep, thenQ, intV, binV, binOk, Nat.le_refl, Nat.succ_ne_self, Nat.reduceEqDiff, ite_true, ite_false, true_and, reduceCtorEq, ad1 (a := i) (by omega)]
      refine ⟨⟨i + 1, ia⟩, ?_⟩
      try simp only [true_and]
      all_goals (repeat' (first | rfl | trivial | omega | (simp only []; omega) | refine And.intro ?_ ?_))
  · refine VW_exit ?_
    try simp only [thenQ, blockQ, retQ, ite_true]
    refine VW_seq (VW_region [7, 8] ?_)
    simp only [OpsW_nil, OpsW_n, StepW, pok, pval, VA.ev, Env.get, Env.put, Env.keep, thenQ, Nat.succ_ne_self, List.map, Nat.reduceEqDiff, ite_true, ite_false, true_and, reduceCtorEq]
    refine ACall_p hdup ?_
    skip
    refine ACall_p htw ?_
    skip
    refine VW_seq ?_
    refine VW_seq (VW_region [7, 8, 130] ?_)
    simp only [OpsW_nil, OpsW_n, StepW, pok, pval, VA.ev, Env.get, Env.put, Env.keep, thenQ, intV, binV, binOk, lenV, lenOk, Nat.succ_ne_self, Nat.reduceEqDiff, ite_true, ite_false, true_and, List.length_map]
    refine VW_cond rfl (fun h7 => ?_) (fun h7 => ?_)
    · simp at h7
    refine VW_skip ?_
    try simp only [thenQ]
    refine VW_seq ?_
    refine VW_seq (VW_region [7, 8, 132, 133] ?_)
    simp only [OpsW_nil, OpsW_n, StepW, pok, pval, VA.ev, Env.get, Env.put, Env.keep, thenQ, lenV, lenOk, Nat.succ_ne_self, Nat.reduceEqDiff, ite_true, ite_false, true_and, List.length_map]
    refine VW_block ?_
    refine VW_loop (σ := { i : Nat // i ≤ T.length }) (fun s => ([(7, .sl 1 (T.map encN)), (8, .sl 1 (T.map encN)), (132, pI T.length), (133, pI s.1)], ⟨[], 0⟩)) (fun s => T.length - s.1) ⟨0, Nat.zero_le _⟩ ?_ ?_ ?_
    · try simp only [Env.get, Nat.succ_ne_self, Env.le, Nat.reduceEqDiff, ite_true, ite_false, true_and, and_true]
      all_goals (repeat' (first | rfl | trivial | omega | (simp only []; omega) | refine And.intro ?_ ?_))
    · try simp only [Heap.le, HL.le, Nat.le_refl, and_true]
      all_goals (repeat' (first | rfl | trivial | omega | (simp only []; omega) | refine And.intro ?_ ?_))
    rintro ⟨i, hi'⟩
    simp only []
    refine VW_seq (VW_region [7, 8, 132, 133, 134] ?_)
    simp only [OpsW_nil, OpsW_n, StepW, pok, pval, VA.ev, Env.get, Env.put, Env.keep, thenQ, intV, binV, binOk, Heap.le, HL.le, Nat.succ_ne_self, Env.le, Nat.reduceEqDiff, ite_true, ite_false, true_and, and_true]
    refine VW_seq ?_
    refine VW_cond rfl (fun h8 => ?_) (fun h8 => ?_)
    · refine VW_skip ?_
      try simp only [thenQ]
      simp only [decide_eq_true_eq] at h8
      have ia : i < T.length := by omega
      refine VW_seq ?_
      refine VW_block ?_
      refine VW_seq (VW_region [7, 8, 9, 132, 133] ?_)
      simp only [OpsW_nil, OpsW_n, StepW, pok, pval, VA.ev, Env.get, Env.put, Env.keep, thenQ, Nat.succ_ne_self, Nat.reduceEqDiff, ite_true, ite_false, true_and]
      refine VW_seq (VW_drawS [7, 8, 132, 133, 144] (by simp [Heap.le, Heap.get, HL.le, HL.get]) ?_)
      simp only [DrawW_nil, DrawW_n, QW, dok, dval, VOp.pure, VOp.simple, VOp.det, pok, pval, VA.ev, Env.get, Env.put, Env.keep, thenQ, gd, aggV, intV, binV, binOk, isInt, numOf, lenV, locCells, locOk, iaddrV, iaddrOk, PV.nth, PV.row, Nat.le_refl, Nat.succ_ne_self, List.length, List.getD_cons_zero, List.take, List.take_succ_cons, Nat.reduceEqDiff, Bool.false_eq_true, ite_true, ite_false, true_and, and_true, implies_true, forall_const, Nat.zero_add, List.length_cons, Int.toNat_natCast, List.length_map, rowm ia, encN]
      repeat (with_reducible refine And.intro ?_ ?_; first | omega | (with_reducible constructor <;> omega) | exact False.elim | exact True.intro)
      refine VW_cond rfl (fun h9 => ?_) (fun h9 => ?_)
      · simp at h9
      refine VW_skip ?_
      try simp only [thenQ, blockQ]
      refine VW_region [7, 8, 132, 133] ?_
      simp only [OpsW_nil, OpsW_n, StepW, pok, pval, VA.ev, Env.get, Env.put, Env.keep, thenQ, intV, binV, binOk, Nat.le_refl, Nat.succ_ne_self, Nat.reduceEqDiff, ite_true, ite_false, true_and, ad1 (a := i) (by omega)]
      refine ⟨⟨i + 1, ia⟩, ?_⟩
      try simp only [true_and]
      all_goals (repeat' (first | rfl | trivial | omega | (simp only []; omega) | refine And.intro ?_ ?_))
    · refine VW_exit ?_
      try simp only [thenQ, blockQ, retQ, ite_true]
      refine VW_seq (VW_region [2] ?_)
      simp only [OpsW_nil, OpsW_n, StepW, pok, pval, VA.ev, Env.get, Env.put, Env.keep, thenQ, List.map, Nat.reduceEqDiff, ite_true, ite_false, true_and]
      refine ACall_p run.awake ?_
      skip
      refine VW_ret ?_
      try simp only [Env.get, retQ, resV, resOk, RS.ev, RS.ok, ite_true, true_and, and_true]
      exact View.refl _ _
end Go.Proofs.Ytcjaojhbebpokaa.w


namespace Go.Proofs.Ytcjaojhbebpokaa.rd
open Go Go.VM
variable {W : World}
theorem bItem : Try.prog.bytesOf 42 = 368 := by kernel_rfl
theorem bAct : Try.prog.bytesOf 59 = 88 := by kernel_rfl
theorem bGz : Try.prog.bytesOf 61 = 56 := by kernel_rfl
theorem rItsZ (n : Nat) : ReadsZ Try.prog W n 40 (fun l => okL It.ok l ∧ itemsOk l) (fun l => [.sl 25 (l.map It.enc)]) := by
  cases n with
  | zero => exact readsZ_zero
  | succ n =>
    refine ReadsZ.map (fun l : List It => l) (readsZ_slice Try.underlying40 k42 (by decide) bItem It.enc_len (rIt n).z) ?_ (fun _ => rfl)
    rintro l ⟨h1, h2, h3⟩
    refine ⟨⟨h1, h3⟩, ?_⟩
    have h5 : reachBytes = 140737488351232 := rfl
    unfold itemsOk maxItems
    omega
theorem rAcZ (n : Nat) : ReadsZ Try.prog W n 59 Ac.okZ Ac.enc := by
  cases n with
  | zero => exact readsZ_zero
  | succ n =>
    refine ReadsZ.map (fun x : Int × Str × Int × Sta × List It × Unit => (⟨x.1, x.2.1, x.2.2.1, x.2.2.2.1, x.2.2.2.2.1⟩ : Ac)) (readsZ_struct Try.underlying59 rfl k59 (freadsZ_cons (by exact (rI n).z) (by exact k3) (by exact (fun _ => rfl)) (by rfl) (freadsZ_cons (by exact (rS n).z) (by exact k9) (by exact (fun _ => rfl)) (by rfl) (freadsZ_cons (by exact (rI n).z) (by exact k3) (by exact (fun _ => rfl)) (by rfl) (freadsZ_cons (by exact (rSta n).z) (by exact k39) (by exact (fun _ => rfl)) (by rfl) (freadsZ_cons (by exact (rItsZ n)) (by exact k40) (by exact (fun _ => rfl)) (by rfl) freadsZ_nil))))) (by exact fun _ => rfl)) ?_ ?_
    · rintro ⟨a, b, c, d, e, _⟩ ⟨h1, h2, h3, h4, h5, _⟩; exact ⟨⟨h1, h2, h3, h4, h5.1⟩, h5.2⟩
    · rintro ⟨a, b, c, d, e, _⟩; rfl
theorem rAcsZ (n : Nat) : ReadsZ Try.prog W n 56 (okL Ac.okZ) (fun l => [.sl 7 (l.map Ac.enc)]) := by
  cases n with
  | zero => exact readsZ_zero
  | succ n =>
    refine ReadsZ.map (fun l : List Ac => l) (readsZ_slice Try.underlying56 k59 (by decide) bAct (fun _ => rfl) (rAcZ n)) ?_ (fun _ => rfl)
    rintro l ⟨h1, h2, h3⟩
    exact ⟨h1, h3⟩
theorem rGzZ (n : Nat) : ReadsZ Try.prog W n 61 Gz.okZ Gz.enc := by
  cases n with
  | zero => exact readsZ_zero
  | succ n =>
    refine ReadsZ.map (fun x : Int × Int × Str × List Ac × Unit => (⟨x.1, x.2.1, x.2.2.1, x.2.2.2.1⟩ : Gz)) (readsZ_struct Try.underlying61 rfl k61 (freadsZ_cons (by exact (rI n).z) (by exact k3) (by exact (fun _ => rfl)) (by rfl) (freadsZ_cons (by exact (rI n).z) (by exact k3) (by exact (fun _ => rfl)) (by rfl) (freadsZ_cons (by exact (rS n).z) (by exact k9) (by exact (fun _ => rfl)) (by rfl) (freadsZ_cons (by exact (rAcsZ n)) (by exact k56) (by exact (fun _ => rfl)) (by rfl) freadsZ_nil)))) (by exact fun _ => rfl)) ?_ ?_
    · rintro ⟨a, b, c, d, _⟩ ⟨h1, h2, h3, h4, _⟩; exact ⟨h1, h2, h3, h4⟩
    · rintro ⟨a, b, c, d, _⟩; rfl
theorem rGzsZ (n : Nat) : ReadsZ Try.prog W n 22 (okL Gz.okZ) (fun l => [.sl 4 (l.map Gz.enc)]) := by
  cases n with
  | zero => exact readsZ_zero
  | succ n =>
    refine ReadsZ.map (fun l : List Gz => l) (readsZ_slice Try.underlying22 k61 (by decide) bGz (fun _ => rfl) (rGzZ n)) ?_ (fun _ => rfl)
    rintro l ⟨h1, h2, h3⟩
    exact ⟨h1, h3⟩
theorem rU8 (n : Nat) : Reads Try.prog W n 5 (fun a => (Lit.int .u8 a).wf = true) (fun a => [.int .u8 a]) := reads_int Try.underlying5
end Go.Proofs.Ytcjaojhbebpokaa.rd

