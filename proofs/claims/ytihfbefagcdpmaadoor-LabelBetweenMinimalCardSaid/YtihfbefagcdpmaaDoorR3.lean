/-
  Walks of the reference: Free, all, Between.
  Walks: the laws of labels: awake, Split, Compare, Next, Between, BetweenMinimal.
  How the seat's arguments are read: the types of package api at this seat's numbers.
  The table that the row lists is what the value machine knows of the memory.
-/
import Derived.Test.YtihfbefagcdpmaaDoorR2
import Derived.Test.YtihfbefagcdpmaaDoorVmA
import Derived.Test.YtihfbefagcdpmaaDoorRows
import Derived.Test.YtihfbefagcdpmaaDoorVmX
import Derived.Lib.LaidTab
import Derived.LaidSub
import Derived.Lib.ItoaNum
set_option linter.all false
namespace Go.Proofs.YtihfbefagcdpmaaDoor.w
open Go Go.VM
set_option maxRecDepth 20000
set_option maxHeartbeats 0
set_option pp.deepTerms false
def c_pandectref03_Free : VC := (.seq (.region [⟨(some 4), (.mv (.c (.str []))), none⟩] false) (.seq (.seq (.region [⟨(some 5), (.mv (.t 1)), none⟩, ⟨(some 6), (.call 14 [(.t 5)]), none⟩, ⟨(some 7), (.un .not (.t 6)), none⟩] false) (.cond (.t 7) (.seq (.region [⟨(some 4), (.mv (.c (.str []))), none⟩] false) .ret) .skip)) (.seq (.block 0 (.loop (.seq (.seq (.region [⟨(some 8), (.mv (.t 1)), none⟩, ⟨(some 9), (.bin .neq (.t 8) (.c (.str []))), none⟩, ⟨(some 10), (.mv (.t 9)), none⟩, ⟨(some 11), (.mv (.t 0)), (some (10, true))⟩, ⟨(some 12), (.mv (.t 1)), (some (10, true))⟩, ⟨(some 13), (.call 24 [(.t 11), (.t 12)]), (some (10, true))⟩, ⟨(some 14), (.pick (.t 10) (.t 13) (.c (.bool false))), none⟩] false) (.cond (.t 14) .skip (.exit 0))) (.block 1 (.region [⟨(some 15), (.mv (.t 1)), none⟩, ⟨(some 16), (.call 18 [(.t 15)]), none⟩, ⟨(some 1), (.mv (.t 16)), none⟩] false))))) (.seq (.region [⟨(some 17), (.mv (.t 1)), none⟩, ⟨(some 4), (.mv (.t 17)), none⟩] false) .ret))))
def c_pandectref03_all : VC := (.seq (.region [⟨(some 2), (.mv (.c .nilsl)), none⟩] false) (.seq (.region [⟨(some 8), (.bslice 1 1 [(.str [])] [(0, (.c (.str [])))]), none⟩, ⟨(some 3), (.mv (.t 8)), none⟩] false) (.seq (.seq (.region [⟨(some 4), (.mv (.c (.int .i64 0))), none⟩] false) (.block 0 (.loop (.seq (.seq (.region [⟨(some 9), (.mv (.t 4)), none⟩, ⟨(some 10), (.mv (.t 0)), none⟩, ⟨(some 11), (.bin .lss (.t 9) (.t 10)), none⟩] false) (.cond (.t 11) .skip (.exit 0))) (.seq (.block 1 (.seq (.region [⟨(some 14), (.fx (.mk0 1) []), none⟩, ⟨(some 5), (.mv (.t 14)), none⟩] false) (.seq (.seq (.region [⟨(some 6), (.mv (.c (.int .i64 0))), none⟩] false) (.block 2 (.loop (.seq (.seq (.region [⟨(some 15), (.mv (.t 6)), none⟩, ⟨(some 16), (.mv (.t 3)), none⟩, ⟨(some 17), (.len false (.t 16)), none⟩, ⟨(some 18), (.bin .lss (.t 15) (.t 17)), none⟩] false) (.cond (.t 18) .skip (.exit 2))) (.seq (.block 3 (.seq (.region [⟨(some 7), (.mv (.c (.int .i64 65))), none⟩] false) (.block 4 (.loop (.seq (.seq (.region [⟨(some 21), (.mv (.t 7)), none⟩, ⟨(some 22), (.bin .leq (.t 21) (.c (.int .i64 90))), none⟩] false) (.cond (.t 22) .skip (.exit 4))) (.seq (.block 5 (.draw2 [⟨(some 25), (.mv (.t 5)), none⟩, ⟨(some 26), (.mv (.t 3)), none⟩, ⟨(some 27), (.mv (.t 6)), none⟩, ⟨(some 28), (.iaddr 1 (.t 26) (.t 27)), none⟩, ⟨(some 29), (.load false 1 (.t 28)), none⟩, ⟨(some 30), (.mv (.t 7)), none⟩, ⟨(some 31), (.conv .u8 (.t 30)), none⟩, ⟨(some 32), (.bslice 1 1 [(.int .u8 0)] [(0, (.t 31))]), none⟩, ⟨(some 33), (.px .b2s [(.t 32)]), none⟩, ⟨(some 34), (.bin .add (.t 29) (.t 33)), none⟩, ⟨(some 35), (.bslice 1 1 [(.str [])] [(0, (.t 34))]), none⟩, ⟨(some 36), (.app 1 16 [(.str [])] false (.t 25) (.t 35)), none⟩, ⟨(some 5), (.mv (.t 36)), none⟩] [true, true, true, true, true, true, true, true, true, true, true, false, false])) (.region [⟨(some 23), (.mv (.t 7)), none⟩, ⟨(some 24), (.bin .add (.t 23) (.c (.int .i64 1))), none⟩, ⟨(some 7), (.mv (.t 24)), none⟩] false))))))) (.region [⟨(some 19), (.mv (.t 6)), none⟩, ⟨(some 20), (.bin .add (.t 19) (.c (.int .i64 1))), none⟩, ⟨(some 6), (.mv (.t 20)), none⟩] false)))))) (.region [⟨(some 37), (.mv (.t 5)), none⟩, ⟨(some 3), (.mv (.t 37)), none⟩] false)))) (.region [⟨(some 12), (.mv (.t 4)), none⟩, ⟨(some 13), (.bin .add (.t 12) (.c (.int .i64 1))), none⟩, ⟨(some 4), (.mv (.t 13)), none⟩] false)))))) (.seq (.region [⟨(some 38), (.mv (.t 3)), none⟩, ⟨(some 2), (.mv (.t 38)), none⟩] false) .ret))))
def c_pandectref03_Between : VC := (.seq (.region [⟨(some 4), (.mv (.c (.str []))), none⟩] false) (.seq (.seq (.region [⟨(some 12), (.mv (.t 0)), none⟩, ⟨(some 13), (.call 14 [(.t 12)]), none⟩, ⟨(some 14), (.un .not (.t 13)), none⟩, ⟨(some 15), (.mv (.t 14)), none⟩, ⟨(some 16), (.mv (.t 1)), (some (15, false))⟩, ⟨(some 17), (.call 14 [(.t 16)]), (some (15, false))⟩, ⟨(some 18), (.un .not (.t 17)), (some (15, false))⟩, ⟨(some 19), (.pick (.t 15) (.c (.bool true)) (.t 18)), none⟩] false) (.cond (.t 19) (.seq (.region [⟨(some 4), (.mv (.c (.str []))), none⟩] false) .ret) .skip)) (.seq (.region [⟨(some 21), (.mv (.t 0)), none⟩, ⟨(some 22), (.call 12 [(.t 21)]), none⟩, ⟨(some 20), (.mv (.t 22)), none⟩, ⟨(some 23), (.ext (.t 20) 0), none⟩, ⟨(some 24), (.ext (.t 20) 1), none⟩, ⟨(some 5), (.mv (.t 23)), none⟩, ⟨(some 6), (.mv (.t 24)), none⟩] false) (.seq (.seq (.region [⟨(some 7), (.mv (.c (.int .i64 0))), none⟩] false) (.block 0 (.loop (.seq (.seq (.region [⟨(some 25), (.mv (.t 7)), none⟩, ⟨(some 26), (.bin .leq (.t 25) (.c (.int .i64 3))), none⟩] false) (.cond (.t 26) .skip (.exit 0))) (.seq (.block 1 (.seq (.region [⟨(some 29), (.mv (.t 7)), none⟩, ⟨(some 30), (.call 40 [(.t 29)]), none⟩, ⟨(some 8), (.mv (.t 30)), none⟩] false) (.seq (.region [⟨(some 31), (.mv (.t 5)), none⟩, ⟨(some 9), (.mv (.t 31)), none⟩] false) (.block 2 (.loop (.seq (.seq (.region [⟨(some 32), (.mv (.t 9)), none⟩, ⟨(some 33), (.mv (.t 5)), none⟩, ⟨(some 34), (.bin .add (.t 33) (.c (.int .i64 1))), none⟩, ⟨(some 35), (.bin .leq (.t 32) (.t 34)), none⟩, ⟨(some 36), (.mv (.t 35)), none⟩, ⟨(some 37), (.mv (.t 9)), (some (36, true))⟩, ⟨(some 38), (.bin .leq (.t 37) (.c (.int .i64 9999))), (some (36, true))⟩, ⟨(some 39), (.pick (.t 36) (.t 38) (.c (.bool false))), none⟩] false) (.cond (.t 39) .skip (.exit 2))) (.seq (.block 3 (.seq (.region [⟨(some 10), (.mv (.c (.int .i64 0))), none⟩] false) (.block 4 (.loop (.seq (.seq (.region [⟨(some 42), (.mv (.t 10)), none⟩, ⟨(some 43), (.mv (.t 8)), none⟩, ⟨(some 44), (.len false (.t 43)), none⟩, ⟨(some 45), (.bin .lss (.t 42) (.t 44)), none⟩] false) (.cond (.t 45) .skip (.exit 4))) (.seq (.block 5 (.seq (.region [⟨(some 48), (.mv (.t 9)), none⟩, ⟨(some 49), (.mv (.t 8)), none⟩, ⟨(some 50), (.mv (.t 10)), none⟩, ⟨(some 51), (.iaddr 1 (.t 49) (.t 50)), none⟩, ⟨(some 52), (.load false 1 (.t 51)), none⟩, ⟨(some 53), (.call 38 [(.t 48), (.t 52)]), none⟩, ⟨(some 11), (.mv (.t 53)), none⟩] false) (.seq (.region [⟨(some 54), (.mv (.t 0)), none⟩, ⟨(some 55), (.mv (.t 11)), none⟩, ⟨(some 56), (.call 16 [(.t 54), (.t 55)]), none⟩, ⟨(some 57), (.bin .lss (.t 56) (.c (.int .i64 0))), none⟩, ⟨(some 58), (.mv (.t 57)), none⟩, ⟨(some 59), (.mv (.t 11)), (some (58, true))⟩, ⟨(some 60), (.mv (.t 1)), (some (58, true))⟩, ⟨(some 61), (.call 16 [(.t 59), (.t 60)]), (some (58, true))⟩, ⟨(some 62), (.bin .lss (.t 61) (.c (.int .i64 0))), (some (58, true))⟩, ⟨(some 63), (.pick (.t 58) (.t 62) (.c (.bool false))), none⟩] false) (.cond (.t 63) (.seq (.region [⟨(some 64), (.mv (.t 11)), none⟩, ⟨(some 4), (.mv (.t 64)), none⟩] false) .ret) .skip)))) (.region [⟨(some 46), (.mv (.t 10)), none⟩, ⟨(some 47), (.bin .add (.t 46) (.c (.int .i64 1))), none⟩, ⟨(some 10), (.mv (.t 47)), none⟩] false))))))) (.region [⟨(some 40), (.mv (.t 9)), none⟩, ⟨(some 41), (.bin .add (.t 40) (.c (.int .i64 1))), none⟩, ⟨(some 9), (.mv (.t 41)), none⟩] false)))))))) (.region [⟨(some 27), (.mv (.t 7)), none⟩, ⟨(some 28), (.bin .add (.t 27) (.c (.int .i64 1))), none⟩, ⟨(some 7), (.mv (.t 28)), none⟩] false)))))) (.seq (.region [⟨(some 4), (.mv (.c (.str []))), none⟩] false) .ret)))))
def freeR (l : List Str) (s : Str) : Str := (nextFree l s).getD []
theorem label_len' {s : Str} (h : may s = true) : s.length ≤ 7 ∧ s ≠ [] := by
  have h1 := (may_iff.1 h).1
  have h2 := (may_iff.1 h).2.1
  have h3 := caps_len h
  have h4 := dgs_len s
  exact ⟨by omega, fun e => by subst e; simp [dgs] at h1⟩
theorem sp_pandectref03_Free (l : List Str) (s : Str) (hl : l.length ≤ 1000000) (hs : s.length ≤ 1000000) : PCall Tryd.prog 23 [It.strs l, .str s] (.str (freeR l s)) := by
  have A := sp_pandectref03_May s hs
  refine PCall_intro ?_ (cS _) (by simp only [ClosedL, List.mem_cons, List.not_mem_nil, or_false, forall_eq_or_imp, forall_eq, false_implies, implies_true]; repeat' (first | exact cI _ | exact cS _ | exact cB _ | exact closed_fn0 _ | exact closed_nilsl | exact closed_agg (Un.closed _) | exact closed_agg (It.closed _) | exact closed_agg (EI.closed _) | exact closed_agg (Ac.closed _) | exact closed_agg (Wd.closed _) | exact closed_agg (St.closed _) | exact closed_agg (Sta.closed _) | exact closed_eis _ | exact closed_acs _ | exact closed_gzs _ | exact Closed.of_scalar (scalar_int _ _) | exact closed_ro (Ac.closed _) | exact closed_ro (Gz.closed _) | exact closed_agg (Gz.closed _) | exact closed_strs _ | exact closed_map (fun w _ => Wd.closed w) | exact closed_map (fun w _ => St.closed w) | exact closed_map (fun w _ => Un.closed w) | exact closed_map (fun w _ => It.closed w) | exact closed_sc _ | exact closed_sps _ | exact closed_agg (Sp.closed _) | exact closed_ro (EI.closed _) | exact closed_ro (Sta.closed _) | exact closed_ro (It.closed _) | exact closed_ro (by simp only [List.mem_cons, List.not_mem_nil, or_false, forall_eq]; first | exact cI _ | exact cS _ | exact closed_eis _) | refine And.intro ?_ ?_))
  refine ACall_fn (vc := c_pandectref03_Free) (ts := [.t 4]) Go.Proofs.Tryd.func23 (by kernel_rfl) rfl rfl (Nat.le_of_ble_eq_true rfl) (by kernel_rfl) ?_
  unfold c_pandectref03_Free
  refine VW_seq (VW_region [0, 1] ?_)
  simp only [OpsW_nil, OpsW_n, StepW, pok, pval, VA.ev, Env.get, Env.put, Env.keep, argEnv, thenQ, Heap.nil, Nat.succ_ne_self, Nat.reduceEqDiff, ite_true, ite_false, true_and, reduceCtorEq, Nat.zero_add]
  refine VW_seq ?_
  refine VW_seq (VW_region [0, 1, 7] ?_)
  simp only [OpsW_nil, OpsW_n, StepW, pok, pval, VA.ev, Env.get, Env.put, Env.keep, thenQ, unV, unOk, Nat.succ_ne_self, List.map, Nat.reduceEqDiff, ite_true, ite_false, true_and, reduceCtorEq]
  refine ACall_p A ?_
  try simp only [true_and]
  refine VW_cond rfl (fun h1 => ?_) (fun h1 => ?_)
  · refine VW_seq (VW_region [4] ?_)
    simp only [OpsW_nil, OpsW_n, StepW, pok, pval, VA.ev, Env.get, Env.put, Env.keep, thenQ, Nat.reduceEqDiff, ite_true, ite_false, true_and, reduceCtorEq]
    refine VW_ret ?_
    try simp only [Env.get, thenQ, retQ, resV, resOk, RS.ev, RS.ok, ite_true, true_and, and_true]
    have e : may s = false := by cases h : may s; rfl; rw [h] at h1; cases h1
    have : freeR l s = [] := by unfold freeR nextFree; simp [e]
    rw [this]; exact View.refl _ _
  have hm : may s = true := by cases h : may s; rw [h] at h1; cases h1; rfl
  obtain ⟨hs7, hsne⟩ := label_len' hm
  refine VW_skip ?_
  try simp only [thenQ]
  refine VW_seq ?_
  refine VW_block ?_
  refine VW_loop (σ := { x : Str // x.length ≤ 1000000 ∧ freeR l s = if x = [] then [] else (freeS l x).getD [] }) (fun x => ([(0, It.strs l), (1, .str x.1)], ⟨[], 0⟩)) (fun x => if x.1 = [] then 0 else cnt l x.1 + 1) ⟨s, hs, ?_⟩ ?_ ?_ ?_
  · rw [if_neg hsne]; unfold freeR nextFree; rw [if_pos hm]
  · simp only [Env.get, Nat.succ_ne_self, Env.le, Nat.reduceEqDiff, ite_true, ite_false, and_true, reduceCtorEq]
  · simp only [Heap.le, HL.le, Nat.le_refl, and_true]
  rintro ⟨t, htl, hfree⟩
  simp only [] at htl hfree ⊢
  refine VW_seq ?_
  refine VW_seqE (σ := { x : Bool // x = (t != [] && decide (t ∈ l)) }) [0, 1, 14] (fun x => [(0, It.strs l), (1, .str t), (14, .bool x.1)]) ?_ ?_
  · cases he : (t != [])
    · simp only [OpsW_nil, OpsW_n, OpsW_xt, StepW, pok, pval, VA.ev, Env.get, Env.put, Env.keep, pickV, isBool, binV, binOk, strV, Nat.succ_ne_self, Env.le, Nat.reduceEqDiff, Bool.false_eq_true, ite_true, ite_false, true_and, and_true, reduceCtorEq, he]
      exact ⟨⟨false, by simp⟩, rfl⟩
    · simp only [OpsW_nil, OpsW_n, OpsW_y, StepW, pok, pval, VA.ev, Env.get, Env.put, Env.keep, pickV, isBool, binV, binOk, strV, Nat.succ_ne_self, Env.le, List.map, Nat.reduceEqDiff, ite_true, ite_false, true_and, and_true, reduceCtorEq, he]
      refine ACall_p (sp_pandectref03_In l t hl) ?_
      try simp only [and_true]
      exact ⟨⟨decide (t ∈ l), by simp⟩, rfl⟩
  rintro ⟨x, hx⟩
  simp only []
  refine VW_cond rfl (fun h1 => ?_) (fun h1 => ?_)
  · obtain ⟨hne, htm⟩ : t ≠ [] ∧ t ∈ l := by
      rw [h1] at hx
      by_cases e : t = []
      · subst e; cases hx
      · refine ⟨e, ?_⟩
        cases h : decide (t ∈ l) with
        | true => exact of_decide_eq_true h
        | false => rw [h, Bool.and_false] at hx; cases hx
    rw [if_neg hne, free_in htm] at hfree
    refine VW_skip ?_
    try simp only [thenQ, Heap.le, HL.le, Env.le, and_true]
    refine VW_block ?_
    refine VW_region [0, 1] ?_
    simp only [OpsW_nil, OpsW_n, StepW, pok, pval, VA.ev, Env.get, Env.put, Env.keep, thenQ, blockQ, Nat.succ_ne_self, List.map, Nat.reduceEqDiff, ite_true, ite_false, true_and, reduceCtorEq]
    refine ACall_p (sp_pandectref03_Next t htl) ?_
    try simp only [Nat.le_refl, true_and]
    cases hn : nextS t with
    | none =>
      have e : nextR t = [] := by unfold nextR; rw [hn]; rfl
      rw [hn] at hfree
      rw [e]
      refine ⟨⟨[], Nat.zero_le _, by rw [hfree]; rfl⟩, ?_, ?_⟩
      · rfl
      · simp [hne]
    | some u =>
      have e : nextR t = u := by unfold nextR; rw [hn]; rfl
      rw [hn] at hfree
      obtain ⟨hul, hune⟩ := label_len' (next_some hn).2.1
      have := cnt_lt htm hn
      rw [e]
      refine ⟨⟨u, by omega, by rw [hfree, if_neg hune]; rfl⟩, ?_, ?_⟩
      · rfl
      · simpa [hne, hune] using this
  · refine VW_exit ?_
    try simp only [thenQ, blockQ, retQ, ite_true]
    refine VW_seq (VW_region [4] ?_)
    simp only [OpsW_nil, OpsW_n, StepW, pok, pval, VA.ev, Env.get, Env.put, Env.keep, thenQ, Nat.reduceEqDiff, ite_true, ite_false, true_and, reduceCtorEq]
    refine VW_ret ?_
    try simp only [Env.get, retQ, resV, resOk, RS.ev, RS.ok, ite_true, true_and, and_true]
    have : freeR l s = t := by
      rw [hfree]
      by_cases e : t = []
      · rw [if_pos e, e]
      · rw [if_neg e]
        have : ¬ t ∈ l := fun h => by rw [h1] at hx; simp [e, h] at hx
        rw [free_out this]; rfl
    rw [this]; exact View.refl _ _
def strR (l : List Str) : List (List PV) := l.map fun s => [.str s]
theorem strR_len (l : List Str) : (strR l).length = l.length := List.length_map _
theorem byte_ltr {i : Nat} (h : i < 26) : VM.byteOf [PV.int .u8 (IntKind.u8.wrap ((65 : Int) + i))] = ltr i := by
  show UInt8.ofNat (Int.toNat (IntKind.u8.wrap ((65 : Int) + i))) = ltr i
  have : IntKind.u8.wrap ((65 : Int) + i) = ((65 + i : Nat) : Int) := by simp [IntKind.wrap, IntKind.bits, IntKind.signed]; omega
  rw [this, Int.toNat_natCast]; rfl
theorem strR_take (l : List Str) : List.take l.length (strR l) = strR l := List.take_of_length_le (by rw [strR_len]; exact Nat.le_refl _)
theorem strR_app (l : List Str) (s : Str) : strR l ++ [[PV.str s]] = strR (l ++ [s]) := by simp [strR]
theorem sp_pandectref03_all (n : Nat) (hn : n ≤ 3) : PCall Tryd.prog 40 [pI n] (It.strs (allS n)) := by
  show PCall Tryd.prog 40 [pI n] (.sl 1 (strR (allS n)))
  have alen : ∀ k, k ≤ 3 → (allS k).length ≤ 17576 := fun k hk => by
    rw [all_len]
    exact Nat.le_trans (Nat.pow_le_pow_right (by omega) hk) (by decide)
  have slen : ∀ k (r : Str), r ∈ allS k → r.length = k := fun k r hr => ((mem_all k r).1 hr).2
  refine PCall_intro ?_ (closed_strs (allS n)) (by simp only [ClosedL, List.mem_cons, List.not_mem_nil, or_false, forall_eq_or_imp, forall_eq, false_implies, implies_true]; repeat' (first | exact cI _ | exact cS _ | exact cB _ | exact closed_fn0 _ | exact closed_nilsl | exact closed_agg (Un.closed _) | exact closed_agg (It.closed _) | exact closed_agg (EI.closed _) | exact closed_agg (Ac.closed _) | exact closed_agg (Wd.closed _) | exact closed_agg (St.closed _) | exact closed_agg (Sta.closed _) | exact closed_eis _ | exact closed_acs _ | exact closed_gzs _ | exact Closed.of_scalar (scalar_int _ _) | exact closed_ro (Ac.closed _) | exact closed_ro (Gz.closed _) | exact closed_agg (Gz.closed _) | exact closed_strs _ | exact closed_map (fun w _ => Wd.closed w) | exact closed_map (fun w _ => St.closed w) | exact closed_map (fun w _ => Un.closed w) | exact closed_map (fun w _ => It.closed w) | exact closed_sc _ | exact closed_sps _ | exact closed_agg (Sp.closed _) | exact closed_ro (EI.closed _) | exact closed_ro (Sta.closed _) | exact closed_ro (It.closed _) | exact closed_ro (by simp only [List.mem_cons, List.not_mem_nil, or_false, forall_eq]; first | exact cI _ | exact cS _ | exact closed_eis _) | refine And.intro ?_ ?_))
  refine ACall_fn (vc := c_pandectref03_all) (ts := [.t 2]) Go.Proofs.Tryd.func40 (by kernel_rfl) rfl rfl (Nat.le_of_ble_eq_true rfl) (by kernel_rfl) ?_
  unfold c_pandectref03_all
  refine VW_seq (VW_region [0] ?_)
  simp only [OpsW_nil, OpsW_n, StepW, pok, pval, VA.ev, Env.get, Env.put, Env.keep, argEnv, thenQ, Heap.nil, ite_true, ite_false, true_and, reduceCtorEq]
  refine VW_seq (VW_region [0, 3] ?_)
  simp only [OpsW_nil, OpsW_n, StepW, pok, pval, VA.ev, Env.get, Env.put, Env.keep, thenQ, PV.cells, PV.fits, Heap.push, elemsV, elemsOk, List.set, List.replicate, Nat.reduceEqDiff, Nat.reduceLT, ite_true, ite_false, true_and, and_true, reduceCtorEq, BEq.rfl, Nat.zero_add]
  refine VW_seq ?_
  refine VW_seq (VW_region [0, 3, 4] ?_)
  simp only [OpsW_nil, OpsW_n, StepW, pok, pval, VA.ev, Env.get, Env.put, Env.keep, thenQ, Nat.succ_ne_self, Nat.reduceEqDiff, ite_true, ite_false, true_and, reduceCtorEq]
  refine VW_block ?_
  refine VW_loop (σ := { x : Nat × Nat × Nat // x.1 ≤ n ∧ x.2.1 < x.2.2 }) (fun x => ([(0, pI n), (3, .own x.1.2.1 0 (allS x.1.1).length), (4, pI x.1.1)], ⟨[(x.1.2.1, .arr false 1 (strR (allS x.1.1)))], x.1.2.2⟩)) (fun x => n - x.1.1) ⟨(0, 0, 1), Nat.zero_le _, by simp⟩ ?_ ?_ ?_
  · simp only [Env.get, Nat.succ_ne_self, Env.le, List.length, Nat.reduceEqDiff, ite_true, ite_false, true_and, and_true, reduceCtorEq, Nat.zero_add, List.length_cons, allS]
    rfl
  · simp only [Heap.get, Heap.le, HL.get, HL.le, Nat.le_refl, ite_true, true_and, and_true, Option.some.injEq, allS]
    rfl
  rintro ⟨⟨k, id, t⟩, hk, hid⟩
  simp only [] at hk hid ⊢
  refine VW_seq ?_
  refine VW_seq (VW_region [0, 3, 4, 11] ?_)
  simp only [OpsW_nil, OpsW_n, StepW, pok, pval, VA.ev, Env.get, Env.put, Env.keep, thenQ, intV, binV, binOk, Heap.get, Heap.le, HL.le, Nat.succ_ne_self, Env.le, Nat.reduceEqDiff, ite_true, ite_false, true_and, and_true, reduceCtorEq]
  refine VW_cond rfl (fun h1 => ?_) (fun h1 => ?_)
  · have hk' : k < n := by simp only [decide_eq_true_eq] at h1; omega
    have hal := alen k (by omega)
    refine VW_freeze [(0, pI n), (3, .sl 1 (strR (allS k))), (4, pI k)] ⟨View.refl _ _, View.own_all (fz := false) (by simp [Heap.get, HL.get]) (by rw [strR_len]), View.refl _ _, trivial⟩ ?_
    refine VW_skip ?_
    try simp only [thenQ]
    refine VW_seq ?_
    refine VW_block ?_
    refine VW_seq (VW_region [0, 3, 4, 5] ?_)
    simp only [OpsW_nil, OpsW_n, StepW, pok, pval, VA.ev, Env.get, Env.put, Env.keep, thenQ, Heap.push, Nat.succ_ne_self, fxV, fxOk, List.map, Nat.reduceEqDiff, ite_true, ite_false, true_and, reduceCtorEq]
    refine VW_seq ?_
    refine VW_seq (VW_region [0, 3, 4, 5, 6] ?_)
    simp only [OpsW_nil, OpsW_n, StepW, pok, pval, VA.ev, Env.get, Env.put, Env.keep, thenQ, Nat.succ_ne_self, Nat.reduceEqDiff, ite_true, ite_false, true_and, reduceCtorEq]
    refine VW_block ?_
    refine VW_loop (σ := { x : Nat × Nat × Nat // x.1 ≤ (allS k).length ∧ x.2.1 < x.2.2 }) (fun x => ([(0, pI n), (3, .sl 1 (strR (allS k))), (4, pI k), (5, .own x.1.2.1 0 (((allS k).take x.1.1).flatMap rowS).length), (6, pI x.1.1)], ⟨[(x.1.2.1, .arr false 1 (strR (((allS k).take x.1.1).flatMap rowS)))], x.1.2.2⟩)) (fun x => (allS k).length - x.1.1) ⟨(0, t, t + 1), Nat.zero_le _, by simp⟩ ?_ ?_ ?_
    · simp only [Env.get, Nat.succ_ne_self, Env.le, List.take, Nat.reduceEqDiff, ite_true, ite_false, true_and, and_true, reduceCtorEq]
      exact ⟨rfl, rfl⟩
    · simp only [Heap.get, Heap.le, HL.get, HL.le, Nat.le_refl, List.take, ite_true, true_and, and_true, Option.some.injEq]
      rfl
    rintro ⟨⟨j, id, t⟩, hj, hid⟩
    simp only [] at hj hid ⊢
    refine VW_seq ?_
    refine VW_seq (VW_region [0, 3, 4, 5, 6, 18] ?_)
    simp only [OpsW_nil, OpsW_n, StepW, pok, pval, VA.ev, Env.get, Env.put, Env.keep, thenQ, intV, binV, binOk, lenV, lenOk, Heap.get, Heap.le, HL.le, Nat.succ_ne_self, Env.le, Nat.reduceEqDiff, ite_true, ite_false, true_and, and_true, reduceCtorEq, strR_len]
    refine VW_cond rfl (fun h2 => ?_) (fun h2 => ?_)
    · have ja : j < (allS k).length := by simp only [decide_eq_true_eq] at h2; omega
      have hrl := slen k _ (List.getElem_mem ja)
      have hrow : (strR (allS k)).getD j [] = [PV.str (allS k)[j]] := rowm ja
      have hflat : ((allS k).take (j + 1)).flatMap rowS = ((allS k).take j).flatMap rowS ++ rowS (allS k)[j] := by
        rw [List.take_add_one, List.getElem?_eq_getElem ja, List.flatMap_append]; simp
      have hfl : (((allS k).take j).flatMap rowS).length ≤ 26 * 17576 := by
        rw [List.length_flatMap]
        have : ((allS k).take j).map (fun a => (rowS a).length) = List.replicate j 26 := by
          rw [List.eq_replicate_iff]
          refine ⟨by simp; omega, fun b hb => ?_⟩
          obtain ⟨r, _, rfl⟩ := List.mem_map.1 hb
          simp [rowS]
        rw [this]
        have hs : ∀ m : Nat, (List.replicate m 26).sum = m * 26 := fun m => by
          induction m with
          | zero => rfl
          | succ m ih => rw [List.replicate_succ, List.sum_cons, ih]; omega
        rw [hs]; omega
      generalize ((allS k).take j).flatMap rowS = F at hflat hfl ⊢
      generalize (allS k)[j] = r at hrl hrow hflat
      refine VW_skip ?_
      try simp only [thenQ]
      refine VW_seq ?_
      refine VW_block ?_
      refine VW_seq (VW_region [0, 3, 4, 5, 6, 7] ?_)
      simp only [OpsW_nil, OpsW_n, StepW, pok, pval, VA.ev, Env.get, Env.put, Env.keep, thenQ, Nat.succ_ne_self, Nat.reduceEqDiff, ite_true, ite_false, true_and, reduceCtorEq]
      refine VW_block ?_
      refine VW_loop (σ := { x : Nat × Nat × Nat // x.1 ≤ 26 ∧ x.2.1 < x.2.2 }) (fun x => ([(0, pI n), (3, .sl 1 (strR (allS k))), (4, pI k), (5, .own x.1.2.1 0 (F ++ (List.range x.1.1).map fun i => r ++ [ltr i]).length), (6, pI j), (7, pI (65 + x.1.1))], ⟨[(x.1.2.1, .arr false 1 (strR (F ++ (List.range x.1.1).map fun i => r ++ [ltr i])))], x.1.2.2⟩)) (fun x => 26 - x.1.1) ⟨(0, id, t), Nat.zero_le _, hid⟩ ?_ ?_ ?_
      · simp only [Env.get, Nat.succ_ne_self, Env.le, Nat.reduceEqDiff, ite_true, ite_false, true_and, and_true, reduceCtorEq, List.range_zero, List.map_nil, List.append_nil]
        rfl
      · simp only [Heap.get, Heap.le, HL.get, HL.le, Nat.le_refl, ite_true, and_true, List.range_zero, List.map_nil, List.append_nil]
      rintro ⟨⟨i, id, t⟩, hi, hid⟩
      simp only [] at hi hid ⊢
      refine VW_seq ?_
      refine VW_seq (VW_region [0, 3, 4, 5, 6, 7, 22] ?_)
      simp only [OpsW_nil, OpsW_n, StepW, pok, pval, VA.ev, Env.get, Env.put, Env.keep, thenQ, intV, binV, binOk, Heap.get, Heap.le, HL.le, Nat.succ_ne_self, Env.le, Nat.reduceEqDiff, ite_true, ite_false, true_and, and_true, reduceCtorEq]
      refine VW_cond rfl (fun h3 => ?_) (fun h3 => ?_)
      · have ia : i < 26 := by simp only [decide_eq_true_eq] at h3; omega
        have hb := byte_ltr ia
        have hG : (F ++ (List.range i).map fun i => r ++ [ltr i]) ++ [r ++ [ltr i]] = F ++ (List.range (i + 1)).map fun i => r ++ [ltr i] := by
          rw [List.range_succ, List.map_append, ← List.append_assoc]; rfl
        have hGl : (F ++ (List.range i).map fun i => r ++ [ltr i]).length ≤ 500000 := by simp; omega
        generalize (F ++ (List.range i).map fun i => r ++ [ltr i]) = G at hG hGl ⊢
        have hgt := strR_take G
        have hgl := strR_len G
        have hga := strR_app G (r ++ [ltr i])
        refine VW_skip ?_
        try simp only [thenQ]
        refine VW_seq ?_
        refine VW_block ?_
        have qi0 : (id = t) = False := by simp; omega
        have qi1 : (t = id) = False := by simp; omega
        have qi2 : ∀ j, (t + j = id) = False := fun j => by simp; try omega
        have qi3 : ∀ j, (id = t + j) = False := fun j => by simp; try omega
        have qi4 : ∀ j, (t + (j + 1) = t) = False := fun j => by simp; try omega
        have qi5 : ∀ j, (t = t + (j + 1)) = False := fun j => by simp; try omega
        have qi6 : (t + 1 + 1 = t) = False := by simp; try omega
        have qi7 : (t = t + 1 + 1) = False := by simp; try omega
        have qi8 : (t + 1 + 1 + 1 = t) = False := by simp; try omega
        have qi9 : (t = t + 1 + 1 + 1) = False := by simp; try omega
        refine VW_draw2E (t + 10) [0, 3, 4, 5, 6, 7] (by simp) ?_
        simp only [StepW, DrawW_nil, DrawW_n, QW, dok, dval, VOp.pure, VOp.simple, VOp.det, pok, pval, VA.ev, Env.get, Env.put, Env.keep, thenQ, blockQ, gd, aggV, binV, binOk, strV, convV, isInt, numOf, lenV, locCells, locOk, iaddrV, iaddrOk, PV.cells, PV.fits, PV.nth, PV.row, Heap.get, Heap.del, Heap.le, HL.get, HL.del, HL.le, Heap.push, Nat.le_refl, Nat.succ_ne_self, killed, oldId, oldRows, oldOk, srcRows, srcOk, elemsV, elemsOk, pxV, pxOk, List.map, List.set, List.replicate, List.length, List.getD_cons_zero, List.take, List.drop, List.take_succ_cons, Nat.reduceEqDiff, Nat.reduceLT, Nat.reduceLeDiff, Bool.false_eq_true, ite_true, ite_false, true_and, and_true, implies_true, forall_const, reduceCtorEq, BEq.rfl, Nat.zero_add, List.length_cons, Int.toNat_natCast, strR_len, hrow, bytesOk, isByte, byteRows, hb, hgt, hgl, hga, qi0, qi1, qi2, qi3, qi4, qi5, qi6, qi7, qi8, qi9]
        refine ⟨⟨by omega, by omega⟩, fun r hr => by rw [List.mem_singleton] at hr; subst hr; trivial, by omega, by omega, by omega, by omega, ?_⟩
        refine VW_region [0, 3, 4, 5, 6, 7] ?_
        simp only [OpsW_nil, OpsW_n, StepW, pok, pval, VA.ev, Env.get, Env.put, Env.keep, thenQ, intV, binV, binOk, HL.get, Nat.succ_ne_self, Nat.reduceEqDiff, ite_true, ite_false, true_and, reduceCtorEq, w64 (n := (65 : Int) + i + 1) (by omega) (by omega), qi0, qi1, qi2, qi3, qi4, qi5, qi6, qi7, qi8, qi9]
        refine ⟨⟨(i + 1, t, t + 1), ia, by simp⟩, ?_⟩
        have hG' : G.length + 1 = (F ++ List.map (fun i => r ++ [ltr i]) (List.range (i + 1))).length := by rw [← hG]; simp
        rw [← hG', ← hG]
        have e65 : (65 : Int) + i + 1 = 65 + ((i + 1 : Nat) : Int) := by omega
        rw [e65]
        simp only [Nat.le_refl, ite_true, true_and, and_true, qi0, qi1, qi2, qi3, qi4, qi5, qi6, qi7, qi8, qi9]
        omega
      · have hi26 : i = 26 := by simp only [decide_eq_false_iff_not] at h3; omega
        subst hi26
        refine VW_exit ?_
        try simp only [thenQ, blockQ, retQ, Nat.succ_ne_self, Nat.reduceEqDiff, ite_true, ite_false, reduceCtorEq]
        refine VW_region [0, 3, 4, 5, 6] ?_
        simp only [OpsW_nil, OpsW_n, StepW, pok, pval, VA.ev, Env.get, Env.put, Env.keep, thenQ, intV, binV, binOk, HL.get, Nat.succ_ne_self, Nat.reduceEqDiff, ite_true, ite_false, true_and, reduceCtorEq, w64 (n := (j : Int) + 1) (by omega) (by omega)]
        refine ⟨⟨(j + 1, id, t), ja, hid⟩, ?_⟩
        simp only [hflat]
        simp only [Nat.le_refl, ite_true, true_and, and_true, rowS]
        exact ⟨rfl, by omega⟩
    · have hj' : j = (allS k).length := by simp only [decide_eq_false_iff_not] at h2; omega
      subst hj'
      have hal2 : ((allS k).take (allS k).length).flatMap rowS = allS (k + 1) := by rw [List.take_length]; rfl
      rw [hal2]
      refine VW_exit ?_
      try simp only [thenQ, blockQ, retQ, Nat.succ_ne_self, ite_true, ite_false, reduceCtorEq]
      refine VW_region [0, 3, 4] ?_
      simp only [OpsW_nil, OpsW_n, StepW, pok, pval, VA.ev, Env.get, Env.put, Env.keep, thenQ, blockQ, Nat.succ_ne_self, Nat.reduceEqDiff, ite_true, ite_false, true_and, reduceCtorEq]
      refine VW_region [0, 3, 4] ?_
      simp only [OpsW_nil, OpsW_n, StepW, pok, pval, VA.ev, Env.get, Env.put, Env.keep, thenQ, intV, binV, binOk, HL.get, Nat.succ_ne_self, Nat.reduceEqDiff, ite_true, ite_false, true_and, reduceCtorEq, w64 (n := (k : Int) + 1) (by omega) (by omega)]
      refine ⟨⟨(k + 1, id, t), hk', hid⟩, ?_⟩
      simp only [Nat.le_refl, ite_true, true_and, and_true]
      exact ⟨rfl, by omega⟩
  · have hk' : k = n := by simp only [decide_eq_false_iff_not] at h1; omega
    subst hk'
    refine VW_exit ?_
    try simp only [thenQ, blockQ, retQ, ite_true]
    refine VW_seq (VW_region [2] ?_)
    simp only [OpsW_nil, OpsW_n, StepW, pok, pval, VA.ev, Env.get, Env.put, Env.keep, thenQ, Nat.succ_ne_self, Nat.reduceEqDiff, ite_true, ite_false, true_and, reduceCtorEq]
    refine VW_ret ?_
    try simp only [Env.get, retQ, resV, resOk, RS.ev, RS.ok, ite_true, true_and, and_true]
    exact View.own_all (fz := false) (by simp [Heap.get, HL.get]) (by rw [strR_len])
noncomputable def betR (a b : Str) : Str := (between a b).getD []
theorem sp_pandectref03_Between (a b : Str) (ha : a.length ≤ 1000000) (hb : b.length ≤ 1000000) : PCall Tryd.prog 20 [.str a, .str b] (.str (betR a b)) := by
  have A := sp_pandectref03_May a ha
  have B := sp_pandectref03_May b hb
  have SA := sp_pandectref03_Split a ha
  refine PCall_intro ?_ (cS _) (by simp only [ClosedL, List.mem_cons, List.not_mem_nil, or_false, forall_eq_or_imp, forall_eq, false_implies, implies_true]; repeat' (first | exact cI _ | exact cS _ | exact cB _ | exact closed_fn0 _ | exact closed_nilsl | exact closed_agg (Un.closed _) | exact closed_agg (It.closed _) | exact closed_agg (EI.closed _) | exact closed_agg (Ac.closed _) | exact closed_agg (Wd.closed _) | exact closed_agg (St.closed _) | exact closed_agg (Sta.closed _) | exact closed_eis _ | exact closed_acs _ | exact closed_gzs _ | exact Closed.of_scalar (scalar_int _ _) | exact closed_ro (Ac.closed _) | exact closed_ro (Gz.closed _) | exact closed_agg (Gz.closed _) | exact closed_strs _ | exact closed_map (fun w _ => Wd.closed w) | exact closed_map (fun w _ => St.closed w) | exact closed_map (fun w _ => Un.closed w) | exact closed_map (fun w _ => It.closed w) | exact closed_sc _ | exact closed_sps _ | exact closed_agg (Sp.closed _) | exact closed_ro (EI.closed _) | exact closed_ro (Sta.closed _) | exact closed_ro (It.closed _) | exact closed_ro (by simp only [List.mem_cons, List.not_mem_nil, or_false, forall_eq]; first | exact cI _ | exact cS _ | exact closed_eis _) | refine And.intro ?_ ?_))
  refine ACall_fn (vc := c_pandectref03_Between) (ts := [.t 4]) Go.Proofs.Tryd.func20 (by kernel_rfl) rfl rfl (Nat.le_of_ble_eq_true rfl) (by kernel_rfl) ?_
  unfold c_pandectref03_Between
  refine VW_seq (VW_region [0, 1] ?_)
  simp only [OpsW_nil, OpsW_n, StepW, pok, pval, VA.ev, Env.get, Env.put, Env.keep, argEnv, thenQ, Heap.nil, Nat.succ_ne_self, Nat.reduceEqDiff, ite_true, ite_false, true_and, reduceCtorEq, Nat.zero_add]
  refine VW_seq ?_
  refine VW_seqE (σ := { x : Bool // x = !(may a && may b) }) [0, 1, 19] (fun x => [(0, .str a), (1, .str b), (19, .bool x.1)]) ?_ ?_
  · cases hma : may a <;> rw [hma] at A
    · simp only [OpsW_n, StepW, pok, pval, VA.ev, Env.get, Env.put, Env.keep, unV, unOk, Nat.succ_ne_self, Env.le, List.map, Nat.reduceEqDiff, ite_true, ite_false, true_and, and_true, reduceCtorEq]
      refine ACall_p A ?_
      try simp only [OpsW_nil, OpsW_n, OpsW_xf, StepW, pok, pval, VA.ev, Env.get, Env.put, pickV, isBool, Nat.succ_ne_self, Nat.reduceEqDiff, ite_true, ite_false, true_and, and_true, reduceCtorEq, Bool.not_false]
      exact ⟨⟨true, rfl⟩, rfl⟩
    · simp only [OpsW_n, StepW, pok, pval, VA.ev, Env.get, Env.put, Env.keep, unV, unOk, Nat.succ_ne_self, Env.le, List.map, Nat.reduceEqDiff, ite_true, ite_false, true_and, and_true, reduceCtorEq]
      refine ACall_p A ?_
      try simp only [OpsW_nil, OpsW_n, OpsW_y, StepW, pok, pval, VA.ev, Env.get, Env.put, pickV, isBool, unV, unOk, Nat.succ_ne_self, List.map, Nat.reduceEqDiff, Bool.false_eq_true, ite_true, ite_false, true_and, reduceCtorEq, Bool.not_true]
      refine ACall_p B ?_
      try simp only [true_and, and_true]
      exact ⟨⟨!(may b), by simp⟩, rfl⟩
  rintro ⟨x, hx⟩
  simp only []
  refine VW_cond rfl (fun h1 => ?_) (fun h1 => ?_)
  · refine VW_seq (VW_region [4] ?_)
    simp only [OpsW_nil, OpsW_n, StepW, pok, pval, VA.ev, Env.get, Env.put, Env.keep, thenQ, Nat.reduceEqDiff, ite_true, ite_false, true_and, reduceCtorEq]
    refine VW_ret ?_
    try simp only [Env.get, thenQ, retQ, resV, resOk, RS.ev, RS.ok, ite_true, true_and, and_true]
    have e : betR a b = [] := by
      unfold betR between; rw [if_neg]
      · rfl
      rintro ⟨h2, h3⟩; rw [h1, h2, h3] at hx; cases hx
    rw [e]; exact View.refl _ _
  have hma : may a = true := by cases h : may a; rw [h, h1] at hx; cases hx; rfl
  have hmb : may b = true := by cases h : may b; rw [h, h1] at hx; simp at hx; rfl
  have hn := num_le hma
  have ena : splitN a = (num a : Int) := by simp [splitN, hma]
  rw [ena] at SA
  refine VW_skip ?_
  try simp only [thenQ]
  refine VW_seq (VW_region [0, 1, 5] ?_)
  simp only [OpsW_nil, OpsW_n, StepW, pok, pval, VA.ev, Env.get, Env.put, Env.keep, thenQ, extV, extOk, PV.nth, Nat.succ_ne_self, List.map, Nat.reduceEqDiff, ite_true, ite_false, true_and, reduceCtorEq]
  refine ACall_p SA ?_
  try simp only [List.length, List.getD_cons_zero, Nat.reduceAdd, Nat.reduceLT, true_and, Nat.zero_add]
  refine VW_seq ?_
  refine VW_seq (VW_region [0, 1, 5, 7] ?_)
  simp only [OpsW_nil, OpsW_n, StepW, pok, pval, VA.ev, Env.get, Env.put, Env.keep, thenQ, Nat.succ_ne_self, Nat.reduceEqDiff, ite_true, ite_false, true_and, reduceCtorEq]
  refine VW_block ?_
  refine VW_loop (σ := { k : Nat // k ≤ 4 ∧ ∀ k', k' < k → ∀ m, (m = num a ∨ m = num a + 1) → m ≤ 9999 → ∀ d ∈ allS k', ¬ hits a b (text m d) }) (fun x => ([(0, .str a), (1, .str b), (5, pI (num a)), (7, pI x.1)], ⟨[], 0⟩)) (fun x => 4 - x.1) ⟨0, by omega, fun k' h => by cases h⟩ ?_ ?_ ?_
  · simp only [Env.get, Nat.succ_ne_self, Env.le, Nat.reduceEqDiff, ite_true, ite_false, true_and, and_true, reduceCtorEq]
    rfl
  · simp only [Heap.le, HL.le, Nat.le_refl, and_true]
  rintro ⟨k, hk, hno1⟩
  simp only []
  refine VW_seq ?_
  refine VW_seq (VW_region [0, 1, 5, 7, 26] ?_)
  simp only [OpsW_nil, OpsW_n, StepW, pok, pval, VA.ev, Env.get, Env.put, Env.keep, thenQ, intV, binV, binOk, Heap.le, HL.le, Nat.succ_ne_self, Env.le, Nat.reduceEqDiff, ite_true, ite_false, true_and, and_true, reduceCtorEq]
  refine VW_cond rfl (fun h2 => ?_) (fun h2 => ?_)
  · have hk3 : k ≤ 3 := by simp only [decide_eq_true_eq] at h2; omega
    have hal : (allS k).length ≤ 17576 := by
      rw [all_len]
      exact Nat.le_trans (Nat.pow_le_pow_right (by omega) hk3) (by decide)
    refine VW_skip ?_
    try simp only [thenQ]
    refine VW_seq ?_
    refine VW_block ?_
    refine VW_seq (VW_region [0, 1, 5, 7, 8] ?_)
    simp only [OpsW_nil, OpsW_n, StepW, pok, pval, VA.ev, Env.get, Env.put, Env.keep, thenQ, Nat.succ_ne_self, List.map, Nat.reduceEqDiff, ite_true, ite_false, true_and, reduceCtorEq]
    refine ACall_p (sp_pandectref03_all k hk3) ?_
    try simp only [It.strs]
    refine VW_seq (VW_region [0, 1, 5, 7, 8, 9] ?_)
    simp only [OpsW_nil, OpsW_n, StepW, pok, pval, VA.ev, Env.get, Env.put, Env.keep, thenQ, Nat.succ_ne_self, Nat.reduceEqDiff, ite_true, ite_false, true_and, reduceCtorEq]
    refine VW_block ?_
    refine VW_loop (σ := { m : Nat // num a ≤ m ∧ m ≤ num a + 2 ∧ m ≤ 10000 ∧ ∀ m', num a ≤ m' → m' < m → ∀ d ∈ allS k, ¬ hits a b (text m' d) }) (fun x => ([(0, .str a), (1, .str b), (5, pI (num a)), (7, pI k), (8, .sl 1 ((allS k).map fun s => [.str s])), (9, pI x.1)], ⟨[], 0⟩)) (fun x => num a + 2 - x.1) ⟨num a, by omega, by omega, by omega, fun m' h1 h2 => by omega⟩ ?_ ?_ ?_
    · simp only [Env.get, Nat.succ_ne_self, Env.le, Nat.reduceEqDiff, ite_true, ite_false, and_true, reduceCtorEq]
    · simp only [Heap.le, HL.le, Nat.le_refl, and_true]
    rintro ⟨m, hm1, hm2, hm3, hno2⟩
    simp only []
    refine VW_seq ?_
    refine VW_seqE (σ := { x : Bool // x = decide (m ≤ num a + 1 ∧ m ≤ 9999) }) [0, 1, 5, 7, 8, 9, 39] (fun x => [(0, .str a), (1, .str b), (5, pI (num a)), (7, pI k), (8, .sl 1 ((allS k).map fun s => [.str s])), (9, pI m), (39, .bool x.1)]) ?_ ?_
    · have e1 : IntKind.i64.wrap ((num a : Int) + 1) = ((num a + 1 : Nat) : Int) := by rw [w64 (by omega) (by omega)]; omega
      by_cases c1 : m ≤ num a + 1
      · have e2 : decide ((m : Int) ≤ ((num a + 1 : Nat) : Int)) = true := by simp only [decide_eq_true_eq]; omega
        simp only [OpsW_nil, OpsW_n, OpsW_y, StepW, pok, pval, VA.ev, Env.get, Env.put, Env.keep, pickV, isBool, intV, binV, binOk, Nat.succ_ne_self, Env.le, Nat.reduceEqDiff, ite_true, ite_false, true_and, and_true, reduceCtorEq, e1, e2]
        refine ⟨⟨decide ((m : Int) ≤ 9999), ?_⟩, rfl⟩
        by_cases c2 : m ≤ 9999
        · rw [decide_eq_true (show m ≤ num a + 1 ∧ m ≤ 9999 from ⟨c1, c2⟩), decide_eq_true (by omega)]
        · rw [decide_eq_false (show ¬ (m ≤ num a + 1 ∧ m ≤ 9999) from fun h => c2 h.2), decide_eq_false (by omega)]
      · have e2 : decide ((m : Int) ≤ ((num a + 1 : Nat) : Int)) = false := by simp only [decide_eq_false_iff_not]; omega
        simp only [OpsW_nil, OpsW_n, OpsW_xt, StepW, pok, pval, VA.ev, Env.get, Env.put, Env.keep, pickV, isBool, intV, binV, binOk, Nat.succ_ne_self, Env.le, Nat.reduceEqDiff, Bool.false_eq_true, ite_true, ite_false, true_and, and_true, reduceCtorEq, e1, e2]
        exact ⟨⟨false, by rw [decide_eq_false (show ¬ (m ≤ num a + 1 ∧ m ≤ 9999) from fun h => c1 h.1)]⟩, rfl⟩
    rintro ⟨x2, hx2⟩
    simp only []
    refine VW_cond rfl (fun h3 => ?_) (fun h3 => ?_)
    · obtain ⟨c1, c2⟩ : m ≤ num a + 1 ∧ m ≤ 9999 := of_decide_eq_true (by rw [← hx2]; exact h3)
      refine VW_skip ?_
      try simp only [thenQ, Heap.le, HL.le, Env.le, and_true]
      refine VW_seq ?_
      refine VW_block ?_
      refine VW_seq (VW_region [0, 1, 5, 7, 8, 9, 10] ?_)
      simp only [OpsW_nil, OpsW_n, StepW, pok, pval, VA.ev, Env.get, Env.put, Env.keep, thenQ, Nat.succ_ne_self, Nat.reduceEqDiff, ite_true, ite_false, true_and, reduceCtorEq]
      refine VW_block ?_
      refine VW_loop (σ := { i : Nat // i ≤ (allS k).length ∧ ∀ (j : Nat) (hj : j < (allS k).length), j < i → ¬ hits a b (text m (allS k)[j]) }) (fun x => ([(0, .str a), (1, .str b), (5, pI (num a)), (7, pI k), (8, .sl 1 ((allS k).map fun s => [.str s])), (9, pI m), (10, pI x.1)], ⟨[], 0⟩)) (fun x => (allS k).length - x.1) ⟨0, Nat.zero_le _, fun j _ h => by cases h⟩ ?_ ?_ ?_
      · simp only [Env.get, Nat.succ_ne_self, Env.le, Nat.reduceEqDiff, ite_true, ite_false, true_and, and_true, reduceCtorEq]
        rfl
      · simp only [Heap.le, HL.le, Nat.le_refl, and_true]
      rintro ⟨i, hi, hno3⟩
      simp only []
      refine VW_seq ?_
      refine VW_seq (VW_region [0, 1, 5, 7, 8, 9, 10, 45] ?_)
      simp only [OpsW_nil, OpsW_n, StepW, pok, pval, VA.ev, Env.get, Env.put, Env.keep, thenQ, intV, binV, binOk, lenV, lenOk, Heap.le, HL.le, Nat.succ_ne_self, Env.le, Nat.reduceEqDiff, ite_true, ite_false, true_and, and_true, reduceCtorEq, List.length_map]
      refine VW_cond rfl (fun h4 => ?_) (fun h4 => ?_)
      · have ia : i < (allS k).length := by simp only [decide_eq_true_eq] at h4; omega
        obtain ⟨q1, q2⟩ := (mem_all k (allS k)[i]).1 (List.getElem_mem ia)
        have htl : (text m (allS k)[i]).length ≤ 1000000 := by
          have := decDigits_four c2
          unfold text; rw [List.length_append]; omega
        refine VW_skip ?_
        try simp only [thenQ]
        refine VW_seq ?_
        refine VW_block ?_
        refine VW_seq (VW_region [0, 1, 5, 7, 8, 9, 10, 11] ?_)
        simp only [OpsW_nil, OpsW_n, StepW, pok, pval, VA.ev, Env.get, Env.put, Env.keep, thenQ, aggV, isInt, numOf, lenV, locCells, locOk, iaddrV, iaddrOk, PV.nth, PV.row, Nat.le_refl, Nat.succ_ne_self, List.map, List.length, List.getD_cons_zero, List.take, List.take_succ_cons, Nat.reduceEqDiff, Bool.false_eq_true, ite_true, ite_false, true_and, and_true, implies_true, reduceCtorEq, Nat.zero_add, List.length_cons, Int.toNat_natCast, List.length_map, rowm ia]
        refine ⟨⟨by omega, by omega⟩, ?_⟩
        refine ACall_p (sp_pandectref03_text m _ (by omega) (by omega)) ?_
        skip
        have hits_iff : hits a b (text m (allS k)[i]) ↔ cmpL a (text m (allS k)[i]) < 0 ∧ cmpL (text m (allS k)[i]) b < 0 := Iff.rfl
        have found := fun hs => search_found hma hmb hk3 (show m = num a ∨ m = num a + 1 by omega) c2 ia hno1 hno2 (fun j hj => hno3 j (by omega) hj) hs
        generalize hT : text m (allS k)[i] = T at htl hits_iff found ⊢
        refine VW_seqE (σ := { x : Bool // x = true ↔ hits a b T }) [0, 1, 5, 7, 8, 9, 10, 11, 63] (fun x => [(0, .str a), (1, .str b), (5, pI (num a)), (7, pI k), (8, .sl 1 ((allS k).map fun s => [.str s])), (9, pI m), (10, pI i), (11, .str T), (63, .bool x.1)]) ?_ ?_
        · by_cases d1 : cmpL a T < 0
          · have e1 : decide (cmpL a T < 0) = true := decide_eq_true d1
            simp only [OpsW_n, StepW, pok, pval, VA.ev, Env.get, Env.put, Env.keep, intV, binV, binOk, strV, Nat.succ_ne_self, Env.le, List.map, Nat.reduceEqDiff, ite_true, ite_false, true_and, and_true, reduceCtorEq]
            refine ACall_p (sp_pandectref03_Compare a T ha htl) ?_
            try simp only [OpsW_nil, OpsW_n, OpsW_y, StepW, pok, pval, VA.ev, Env.get, Env.put, pickV, isBool, intV, binV, binOk, strV, Nat.succ_ne_self, List.map, Nat.reduceEqDiff, ite_true, ite_false, true_and, reduceCtorEq, e1]
            refine ACall_p (sp_pandectref03_Compare T b htl hb) ?_
            try simp only [true_and, and_true]
            exact ⟨⟨decide (cmpL T b < 0), by rw [hits_iff]; simp [d1]⟩, rfl⟩
          · have e1 : decide (cmpL a T < 0) = false := decide_eq_false d1
            simp only [OpsW_n, StepW, pok, pval, VA.ev, Env.get, Env.put, Env.keep, intV, binV, binOk, strV, Nat.succ_ne_self, Env.le, List.map, Nat.reduceEqDiff, ite_true, ite_false, true_and, and_true, reduceCtorEq]
            refine ACall_p (sp_pandectref03_Compare a T ha htl) ?_
            try simp only [OpsW_nil, OpsW_n, OpsW_xt, StepW, pok, pval, VA.ev, Env.get, Env.put, pickV, isBool, Nat.succ_ne_self, Nat.reduceEqDiff, Bool.false_eq_true, ite_true, ite_false, true_and, and_true, reduceCtorEq, e1]
            exact ⟨⟨false, by rw [hits_iff]; simp [d1]⟩, rfl⟩
        rintro ⟨x3, hx3⟩
        simp only []
        refine VW_cond rfl (fun h5 => ?_) (fun h5 => ?_)
        · refine VW_seq (VW_region [4] ?_)
          simp only [OpsW_nil, OpsW_n, StepW, pok, pval, VA.ev, Env.get, Env.put, Env.keep, thenQ, Nat.succ_ne_self, Nat.reduceEqDiff, ite_true, ite_false, true_and, reduceCtorEq]
          refine VW_ret ?_
          try simp only [Env.get, thenQ, blockQ, retQ, resV, resOk, RS.ev, RS.ok, ite_true, true_and, and_true]
          have e : betR a b = T := by unfold betR; rw [found (hx3.1 h5)]; rfl
          rw [e]; exact View.refl _ _
        refine VW_skip ?_
        try simp only [thenQ, blockQ]
        have hnoT : ¬ hits a b T := fun h => by rw [hx3.2 h] at h5; cases h5
        refine VW_region [0, 1, 5, 7, 8, 9, 10] ?_
        simp only [OpsW_nil, OpsW_n, StepW, pok, pval, VA.ev, Env.get, Env.put, Env.keep, thenQ, intV, binV, binOk, Nat.le_refl, Nat.succ_ne_self, Nat.reduceEqDiff, ite_true, ite_false, true_and, reduceCtorEq, w64 (n := (i : Int) + 1) (by omega) (by omega)]
        refine ⟨⟨i + 1, ia, fun j hj hji => ?_⟩, ?_, ?_⟩
        · by_cases e : j = i
          · subst e; rw [hT]; exact hnoT
          · exact hno3 j hj (by omega)
        · rfl
        · simp only []; omega
      · have ia : i = (allS k).length := by simp only [decide_eq_false_iff_not] at h4; omega
        refine VW_exit ?_
        try simp only [thenQ, blockQ, retQ, Nat.succ_ne_self, Nat.reduceEqDiff, ite_true, ite_false, reduceCtorEq]
        refine VW_region [0, 1, 5, 7, 8, 9] ?_
        simp only [OpsW_nil, OpsW_n, StepW, pok, pval, VA.ev, Env.get, Env.put, Env.keep, thenQ, intV, binV, binOk, Nat.le_refl, Nat.succ_ne_self, Nat.reduceEqDiff, ite_true, ite_false, true_and, reduceCtorEq, w64 (n := (m : Int) + 1) (by omega) (by omega)]
        refine ⟨⟨m + 1, by omega, by omega, by omega, fun m' h1 h2 d hd => ?_⟩, ?_, ?_⟩
        · by_cases e : m' = m
          · subst e
            obtain ⟨j, hj, rfl⟩ := List.mem_iff_getElem.1 hd
            exact hno3 j hj (by omega)
          · exact hno2 m' h1 (by omega) d hd
        · rfl
        · simp only []; omega
    · have c1 : ¬ (m ≤ num a + 1 ∧ m ≤ 9999) := of_decide_eq_false (by rw [← hx2]; exact h3)
      refine VW_exit ?_
      try simp only [thenQ, blockQ, retQ, Nat.succ_ne_self, ite_true, ite_false, reduceCtorEq]
      refine VW_region [0, 1, 5, 7] ?_
      simp only [OpsW_nil, OpsW_n, StepW, pok, pval, VA.ev, Env.get, Env.put, Env.keep, thenQ, intV, binV, binOk, Nat.le_refl, Nat.succ_ne_self, Nat.reduceEqDiff, ite_true, ite_false, true_and, reduceCtorEq, w64 (n := (k : Int) + 1) (by omega) (by omega)]
      refine ⟨⟨k + 1, by omega, fun k' hk' m' h1 h2 d hd => ?_⟩, ?_, ?_⟩
      · by_cases e : k' = k
        · subst e; exact hno2 m' (by omega) (by omega) d hd
        · exact hno1 k' (by omega) m' h1 h2 d hd
      · rfl
      · simp only []; omega
  · have hk4 : k = 4 := by simp only [decide_eq_false_iff_not] at h2; omega
    subst hk4
    refine VW_exit ?_
    try simp only [thenQ, blockQ, retQ, ite_true]
    refine VW_seq (VW_region [4] ?_)
    simp only [OpsW_nil, OpsW_n, StepW, pok, pval, VA.ev, Env.get, Env.put, Env.keep, thenQ, Nat.succ_ne_self, Nat.reduceEqDiff, ite_true, ite_false, true_and, reduceCtorEq]
    refine VW_ret ?_
    try simp only [Env.get, retQ, resV, resOk, RS.ev, RS.ok, ite_true, true_and, and_true]
    have e : betR a b = [] := by unfold betR; rw [search_none hma hmb hno1]; rfl
    rw [e]; exact View.refl _ _
end Go.Proofs.YtihfbefagcdpmaaDoor.w


namespace Go.Proofs.YtihfbefagcdpmaaDoor.w
open Go Go.VM
set_option maxRecDepth 20000
set_option maxHeartbeats 0
set_option pp.deepTerms false
def c_pandectlaw03_awake : VC := (.seq (.region [⟨(some 0), (.mv (.c (.bool false))), none⟩] false) (.seq (.region [⟨(some 8), (.call 17 [(.c (.str [49, 50, 65, 90]))]), none⟩, ⟨(some 7), (.mv (.t 8)), none⟩, ⟨(some 9), (.ext (.t 7) 0), none⟩, ⟨(some 10), (.ext (.t 7) 1), none⟩, ⟨(some 1), (.mv (.t 9)), none⟩, ⟨(some 2), (.mv (.t 10)), none⟩] false) (.seq (.region [⟨(some 12), (.call 19 [(.c (.str [53, 65])), (.c (.str [53, 66]))]), none⟩, ⟨(some 11), (.mv (.t 12)), none⟩, ⟨(some 13), (.ext (.t 11) 0), none⟩, ⟨(some 14), (.ext (.t 11) 1), none⟩, ⟨(some 3), (.mv (.t 13)), none⟩, ⟨(some 4), (.mv (.t 14)), none⟩] false) (.seq (.region [⟨(some 16), (.call 19 [(.c (.str [53])), (.c (.str [53, 65]))]), none⟩, ⟨(some 15), (.mv (.t 16)), none⟩, ⟨(some 17), (.ext (.t 15) 0), none⟩, ⟨(some 18), (.ext (.t 15) 1), none⟩, ⟨(some 5), (.mv (.t 17)), none⟩, ⟨(some 6), (.mv (.t 18)), none⟩] false) (.seq (.region [⟨(some 19), (.mv (.t 1)), none⟩, ⟨(some 20), (.bin .eql (.t 19) (.c (.str [49, 50, 66]))), none⟩, ⟨(some 21), (.mv (.t 20)), none⟩, ⟨(some 22), (.mv (.t 2)), (some (21, true))⟩, ⟨(some 23), (.pick (.t 21) (.t 22) (.c (.bool false))), none⟩, ⟨(some 24), (.mv (.t 23)), none⟩, ⟨(some 25), (.mv (.t 3)), (some (24, true))⟩, ⟨(some 26), (.bin .eql (.t 25) (.c (.str [53, 65, 65]))), (some (24, true))⟩, ⟨(some 27), (.pick (.t 24) (.t 26) (.c (.bool false))), none⟩, ⟨(some 28), (.mv (.t 27)), none⟩, ⟨(some 29), (.mv (.t 4)), (some (28, true))⟩, ⟨(some 30), (.pick (.t 28) (.t 29) (.c (.bool false))), none⟩, ⟨(some 31), (.mv (.t 30)), none⟩, ⟨(some 32), (.mv (.t 6)), (some (31, true))⟩, ⟨(some 33), (.un .not (.t 32)), (some (31, true))⟩, ⟨(some 34), (.pick (.t 31) (.t 33) (.c (.bool false))), none⟩, ⟨(some 35), (.mv (.t 34)), none⟩, ⟨(some 36), (.call 15 [(.c (.str [49, 50, 65, 66])), (.c (.str [49, 50, 66]))]), (some (35, true))⟩, ⟨(some 37), (.bin .eql (.t 36) (.c (.int .i64 (-1)))), (some (35, true))⟩, ⟨(some 38), (.pick (.t 35) (.t 37) (.c (.bool false))), none⟩, ⟨(some 0), (.mv (.t 38)), none⟩] false) .ret)))))
def c_pandectlaw03_LabelSplit : VC := (.seq (.region [⟨(some 2), (.mv (.c (.bool false))), none⟩] false) (.seq (.seq (.region [⟨(some 7), (.call 10 []), none⟩, ⟨(some 8), (.un .not (.t 7)), none⟩, ⟨(some 9), (.mv (.t 8)), none⟩, ⟨(some 10), (.mv (.t 0)), (some (9, false))⟩, ⟨(some 11), (.len true (.t 10)), (some (9, false))⟩, ⟨(some 12), (.bin .gtr (.t 11) (.c (.int .i64 1000))), (some (9, false))⟩, ⟨(some 13), (.pick (.t 9) (.c (.bool true)) (.t 12)), none⟩] false) (.cond (.t 13) (.seq (.region [⟨(some 14), (.call 10 []), none⟩, ⟨(some 2), (.mv (.t 14)), none⟩] false) .ret) .skip)) (.seq (.region [⟨(some 16), (.mv (.t 0)), none⟩, ⟨(some 17), (.call 11 [(.t 16)]), none⟩, ⟨(some 15), (.mv (.t 17)), none⟩, ⟨(some 18), (.ext (.t 15) 0), none⟩, ⟨(some 19), (.ext (.t 15) 1), none⟩, ⟨(some 3), (.mv (.t 18)), none⟩, ⟨(some 4), (.mv (.t 19)), none⟩] false) (.seq (.region [⟨(some 21), (.mv (.t 0)), none⟩, ⟨(some 22), (.call 12 [(.t 21)]), none⟩, ⟨(some 20), (.mv (.t 22)), none⟩, ⟨(some 23), (.ext (.t 20) 0), none⟩, ⟨(some 24), (.ext (.t 20) 1), none⟩, ⟨(some 5), (.mv (.t 23)), none⟩, ⟨(some 6), (.mv (.t 24)), none⟩] false) (.seq (.region [⟨(some 25), (.mv (.t 0)), none⟩, ⟨(some 26), (.call 13 [(.t 25)]), none⟩, ⟨(some 27), (.mv (.t 0)), none⟩, ⟨(some 28), (.call 14 [(.t 27)]), none⟩, ⟨(some 29), (.binb .eql (.t 26) (.t 28)), none⟩, ⟨(some 30), (.mv (.t 29)), none⟩, ⟨(some 31), (.mv (.t 3)), (some (30, true))⟩, ⟨(some 32), (.mv (.t 5)), (some (30, true))⟩, ⟨(some 33), (.bin .eql (.t 31) (.t 32)), (some (30, true))⟩, ⟨(some 34), (.pick (.t 30) (.t 33) (.c (.bool false))), none⟩, ⟨(some 35), (.mv (.t 34)), none⟩, ⟨(some 36), (.mv (.t 4)), (some (35, true))⟩, ⟨(some 37), (.mv (.t 6)), (some (35, true))⟩, ⟨(some 38), (.bin .eql (.t 36) (.t 37)), (some (35, true))⟩, ⟨(some 39), (.pick (.t 35) (.t 38) (.c (.bool false))), none⟩, ⟨(some 2), (.mv (.t 39)), none⟩] false) .ret)))))
def c_pandectlaw03_LabelCompare : VC := (.seq (.region [⟨(some 6), (.mv (.c (.bool false))), none⟩] false) (.seq (.seq (.region [⟨(some 10), (.call 10 []), none⟩, ⟨(some 11), (.un .not (.t 10)), none⟩, ⟨(some 12), (.mv (.t 11)), none⟩, ⟨(some 13), (.mv (.t 0)), (some (12, false))⟩, ⟨(some 14), (.len true (.t 13)), (some (12, false))⟩, ⟨(some 15), (.bin .gtr (.t 14) (.c (.int .i64 100))), (some (12, false))⟩, ⟨(some 16), (.pick (.t 12) (.c (.bool true)) (.t 15)), none⟩, ⟨(some 17), (.mv (.t 16)), none⟩, ⟨(some 18), (.mv (.t 1)), (some (17, false))⟩, ⟨(some 19), (.len true (.t 18)), (some (17, false))⟩, ⟨(some 20), (.bin .gtr (.t 19) (.c (.int .i64 100))), (some (17, false))⟩, ⟨(some 21), (.pick (.t 17) (.c (.bool true)) (.t 20)), none⟩, ⟨(some 22), (.mv (.t 21)), none⟩, ⟨(some 23), (.mv (.t 2)), (some (22, false))⟩, ⟨(some 24), (.len true (.t 23)), (some (22, false))⟩, ⟨(some 25), (.bin .gtr (.t 24) (.c (.int .i64 100))), (some (22, false))⟩, ⟨(some 26), (.pick (.t 22) (.c (.bool true)) (.t 25)), none⟩] false) (.cond (.t 26) (.seq (.region [⟨(some 27), (.call 10 []), none⟩, ⟨(some 6), (.mv (.t 27)), none⟩] false) .ret) .skip)) (.seq (.region [⟨(some 28), (.mv (.t 0)), none⟩, ⟨(some 29), (.mv (.t 1)), none⟩, ⟨(some 30), (.call 15 [(.t 28), (.t 29)]), none⟩, ⟨(some 31), (.mv (.t 1)), none⟩, ⟨(some 32), (.mv (.t 2)), none⟩, ⟨(some 33), (.call 15 [(.t 31), (.t 32)]), none⟩, ⟨(some 34), (.mv (.t 0)), none⟩, ⟨(some 35), (.mv (.t 2)), none⟩, ⟨(some 36), (.call 15 [(.t 34), (.t 35)]), none⟩, ⟨(some 7), (.mv (.t 30)), none⟩, ⟨(some 8), (.mv (.t 33)), none⟩, ⟨(some 9), (.mv (.t 36)), none⟩] false) (.seq (.seq (.region [⟨(some 37), (.mv (.t 7)), none⟩, ⟨(some 38), (.mv (.t 0)), none⟩, ⟨(some 39), (.mv (.t 1)), none⟩, ⟨(some 40), (.call 16 [(.t 38), (.t 39)]), none⟩, ⟨(some 41), (.bin .neq (.t 37) (.t 40)), none⟩, ⟨(some 42), (.mv (.t 41)), none⟩, ⟨(some 43), (.mv (.t 8)), (some (42, false))⟩, ⟨(some 44), (.mv (.t 1)), (some (42, false))⟩, ⟨(some 45), (.mv (.t 2)), (some (42, false))⟩, ⟨(some 46), (.call 16 [(.t 44), (.t 45)]), (some (42, false))⟩, ⟨(some 47), (.bin .neq (.t 43) (.t 46)), (some (42, false))⟩, ⟨(some 48), (.pick (.t 42) (.c (.bool true)) (.t 47)), none⟩, ⟨(some 49), (.mv (.t 48)), none⟩, ⟨(some 50), (.mv (.t 9)), (some (49, false))⟩, ⟨(some 51), (.mv (.t 0)), (some (49, false))⟩, ⟨(some 52), (.mv (.t 2)), (some (49, false))⟩, ⟨(some 53), (.call 16 [(.t 51), (.t 52)]), (some (49, false))⟩, ⟨(some 54), (.bin .neq (.t 50) (.t 53)), (some (49, false))⟩, ⟨(some 55), (.pick (.t 49) (.c (.bool true)) (.t 54)), none⟩, ⟨(some 56), (.mv (.t 55)), none⟩, ⟨(some 57), (.mv (.t 1)), (some (56, false))⟩, ⟨(some 58), (.mv (.t 0)), (some (56, false))⟩, ⟨(some 59), (.call 15 [(.t 57), (.t 58)]), (some (56, false))⟩, ⟨(some 60), (.mv (.t 7)), (some (56, false))⟩, ⟨(some 61), (.un .neg (.t 60)), (some (56, false))⟩, ⟨(some 62), (.bin .neq (.t 59) (.t 61)), (some (56, false))⟩, ⟨(some 63), (.pick (.t 56) (.c (.bool true)) (.t 62)), none⟩] false) (.cond (.t 63) (.seq (.region [⟨(some 6), (.mv (.c (.bool false))), none⟩] false) .ret) .skip)) (.seq (.region [⟨(some 64), (.mv (.t 7)), none⟩, ⟨(some 65), (.bin .gtr (.t 64) (.c (.int .i64 0))), none⟩, ⟨(some 66), (.mv (.t 65)), none⟩, ⟨(some 67), (.mv (.t 8)), (some (66, false))⟩, ⟨(some 68), (.bin .gtr (.t 67) (.c (.int .i64 0))), (some (66, false))⟩, ⟨(some 69), (.pick (.t 66) (.c (.bool true)) (.t 68)), none⟩, ⟨(some 70), (.mv (.t 69)), none⟩, ⟨(some 71), (.mv (.t 9)), (some (70, false))⟩, ⟨(some 72), (.bin .leq (.t 71) (.c (.int .i64 0))), (some (70, false))⟩, ⟨(some 73), (.pick (.t 70) (.c (.bool true)) (.t 72)), none⟩, ⟨(some 74), (.mv (.t 73)), none⟩, ⟨(some 75), (.mv (.t 7)), (some (74, true))⟩, ⟨(some 76), (.bin .geq (.t 75) (.c (.int .i64 0))), (some (74, true))⟩, ⟨(some 77), (.mv (.t 76)), (some (74, true))⟩, ⟨(some 78), (.mv (.t 8)), (some (77, false))⟩, ⟨(some 79), (.bin .geq (.t 78) (.c (.int .i64 0))), (some (77, false))⟩, ⟨(some 80), (.pick (.t 77) (.c (.bool true)) (.t 79)), (some (74, true))⟩, ⟨(some 81), (.mv (.t 80)), (some (74, true))⟩, ⟨(some 82), (.mv (.t 9)), (some (81, false))⟩, ⟨(some 83), (.bin .lss (.t 82) (.c (.int .i64 0))), (some (81, false))⟩, ⟨(some 84), (.pick (.t 81) (.c (.bool true)) (.t 83)), (some (74, true))⟩, ⟨(some 85), (.pick (.t 74) (.t 84) (.c (.bool false))), none⟩, ⟨(some 6), (.mv (.t 85)), none⟩] false) .ret)))))
def c_pandectlaw03_LabelNext : VC := (.seq (.region [⟨(some 4), (.mv (.c (.bool false))), none⟩] false) (.seq (.seq (.region [⟨(some 12), (.call 10 []), none⟩, ⟨(some 13), (.un .not (.t 12)), none⟩, ⟨(some 14), (.mv (.t 13)), none⟩, ⟨(some 15), (.mv (.t 0)), (some (14, false))⟩, ⟨(some 16), (.len true (.t 15)), (some (14, false))⟩, ⟨(some 17), (.bin .gtr (.t 16) (.c (.int .i64 100))), (some (14, false))⟩, ⟨(some 18), (.pick (.t 14) (.c (.bool true)) (.t 17)), none⟩, ⟨(some 19), (.mv (.t 18)), none⟩, ⟨(some 20), (.mv (.t 1)), (some (19, false))⟩, ⟨(some 21), (.len true (.t 20)), (some (19, false))⟩, ⟨(some 22), (.bin .gtr (.t 21) (.c (.int .i64 100))), (some (19, false))⟩, ⟨(some 23), (.pick (.t 19) (.c (.bool true)) (.t 22)), none⟩] false) (.cond (.t 23) (.seq (.region [⟨(some 24), (.call 10 []), none⟩, ⟨(some 4), (.mv (.t 24)), none⟩] false) .ret) .skip)) (.seq (.region [⟨(some 26), (.mv (.t 0)), none⟩, ⟨(some 27), (.call 17 [(.t 26)]), none⟩, ⟨(some 25), (.mv (.t 27)), none⟩, ⟨(some 28), (.ext (.t 25) 0), none⟩, ⟨(some 29), (.ext (.t 25) 1), none⟩, ⟨(some 5), (.mv (.t 28)), none⟩, ⟨(some 6), (.mv (.t 29)), none⟩] false) (.seq (.region [⟨(some 30), (.mv (.t 0)), none⟩, ⟨(some 31), (.call 18 [(.t 30)]), none⟩, ⟨(some 7), (.mv (.t 31)), none⟩] false) (.seq (.seq (.region [⟨(some 32), (.mv (.t 5)), none⟩, ⟨(some 33), (.mv (.t 7)), none⟩, ⟨(some 34), (.bin .neq (.t 32) (.t 33)), none⟩, ⟨(some 35), (.mv (.t 34)), none⟩, ⟨(some 36), (.mv (.t 6)), (some (35, false))⟩, ⟨(some 37), (.mv (.t 7)), (some (35, false))⟩, ⟨(some 38), (.bin .neq (.t 37) (.c (.str []))), (some (35, false))⟩, ⟨(some 39), (.binb .neq (.t 36) (.t 38)), (some (35, false))⟩, ⟨(some 40), (.pick (.t 35) (.c (.bool true)) (.t 39)), none⟩] false) (.cond (.t 40) (.seq (.region [⟨(some 4), (.mv (.c (.bool false))), none⟩] false) .ret) .skip)) (.seq (.seq (.region [⟨(some 41), (.mv (.t 6)), none⟩, ⟨(some 42), (.un .not (.t 41)), none⟩, ⟨(some 43), (.mv (.t 42)), none⟩, ⟨(some 44), (.mv (.t 1)), (some (43, false))⟩, ⟨(some 45), (.call 13 [(.t 44)]), (some (43, false))⟩, ⟨(some 46), (.un .not (.t 45)), (some (43, false))⟩, ⟨(some 47), (.pick (.t 43) (.c (.bool true)) (.t 46)), none⟩, ⟨(some 48), (.mv (.t 47)), none⟩, ⟨(some 49), (.mv (.t 0)), (some (48, false))⟩, ⟨(some 50), (.mv (.t 1)), (some (48, false))⟩, ⟨(some 51), (.call 15 [(.t 49), (.t 50)]), (some (48, false))⟩, ⟨(some 52), (.bin .geq (.t 51) (.c (.int .i64 0))), (some (48, false))⟩, ⟨(some 53), (.pick (.t 48) (.c (.bool true)) (.t 52)), none⟩, ⟨(some 54), (.mv (.t 53)), none⟩, ⟨(some 55), (.mv (.t 1)), (some (54, false))⟩, ⟨(some 56), (.mv (.t 5)), (some (54, false))⟩, ⟨(some 57), (.call 15 [(.t 55), (.t 56)]), (some (54, false))⟩, ⟨(some 58), (.bin .geq (.t 57) (.c (.int .i64 0))), (some (54, false))⟩, ⟨(some 59), (.pick (.t 54) (.c (.bool true)) (.t 58)), none⟩] false) (.cond (.t 59) (.seq (.region [⟨(some 60), (.mv (.t 6)), none⟩, ⟨(some 61), (.un .not (.t 60)), none⟩, ⟨(some 62), (.mv (.t 61)), none⟩, ⟨(some 63), (.mv (.t 0)), (some (62, false))⟩, ⟨(some 64), (.mv (.t 5)), (some (62, false))⟩, ⟨(some 65), (.call 15 [(.t 63), (.t 64)]), (some (62, false))⟩, ⟨(some 66), (.bin .lss (.t 65) (.c (.int .i64 0))), (some (62, false))⟩, ⟨(some 67), (.mv (.t 66)), (some (62, false))⟩, ⟨(some 68), (.mv (.t 5)), (some (67, true))⟩, ⟨(some 69), (.call 13 [(.t 68)]), (some (67, true))⟩, ⟨(some 70), (.pick (.t 67) (.t 69) (.c (.bool false))), (some (62, false))⟩, ⟨(some 71), (.pick (.t 62) (.c (.bool true)) (.t 70)), none⟩, ⟨(some 4), (.mv (.t 71)), none⟩] false) .ret) .skip)) (.seq (.region [⟨(some 73), (.mv (.t 0)), none⟩, ⟨(some 74), (.call 11 [(.t 73)]), none⟩, ⟨(some 72), (.mv (.t 74)), none⟩, ⟨(some 75), (.ext (.t 72) 0), none⟩, ⟨(some 76), (.ext (.t 72) 1), none⟩, ⟨(some 8), (.mv (.t 75)), none⟩, ⟨(some 9), (.mv (.t 76)), none⟩] false) (.seq (.region [⟨(some 78), (.mv (.t 1)), none⟩, ⟨(some 79), (.call 11 [(.t 78)]), none⟩, ⟨(some 77), (.mv (.t 79)), none⟩, ⟨(some 80), (.ext (.t 77) 0), none⟩, ⟨(some 81), (.ext (.t 77) 1), none⟩, ⟨(some 10), (.mv (.t 80)), none⟩, ⟨(some 11), (.mv (.t 81)), none⟩] false) (.seq (.region [⟨(some 82), (.mv (.t 11)), none⟩, ⟨(some 83), (.len true (.t 82)), none⟩, ⟨(some 84), (.mv (.t 9)), none⟩, ⟨(some 85), (.len true (.t 84)), none⟩, ⟨(some 86), (.bin .gtr (.t 83) (.t 85)), none⟩, ⟨(some 4), (.mv (.t 86)), none⟩] false) .ret)))))))))
def c_pandectlaw03_LabelBetween : VC := (.seq (.region [⟨(some 4), (.mv (.c (.bool false))), none⟩] false) (.seq (.seq (.region [⟨(some 8), (.call 10 []), none⟩, ⟨(some 9), (.un .not (.t 8)), none⟩, ⟨(some 10), (.mv (.t 9)), none⟩, ⟨(some 11), (.mv (.t 0)), (some (10, false))⟩, ⟨(some 12), (.len true (.t 11)), (some (10, false))⟩, ⟨(some 13), (.bin .gtr (.t 12) (.c (.int .i64 100))), (some (10, false))⟩, ⟨(some 14), (.pick (.t 10) (.c (.bool true)) (.t 13)), none⟩, ⟨(some 15), (.mv (.t 14)), none⟩, ⟨(some 16), (.mv (.t 1)), (some (15, false))⟩, ⟨(some 17), (.len true (.t 16)), (some (15, false))⟩, ⟨(some 18), (.bin .gtr (.t 17) (.c (.int .i64 100))), (some (15, false))⟩, ⟨(some 19), (.pick (.t 15) (.c (.bool true)) (.t 18)), none⟩] false) (.cond (.t 19) (.seq (.region [⟨(some 20), (.call 10 []), none⟩, ⟨(some 4), (.mv (.t 20)), none⟩] false) .ret) .skip)) (.seq (.region [⟨(some 22), (.mv (.t 0)), none⟩, ⟨(some 23), (.mv (.t 1)), none⟩, ⟨(some 24), (.call 19 [(.t 22), (.t 23)]), none⟩, ⟨(some 21), (.mv (.t 24)), none⟩, ⟨(some 25), (.ext (.t 21) 0), none⟩, ⟨(some 26), (.ext (.t 21) 1), none⟩, ⟨(some 5), (.mv (.t 25)), none⟩, ⟨(some 6), (.mv (.t 26)), none⟩] false) (.seq (.region [⟨(some 27), (.mv (.t 0)), none⟩, ⟨(some 28), (.mv (.t 1)), none⟩, ⟨(some 29), (.call 20 [(.t 27), (.t 28)]), none⟩, ⟨(some 7), (.mv (.t 29)), none⟩] false) (.seq (.region [⟨(some 30), (.mv (.t 5)), none⟩, ⟨(some 31), (.mv (.t 7)), none⟩, ⟨(some 32), (.bin .eql (.t 30) (.t 31)), none⟩, ⟨(some 33), (.mv (.t 32)), none⟩, ⟨(some 34), (.mv (.t 6)), (some (33, true))⟩, ⟨(some 35), (.mv (.t 7)), (some (33, true))⟩, ⟨(some 36), (.bin .neq (.t 35) (.c (.str []))), (some (33, true))⟩, ⟨(some 37), (.binb .eql (.t 34) (.t 36)), (some (33, true))⟩, ⟨(some 38), (.pick (.t 33) (.t 37) (.c (.bool false))), none⟩, ⟨(some 4), (.mv (.t 38)), none⟩] false) .ret)))))
def c_pandectlaw03_LabelBetweenMinimal : VC := (.seq (.region [⟨(some 6), (.mv (.c (.bool false))), none⟩] false) (.seq (.seq (.region [⟨(some 14), (.call 10 []), none⟩, ⟨(some 15), (.un .not (.t 14)), none⟩, ⟨(some 16), (.mv (.t 15)), none⟩, ⟨(some 17), (.mv (.t 0)), (some (16, false))⟩, ⟨(some 18), (.len true (.t 17)), (some (16, false))⟩, ⟨(some 19), (.bin .gtr (.t 18) (.c (.int .i64 100))), (some (16, false))⟩, ⟨(some 20), (.pick (.t 16) (.c (.bool true)) (.t 19)), none⟩, ⟨(some 21), (.mv (.t 20)), none⟩, ⟨(some 22), (.mv (.t 1)), (some (21, false))⟩, ⟨(some 23), (.len true (.t 22)), (some (21, false))⟩, ⟨(some 24), (.bin .gtr (.t 23) (.c (.int .i64 100))), (some (21, false))⟩, ⟨(some 25), (.pick (.t 21) (.c (.bool true)) (.t 24)), none⟩, ⟨(some 26), (.mv (.t 25)), none⟩, ⟨(some 27), (.mv (.t 2)), (some (26, false))⟩, ⟨(some 28), (.len true (.t 27)), (some (26, false))⟩, ⟨(some 29), (.bin .gtr (.t 28) (.c (.int .i64 100))), (some (26, false))⟩, ⟨(some 30), (.pick (.t 26) (.c (.bool true)) (.t 29)), none⟩] false) (.cond (.t 30) (.seq (.region [⟨(some 31), (.call 10 []), none⟩, ⟨(some 6), (.mv (.t 31)), none⟩] false) .ret) .skip)) (.seq (.region [⟨(some 33), (.mv (.t 0)), none⟩, ⟨(some 34), (.mv (.t 1)), none⟩, ⟨(some 35), (.call 19 [(.t 33), (.t 34)]), none⟩, ⟨(some 32), (.mv (.t 35)), none⟩, ⟨(some 36), (.ext (.t 32) 0), none⟩, ⟨(some 37), (.ext (.t 32) 1), none⟩, ⟨(some 7), (.mv (.t 36)), none⟩, ⟨(some 8), (.mv (.t 37)), none⟩] false) (.seq (.region [⟨(some 38), (.mv (.t 0)), none⟩, ⟨(some 39), (.call 13 [(.t 38)]), none⟩, ⟨(some 40), (.mv (.t 39)), none⟩, ⟨(some 41), (.mv (.t 1)), (some (40, true))⟩, ⟨(some 42), (.call 13 [(.t 41)]), (some (40, true))⟩, ⟨(some 43), (.pick (.t 40) (.t 42) (.c (.bool false))), none⟩, ⟨(some 44), (.mv (.t 43)), none⟩, ⟨(some 45), (.mv (.t 2)), (some (44, true))⟩, ⟨(some 46), (.call 13 [(.t 45)]), (some (44, true))⟩, ⟨(some 47), (.pick (.t 44) (.t 46) (.c (.bool false))), none⟩, ⟨(some 48), (.mv (.t 47)), none⟩, ⟨(some 49), (.mv (.t 0)), (some (48, true))⟩, ⟨(some 50), (.mv (.t 2)), (some (48, true))⟩, ⟨(some 51), (.call 15 [(.t 49), (.t 50)]), (some (48, true))⟩, ⟨(some 52), (.bin .lss (.t 51) (.c (.int .i64 0))), (some (48, true))⟩, ⟨(some 53), (.pick (.t 48) (.t 52) (.c (.bool false))), none⟩, ⟨(some 54), (.mv (.t 53)), none⟩, ⟨(some 55), (.mv (.t 2)), (some (54, true))⟩, ⟨(some 56), (.mv (.t 1)), (some (54, true))⟩, ⟨(some 57), (.call 15 [(.t 55), (.t 56)]), (some (54, true))⟩, ⟨(some 58), (.bin .lss (.t 57) (.c (.int .i64 0))), (some (54, true))⟩, ⟨(some 59), (.pick (.t 54) (.t 58) (.c (.bool false))), none⟩, ⟨(some 9), (.mv (.t 59)), none⟩] false) (.seq (.seq (.region [⟨(some 60), (.mv (.t 8)), none⟩, ⟨(some 61), (.un .not (.t 60)), none⟩] false) (.cond (.t 61) (.seq (.region [⟨(some 62), (.mv (.t 7)), none⟩, ⟨(some 63), (.bin .eql (.t 62) (.c (.str []))), none⟩, ⟨(some 64), (.mv (.t 63)), none⟩, ⟨(some 65), (.mv (.t 9)), (some (64, true))⟩, ⟨(some 66), (.un .not (.t 65)), (some (64, true))⟩, ⟨(some 67), (.pick (.t 64) (.t 66) (.c (.bool false))), none⟩, ⟨(some 6), (.mv (.t 67)), none⟩] false) .ret) .skip)) (.seq (.seq (.region [⟨(some 68), (.mv (.t 7)), none⟩, ⟨(some 69), (.call 13 [(.t 68)]), none⟩, ⟨(some 70), (.un .not (.t 69)), none⟩, ⟨(some 71), (.mv (.t 70)), none⟩, ⟨(some 72), (.mv (.t 0)), (some (71, false))⟩, ⟨(some 73), (.mv (.t 7)), (some (71, false))⟩, ⟨(some 74), (.call 15 [(.t 72), (.t 73)]), (some (71, false))⟩, ⟨(some 75), (.bin .geq (.t 74) (.c (.int .i64 0))), (some (71, false))⟩, ⟨(some 76), (.pick (.t 71) (.c (.bool true)) (.t 75)), none⟩, ⟨(some 77), (.mv (.t 76)), none⟩, ⟨(some 78), (.mv (.t 7)), (some (77, false))⟩, ⟨(some 79), (.mv (.t 1)), (some (77, false))⟩, ⟨(some 80), (.call 15 [(.t 78), (.t 79)]), (some (77, false))⟩, ⟨(some 81), (.bin .geq (.t 80) (.c (.int .i64 0))), (some (77, false))⟩, ⟨(some 82), (.pick (.t 77) (.c (.bool true)) (.t 81)), none⟩] false) (.cond (.t 82) (.seq (.region [⟨(some 6), (.mv (.c (.bool false))), none⟩] false) .ret) .skip)) (.seq (.region [⟨(some 84), (.mv (.t 7)), none⟩, ⟨(some 85), (.call 11 [(.t 84)]), none⟩, ⟨(some 83), (.mv (.t 85)), none⟩, ⟨(some 86), (.ext (.t 83) 0), none⟩, ⟨(some 87), (.ext (.t 83) 1), none⟩, ⟨(some 10), (.mv (.t 86)), none⟩, ⟨(some 11), (.mv (.t 87)), none⟩] false) (.seq (.region [⟨(some 89), (.mv (.t 2)), none⟩, ⟨(some 90), (.call 11 [(.t 89)]), none⟩, ⟨(some 88), (.mv (.t 90)), none⟩, ⟨(some 91), (.ext (.t 88) 0), none⟩, ⟨(some 92), (.ext (.t 88) 1), none⟩, ⟨(some 12), (.mv (.t 91)), none⟩, ⟨(some 13), (.mv (.t 92)), none⟩] false) (.seq (.region [⟨(some 93), (.mv (.t 9)), none⟩, ⟨(some 94), (.un .not (.t 93)), none⟩, ⟨(some 95), (.mv (.t 94)), none⟩, ⟨(some 96), (.mv (.t 13)), (some (95, false))⟩, ⟨(some 97), (.len true (.t 96)), (some (95, false))⟩, ⟨(some 98), (.mv (.t 11)), (some (95, false))⟩, ⟨(some 99), (.len true (.t 98)), (some (95, false))⟩, ⟨(some 100), (.bin .gtr (.t 97) (.t 99)), (some (95, false))⟩, ⟨(some 101), (.pick (.t 95) (.c (.bool true)) (.t 100)), none⟩, ⟨(some 102), (.mv (.t 101)), none⟩, ⟨(some 103), (.mv (.t 13)), (some (102, false))⟩, ⟨(some 104), (.len true (.t 103)), (some (102, false))⟩, ⟨(some 105), (.mv (.t 11)), (some (102, false))⟩, ⟨(some 106), (.len true (.t 105)), (some (102, false))⟩, ⟨(some 107), (.bin .eql (.t 104) (.t 106)), (some (102, false))⟩, ⟨(some 108), (.mv (.t 107)), (some (102, false))⟩, ⟨(some 109), (.mv (.t 7)), (some (108, true))⟩, ⟨(some 110), (.mv (.t 2)), (some (108, true))⟩, ⟨(some 111), (.call 15 [(.t 109), (.t 110)]), (some (108, true))⟩, ⟨(some 112), (.bin .leq (.t 111) (.c (.int .i64 0))), (some (108, true))⟩, ⟨(some 113), (.pick (.t 108) (.t 112) (.c (.bool false))), (some (102, false))⟩, ⟨(some 114), (.pick (.t 102) (.c (.bool true)) (.t 113)), none⟩, ⟨(some 6), (.mv (.t 114)), none⟩] false) .ret)))))))))
theorem dec5 : Lib.decDigits 5 = [53] := (decDigits_val [53] (by decide) (by decide) (by decide)).2
theorem dec6 : Lib.decDigits 6 = [54] := (decDigits_val [54] (by decide) (by decide) (by decide)).2
theorem dec12 : Lib.decDigits 12 = [49, 50] := (decDigits_val [49, 50] (by decide) (by decide) (by decide)).2
theorem aw1 : nextS [49, 50, 65, 90] = some [49, 50, 66] := by
  have : nextS [49, 50, 65, 90] = some (text 12 [66]) := by kernel_rfl
  rw [this]; unfold text; rw [dec12]; rfl
theorem beh0 : behindS [53, 65] 0 = some [54] := by
  have : behindS [53, 65] 0 = some (text 6 []) := by kernel_rfl
  rw [this]; unfold text; rw [dec6]; rfl
theorem beh1 : behindS [53, 65] 1 = some [53, 66] := by
  have : behindS [53, 65] 1 = some (text 5 [66]) := by kernel_rfl
  rw [this]; unfold text; rw [dec5]; rfl
theorem beh2 : behindS [53, 65] 2 = some [53, 65, 65] := by
  have : behindS [53, 65] 2 = some (text 5 [65, 65]) := by kernel_rfl
  rw [this]; unfold text; rw [dec5]; rfl
theorem behb0 : behindS [53] 0 = some [54] := by
  have : behindS [53] 0 = some (text 6 []) := by kernel_rfl
  rw [this]; unfold text; rw [dec6]; rfl
theorem behb1 : behindS [53] 1 = some [53, 65] := by
  have : behindS [53] 1 = some (text 5 [65]) := by kernel_rfl
  rw [this]; unfold text; rw [dec5]; rfl
theorem behb2 : behindS [53] 2 = some [53, 65, 65] := by
  have : behindS [53] 2 = some (text 5 [65, 65]) := by kernel_rfl
  rw [this]; unfold text; rw [dec5]; rfl
theorem behb3 : behindS [53] 3 = some [53, 65, 65, 65] := by
  have : behindS [53] 3 = some (text 5 [65, 65, 65]) := by kernel_rfl
  rw [this]; unfold text; rw [dec5]; rfl
theorem aw2 : between [53, 65] [53, 66] = some [53, 65, 65] := by
  have c0 : ¬ cmpL [54] [53, 66] < 0 := by rw [show cmpL [54] [53, 66] = 1 from by kernel_rfl]; decide
  have c1 : ¬ cmpL [53, 66] [53, 66] < 0 := by rw [show cmpL [53, 66] [53, 66] = 0 from by kernel_rfl]; decide
  have c2 : cmpL [53, 65, 65] [53, 66] < 0 := by rw [show cmpL [53, 65, 65] [53, 66] = -1 from by kernel_rfl]; decide
  unfold between
  rw [if_pos (by constructor <;> kernel_rfl)]
  simp only [betS, Nat.reduceAdd, Nat.zero_add, beh0, beh1, beh2, if_neg c0, if_neg c1, if_pos c2]
theorem aw3 : between [53] [53, 65] = none := by
  have c0 : ¬ cmpL [54] [53, 65] < 0 := by rw [show cmpL [54] [53, 65] = 1 from by kernel_rfl]; decide
  have c1 : ¬ cmpL [53, 65] [53, 65] < 0 := by rw [show cmpL [53, 65] [53, 65] = 0 from by kernel_rfl]; decide
  have c2 : ¬ cmpL [53, 65, 65] [53, 65] < 0 := by rw [show cmpL [53, 65, 65] [53, 65] = 1 from by kernel_rfl]; decide
  have c3 : ¬ cmpL [53, 65, 65, 65] [53, 65] < 0 := by rw [show cmpL [53, 65, 65, 65] [53, 65] = 1 from by kernel_rfl]; decide
  unfold between
  rw [if_pos (by constructor <;> kernel_rfl)]
  simp only [betS, Nat.reduceAdd, Nat.zero_add, behb0, behb1, behb2, behb3, if_neg c0, if_neg c1, if_neg c2, if_neg c3]
theorem aw4 : cmpL [49, 50, 65, 66] [49, 50, 66] = -1 := by kernel_rfl
theorem awake : PCall Tryd.prog 10 [] (.bool true) := by
  have A := sp_label_Next [49, 50, 65, 90] (by simp)
  have B := sp_label_Between [53, 65] [53, 66] (by simp) (by simp)
  have C := sp_label_Between [53] [53, 65] (by simp) (by simp)
  have D := sp_label_Compare [49, 50, 65, 66] [49, 50, 66] (by simp) (by simp)
  rw [aw1] at A
  rw [aw2] at B
  rw [aw3] at C
  rw [aw4] at D
  refine PCall_intro ?_ (cB _) (by simp only [ClosedL, List.mem_cons, List.not_mem_nil, or_false, forall_eq_or_imp, forall_eq, false_implies, implies_true]; repeat' (first | exact cI _ | exact cS _ | exact cB _ | exact closed_fn0 _ | exact closed_nilsl | exact closed_agg (Un.closed _) | exact closed_agg (It.closed _) | exact closed_agg (EI.closed _) | exact closed_agg (Ac.closed _) | exact closed_agg (Wd.closed _) | exact closed_agg (St.closed _) | exact closed_agg (Sta.closed _) | exact closed_eis _ | exact closed_acs _ | exact closed_gzs _ | exact Closed.of_scalar (scalar_int _ _) | exact closed_ro (Ac.closed _) | exact closed_ro (Gz.closed _) | exact closed_agg (Gz.closed _) | exact closed_strs _ | exact closed_map (fun w _ => Wd.closed w) | exact closed_map (fun w _ => St.closed w) | exact closed_map (fun w _ => Un.closed w) | exact closed_map (fun w _ => It.closed w) | exact closed_sc _ | exact closed_sps _ | exact closed_agg (Sp.closed _) | exact closed_ro (EI.closed _) | exact closed_ro (Sta.closed _) | exact closed_ro (It.closed _) | exact closed_ro (by simp only [List.mem_cons, List.not_mem_nil, or_false, forall_eq]; first | exact cI _ | exact cS _ | exact closed_eis _) | refine And.intro ?_ ?_))
  refine ACall_fn (vc := c_pandectlaw03_awake) (ts := [.t 0]) Go.Proofs.Tryd.func10 (by kernel_rfl) rfl rfl (Nat.le_of_ble_eq_true rfl) (by kernel_rfl) ?_
  unfold c_pandectlaw03_awake
  refine VW_seq (VW_region [] ?_)
  simp only [OpsW_nil, OpsW_n, StepW, pok, pval, VA.ev, Env.put, Env.keep, argEnv, thenQ, Heap.nil, true_and]
  refine VW_seq (VW_region [1, 2] ?_)
  simp only [OpsW_nil, OpsW_n, StepW, pok, pval, VA.ev, Env.get, Env.put, Env.keep, thenQ, extV, extOk, PV.nth, Nat.succ_ne_self, List.map, Nat.reduceEqDiff, ite_true, ite_false, true_and]
  refine ACall_p A ?_
  try simp only [List.length, List.getD_cons_zero, List.getD_cons_succ, Nat.reduceAdd, Nat.reduceLT, true_and, Nat.zero_add, optT, Option.getD_some, Option.isSome_some]
  refine VW_seq (VW_region [1, 2, 3, 4] ?_)
  simp only [OpsW_nil, OpsW_n, StepW, pok, pval, VA.ev, Env.get, Env.put, Env.keep, thenQ, extV, extOk, PV.nth, Nat.succ_ne_self, List.map, Nat.reduceEqDiff, ite_true, ite_false, true_and]
  refine ACall_p B ?_
  try simp only [List.length, List.getD_cons_zero, List.getD_cons_succ, Nat.reduceAdd, Nat.reduceLT, true_and, Nat.zero_add, optT, Option.getD_some, Option.isSome_some]
  refine VW_seq (VW_region [1, 2, 3, 4, 6] ?_)
  simp only [OpsW_nil, OpsW_n, StepW, pok, pval, VA.ev, Env.get, Env.put, Env.keep, thenQ, extV, extOk, PV.nth, Nat.succ_ne_self, List.map, Nat.reduceEqDiff, ite_true, ite_false, true_and]
  refine ACall_p C ?_
  try simp only [List.length, List.getD_cons_zero, List.getD_cons_succ, Nat.reduceAdd, Nat.reduceLT, true_and, Nat.zero_add, optT, Option.getD_none, Option.isSome_none]
  refine VW_seq (VW_region [0] ?_)
  simp only [OpsW_nil, OpsW_n, OpsW_y, StepW, pok, pval, VA.ev, Env.get, Env.put, Env.keep, thenQ, pickV, isBool, intV, binV, binOk, strV, unV, unOk, Nat.succ_ne_self, List.map, Nat.reduceEqDiff, ite_true, ite_false, true_and, reduceCtorEq, BEq.rfl, Bool.not_false]
  refine ACall_p D ?_
  try simp only [true_and, BEq.rfl]
  refine VW_ret ?_
  try simp only [Env.get, retQ, resV, resOk, RS.ev, RS.ok, ite_true, true_and, and_true]
  exact View.refl _ _
theorem law_LabelSplit (s : Str) (_ : okS s) : PCall Tryd.prog 3 [.str s] (.bool true) := by
  refine PCall_intro ?_ (cB _) (by simp only [ClosedL, List.mem_cons, List.not_mem_nil, or_false, forall_eq_or_imp, forall_eq, false_implies, implies_true]; repeat' (first | exact cI _ | exact cS _ | exact cB _ | exact closed_fn0 _ | exact closed_nilsl | exact closed_agg (Un.closed _) | exact closed_agg (It.closed _) | exact closed_agg (EI.closed _) | exact closed_agg (Ac.closed _) | exact closed_agg (Wd.closed _) | exact closed_agg (St.closed _) | exact closed_agg (Sta.closed _) | exact closed_eis _ | exact closed_acs _ | exact closed_gzs _ | exact Closed.of_scalar (scalar_int _ _) | exact closed_ro (Ac.closed _) | exact closed_ro (Gz.closed _) | exact closed_agg (Gz.closed _) | exact closed_strs _ | exact closed_map (fun w _ => Wd.closed w) | exact closed_map (fun w _ => St.closed w) | exact closed_map (fun w _ => Un.closed w) | exact closed_map (fun w _ => It.closed w) | exact closed_sc _ | exact closed_sps _ | exact closed_agg (Sp.closed _) | exact closed_ro (EI.closed _) | exact closed_ro (Sta.closed _) | exact closed_ro (It.closed _) | exact closed_ro (by simp only [List.mem_cons, List.not_mem_nil, or_false, forall_eq]; first | exact cI _ | exact cS _ | exact closed_eis _) | refine And.intro ?_ ?_))
  refine ACall_fn (vc := c_pandectlaw03_LabelSplit) (ts := [.t 2]) Go.Proofs.Tryd.func3 (by kernel_rfl) rfl rfl (Nat.le_of_ble_eq_true rfl) (by kernel_rfl) ?_
  unfold c_pandectlaw03_LabelSplit
  refine VW_seq (VW_region [0] ?_)
  simp only [OpsW_nil, OpsW_n, StepW, pok, pval, VA.ev, Env.get, Env.put, Env.keep, argEnv, thenQ, Heap.nil, ite_true, ite_false, true_and, reduceCtorEq]
  refine VW_seq ?_
  refine VW_seq (VW_region [0, 13] ?_)
  simp only [OpsW_n, StepW, pok, pval, VA.ev, Env.get, Env.put, Env.keep, thenQ, unV, unOk, List.map, Nat.reduceEqDiff, ite_true, ite_false, true_and, reduceCtorEq]
  refine ACall_p awake ?_
  try simp only [OpsW_nil, OpsW_n, OpsW_y, StepW, pok, pval, VA.ev, Env.get, Env.put, pickV, isBool, intV, binV, binOk, lenV, lenOk, Nat.succ_ne_self, Nat.reduceEqDiff, Bool.false_eq_true, ite_true, ite_false, true_and, reduceCtorEq, Bool.not_true]
  refine VW_cond rfl (fun h1 => ?_) (fun h1 => ?_)
  · refine VW_seq (VW_region [2] ?_)
    simp only [OpsW_nil, OpsW_n, StepW, pok, pval, VA.ev, Env.get, Env.put, Env.keep, thenQ, List.map, Nat.reduceEqDiff, ite_true, ite_false, true_and, reduceCtorEq]
    refine ACall_p awake ?_
    skip
    refine VW_ret ?_
    try simp only [Env.get, thenQ, retQ, resV, resOk, RS.ev, RS.ok, ite_true, true_and, and_true]
    exact View.refl _ _
  have hl : s.length ≤ 1000000 := by simp only [decide_eq_false_iff_not] at h1; omega
  refine VW_skip ?_
  try simp only [thenQ]
  refine VW_seq (VW_region [0, 3, 4] ?_)
  simp only [OpsW_nil, OpsW_n, StepW, pok, pval, VA.ev, Env.get, Env.put, Env.keep, thenQ, extV, extOk, PV.nth, Nat.succ_ne_self, List.map, Nat.reduceEqDiff, ite_true, ite_false, true_and, reduceCtorEq]
  refine ACall_p (sp_label_Split s hl) ?_
  try simp only [List.length, List.getD_cons_zero, List.getD_cons_succ, Nat.reduceAdd, Nat.reduceLT, true_and, Nat.zero_add]
  refine VW_seq (VW_region [0, 3, 4, 5, 6] ?_)
  simp only [OpsW_nil, OpsW_n, StepW, pok, pval, VA.ev, Env.get, Env.put, Env.keep, thenQ, extV, extOk, PV.nth, Nat.succ_ne_self, List.map, Nat.reduceEqDiff, ite_true, ite_false, true_and, reduceCtorEq]
  refine ACall_p (sp_pandectref03_Split s hl) ?_
  try simp only [List.length, List.getD_cons_zero, List.getD_cons_succ, Nat.reduceAdd, Nat.reduceLT, true_and, Nat.zero_add]
  refine VW_seq (VW_region [2] ?_)
  simp only [OpsW_n, StepW, pok, pval, VA.ev, Env.get, Env.put, Env.keep, thenQ, binbV, boolV, binbOk, Nat.succ_ne_self, List.map, Nat.reduceEqDiff, ite_true, ite_false, true_and, reduceCtorEq]
  refine ACall_p (sp_label_Valid s hl) ?_
  skip
  refine ACall_p (sp_pandectref03_May s hl) ?_
  try simp only [OpsW_nil, OpsW_n, OpsW_y, StepW, pok, pval, VA.ev, Env.get, Env.put, pickV, isBool, intV, binV, binOk, strV, Nat.succ_ne_self, Nat.reduceEqDiff, ite_true, ite_false, true_and, reduceCtorEq, BEq.rfl]
  refine VW_ret ?_
  try simp only [Env.get, retQ, resV, resOk, RS.ev, RS.ok, ite_true, true_and, and_true]
  exact View.refl _ _
theorem law_LabelCompare (a b c : Str) (_ : okS a) (_ : okS b) (_ : okS c) : PCall Tryd.prog 4 [.str a, .str b, .str c] (.bool true) := by
  refine PCall_intro ?_ (cB _) (by simp only [ClosedL, List.mem_cons, List.not_mem_nil, or_false, forall_eq_or_imp, forall_eq, false_implies, implies_true]; repeat' (first | exact cI _ | exact cS _ | exact cB _ | exact closed_fn0 _ | exact closed_nilsl | exact closed_agg (Un.closed _) | exact closed_agg (It.closed _) | exact closed_agg (EI.closed _) | exact closed_agg (Ac.closed _) | exact closed_agg (Wd.closed _) | exact closed_agg (St.closed _) | exact closed_agg (Sta.closed _) | exact closed_eis _ | exact closed_acs _ | exact closed_gzs _ | exact Closed.of_scalar (scalar_int _ _) | exact closed_ro (Ac.closed _) | exact closed_ro (Gz.closed _) | exact closed_agg (Gz.closed _) | exact closed_strs _ | exact closed_map (fun w _ => Wd.closed w) | exact closed_map (fun w _ => St.closed w) | exact closed_map (fun w _ => Un.closed w) | exact closed_map (fun w _ => It.closed w) | exact closed_sc _ | exact closed_sps _ | exact closed_agg (Sp.closed _) | exact closed_ro (EI.closed _) | exact closed_ro (Sta.closed _) | exact closed_ro (It.closed _) | exact closed_ro (by simp only [List.mem_cons, List.not_mem_nil, or_false, forall_eq]; first | exact cI _ | exact cS _ | exact closed_eis _) | refine And.intro ?_ ?_))
  refine ACall_fn (vc := c_pandectlaw03_LabelCompare) (ts := [.t 6]) Go.Proofs.Tryd.func4 (by kernel_rfl) rfl rfl (Nat.le_of_ble_eq_true rfl) (by kernel_rfl) ?_
  unfold c_pandectlaw03_LabelCompare
  refine VW_seq (VW_region [0, 1, 2] ?_)
  simp only [OpsW_nil, OpsW_n, StepW, pok, pval, VA.ev, Env.get, Env.put, Env.keep, argEnv, thenQ, Heap.nil, Nat.succ_ne_self, Nat.reduceEqDiff, Nat.reduceAdd, ite_true, ite_false, true_and, reduceCtorEq, Nat.zero_add]
  refine VW_seq ?_
  refine VW_seqE (σ := { x : Bool // x = false → a.length ≤ 1000000 ∧ b.length ≤ 1000000 ∧ c.length ≤ 1000000 }) [0, 1, 2, 26] (fun x => [(0, .str a), (1, .str b), (2, .str c), (26, .bool x.1)]) ?_ ?_
  · simp only [OpsW_n, StepW, pok, pval, VA.ev, Env.get, Env.put, Env.keep, unV, unOk, Nat.succ_ne_self, Env.le, List.map, Nat.reduceEqDiff, ite_true, ite_false, true_and, and_true, reduceCtorEq]
    refine ACall_p awake ?_
    by_cases la : a.length ≤ 100
    · have e1 : decide ((100 : Int) < (a.length : Int)) = false := by simp only [decide_eq_false_iff_not]; omega
      by_cases lb : b.length ≤ 100
      · have e2 : decide ((100 : Int) < (b.length : Int)) = false := by simp only [decide_eq_false_iff_not]; omega
        simp only [OpsW_nil, OpsW_n, OpsW_y, StepW, pok, pval, VA.ev, Env.get, Env.put, pickV, isBool, intV, binV, binOk, lenV, lenOk, Nat.succ_ne_self, Nat.reduceEqDiff, Bool.false_eq_true, ite_true, ite_false, true_and, and_true, reduceCtorEq, Bool.not_true, e1, e2]
        exact ⟨⟨decide ((100 : Int) < (c.length : Int)), fun h => by simp only [decide_eq_false_iff_not] at h; omega⟩, rfl⟩
      · have e2 : decide ((100 : Int) < (b.length : Int)) = true := by simp only [decide_eq_true_eq]; omega
        simp only [OpsW_nil, OpsW_n, OpsW_y, OpsW_xf, StepW, pok, pval, VA.ev, Env.get, Env.put, pickV, isBool, intV, binV, binOk, lenV, lenOk, Nat.succ_ne_self, Nat.reduceEqDiff, Bool.false_eq_true, ite_true, ite_false, true_and, and_true, reduceCtorEq, Bool.not_true, e1, e2]
        exact ⟨⟨true, fun h => by cases h⟩, rfl⟩
    · have e1 : decide ((100 : Int) < (a.length : Int)) = true := by simp only [decide_eq_true_eq]; omega
      simp only [OpsW_nil, OpsW_n, OpsW_y, OpsW_xf, StepW, pok, pval, VA.ev, Env.get, Env.put, pickV, isBool, intV, binV, binOk, lenV, lenOk, Nat.succ_ne_self, Nat.reduceEqDiff, Bool.false_eq_true, ite_true, ite_false, true_and, and_true, reduceCtorEq, Bool.not_true, e1]
      exact ⟨⟨true, fun h => by cases h⟩, rfl⟩
  rintro ⟨x, hx⟩
  simp only []
  refine VW_cond rfl (fun h1 => ?_) (fun h1 => ?_)
  · refine VW_seq (VW_region [6] ?_)
    simp only [OpsW_nil, OpsW_n, StepW, pok, pval, VA.ev, Env.get, Env.put, Env.keep, thenQ, List.map, Nat.reduceEqDiff, ite_true, ite_false, true_and, reduceCtorEq]
    refine ACall_p awake ?_
    skip
    refine VW_ret ?_
    try simp only [Env.get, thenQ, retQ, resV, resOk, RS.ev, RS.ok, ite_true, true_and, and_true]
    exact View.refl _ _
  obtain ⟨la, lb, lc⟩ := hx h1
  refine VW_skip ?_
  try simp only [thenQ]
  refine VW_seq (VW_region [0, 1, 2, 7, 8, 9] ?_)
  simp only [OpsW_nil, OpsW_n, StepW, pok, pval, VA.ev, Env.get, Env.put, Env.keep, thenQ, Nat.succ_ne_self, List.map, Nat.reduceEqDiff, ite_true, ite_false, true_and, reduceCtorEq]
  refine ACall_p (sp_label_Compare a b la lb) ?_
  skip
  refine ACall_p (sp_label_Compare b c lb lc) ?_
  skip
  refine ACall_p (sp_label_Compare a c la lc) ?_
  skip
  have eneg : IntKind.i64.wrap (0 - cmpL a b) = - cmpL a b := by
    have := cmpL_bnd a b
    exact neg64 (by omega) (by omega)
  refine VW_seq ?_
  refine VW_seq (VW_region [7, 8, 9, 63] ?_)
  simp only [OpsW_n, StepW, pok, pval, VA.ev, Env.get, Env.put, Env.keep, thenQ, intV, binV, binOk, strV, Nat.succ_ne_self, List.map, Nat.reduceEqDiff, ite_true, ite_false, true_and, reduceCtorEq]
  refine ACall_p (sp_pandectref03_Compare a b la lb) ?_
  simp only [OpsW_n, OpsW_y, StepW, pok, pval, VA.ev, Env.get, Env.put, pickV, isBool, intV, binV, binOk, strV, Nat.succ_ne_self, List.map, Nat.reduceEqDiff, Bool.false_eq_true, ite_true, ite_false, true_and, reduceCtorEq, bne_self_eq_false]
  refine ACall_p (sp_pandectref03_Compare b c lb lc) ?_
  simp only [OpsW_n, OpsW_y, StepW, pok, pval, VA.ev, Env.get, Env.put, pickV, isBool, intV, binV, binOk, strV, Nat.succ_ne_self, List.map, Nat.reduceEqDiff, Bool.false_eq_true, ite_true, ite_false, true_and, reduceCtorEq, bne_self_eq_false]
  refine ACall_p (sp_pandectref03_Compare a c la lc) ?_
  simp only [OpsW_nil, OpsW_n, OpsW_y, StepW, pok, pval, VA.ev, Env.get, Env.put, pickV, isBool, intV, binV, binOk, strV, unV, unOk, Nat.succ_ne_self, List.map, Nat.reduceEqDiff, Bool.false_eq_true, ite_true, ite_false, true_and, reduceCtorEq, bne_self_eq_false]
  refine ACall_p (sp_label_Compare b a lb la) ?_
  simp only [true_and, eneg, cmpL_anti a b, bne_self_eq_false]
  refine VW_cond rfl (fun h => by cases h) (fun _ => ?_)
  refine VW_skip ?_
  try simp only [thenQ]
  have hX := cmpL_bnd a b
  have hY := cmpL_bnd b c
  have hZ := cmpL_bnd a c
  have t1 : cmpL a b ≤ 0 → cmpL b c ≤ 0 → cmpL a c ≤ 0 := fun h k => leL_trans (a := a) (b := b) (c := c) h k
  have t2 : cmpL a b < 0 → cmpL b c < 0 → cmpL a c < 0 := fun h k => cmpL_lt.2 (L_trans (cmpL_lt.1 h) (cmpL_lt.1 k))
  generalize cmpL a b = X at hX t1 t2 ⊢
  generalize cmpL b c = Y at hY t1 t2 ⊢
  generalize cmpL a c = Z at hZ t1 t2 ⊢
  refine VW_seq (VW_region [6] ?_)
  by_cases c1 : 0 < X
  · have d1 : decide (0 < X) = true := decide_eq_true c1
    have d4 : decide (0 ≤ X) = true := decide_eq_true (by omega)
    simp only [OpsW_nil, OpsW_n, OpsW_y, OpsW_xf, StepW, pok, pval, VA.ev, Env.get, Env.put, Env.keep, thenQ, pickV, isBool, intV, binV, binOk, Nat.succ_ne_self, Nat.reduceEqDiff, ite_true, ite_false, true_and, d1, d4]
    refine VW_ret ?_
    try simp only [Env.get, retQ, resV, resOk, RS.ev, RS.ok, ite_true, true_and, and_true]
    exact View.refl _ _
  have d1 : decide (0 < X) = false := decide_eq_false c1
  by_cases c2 : 0 < Y
  · have d2 : decide (0 < Y) = true := decide_eq_true c2
    have d5 : decide (0 ≤ Y) = true := decide_eq_true (by omega)
    by_cases c4 : 0 ≤ X
    · have d4 : decide (0 ≤ X) = true := decide_eq_true c4
      simp only [OpsW_nil, OpsW_n, OpsW_y, OpsW_xf, StepW, pok, pval, VA.ev, Env.get, Env.put, Env.keep, thenQ, pickV, isBool, intV, binV, binOk, Nat.succ_ne_self, Nat.reduceEqDiff, Bool.false_eq_true, ite_true, ite_false, true_and, d1, d2, d4]
      refine VW_ret ?_
      try simp only [Env.get, retQ, resV, resOk, RS.ev, RS.ok, ite_true, true_and, and_true]
      exact View.refl _ _
    · have d4 : decide (0 ≤ X) = false := decide_eq_false c4
      simp only [OpsW_nil, OpsW_n, OpsW_y, OpsW_xf, StepW, pok, pval, VA.ev, Env.get, Env.put, Env.keep, thenQ, pickV, isBool, intV, binV, binOk, Nat.succ_ne_self, Nat.reduceEqDiff, Bool.false_eq_true, ite_true, ite_false, true_and, d1, d2, d4, d5]
      refine VW_ret ?_
      try simp only [Env.get, retQ, resV, resOk, RS.ev, RS.ok, ite_true, true_and, and_true]
      exact View.refl _ _
  have d2 : decide (0 < Y) = false := decide_eq_false c2
  have d3 : decide (Z ≤ 0) = true := decide_eq_true (t1 (by omega) (by omega))
  by_cases c4 : 0 ≤ X
  · have d4 : decide (0 ≤ X) = true := decide_eq_true c4
    simp only [OpsW_nil, OpsW_n, OpsW_y, OpsW_xf, StepW, pok, pval, VA.ev, Env.get, Env.put, Env.keep, thenQ, pickV, isBool, intV, binV, binOk, Nat.succ_ne_self, Nat.reduceEqDiff, Bool.false_eq_true, ite_true, ite_false, true_and, d1, d2, d3, d4]
    refine VW_ret ?_
    try simp only [Env.get, retQ, resV, resOk, RS.ev, RS.ok, ite_true, true_and, and_true]
    exact View.refl _ _
  have d4 : decide (0 ≤ X) = false := decide_eq_false c4
  by_cases c5 : 0 ≤ Y
  · have d5 : decide (0 ≤ Y) = true := decide_eq_true c5
    simp only [OpsW_nil, OpsW_n, OpsW_y, OpsW_xf, StepW, pok, pval, VA.ev, Env.get, Env.put, Env.keep, thenQ, pickV, isBool, intV, binV, binOk, Nat.succ_ne_self, Nat.reduceEqDiff, Bool.false_eq_true, ite_true, ite_false, true_and, d1, d2, d3, d4, d5]
    refine VW_ret ?_
    try simp only [Env.get, retQ, resV, resOk, RS.ev, RS.ok, ite_true, true_and, and_true]
    exact View.refl _ _
  have d5 : decide (0 ≤ Y) = false := decide_eq_false c5
  have d6 : decide (Z < 0) = true := decide_eq_true (t2 (by omega) (by omega))
  simp only [OpsW_nil, OpsW_n, OpsW_y, StepW, pok, pval, VA.ev, Env.get, Env.put, Env.keep, thenQ, pickV, isBool, intV, binV, binOk, Nat.succ_ne_self, Nat.reduceEqDiff, Bool.false_eq_true, ite_true, ite_false, true_and, d1, d2, d3, d4, d5, d6]
  refine VW_ret ?_
  try simp only [Env.get, retQ, resV, resOk, RS.ev, RS.ok, ite_true, true_and, and_true]
  exact View.refl _ _
theorem law_LabelNext (s o : Str) (_ : okS s) (_ : okS o) : PCall Tryd.prog 5 [.str s, .str o] (.bool true) := by
  refine PCall_intro ?_ (cB _) (by simp only [ClosedL, List.mem_cons, List.not_mem_nil, or_false, forall_eq_or_imp, forall_eq, false_implies, implies_true]; repeat' (first | exact cI _ | exact cS _ | exact cB _ | exact closed_fn0 _ | exact closed_nilsl | exact closed_agg (Un.closed _) | exact closed_agg (It.closed _) | exact closed_agg (EI.closed _) | exact closed_agg (Ac.closed _) | exact closed_agg (Wd.closed _) | exact closed_agg (St.closed _) | exact closed_agg (Sta.closed _) | exact closed_eis _ | exact closed_acs _ | exact closed_gzs _ | exact Closed.of_scalar (scalar_int _ _) | exact closed_ro (Ac.closed _) | exact closed_ro (Gz.closed _) | exact closed_agg (Gz.closed _) | exact closed_strs _ | exact closed_map (fun w _ => Wd.closed w) | exact closed_map (fun w _ => St.closed w) | exact closed_map (fun w _ => Un.closed w) | exact closed_map (fun w _ => It.closed w) | exact closed_sc _ | exact closed_sps _ | exact closed_agg (Sp.closed _) | exact closed_ro (EI.closed _) | exact closed_ro (Sta.closed _) | exact closed_ro (It.closed _) | exact closed_ro (by simp only [List.mem_cons, List.not_mem_nil, or_false, forall_eq]; first | exact cI _ | exact cS _ | exact closed_eis _) | refine And.intro ?_ ?_))
  refine ACall_fn (vc := c_pandectlaw03_LabelNext) (ts := [.t 4]) Go.Proofs.Tryd.func5 (by kernel_rfl) rfl rfl (Nat.le_of_ble_eq_true rfl) (by kernel_rfl) ?_
  unfold c_pandectlaw03_LabelNext
  refine VW_seq (VW_region [0, 1] ?_)
  simp only [OpsW_nil, OpsW_n, StepW, pok, pval, VA.ev, Env.get, Env.put, Env.keep, argEnv, thenQ, Heap.nil, Nat.succ_ne_self, Nat.reduceEqDiff, ite_true, ite_false, true_and, reduceCtorEq, Nat.zero_add]
  refine VW_seq ?_
  refine VW_seqE (σ := { x : Bool // x = false → s.length ≤ 1000000 ∧ o.length ≤ 1000000 }) [0, 1, 23] (fun x => [(0, .str s), (1, .str o), (23, .bool x.1)]) ?_ ?_
  · simp only [OpsW_n, StepW, pok, pval, VA.ev, Env.get, Env.put, Env.keep, unV, unOk, Nat.succ_ne_self, Env.le, List.map, Nat.reduceEqDiff, ite_true, ite_false, true_and, and_true, reduceCtorEq]
    refine ACall_p awake ?_
    by_cases la : s.length ≤ 100
    · have e1 : decide ((100 : Int) < (s.length : Int)) = false := by simp only [decide_eq_false_iff_not]; omega
      simp only [OpsW_nil, OpsW_n, OpsW_y, StepW, pok, pval, VA.ev, Env.get, Env.put, pickV, isBool, intV, binV, binOk, lenV, lenOk, Nat.succ_ne_self, Nat.reduceEqDiff, Bool.false_eq_true, ite_true, ite_false, true_and, and_true, reduceCtorEq, Bool.not_true, e1]
      exact ⟨⟨decide ((100 : Int) < (o.length : Int)), fun h => by simp only [decide_eq_false_iff_not] at h; omega⟩, rfl⟩
    · have e1 : decide ((100 : Int) < (s.length : Int)) = true := by simp only [decide_eq_true_eq]; omega
      simp only [OpsW_nil, OpsW_n, OpsW_y, OpsW_xf, StepW, pok, pval, VA.ev, Env.get, Env.put, pickV, isBool, intV, binV, binOk, lenV, lenOk, Nat.succ_ne_self, Nat.reduceEqDiff, Bool.false_eq_true, ite_true, ite_false, true_and, and_true, reduceCtorEq, Bool.not_true, e1]
      exact ⟨⟨true, fun h => by cases h⟩, rfl⟩
  rintro ⟨x, hx⟩
  simp only []
  refine VW_cond rfl (fun h1 => ?_) (fun h1 => ?_)
  · refine VW_seq (VW_region [4] ?_)
    simp only [OpsW_nil, OpsW_n, StepW, pok, pval, VA.ev, Env.get, Env.put, Env.keep, thenQ, List.map, Nat.reduceEqDiff, ite_true, ite_false, true_and, reduceCtorEq]
    refine ACall_p awake ?_
    skip
    refine VW_ret ?_
    try simp only [Env.get, thenQ, retQ, resV, resOk, RS.ev, RS.ok, ite_true, true_and, and_true]
    exact View.refl _ _
  obtain ⟨la, lb⟩ := hx h1
  refine VW_skip ?_
  try simp only [thenQ]
  refine VW_seq (VW_region [0, 1, 5, 6] ?_)
  simp only [OpsW_nil, OpsW_n, StepW, pok, pval, VA.ev, Env.get, Env.put, Env.keep, thenQ, extV, extOk, PV.nth, Nat.succ_ne_self, List.map, Nat.reduceEqDiff, ite_true, ite_false, true_and, reduceCtorEq]
  refine ACall_p (sp_label_Next s la) ?_
  try simp only [List.length, List.getD_cons_zero, List.getD_cons_succ, Nat.reduceAdd, Nat.reduceLT, true_and, Nat.zero_add, optT]
  refine VW_seq (VW_region [0, 1, 5, 6, 7] ?_)
  simp only [OpsW_nil, OpsW_n, StepW, pok, pval, VA.ev, Env.get, Env.put, Env.keep, thenQ, Nat.succ_ne_self, List.map, Nat.reduceEqDiff, ite_true, ite_false, true_and, reduceCtorEq]
  refine ACall_p (sp_pandectref03_Next s la) ?_
  try simp only [nextR]
  refine VW_seq ?_
  cases hn : nextS s with
  | none =>
    refine VW_seq (VW_region [0, 1, 5, 6, 40] ?_)
    simp only [OpsW_nil, OpsW_n, OpsW_y, StepW, pok, pval, VA.ev, Env.get, Env.put, Env.keep, thenQ, pickV, isBool, binV, binOk, strV, binbV, boolV, binbOk, Nat.succ_ne_self, Nat.reduceEqDiff, Bool.false_eq_true, ite_true, ite_false, true_and, reduceCtorEq, Option.getD_none, Option.isSome_none, bne_self_eq_false]
    refine VW_cond rfl (fun h => by cases h) (fun _ => ?_)
    refine VW_skip ?_
    try simp only [thenQ]
    refine VW_seq ?_
    refine VW_seq (VW_region [0, 1, 5, 6, 59] ?_)
    simp only [OpsW_nil, OpsW_n, OpsW_xf, StepW, pok, pval, VA.ev, Env.get, Env.put, Env.keep, thenQ, pickV, isBool, unV, unOk, Nat.succ_ne_self, Nat.reduceEqDiff, ite_true, ite_false, true_and, reduceCtorEq, Bool.not_false]
    refine VW_cond rfl (fun _ => ?_) (fun h => by cases h)
    refine VW_seq (VW_region [4] ?_)
    simp only [OpsW_nil, OpsW_n, OpsW_xf, OpsW_u, StepW, pok, pval, VA.ev, Env.get, Env.put, Env.keep, thenQ, pickV, isBool, unV, unOk, Nat.succ_ne_self, Nat.reduceEqDiff, ite_true, ite_false, true_and, reduceCtorEq, Bool.not_false]
    refine VW_ret ?_
    try simp only [Env.get, thenQ, retQ, resV, resOk, RS.ev, RS.ok, ite_true, true_and, and_true]
    exact View.refl _ _
  | some t =>
    obtain ⟨hs, ht, hlt, hgap⟩ := next_some hn
    obtain ⟨hl7, hne⟩ := label_len' ht
    have lt : t.length ≤ 1000000 := by omega
    have e1 : (t != []) = true := by simpa using hne
    refine VW_seq (VW_region [0, 1, 5, 6, 40] ?_)
    simp only [OpsW_nil, OpsW_n, OpsW_y, StepW, pok, pval, VA.ev, Env.get, Env.put, Env.keep, thenQ, pickV, isBool, binV, binOk, strV, binbV, boolV, binbOk, Nat.succ_ne_self, Nat.reduceEqDiff, Bool.false_eq_true, ite_true, ite_false, true_and, reduceCtorEq, Option.getD_some, Option.isSome_some, bne_self_eq_false, e1]
    refine VW_cond rfl (fun h => by cases h) (fun _ => ?_)
    refine VW_skip ?_
    try simp only [thenQ]
    refine VW_seq ?_
    refine VW_seqE (σ := { x : Bool // x = false → may o = true ∧ ltL s o ∧ ltL o t }) [0, 1, 5, 6, 59] (fun x => [(0, .str s), (1, .str o), (5, .str t), (6, .bool true), (59, .bool x.1)]) ?_ ?_
    · have V := sp_label_Valid o lb
      cases hmo : may o <;> rw [hmo] at V
      · simp only [OpsW_n, OpsW_y, StepW, pok, pval, VA.ev, Env.get, Env.put, Env.keep, pickV, isBool, unV, unOk, Nat.succ_ne_self, Env.le, List.map, Nat.reduceEqDiff, Bool.false_eq_true, ite_true, ite_false, true_and, and_true, reduceCtorEq, Bool.not_true]
        refine ACall_p V ?_
        try simp only [OpsW_nil, OpsW_n, OpsW_xf, StepW, pok, pval, VA.ev, Env.get, Env.put, pickV, isBool, Nat.succ_ne_self, Nat.reduceEqDiff, ite_true, ite_false, true_and, and_true, reduceCtorEq, Bool.not_false]
        exact ⟨⟨true, fun h => by cases h⟩, rfl⟩
      · simp only [OpsW_n, OpsW_y, StepW, pok, pval, VA.ev, Env.get, Env.put, Env.keep, pickV, isBool, unV, unOk, Nat.succ_ne_self, Env.le, List.map, Nat.reduceEqDiff, Bool.false_eq_true, ite_true, ite_false, true_and, and_true, reduceCtorEq, Bool.not_true]
        refine ACall_p V ?_
        try simp only [OpsW_n, OpsW_y, StepW, pok, pval, VA.ev, Env.get, Env.put, pickV, isBool, intV, binV, binOk, strV, Nat.succ_ne_self, List.map, Nat.reduceEqDiff, Bool.false_eq_true, ite_true, ite_false, true_and, reduceCtorEq, Bool.not_true]
        refine ACall_p (sp_label_Compare s o la lb) ?_
        by_cases c1 : cmpL s o < 0
        · have d1 : decide ((0 : Int) ≤ cmpL s o) = false := decide_eq_false (by omega)
          simp only [OpsW_nil, OpsW_n, OpsW_y, StepW, pok, pval, VA.ev, Env.get, Env.put, pickV, isBool, intV, binV, binOk, strV, Nat.succ_ne_self, List.map, Nat.reduceEqDiff, Bool.false_eq_true, ite_true, ite_false, true_and, reduceCtorEq, d1]
          refine ACall_p (sp_label_Compare o t lb lt) ?_
          try simp only [true_and, and_true]
          exact ⟨⟨decide ((0 : Int) ≤ cmpL o t), fun h => ⟨rfl, cmpL_lt.1 c1, cmpL_lt.1 (by simp only [decide_eq_false_iff_not] at h; omega)⟩⟩, rfl⟩
        · have d1 : decide ((0 : Int) ≤ cmpL s o) = true := decide_eq_true (by omega)
          simp only [OpsW_nil, OpsW_n, OpsW_xf, StepW, pok, pval, VA.ev, Env.get, Env.put, pickV, isBool, Nat.succ_ne_self, Nat.reduceEqDiff, ite_true, ite_false, true_and, and_true, reduceCtorEq, d1]
          exact ⟨⟨true, fun h => by cases h⟩, rfl⟩
    rintro ⟨y, hy⟩
    simp only []
    refine VW_cond rfl (fun h2 => ?_) (fun h2 => ?_)
    · have d1 : decide (cmpL s t < 0) = true := decide_eq_true (cmpL_lt.2 hlt)
      refine VW_seq (VW_region [4] ?_)
      simp only [OpsW_n, OpsW_y, StepW, pok, pval, VA.ev, Env.get, Env.put, Env.keep, thenQ, intV, binV, binOk, strV, unV, unOk, Nat.succ_ne_self, List.map, Nat.reduceEqDiff, ite_true, ite_false, true_and, reduceCtorEq, Bool.not_true]
      refine ACall_p (sp_label_Compare s t la lt) ?_
      try simp only [OpsW_nil, OpsW_n, OpsW_y, StepW, pok, pval, VA.ev, Env.get, Env.put, pickV, isBool, Nat.succ_ne_self, List.map, Nat.reduceEqDiff, Bool.false_eq_true, ite_true, ite_false, true_and, reduceCtorEq, d1]
      refine ACall_p (sp_label_Valid t lt) ?_
      try simp only [ht]
      refine VW_ret ?_
      try simp only [Env.get, thenQ, retQ, resV, resOk, RS.ev, RS.ok, ite_true, true_and, and_true]
      exact View.refl _ _
    obtain ⟨hmo, hso, hot⟩ := hy h2
    have hg := hgap o hmo hso hot
    have ec : splitC s = caps s := by simp [splitC, hs]
    have ed : splitC o = caps o := by simp [splitC, hmo]
    refine VW_skip ?_
    try simp only [thenQ]
    refine VW_seq (VW_region [1, 9] ?_)
    simp only [OpsW_nil, OpsW_n, StepW, pok, pval, VA.ev, Env.get, Env.put, Env.keep, thenQ, extV, extOk, PV.nth, Nat.succ_ne_self, List.map, Nat.reduceEqDiff, ite_true, ite_false, true_and, reduceCtorEq]
    refine ACall_p (sp_label_Split s la) ?_
    try simp only [List.length, List.getD_cons_zero, List.getD_cons_succ, Nat.reduceAdd, Nat.reduceLT, true_and, Nat.zero_add]
    refine VW_seq (VW_region [9, 11] ?_)
    simp only [OpsW_nil, OpsW_n, StepW, pok, pval, VA.ev, Env.get, Env.put, Env.keep, thenQ, extV, extOk, PV.nth, Nat.succ_ne_self, List.map, Nat.reduceEqDiff, ite_true, ite_false, true_and]
    refine ACall_p (sp_label_Split o lb) ?_
    try simp only [List.length, List.getD_cons_zero, List.getD_cons_succ, Nat.reduceAdd, Nat.reduceLT, true_and, Nat.zero_add]
    have d2 : decide (((splitC s).length : Int) < ((splitC o).length : Int)) = true := by rw [ec, ed]; exact decide_eq_true (by omega)
    refine VW_seq (VW_region [4] ?_)
    simp only [OpsW_nil, OpsW_n, StepW, pok, pval, VA.ev, Env.get, Env.put, Env.keep, thenQ, intV, binV, binOk, lenV, lenOk, Nat.succ_ne_self, Nat.reduceEqDiff, ite_true, ite_false, true_and, d2]
    refine VW_ret ?_
    try simp only [Env.get, retQ, resV, resOk, RS.ev, RS.ok, ite_true, true_and, and_true]
    exact View.refl _ _
theorem law_LabelBetween (a b : Str) (_ : okS a) (_ : okS b) : PCall Tryd.prog 6 [.str a, .str b] (.bool true) := by
  refine PCall_intro ?_ (cB _) (by simp only [ClosedL, List.mem_cons, List.not_mem_nil, or_false, forall_eq_or_imp, forall_eq, false_implies, implies_true]; repeat' (first | exact cI _ | exact cS _ | exact cB _ | exact closed_fn0 _ | exact closed_nilsl | exact closed_agg (Un.closed _) | exact closed_agg (It.closed _) | exact closed_agg (EI.closed _) | exact closed_agg (Ac.closed _) | exact closed_agg (Wd.closed _) | exact closed_agg (St.closed _) | exact closed_agg (Sta.closed _) | exact closed_eis _ | exact closed_acs _ | exact closed_gzs _ | exact Closed.of_scalar (scalar_int _ _) | exact closed_ro (Ac.closed _) | exact closed_ro (Gz.closed _) | exact closed_agg (Gz.closed _) | exact closed_strs _ | exact closed_map (fun w _ => Wd.closed w) | exact closed_map (fun w _ => St.closed w) | exact closed_map (fun w _ => Un.closed w) | exact closed_map (fun w _ => It.closed w) | exact closed_sc _ | exact closed_sps _ | exact closed_agg (Sp.closed _) | exact closed_ro (EI.closed _) | exact closed_ro (Sta.closed _) | exact closed_ro (It.closed _) | exact closed_ro (by simp only [List.mem_cons, List.not_mem_nil, or_false, forall_eq]; first | exact cI _ | exact cS _ | exact closed_eis _) | refine And.intro ?_ ?_))
  refine ACall_fn (vc := c_pandectlaw03_LabelBetween) (ts := [.t 4]) Go.Proofs.Tryd.func6 (by kernel_rfl) rfl rfl (Nat.le_of_ble_eq_true rfl) (by kernel_rfl) ?_
  unfold c_pandectlaw03_LabelBetween
  refine VW_seq (VW_region [0, 1] ?_)
  simp only [OpsW_nil, OpsW_n, StepW, pok, pval, VA.ev, Env.get, Env.put, Env.keep, argEnv, thenQ, Heap.nil, Nat.succ_ne_self, Nat.reduceEqDiff, ite_true, ite_false, true_and, reduceCtorEq, Nat.zero_add]
  refine VW_seq ?_
  refine VW_seqE (σ := { x : Bool // x = false → a.length ≤ 1000000 ∧ b.length ≤ 1000000 }) [0, 1, 19] (fun x => [(0, .str a), (1, .str b), (19, .bool x.1)]) ?_ ?_
  · simp only [OpsW_n, StepW, pok, pval, VA.ev, Env.get, Env.put, Env.keep, unV, unOk, Nat.succ_ne_self, Env.le, List.map, Nat.reduceEqDiff, ite_true, ite_false, true_and, and_true, reduceCtorEq]
    refine ACall_p awake ?_
    by_cases la : a.length ≤ 100
    · have e1 : decide ((100 : Int) < (a.length : Int)) = false := by simp only [decide_eq_false_iff_not]; omega
      simp only [OpsW_nil, OpsW_n, OpsW_y, StepW, pok, pval, VA.ev, Env.get, Env.put, pickV, isBool, intV, binV, binOk, lenV, lenOk, Nat.succ_ne_self, Nat.reduceEqDiff, Bool.false_eq_true, ite_true, ite_false, true_and, and_true, reduceCtorEq, Bool.not_true, e1]
      exact ⟨⟨decide ((100 : Int) < (b.length : Int)), fun h => by simp only [decide_eq_false_iff_not] at h; omega⟩, rfl⟩
    · have e1 : decide ((100 : Int) < (a.length : Int)) = true := by simp only [decide_eq_true_eq]; omega
      simp only [OpsW_nil, OpsW_n, OpsW_y, OpsW_xf, StepW, pok, pval, VA.ev, Env.get, Env.put, pickV, isBool, intV, binV, binOk, lenV, lenOk, Nat.succ_ne_self, Nat.reduceEqDiff, Bool.false_eq_true, ite_true, ite_false, true_and, and_true, reduceCtorEq, Bool.not_true, e1]
      exact ⟨⟨true, fun h => by cases h⟩, rfl⟩
  rintro ⟨x, hx⟩
  simp only []
  refine VW_cond rfl (fun h1 => ?_) (fun h1 => ?_)
  · refine VW_seq (VW_region [4] ?_)
    simp only [OpsW_nil, OpsW_n, StepW, pok, pval, VA.ev, Env.get, Env.put, Env.keep, thenQ, List.map, Nat.reduceEqDiff, ite_true, ite_false, true_and, reduceCtorEq]
    refine ACall_p awake ?_
    skip
    refine VW_ret ?_
    try simp only [Env.get, thenQ, retQ, resV, resOk, RS.ev, RS.ok, ite_true, true_and, and_true]
    exact View.refl _ _
  obtain ⟨la, lb⟩ := hx h1
  refine VW_skip ?_
  try simp only [thenQ]
  refine VW_seq (VW_region [0, 1, 5, 6] ?_)
  simp only [OpsW_nil, OpsW_n, StepW, pok, pval, VA.ev, Env.get, Env.put, Env.keep, thenQ, extV, extOk, PV.nth, Nat.succ_ne_self, List.map, Nat.reduceEqDiff, ite_true, ite_false, true_and, reduceCtorEq]
  refine ACall_p (sp_label_Between a b la lb) ?_
  try simp only [List.length, List.getD_cons_zero, List.getD_cons_succ, Nat.reduceAdd, Nat.reduceLT, true_and, Nat.zero_add, optT]
  refine VW_seq (VW_region [5, 6, 7] ?_)
  simp only [OpsW_nil, OpsW_n, StepW, pok, pval, VA.ev, Env.get, Env.put, Env.keep, thenQ, Nat.succ_ne_self, List.map, Nat.reduceEqDiff, ite_true, ite_false, true_and, reduceCtorEq]
  refine ACall_p (sp_pandectref03_Between a b la lb) ?_
  try simp only [betR]
  have e1 : ((between a b).isSome == ((between a b).getD [] != [])) = true := by
    cases h : between a b with
    | none => rfl
    | some t =>
      have := (label_len' (between_some h).2.2.1.1).2
      simp [this]
  refine VW_seq (VW_region [4] ?_)
  simp only [OpsW_nil, OpsW_n, OpsW_y, StepW, pok, pval, VA.ev, Env.get, Env.put, Env.keep, thenQ, pickV, isBool, binV, binOk, strV, binbV, boolV, binbOk, Nat.succ_ne_self, Nat.reduceEqDiff, ite_true, ite_false, true_and, BEq.rfl, e1]
  refine VW_ret ?_
  try simp only [Env.get, retQ, resV, resOk, RS.ev, RS.ok, ite_true, true_and, and_true]
  exact View.refl _ _
theorem law_LabelBetweenMinimal (a b o : Str) (_ : okS a) (_ : okS b) (_ : okS o) : PCall Tryd.prog 7 [.str a, .str b, .str o] (.bool true) := by
  refine PCall_intro ?_ (cB _) (by simp only [ClosedL, List.mem_cons, List.not_mem_nil, or_false, forall_eq_or_imp, forall_eq, false_implies, implies_true]; repeat' (first | exact cI _ | exact cS _ | exact cB _ | exact closed_fn0 _ | exact closed_nilsl | exact closed_agg (Un.closed _) | exact closed_agg (It.closed _) | exact closed_agg (EI.closed _) | exact closed_agg (Ac.closed _) | exact closed_agg (Wd.closed _) | exact closed_agg (St.closed _) | exact closed_agg (Sta.closed _) | exact closed_eis _ | exact closed_acs _ | exact closed_gzs _ | exact Closed.of_scalar (scalar_int _ _) | exact closed_ro (Ac.closed _) | exact closed_ro (Gz.closed _) | exact closed_agg (Gz.closed _) | exact closed_strs _ | exact closed_map (fun w _ => Wd.closed w) | exact closed_map (fun w _ => St.closed w) | exact closed_map (fun w _ => Un.closed w) | exact closed_map (fun w _ => It.closed w) | exact closed_sc _ | exact closed_sps _ | exact closed_agg (Sp.closed _) | exact closed_ro (EI.closed _) | exact closed_ro (Sta.closed _) | exact closed_ro (It.closed _) | exact closed_ro (by simp only [List.mem_cons, List.not_mem_nil, or_false, forall_eq]; first | exact cI _ | exact cS _ | exact closed_eis _) | refine And.intro ?_ ?_))
  refine ACall_fn (vc := c_pandectlaw03_LabelBetweenMinimal) (ts := [.t 6]) Go.Proofs.Tryd.func7 (by kernel_rfl) rfl rfl (Nat.le_of_ble_eq_true rfl) (by kernel_rfl) ?_
  unfold c_pandectlaw03_LabelBetweenMinimal
  refine VW_seq (VW_region [0, 1, 2] ?_)
  simp only [OpsW_nil, OpsW_n, StepW, pok, pval, VA.ev, Env.get, Env.put, Env.keep, argEnv, thenQ, Heap.nil, Nat.succ_ne_self, Nat.reduceEqDiff, Nat.reduceAdd, ite_true, ite_false, true_and, reduceCtorEq, Nat.zero_add]
  refine VW_seq ?_
  refine VW_seqE (σ := { x : Bool // x = false → a.length ≤ 1000000 ∧ b.length ≤ 1000000 ∧ o.length ≤ 1000000 }) [0, 1, 2, 30] (fun x => [(0, .str a), (1, .str b), (2, .str o), (30, .bool x.1)]) ?_ ?_
  · simp only [OpsW_n, StepW, pok, pval, VA.ev, Env.get, Env.put, Env.keep, unV, unOk, Nat.succ_ne_self, Env.le, List.map, Nat.reduceEqDiff, ite_true, ite_false, true_and, and_true, reduceCtorEq]
    refine ACall_p awake ?_
    by_cases la : a.length ≤ 100
    · have e1 : decide ((100 : Int) < (a.length : Int)) = false := by simp only [decide_eq_false_iff_not]; omega
      by_cases lb : b.length ≤ 100
      · have e2 : decide ((100 : Int) < (b.length : Int)) = false := by simp only [decide_eq_false_iff_not]; omega
        simp only [OpsW_nil, OpsW_n, OpsW_y, StepW, pok, pval, VA.ev, Env.get, Env.put, pickV, isBool, intV, binV, binOk, lenV, lenOk, Nat.succ_ne_self, Nat.reduceEqDiff, Bool.false_eq_true, ite_true, ite_false, true_and, and_true, reduceCtorEq, Bool.not_true, e1, e2]
        exact ⟨⟨decide ((100 : Int) < (o.length : Int)), fun h => by simp only [decide_eq_false_iff_not] at h; omega⟩, rfl⟩
      · have e2 : decide ((100 : Int) < (b.length : Int)) = true := by simp only [decide_eq_true_eq]; omega
        simp only [OpsW_nil, OpsW_n, OpsW_y, OpsW_xf, StepW, pok, pval, VA.ev, Env.get, Env.put, pickV, isBool, intV, binV, binOk, lenV, lenOk, Nat.succ_ne_self, Nat.reduceEqDiff, Bool.false_eq_true, ite_true, ite_false, true_and, and_true, reduceCtorEq, Bool.not_true, e1, e2]
        exact ⟨⟨true, fun h => by cases h⟩, rfl⟩
    · have e1 : decide ((100 : Int) < (a.length : Int)) = true := by simp only [decide_eq_true_eq]; omega
      simp only [OpsW_nil, OpsW_n, OpsW_y, OpsW_xf, StepW, pok, pval, VA.ev, Env.get, Env.put, pickV, isBool, intV, binV, binOk, lenV, lenOk, Nat.succ_ne_self, Nat.reduceEqDiff, Bool.false_eq_true, ite_true, ite_false, true_and, and_true, reduceCtorEq, Bool.not_true, e1]
      exact ⟨⟨true, fun h => by cases h⟩, rfl⟩
  rintro ⟨x, hx⟩
  simp only []
  refine VW_cond rfl (fun h1 => ?_) (fun h1 => ?_)
  · refine VW_seq (VW_region [6] ?_)
    simp only [OpsW_nil, OpsW_n, StepW, pok, pval, VA.ev, Env.get, Env.put, Env.keep, thenQ, List.map, Nat.reduceEqDiff, ite_true, ite_false, true_and, reduceCtorEq]
    refine ACall_p awake ?_
    skip
    refine VW_ret ?_
    try simp only [Env.get, thenQ, retQ, resV, resOk, RS.ev, RS.ok, ite_true, true_and, and_true]
    exact View.refl _ _
  obtain ⟨la, lb, lo⟩ := hx h1
  refine VW_skip ?_
  try simp only [thenQ]
  refine VW_seq (VW_region [0, 1, 2, 7, 8] ?_)
  simp only [OpsW_nil, OpsW_n, StepW, pok, pval, VA.ev, Env.get, Env.put, Env.keep, thenQ, extV, extOk, PV.nth, Nat.succ_ne_self, List.map, Nat.reduceEqDiff, ite_true, ite_false, true_and, reduceCtorEq]
  refine ACall_p (sp_label_Between a b la lb) ?_
  try simp only [List.length, List.getD_cons_zero, List.getD_cons_succ, Nat.reduceAdd, Nat.reduceLT, true_and, Nat.zero_add, optT]
  have vA := sp_label_Valid a la
  have vB := sp_label_Valid b lb
  have vO := sp_label_Valid o lo
  refine VW_seqE (σ := { x : Bool // x = true ↔ (may a = true ∧ may b = true ∧ btw a b o) }) [0, 1, 2, 7, 8, 9] (fun x => [(0, .str a), (1, .str b), (2, .str o), (7, .str ((between a b).getD [])), (8, .bool (between a b).isSome), (9, .bool x.1)]) ?_ ?_
  · cases hma : may a <;> rw [hma] at vA
    · simp only [OpsW_n, StepW, pok, pval, VA.ev, Env.get, Env.put, Env.keep, Nat.succ_ne_self, Env.le, List.map, Nat.reduceEqDiff, ite_true, ite_false, true_and, and_true, reduceCtorEq]
      refine ACall_p vA ?_
      try simp only [OpsW_nil, OpsW_n, OpsW_xt, StepW, pok, pval, VA.ev, Env.get, Env.put, pickV, isBool, Nat.succ_ne_self, Nat.reduceEqDiff, Bool.false_eq_true, ite_true, ite_false, true_and, and_true, reduceCtorEq]
      exact ⟨⟨false, by simp⟩, rfl⟩
    cases hmb : may b <;> rw [hmb] at vB
    · simp only [OpsW_n, StepW, pok, pval, VA.ev, Env.get, Env.put, Env.keep, Nat.succ_ne_self, Env.le, List.map, Nat.reduceEqDiff, ite_true, ite_false, true_and, and_true, reduceCtorEq]
      refine ACall_p vA ?_
      try simp only [OpsW_n, OpsW_y, StepW, pok, pval, VA.ev, Env.get, Env.put, pickV, isBool, Nat.succ_ne_self, List.map, Nat.reduceEqDiff, ite_true, ite_false, true_and, reduceCtorEq]
      refine ACall_p vB ?_
      try simp only [OpsW_nil, OpsW_n, OpsW_xt, StepW, pok, pval, VA.ev, Env.get, Env.put, pickV, isBool, Nat.succ_ne_self, Nat.reduceEqDiff, Bool.false_eq_true, ite_true, ite_false, true_and, and_true, reduceCtorEq]
      exact ⟨⟨false, by simp⟩, rfl⟩
    cases hmo : may o <;> rw [hmo] at vO
    · simp only [OpsW_n, StepW, pok, pval, VA.ev, Env.get, Env.put, Env.keep, Nat.succ_ne_self, Env.le, List.map, Nat.reduceEqDiff, ite_true, ite_false, true_and, and_true, reduceCtorEq]
      refine ACall_p vA ?_
      try simp only [OpsW_n, OpsW_y, StepW, pok, pval, VA.ev, Env.get, Env.put, pickV, isBool, Nat.succ_ne_self, List.map, Nat.reduceEqDiff, ite_true, ite_false, true_and, reduceCtorEq]
      refine ACall_p vB ?_
      try simp only [OpsW_n, OpsW_y, StepW, pok, pval, VA.ev, Env.get, Env.put, pickV, isBool, Nat.succ_ne_self, List.map, Nat.reduceEqDiff, ite_true, ite_false, true_and, reduceCtorEq]
      refine ACall_p vO ?_
      try simp only [OpsW_nil, OpsW_n, OpsW_xt, StepW, pok, pval, VA.ev, Env.get, Env.put, pickV, isBool, Nat.succ_ne_self, Nat.reduceEqDiff, Bool.false_eq_true, ite_true, ite_false, true_and, and_true, reduceCtorEq]
      exact ⟨⟨false, by simp [btw, hmo]⟩, rfl⟩
    by_cases c1 : cmpL a o < 0
    · have d1 : decide (cmpL a o < 0) = true := decide_eq_true c1
      simp only [OpsW_n, StepW, pok, pval, VA.ev, Env.get, Env.put, Env.keep, Nat.succ_ne_self, Env.le, List.map, Nat.reduceEqDiff, ite_true, ite_false, true_and, and_true, reduceCtorEq]
      refine ACall_p vA ?_
      try simp only [OpsW_n, OpsW_y, StepW, pok, pval, VA.ev, Env.get, Env.put, pickV, isBool, Nat.succ_ne_self, List.map, Nat.reduceEqDiff, ite_true, ite_false, true_and, reduceCtorEq]
      refine ACall_p vB ?_
      try simp only [OpsW_n, OpsW_y, StepW, pok, pval, VA.ev, Env.get, Env.put, pickV, isBool, Nat.succ_ne_self, List.map, Nat.reduceEqDiff, ite_true, ite_false, true_and, reduceCtorEq]
      refine ACall_p vO ?_
      try simp only [OpsW_n, OpsW_y, StepW, pok, pval, VA.ev, Env.get, Env.put, pickV, isBool, intV, binV, binOk, strV, Nat.succ_ne_self, List.map, Nat.reduceEqDiff, ite_true, ite_false, true_and, reduceCtorEq]
      refine ACall_p (sp_label_Compare a o la lo) ?_
      try simp only [OpsW_nil, OpsW_n, OpsW_y, StepW, pok, pval, VA.ev, Env.get, Env.put, pickV, isBool, intV, binV, binOk, strV, Nat.succ_ne_self, List.map, Nat.reduceEqDiff, ite_true, ite_false, true_and, reduceCtorEq, d1]
      refine ACall_p (sp_label_Compare o b lo lb) ?_
      try simp only [true_and, and_true]
      exact ⟨⟨decide (cmpL o b < 0), by rw [cmpL_lt] at c1; simp [btw, hmo, c1, cmpL_lt]⟩, rfl⟩
    · have d1 : decide (cmpL a o < 0) = false := decide_eq_false c1
      simp only [OpsW_n, StepW, pok, pval, VA.ev, Env.get, Env.put, Env.keep, Nat.succ_ne_self, Env.le, List.map, Nat.reduceEqDiff, ite_true, ite_false, true_and, and_true, reduceCtorEq]
      refine ACall_p vA ?_
      try simp only [OpsW_n, OpsW_y, StepW, pok, pval, VA.ev, Env.get, Env.put, pickV, isBool, Nat.succ_ne_self, List.map, Nat.reduceEqDiff, ite_true, ite_false, true_and, reduceCtorEq]
      refine ACall_p vB ?_
      try simp only [OpsW_n, OpsW_y, StepW, pok, pval, VA.ev, Env.get, Env.put, pickV, isBool, Nat.succ_ne_self, List.map, Nat.reduceEqDiff, ite_true, ite_false, true_and, reduceCtorEq]
      refine ACall_p vO ?_
      try simp only [OpsW_n, OpsW_y, StepW, pok, pval, VA.ev, Env.get, Env.put, pickV, isBool, intV, binV, binOk, strV, Nat.succ_ne_self, List.map, Nat.reduceEqDiff, ite_true, ite_false, true_and, reduceCtorEq]
      refine ACall_p (sp_label_Compare a o la lo) ?_
      try simp only [OpsW_nil, OpsW_n, OpsW_xt, StepW, pok, pval, VA.ev, Env.get, Env.put, pickV, isBool, Nat.succ_ne_self, Nat.reduceEqDiff, Bool.false_eq_true, ite_true, ite_false, true_and, and_true, reduceCtorEq, d1]
      exact ⟨⟨false, by rw [cmpL_lt] at c1; simp [btw, c1]⟩, rfl⟩
  rintro ⟨th, hth⟩
  simp only []
  refine VW_seq ?_
  cases hbt : between a b with
  | none =>
    have hno : th = false := by
      cases h : th with
      | false => rfl
      | true =>
        obtain ⟨h1, h2, h3⟩ := hth.1 h
        exact absurd h3 (between_none h1 h2 hbt o)
    subst hno
    refine VW_seq (VW_region [0, 1, 2, 7, 9, 61] ?_)
    simp only [OpsW_nil, OpsW_n, StepW, pok, pval, VA.ev, Env.get, Env.put, Env.keep, thenQ, unV, unOk, Nat.succ_ne_self, Nat.reduceEqDiff, ite_true, ite_false, true_and, reduceCtorEq, Bool.not_false, Option.getD_none, Option.isSome_none]
    refine VW_cond rfl (fun _ => ?_) (fun h => by cases h)
    refine VW_seq (VW_region [6] ?_)
    simp only [OpsW_nil, OpsW_n, OpsW_y, StepW, pok, pval, VA.ev, Env.get, Env.put, Env.keep, thenQ, pickV, isBool, binV, binOk, strV, unV, unOk, Nat.succ_ne_self, Nat.reduceEqDiff, ite_true, ite_false, true_and, reduceCtorEq, BEq.rfl, Bool.not_false]
    refine VW_ret ?_
    try simp only [Env.get, thenQ, retQ, resV, resOk, RS.ev, RS.ok, ite_true, true_and, and_true]
    exact View.refl _ _
  | some s =>
    obtain ⟨hma, hmb, ⟨hms, has, hsb⟩, hmin⟩ := between_some hbt
    have lsl : s.length ≤ 1000000 := by have := (label_len' hms).1; omega
    have d1 : decide ((0 : Int) ≤ cmpL a s) = false := decide_eq_false (by have := cmpL_lt.2 has; omega)
    have d2 : decide ((0 : Int) ≤ cmpL s b) = false := decide_eq_false (by have := cmpL_lt.2 hsb; omega)
    refine VW_seq (VW_region [0, 1, 2, 7, 9, 61] ?_)
    simp only [OpsW_nil, OpsW_n, StepW, pok, pval, VA.ev, Env.get, Env.put, Env.keep, thenQ, unV, unOk, Nat.succ_ne_self, Nat.reduceEqDiff, ite_true, ite_false, true_and, reduceCtorEq, Bool.not_true, Option.getD_some, Option.isSome_some]
    refine VW_cond rfl (fun h => by cases h) (fun _ => ?_)
    refine VW_skip ?_
    try simp only [thenQ]
    refine VW_seq ?_
    refine VW_seq (VW_region [2, 7, 9, 82] ?_)
    simp only [OpsW_n, StepW, pok, pval, VA.ev, Env.get, Env.put, Env.keep, thenQ, unV, unOk, List.map, Nat.reduceEqDiff, ite_true, ite_false, true_and, reduceCtorEq]
    refine ACall_p (sp_label_Valid s lsl) ?_
    try simp only [OpsW_n, OpsW_y, StepW, pok, pval, VA.ev, Env.get, Env.put, pickV, isBool, intV, binV, binOk, strV, Nat.succ_ne_self, List.map, Nat.reduceEqDiff, Bool.false_eq_true, ite_true, ite_false, true_and, reduceCtorEq, Bool.not_true, hms]
    refine ACall_p (sp_label_Compare a s la lsl) ?_
    try simp only [OpsW_nil, OpsW_n, OpsW_y, StepW, pok, pval, VA.ev, Env.get, Env.put, pickV, isBool, intV, binV, binOk, strV, Nat.succ_ne_self, List.map, Nat.reduceEqDiff, Bool.false_eq_true, ite_true, ite_false, true_and, reduceCtorEq, d1]
    refine ACall_p (sp_label_Compare s b lsl lb) ?_
    try simp only [true_and, d2]
    refine VW_cond rfl (fun h => by cases h) (fun _ => ?_)
    refine VW_skip ?_
    try simp only [thenQ]
    refine VW_seq (VW_region [2, 7, 9, 11] ?_)
    simp only [OpsW_nil, OpsW_n, StepW, pok, pval, VA.ev, Env.get, Env.put, Env.keep, thenQ, extV, extOk, PV.nth, Nat.succ_ne_self, List.map, Nat.reduceEqDiff, ite_true, ite_false, true_and]
    refine ACall_p (sp_label_Split s lsl) ?_
    try simp only [List.length, List.getD_cons_zero, List.getD_cons_succ, Nat.reduceAdd, Nat.reduceLT, true_and, Nat.zero_add]
    refine VW_seq (VW_region [2, 7, 9, 11, 13] ?_)
    simp only [OpsW_nil, OpsW_n, StepW, pok, pval, VA.ev, Env.get, Env.put, Env.keep, thenQ, extV, extOk, PV.nth, Nat.succ_ne_self, List.map, Nat.reduceEqDiff, ite_true, ite_false, true_and]
    refine ACall_p (sp_label_Split o lo) ?_
    try simp only [List.length, List.getD_cons_zero, List.getD_cons_succ, Nat.reduceAdd, Nat.reduceLT, true_and, Nat.zero_add]
    refine VW_seq (VW_region [6] ?_)
    cases th with
    | false =>
      simp only [OpsW_nil, OpsW_n, OpsW_xf, OpsW_u, StepW, pok, pval, VA.ev, Env.get, Env.put, Env.keep, thenQ, pickV, isBool, unV, unOk, Nat.succ_ne_self, Nat.reduceEqDiff, ite_true, ite_false, true_and, Bool.not_false]
      refine VW_ret ?_
      try simp only [Env.get, retQ, resV, resOk, RS.ev, RS.ok, ite_true, true_and, and_true]
      exact View.refl _ _
    | true =>
      obtain ⟨_, _, hob⟩ := hth.1 rfl
      have ec : splitC s = caps s := by simp [splitC, hms]
      have ed : splitC o = caps o := by simp [splitC, hob.1]
      rcases hmin o hob with hlt | ⟨hle, hso⟩
      · have d3 : decide (((splitC s).length : Int) < ((splitC o).length : Int)) = true := by rw [ec, ed]; exact decide_eq_true (by omega)
        simp only [OpsW_nil, OpsW_n, OpsW_y, OpsW_xf, OpsW_u, StepW, pok, pval, VA.ev, Env.get, Env.put, Env.keep, thenQ, pickV, isBool, intV, binV, binOk, unV, unOk, lenV, lenOk, Nat.succ_ne_self, Nat.reduceEqDiff, Bool.false_eq_true, ite_true, ite_false, true_and, Bool.not_true, d3]
        refine VW_ret ?_
        try simp only [Env.get, retQ, resV, resOk, RS.ev, RS.ok, ite_true, true_and, and_true]
        exact View.refl _ _
      · have d3 : decide (((splitC s).length : Int) < ((splitC o).length : Int)) = false := by rw [ec, ed]; exact decide_eq_false (by omega)
        have d4 : (((splitC o).length : Int) == ((splitC s).length : Int)) = true := by rw [ec, ed, beq_iff_eq]; omega
        have d5 : decide (cmpL s o ≤ 0) = true := by
          apply decide_eq_true
          rcases hso with e | e
          · rw [cmpL_zero.2 e]; exact Int.le_refl _
          · exact Int.le_of_lt (cmpL_lt.2 e)
        simp only [OpsW_nil, OpsW_n, OpsW_y, StepW, pok, pval, VA.ev, Env.get, Env.put, Env.keep, thenQ, pickV, isBool, intV, binV, binOk, strV, unV, unOk, lenV, lenOk, Nat.succ_ne_self, List.map, Nat.reduceEqDiff, Bool.false_eq_true, ite_true, ite_false, true_and, Bool.not_true, d3, d4]
        refine ACall_p (sp_label_Compare s o lsl lo) ?_
        try simp only [true_and, d5]
        refine VW_ret ?_
        try simp only [Env.get, retQ, resV, resOk, RS.ev, RS.ok, ite_true, true_and, and_true]
        exact View.refl _ _
end Go.Proofs.YtihfbefagcdpmaaDoor.w


namespace Go.Proofs.YtihfbefagcdpmaaDoor.rd
open Go Go.VM
variable {W : World}

theorem k3 : Tryd.prog.cellsOf 3 = 1 := by kernel_rfl
theorem k9 : Tryd.prog.cellsOf 9 = 1 := by kernel_rfl
theorem k34 : Tryd.prog.cellsOf 34 = 1 := by kernel_rfl
theorem rI (n : Nat) : Reads Tryd.prog W n 3 i64 (fun a => [pI a]) := reads_int Tryd.underlying3
theorem rS (n : Nat) : Reads Tryd.prog W n 9 okS (fun a => [.str a]) := reads_string Tryd.underlying9
def enc3 (x : Int × Int × Int × Unit) : List PV := [pI x.1, pI x.2.1, pI x.2.2.1]
def ok3 (x : Int × Int × Int × Unit) : Prop := i64 x.1 ∧ i64 x.2.1 ∧ i64 x.2.2.1 ∧ True
theorem rSs (n : Nat) : Reads Tryd.prog W n 34 (okL okS) (fun l => [It.strs l]) := reads_sl Tryd.underlying34 k9 (by decide) (fun _ => rfl) n (fun m _ => rS m)
theorem rIs (n : Nat) : Reads Tryd.prog W n 61 (okL i64) (fun l => [.sl 1 (l.map fun x => [pI x])]) := reads_sl Tryd.underlying61 k3 (by decide) (fun _ => rfl) n (fun m _ => rI m)
end Go.Proofs.YtihfbefagcdpmaaDoor.rd


namespace Go.Proofs.YtihfbefagcdpmaaDoor.w
open Go Go.VM
theorem known_tab (b : Nat) (l : List Value) (h : known.lookup b = some l) : b = 2 ∧ l = Lib.pow10Tab.map fun z => Value.int .u64 z := by
  have e : known = [(2, Lib.pow10Tab.map fun z => Value.int .u64 z)] := by kernel_rfl
  rw [e] at h
  simp only [List.lookup] at h
  split at h
  · rename_i hb
    simp only [Option.some.injEq] at h
    exact ⟨by simpa using hb, h.symm⟩
  · cases h
theorem knownW_of {W : World} {rest : List (String × DataW Unit)} (h : laidMetH Tryd.prog rest W) (hf : rest.filter (fun x => x.1 == "internal/strconv.uint64pow10") = [("internal/strconv.uint64pow10", Lib.tabData .u64 Lib.pow10Tab)]) (hn : (rest.filter fun x => x.2.handleName?.isNone) = rest) : KnownW W := by
  have h1 := (laidMetH_iff.1 h).1
  rw [hn] at h1
  have h2 := h1.filter (fun x => x.1 == "internal/strconv.uint64pow10")
  rw [hf] at h2
  have hg : Tryd.prog.globalNamed "internal/strconv.uint64pow10" = some 2 := by kernel_rfl
  have tab := Lib.tabIs_of_head (P := Tryd.prog) (t := 129) (e := 95) (n := 20) hg (by kernel_rfl) Tryd.underlying129 Tryd.underlying95 (by kernel_rfl) (by kernel_rfl) h2
  intro b l hl
  obtain ⟨rfl, rfl⟩ := known_tab b l hl
  refine ⟨?_, fun v hv => ?_⟩
  · unfold Lib.TabIs World.var? at tab
    rw [hg] at tab
    simp only [Option.bind_some] at tab
    split at tab
    · rename_i c t fr hh
      simp only [Option.some.injEq] at tab
      exact ⟨t, fr, by rw [hh, tab]⟩
    · cases tab
  · obtain ⟨z, _, rfl⟩ := List.mem_map.1 hv
    rfl
end Go.Proofs.YtihfbefagcdpmaaDoor.w

