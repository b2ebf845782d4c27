/-
  Walks of the reference: Next, In, Same, Free, all.
  Walks of the labels: parted, Valid, Split, Compare, made, up.
  Walks of the labels: Next, behind, Between, Contains, NextFree.
-/
import Derived.Test.YtihfbefagcdpmaaDoorP0
import Derived.Test.YtihfbefagcdpmaaDoorVmX
set_option linter.all false
namespace Go.Proofs.YtihfbefagcdpmaaDoor.w
open Go Go.VM
set_option maxRecDepth 20000
set_option maxHeartbeats 0
set_option pp.deepTerms false
def c_pandectref03_Next : VC := (.seq (.region [⟨(some 2), (.mv (.c (.str []))), none⟩] false) (.seq (.seq (.region [⟨(some 5), (.mv (.t 0)), none⟩, ⟨(some 6), (.call 14 [(.t 5)]), none⟩, ⟨(some 7), (.un .not (.t 6)), none⟩] false) (.cond (.t 7) (.seq (.region [⟨(some 2), (.mv (.c (.str []))), none⟩] false) .ret) .skip)) (.seq (.region [⟨(some 9), (.mv (.t 0)), none⟩, ⟨(some 10), (.call 12 [(.t 9)]), none⟩, ⟨(some 8), (.mv (.t 10)), none⟩, ⟨(some 11), (.ext (.t 8) 0), none⟩, ⟨(some 12), (.ext (.t 8) 1), none⟩, ⟨(some 3), (.mv (.t 11)), none⟩, ⟨(some 4), (.mv (.t 12)), none⟩] false) (.seq (.block 0 (.loop (.seq (.seq (.region [⟨(some 13), (.mv (.t 4)), none⟩, ⟨(some 14), (.len true (.t 13)), none⟩, ⟨(some 15), (.bin .gtr (.t 14) (.c (.int .i64 0))), none⟩, ⟨(some 16), (.mv (.t 15)), none⟩, ⟨(some 17), (.mv (.t 4)), (some (16, true))⟩, ⟨(some 18), (.mv (.t 4)), (some (16, true))⟩, ⟨(some 19), (.len true (.t 18)), (some (16, true))⟩, ⟨(some 20), (.bin .sub (.t 19) (.c (.int .i64 1))), (some (16, true))⟩, ⟨(some 21), (.idx (.t 17) (.t 20)), (some (16, true))⟩, ⟨(some 22), (.bin .eql (.t 21) (.c (.int .u8 90))), (some (16, true))⟩, ⟨(some 23), (.pick (.t 16) (.t 22) (.c (.bool false))), none⟩] false) (.cond (.t 23) .skip (.exit 0))) (.block 1 (.region [⟨(some 24), (.mv (.t 4)), none⟩, ⟨(some 25), (.mv (.t 4)), none⟩, ⟨(some 26), (.len true (.t 25)), none⟩, ⟨(some 27), (.bin .sub (.t 26) (.c (.int .i64 1))), none⟩, ⟨(some 28), (.slice true 0 (.t 24) none (some (.t 27))), none⟩, ⟨(some 4), (.mv (.t 28)), none⟩] false))))) (.seq (.seq (.region [⟨(some 29), (.mv (.t 4)), none⟩, ⟨(some 30), (.len true (.t 29)), none⟩, ⟨(some 31), (.bin .gtr (.t 30) (.c (.int .i64 0))), none⟩] false) (.cond (.t 31) (.seq (.region [⟨(some 32), (.mv (.t 3)), none⟩, ⟨(some 33), (.mv (.t 4)), none⟩, ⟨(some 34), (.mv (.t 4)), none⟩, ⟨(some 35), (.len true (.t 34)), none⟩, ⟨(some 36), (.bin .sub (.t 35) (.c (.int .i64 1))), none⟩, ⟨(some 37), (.slice true 0 (.t 33) none (some (.t 36))), none⟩, ⟨(some 38), (.mv (.t 4)), none⟩, ⟨(some 39), (.mv (.t 4)), none⟩, ⟨(some 40), (.len true (.t 39)), none⟩, ⟨(some 41), (.bin .sub (.t 40) (.c (.int .i64 1))), none⟩, ⟨(some 42), (.idx (.t 38) (.t 41)), none⟩, ⟨(some 43), (.bin .add (.t 42) (.c (.int .u8 1))), none⟩, ⟨(some 44), (.bslice 1 1 [(.int .u8 0)] [(0, (.t 43))]), none⟩, ⟨(some 45), (.px .b2s [(.t 44)]), none⟩, ⟨(some 46), (.bin .add (.t 37) (.t 45)), none⟩, ⟨(some 47), (.call 38 [(.t 32), (.t 46)]), none⟩, ⟨(some 2), (.mv (.t 47)), none⟩] true) .ret) .skip)) (.seq (.seq (.region [⟨(some 48), (.mv (.t 3)), none⟩, ⟨(some 49), (.bin .eql (.t 48) (.c (.int .i64 9999))), none⟩] false) (.cond (.t 49) (.seq (.region [⟨(some 2), (.mv (.c (.str []))), none⟩] false) .ret) .skip)) (.seq (.region [⟨(some 50), (.mv (.t 3)), none⟩, ⟨(some 51), (.bin .add (.t 50) (.c (.int .i64 1))), none⟩, ⟨(some 52), (.call 38 [(.t 51), (.c (.str []))]), none⟩, ⟨(some 2), (.mv (.t 52)), none⟩] false) .ret)))))))
def c_pandectref03_In : VC := (.seq (.region [⟨(some 4), (.mv (.c (.bool false))), none⟩] false) (.seq (.seq (.region [⟨(some 5), (.mv (.c (.int .i64 0))), none⟩] false) (.block 0 (.loop (.seq (.seq (.region [⟨(some 6), (.mv (.t 5)), none⟩, ⟨(some 7), (.mv (.t 0)), none⟩, ⟨(some 8), (.len false (.t 7)), none⟩, ⟨(some 9), (.bin .lss (.t 6) (.t 8)), none⟩] false) (.cond (.t 9) .skip (.exit 0))) (.seq (.block 1 (.seq (.region [⟨(some 12), (.mv (.t 0)), none⟩, ⟨(some 13), (.mv (.t 5)), none⟩, ⟨(some 14), (.iaddr 1 (.t 12) (.t 13)), none⟩, ⟨(some 15), (.load false 1 (.t 14)), none⟩, ⟨(some 16), (.mv (.t 1)), none⟩, ⟨(some 17), (.bin .eql (.t 15) (.t 16)), none⟩] false) (.cond (.t 17) (.seq (.region [⟨(some 4), (.mv (.c (.bool true))), none⟩] false) .ret) .skip))) (.region [⟨(some 10), (.mv (.t 5)), none⟩, ⟨(some 11), (.bin .add (.t 10) (.c (.int .i64 1))), none⟩, ⟨(some 5), (.mv (.t 11)), none⟩] false)))))) (.seq (.region [⟨(some 4), (.mv (.c (.bool false))), none⟩] false) .ret)))
def c_pandectref03_Same : VC := (.seq (.region [⟨(some 4), (.mv (.c (.bool false))), none⟩] false) (.seq (.seq (.region [⟨(some 6), (.mv (.t 0)), none⟩, ⟨(some 7), (.len false (.t 6)), none⟩, ⟨(some 8), (.mv (.t 1)), none⟩, ⟨(some 9), (.len false (.t 8)), none⟩, ⟨(some 10), (.bin .neq (.t 7) (.t 9)), none⟩] false) (.cond (.t 10) (.seq (.region [⟨(some 4), (.mv (.c (.bool false))), none⟩] false) .ret) .skip)) (.seq (.seq (.region [⟨(some 5), (.mv (.c (.int .i64 0))), none⟩] false) (.block 0 (.loop (.seq (.seq (.region [⟨(some 11), (.mv (.t 5)), none⟩, ⟨(some 12), (.mv (.t 0)), none⟩, ⟨(some 13), (.len false (.t 12)), none⟩, ⟨(some 14), (.bin .lss (.t 11) (.t 13)), none⟩] false) (.cond (.t 14) .skip (.exit 0))) (.seq (.block 1 (.seq (.region [⟨(some 17), (.mv (.t 0)), none⟩, ⟨(some 18), (.mv (.t 5)), none⟩, ⟨(some 19), (.iaddr 1 (.t 17) (.t 18)), none⟩, ⟨(some 20), (.load false 1 (.t 19)), none⟩, ⟨(some 21), (.mv (.t 1)), none⟩, ⟨(some 22), (.mv (.t 5)), none⟩, ⟨(some 23), (.iaddr 1 (.t 21) (.t 22)), none⟩, ⟨(some 24), (.load false 1 (.t 23)), none⟩, ⟨(some 25), (.bin .neq (.t 20) (.t 24)), none⟩] true) (.cond (.t 25) (.seq (.region [⟨(some 4), (.mv (.c (.bool false))), none⟩] false) .ret) .skip))) (.region [⟨(some 15), (.mv (.t 5)), none⟩, ⟨(some 16), (.bin .add (.t 15) (.c (.int .i64 1))), none⟩, ⟨(some 5), (.mv (.t 16)), none⟩] false)))))) (.seq (.region [⟨(some 4), (.mv (.c (.bool true))), none⟩] false) .ret))))
def nextR (s : Str) : Str := (nextS s).getD []
theorem byte_inc (b : UInt8) : VM.byteOf [PV.int .u8 (IntKind.u8.wrap ((b.toNat : Int) + 1))] = b + 1 := by
  show UInt8.ofNat (Int.toNat (IntKind.u8.wrap ((b.toNat : Int) + 1))) = b + 1
  apply UInt8.toNat_inj.1
  have hb : b.toNat < 256 := b.toNat_lt
  rw [UInt8.toNat_add]
  simp [IntKind.wrap, IntKind.bits, IntKind.signed]
  omega
theorem dec_five {n : Nat} (h : n ≤ 10000) : (Lib.decDigits n).length ≤ 5 := by
  rw [Lib.decDigits_length]
  by_cases h1 : n ≤ 9999
  · have := decDigits_four h1
    rw [Lib.decDigits_length] at this; omega
  · obtain rfl : n = 10000 := by omega
    decide +kernel
theorem sp_pandectref03_Next (s : Str) (hl : s.length ≤ 1000000) : PCall Tryd.prog 18 [.str s] (.str (nextR s)) := by
  have A := sp_pandectref03_May s hl
  have B := sp_pandectref03_Split s hl
  refine PCall_intro ?_ (cS _) (by simp only [ClosedL, List.mem_cons, List.not_mem_nil, or_false, forall_eq_or_imp, forall_eq, false_implies, implies_true]; repeat' (first | exact cI _ | exact cS _ | exact cB _ | exact closed_fn0 _ | exact closed_nilsl | exact closed_agg (Un.closed _) | exact closed_agg (It.closed _) | exact closed_agg (EI.closed _) | exact closed_agg (Ac.closed _) | exact closed_agg (Wd.closed _) | exact closed_agg (St.closed _) | exact closed_agg (Sta.closed _) | exact closed_eis _ | exact closed_acs _ | exact closed_gzs _ | exact Closed.of_scalar (scalar_int _ _) | exact closed_ro (Ac.closed _) | exact closed_ro (Gz.closed _) | exact closed_agg (Gz.closed _) | exact closed_strs _ | exact closed_map (fun w _ => Wd.closed w) | exact closed_map (fun w _ => St.closed w) | exact closed_map (fun w _ => Un.closed w) | exact closed_map (fun w _ => It.closed w) | exact closed_sc _ | exact closed_sps _ | exact closed_agg (Sp.closed _) | exact closed_ro (EI.closed _) | exact closed_ro (Sta.closed _) | exact closed_ro (It.closed _) | exact closed_ro (by simp only [List.mem_cons, List.not_mem_nil, or_false, forall_eq]; first | exact cI _ | exact cS _ | exact closed_eis _) | refine And.intro ?_ ?_))
  refine ACall_fn (vc := c_pandectref03_Next) (ts := [.t 2]) Go.Proofs.Tryd.func18 (by kernel_rfl) rfl rfl (Nat.le_of_ble_eq_true rfl) (by kernel_rfl) ?_
  unfold c_pandectref03_Next
  refine VW_seq (VW_region [0] ?_)
  simp only [OpsW_nil, OpsW_n, StepW, pok, pval, VA.ev, Env.get, Env.put, Env.keep, argEnv, thenQ, Heap.nil, ite_true, ite_false, true_and, reduceCtorEq]
  refine VW_seq ?_
  refine VW_seq (VW_region [0, 7] ?_)
  simp only [OpsW_nil, OpsW_n, StepW, pok, pval, VA.ev, Env.get, Env.put, Env.keep, thenQ, unV, unOk, List.map, Nat.reduceEqDiff, ite_true, ite_false, true_and, reduceCtorEq]
  refine ACall_p A ?_
  try simp only [true_and]
  refine VW_cond rfl (fun h1 => ?_) (fun h1 => ?_)
  · refine VW_seq (VW_region [2] ?_)
    simp only [OpsW_nil, OpsW_n, StepW, pok, pval, VA.ev, Env.get, Env.put, Env.keep, thenQ, Nat.reduceEqDiff, ite_true, ite_false, true_and, reduceCtorEq]
    refine VW_ret ?_
    try simp only [Env.get, thenQ, retQ, resV, resOk, RS.ev, RS.ok, ite_true, true_and, and_true]
    have e : may s = false := by cases h : may s; rfl; rw [h] at h1; cases h1
    have : nextR s = [] := by unfold nextR nextS; simp [e]
    rw [this]
    exact View.refl _ _
  have hm : may s = true := by cases h : may s; rw [h] at h1; cases h1; rfl
  have hn := num_le hm
  have hcl := caps_len hm
  have ena : splitN s = (num s : Int) := by simp [splitN, hm]
  have eca : splitC s = caps s := by simp [splitC, hm]
  rw [ena, eca] at B
  refine VW_skip ?_
  try simp only [thenQ]
  refine VW_seq (VW_region [3, 4] ?_)
  simp only [OpsW_nil, OpsW_n, StepW, pok, pval, VA.ev, Env.get, Env.put, Env.keep, thenQ, extV, extOk, PV.nth, Nat.succ_ne_self, List.map, Nat.reduceEqDiff, ite_true, ite_false, true_and, reduceCtorEq]
  refine ACall_p B ?_
  try simp only [List.length, List.getD_cons_zero, List.getD_cons_succ, Nat.reduceAdd, Nat.reduceLT, true_and, Nat.zero_add]
  refine VW_seq ?_
  refine VW_block ?_
  refine VW_loop (σ := { k : Nat // k ≤ (caps s).length ∧ sgo (caps s) (caps s).length = sgo (caps s) k }) (fun x => ([(3, pI (num s)), (4, .str ((caps s).take x.1))], ⟨[], 0⟩)) (fun x => x.1) ⟨(caps s).length, Nat.le_refl _, rfl⟩ ?_ ?_ ?_
  · simp only [Env.get, Nat.succ_ne_self, Env.le, Nat.reduceEqDiff, ite_true, ite_false, and_true, List.take_length]
  · simp only [Heap.le, HL.le, Nat.le_refl, and_true]
  rintro ⟨k, hk, hgo⟩
  simp only []
  have tl : ((caps s).take k).length = k := by simp; omega
  have up0 : ∀ m, sgo (caps s) (caps s).length = m + 1 → nextS s = made (num s) ((caps s).take m ++ [(caps s).getD m 0 + 1]) := by
    intro m hm'
    unfold nextS up
    rw [if_pos hm, hm']
  have up1 : sgo (caps s) (caps s).length = 0 → nextS s = made (num s + 1) [] := by
    intro hm'
    unfold nextS up
    rw [if_pos hm, hm']
  refine VW_seq ?_
  refine VW_seqE (σ := { b : Bool // b = true ↔ ∃ m, k = m + 1 ∧ (caps s).getD m 0 = 90 }) [3, 4, 23] (fun b => [(3, pI (num s)), (4, .str ((caps s).take k)), (23, .bool b.1)]) ?_ ?_
  · rcases Nat.eq_zero_or_pos k with h0 | h0
    · subst h0
      have e1 : decide ((0 : Int) < ((0 : Nat) : Int)) = false := by decide
      simp only [OpsW_nil, OpsW_n, OpsW_xt, StepW, pok, pval, VA.ev, Env.get, Env.put, Env.keep, pickV, isBool, intV, binV, binOk, lenV, lenOk, Nat.succ_ne_self, Env.le, List.length, List.take, Nat.reduceEqDiff, Bool.false_eq_true, ite_true, ite_false, true_and, and_true, tl, e1]
      exact ⟨⟨false, by simp⟩, rfl⟩
    · obtain ⟨m, rfl⟩ : ∃ m, k = m + 1 := ⟨k - 1, by omega⟩
      have e1 : decide ((0 : Int) < ((m + 1 : Nat) : Int)) = true := decide_eq_true (by omega)
      have e2 : IntKind.i64.wrap (((m + 1 : Nat) : Int) - 1) = (m : Int) := by rw [w64 (by omega) (by omega)]; omega
      have e3 : ((caps s).take (m + 1)).getD m 0 = (caps s).getD m 0 := by
        rw [List.getD_eq_getElem?_getD, List.getElem?_take, if_pos (by omega), ← List.getD_eq_getElem?_getD]
      simp only [OpsW_nil, OpsW_n, OpsW_y, StepW, pok, pval, VA.ev, Env.get, Env.put, Env.keep, pickV, isBool, intV, binV, binOk, isInt, numOf, lenV, idxV, idxOk, lenOk, Nat.succ_ne_self, Env.le, Nat.reduceEqDiff, ite_true, ite_false, true_and, and_true, Int.toNat_natCast, tl, e1, e2, e3]
      repeat (with_reducible refine And.intro ?_ ?_; first | omega | (with_reducible constructor <;> omega) | exact False.elim | exact True.intro)
      refine ⟨⟨(((caps s).getD m 0).toNat : Int) == 90, ?_⟩, rfl⟩
      rw [beq_iff_eq]
      constructor
      · intro h; exact ⟨m, rfl, eq90.2 (by omega)⟩
      · rintro ⟨m', h1, h2⟩
        obtain rfl : m = m' := by omega
        have := eq90.1 h2; omega
  rintro ⟨b, hb⟩
  simp only []
  refine VW_cond rfl (fun h2 => ?_) (fun h2 => ?_)
  · obtain ⟨m, rfl, h90⟩ := hb.1 h2
    refine VW_skip ?_
    try simp only [thenQ, Heap.le, HL.le, Env.le, and_true]
    refine VW_block ?_
    have e2 : IntKind.i64.wrap (((m + 1 : Nat) : Int) - 1) = (m : Int) := by rw [w64 (by omega) (by omega)]; omega
    have e3 : List.take m (List.take (m + 1) (caps s)) = (caps s).take m := by rw [List.take_take, Nat.min_eq_left (by omega)]
    refine VW_region [3, 4] ?_
    simp only [OpsW_nil, OpsW_n, StepW, pok, pval, VA.ev, Env.get, Env.put, Env.keep, thenQ, blockQ, intV, binV, binOk, numOf, loV, hiV, lenV, boundOk, sliceV, sliceOk, lenOk, Nat.le_refl, Nat.succ_ne_self, List.drop_zero, Option.map, Nat.reduceEqDiff, ite_true, ite_false, true_and, and_true, Int.toNat_natCast, tl, e2, e3, Nat.sub_zero]
    repeat (with_reducible refine And.intro ?_ ?_; first | omega | (with_reducible constructor <;> omega) | exact False.elim | exact True.intro)
    refine ⟨⟨m, by omega, ?_⟩, rfl, by simp only []; omega⟩
    rw [hgo]; show sgo (caps s) (m + 1) = _
    simp only [sgo]; rw [if_pos h90]
  · have hb' : ¬ ∃ m, k = m + 1 ∧ (caps s).getD m 0 = 90 := fun h => by rw [hb.2 h] at h2; cases h2
    refine VW_exit ?_
    try simp only [thenQ, blockQ, retQ, ite_true]
    refine VW_seq ?_
    refine VW_seq (VW_region [3, 4, 31] ?_)
    simp only [OpsW_nil, OpsW_n, StepW, pok, pval, VA.ev, Env.get, Env.put, Env.keep, thenQ, intV, binV, binOk, lenV, lenOk, Nat.succ_ne_self, Nat.reduceEqDiff, ite_true, ite_false, true_and, tl]
    refine VW_cond rfl (fun h3 => ?_) (fun h3 => ?_)
    · have hk0 : 0 < k := by simp only [decide_eq_true_eq] at h3; omega
      obtain ⟨m, rfl⟩ : ∃ m, k = m + 1 := ⟨k - 1, by omega⟩
      have h90 : ¬ (caps s).getD m 0 = 90 := fun h => hb' ⟨m, rfl, h⟩
      have hs1 : sgo (caps s) (caps s).length = m + 1 := by rw [hgo]; simp only [sgo]; rw [if_neg h90]
      have e2 : IntKind.i64.wrap (((m + 1 : Nat) : Int) - 1) = (m : Int) := by rw [w64 (by omega) (by omega)]; omega
      have e3 : List.take m (List.take (m + 1) (caps s)) = (caps s).take m := by rw [List.take_take, Nat.min_eq_left (by omega)]
      have e4 : ((caps s).take (m + 1)).getD m 0 = (caps s).getD m 0 := by
        rw [List.getD_eq_getElem?_getD, List.getElem?_take, if_pos (by omega), ← List.getD_eq_getElem?_getD]
      have tl2 : ((caps s).take m).length = m := by simp; omega
      refine VW_seq (VW_drawS [2] (by simp [Heap.le, Heap.get, HL.le, HL.get]) ?_)
      simp only [DrawW_nil, DrawW_n, QW, dok, dval, VOp.pure, VOp.simple, VOp.det, pok, pval, VA.ev, Env.get, Env.put, Env.keep, thenQ, gd, intV, binV, binOk, strV, isInt, numOf, loV, hiV, lenV, boundOk, sliceV, sliceOk, idxV, idxOk, lenOk, PV.cells, PV.fits, Nat.succ_ne_self, elemsV, elemsOk, pxV, pxOk, List.map, List.set, List.replicate, List.length, List.drop_zero, Option.map, Nat.reduceEqDiff, Nat.reduceLT, Nat.reduceLeDiff, ite_true, ite_false, true_and, and_true, implies_true, forall_const, BEq.rfl, Nat.zero_add, Int.toNat_natCast, tl, e2, e3, e4, Nat.sub_zero, bytesOk, isByte, byteRows, byte_inc, tl2]
      refine ⟨⟨by omega, by omega, by omega⟩, ⟨by omega, by omega⟩, fun r hr => by rw [List.mem_singleton] at hr; subst hr; trivial, by omega, _, .inl (sp_pandectref03_text (num s) _ (by omega) (by simp; omega)), ?_⟩
      skip
      refine VW_ret ?_
      try simp only [Env.get, thenQ, retQ, resV, resOk, RS.ev, RS.ok, ite_true, true_and, and_true]
      have : nextR s = text (num s) ((caps s).take m ++ [(caps s).getD m 0 + 1]) := by
        unfold nextR; rw [up0 m hs1]; unfold made; rw [if_neg (by omega)]; rfl
      rw [this]
      exact View.refl _ _
    have hk0 : k = 0 := by simp only [decide_eq_false_iff_not] at h3; omega
    subst hk0
    have hs0 : sgo (caps s) (caps s).length = 0 := hgo
    refine VW_skip ?_
    try simp only [thenQ, List.take]
    refine VW_seq ?_
    refine VW_seq (VW_region [3, 49] ?_)
    simp only [OpsW_nil, OpsW_n, StepW, pok, pval, VA.ev, Env.get, Env.put, Env.keep, thenQ, intV, binV, binOk, Nat.succ_ne_self, Nat.reduceEqDiff, ite_true, ite_false, true_and]
    refine VW_cond rfl (fun h4 => ?_) (fun h4 => ?_)
    · have h9 : num s = 9999 := by simp only [beq_iff_eq] at h4; omega
      refine VW_seq (VW_region [2] ?_)
      simp only [OpsW_nil, OpsW_n, StepW, pok, pval, VA.ev, Env.get, Env.put, Env.keep, thenQ, Nat.succ_ne_self, Nat.reduceEqDiff, ite_true, ite_false, true_and]
      refine VW_ret ?_
      try simp only [Env.get, thenQ, retQ, resV, resOk, RS.ev, RS.ok, ite_true, true_and, and_true]
      have : nextR s = [] := by unfold nextR; rw [up1 hs0, h9]; rfl
      rw [this]
      exact View.refl _ _
    have h9 : num s ≠ 9999 := by simp only [beq_eq_false_iff_ne] at h4; omega
    refine VW_skip ?_
    try simp only [thenQ]
    have e5 : IntKind.i64.wrap ((num s : Int) + 1) = ((num s + 1 : Nat) : Int) := by rw [w64 (by omega) (by omega)]; omega
    refine VW_seq (VW_region [2] ?_)
    simp only [OpsW_nil, OpsW_n, StepW, pok, pval, VA.ev, Env.get, Env.put, Env.keep, thenQ, intV, binV, binOk, Nat.succ_ne_self, List.map, Nat.reduceEqDiff, ite_true, ite_false, true_and, e5]
    refine ACall_p (sp_pandectref03_text (num s + 1) [] (by omega) (by simp)) ?_
    skip
    refine VW_ret ?_
    try simp only [Env.get, retQ, resV, resOk, RS.ev, RS.ok, ite_true, true_and, and_true]
    have : nextR s = text (num s + 1) [] := by unfold nextR; rw [up1 hs0]; unfold made; rw [if_neg (by omega)]; rfl
    rw [this]
    exact View.refl _ _
theorem strs_row {l : List Str} {k : Nat} (h : k < l.length) : (l.map fun s => [PV.str s]).getD k [] = [PV.str l[k]] := rowm h
theorem sp_pandectref03_In (l : List Str) (s : Str) (hl : l.length ≤ 1000000) : PCall Tryd.prog 24 [It.strs l, .str s] (.bool (decide (s ∈ l))) := by
  unfold It.strs
  refine PCall_intro ?_ (cB _) (by simp only [ClosedL, List.mem_cons, List.not_mem_nil, or_false, forall_eq_or_imp, forall_eq, false_implies, implies_true]; repeat' (first | exact cI _ | exact cS _ | exact cB _ | exact closed_fn0 _ | exact closed_nilsl | exact closed_agg (Un.closed _) | exact closed_agg (It.closed _) | exact closed_agg (EI.closed _) | exact closed_agg (Ac.closed _) | exact closed_agg (Wd.closed _) | exact closed_agg (St.closed _) | exact closed_agg (Sta.closed _) | exact closed_eis _ | exact closed_acs _ | exact closed_gzs _ | exact Closed.of_scalar (scalar_int _ _) | exact closed_ro (Ac.closed _) | exact closed_ro (Gz.closed _) | exact closed_agg (Gz.closed _) | exact closed_strs _ | exact closed_map (fun w _ => Wd.closed w) | exact closed_map (fun w _ => St.closed w) | exact closed_map (fun w _ => Un.closed w) | exact closed_map (fun w _ => It.closed w) | exact closed_sc _ | exact closed_sps _ | exact closed_agg (Sp.closed _) | exact closed_ro (EI.closed _) | exact closed_ro (Sta.closed _) | exact closed_ro (It.closed _) | exact closed_ro (by simp only [List.mem_cons, List.not_mem_nil, or_false, forall_eq]; first | exact cI _ | exact cS _ | exact closed_eis _) | refine And.intro ?_ ?_))
  refine ACall_fn (vc := c_pandectref03_In) (ts := [.t 4]) Go.Proofs.Tryd.func24 (by kernel_rfl) rfl rfl (Nat.le_of_ble_eq_true rfl) (by kernel_rfl) ?_
  unfold c_pandectref03_In
  refine VW_seq (VW_region [0, 1] ?_)
  simp only [OpsW_nil, OpsW_n, StepW, pok, pval, VA.ev, Env.get, Env.put, Env.keep, argEnv, thenQ, Heap.nil, Nat.succ_ne_self, Nat.reduceEqDiff, ite_true, ite_false, true_and, reduceCtorEq, Nat.zero_add]
  refine VW_seq ?_
  refine VW_seq (VW_region [0, 1, 5] ?_)
  simp only [OpsW_nil, OpsW_n, StepW, pok, pval, VA.ev, Env.get, Env.put, Env.keep, thenQ, Nat.succ_ne_self, Nat.reduceEqDiff, ite_true, ite_false, true_and, reduceCtorEq]
  refine VW_block ?_
  refine VW_loop (σ := { k : Nat // k ≤ l.length ∧ ∀ (j : Nat) (hj : j < l.length), j < k → l[j] ≠ s }) (fun x => ([(0, .sl 1 (l.map fun s => [.str s])), (1, .str s), (5, pI x.1)], ⟨[], 0⟩)) (fun x => l.length - x.1) ⟨0, Nat.zero_le _, fun j _ h => by cases h⟩ ?_ ?_ ?_
  · simp only [Env.get, Nat.succ_ne_self, Env.le, Nat.reduceEqDiff, ite_true, ite_false, true_and, and_true, reduceCtorEq]
    rfl
  · simp only [Heap.le, HL.le, Nat.le_refl, and_true]
  rintro ⟨k, hk, hpre⟩
  simp only []
  refine VW_seq ?_
  refine VW_seq (VW_region [0, 1, 5, 9] ?_)
  simp only [OpsW_nil, OpsW_n, StepW, pok, pval, VA.ev, Env.get, Env.put, Env.keep, thenQ, intV, binV, binOk, lenV, lenOk, Heap.le, HL.le, Nat.succ_ne_self, Env.le, Nat.reduceEqDiff, ite_true, ite_false, true_and, and_true, ne_eq, reduceCtorEq, List.length_map]
  refine VW_cond rfl (fun h1 => ?_) (fun h1 => ?_)
  · have ka : k < l.length := by simp only [decide_eq_true_eq] at h1; omega
    refine VW_skip ?_
    try simp only [thenQ]
    refine VW_seq ?_
    refine VW_block ?_
    refine VW_seq (VW_region [0, 1, 5, 17] ?_)
    simp only [OpsW_nil, OpsW_n, StepW, pok, pval, VA.ev, Env.get, Env.put, Env.keep, thenQ, aggV, binV, binOk, strV, isInt, numOf, lenV, locCells, locOk, iaddrV, iaddrOk, PV.nth, PV.row, Nat.le_refl, Nat.succ_ne_self, List.length, List.getD_cons_zero, List.take, List.take_succ_cons, Nat.reduceEqDiff, Bool.false_eq_true, ite_true, ite_false, true_and, and_true, implies_true, reduceCtorEq, Nat.zero_add, List.length_cons, Int.toNat_natCast, List.length_map, rowm ka]
    repeat (with_reducible refine And.intro ?_ ?_; first | omega | (with_reducible constructor <;> omega) | exact False.elim | exact True.intro)
    refine VW_cond rfl (fun h2 => ?_) (fun h2 => ?_)
    · refine VW_seq (VW_region [4] ?_)
      simp only [OpsW_nil, OpsW_n, StepW, pok, pval, VA.ev, Env.get, Env.put, Env.keep, thenQ, Nat.succ_ne_self, Nat.reduceEqDiff, ite_true, ite_false, true_and, reduceCtorEq]
      refine VW_ret ?_
      try simp only [Env.get, thenQ, blockQ, retQ, resV, resOk, RS.ev, RS.ok, ite_true, true_and, and_true]
      have e : s ∈ l := by
        have : l[k] = s := by simpa using h2
        rw [← this]; exact List.getElem_mem ka
      rw [decide_eq_true e]
      exact View.refl _ _
    refine VW_skip ?_
    try simp only [thenQ, blockQ]
    have hne : l[k] ≠ s := by simpa using h2
    refine VW_region [0, 1, 5] ?_
    simp only [OpsW_nil, OpsW_n, StepW, pok, pval, VA.ev, Env.get, Env.put, Env.keep, thenQ, intV, binV, binOk, Nat.le_refl, Nat.succ_ne_self, Nat.reduceEqDiff, ite_true, ite_false, true_and, reduceCtorEq, w64 (n := (k : Int) + 1) (by omega) (by omega)]
    refine ⟨⟨k + 1, ka, fun j hj hjk => ?_⟩, ?_, ?_⟩
    · by_cases e : j = k
      · subst e; exact hne
      · exact hpre j hj (by omega)
    · rfl
    · simp only []; omega
  · have ka : k = l.length := by simp only [decide_eq_false_iff_not] at h1; omega
    refine VW_exit ?_
    try simp only [thenQ, blockQ, retQ, ite_true]
    refine VW_seq (VW_region [4] ?_)
    simp only [OpsW_nil, OpsW_n, StepW, pok, pval, VA.ev, Env.get, Env.put, Env.keep, thenQ, Nat.succ_ne_self, Nat.reduceEqDiff, ite_true, ite_false, true_and, reduceCtorEq]
    refine VW_ret ?_
    try simp only [Env.get, retQ, resV, resOk, RS.ev, RS.ok, ite_true, true_and, and_true]
    have e : ¬ s ∈ l := by
      intro h
      obtain ⟨j, hj, e⟩ := List.mem_iff_getElem.1 h
      exact hpre j hj (by omega) e
    rw [decide_eq_false e]
    exact View.refl _ _
theorem sp_pandectref03_Same (a b : List Str) (hl : a.length ≤ 1000000) : PCall Tryd.prog 25 [It.strs a, It.strs b] (.bool (decide (a = b))) := by
  unfold It.strs
  refine PCall_intro ?_ (cB _) (by simp only [ClosedL, List.mem_cons, List.not_mem_nil, or_false, forall_eq_or_imp, forall_eq, false_implies, implies_true]; repeat' (first | exact cI _ | exact cS _ | exact cB _ | exact closed_fn0 _ | exact closed_nilsl | exact closed_agg (Un.closed _) | exact closed_agg (It.closed _) | exact closed_agg (EI.closed _) | exact closed_agg (Ac.closed _) | exact closed_agg (Wd.closed _) | exact closed_agg (St.closed _) | exact closed_agg (Sta.closed _) | exact closed_eis _ | exact closed_acs _ | exact closed_gzs _ | exact Closed.of_scalar (scalar_int _ _) | exact closed_ro (Ac.closed _) | exact closed_ro (Gz.closed _) | exact closed_agg (Gz.closed _) | exact closed_strs _ | exact closed_map (fun w _ => Wd.closed w) | exact closed_map (fun w _ => St.closed w) | exact closed_map (fun w _ => Un.closed w) | exact closed_map (fun w _ => It.closed w) | exact closed_sc _ | exact closed_sps _ | exact closed_agg (Sp.closed _) | exact closed_ro (EI.closed _) | exact closed_ro (Sta.closed _) | exact closed_ro (It.closed _) | exact closed_ro (by simp only [List.mem_cons, List.not_mem_nil, or_false, forall_eq]; first | exact cI _ | exact cS _ | exact closed_eis _) | refine And.intro ?_ ?_))
  refine ACall_fn (vc := c_pandectref03_Same) (ts := [.t 4]) Go.Proofs.Tryd.func25 (by kernel_rfl) rfl rfl (Nat.le_of_ble_eq_true rfl) (by kernel_rfl) ?_
  unfold c_pandectref03_Same
  refine VW_seq (VW_region [0, 1] ?_)
  simp only [OpsW_nil, OpsW_n, StepW, pok, pval, VA.ev, Env.get, Env.put, Env.keep, argEnv, thenQ, Heap.nil, Nat.succ_ne_self, Nat.reduceEqDiff, ite_true, ite_false, true_and, reduceCtorEq, Nat.zero_add]
  refine VW_seq ?_
  refine VW_seq (VW_region [0, 1, 10] ?_)
  simp only [OpsW_nil, OpsW_n, StepW, pok, pval, VA.ev, Env.get, Env.put, Env.keep, thenQ, intV, binV, binOk, lenV, lenOk, Nat.succ_ne_self, Nat.reduceEqDiff, ite_true, ite_false, true_and, reduceCtorEq, List.length_map]
  refine VW_cond rfl (fun h1 => ?_) (fun h1 => ?_)
  · refine VW_seq (VW_region [4] ?_)
    simp only [OpsW_nil, OpsW_n, StepW, pok, pval, VA.ev, Env.get, Env.put, Env.keep, thenQ, Nat.reduceEqDiff, ite_true, ite_false, true_and, reduceCtorEq]
    refine VW_ret ?_
    try simp only [Env.get, thenQ, retQ, resV, resOk, RS.ev, RS.ok, ite_true, true_and, and_true]
    have : a.length ≠ b.length := by simp only [bne_iff_ne] at h1; omega
    rw [decide_eq_false (len_ne this)]
    exact View.refl _ _
  have hlen : a.length = b.length := by simp only [bne_eq_false_iff_eq] at h1; omega
  refine VW_skip ?_
  try simp only [thenQ]
  refine VW_seq ?_
  refine VW_seq (VW_region [0, 1, 5] ?_)
  simp only [OpsW_nil, OpsW_n, StepW, pok, pval, VA.ev, Env.get, Env.put, Env.keep, thenQ, Nat.succ_ne_self, Nat.reduceEqDiff, ite_true, ite_false, true_and, reduceCtorEq]
  refine VW_block ?_
  refine VW_loop (σ := { k : Nat // k ≤ a.length ∧ a.take k = b.take k }) (fun x => ([(0, .sl 1 (a.map fun s => [.str s])), (1, .sl 1 (b.map fun s => [.str s])), (5, pI x.1)], ⟨[], 0⟩)) (fun x => a.length - x.1) ⟨0, Nat.zero_le _, rfl⟩ ?_ ?_ ?_
  · simp only [Env.get, Nat.succ_ne_self, Env.le, Nat.reduceEqDiff, ite_true, ite_false, true_and, and_true, reduceCtorEq]
    rfl
  · simp only [Heap.le, HL.le, Nat.le_refl, and_true]
  rintro ⟨k, hk, hpre⟩
  simp only []
  refine VW_seq ?_
  refine VW_seq (VW_region [0, 1, 5, 14] ?_)
  simp only [OpsW_nil, OpsW_n, StepW, pok, pval, VA.ev, Env.get, Env.put, Env.keep, thenQ, intV, binV, binOk, lenV, lenOk, Heap.le, HL.le, Nat.succ_ne_self, Env.le, Nat.reduceEqDiff, ite_true, ite_false, true_and, and_true, reduceCtorEq, List.length_map]
  refine VW_cond rfl (fun h2 => ?_) (fun h2 => ?_)
  · have ka : k < a.length := by simp only [decide_eq_true_eq] at h2; omega
    have kb : k < b.length := by omega
    refine VW_skip ?_
    try simp only [thenQ]
    refine VW_seq ?_
    refine VW_block ?_
    refine VW_seq (VW_drawS [0, 1, 5, 25] (by simp [Heap.le, Heap.get, HL.le, HL.get]) ?_)
    simp only [DrawW_nil, DrawW_n, QW, dok, dval, VOp.pure, VOp.simple, VOp.det, pok, pval, VA.ev, Env.get, Env.put, Env.keep, thenQ, gd, aggV, binV, binOk, strV, isInt, numOf, lenV, locCells, locOk, iaddrV, iaddrOk, PV.nth, PV.row, Nat.le_refl, Nat.succ_ne_self, List.length, List.getD_cons_zero, List.take, List.take_succ_cons, Nat.reduceEqDiff, Bool.false_eq_true, ite_true, ite_false, true_and, and_true, implies_true, forall_const, reduceCtorEq, Nat.zero_add, List.length_cons, Int.toNat_natCast, List.length_map, rowm ka, rowm kb]
    repeat (with_reducible refine And.intro ?_ ?_; first | omega | (with_reducible constructor <;> omega) | exact False.elim | exact True.intro)
    refine VW_cond rfl (fun h3 => ?_) (fun h3 => ?_)
    · refine VW_seq (VW_region [4] ?_)
      simp only [OpsW_nil, OpsW_n, StepW, pok, pval, VA.ev, Env.get, Env.put, Env.keep, thenQ, Nat.succ_ne_self, Nat.reduceEqDiff, ite_true, ite_false, true_and, reduceCtorEq]
      refine VW_ret ?_
      try simp only [Env.get, thenQ, blockQ, retQ, resV, resOk, RS.ev, RS.ok, ite_true, true_and, and_true]
      rw [decide_eq_false (get_ne ka kb (by simpa using h3))]
      exact View.refl _ _
    refine VW_skip ?_
    try simp only [thenQ, blockQ]
    have he : a[k] = b[k] := by simpa using h3
    refine VW_region [0, 1, 5] ?_
    simp only [OpsW_nil, OpsW_n, StepW, pok, pval, VA.ev, Env.get, Env.put, Env.keep, thenQ, intV, binV, binOk, Nat.le_refl, Nat.succ_ne_self, Nat.reduceEqDiff, ite_true, ite_false, true_and, reduceCtorEq, w64 (n := (k : Int) + 1) (by omega) (by omega)]
    refine ⟨⟨k + 1, ka, take_step hpre ka kb he⟩, ?_, ?_⟩
    · rfl
    · simp only []; omega
  · have ka : k = a.length := by simp only [decide_eq_false_iff_not] at h2; omega
    refine VW_exit ?_
    try simp only [thenQ, blockQ, retQ, ite_true]
    refine VW_seq (VW_region [4] ?_)
    simp only [OpsW_nil, OpsW_n, StepW, pok, pval, VA.ev, Env.get, Env.put, Env.keep, thenQ, Nat.succ_ne_self, Nat.reduceEqDiff, ite_true, ite_false, true_and, reduceCtorEq]
    refine VW_ret ?_
    try simp only [Env.get, retQ, resV, resOk, RS.ev, RS.ok, ite_true, true_and, and_true]
    rw [decide_eq_true (take_all hlen (by rw [← ka]; exact hpre))]
    exact View.refl _ _
end Go.Proofs.YtihfbefagcdpmaaDoor.w


namespace Go.Proofs.YtihfbefagcdpmaaDoor.w
open Go Go.VM
set_option maxRecDepth 20000
set_option maxHeartbeats 0
set_option pp.deepTerms false
def c_label_parted : VC := (.seq (.region [⟨(some 2), (.mv (.c (.str []))), none⟩, ⟨(some 3), (.mv (.c (.str []))), none⟩] false) (.seq (.region [⟨(some 5), (.mv (.t 0)), none⟩, ⟨(some 6), (.call 44 [(.t 5), (.c (.fn (.func 45) [] []))]), none⟩, ⟨(some 4), (.mv (.t 6)), none⟩] false) (.seq (.seq (.region [⟨(some 7), (.mv (.t 4)), none⟩, ⟨(some 8), (.bin .lss (.t 7) (.c (.int .i64 0))), none⟩] false) (.cond (.t 8) (.seq (.region [⟨(some 9), (.mv (.t 0)), none⟩, ⟨(some 2), (.mv (.t 9)), none⟩, ⟨(some 3), (.mv (.c (.str []))), none⟩] false) .ret) .skip)) (.seq (.region [⟨(some 10), (.mv (.t 0)), none⟩, ⟨(some 11), (.mv (.t 4)), none⟩, ⟨(some 12), (.slice true 0 (.t 10) none (some (.t 11))), none⟩, ⟨(some 13), (.mv (.t 0)), none⟩, ⟨(some 14), (.mv (.t 4)), none⟩, ⟨(some 15), (.slice true 0 (.t 13) (some (.t 14)) none), none⟩, ⟨(some 2), (.mv (.t 12)), none⟩, ⟨(some 3), (.mv (.t 15)), none⟩] true) .ret))))
def c_label_Valid : VC := (.seq (.region [⟨(some 2), (.mv (.c (.bool false))), none⟩] false) (.seq (.region [⟨(some 7), (.mv (.t 0)), none⟩, ⟨(some 8), (.call 28 [(.t 7)]), none⟩, ⟨(some 6), (.mv (.t 8)), none⟩, ⟨(some 9), (.ext (.t 6) 0), none⟩, ⟨(some 10), (.ext (.t 6) 1), none⟩, ⟨(some 3), (.mv (.t 9)), none⟩, ⟨(some 4), (.mv (.t 10)), none⟩] false) (.seq (.region [⟨(some 5), (.mv (.c (.fn (.func 31) [] []))), none⟩] false) (.seq (.region [⟨(some 11), (.mv (.t 3)), none⟩, ⟨(some 12), (.len true (.t 11)), none⟩, ⟨(some 13), (.bin .geq (.t 12) (.c (.int .i64 1))), none⟩, ⟨(some 14), (.mv (.t 13)), none⟩, ⟨(some 15), (.mv (.t 3)), (some (14, true))⟩, ⟨(some 16), (.len true (.t 15)), (some (14, true))⟩, ⟨(some 17), (.bin .leq (.t 16) (.c (.int .i64 4))), (some (14, true))⟩, ⟨(some 18), (.pick (.t 14) (.t 17) (.c (.bool false))), none⟩, ⟨(some 19), (.mv (.t 18)), none⟩, ⟨(some 20), (.mv (.t 3)), (some (19, true))⟩, ⟨(some 21), (.idx (.t 20) (.c (.int .i64 0))), (some (19, true))⟩, ⟨(some 22), (.bin .neq (.t 21) (.c (.int .u8 48))), (some (19, true))⟩, ⟨(some 23), (.pick (.t 19) (.t 22) (.c (.bool false))), none⟩, ⟨(some 24), (.mv (.t 23)), none⟩, ⟨(some 25), (.mv (.t 4)), (some (24, true))⟩, ⟨(some 26), (.len true (.t 25)), (some (24, true))⟩, ⟨(some 27), (.bin .leq (.t 26) (.c (.int .i64 3))), (some (24, true))⟩, ⟨(some 28), (.pick (.t 24) (.t 27) (.c (.bool false))), none⟩, ⟨(some 29), (.mv (.t 28)), none⟩, ⟨(some 30), (.mv (.t 4)), (some (29, true))⟩, ⟨(some 31), (.mv (.t 5)), (some (29, true))⟩, ⟨(some 32), (.call 32 [(.t 30), (.t 31)]), (some (29, true))⟩, ⟨(some 33), (.un .not (.t 32)), (some (29, true))⟩, ⟨(some 34), (.pick (.t 29) (.t 33) (.c (.bool false))), none⟩, ⟨(some 2), (.mv (.t 34)), none⟩] false) .ret))))
def c_label_Split : VC := (.seq (.region [⟨(some 2), (.mv (.c (.int .i64 0))), none⟩, ⟨(some 3), (.mv (.c (.str []))), none⟩] false) (.seq (.seq (.region [⟨(some 8), (.mv (.t 0)), none⟩, ⟨(some 9), (.call 13 [(.t 8)]), none⟩, ⟨(some 10), (.un .not (.t 9)), none⟩] false) (.cond (.t 10) (.seq (.region [⟨(some 2), (.mv (.c (.int .i64 0))), none⟩, ⟨(some 3), (.mv (.c (.str []))), none⟩] false) .ret) .skip)) (.seq (.region [⟨(some 12), (.mv (.t 0)), none⟩, ⟨(some 13), (.call 28 [(.t 12)]), none⟩, ⟨(some 11), (.mv (.t 13)), none⟩, ⟨(some 14), (.ext (.t 11) 0), none⟩, ⟨(some 15), (.ext (.t 11) 1), none⟩, ⟨(some 4), (.mv (.t 14)), none⟩, ⟨(some 5), (.mv (.t 15)), none⟩] false) (.seq (.region [⟨(some 17), (.mv (.t 4)), none⟩, ⟨(some 18), (.call 29 [(.t 17)]), none⟩, ⟨(some 16), (.mv (.t 18)), none⟩, ⟨(some 19), (.ext (.t 16) 0), none⟩, ⟨(some 20), (.ext (.t 16) 1), none⟩, ⟨(some 6), (.mv (.t 19)), none⟩, ⟨(some 7), (.mv (.t 20)), none⟩] false) (.seq (.region [⟨(some 21), (.mv (.t 6)), none⟩, ⟨(some 22), (.mv (.t 5)), none⟩, ⟨(some 2), (.mv (.t 21)), none⟩, ⟨(some 3), (.mv (.t 22)), none⟩] false) .ret)))))
def c_label_Compare : VC := (.seq (.region [⟨(some 4), (.mv (.c (.int .i64 0))), none⟩] false) (.seq (.region [⟨(some 11), (.mv (.t 0)), none⟩, ⟨(some 12), (.call 13 [(.t 11)]), none⟩, ⟨(some 13), (.mv (.t 1)), none⟩, ⟨(some 14), (.call 13 [(.t 13)]), none⟩, ⟨(some 5), (.mv (.t 12)), none⟩, ⟨(some 6), (.mv (.t 14)), none⟩] false) (.seq (.seq (.region [⟨(some 15), (.mv (.t 5)), none⟩, ⟨(some 16), (.un .not (.t 15)), none⟩, ⟨(some 17), (.mv (.t 16)), none⟩, ⟨(some 18), (.mv (.t 6)), (some (17, false))⟩, ⟨(some 19), (.un .not (.t 18)), (some (17, false))⟩, ⟨(some 20), (.pick (.t 17) (.c (.bool true)) (.t 19)), none⟩] false) (.cond (.t 20) (.seq (.seq (.region [⟨(some 21), (.mv (.t 5)), none⟩] false) (.cond (.t 21) (.seq (.region [⟨(some 4), (.mv (.c (.int .i64 (-1)))), none⟩] false) .ret) .skip)) (.seq (.seq (.region [⟨(some 22), (.mv (.t 6)), none⟩] false) (.cond (.t 22) (.seq (.region [⟨(some 4), (.mv (.c (.int .i64 1))), none⟩] false) .ret) .skip)) (.seq (.region [⟨(some 23), (.mv (.t 0)), none⟩, ⟨(some 24), (.mv (.t 1)), none⟩, ⟨(some 25), (.call 33 [(.t 23), (.t 24)]), none⟩, ⟨(some 4), (.mv (.t 25)), none⟩] false) .ret))) .skip)) (.seq (.region [⟨(some 27), (.mv (.t 0)), none⟩, ⟨(some 28), (.call 11 [(.t 27)]), none⟩, ⟨(some 26), (.mv (.t 28)), none⟩, ⟨(some 29), (.ext (.t 26) 0), none⟩, ⟨(some 30), (.ext (.t 26) 1), none⟩, ⟨(some 7), (.mv (.t 29)), none⟩, ⟨(some 8), (.mv (.t 30)), none⟩] false) (.seq (.region [⟨(some 32), (.mv (.t 1)), none⟩, ⟨(some 33), (.call 11 [(.t 32)]), none⟩, ⟨(some 31), (.mv (.t 33)), none⟩, ⟨(some 34), (.ext (.t 31) 0), none⟩, ⟨(some 35), (.ext (.t 31) 1), none⟩, ⟨(some 9), (.mv (.t 34)), none⟩, ⟨(some 10), (.mv (.t 35)), none⟩] false) (.seq (.region [⟨(some 36), (.mv (.t 7)), none⟩, ⟨(some 37), (.mv (.t 9)), none⟩, ⟨(some 38), (.call 35 [(.t 36), (.t 37)]), none⟩, ⟨(some 39), (.mv (.t 8)), none⟩, ⟨(some 40), (.mv (.t 10)), none⟩, ⟨(some 41), (.call 33 [(.t 39), (.t 40)]), none⟩, ⟨(some 42), (.bslice 1 2 [(.int .i64 0)] [(0, (.t 38)), (1, (.t 41))]), none⟩, ⟨(some 43), (.call 34 [(.t 42)]), none⟩, ⟨(some 4), (.mv (.t 43)), none⟩] false) .ret))))))
def c_label_made : VC := (.seq (.region [⟨(some 4), (.mv (.c (.str []))), none⟩, ⟨(some 5), (.mv (.c (.bool false))), none⟩] false) (.seq (.seq (.region [⟨(some 6), (.mv (.t 0)), none⟩, ⟨(some 7), (.bin .gtr (.t 6) (.c (.int .i64 9999))), none⟩] false) (.cond (.t 7) (.seq (.region [⟨(some 4), (.mv (.c (.str []))), none⟩, ⟨(some 5), (.mv (.c (.bool false))), none⟩] false) .ret) .skip)) (.seq (.region [⟨(some 8), (.mv (.t 0)), none⟩, ⟨(some 9), (.call 50 [(.t 8)]), none⟩, ⟨(some 10), (.mv (.t 1)), none⟩, ⟨(some 11), (.bin .add (.t 9) (.t 10)), none⟩, ⟨(some 4), (.mv (.t 11)), none⟩, ⟨(some 5), (.mv (.c (.bool true))), none⟩] false) .ret)))
def c_label_up : VC := (.seq (.region [⟨(some 2), (.mv (.c (.str []))), none⟩, ⟨(some 3), (.mv (.c (.bool false))), none⟩] false) (.scope (.seq (.region [⟨(some 5), (.mv (.t 0)), none⟩, ⟨(some 6), (.len true (.t 5)), none⟩, ⟨(some 7), (.bin .sub (.t 6) (.c (.int .i64 1))), none⟩, ⟨(some 4), (.mv (.t 7)), none⟩] false) (.seq .skip (.seq (.block 0 (.loop (.seq (.seq (.region [⟨(some 8), (.mv (.t 4)), none⟩, ⟨(some 9), (.bin .geq (.t 8) (.c (.int .i64 0))), none⟩] false) (.cond (.t 9) .skip (.exit 0))) (.seq (.block 1 (.seq (.region [⟨(some 12), (.mv (.t 0)), none⟩, ⟨(some 13), (.mv (.t 4)), none⟩, ⟨(some 14), (.idx (.t 12) (.t 13)), none⟩, ⟨(some 15), (.bin .neq (.t 14) (.c (.int .u8 90))), none⟩] false) (.cond (.t 15) (.exit 0) .skip))) (.region [⟨(some 10), (.mv (.t 4)), none⟩, ⟨(some 11), (.bin .sub (.t 10) (.c (.int .i64 1))), none⟩, ⟨(some 4), (.mv (.t 11)), none⟩] false))))) (.seq (.seq (.region [⟨(some 16), (.mv (.t 4)), none⟩, ⟨(some 17), (.bin .lss (.t 16) (.c (.int .i64 0))), none⟩] false) (.cond (.t 17) (.seq (.region [⟨(some 2), (.mv (.c (.str []))), none⟩, ⟨(some 3), (.mv (.c (.bool false))), none⟩] false) .ret) .skip)) (.seq (.region [⟨(some 18), (.mv (.t 0)), none⟩, ⟨(some 19), (.mv (.t 4)), none⟩, ⟨(some 20), (.slice true 0 (.t 18) none (some (.t 19))), none⟩, ⟨(some 21), (.mv (.t 0)), none⟩, ⟨(some 22), (.mv (.t 4)), none⟩, ⟨(some 23), (.idx (.t 21) (.t 22)), none⟩, ⟨(some 24), (.bin .add (.t 23) (.c (.int .u8 1))), none⟩, ⟨(some 25), (.bslice 1 1 [(.int .u8 0)] [(0, (.t 24))]), none⟩, ⟨(some 26), (.px .b2s [(.t 25)]), none⟩, ⟨(some 27), (.bin .add (.t 20) (.t 26)), none⟩, ⟨(some 2), (.mv (.t 27)), none⟩, ⟨(some 3), (.mv (.c (.bool true))), none⟩] true) .ret)))))))
def c_cmp_Or_int : VC := (.seq (.region [⟨(some 2), (.mv (.c (.int .i64 0))), none⟩] false) (.seq (.region [⟨(some 3), (.mv (.c (.int .i64 0))), none⟩] false) (.seq (.seq (.region [⟨(some 6), (.mv (.t 0)), none⟩, ⟨(some 7), (.len false (.t 6)), none⟩, ⟨(some 8), (.mv (.c (.int .i64 0))), none⟩] false) (.block 0 (.loop (.seq (.region [⟨(some 9), (.bin .lss (.t 8) (.t 7)), none⟩] false) (.seq (.cond (.t 9) .skip (.exit 0)) (.seq (.block 1 (.seq (.region [⟨(some 10), (.iaddr 1 (.t 6) (.t 8)), none⟩, ⟨(some 11), (.load false 1 (.t 10)), none⟩, ⟨(some 5), (.mv (.t 11)), none⟩] false) (.seq (.region [⟨(some 12), (.mv (.t 5)), none⟩, ⟨(some 13), (.mv (.t 3)), none⟩, ⟨(some 14), (.bin .neq (.t 12) (.t 13)), none⟩] false) (.cond (.t 14) (.seq (.region [⟨(some 15), (.mv (.t 5)), none⟩, ⟨(some 2), (.mv (.t 15)), none⟩] false) .ret) .skip)))) (.region [⟨(some 16), (.bin .add (.t 8) (.c (.int .i64 1))), none⟩, ⟨(some 8), (.mv (.t 16)), none⟩] false))))))) (.seq (.region [⟨(some 17), (.mv (.t 3)), none⟩, ⟨(some 2), (.mv (.t 17)), none⟩] false) .ret))))
def c_cmp_Compare_string : VC := (.seq (.region [⟨(some 4), (.mv (.c (.int .i64 0))), none⟩] false) (.seq (.region [⟨(some 7), (.mv (.t 0)), none⟩, ⟨(some 8), (.call 48 [(.t 7)]), none⟩, ⟨(some 5), (.mv (.t 8)), none⟩] false) (.seq (.region [⟨(some 9), (.mv (.t 1)), none⟩, ⟨(some 10), (.call 48 [(.t 9)]), none⟩, ⟨(some 6), (.mv (.t 10)), none⟩] false) (.seq (.seq (.region [⟨(some 11), (.mv (.t 5)), none⟩] false) (.cond (.t 11) (.seq (.seq (.region [⟨(some 12), (.mv (.t 6)), none⟩] false) (.cond (.t 12) (.seq (.region [⟨(some 4), (.mv (.c (.int .i64 0))), none⟩] false) .ret) .skip)) (.seq (.region [⟨(some 4), (.mv (.c (.int .i64 (-1)))), none⟩] false) .ret)) .skip)) (.seq (.seq (.region [⟨(some 13), (.mv (.t 6)), none⟩] false) (.cond (.t 13) (.seq (.region [⟨(some 4), (.mv (.c (.int .i64 1))), none⟩] false) .ret) .skip)) (.seq (.seq (.region [⟨(some 14), (.mv (.t 0)), none⟩, ⟨(some 15), (.mv (.t 1)), none⟩, ⟨(some 16), (.bin .lss (.t 14) (.t 15)), none⟩] false) (.cond (.t 16) (.seq (.region [⟨(some 4), (.mv (.c (.int .i64 (-1)))), none⟩] false) .ret) .skip)) (.seq (.seq (.region [⟨(some 17), (.mv (.t 0)), none⟩, ⟨(some 18), (.mv (.t 1)), none⟩, ⟨(some 19), (.bin .gtr (.t 17) (.t 18)), none⟩] false) (.cond (.t 19) (.seq (.region [⟨(some 4), (.mv (.c (.int .i64 1))), none⟩] false) .ret) .skip)) (.seq (.region [⟨(some 4), (.mv (.c (.int .i64 0))), none⟩] false) .ret))))))))
def c_cmp_isNaN_string : VC := (.seq (.region [⟨(some 2), (.mv (.c (.bool false))), none⟩] false) (.seq (.region [⟨(some 3), (.mv (.t 0)), none⟩, ⟨(some 4), (.mv (.t 0)), none⟩, ⟨(some 5), (.bin .neq (.t 3) (.t 4)), none⟩, ⟨(some 2), (.mv (.t 5)), none⟩] false) .ret))
def c_cmp_Compare_int : VC := (.seq (.region [⟨(some 4), (.mv (.c (.int .i64 0))), none⟩] false) (.seq (.region [⟨(some 7), (.mv (.t 0)), none⟩, ⟨(some 8), (.call 49 [(.t 7)]), none⟩, ⟨(some 5), (.mv (.t 8)), none⟩] false) (.seq (.region [⟨(some 9), (.mv (.t 1)), none⟩, ⟨(some 10), (.call 49 [(.t 9)]), none⟩, ⟨(some 6), (.mv (.t 10)), none⟩] false) (.seq (.seq (.region [⟨(some 11), (.mv (.t 5)), none⟩] false) (.cond (.t 11) (.seq (.seq (.region [⟨(some 12), (.mv (.t 6)), none⟩] false) (.cond (.t 12) (.seq (.region [⟨(some 4), (.mv (.c (.int .i64 0))), none⟩] false) .ret) .skip)) (.seq (.region [⟨(some 4), (.mv (.c (.int .i64 (-1)))), none⟩] false) .ret)) .skip)) (.seq (.seq (.region [⟨(some 13), (.mv (.t 6)), none⟩] false) (.cond (.t 13) (.seq (.region [⟨(some 4), (.mv (.c (.int .i64 1))), none⟩] false) .ret) .skip)) (.seq (.seq (.region [⟨(some 14), (.mv (.t 0)), none⟩, ⟨(some 15), (.mv (.t 1)), none⟩, ⟨(some 16), (.bin .lss (.t 14) (.t 15)), none⟩] false) (.cond (.t 16) (.seq (.region [⟨(some 4), (.mv (.c (.int .i64 (-1)))), none⟩] false) .ret) .skip)) (.seq (.seq (.region [⟨(some 17), (.mv (.t 0)), none⟩, ⟨(some 18), (.mv (.t 1)), none⟩, ⟨(some 19), (.bin .gtr (.t 17) (.t 18)), none⟩] false) (.cond (.t 19) (.seq (.region [⟨(some 4), (.mv (.c (.int .i64 1))), none⟩] false) .ret) .skip)) (.seq (.region [⟨(some 4), (.mv (.c (.int .i64 0))), none⟩] false) .ret))))))))
def c_cmp_isNaN_int : VC := (.seq (.region [⟨(some 2), (.mv (.c (.bool false))), none⟩] false) (.seq (.region [⟨(some 3), (.mv (.t 0)), none⟩, ⟨(some 4), (.mv (.t 0)), none⟩, ⟨(some 5), (.bin .neq (.t 3) (.t 4)), none⟩, ⟨(some 2), (.mv (.t 5)), none⟩] false) .ret))
theorem closed_ss (a b : Str) : Closed (.tup [.str a, .str b]) := closed_tup (by simp only [List.mem_cons, List.not_mem_nil, or_false, forall_eq_or_imp, forall_eq]; exact ⟨cS _, cS _⟩)
theorem closed_sb (a : Str) (b : Bool) : Closed (.tup [.str a, .bool b]) := closed_tup (by simp only [List.mem_cons, List.not_mem_nil, or_false, forall_eq_or_imp, forall_eq]; exact ⟨cS _, cB _⟩)
theorem sp_label_parted (s : Str) (hl : s.length ≤ 1000000) : PCall Tryd.prog 28 [.str s] (.tup [.str (dgs s), .str (caps s)]) := by
  have hdl := dgs_le s
  have hcl := caps_len' s
  have A := sp_IndexFunc s
  refine PCall_intro ?_ (closed_ss _ _) (by simp only [ClosedL, List.mem_cons, List.not_mem_nil, or_false, forall_eq_or_imp, forall_eq, false_implies, implies_true]; repeat' (first | exact cI _ | exact cS _ | exact cB _ | exact closed_fn0 _ | exact closed_nilsl | exact closed_agg (Un.closed _) | exact closed_agg (It.closed _) | exact closed_agg (EI.closed _) | exact closed_agg (Ac.closed _) | exact closed_agg (Wd.closed _) | exact closed_agg (St.closed _) | exact closed_agg (Sta.closed _) | exact closed_eis _ | exact closed_acs _ | exact closed_gzs _ | exact Closed.of_scalar (scalar_int _ _) | exact closed_ro (Ac.closed _) | exact closed_ro (Gz.closed _) | exact closed_agg (Gz.closed _) | exact closed_strs _ | exact closed_map (fun w _ => Wd.closed w) | exact closed_map (fun w _ => St.closed w) | exact closed_map (fun w _ => Un.closed w) | exact closed_map (fun w _ => It.closed w) | exact closed_sc _ | exact closed_sps _ | exact closed_agg (Sp.closed _) | exact closed_ro (EI.closed _) | exact closed_ro (Sta.closed _) | exact closed_ro (It.closed _) | exact closed_ro (by simp only [List.mem_cons, List.not_mem_nil, or_false, forall_eq]; first | exact cI _ | exact cS _ | exact closed_eis _) | refine And.intro ?_ ?_))
  refine ACall_fn (vc := c_label_parted) (ts := [.t 2, .t 3]) Go.Proofs.Tryd.func28 (by kernel_rfl) rfl rfl (Nat.le_of_ble_eq_true rfl) (by kernel_rfl) ?_
  unfold c_label_parted
  refine VW_seq (VW_region [0] ?_)
  simp only [OpsW_nil, OpsW_n, StepW, pok, pval, VA.ev, Env.get, Env.put, Env.keep, argEnv, thenQ, Heap.nil, ite_true, ite_false, true_and, reduceCtorEq]
  refine VW_seq (VW_region [0, 4] ?_)
  simp only [OpsW_nil, OpsW_n, StepW, pok, pval, VA.ev, Env.get, Env.put, Env.keep, thenQ, Nat.succ_ne_self, List.map, Nat.reduceEqDiff, ite_true, ite_false, true_and, reduceCtorEq]
  refine ACall_p A ?_
  skip
  refine VW_seq ?_
  rcases Nat.lt_or_ge (dgs s).length s.length with c | c
  · rw [if_pos c]
    refine VW_seq (VW_region [0, 4, 8] ?_)
    simp only [OpsW_nil, OpsW_n, StepW, pok, pval, VA.ev, Env.get, Env.put, Env.keep, thenQ, intV, binV, binOk, Nat.reduceEqDiff, ite_true, ite_false, true_and, reduceCtorEq]
    refine VW_cond rfl (fun h1 => by simp at h1; omega) (fun h1 => ?_)
    refine VW_skip ?_
    try simp only [thenQ]
    refine VW_seq (VW_drawS [2, 3] (by simp [Heap.le, Heap.get, HL.le, HL.get]) ?_)
    simp only [DrawW_nil, DrawW_n, QW, dok, dval, VOp.pure, VOp.simple, VOp.det, pok, pval, VA.ev, Env.get, Env.put, Env.keep, thenQ, gd, numOf, loV, hiV, lenV, boundOk, sliceV, sliceOk, Nat.le_refl, Nat.succ_ne_self, List.drop_zero, Option.map, Nat.reduceEqDiff, ite_true, ite_false, true_and, and_true, implies_true, forall_const, reduceCtorEq, Int.toNat_natCast, Nat.sub_zero]
    repeat (with_reducible refine And.intro ?_ ?_; first | omega | (with_reducible constructor <;> omega) | exact False.elim | exact True.intro)
    refine VW_ret ?_
    try simp only [Env.get, retQ, resV, resOk, RS.ev, RS.ok, Nat.succ_ne_self, List.map, Nat.reduceEqDiff, ite_true, ite_false, true_and, and_true]
    have e2 : List.take (s.length - (dgs s).length) (List.drop (dgs s).length s) = caps s := by
      rw [caps_drop, List.take_of_length_le (by simp)]
    rw [← dgs_take, e2]
    exact View.refl _ _
  · rw [if_neg (by omega)]
    have e0 : caps s = [] := List.eq_nil_of_length_eq_zero (by omega)
    have e1 : dgs s = s := by have := dgs_caps s; rw [e0, List.append_nil] at this; exact this
    refine VW_seq (VW_region [0, 4, 8] ?_)
    simp only [OpsW_nil, OpsW_n, StepW, pok, pval, VA.ev, Env.get, Env.put, Env.keep, thenQ, intV, binV, binOk, Nat.reduceEqDiff, ite_true, ite_false, true_and, reduceCtorEq]
    refine VW_cond rfl (fun h1 => ?_) (fun h1 => by simp at h1)
    refine VW_seq (VW_region [2, 3] ?_)
    simp only [OpsW_nil, OpsW_n, StepW, pok, pval, VA.ev, Env.get, Env.put, Env.keep, thenQ, Nat.succ_ne_self, Nat.reduceEqDiff, ite_true, ite_false, true_and, reduceCtorEq]
    refine VW_ret ?_
    try simp only [Env.get, thenQ, retQ, resV, resOk, RS.ev, RS.ok, Nat.succ_ne_self, List.map, Nat.reduceEqDiff, ite_true, ite_false, true_and, and_true]
    rw [e0, e1]
    exact View.refl _ _
theorem sp_label_Valid (s : Str) (hl : s.length ≤ 1000000) : PCall Tryd.prog 13 [.str s] (.bool (may s)) := by
  have hdl := dgs_le s
  have hcl := caps_len' s
  refine PCall_intro ?_ (cB _) (by simp only [ClosedL, List.mem_cons, List.not_mem_nil, or_false, forall_eq_or_imp, forall_eq, false_implies, implies_true]; repeat' (first | exact cI _ | exact cS _ | exact cB _ | exact closed_fn0 _ | exact closed_nilsl | exact closed_agg (Un.closed _) | exact closed_agg (It.closed _) | exact closed_agg (EI.closed _) | exact closed_agg (Ac.closed _) | exact closed_agg (Wd.closed _) | exact closed_agg (St.closed _) | exact closed_agg (Sta.closed _) | exact closed_eis _ | exact closed_acs _ | exact closed_gzs _ | exact Closed.of_scalar (scalar_int _ _) | exact closed_ro (Ac.closed _) | exact closed_ro (Gz.closed _) | exact closed_agg (Gz.closed _) | exact closed_strs _ | exact closed_map (fun w _ => Wd.closed w) | exact closed_map (fun w _ => St.closed w) | exact closed_map (fun w _ => Un.closed w) | exact closed_map (fun w _ => It.closed w) | exact closed_sc _ | exact closed_sps _ | exact closed_agg (Sp.closed _) | exact closed_ro (EI.closed _) | exact closed_ro (Sta.closed _) | exact closed_ro (It.closed _) | exact closed_ro (by simp only [List.mem_cons, List.not_mem_nil, or_false, forall_eq]; first | exact cI _ | exact cS _ | exact closed_eis _) | refine And.intro ?_ ?_))
  refine ACall_fn (vc := c_label_Valid) (ts := [.t 2]) Go.Proofs.Tryd.func13 (by kernel_rfl) rfl rfl (Nat.le_of_ble_eq_true rfl) (by kernel_rfl) ?_
  unfold c_label_Valid
  refine VW_seq (VW_region [0] ?_)
  simp only [OpsW_nil, OpsW_n, StepW, pok, pval, VA.ev, Env.get, Env.put, Env.keep, argEnv, thenQ, Heap.nil, ite_true, ite_false, true_and, reduceCtorEq]
  refine VW_seq (VW_region [3, 4] ?_)
  simp only [OpsW_nil, OpsW_n, StepW, pok, pval, VA.ev, Env.get, Env.put, Env.keep, thenQ, extV, extOk, PV.nth, Nat.succ_ne_self, List.map, Nat.reduceEqDiff, ite_true, ite_false, true_and, reduceCtorEq]
  refine ACall_p (sp_label_parted s hl) ?_
  try simp only [List.length, List.getD_cons_zero, List.getD_cons_succ, Nat.reduceAdd, Nat.reduceLT, true_and, Nat.zero_add]
  refine VW_seq (VW_region [3, 4, 5] ?_)
  simp only [OpsW_nil, OpsW_n, StepW, pok, pval, VA.ev, Env.get, Env.put, Env.keep, thenQ, Nat.succ_ne_self, Nat.reduceEqDiff, ite_true, ite_false, true_and]
  have A := sp_ContainsFunc (caps s)
  have fin : ∀ b, b = may s → View ⟨[], 0⟩ (PV.bool b) (.bool (may s)) := fun b e => by rw [e]; exact View.refl _ _
  refine VW_seq (VW_region [2] ?_)
  by_cases c1 : (dgs s).length < 1
  · have e1 : decide ((1 : Int) ≤ ((dgs s).length : Int)) = false := by simp only [decide_eq_false_iff_not]; omega
    simp only [OpsW_nil, OpsW_n, OpsW_xt, StepW, pok, pval, VA.ev, Env.get, Env.put, Env.keep, thenQ, pickV, isBool, intV, binV, binOk, lenV, lenOk, Nat.succ_ne_self, Nat.reduceEqDiff, Bool.false_eq_true, ite_true, ite_false, true_and, e1]
    refine VW_ret ?_
    try simp only [Env.get, retQ, resV, resOk, RS.ev, RS.ok, ite_true, true_and, and_true]
    refine fin _ ?_
    unfold may; rw [decide_eq_false (show ¬ 1 ≤ (dgs s).length by omega)]; rfl
  have e1 : decide ((1 : Int) ≤ ((dgs s).length : Int)) = true := by simp only [decide_eq_true_eq]; omega
  by_cases c2 : (dgs s).length > 4
  · have e2 : decide (((dgs s).length : Int) ≤ 4) = false := by simp only [decide_eq_false_iff_not]; omega
    simp only [OpsW_nil, OpsW_n, OpsW_y, OpsW_xt, StepW, pok, pval, VA.ev, Env.get, Env.put, Env.keep, thenQ, pickV, isBool, intV, binV, binOk, lenV, lenOk, Nat.succ_ne_self, Nat.reduceEqDiff, Bool.false_eq_true, ite_true, ite_false, true_and, e1, e2]
    refine VW_ret ?_
    try simp only [Env.get, retQ, resV, resOk, RS.ev, RS.ok, ite_true, true_and, and_true]
    refine fin _ ?_
    unfold may; rw [decide_eq_false (show ¬ (dgs s).length ≤ 4 by omega), Bool.and_false]; rfl
  have e2 : decide (((dgs s).length : Int) ≤ 4) = true := by simp only [decide_eq_true_eq]; omega
  have hne : s ≠ [] := by intro e; subst e; exact c1 (by simp [dgs])
  have hh := head_getD hne
  have hp : 0 < s.length := by cases s with | nil => exact absurd rfl hne | cons => simp
  have hd0 : (dgs s).getD 0 0 = s.getD 0 0 := by
    rw [dgs_take, List.getD_eq_getElem?_getD, List.getElem?_take, if_pos (by omega), ← List.getD_eq_getElem?_getD]
  by_cases c3 : (s.getD 0 0).toNat = 48
  · have e3 : (((s.getD 0 0).toNat : Int) != 48) = false := by rw [bne_eq_false_iff_eq]; omega
    simp only [OpsW_nil, OpsW_n, OpsW_y, OpsW_xt, StepW, pok, pval, VA.ev, Env.get, Env.put, Env.keep, thenQ, pickV, isBool, intV, binV, binOk, isInt, numOf, lenV, idxV, idxOk, lenOk, Nat.succ_ne_self, Nat.reduceEqDiff, Bool.false_eq_true, ite_true, ite_false, true_and, and_true, e1, e2, e3, Int.toNat_zero, hd0]
    repeat (with_reducible refine And.intro ?_ ?_; first | omega | (with_reducible constructor <;> omega) | exact False.elim | exact True.intro)
    refine VW_ret ?_
    try simp only [Env.get, retQ, resV, resOk, RS.ev, RS.ok, ite_true, true_and, and_true]
    refine fin _ ?_
    rw [decide_eq_true c3] at hh
    unfold may; rw [hh]; simp
  have e3 : (((s.getD 0 0).toNat : Int) != 48) = true := by rw [bne_iff_ne]; omega
  rw [decide_eq_false c3] at hh
  by_cases c4 : (caps s).length ≤ 3
  · have e4 : decide (((caps s).length : Int) ≤ 3) = true := by simp only [decide_eq_true_eq]; omega
    simp only [OpsW_nil, OpsW_n, OpsW_y, StepW, pok, pval, VA.ev, Env.get, Env.put, Env.keep, thenQ, pickV, isBool, intV, binV, binOk, unV, unOk, isInt, numOf, lenV, idxV, idxOk, lenOk, Nat.succ_ne_self, List.map, Nat.reduceEqDiff, ite_true, ite_false, true_and, and_true, e1, e2, e3, e4, Int.toNat_zero, hd0]
    repeat (with_reducible refine And.intro ?_ ?_; first | omega | (with_reducible constructor <;> omega) | exact False.elim | exact True.intro)
    refine ACall_p A ?_
    try simp only [true_and]
    refine VW_ret ?_
    try simp only [Env.get, retQ, resV, resOk, RS.ev, RS.ok, ite_true, true_and, and_true]
    refine fin _ ?_
    unfold may; rw [hh, decide_eq_true (show 1 ≤ (dgs s).length by omega), decide_eq_true (show (dgs s).length ≤ 4 by omega), decide_eq_true c4]; simp
  · have e4 : decide (((caps s).length : Int) ≤ 3) = false := by simp only [decide_eq_false_iff_not]; omega
    simp only [OpsW_nil, OpsW_n, OpsW_y, OpsW_xt, StepW, pok, pval, VA.ev, Env.get, Env.put, Env.keep, thenQ, pickV, isBool, intV, binV, binOk, isInt, numOf, lenV, idxV, idxOk, lenOk, Nat.succ_ne_self, Nat.reduceEqDiff, Bool.false_eq_true, ite_true, ite_false, true_and, and_true, e1, e2, e3, e4, Int.toNat_zero, hd0]
    repeat (with_reducible refine And.intro ?_ ?_; first | omega | (with_reducible constructor <;> omega) | exact False.elim | exact True.intro)
    refine VW_ret ?_
    try simp only [Env.get, retQ, resV, resOk, RS.ev, RS.ok, ite_true, true_and, and_true]
    refine fin _ ?_
    unfold may; rw [decide_eq_false c4]; simp
theorem sp_label_Split (s : Str) (hl : s.length ≤ 1000000) : PCall Tryd.prog 11 [.str s] (.tup [pI (splitN s), .str (splitC s)]) := by
  refine PCall_intro ?_ (closed_is _ _) (by simp only [ClosedL, List.mem_cons, List.not_mem_nil, or_false, forall_eq_or_imp, forall_eq, false_implies, implies_true]; repeat' (first | exact cI _ | exact cS _ | exact cB _ | exact closed_fn0 _ | exact closed_nilsl | exact closed_agg (Un.closed _) | exact closed_agg (It.closed _) | exact closed_agg (EI.closed _) | exact closed_agg (Ac.closed _) | exact closed_agg (Wd.closed _) | exact closed_agg (St.closed _) | exact closed_agg (Sta.closed _) | exact closed_eis _ | exact closed_acs _ | exact closed_gzs _ | exact Closed.of_scalar (scalar_int _ _) | exact closed_ro (Ac.closed _) | exact closed_ro (Gz.closed _) | exact closed_agg (Gz.closed _) | exact closed_strs _ | exact closed_map (fun w _ => Wd.closed w) | exact closed_map (fun w _ => St.closed w) | exact closed_map (fun w _ => Un.closed w) | exact closed_map (fun w _ => It.closed w) | exact closed_sc _ | exact closed_sps _ | exact closed_agg (Sp.closed _) | exact closed_ro (EI.closed _) | exact closed_ro (Sta.closed _) | exact closed_ro (It.closed _) | exact closed_ro (by simp only [List.mem_cons, List.not_mem_nil, or_false, forall_eq]; first | exact cI _ | exact cS _ | exact closed_eis _) | refine And.intro ?_ ?_))
  refine ACall_fn (vc := c_label_Split) (ts := [.t 2, .t 3]) Go.Proofs.Tryd.func11 (by kernel_rfl) rfl rfl (Nat.le_of_ble_eq_true rfl) (by kernel_rfl) ?_
  unfold c_label_Split
  refine VW_seq (VW_region [0] ?_)
  simp only [OpsW_nil, OpsW_n, StepW, pok, pval, VA.ev, Env.get, Env.put, Env.keep, argEnv, thenQ, Heap.nil, ite_true, ite_false, true_and, reduceCtorEq]
  refine VW_seq ?_
  refine VW_seq (VW_region [0, 10] ?_)
  simp only [OpsW_nil, OpsW_n, StepW, pok, pval, VA.ev, Env.get, Env.put, Env.keep, thenQ, unV, unOk, List.map, Nat.reduceEqDiff, ite_true, ite_false, true_and, reduceCtorEq]
  refine ACall_p (sp_label_Valid s hl) ?_
  try simp only [true_and]
  refine VW_cond rfl (fun h1 => ?_) (fun h1 => ?_)
  · refine VW_seq (VW_region [2, 3] ?_)
    simp only [OpsW_nil, OpsW_n, StepW, pok, pval, VA.ev, Env.get, Env.put, Env.keep, thenQ, Nat.succ_ne_self, Nat.reduceEqDiff, ite_true, ite_false, true_and, reduceCtorEq]
    refine VW_ret ?_
    try simp only [Env.get, thenQ, retQ, resV, resOk, RS.ev, RS.ok, Nat.succ_ne_self, List.map, Nat.reduceEqDiff, ite_true, ite_false, true_and, and_true]
    have e : may s = false := by cases h : may s; rfl; rw [h] at h1; cases h1
    simp only [splitN, splitC, e, Bool.false_eq_true, if_false]
    exact View.refl _ _
  have hm : may s = true := by cases h : may s; rw [h] at h1; cases h1; rfl
  obtain ⟨m1, m2, _⟩ := may_iff.1 hm
  refine VW_skip ?_
  try simp only [thenQ]
  refine VW_seq (VW_region [4, 5] ?_)
  simp only [OpsW_nil, OpsW_n, StepW, pok, pval, VA.ev, Env.get, Env.put, Env.keep, thenQ, extV, extOk, PV.nth, Nat.succ_ne_self, List.map, Nat.reduceEqDiff, ite_true, ite_false, true_and, reduceCtorEq]
  refine ACall_p (sp_label_parted s hl) ?_
  try simp only [List.length, List.getD_cons_zero, List.getD_cons_succ, Nat.reduceAdd, Nat.reduceLT, true_and, Nat.zero_add]
  refine VW_seq (VW_region [5, 6] ?_)
  simp only [OpsW_nil, OpsW_n, StepW, pok, pval, VA.ev, Env.get, Env.put, Env.keep, thenQ, extV, extOk, PV.nth, Nat.succ_ne_self, List.map, Nat.reduceEqDiff, ite_true, ite_false, true_and]
  refine ACall_p (sp_Atoi (dgs s) (dgs_all s) (by intro e; rw [e] at m1; simp at m1) (by omega)) ?_
  try simp only [List.length, List.getD_cons_zero, Nat.reduceAdd, Nat.reduceLT, true_and, Nat.zero_add]
  refine VW_seq (VW_region [2, 3] ?_)
  simp only [OpsW_nil, OpsW_n, StepW, pok, pval, VA.ev, Env.get, Env.put, Env.keep, thenQ, Nat.succ_ne_self, Nat.reduceEqDiff, ite_true, ite_false, true_and]
  refine VW_ret ?_
  try simp only [Env.get, retQ, resV, resOk, RS.ev, RS.ok, Nat.succ_ne_self, List.map, Nat.reduceEqDiff, ite_true, ite_false, true_and, and_true]
  simp only [splitN, splitC, hm, if_true, num]
  exact View.refl _ _
theorem sp_cmp_isNaN_int (x : Int) : PCall Tryd.prog 49 [pI x] (.bool false) := by
  refine PCall_intro ?_ (cB _) (by simp only [ClosedL, List.mem_cons, List.not_mem_nil, or_false, forall_eq_or_imp, forall_eq, false_implies, implies_true]; repeat' (first | exact cI _ | exact cS _ | exact cB _ | exact closed_fn0 _ | exact closed_nilsl | exact closed_agg (Un.closed _) | exact closed_agg (It.closed _) | exact closed_agg (EI.closed _) | exact closed_agg (Ac.closed _) | exact closed_agg (Wd.closed _) | exact closed_agg (St.closed _) | exact closed_agg (Sta.closed _) | exact closed_eis _ | exact closed_acs _ | exact closed_gzs _ | exact Closed.of_scalar (scalar_int _ _) | exact closed_ro (Ac.closed _) | exact closed_ro (Gz.closed _) | exact closed_agg (Gz.closed _) | exact closed_strs _ | exact closed_map (fun w _ => Wd.closed w) | exact closed_map (fun w _ => St.closed w) | exact closed_map (fun w _ => Un.closed w) | exact closed_map (fun w _ => It.closed w) | exact closed_sc _ | exact closed_sps _ | exact closed_agg (Sp.closed _) | exact closed_ro (EI.closed _) | exact closed_ro (Sta.closed _) | exact closed_ro (It.closed _) | exact closed_ro (by simp only [List.mem_cons, List.not_mem_nil, or_false, forall_eq]; first | exact cI _ | exact cS _ | exact closed_eis _) | refine And.intro ?_ ?_))
  refine ACall_fn (vc := c_cmp_isNaN_int) (ts := [.t 2]) Go.Proofs.Tryd.func49 (by kernel_rfl) rfl rfl (Nat.le_of_ble_eq_true rfl) (by kernel_rfl) ?_
  unfold c_cmp_isNaN_int
  refine VW_seq (VW_region [0] ?_)
  simp only [OpsW_nil, OpsW_n, StepW, pok, pval, VA.ev, Env.get, Env.put, Env.keep, argEnv, thenQ, Heap.nil, ite_true, ite_false, true_and, reduceCtorEq]
  refine VW_seq (VW_region [2] ?_)
  simp only [OpsW_nil, OpsW_n, StepW, pok, pval, VA.ev, Env.get, Env.put, Env.keep, thenQ, intV, binV, binOk, Nat.succ_ne_self, Nat.reduceEqDiff, ite_true, ite_false, true_and, reduceCtorEq]
  refine VW_ret ?_
  try simp only [Env.get, retQ, resV, resOk, RS.ev, RS.ok, ite_true, true_and, and_true]
  simp only [bne_self_eq_false]
  exact View.refl _ _
theorem sp_cmp_isNaN_string (x : Str) : PCall Tryd.prog 48 [.str x] (.bool false) := by
  refine PCall_intro ?_ (cB _) (by simp only [ClosedL, List.mem_cons, List.not_mem_nil, or_false, forall_eq_or_imp, forall_eq, false_implies, implies_true]; repeat' (first | exact cI _ | exact cS _ | exact cB _ | exact closed_fn0 _ | exact closed_nilsl | exact closed_agg (Un.closed _) | exact closed_agg (It.closed _) | exact closed_agg (EI.closed _) | exact closed_agg (Ac.closed _) | exact closed_agg (Wd.closed _) | exact closed_agg (St.closed _) | exact closed_agg (Sta.closed _) | exact closed_eis _ | exact closed_acs _ | exact closed_gzs _ | exact Closed.of_scalar (scalar_int _ _) | exact closed_ro (Ac.closed _) | exact closed_ro (Gz.closed _) | exact closed_agg (Gz.closed _) | exact closed_strs _ | exact closed_map (fun w _ => Wd.closed w) | exact closed_map (fun w _ => St.closed w) | exact closed_map (fun w _ => Un.closed w) | exact closed_map (fun w _ => It.closed w) | exact closed_sc _ | exact closed_sps _ | exact closed_agg (Sp.closed _) | exact closed_ro (EI.closed _) | exact closed_ro (Sta.closed _) | exact closed_ro (It.closed _) | exact closed_ro (by simp only [List.mem_cons, List.not_mem_nil, or_false, forall_eq]; first | exact cI _ | exact cS _ | exact closed_eis _) | refine And.intro ?_ ?_))
  refine ACall_fn (vc := c_cmp_isNaN_string) (ts := [.t 2]) Go.Proofs.Tryd.func48 (by kernel_rfl) rfl rfl (Nat.le_of_ble_eq_true rfl) (by kernel_rfl) ?_
  unfold c_cmp_isNaN_string
  refine VW_seq (VW_region [0] ?_)
  simp only [OpsW_nil, OpsW_n, StepW, pok, pval, VA.ev, Env.get, Env.put, Env.keep, argEnv, thenQ, Heap.nil, ite_true, ite_false, true_and, reduceCtorEq]
  refine VW_seq (VW_region [2] ?_)
  simp only [OpsW_nil, OpsW_n, StepW, pok, pval, VA.ev, Env.get, Env.put, Env.keep, thenQ, binV, binOk, strV, Nat.succ_ne_self, Nat.reduceEqDiff, ite_true, ite_false, true_and, reduceCtorEq]
  refine VW_ret ?_
  try simp only [Env.get, retQ, resV, resOk, RS.ev, RS.ok, ite_true, true_and, and_true]
  simp only [bne_self_eq_false]
  exact View.refl _ _
theorem sp_cmp_Compare_int (x y : Int) : PCall Tryd.prog 35 [pI x, pI y] (pI (cmpN x y)) := by
  refine PCall_intro ?_ (cI _) (by simp only [ClosedL, List.mem_cons, List.not_mem_nil, or_false, forall_eq_or_imp, forall_eq, false_implies, implies_true]; repeat' (first | exact cI _ | exact cS _ | exact cB _ | exact closed_fn0 _ | exact closed_nilsl | exact closed_agg (Un.closed _) | exact closed_agg (It.closed _) | exact closed_agg (EI.closed _) | exact closed_agg (Ac.closed _) | exact closed_agg (Wd.closed _) | exact closed_agg (St.closed _) | exact closed_agg (Sta.closed _) | exact closed_eis _ | exact closed_acs _ | exact closed_gzs _ | exact Closed.of_scalar (scalar_int _ _) | exact closed_ro (Ac.closed _) | exact closed_ro (Gz.closed _) | exact closed_agg (Gz.closed _) | exact closed_strs _ | exact closed_map (fun w _ => Wd.closed w) | exact closed_map (fun w _ => St.closed w) | exact closed_map (fun w _ => Un.closed w) | exact closed_map (fun w _ => It.closed w) | exact closed_sc _ | exact closed_sps _ | exact closed_agg (Sp.closed _) | exact closed_ro (EI.closed _) | exact closed_ro (Sta.closed _) | exact closed_ro (It.closed _) | exact closed_ro (by simp only [List.mem_cons, List.not_mem_nil, or_false, forall_eq]; first | exact cI _ | exact cS _ | exact closed_eis _) | refine And.intro ?_ ?_))
  refine ACall_fn (vc := c_cmp_Compare_int) (ts := [.t 4]) Go.Proofs.Tryd.func35 (by kernel_rfl) rfl rfl (Nat.le_of_ble_eq_true rfl) (by kernel_rfl) ?_
  unfold c_cmp_Compare_int
  refine VW_seq (VW_region [0, 1] ?_)
  simp only [OpsW_nil, OpsW_n, StepW, pok, pval, VA.ev, Env.get, Env.put, Env.keep, argEnv, thenQ, Heap.nil, Nat.succ_ne_self, Nat.reduceEqDiff, ite_true, ite_false, true_and, reduceCtorEq, Nat.zero_add]
  refine VW_seq (VW_region [0, 1, 5] ?_)
  simp only [OpsW_nil, OpsW_n, StepW, pok, pval, VA.ev, Env.get, Env.put, Env.keep, thenQ, Nat.succ_ne_self, List.map, Nat.reduceEqDiff, ite_true, ite_false, true_and, reduceCtorEq]
  refine ACall_p (sp_cmp_isNaN_int ..) ?_
  skip
  refine VW_seq (VW_region [0, 1, 5, 6] ?_)
  simp only [OpsW_nil, OpsW_n, StepW, pok, pval, VA.ev, Env.get, Env.put, Env.keep, thenQ, Nat.succ_ne_self, List.map, Nat.reduceEqDiff, ite_true, ite_false, true_and, reduceCtorEq]
  refine ACall_p (sp_cmp_isNaN_int ..) ?_
  skip
  refine VW_seq ?_
  refine VW_seq (VW_region [0, 1, 6, 11] ?_)
  simp only [OpsW_nil, OpsW_n, StepW, pok, pval, VA.ev, Env.get, Env.put, Env.keep, thenQ, Nat.succ_ne_self, Nat.reduceEqDiff, ite_true, ite_false, true_and, reduceCtorEq]
  refine VW_cond rfl (fun h1 => by cases h1) (fun h1 => ?_)
  refine VW_skip ?_
  try simp only [thenQ]
  refine VW_seq ?_
  refine VW_seq (VW_region [0, 1, 13] ?_)
  simp only [OpsW_nil, OpsW_n, StepW, pok, pval, VA.ev, Env.get, Env.put, Env.keep, thenQ, Nat.succ_ne_self, Nat.reduceEqDiff, ite_true, ite_false, true_and, reduceCtorEq]
  refine VW_cond rfl (fun h1 => by cases h1) (fun h1 => ?_)
  refine VW_skip ?_
  try simp only [thenQ]
  refine VW_seq ?_
  refine VW_seq (VW_region [0, 1, 16] ?_)
  simp only [OpsW_nil, OpsW_n, StepW, pok, pval, VA.ev, Env.get, Env.put, Env.keep, thenQ, intV, binV, binOk, Nat.succ_ne_self, Nat.reduceEqDiff, ite_true, ite_false, true_and, reduceCtorEq]
  refine VW_cond rfl (fun h4 => ?_) (fun h4 => ?_)
  · refine VW_seq (VW_region [4] ?_)
    simp only [OpsW_nil, OpsW_n, StepW, pok, pval, VA.ev, Env.get, Env.put, Env.keep, thenQ, Nat.reduceEqDiff, ite_true, ite_false, true_and, reduceCtorEq]
    refine VW_ret ?_
    try simp only [Env.get, thenQ, retQ, resV, resOk, RS.ev, RS.ok, ite_true, true_and, and_true]
    have e : cmpN x y = -1 := by unfold cmpN; rw [if_pos (by simpa using h4)]
    rw [e]; exact View.refl _ _
  refine VW_skip ?_
  try simp only [thenQ]
  refine VW_seq ?_
  refine VW_seq (VW_region [19] ?_)
  simp only [OpsW_nil, OpsW_n, StepW, pok, pval, VA.ev, Env.get, Env.put, Env.keep, thenQ, intV, binV, binOk, Nat.succ_ne_self, Nat.reduceEqDiff, ite_true, ite_false, true_and, reduceCtorEq]
  refine VW_cond rfl (fun h5 => ?_) (fun h5 => ?_)
  · refine VW_seq (VW_region [4] ?_)
    simp only [OpsW_nil, OpsW_n, StepW, pok, pval, VA.ev, Env.get, Env.put, Env.keep, thenQ, Nat.reduceEqDiff, ite_true, ite_false, true_and]
    refine VW_ret ?_
    try simp only [Env.get, thenQ, retQ, resV, resOk, RS.ev, RS.ok, ite_true, true_and, and_true]
    have e : cmpN x y = 1 := by simp only [decide_eq_true_eq, decide_eq_false_iff_not] at h4 h5; unfold cmpN; rw [if_neg (by omega), if_neg (by omega)]
    rw [e]; exact View.refl _ _
  refine VW_skip ?_
  try simp only [thenQ]
  refine VW_seq (VW_region [4] ?_)
  simp only [OpsW_nil, OpsW_n, StepW, pok, pval, VA.ev, Env.get, Env.put, Env.keep, thenQ, Nat.reduceEqDiff, ite_true, ite_false, true_and]
  refine VW_ret ?_
  try simp only [Env.get, retQ, resV, resOk, RS.ev, RS.ok, ite_true, true_and, and_true]
  have e : cmpN x y = 0 := by simp only [decide_eq_false_iff_not] at h4 h5; unfold cmpN; rw [if_neg (by omega), if_pos (by omega)]
  rw [e]; exact View.refl _ _
theorem sp_cmp_Compare_string (x y : Str) : PCall Tryd.prog 33 [.str x, .str y] (pI (cmpS x y)) := by
  refine PCall_intro ?_ (cI _) (by simp only [ClosedL, List.mem_cons, List.not_mem_nil, or_false, forall_eq_or_imp, forall_eq, false_implies, implies_true]; repeat' (first | exact cI _ | exact cS _ | exact cB _ | exact closed_fn0 _ | exact closed_nilsl | exact closed_agg (Un.closed _) | exact closed_agg (It.closed _) | exact closed_agg (EI.closed _) | exact closed_agg (Ac.closed _) | exact closed_agg (Wd.closed _) | exact closed_agg (St.closed _) | exact closed_agg (Sta.closed _) | exact closed_eis _ | exact closed_acs _ | exact closed_gzs _ | exact Closed.of_scalar (scalar_int _ _) | exact closed_ro (Ac.closed _) | exact closed_ro (Gz.closed _) | exact closed_agg (Gz.closed _) | exact closed_strs _ | exact closed_map (fun w _ => Wd.closed w) | exact closed_map (fun w _ => St.closed w) | exact closed_map (fun w _ => Un.closed w) | exact closed_map (fun w _ => It.closed w) | exact closed_sc _ | exact closed_sps _ | exact closed_agg (Sp.closed _) | exact closed_ro (EI.closed _) | exact closed_ro (Sta.closed _) | exact closed_ro (It.closed _) | exact closed_ro (by simp only [List.mem_cons, List.not_mem_nil, or_false, forall_eq]; first | exact cI _ | exact cS _ | exact closed_eis _) | refine And.intro ?_ ?_))
  refine ACall_fn (vc := c_cmp_Compare_string) (ts := [.t 4]) Go.Proofs.Tryd.func33 (by kernel_rfl) rfl rfl (Nat.le_of_ble_eq_true rfl) (by kernel_rfl) ?_
  unfold c_cmp_Compare_string
  refine VW_seq (VW_region [0, 1] ?_)
  simp only [OpsW_nil, OpsW_n, StepW, pok, pval, VA.ev, Env.get, Env.put, Env.keep, argEnv, thenQ, Heap.nil, Nat.succ_ne_self, Nat.reduceEqDiff, ite_true, ite_false, true_and, reduceCtorEq, Nat.zero_add]
  refine VW_seq (VW_region [0, 1, 5] ?_)
  simp only [OpsW_nil, OpsW_n, StepW, pok, pval, VA.ev, Env.get, Env.put, Env.keep, thenQ, Nat.succ_ne_self, List.map, Nat.reduceEqDiff, ite_true, ite_false, true_and, reduceCtorEq]
  refine ACall_p (sp_cmp_isNaN_string ..) ?_
  skip
  refine VW_seq (VW_region [0, 1, 5, 6] ?_)
  simp only [OpsW_nil, OpsW_n, StepW, pok, pval, VA.ev, Env.get, Env.put, Env.keep, thenQ, Nat.succ_ne_self, List.map, Nat.reduceEqDiff, ite_true, ite_false, true_and, reduceCtorEq]
  refine ACall_p (sp_cmp_isNaN_string ..) ?_
  skip
  refine VW_seq ?_
  refine VW_seq (VW_region [0, 1, 6, 11] ?_)
  simp only [OpsW_nil, OpsW_n, StepW, pok, pval, VA.ev, Env.get, Env.put, Env.keep, thenQ, Nat.succ_ne_self, Nat.reduceEqDiff, ite_true, ite_false, true_and, reduceCtorEq]
  refine VW_cond rfl (fun h1 => by cases h1) (fun h1 => ?_)
  refine VW_skip ?_
  try simp only [thenQ]
  refine VW_seq ?_
  refine VW_seq (VW_region [0, 1, 13] ?_)
  simp only [OpsW_nil, OpsW_n, StepW, pok, pval, VA.ev, Env.get, Env.put, Env.keep, thenQ, Nat.succ_ne_self, Nat.reduceEqDiff, ite_true, ite_false, true_and, reduceCtorEq]
  refine VW_cond rfl (fun h1 => by cases h1) (fun h1 => ?_)
  refine VW_skip ?_
  try simp only [thenQ]
  refine VW_seq ?_
  refine VW_seq (VW_region [0, 1, 16] ?_)
  simp only [OpsW_nil, OpsW_n, StepW, pok, pval, VA.ev, Env.get, Env.put, Env.keep, thenQ, binV, binOk, strV, Nat.succ_ne_self, Nat.reduceEqDiff, ite_true, ite_false, true_and, reduceCtorEq, bytesLess_eq]
  refine VW_cond rfl (fun h4 => ?_) (fun h4 => ?_)
  · refine VW_seq (VW_region [4] ?_)
    simp only [OpsW_nil, OpsW_n, StepW, pok, pval, VA.ev, Env.get, Env.put, Env.keep, thenQ, Nat.reduceEqDiff, ite_true, ite_false, true_and, reduceCtorEq]
    refine VW_ret ?_
    try simp only [Env.get, thenQ, retQ, resV, resOk, RS.ev, RS.ok, ite_true, true_and, and_true]
    have e : cmpS x y = -1 := by unfold cmpS; rw [if_pos (by simpa using h4)]
    rw [e]; exact View.refl _ _
  refine VW_skip ?_
  try simp only [thenQ]
  refine VW_seq ?_
  refine VW_seq (VW_region [19] ?_)
  simp only [OpsW_nil, OpsW_n, StepW, pok, pval, VA.ev, Env.get, Env.put, Env.keep, thenQ, binV, binOk, strV, Nat.succ_ne_self, Nat.reduceEqDiff, ite_true, ite_false, true_and, reduceCtorEq, bytesLess_eq]
  have h4' : ¬ x < y := of_decide_eq_false h4
  refine VW_cond rfl (fun h5 => ?_) (fun h5 => ?_)
  · refine VW_seq (VW_region [4] ?_)
    simp only [OpsW_nil, OpsW_n, StepW, pok, pval, VA.ev, Env.get, Env.put, Env.keep, thenQ, Nat.reduceEqDiff, ite_true, ite_false, true_and]
    refine VW_ret ?_
    try simp only [Env.get, thenQ, retQ, resV, resOk, RS.ev, RS.ok, ite_true, true_and, and_true]
    have e : cmpS x y = 1 := by
      unfold cmpS; rw [if_neg h4', if_neg]
      intro e; subst e; simp at h5
    rw [e]; exact View.refl _ _
  refine VW_skip ?_
  try simp only [thenQ]
  refine VW_seq (VW_region [4] ?_)
  simp only [OpsW_nil, OpsW_n, StepW, pok, pval, VA.ev, Env.get, Env.put, Env.keep, thenQ, Nat.reduceEqDiff, ite_true, ite_false, true_and]
  refine VW_ret ?_
  try simp only [Env.get, retQ, resV, resOk, RS.ev, RS.ok, ite_true, true_and, and_true]
  have e : cmpS x y = 0 := by
    unfold cmpS; rw [if_neg h4', if_pos]
    simp [h4'] at h5; exact h5
  rw [e]; exact View.refl _ _
def orL : List Int → Int
  | [] => 0
  | a :: r => if a = 0 then orL r else a
theorem orL_at : ∀ (l : List Int) (k : Nat), (∀ (j : Nat) (hj : j < l.length), j < k → l[j] = 0) → ∀ (hk : k < l.length), l[k] ≠ 0 → orL l = l[k]
  | [], k, _, hk, _ => by simp at hk
  | a :: r, 0, _, _, h => by simp only [List.getElem_cons_zero] at h ⊢; simp [orL, h]
  | a :: r, k + 1, h1, hk, h => by
    have h0 : a = 0 := h1 0 (by simp) (by omega)
    simp only [List.getElem_cons_succ] at h ⊢
    simp only [orL, h0, if_true]
    exact orL_at r k (fun j hj hjk => h1 (j + 1) (by simpa using hj) (by omega)) (by simpa using hk) h
theorem orL_zero : ∀ (l : List Int), (∀ (j : Nat) (hj : j < l.length), l[j] = 0) → orL l = 0
  | [], _ => rfl
  | a :: r, h => by
    have h0 : a = 0 := h 0 (by simp)
    simp only [orL, h0, if_true]
    exact orL_zero r (fun j hj => h (j + 1) (by simpa using hj))
theorem sp_cmp_Or_int (l : List Int) (hl : l.length ≤ 1000000) : PCall Tryd.prog 34 [.sl 1 (l.map fun x => [pI x])] (pI (orL l)) := by
  refine PCall_intro ?_ (cI _) (by simp only [ClosedL, List.mem_cons, List.not_mem_nil, or_false, forall_eq_or_imp, forall_eq, false_implies, implies_true]; repeat' (first | exact cI _ | exact cS _ | exact cB _ | exact closed_fn0 _ | exact closed_nilsl | exact closed_agg (Un.closed _) | exact closed_agg (It.closed _) | exact closed_agg (EI.closed _) | exact closed_agg (Ac.closed _) | exact closed_agg (Wd.closed _) | exact closed_agg (St.closed _) | exact closed_agg (Sta.closed _) | exact closed_eis _ | exact closed_acs _ | exact closed_gzs _ | exact Closed.of_scalar (scalar_int _ _) | exact closed_ro (Ac.closed _) | exact closed_ro (Gz.closed _) | exact closed_agg (Gz.closed _) | exact closed_strs _ | exact closed_map (fun w _ => Wd.closed w) | exact closed_map (fun w _ => St.closed w) | exact closed_map (fun w _ => Un.closed w) | exact closed_map (fun w _ => It.closed w) | exact closed_sc _ | exact closed_sps _ | exact closed_agg (Sp.closed _) | exact closed_ro (EI.closed _) | exact closed_ro (Sta.closed _) | exact closed_ro (It.closed _) | exact closed_ro (by simp only [List.mem_cons, List.not_mem_nil, or_false, forall_eq]; first | exact cI _ | exact cS _ | exact closed_eis _) | refine And.intro ?_ ?_))
  refine ACall_fn (vc := c_cmp_Or_int) (ts := [.t 2]) Go.Proofs.Tryd.func34 (by kernel_rfl) rfl rfl (Nat.le_of_ble_eq_true rfl) (by kernel_rfl) ?_
  unfold c_cmp_Or_int
  refine VW_seq (VW_region [0] ?_)
  simp only [OpsW_nil, OpsW_n, StepW, pok, pval, VA.ev, Env.get, Env.put, Env.keep, argEnv, thenQ, Heap.nil, ite_true, ite_false, true_and, reduceCtorEq]
  refine VW_seq (VW_region [0, 3] ?_)
  simp only [OpsW_nil, OpsW_n, StepW, pok, pval, VA.ev, Env.get, Env.put, Env.keep, thenQ, ite_true, ite_false, true_and, reduceCtorEq]
  refine VW_seq ?_
  refine VW_seq (VW_region [3, 6, 7, 8] ?_)
  simp only [OpsW_nil, OpsW_n, StepW, pok, pval, VA.ev, Env.get, Env.put, Env.keep, thenQ, lenV, lenOk, Nat.succ_ne_self, Nat.reduceEqDiff, ite_true, ite_false, true_and, reduceCtorEq, List.length_map]
  refine VW_block ?_
  refine VW_loop (σ := { k : Nat // k ≤ l.length ∧ ∀ (j : Nat) (hj : j < l.length), j < k → l[j] = 0 }) (fun x => ([(3, pI 0), (6, .sl 1 (l.map fun x => [pI x])), (7, pI l.length), (8, pI x.1)], ⟨[], 0⟩)) (fun x => l.length - x.1) ⟨0, Nat.zero_le _, fun j _ h => by cases h⟩ ?_ ?_ ?_
  · simp only [Env.get, Nat.succ_ne_self, Env.le, Nat.reduceEqDiff, ite_true, ite_false, true_and, and_true]
    rfl
  · simp only [Heap.le, HL.le, Nat.le_refl, and_true]
  rintro ⟨k, hk, hpre⟩
  simp only []
  refine VW_seq (VW_region [3, 6, 7, 8, 9] ?_)
  simp only [OpsW_nil, OpsW_n, StepW, pok, pval, VA.ev, Env.get, Env.put, Env.keep, thenQ, intV, binV, binOk, Heap.le, HL.le, Nat.succ_ne_self, Env.le, Nat.reduceEqDiff, ite_true, ite_false, true_and, and_true]
  refine VW_seq ?_
  refine VW_cond rfl (fun h1 => ?_) (fun h1 => ?_)
  · have ka : k < l.length := by simp only [decide_eq_true_eq] at h1; omega
    refine VW_skip ?_
    try simp only [thenQ]
    refine VW_seq ?_
    refine VW_block ?_
    refine VW_seq (VW_region [3, 5, 6, 7, 8] ?_)
    simp only [OpsW_nil, OpsW_n, StepW, pok, pval, VA.ev, Env.get, Env.put, Env.keep, thenQ, aggV, isInt, numOf, lenV, locCells, locOk, iaddrV, iaddrOk, PV.nth, PV.row, Nat.le_refl, Nat.succ_ne_self, List.length, List.getD_cons_zero, List.take, List.take_succ_cons, Nat.reduceEqDiff, Bool.false_eq_true, ite_true, ite_false, true_and, and_true, implies_true, Nat.zero_add, List.length_cons, Int.toNat_natCast, List.length_map, rowm ka]
    repeat (with_reducible refine And.intro ?_ ?_; first | omega | (with_reducible constructor <;> omega) | exact False.elim | exact True.intro)
    refine VW_seq (VW_region [3, 5, 6, 7, 8, 14] ?_)
    simp only [OpsW_nil, OpsW_n, StepW, pok, pval, VA.ev, Env.get, Env.put, Env.keep, thenQ, intV, binV, binOk, Nat.succ_ne_self, Nat.reduceEqDiff, ite_true, ite_false, true_and]
    refine VW_cond rfl (fun h2 => ?_) (fun h2 => ?_)
    · refine VW_seq (VW_region [2] ?_)
      simp only [OpsW_nil, OpsW_n, StepW, pok, pval, VA.ev, Env.get, Env.put, Env.keep, thenQ, Nat.succ_ne_self, Nat.reduceEqDiff, ite_true, ite_false, true_and]
      refine VW_ret ?_
      try simp only [Env.get, thenQ, blockQ, retQ, resV, resOk, RS.ev, RS.ok, ite_true, true_and, and_true]
      rw [orL_at l k hpre ka (by simpa using h2)]
      exact View.refl _ _
    refine VW_skip ?_
    try simp only [thenQ, blockQ]
    have hz : l[k] = 0 := by simpa using h2
    refine VW_region [3, 6, 7, 8] ?_
    simp only [OpsW_nil, OpsW_n, StepW, pok, pval, VA.ev, Env.get, Env.put, Env.keep, thenQ, intV, binV, binOk, Nat.le_refl, Nat.succ_ne_self, Nat.reduceEqDiff, ite_true, ite_false, true_and, w64 (n := (k : Int) + 1) (by omega) (by omega)]
    refine ⟨⟨k + 1, ka, fun j hj hjk => ?_⟩, ?_, ?_⟩
    · by_cases e : j = k
      · subst e; exact hz
      · exact hpre j hj (by omega)
    · rfl
    · simp only []; omega
  · have ka : k = l.length := by simp only [decide_eq_false_iff_not] at h1; omega
    refine VW_exit ?_
    try simp only [thenQ, blockQ, retQ, ite_true]
    refine VW_seq (VW_region [2] ?_)
    simp only [OpsW_nil, OpsW_n, StepW, pok, pval, VA.ev, Env.get, Env.put, Env.keep, thenQ, Nat.succ_ne_self, Nat.reduceEqDiff, ite_true, ite_false, true_and]
    refine VW_ret ?_
    try simp only [Env.get, retQ, resV, resOk, RS.ev, RS.ok, ite_true, true_and, and_true]
    rw [orL_zero l (fun j hj => hpre j hj (by omega))]
    exact View.refl _ _
theorem or_two (a b : Int) : orL [a, b] = orI a b := by
  unfold orI; simp only [orL]; split
  · split
    · rename_i h; rw [h]
    · rfl
  · rfl
theorem sp_label_Compare (a b : Str) (ha : a.length ≤ 1000000) (hb : b.length ≤ 1000000) : PCall Tryd.prog 15 [.str a, .str b] (pI (cmpL a b)) := by
  have A := sp_label_Valid a ha
  have B := sp_label_Valid b hb
  have SA := sp_label_Split a ha
  have SB := sp_label_Split b hb
  refine PCall_intro ?_ (cI _) (by simp only [ClosedL, List.mem_cons, List.not_mem_nil, or_false, forall_eq_or_imp, forall_eq, false_implies, implies_true]; repeat' (first | exact cI _ | exact cS _ | exact cB _ | exact closed_fn0 _ | exact closed_nilsl | exact closed_agg (Un.closed _) | exact closed_agg (It.closed _) | exact closed_agg (EI.closed _) | exact closed_agg (Ac.closed _) | exact closed_agg (Wd.closed _) | exact closed_agg (St.closed _) | exact closed_agg (Sta.closed _) | exact closed_eis _ | exact closed_acs _ | exact closed_gzs _ | exact Closed.of_scalar (scalar_int _ _) | exact closed_ro (Ac.closed _) | exact closed_ro (Gz.closed _) | exact closed_agg (Gz.closed _) | exact closed_strs _ | exact closed_map (fun w _ => Wd.closed w) | exact closed_map (fun w _ => St.closed w) | exact closed_map (fun w _ => Un.closed w) | exact closed_map (fun w _ => It.closed w) | exact closed_sc _ | exact closed_sps _ | exact closed_agg (Sp.closed _) | exact closed_ro (EI.closed _) | exact closed_ro (Sta.closed _) | exact closed_ro (It.closed _) | exact closed_ro (by simp only [List.mem_cons, List.not_mem_nil, or_false, forall_eq]; first | exact cI _ | exact cS _ | exact closed_eis _) | refine And.intro ?_ ?_))
  refine ACall_fn (vc := c_label_Compare) (ts := [.t 4]) Go.Proofs.Tryd.func15 (by kernel_rfl) rfl rfl (Nat.le_of_ble_eq_true rfl) (by kernel_rfl) ?_
  unfold c_label_Compare
  refine VW_seq (VW_region [0, 1] ?_)
  simp only [OpsW_nil, OpsW_n, StepW, pok, pval, VA.ev, Env.get, Env.put, Env.keep, argEnv, thenQ, Heap.nil, Nat.succ_ne_self, Nat.reduceEqDiff, ite_true, ite_false, true_and, reduceCtorEq, Nat.zero_add]
  refine VW_seq (VW_region [0, 1, 5, 6] ?_)
  simp only [OpsW_nil, OpsW_n, StepW, pok, pval, VA.ev, Env.get, Env.put, Env.keep, thenQ, Nat.succ_ne_self, List.map, Nat.reduceEqDiff, ite_true, ite_false, true_and, reduceCtorEq]
  refine ACall_p A ?_
  skip
  refine ACall_p B ?_
  skip
  refine VW_seq ?_
  refine VW_seq (VW_region [0, 1, 5, 6, 20] ?_)
  cases hma : may a <;> cases hmb : may b
  · simp only [OpsW_nil, OpsW_n, OpsW_xf, StepW, pok, pval, VA.ev, Env.get, Env.put, Env.keep, thenQ, pickV, isBool, unV, unOk, Nat.succ_ne_self, Nat.reduceEqDiff, ite_true, ite_false, true_and, reduceCtorEq, Bool.not_false]
    refine VW_cond rfl (fun _ => ?_) (fun h => by cases h)
    refine VW_seq ?_
    refine VW_seq (VW_region [0, 1, 6, 21] ?_)
    simp only [OpsW_nil, OpsW_n, StepW, pok, pval, VA.ev, Env.get, Env.put, Env.keep, thenQ, Nat.succ_ne_self, Nat.reduceEqDiff, ite_true, ite_false, true_and, reduceCtorEq]
    refine VW_cond rfl (fun h => by cases h) (fun _ => ?_)
    refine VW_skip ?_
    try simp only [thenQ]
    refine VW_seq ?_
    refine VW_seq (VW_region [0, 1, 22] ?_)
    simp only [OpsW_nil, OpsW_n, StepW, pok, pval, VA.ev, Env.get, Env.put, Env.keep, thenQ, Nat.succ_ne_self, Nat.reduceEqDiff, ite_true, ite_false, true_and, reduceCtorEq]
    refine VW_cond rfl (fun h => by cases h) (fun _ => ?_)
    refine VW_skip ?_
    try simp only [thenQ]
    refine VW_seq (VW_region [4] ?_)
    simp only [OpsW_nil, OpsW_n, StepW, pok, pval, VA.ev, Env.get, Env.put, Env.keep, thenQ, Nat.succ_ne_self, List.map, Nat.reduceEqDiff, ite_true, ite_false, true_and, reduceCtorEq]
    refine ACall_p (sp_cmp_Compare_string a b) ?_
    skip
    refine VW_ret ?_
    try simp only [Env.get, thenQ, retQ, resV, resOk, RS.ev, RS.ok, ite_true, true_and, and_true]
    have e : cmpL a b = cmpS a b := by unfold cmpL; simp [hma, hmb]
    rw [e]; exact View.refl _ _
  · simp only [OpsW_nil, OpsW_n, OpsW_xf, StepW, pok, pval, VA.ev, Env.get, Env.put, Env.keep, thenQ, pickV, isBool, unV, unOk, Nat.succ_ne_self, Nat.reduceEqDiff, ite_true, ite_false, true_and, reduceCtorEq, Bool.not_false]
    refine VW_cond rfl (fun _ => ?_) (fun h => by cases h)
    refine VW_seq ?_
    refine VW_seq (VW_region [0, 1, 6, 21] ?_)
    simp only [OpsW_nil, OpsW_n, StepW, pok, pval, VA.ev, Env.get, Env.put, Env.keep, thenQ, Nat.succ_ne_self, Nat.reduceEqDiff, ite_true, ite_false, true_and, reduceCtorEq]
    refine VW_cond rfl (fun h => by cases h) (fun _ => ?_)
    refine VW_skip ?_
    try simp only [thenQ]
    refine VW_seq ?_
    refine VW_seq (VW_region [0, 1, 22] ?_)
    simp only [OpsW_nil, OpsW_n, StepW, pok, pval, VA.ev, Env.get, Env.put, Env.keep, thenQ, Nat.succ_ne_self, Nat.reduceEqDiff, ite_true, ite_false, true_and, reduceCtorEq]
    refine VW_cond rfl (fun _ => ?_) (fun h => by cases h)
    refine VW_seq (VW_region [4] ?_)
    simp only [OpsW_nil, OpsW_n, StepW, pok, pval, VA.ev, Env.get, Env.put, Env.keep, thenQ, Nat.reduceEqDiff, ite_true, ite_false, true_and, reduceCtorEq]
    refine VW_ret ?_
    try simp only [Env.get, thenQ, retQ, resV, resOk, RS.ev, RS.ok, ite_true, true_and, and_true]
    have e : cmpL a b = 1 := by unfold cmpL; simp [hma, hmb]
    rw [e]; exact View.refl _ _
  · simp only [OpsW_nil, OpsW_n, OpsW_y, StepW, pok, pval, VA.ev, Env.get, Env.put, Env.keep, thenQ, pickV, isBool, unV, unOk, Nat.succ_ne_self, Nat.reduceEqDiff, Bool.false_eq_true, ite_true, ite_false, true_and, reduceCtorEq, Bool.not_false, Bool.not_true]
    refine VW_cond rfl (fun _ => ?_) (fun h => by cases h)
    refine VW_seq ?_
    refine VW_seq (VW_region [0, 1, 6, 21] ?_)
    simp only [OpsW_nil, OpsW_n, StepW, pok, pval, VA.ev, Env.get, Env.put, Env.keep, thenQ, Nat.succ_ne_self, Nat.reduceEqDiff, ite_true, ite_false, true_and, reduceCtorEq]
    refine VW_cond rfl (fun _ => ?_) (fun h => by cases h)
    refine VW_seq (VW_region [4] ?_)
    simp only [OpsW_nil, OpsW_n, StepW, pok, pval, VA.ev, Env.get, Env.put, Env.keep, thenQ, Nat.reduceEqDiff, ite_true, ite_false, true_and, reduceCtorEq]
    refine VW_ret ?_
    try simp only [Env.get, thenQ, retQ, resV, resOk, RS.ev, RS.ok, ite_true, true_and, and_true]
    have e : cmpL a b = -1 := by unfold cmpL; simp [hma, hmb]
    rw [e]; exact View.refl _ _
  · have ena : splitN a = (num a : Int) := by simp [splitN, hma]
    have enb : splitN b = (num b : Int) := by simp [splitN, hmb]
    have eca : splitC a = caps a := by simp [splitC, hma]
    have ecb : splitC b = caps b := by simp [splitC, hmb]
    rw [ena, eca] at SA
    rw [enb, ecb] at SB
    simp only [OpsW_nil, OpsW_n, OpsW_y, StepW, pok, pval, VA.ev, Env.get, Env.put, Env.keep, thenQ, pickV, isBool, unV, unOk, Nat.succ_ne_self, Nat.reduceEqDiff, Bool.false_eq_true, ite_true, ite_false, true_and, reduceCtorEq, Bool.not_true]
    refine VW_cond rfl (fun h => by cases h) (fun _ => ?_)
    refine VW_skip ?_
    try simp only [thenQ]
    refine VW_seq (VW_region [1, 7, 8] ?_)
    simp only [OpsW_nil, OpsW_n, StepW, pok, pval, VA.ev, Env.get, Env.put, Env.keep, thenQ, extV, extOk, PV.nth, Nat.succ_ne_self, List.map, Nat.reduceEqDiff, ite_true, ite_false, true_and, reduceCtorEq]
    refine ACall_p SA ?_
    try simp only [List.length, List.getD_cons_zero, List.getD_cons_succ, Nat.reduceAdd, Nat.reduceLT, true_and, Nat.zero_add]
    refine VW_seq (VW_region [7, 8, 9, 10] ?_)
    simp only [OpsW_nil, OpsW_n, StepW, pok, pval, VA.ev, Env.get, Env.put, Env.keep, thenQ, extV, extOk, PV.nth, Nat.succ_ne_self, List.map, Nat.reduceEqDiff, ite_true, ite_false, true_and]
    refine ACall_p SB ?_
    try simp only [List.length, List.getD_cons_zero, List.getD_cons_succ, Nat.reduceAdd, Nat.reduceLT, true_and, Nat.zero_add]
    refine VW_seq (VW_region [4] ?_)
    simp only [OpsW_nil, OpsW_n, StepW, pok, pval, VA.ev, Env.get, Env.put, Env.keep, thenQ, PV.cells, PV.fits, Heap.push, Nat.succ_ne_self, elemsV, elemsOk, List.map, List.set, List.replicate, Nat.reduceEqDiff, Nat.reduceLT, ite_true, ite_false, true_and, and_true, BEq.rfl]
    refine ACall_p (sp_cmp_Compare_int ..) ?_
    try simp only [true_and]
    refine ACall_p (sp_cmp_Compare_string ..) ?_
    try simp only [true_and, Nat.zero_add]
    refine ACall_f [.sl 1 (List.map (fun x => [pI x]) [cmpN (num a) (num b), cmpS (caps a) (caps b)])] ⟨View.own_all (fz := false) rfl rfl, trivial⟩ (ACall_p (sp_cmp_Or_int [cmpN (num a) (num b), cmpS (caps a) (caps b)] (by simp)) ?_)
    try simp only []
    refine VW_ret ?_
    try simp only [Env.get, retQ, resV, resOk, RS.ev, RS.ok, ite_true, true_and, and_true]
    have e : cmpL a b = orI (cmpN (num a) (num b)) (cmpS (caps a) (caps b)) := by unfold cmpL; simp [hma, hmb]
    rw [e, or_two]; exact View.refl _ _
def optT (o : Option Str) : PV := .tup [.str (o.getD []), .bool o.isSome]
theorem closed_opt (o : Option Str) : Closed (optT o) := closed_sb _ _
theorem sp_label_made (n : Nat) (c : Str) (hn : n ≤ 1000000) (hc : c.length ≤ 1000000) : PCall Tryd.prog 37 [pI n, .str c] (optT (made n c)) := by
  refine PCall_intro ?_ (closed_opt _) (by simp only [ClosedL, List.mem_cons, List.not_mem_nil, or_false, forall_eq_or_imp, forall_eq, false_implies, implies_true]; repeat' (first | exact cI _ | exact cS _ | exact cB _ | exact closed_fn0 _ | exact closed_nilsl | exact closed_agg (Un.closed _) | exact closed_agg (It.closed _) | exact closed_agg (EI.closed _) | exact closed_agg (Ac.closed _) | exact closed_agg (Wd.closed _) | exact closed_agg (St.closed _) | exact closed_agg (Sta.closed _) | exact closed_eis _ | exact closed_acs _ | exact closed_gzs _ | exact Closed.of_scalar (scalar_int _ _) | exact closed_ro (Ac.closed _) | exact closed_ro (Gz.closed _) | exact closed_agg (Gz.closed _) | exact closed_strs _ | exact closed_map (fun w _ => Wd.closed w) | exact closed_map (fun w _ => St.closed w) | exact closed_map (fun w _ => Un.closed w) | exact closed_map (fun w _ => It.closed w) | exact closed_sc _ | exact closed_sps _ | exact closed_agg (Sp.closed _) | exact closed_ro (EI.closed _) | exact closed_ro (Sta.closed _) | exact closed_ro (It.closed _) | exact closed_ro (by simp only [List.mem_cons, List.not_mem_nil, or_false, forall_eq]; first | exact cI _ | exact cS _ | exact closed_eis _) | refine And.intro ?_ ?_))
  refine ACall_fn (vc := c_label_made) (ts := [.t 4, .t 5]) Go.Proofs.Tryd.func37 (by kernel_rfl) rfl rfl (Nat.le_of_ble_eq_true rfl) (by kernel_rfl) ?_
  unfold c_label_made
  refine VW_seq (VW_region [0, 1] ?_)
  simp only [OpsW_nil, OpsW_n, StepW, pok, pval, VA.ev, Env.get, Env.put, Env.keep, argEnv, thenQ, Heap.nil, Nat.succ_ne_self, Nat.reduceEqDiff, ite_true, ite_false, true_and, reduceCtorEq, Nat.zero_add]
  refine VW_seq ?_
  refine VW_seq (VW_region [0, 1, 7] ?_)
  simp only [OpsW_nil, OpsW_n, StepW, pok, pval, VA.ev, Env.get, Env.put, Env.keep, thenQ, intV, binV, binOk, Nat.succ_ne_self, Nat.reduceEqDiff, ite_true, ite_false, true_and, reduceCtorEq]
  refine VW_cond rfl (fun h1 => ?_) (fun h1 => ?_)
  · have h9 : n > 9999 := by simp only [decide_eq_true_eq] at h1; omega
    refine VW_seq (VW_region [4, 5] ?_)
    simp only [OpsW_nil, OpsW_n, StepW, pok, pval, VA.ev, Env.get, Env.put, Env.keep, thenQ, Nat.succ_ne_self, Nat.reduceEqDiff, ite_true, ite_false, true_and, reduceCtorEq]
    refine VW_ret ?_
    try simp only [Env.get, thenQ, retQ, resV, resOk, RS.ev, RS.ok, Nat.succ_ne_self, List.map, Nat.reduceEqDiff, ite_true, ite_false, true_and, and_true]
    have e : made n c = none := by unfold made; rw [if_pos h9]
    rw [e]; exact View.refl _ _
  have h9 : ¬ n > 9999 := by simp only [decide_eq_false_iff_not] at h1; omega
  have hd := decDigits_four (n := n) (by omega)
  refine VW_skip ?_
  try simp only [thenQ]
  refine VW_seq (VW_region [4, 5] ?_)
  simp only [OpsW_nil, OpsW_n, StepW, pok, pval, VA.ev, Env.get, Env.put, Env.keep, thenQ, intV, binV, binOk, strV, Nat.succ_ne_self, List.map, Nat.reduceEqDiff, ite_true, ite_false, true_and, reduceCtorEq]
  refine ACall_p (sp_Itoa n (by omega)) ?_
  try simp only []
  refine ⟨by omega, ?_⟩
  refine VW_ret ?_
  try simp only [Env.get, retQ, resV, resOk, RS.ev, RS.ok, Nat.succ_ne_self, List.map, Nat.reduceEqDiff, ite_true, ite_false, true_and, and_true]
  have e : made n c = some (text n c) := by unfold made; rw [if_neg h9]
  rw [e]; exact View.refl _ _
theorem sp_label_up (s : Str) (hl : s.length ≤ 1000000) : PCall Tryd.prog 36 [.str s] (optT (up s)) := by
  refine PCall_intro ?_ (closed_opt _) (by simp only [ClosedL, List.mem_cons, List.not_mem_nil, or_false, forall_eq_or_imp, forall_eq, false_implies, implies_true]; repeat' (first | exact cI _ | exact cS _ | exact cB _ | exact closed_fn0 _ | exact closed_nilsl | exact closed_agg (Un.closed _) | exact closed_agg (It.closed _) | exact closed_agg (EI.closed _) | exact closed_agg (Ac.closed _) | exact closed_agg (Wd.closed _) | exact closed_agg (St.closed _) | exact closed_agg (Sta.closed _) | exact closed_eis _ | exact closed_acs _ | exact closed_gzs _ | exact Closed.of_scalar (scalar_int _ _) | exact closed_ro (Ac.closed _) | exact closed_ro (Gz.closed _) | exact closed_agg (Gz.closed _) | exact closed_strs _ | exact closed_map (fun w _ => Wd.closed w) | exact closed_map (fun w _ => St.closed w) | exact closed_map (fun w _ => Un.closed w) | exact closed_map (fun w _ => It.closed w) | exact closed_sc _ | exact closed_sps _ | exact closed_agg (Sp.closed _) | exact closed_ro (EI.closed _) | exact closed_ro (Sta.closed _) | exact closed_ro (It.closed _) | exact closed_ro (by simp only [List.mem_cons, List.not_mem_nil, or_false, forall_eq]; first | exact cI _ | exact cS _ | exact closed_eis _) | refine And.intro ?_ ?_))
  refine ACall_fn (vc := c_label_up) (ts := [.t 2, .t 3]) Go.Proofs.Tryd.func36 (by kernel_rfl) rfl rfl (Nat.le_of_ble_eq_true rfl) (by kernel_rfl) ?_
  unfold c_label_up
  refine VW_seq (VW_region [0] ?_)
  simp only [OpsW_nil, OpsW_n, StepW, pok, pval, VA.ev, Env.get, Env.put, Env.keep, argEnv, thenQ, Heap.nil, ite_true, ite_false, true_and, reduceCtorEq]
  refine VW_scope ?_
  refine VW_seq (VW_region [0, 4] ?_)
  simp only [OpsW_nil, OpsW_n, StepW, pok, pval, VA.ev, Env.get, Env.put, Env.keep, thenQ, intV, binV, binOk, lenV, lenOk, Nat.succ_ne_self, Nat.reduceEqDiff, ite_true, ite_false, true_and, reduceCtorEq, w64 (n := (s.length : Int) - 1) (by omega) (by omega)]
  refine VW_seq ?_
  refine VW_skip ?_
  try simp only [thenQ]
  refine VW_seq ?_
  refine VW_block ?_
  refine VW_loop (σ := { k : Nat // k ≤ s.length ∧ sgo s s.length = sgo s k }) (fun x => ([(0, .str s), (4, pI ((x.1 : Int) - 1))], ⟨[], 0⟩)) (fun x => x.1) ⟨s.length, Nat.le_refl _, rfl⟩ ?_ ?_ ?_
  · simp only [Env.get, Env.le, ite_true, ite_false, and_true, reduceCtorEq]
  · simp only [Heap.le, HL.le, Nat.le_refl, and_true]
  rintro ⟨k, hk, hgo⟩
  simp only []
  refine VW_seq ?_
  refine VW_seq (VW_region [0, 4, 9] ?_)
  simp only [OpsW_nil, OpsW_n, StepW, pok, pval, VA.ev, Env.get, Env.put, Env.keep, thenQ, intV, binV, binOk, Heap.le, HL.le, Env.le, Nat.reduceEqDiff, ite_true, ite_false, true_and, and_true, reduceCtorEq]
  refine VW_cond rfl (fun h1 => ?_) (fun h1 => ?_)
  · have hk0 : 0 < k := by simp only [decide_eq_true_eq] at h1; omega
    obtain ⟨m, rfl⟩ : ∃ m, k = m + 1 := ⟨k - 1, by omega⟩
    have em : ((m + 1 : Nat) : Int) - 1 = (m : Int) := by omega
    rw [em]
    refine VW_skip ?_
    try simp only [thenQ]
    refine VW_seq ?_
    refine VW_block ?_
    refine VW_seq (VW_region [0, 4, 15] ?_)
    simp only [OpsW_nil, OpsW_n, StepW, pok, pval, VA.ev, Env.get, Env.put, Env.keep, thenQ, intV, binV, binOk, isInt, numOf, lenV, idxV, idxOk, Nat.succ_ne_self, Nat.reduceEqDiff, ite_true, ite_false, true_and, and_true, reduceCtorEq, Int.toNat_natCast]
    repeat (with_reducible refine And.intro ?_ ?_; first | omega | (with_reducible constructor <;> omega) | exact False.elim | exact True.intro)
    refine VW_cond rfl (fun h2 => ?_) (fun h2 => ?_)
    · have h90 : ¬ s.getD m 0 = 90 := by
        intro e; rw [eq90] at e
        simp only [bne_iff_ne] at h2; omega
      have hs1 : sgo s s.length = m + 1 := by rw [hgo]; simp only [sgo]; rw [if_neg h90]
      refine VW_exit ?_
      try simp only [thenQ, blockQ, ite_true, ite_false, reduceCtorEq]
      refine VW_seq ?_
      refine VW_seq (VW_region [0, 4, 17] ?_)
      simp only [OpsW_nil, OpsW_n, StepW, pok, pval, VA.ev, Env.get, Env.put, Env.keep, thenQ, intV, binV, binOk, Nat.reduceEqDiff, ite_true, ite_false, true_and, reduceCtorEq]
      refine VW_cond rfl (fun h3 => by simp only [decide_eq_true_eq] at h3; omega) (fun _ => ?_)
      refine VW_skip ?_
      try simp only [thenQ]
      have tl2 : (s.take m).length = m := by simp; omega
      refine VW_seq (VW_drawS [2, 3] (by simp [Heap.le, Heap.get, HL.le, HL.get]) ?_)
      simp only [DrawW_nil, DrawW_n, QW, dok, dval, VOp.pure, VOp.simple, VOp.det, pok, pval, VA.ev, Env.get, Env.put, Env.keep, thenQ, gd, intV, binV, binOk, strV, isInt, numOf, loV, hiV, lenV, boundOk, sliceV, sliceOk, idxV, idxOk, PV.cells, PV.fits, Nat.succ_ne_self, elemsV, elemsOk, pxV, pxOk, List.map, List.set, List.replicate, List.length, List.drop_zero, Option.map, Nat.reduceEqDiff, Nat.reduceLT, Nat.reduceLeDiff, ite_true, ite_false, true_and, and_true, implies_true, forall_const, reduceCtorEq, BEq.rfl, Nat.zero_add, Int.toNat_natCast, Nat.sub_zero, bytesOk, isByte, byteRows, byte_inc, tl2]
      refine ⟨⟨by omega, by omega, by omega⟩, ⟨by omega, by omega⟩, fun r hr => by rw [List.mem_singleton] at hr; subst hr; trivial, by omega, ?_⟩
      refine VW_ret ?_
      try simp only [Env.get, retQ, resV, resOk, RS.ev, RS.ok, Nat.succ_ne_self, List.map, Nat.reduceEqDiff, ite_true, ite_false, true_and, and_true, scopeQ]
      have e : up s = some (s.take m ++ [s.getD m 0 + 1]) := by unfold up; rw [hs1]
      rw [e]; exact View.refl _ _
    have h90 : s.getD m 0 = 90 := by
      rw [eq90]
      simp only [bne_eq_false_iff_eq] at h2; omega
    refine VW_skip ?_
    try simp only [thenQ, blockQ]
    refine VW_region [0, 4] ?_
    simp only [OpsW_nil, OpsW_n, StepW, pok, pval, VA.ev, Env.get, Env.put, Env.keep, thenQ, intV, binV, binOk, Nat.le_refl, Nat.reduceEqDiff, ite_true, ite_false, true_and, reduceCtorEq, w64 (n := (m : Int) - 1) (by omega) (by omega)]
    refine ⟨⟨m, by omega, ?_⟩, ?_, ?_⟩
    · rw [hgo]; show sgo s (m + 1) = _
      simp only [sgo]; rw [if_pos h90]
    · rfl
    · simp only []; omega
  · have hk0 : k = 0 := by simp only [decide_eq_false_iff_not] at h1; omega
    subst hk0
    have hs0 : sgo s s.length = 0 := hgo
    refine VW_exit ?_
    try simp only [thenQ, blockQ, ite_true]
    refine VW_seq ?_
    refine VW_seq (VW_region [0, 4, 17] ?_)
    simp only [OpsW_nil, OpsW_n, StepW, pok, pval, VA.ev, Env.get, Env.put, Env.keep, thenQ, intV, binV, binOk, Nat.reduceEqDiff, ite_true, ite_false, true_and, reduceCtorEq]
    refine VW_cond rfl (fun _ => ?_) (fun h3 => by simp only [decide_eq_false_iff_not] at h3; omega)
    refine VW_seq (VW_region [2, 3] ?_)
    simp only [OpsW_nil, OpsW_n, StepW, pok, pval, VA.ev, Env.get, Env.put, Env.keep, thenQ, Nat.succ_ne_self, Nat.reduceEqDiff, ite_true, ite_false, true_and, reduceCtorEq]
    refine VW_ret ?_
    try simp only [Env.get, thenQ, retQ, resV, resOk, RS.ev, RS.ok, Nat.succ_ne_self, List.map, Nat.reduceEqDiff, ite_true, ite_false, true_and, and_true, scopeQ]
    have e : up s = none := by unfold up; rw [hs0]
    rw [e]; exact View.refl _ _
end Go.Proofs.YtihfbefagcdpmaaDoor.w


namespace Go.Proofs.YtihfbefagcdpmaaDoor.w
open Go Go.VM
set_option maxRecDepth 20000
set_option maxHeartbeats 0
set_option pp.deepTerms false
def c_label_Next : VC := (.seq (.region [⟨(some 2), (.mv (.c (.str []))), none⟩, ⟨(some 3), (.mv (.c (.bool false))), none⟩] false) (.seq (.seq (.region [⟨(some 8), (.mv (.t 0)), none⟩, ⟨(some 9), (.call 13 [(.t 8)]), none⟩, ⟨(some 10), (.un .not (.t 9)), none⟩] false) (.cond (.t 10) (.seq (.region [⟨(some 2), (.mv (.c (.str []))), none⟩, ⟨(some 3), (.mv (.c (.bool false))), none⟩] false) .ret) .skip)) (.seq (.region [⟨(some 12), (.mv (.t 0)), none⟩, ⟨(some 13), (.call 11 [(.t 12)]), none⟩, ⟨(some 11), (.mv (.t 13)), none⟩, ⟨(some 14), (.ext (.t 11) 0), none⟩, ⟨(some 15), (.ext (.t 11) 1), none⟩, ⟨(some 4), (.mv (.t 14)), none⟩, ⟨(some 5), (.mv (.t 15)), none⟩] false) (.seq (.seq (.region [⟨(some 17), (.mv (.t 5)), none⟩, ⟨(some 18), (.call 36 [(.t 17)]), none⟩, ⟨(some 16), (.mv (.t 18)), none⟩, ⟨(some 19), (.ext (.t 16) 0), none⟩, ⟨(some 20), (.ext (.t 16) 1), none⟩, ⟨(some 6), (.mv (.t 19)), none⟩, ⟨(some 7), (.mv (.t 20)), none⟩] false) (.seq (.region [⟨(some 21), (.mv (.t 7)), none⟩] false) (.cond (.t 21) (.seq (.region [⟨(some 22), (.mv (.t 4)), none⟩, ⟨(some 23), (.mv (.t 6)), none⟩, ⟨(some 24), (.call 37 [(.t 22), (.t 23)]), none⟩, ⟨(some 25), (.ext (.t 24) 0), none⟩, ⟨(some 26), (.ext (.t 24) 1), none⟩, ⟨(some 2), (.mv (.t 25)), none⟩, ⟨(some 3), (.mv (.t 26)), none⟩] false) .ret) .skip))) (.seq (.region [⟨(some 27), (.mv (.t 4)), none⟩, ⟨(some 28), (.bin .add (.t 27) (.c (.int .i64 1))), none⟩, ⟨(some 29), (.call 37 [(.t 28), (.c (.str []))]), none⟩, ⟨(some 30), (.ext (.t 29) 0), none⟩, ⟨(some 31), (.ext (.t 29) 1), none⟩, ⟨(some 2), (.mv (.t 30)), none⟩, ⟨(some 3), (.mv (.t 31)), none⟩] false) .ret)))))
def c_label_behind : VC := (.seq (.region [⟨(some 4), (.mv (.c (.str []))), none⟩, ⟨(some 5), (.mv (.c (.bool false))), none⟩] false) (.seq (.region [⟨(some 11), (.mv (.t 0)), none⟩, ⟨(some 12), (.call 11 [(.t 11)]), none⟩, ⟨(some 10), (.mv (.t 12)), none⟩, ⟨(some 13), (.ext (.t 10) 0), none⟩, ⟨(some 14), (.ext (.t 10) 1), none⟩, ⟨(some 6), (.mv (.t 13)), none⟩, ⟨(some 7), (.mv (.t 14)), none⟩] false) (.seq (.seq (.region [⟨(some 15), (.mv (.t 7)), none⟩, ⟨(some 16), (.len true (.t 15)), none⟩, ⟨(some 17), (.mv (.t 1)), none⟩, ⟨(some 18), (.bin .lss (.t 16) (.t 17)), none⟩] false) (.cond (.t 18) (.seq (.region [⟨(some 19), (.mv (.t 6)), none⟩, ⟨(some 20), (.mv (.t 7)), none⟩, ⟨(some 21), (.mv (.t 1)), none⟩, ⟨(some 22), (.mv (.t 7)), none⟩, ⟨(some 23), (.len true (.t 22)), none⟩, ⟨(some 24), (.bin .sub (.t 21) (.t 23)), none⟩, ⟨(some 25), (.call 51 [(.c (.str [65])), (.t 24)]), none⟩, ⟨(some 26), (.bin .add (.t 20) (.t 25)), none⟩, ⟨(some 27), (.call 37 [(.t 19), (.t 26)]), none⟩, ⟨(some 28), (.ext (.t 27) 0), none⟩, ⟨(some 29), (.ext (.t 27) 1), none⟩, ⟨(some 4), (.mv (.t 28)), none⟩, ⟨(some 5), (.mv (.t 29)), none⟩] false) .ret) .skip)) (.seq (.seq (.region [⟨(some 31), (.mv (.t 7)), none⟩, ⟨(some 32), (.mv (.t 1)), none⟩, ⟨(some 33), (.slice true 0 (.t 31) none (some (.t 32))), none⟩, ⟨(some 34), (.call 36 [(.t 33)]), none⟩, ⟨(some 30), (.mv (.t 34)), none⟩, ⟨(some 35), (.ext (.t 30) 0), none⟩, ⟨(some 36), (.ext (.t 30) 1), none⟩, ⟨(some 8), (.mv (.t 35)), none⟩, ⟨(some 9), (.mv (.t 36)), none⟩] false) (.seq (.region [⟨(some 37), (.mv (.t 9)), none⟩] false) (.cond (.t 37) (.seq (.region [⟨(some 38), (.mv (.t 6)), none⟩, ⟨(some 39), (.mv (.t 8)), none⟩, ⟨(some 40), (.mv (.t 1)), none⟩, ⟨(some 41), (.mv (.t 8)), none⟩, ⟨(some 42), (.len true (.t 41)), none⟩, ⟨(some 43), (.bin .sub (.t 40) (.t 42)), none⟩, ⟨(some 44), (.call 51 [(.c (.str [65])), (.t 43)]), none⟩, ⟨(some 45), (.bin .add (.t 39) (.t 44)), none⟩, ⟨(some 46), (.call 37 [(.t 38), (.t 45)]), none⟩, ⟨(some 47), (.ext (.t 46) 0), none⟩, ⟨(some 48), (.ext (.t 46) 1), none⟩, ⟨(some 4), (.mv (.t 47)), none⟩, ⟨(some 5), (.mv (.t 48)), none⟩] false) .ret) .skip))) (.seq (.region [⟨(some 49), (.mv (.t 6)), none⟩, ⟨(some 50), (.bin .add (.t 49) (.c (.int .i64 1))), none⟩, ⟨(some 51), (.mv (.t 1)), none⟩, ⟨(some 52), (.call 51 [(.c (.str [65])), (.t 51)]), none⟩, ⟨(some 53), (.call 37 [(.t 50), (.t 52)]), none⟩, ⟨(some 54), (.ext (.t 53) 0), none⟩, ⟨(some 55), (.ext (.t 53) 1), none⟩, ⟨(some 4), (.mv (.t 54)), none⟩, ⟨(some 5), (.mv (.t 55)), none⟩] false) .ret)))))
def c_label_Between : VC := (.seq (.region [⟨(some 4), (.mv (.c (.str []))), none⟩, ⟨(some 5), (.mv (.c (.bool false))), none⟩] false) (.seq (.seq (.region [⟨(some 9), (.mv (.t 0)), none⟩, ⟨(some 10), (.call 13 [(.t 9)]), none⟩, ⟨(some 11), (.un .not (.t 10)), none⟩, ⟨(some 12), (.mv (.t 11)), none⟩, ⟨(some 13), (.mv (.t 1)), (some (12, false))⟩, ⟨(some 14), (.call 13 [(.t 13)]), (some (12, false))⟩, ⟨(some 15), (.un .not (.t 14)), (some (12, false))⟩, ⟨(some 16), (.pick (.t 12) (.c (.bool true)) (.t 15)), none⟩] false) (.cond (.t 16) (.seq (.region [⟨(some 4), (.mv (.c (.str []))), none⟩, ⟨(some 5), (.mv (.c (.bool false))), none⟩] false) .ret) .skip)) (.seq (.seq (.region [⟨(some 17), (.mv (.c (.int .i64 0))), none⟩] false) (.block 0 (.loop (.seq (.region [⟨(some 18), (.bin .lss (.t 17) (.c (.int .i64 4))), none⟩] false) (.seq (.cond (.t 18) .skip (.exit 0)) (.seq (.block 1 (.seq (.region [⟨(some 19), (.mv (.t 17)), none⟩, ⟨(some 6), (.mv (.t 19)), none⟩] false) (.seq (.region [⟨(some 21), (.mv (.t 0)), none⟩, ⟨(some 22), (.mv (.t 6)), none⟩, ⟨(some 23), (.call 39 [(.t 21), (.t 22)]), none⟩, ⟨(some 20), (.mv (.t 23)), none⟩, ⟨(some 24), (.ext (.t 20) 0), none⟩, ⟨(some 25), (.ext (.t 20) 1), none⟩, ⟨(some 7), (.mv (.t 24)), none⟩, ⟨(some 8), (.mv (.t 25)), none⟩] false) (.seq (.region [⟨(some 26), (.mv (.t 8)), none⟩, ⟨(some 27), (.mv (.t 26)), none⟩, ⟨(some 28), (.mv (.t 7)), (some (27, true))⟩, ⟨(some 29), (.mv (.t 1)), (some (27, true))⟩, ⟨(some 30), (.call 15 [(.t 28), (.t 29)]), (some (27, true))⟩, ⟨(some 31), (.bin .lss (.t 30) (.c (.int .i64 0))), (some (27, true))⟩, ⟨(some 32), (.pick (.t 27) (.t 31) (.c (.bool false))), none⟩] false) (.cond (.t 32) (.seq (.region [⟨(some 33), (.mv (.t 7)), none⟩, ⟨(some 4), (.mv (.t 33)), none⟩, ⟨(some 5), (.mv (.c (.bool true))), none⟩] false) .ret) .skip))))) (.region [⟨(some 34), (.bin .add (.t 17) (.c (.int .i64 1))), none⟩, ⟨(some 17), (.mv (.t 34)), none⟩] false))))))) (.seq (.region [⟨(some 4), (.mv (.c (.str []))), none⟩, ⟨(some 5), (.mv (.c (.bool false))), none⟩] false) .ret))))
def c_label_NextFree : VC := (.seq (.region [⟨(some 4), (.mv (.c (.str []))), none⟩, ⟨(some 5), (.mv (.c (.bool false))), none⟩] false) (.seq (.region [⟨(some 7), (.mv (.t 1)), none⟩, ⟨(some 8), (.call 13 [(.t 7)]), none⟩, ⟨(some 6), (.mv (.t 8)), none⟩] false) (.seq (.block 0 (.loop (.seq (.seq (.region [⟨(some 9), (.mv (.t 6)), none⟩, ⟨(some 10), (.mv (.t 9)), none⟩, ⟨(some 11), (.mv (.t 0)), (some (10, true))⟩, ⟨(some 12), (.mv (.t 1)), (some (10, true))⟩, ⟨(some 13), (.call 41 [(.t 11), (.t 12)]), (some (10, true))⟩, ⟨(some 14), (.pick (.t 10) (.t 13) (.c (.bool false))), none⟩] false) (.cond (.t 14) .skip (.exit 0))) (.block 1 (.region [⟨(some 16), (.mv (.t 1)), none⟩, ⟨(some 17), (.call 17 [(.t 16)]), none⟩, ⟨(some 15), (.mv (.t 17)), none⟩, ⟨(some 18), (.ext (.t 15) 0), none⟩, ⟨(some 19), (.ext (.t 15) 1), none⟩, ⟨(some 1), (.mv (.t 18)), none⟩, ⟨(some 6), (.mv (.t 19)), none⟩] false))))) (.seq (.seq (.region [⟨(some 20), (.mv (.t 6)), none⟩, ⟨(some 21), (.un .not (.t 20)), none⟩] false) (.cond (.t 21) (.seq (.region [⟨(some 4), (.mv (.c (.str []))), none⟩, ⟨(some 5), (.mv (.c (.bool false))), none⟩] false) .ret) .skip)) (.seq (.region [⟨(some 22), (.mv (.t 1)), none⟩, ⟨(some 4), (.mv (.t 22)), none⟩, ⟨(some 5), (.mv (.c (.bool true))), none⟩] false) .ret)))))
def c_slices_Contains_string : VC := (.seq (.region [⟨(some 4), (.mv (.c (.bool false))), none⟩] false) (.seq (.region [⟨(some 5), (.mv (.t 0)), none⟩, ⟨(some 6), (.mv (.t 1)), none⟩, ⟨(some 7), (.call 52 [(.t 5), (.t 6)]), none⟩, ⟨(some 8), (.bin .geq (.t 7) (.c (.int .i64 0))), none⟩, ⟨(some 4), (.mv (.t 8)), none⟩] false) .ret))
def c_slices_Index_string : VC := (.seq (.region [⟨(some 4), (.mv (.c (.int .i64 0))), none⟩] false) (.seq (.seq (.region [⟨(some 6), (.mv (.t 0)), none⟩, ⟨(some 7), (.len false (.t 6)), none⟩, ⟨(some 8), (.mv (.c (.int .i64 0))), none⟩] false) (.block 0 (.loop (.seq (.region [⟨(some 9), (.bin .lss (.t 8) (.t 7)), none⟩] false) (.seq (.cond (.t 9) .skip (.exit 0)) (.seq (.block 1 (.seq (.region [⟨(some 10), (.mv (.t 8)), none⟩, ⟨(some 5), (.mv (.t 10)), none⟩] false) (.seq (.region [⟨(some 11), (.mv (.t 1)), none⟩, ⟨(some 12), (.mv (.t 0)), none⟩, ⟨(some 13), (.mv (.t 5)), none⟩, ⟨(some 14), (.iaddr 1 (.t 12) (.t 13)), none⟩, ⟨(some 15), (.load false 1 (.t 14)), none⟩, ⟨(some 16), (.bin .eql (.t 11) (.t 15)), none⟩] false) (.cond (.t 16) (.seq (.region [⟨(some 17), (.mv (.t 5)), none⟩, ⟨(some 4), (.mv (.t 17)), none⟩] false) .ret) .skip)))) (.region [⟨(some 18), (.bin .add (.t 8) (.c (.int .i64 1))), none⟩, ⟨(some 8), (.mv (.t 18)), none⟩] false))))))) (.seq (.region [⟨(some 4), (.mv (.c (.int .i64 (-1)))), none⟩] false) .ret)))
theorem up_len {c t : Str} (h : up c = some t) : t.length ≤ c.length := by
  obtain ⟨k, hk, _, _, e⟩ := up_some h
  rw [e]; simp; omega
theorem sp_label_Next (s : Str) (hl : s.length ≤ 1000000) : PCall Tryd.prog 17 [.str s] (optT (nextS s)) := by
  have A := sp_label_Valid s hl
  have B := sp_label_Split s hl
  refine PCall_intro ?_ (closed_opt _) (by simp only [ClosedL, List.mem_cons, List.not_mem_nil, or_false, forall_eq_or_imp, forall_eq, false_implies, implies_true]; repeat' (first | exact cI _ | exact cS _ | exact cB _ | exact closed_fn0 _ | exact closed_nilsl | exact closed_agg (Un.closed _) | exact closed_agg (It.closed _) | exact closed_agg (EI.closed _) | exact closed_agg (Ac.closed _) | exact closed_agg (Wd.closed _) | exact closed_agg (St.closed _) | exact closed_agg (Sta.closed _) | exact closed_eis _ | exact closed_acs _ | exact closed_gzs _ | exact Closed.of_scalar (scalar_int _ _) | exact closed_ro (Ac.closed _) | exact closed_ro (Gz.closed _) | exact closed_agg (Gz.closed _) | exact closed_strs _ | exact closed_map (fun w _ => Wd.closed w) | exact closed_map (fun w _ => St.closed w) | exact closed_map (fun w _ => Un.closed w) | exact closed_map (fun w _ => It.closed w) | exact closed_sc _ | exact closed_sps _ | exact closed_agg (Sp.closed _) | exact closed_ro (EI.closed _) | exact closed_ro (Sta.closed _) | exact closed_ro (It.closed _) | exact closed_ro (by simp only [List.mem_cons, List.not_mem_nil, or_false, forall_eq]; first | exact cI _ | exact cS _ | exact closed_eis _) | refine And.intro ?_ ?_))
  refine ACall_fn (vc := c_label_Next) (ts := [.t 2, .t 3]) Go.Proofs.Tryd.func17 (by kernel_rfl) rfl rfl (Nat.le_of_ble_eq_true rfl) (by kernel_rfl) ?_
  unfold c_label_Next
  refine VW_seq (VW_region [0] ?_)
  simp only [OpsW_nil, OpsW_n, StepW, pok, pval, VA.ev, Env.get, Env.put, Env.keep, argEnv, thenQ, Heap.nil, ite_true, ite_false, true_and, reduceCtorEq]
  refine VW_seq ?_
  refine VW_seq (VW_region [0, 10] ?_)
  simp only [OpsW_nil, OpsW_n, StepW, pok, pval, VA.ev, Env.get, Env.put, Env.keep, thenQ, unV, unOk, List.map, Nat.reduceEqDiff, ite_true, ite_false, true_and, reduceCtorEq]
  refine ACall_p A ?_
  try simp only [true_and]
  refine VW_cond rfl (fun h1 => ?_) (fun h1 => ?_)
  · refine VW_seq (VW_region [2, 3] ?_)
    simp only [OpsW_nil, OpsW_n, StepW, pok, pval, VA.ev, Env.get, Env.put, Env.keep, thenQ, Nat.succ_ne_self, Nat.reduceEqDiff, ite_true, ite_false, true_and, reduceCtorEq]
    refine VW_ret ?_
    try simp only [Env.get, thenQ, retQ, resV, resOk, RS.ev, RS.ok, Nat.succ_ne_self, List.map, Nat.reduceEqDiff, ite_true, ite_false, true_and, and_true]
    have e : may s = false := by cases h : may s; rfl; rw [h] at h1; cases h1
    have : nextS s = none := by unfold nextS; simp [e]
    rw [this]; exact View.refl _ _
  have hm : may s = true := by cases h : may s; rw [h] at h1; cases h1; rfl
  have hn := num_le hm
  have hcl := caps_len hm
  have ena : splitN s = (num s : Int) := by simp [splitN, hm]
  have eca : splitC s = caps s := by simp [splitC, hm]
  rw [ena, eca] at B
  refine VW_skip ?_
  try simp only [thenQ]
  refine VW_seq (VW_region [4, 5] ?_)
  simp only [OpsW_nil, OpsW_n, StepW, pok, pval, VA.ev, Env.get, Env.put, Env.keep, thenQ, extV, extOk, PV.nth, Nat.succ_ne_self, List.map, Nat.reduceEqDiff, ite_true, ite_false, true_and, reduceCtorEq]
  refine ACall_p B ?_
  try simp only [List.length, List.getD_cons_zero, List.getD_cons_succ, Nat.reduceAdd, Nat.reduceLT, true_and, Nat.zero_add]
  refine VW_seq ?_
  have U := sp_label_up (caps s) (by omega)
  refine VW_seq (VW_region [4, 6, 7] ?_)
  simp only [OpsW_nil, OpsW_n, StepW, pok, pval, VA.ev, Env.get, Env.put, Env.keep, thenQ, extV, extOk, PV.nth, Nat.succ_ne_self, List.map, Nat.reduceEqDiff, ite_true, ite_false, true_and]
  refine ACall_p U ?_
  try simp only [List.length, List.getD_cons_zero, List.getD_cons_succ, Nat.reduceAdd, Nat.reduceLT, true_and, Nat.zero_add, optT]
  cases hu : up (caps s) with
  | some t =>
    have htl := up_len hu
    have e : nextS s = made (num s) t := by unfold nextS; rw [if_pos hm, hu]
    refine VW_seq (VW_region [4, 6, 21] ?_)
    simp only [OpsW_nil, OpsW_n, StepW, pok, pval, VA.ev, Env.get, Env.put, Env.keep, thenQ, Nat.succ_ne_self, Nat.reduceEqDiff, ite_true, ite_false, true_and, Option.getD_some, Option.isSome_some]
    refine VW_cond rfl (fun _ => ?_) (fun h => by cases h)
    refine VW_seq (VW_region [2, 3] ?_)
    simp only [OpsW_nil, OpsW_n, StepW, pok, pval, VA.ev, Env.get, Env.put, Env.keep, thenQ, extV, extOk, PV.nth, Nat.succ_ne_self, List.map, Nat.reduceEqDiff, ite_true, ite_false, true_and]
    refine ACall_p (sp_label_made (num s) t (by omega) (by omega)) ?_
    try simp only [List.length, List.getD_cons_zero, List.getD_cons_succ, Nat.reduceAdd, Nat.reduceLT, true_and, Nat.zero_add, optT]
    refine VW_ret ?_
    try simp only [Env.get, thenQ, retQ, resV, resOk, RS.ev, RS.ok, Nat.succ_ne_self, List.map, Nat.reduceEqDiff, ite_true, ite_false, true_and, and_true]
    rw [e]; exact View.refl _ _
  | none =>
    have e : nextS s = made (num s + 1) [] := by unfold nextS; rw [if_pos hm, hu]
    refine VW_seq (VW_region [4, 6, 21] ?_)
    simp only [OpsW_nil, OpsW_n, StepW, pok, pval, VA.ev, Env.get, Env.put, Env.keep, thenQ, Nat.succ_ne_self, Nat.reduceEqDiff, ite_true, ite_false, true_and, Option.getD_none, Option.isSome_none]
    refine VW_cond rfl (fun h => by cases h) (fun _ => ?_)
    refine VW_skip ?_
    try simp only [thenQ]
    have e5 : IntKind.i64.wrap ((num s : Int) + 1) = ((num s + 1 : Nat) : Int) := by rw [w64 (by omega) (by omega)]; omega
    refine VW_seq (VW_region [2, 3] ?_)
    simp only [OpsW_nil, OpsW_n, StepW, pok, pval, VA.ev, Env.get, Env.put, Env.keep, thenQ, intV, binV, binOk, extV, extOk, PV.nth, Nat.succ_ne_self, List.map, Nat.reduceEqDiff, ite_true, ite_false, true_and, e5]
    refine ACall_p (sp_label_made (num s + 1) [] (by omega) (by simp)) ?_
    try simp only [List.length, List.getD_cons_zero, List.getD_cons_succ, Nat.reduceAdd, Nat.reduceLT, true_and, Nat.zero_add, optT]
    refine VW_ret ?_
    try simp only [Env.get, retQ, resV, resOk, RS.ev, RS.ok, Nat.succ_ne_self, List.map, Nat.reduceEqDiff, ite_true, ite_false, true_and, and_true]
    rw [e]; exact View.refl _ _
theorem sp_label_behind (s : Str) (k : Nat) (hl : s.length ≤ 1000000) (hm : may s = true) (hk : k ≤ 3) : PCall Tryd.prog 39 [.str s, pI k] (optT (behindS s k)) := by
  have B := sp_label_Split s hl
  have hn := num_le hm
  have hcl := caps_len hm
  have ena : splitN s = (num s : Int) := by simp [splitN, hm]
  have eca : splitC s = caps s := by simp [splitC, hm]
  rw [ena, eca] at B
  refine PCall_intro ?_ (closed_opt _) (by simp only [ClosedL, List.mem_cons, List.not_mem_nil, or_false, forall_eq_or_imp, forall_eq, false_implies, implies_true]; repeat' (first | exact cI _ | exact cS _ | exact cB _ | exact closed_fn0 _ | exact closed_nilsl | exact closed_agg (Un.closed _) | exact closed_agg (It.closed _) | exact closed_agg (EI.closed _) | exact closed_agg (Ac.closed _) | exact closed_agg (Wd.closed _) | exact closed_agg (St.closed _) | exact closed_agg (Sta.closed _) | exact closed_eis _ | exact closed_acs _ | exact closed_gzs _ | exact Closed.of_scalar (scalar_int _ _) | exact closed_ro (Ac.closed _) | exact closed_ro (Gz.closed _) | exact closed_agg (Gz.closed _) | exact closed_strs _ | exact closed_map (fun w _ => Wd.closed w) | exact closed_map (fun w _ => St.closed w) | exact closed_map (fun w _ => Un.closed w) | exact closed_map (fun w _ => It.closed w) | exact closed_sc _ | exact closed_sps _ | exact closed_agg (Sp.closed _) | exact closed_ro (EI.closed _) | exact closed_ro (Sta.closed _) | exact closed_ro (It.closed _) | exact closed_ro (by simp only [List.mem_cons, List.not_mem_nil, or_false, forall_eq]; first | exact cI _ | exact cS _ | exact closed_eis _) | refine And.intro ?_ ?_))
  refine ACall_fn (vc := c_label_behind) (ts := [.t 4, .t 5]) Go.Proofs.Tryd.func39 (by kernel_rfl) rfl rfl (Nat.le_of_ble_eq_true rfl) (by kernel_rfl) ?_
  unfold c_label_behind
  refine VW_seq (VW_region [0, 1] ?_)
  simp only [OpsW_nil, OpsW_n, StepW, pok, pval, VA.ev, Env.get, Env.put, Env.keep, argEnv, thenQ, Heap.nil, Nat.succ_ne_self, Nat.reduceEqDiff, ite_true, ite_false, true_and, reduceCtorEq, Nat.zero_add]
  refine VW_seq (VW_region [1, 6, 7] ?_)
  simp only [OpsW_nil, OpsW_n, StepW, pok, pval, VA.ev, Env.get, Env.put, Env.keep, thenQ, extV, extOk, PV.nth, Nat.succ_ne_self, List.map, Nat.reduceEqDiff, ite_true, ite_false, true_and, reduceCtorEq]
  refine ACall_p B ?_
  try simp only [List.length, List.getD_cons_zero, List.getD_cons_succ, Nat.reduceAdd, Nat.reduceLT, true_and, Nat.zero_add]
  refine VW_seq ?_
  refine VW_seq (VW_region [1, 6, 7, 18] ?_)
  simp only [OpsW_nil, OpsW_n, StepW, pok, pval, VA.ev, Env.get, Env.put, Env.keep, thenQ, intV, binV, binOk, lenV, lenOk, Nat.succ_ne_self, Nat.reduceEqDiff, ite_true, ite_false, true_and]
  refine VW_cond rfl (fun h1 => ?_) (fun h1 => ?_)
  · have hlt : (caps s).length < k := by simp only [decide_eq_true_eq] at h1; omega
    have e5 : IntKind.i64.wrap ((k : Int) - ((caps s).length : Int)) = ((k - (caps s).length : Nat) : Int) := by rw [w64 (by omega) (by omega)]; omega
    refine VW_seq (VW_region [4, 5] ?_)
    simp only [OpsW_nil, OpsW_n, StepW, pok, pval, VA.ev, Env.get, Env.put, Env.keep, thenQ, intV, binV, binOk, strV, lenV, lenOk, extV, extOk, PV.nth, Nat.succ_ne_self, List.map, Nat.reduceEqDiff, ite_true, ite_false, true_and, e5]
    refine ACall_p (sp_Repeat 65 (k - (caps s).length) (by omega)) ?_
    try simp only [List.length_replicate]
    refine ⟨by omega, ?_⟩
    refine ACall_p (sp_label_made (num s) _ (by omega) (by simp; omega)) ?_
    try simp only [List.length, List.getD_cons_zero, List.getD_cons_succ, Nat.reduceAdd, Nat.reduceLT, true_and, Nat.zero_add, optT]
    refine VW_ret ?_
    try simp only [Env.get, thenQ, retQ, resV, resOk, RS.ev, RS.ok, Nat.succ_ne_self, List.map, Nat.reduceEqDiff, ite_true, ite_false, true_and, and_true]
    have e : behindS s k = made (num s) (caps s ++ List.replicate (k - (caps s).length) 65) := by unfold behindS; rw [if_pos hlt]
    rw [e]; exact View.refl _ _
  have hge : ¬ (caps s).length < k := by simp only [decide_eq_false_iff_not] at h1; omega
  refine VW_skip ?_
  try simp only [thenQ]
  refine VW_seq ?_
  have U := sp_label_up ((caps s).take k) (by simp; omega)
  refine VW_seq (VW_region [1, 6, 8, 9] ?_)
  simp only [OpsW_nil, OpsW_n, StepW, pok, pval, VA.ev, Env.get, Env.put, Env.keep, thenQ, numOf, loV, hiV, lenV, boundOk, sliceV, sliceOk, extV, extOk, PV.nth, Nat.succ_ne_self, List.map, List.drop_zero, Option.map, Nat.reduceEqDiff, ite_true, ite_false, true_and, and_true, Int.toNat_natCast, Nat.sub_zero]
  repeat (with_reducible refine And.intro ?_ ?_; first | omega | (with_reducible constructor <;> omega) | exact False.elim | exact True.intro)
  refine ACall_p U ?_
  try simp only [List.length, List.getD_cons_zero, List.getD_cons_succ, Nat.reduceAdd, Nat.reduceLT, true_and, Nat.zero_add, optT]
  cases hu : up ((caps s).take k) with
  | some t =>
    have htl := up_len hu
    rw [List.length_take] at htl
    have e5 : IntKind.i64.wrap ((k : Int) - (t.length : Int)) = ((k - t.length : Nat) : Int) := by rw [w64 (by omega) (by omega)]; omega
    have e : behindS s k = made (num s) (t ++ List.replicate (k - t.length) 65) := by unfold behindS; rw [if_neg hge, hu]
    refine VW_seq (VW_region [1, 6, 8, 37] ?_)
    simp only [OpsW_nil, OpsW_n, StepW, pok, pval, VA.ev, Env.get, Env.put, Env.keep, thenQ, Nat.succ_ne_self, Nat.reduceEqDiff, ite_true, ite_false, true_and, Option.getD_some, Option.isSome_some]
    refine VW_cond rfl (fun _ => ?_) (fun h => by cases h)
    refine VW_seq (VW_region [4, 5] ?_)
    simp only [OpsW_nil, OpsW_n, StepW, pok, pval, VA.ev, Env.get, Env.put, Env.keep, thenQ, intV, binV, binOk, strV, lenV, lenOk, extV, extOk, PV.nth, Nat.succ_ne_self, List.map, Nat.reduceEqDiff, ite_true, ite_false, true_and, e5]
    refine ACall_p (sp_Repeat 65 (k - t.length) (by omega)) ?_
    try simp only [List.length_replicate]
    refine ⟨by omega, ?_⟩
    refine ACall_p (sp_label_made (num s) _ (by omega) (by simp; omega)) ?_
    try simp only [List.length, List.getD_cons_zero, List.getD_cons_succ, Nat.reduceAdd, Nat.reduceLT, true_and, Nat.zero_add, optT]
    refine VW_ret ?_
    try simp only [Env.get, thenQ, retQ, resV, resOk, RS.ev, RS.ok, Nat.succ_ne_self, List.map, Nat.reduceEqDiff, ite_true, ite_false, true_and, and_true]
    rw [e]; exact View.refl _ _
  | none =>
    have e : behindS s k = made (num s + 1) (List.replicate k 65) := by unfold behindS; rw [if_neg hge, hu]
    have e5 : IntKind.i64.wrap ((num s : Int) + 1) = ((num s + 1 : Nat) : Int) := by rw [w64 (by omega) (by omega)]; omega
    refine VW_seq (VW_region [1, 6, 8, 37] ?_)
    simp only [OpsW_nil, OpsW_n, StepW, pok, pval, VA.ev, Env.get, Env.put, Env.keep, thenQ, Nat.succ_ne_self, Nat.reduceEqDiff, ite_true, ite_false, true_and, Option.getD_none, Option.isSome_none]
    refine VW_cond rfl (fun h => by cases h) (fun _ => ?_)
    refine VW_skip ?_
    try simp only [thenQ]
    refine VW_seq (VW_region [4, 5] ?_)
    simp only [OpsW_nil, OpsW_n, StepW, pok, pval, VA.ev, Env.get, Env.put, Env.keep, thenQ, intV, binV, binOk, extV, extOk, PV.nth, Nat.succ_ne_self, List.map, Nat.reduceEqDiff, ite_true, ite_false, true_and, e5]
    refine ACall_p (sp_Repeat 65 k (by omega)) ?_
    skip
    refine ACall_p (sp_label_made (num s + 1) _ (by omega) (by simp; omega)) ?_
    try simp only [List.length, List.getD_cons_zero, List.getD_cons_succ, Nat.reduceAdd, Nat.reduceLT, true_and, Nat.zero_add, optT]
    refine VW_ret ?_
    try simp only [Env.get, retQ, resV, resOk, RS.ev, RS.ok, Nat.succ_ne_self, List.map, Nat.reduceEqDiff, ite_true, ite_false, true_and, and_true]
    rw [e]; exact View.refl _ _
theorem text_len {n : Nat} {c : Str} (hn : n ≤ 9999) : (text n c).length ≤ 4 + c.length := by
  unfold text; rw [List.length_append]; have := decDigits_four hn; omega
theorem label_len {s : Str} (h : may s = true) : s.length ≤ 7 := by
  rw [text_of h]
  have := text_len (c := caps s) (num_le h)
  have := caps_len h
  omega
theorem sp_label_Between (a b : Str) (ha : a.length ≤ 1000000) (hb : b.length ≤ 1000000) : PCall Tryd.prog 19 [.str a, .str b] (optT (between a b)) := by
  have A := sp_label_Valid a ha
  have B := sp_label_Valid b hb
  refine PCall_intro ?_ (closed_opt _) (by simp only [ClosedL, List.mem_cons, List.not_mem_nil, or_false, forall_eq_or_imp, forall_eq, false_implies, implies_true]; repeat' (first | exact cI _ | exact cS _ | exact cB _ | exact closed_fn0 _ | exact closed_nilsl | exact closed_agg (Un.closed _) | exact closed_agg (It.closed _) | exact closed_agg (EI.closed _) | exact closed_agg (Ac.closed _) | exact closed_agg (Wd.closed _) | exact closed_agg (St.closed _) | exact closed_agg (Sta.closed _) | exact closed_eis _ | exact closed_acs _ | exact closed_gzs _ | exact Closed.of_scalar (scalar_int _ _) | exact closed_ro (Ac.closed _) | exact closed_ro (Gz.closed _) | exact closed_agg (Gz.closed _) | exact closed_strs _ | exact closed_map (fun w _ => Wd.closed w) | exact closed_map (fun w _ => St.closed w) | exact closed_map (fun w _ => Un.closed w) | exact closed_map (fun w _ => It.closed w) | exact closed_sc _ | exact closed_sps _ | exact closed_agg (Sp.closed _) | exact closed_ro (EI.closed _) | exact closed_ro (Sta.closed _) | exact closed_ro (It.closed _) | exact closed_ro (by simp only [List.mem_cons, List.not_mem_nil, or_false, forall_eq]; first | exact cI _ | exact cS _ | exact closed_eis _) | refine And.intro ?_ ?_))
  refine ACall_fn (vc := c_label_Between) (ts := [.t 4, .t 5]) Go.Proofs.Tryd.func19 (by kernel_rfl) rfl rfl (Nat.le_of_ble_eq_true rfl) (by kernel_rfl) ?_
  unfold c_label_Between
  refine VW_seq (VW_region [0, 1] ?_)
  simp only [OpsW_nil, OpsW_n, StepW, pok, pval, VA.ev, Env.get, Env.put, Env.keep, argEnv, thenQ, Heap.nil, Nat.succ_ne_self, Nat.reduceEqDiff, ite_true, ite_false, true_and, reduceCtorEq, Nat.zero_add]
  refine VW_seq ?_
  refine VW_seqE (σ := { x : Bool // x = !(may a && may b) }) [0, 1, 16] (fun x => [(0, .str a), (1, .str b), (16, .bool x.1)]) ?_ ?_
  · cases hma : may a <;> rw [hma] at A
    · simp only [OpsW_n, StepW, pok, pval, VA.ev, Env.get, Env.put, Env.keep, unV, unOk, Nat.succ_ne_self, Env.le, List.map, Nat.reduceEqDiff, ite_true, ite_false, true_and, and_true, reduceCtorEq]
      refine ACall_p A ?_
      try simp only [OpsW_nil, OpsW_n, OpsW_xf, StepW, pok, pval, VA.ev, Env.get, Env.put, pickV, isBool, Nat.succ_ne_self, Nat.reduceEqDiff, ite_true, ite_false, true_and, and_true, reduceCtorEq, Bool.not_false]
      exact ⟨⟨true, rfl⟩, rfl⟩
    · simp only [OpsW_n, StepW, pok, pval, VA.ev, Env.get, Env.put, Env.keep, unV, unOk, Nat.succ_ne_self, Env.le, List.map, Nat.reduceEqDiff, ite_true, ite_false, true_and, and_true, reduceCtorEq]
      refine ACall_p A ?_
      try simp only [OpsW_nil, OpsW_n, OpsW_y, StepW, pok, pval, VA.ev, Env.get, Env.put, pickV, isBool, unV, unOk, Nat.succ_ne_self, List.map, Nat.reduceEqDiff, Bool.false_eq_true, ite_true, ite_false, true_and, reduceCtorEq, Bool.not_true]
      refine ACall_p B ?_
      try simp only [true_and, and_true]
      exact ⟨⟨!(may b), by simp⟩, rfl⟩
  rintro ⟨x, hx⟩
  simp only []
  refine VW_cond rfl (fun h1 => ?_) (fun h1 => ?_)
  · refine VW_seq (VW_region [4, 5] ?_)
    simp only [OpsW_nil, OpsW_n, StepW, pok, pval, VA.ev, Env.get, Env.put, Env.keep, thenQ, Nat.succ_ne_self, Nat.reduceEqDiff, ite_true, ite_false, true_and, reduceCtorEq]
    refine VW_ret ?_
    try simp only [Env.get, thenQ, retQ, resV, resOk, RS.ev, RS.ok, Nat.succ_ne_self, List.map, Nat.reduceEqDiff, ite_true, ite_false, true_and, and_true]
    have e : between a b = none := by
      unfold between; rw [if_neg]
      rintro ⟨h2, h3⟩; rw [h1, h2, h3] at hx; cases hx
    rw [e]; exact View.refl _ _
  have hma : may a = true := by cases h : may a; rw [h, h1] at hx; cases hx; rfl
  have hmb : may b = true := by cases h : may b; rw [h, h1] at hx; simp at hx; rfl
  refine VW_skip ?_
  try simp only [thenQ]
  refine VW_seq ?_
  refine VW_seq (VW_region [0, 1, 17] ?_)
  simp only [OpsW_nil, OpsW_n, StepW, pok, pval, VA.ev, Env.get, Env.put, Env.keep, thenQ, Nat.succ_ne_self, Nat.reduceEqDiff, ite_true, ite_false, true_and, reduceCtorEq]
  refine VW_block ?_
  refine VW_loop (σ := { k : Nat // k ≤ 4 ∧ betS a b 4 0 = betS a b (4 - k) k }) (fun x => ([(0, .str a), (1, .str b), (17, pI x.1)], ⟨[], 0⟩)) (fun x => 4 - x.1) ⟨0, by omega, rfl⟩ ?_ ?_ ?_
  · simp only [Env.get, Nat.succ_ne_self, Env.le, Nat.reduceEqDiff, ite_true, ite_false, true_and, and_true, reduceCtorEq]
    rfl
  · simp only [Heap.le, HL.le, Nat.le_refl, and_true]
  rintro ⟨k, hk, hbet⟩
  simp only []
  refine VW_seq (VW_region [0, 1, 17, 18] ?_)
  simp only [OpsW_nil, OpsW_n, StepW, pok, pval, VA.ev, Env.get, Env.put, Env.keep, thenQ, intV, binV, binOk, Heap.le, HL.le, Nat.succ_ne_self, Env.le, Nat.reduceEqDiff, ite_true, ite_false, true_and, and_true, reduceCtorEq]
  refine VW_seq ?_
  refine VW_cond rfl (fun h2 => ?_) (fun h2 => ?_)
  · have hk4 : k < 4 := by simp only [decide_eq_true_eq] at h2; omega
    have hstep : betS a b (4 - k) k = (match behindS a k with | some t => (if cmpL t b < 0 then some t else betS a b (4 - (k + 1)) (k + 1)) | none => betS a b (4 - (k + 1)) (k + 1)) := by
      obtain ⟨f, hf⟩ : ∃ f, 4 - k = f + 1 := ⟨4 - k - 1, by omega⟩
      rw [hf, show 4 - (k + 1) = f by omega]; rfl
    refine VW_skip ?_
    try simp only [thenQ]
    refine VW_seq ?_
    refine VW_block ?_
    refine VW_seq (VW_region [0, 1, 6, 17] ?_)
    simp only [OpsW_nil, OpsW_n, StepW, pok, pval, VA.ev, Env.get, Env.put, Env.keep, thenQ, Nat.succ_ne_self, Nat.reduceEqDiff, ite_true, ite_false, true_and, reduceCtorEq]
    refine VW_seq (VW_region [0, 1, 7, 8, 17] ?_)
    simp only [OpsW_nil, OpsW_n, StepW, pok, pval, VA.ev, Env.get, Env.put, Env.keep, thenQ, extV, extOk, PV.nth, Nat.succ_ne_self, List.map, Nat.reduceEqDiff, ite_true, ite_false, true_and, reduceCtorEq]
    refine ACall_p (sp_label_behind a k ha hma (by omega)) ?_
    try simp only [List.length, List.getD_cons_zero, List.getD_cons_succ, Nat.reduceAdd, Nat.reduceLT, true_and, Nat.zero_add, optT]
    have next : ∀ (_ : betS a b 4 0 = betS a b (4 - (k + 1)) (k + 1)), ∃ s' : { k : Nat // k ≤ 4 ∧ betS a b 4 0 = betS a b (4 - k) k }, (PV.int .i64 (IntKind.i64.wrap ((k : Int) + 1)) = pI s'.1) ∧ 4 - s'.1 < 4 - k := fun h =>
      ⟨⟨k + 1, by omega, h⟩, by rw [w64 (by omega) (by omega)]; rfl, by simp only []; omega⟩
    cases hbh : behindS a k with
    | some t =>
      rw [hbh] at hstep
      simp only [] at hstep
      obtain ⟨t1, _⟩ := behind_some hma (by omega) hbh
      have htl := label_len t1
      refine VW_seq (VW_region [0, 1, 7, 17, 32] ?_)
      simp only [OpsW_nil, OpsW_n, OpsW_y, StepW, pok, pval, VA.ev, Env.get, Env.put, Env.keep, thenQ, pickV, isBool, intV, binV, binOk, strV, Nat.succ_ne_self, List.map, Nat.reduceEqDiff, ite_true, ite_false, true_and, reduceCtorEq, Option.getD_some, Option.isSome_some]
      refine ACall_p (sp_label_Compare t b (by omega) hb) ?_
      try simp only [true_and]
      refine VW_cond rfl (fun h3 => ?_) (fun h3 => ?_)
      · refine VW_seq (VW_region [4, 5] ?_)
        simp only [OpsW_nil, OpsW_n, StepW, pok, pval, VA.ev, Env.get, Env.put, Env.keep, thenQ, Nat.succ_ne_self, Nat.reduceEqDiff, ite_true, ite_false, true_and, reduceCtorEq]
        refine VW_ret ?_
        try simp only [Env.get, thenQ, blockQ, retQ, resV, resOk, RS.ev, RS.ok, Nat.succ_ne_self, List.map, Nat.reduceEqDiff, ite_true, ite_false, true_and, and_true]
        have e : between a b = some t := by
          unfold between; rw [if_pos ⟨hma, hmb⟩, hbet, hstep, if_pos (by simpa using h3)]
        rw [e]; exact View.refl _ _
      refine VW_skip ?_
      try simp only [thenQ, blockQ]
      rw [if_neg (by simpa using h3)] at hstep
      refine VW_region [0, 1, 17] ?_
      simp only [OpsW_nil, OpsW_n, StepW, pok, pval, VA.ev, Env.get, Env.put, Env.keep, thenQ, intV, binV, binOk, Nat.le_refl, Nat.succ_ne_self, Nat.reduceEqDiff, ite_true, ite_false, true_and, reduceCtorEq]
      exact next (hbet.trans hstep)
    | none =>
      rw [hbh] at hstep
      simp only [] at hstep
      refine VW_seq (VW_region [0, 1, 7, 17, 32] ?_)
      simp only [OpsW_nil, OpsW_n, OpsW_xt, StepW, pok, pval, VA.ev, Env.get, Env.put, Env.keep, thenQ, pickV, isBool, Nat.succ_ne_self, Nat.reduceEqDiff, Bool.false_eq_true, ite_true, ite_false, true_and, reduceCtorEq, Option.getD_none, Option.isSome_none]
      refine VW_cond rfl (fun h => by cases h) (fun _ => ?_)
      refine VW_skip ?_
      try simp only [thenQ, blockQ]
      refine VW_region [0, 1, 17] ?_
      simp only [OpsW_nil, OpsW_n, StepW, pok, pval, VA.ev, Env.get, Env.put, Env.keep, thenQ, intV, binV, binOk, Nat.le_refl, Nat.succ_ne_self, Nat.reduceEqDiff, ite_true, ite_false, true_and, reduceCtorEq]
      exact next (hbet.trans hstep)
  · have hk4 : k = 4 := by simp only [decide_eq_false_iff_not] at h2; omega
    subst hk4
    refine VW_exit ?_
    try simp only [thenQ, blockQ, retQ, ite_true]
    refine VW_seq (VW_region [4, 5] ?_)
    simp only [OpsW_nil, OpsW_n, StepW, pok, pval, VA.ev, Env.get, Env.put, Env.keep, thenQ, Nat.succ_ne_self, Nat.reduceEqDiff, ite_true, ite_false, true_and, reduceCtorEq]
    refine VW_ret ?_
    try simp only [Env.get, retQ, resV, resOk, RS.ev, RS.ok, Nat.succ_ne_self, List.map, Nat.reduceEqDiff, ite_true, ite_false, true_and, and_true]
    have e : between a b = none := by unfold between; rw [if_pos ⟨hma, hmb⟩, hbet]; rfl
    rw [e]; exact View.refl _ _
def idxL (l : List Str) (s : Str) : Int := if s ∈ l then ((l.takeWhile fun x => decide (x ≠ s)).length : Int) else -1
theorem idx_at (l : List Str) (s : Str) (k : Nat) (ha : k < l.length) (hpre : ∀ (j : Nat) (hj : j < l.length), j < k → l[j] ≠ s) (he : l[k] = s) : idxL l s = k := by
  have hm : s ∈ l := by rw [← he]; exact List.getElem_mem ha
  unfold idxL
  rw [if_pos hm]
  have : (l.takeWhile fun x => decide (x ≠ s)).length = k := by
    induction l generalizing k with
    | nil => simp at ha
    | cons a r ih =>
      cases k with
      | zero =>
        have h0 : a = s := he
        subst h0; simp [List.takeWhile]
      | succ k =>
        have h0 : a ≠ s := hpre 0 (by simp) (by omega)
        have hk : k < r.length := by simpa using ha
        have he' : r[k] = s := he
        rw [List.takeWhile_cons, if_pos (by simpa using h0), List.length_cons,
          ih k hk (fun j hj hjk => hpre (j + 1) (by simpa using hj) (by omega)) he' (by rw [← he']; exact List.getElem_mem hk)]
  rw [this]
theorem sp_slices_Index_string (l : List Str) (s : Str) (hl : l.length ≤ 1000000) : PCall Tryd.prog 52 [It.strs l, .str s] (pI (idxL l s)) := by
  unfold It.strs
  refine PCall_intro ?_ (cI _) (by simp only [ClosedL, List.mem_cons, List.not_mem_nil, or_false, forall_eq_or_imp, forall_eq, false_implies, implies_true]; repeat' (first | exact cI _ | exact cS _ | exact cB _ | exact closed_fn0 _ | exact closed_nilsl | exact closed_agg (Un.closed _) | exact closed_agg (It.closed _) | exact closed_agg (EI.closed _) | exact closed_agg (Ac.closed _) | exact closed_agg (Wd.closed _) | exact closed_agg (St.closed _) | exact closed_agg (Sta.closed _) | exact closed_eis _ | exact closed_acs _ | exact closed_gzs _ | exact Closed.of_scalar (scalar_int _ _) | exact closed_ro (Ac.closed _) | exact closed_ro (Gz.closed _) | exact closed_agg (Gz.closed _) | exact closed_strs _ | exact closed_map (fun w _ => Wd.closed w) | exact closed_map (fun w _ => St.closed w) | exact closed_map (fun w _ => Un.closed w) | exact closed_map (fun w _ => It.closed w) | exact closed_sc _ | exact closed_sps _ | exact closed_agg (Sp.closed _) | exact closed_ro (EI.closed _) | exact closed_ro (Sta.closed _) | exact closed_ro (It.closed _) | exact closed_ro (by simp only [List.mem_cons, List.not_mem_nil, or_false, forall_eq]; first | exact cI _ | exact cS _ | exact closed_eis _) | refine And.intro ?_ ?_))
  refine ACall_fn (vc := c_slices_Index_string) (ts := [.t 4]) Go.Proofs.Tryd.func52 (by kernel_rfl) rfl rfl (Nat.le_of_ble_eq_true rfl) (by kernel_rfl) ?_
  unfold c_slices_Index_string
  refine VW_seq (VW_region [0, 1] ?_)
  simp only [OpsW_nil, OpsW_n, StepW, pok, pval, VA.ev, Env.get, Env.put, Env.keep, argEnv, thenQ, Heap.nil, Nat.succ_ne_self, Nat.reduceEqDiff, ite_true, ite_false, true_and, reduceCtorEq, Nat.zero_add]
  refine VW_seq ?_
  refine VW_seq (VW_region [0, 1, 7, 8] ?_)
  simp only [OpsW_nil, OpsW_n, StepW, pok, pval, VA.ev, Env.get, Env.put, Env.keep, thenQ, lenV, lenOk, Nat.succ_ne_self, Nat.reduceEqDiff, ite_true, ite_false, true_and, reduceCtorEq, List.length_map]
  refine VW_block ?_
  refine VW_loop (σ := { k : Nat // k ≤ l.length ∧ ∀ (j : Nat) (hj : j < l.length), j < k → l[j] ≠ s }) (fun x => ([(0, .sl 1 (l.map fun s => [.str s])), (1, .str s), (7, pI l.length), (8, pI x.1)], ⟨[], 0⟩)) (fun x => l.length - x.1) ⟨0, Nat.zero_le _, fun j _ h => by cases h⟩ ?_ ?_ ?_
  · simp only [Env.get, Nat.succ_ne_self, Env.le, Nat.reduceEqDiff, ite_true, ite_false, true_and, and_true, reduceCtorEq]
    rfl
  · simp only [Heap.le, HL.le, Nat.le_refl, and_true]
  rintro ⟨k, hk, hpre⟩
  simp only []
  refine VW_seq (VW_region [0, 1, 7, 8, 9] ?_)
  simp only [OpsW_nil, OpsW_n, StepW, pok, pval, VA.ev, Env.get, Env.put, Env.keep, thenQ, intV, binV, binOk, Heap.le, HL.le, Nat.succ_ne_self, Env.le, Nat.reduceEqDiff, ite_true, ite_false, true_and, and_true, ne_eq, reduceCtorEq]
  refine VW_seq ?_
  refine VW_cond rfl (fun h1 => ?_) (fun h1 => ?_)
  · have ka : k < l.length := by simp only [decide_eq_true_eq] at h1; omega
    refine VW_skip ?_
    try simp only [thenQ]
    refine VW_seq ?_
    refine VW_block ?_
    refine VW_seq (VW_region [0, 1, 5, 7, 8] ?_)
    simp only [OpsW_nil, OpsW_n, StepW, pok, pval, VA.ev, Env.get, Env.put, Env.keep, thenQ, Nat.succ_ne_self, Nat.reduceEqDiff, ite_true, ite_false, true_and, reduceCtorEq]
    refine VW_seq (VW_region [0, 1, 5, 7, 8, 16] ?_)
    simp only [OpsW_nil, OpsW_n, StepW, pok, pval, VA.ev, Env.get, Env.put, Env.keep, thenQ, aggV, binV, binOk, strV, isInt, numOf, lenV, locCells, locOk, iaddrV, iaddrOk, PV.nth, PV.row, Nat.le_refl, Nat.succ_ne_self, List.length, List.getD_cons_zero, List.take, List.take_succ_cons, Nat.reduceEqDiff, Bool.false_eq_true, ite_true, ite_false, true_and, and_true, implies_true, reduceCtorEq, Nat.zero_add, List.length_cons, Int.toNat_natCast, List.length_map, rowm ka]
    repeat (with_reducible refine And.intro ?_ ?_; first | omega | (with_reducible constructor <;> omega) | exact False.elim | exact True.intro)
    refine VW_cond rfl (fun h2 => ?_) (fun h2 => ?_)
    · refine VW_seq (VW_region [4] ?_)
      simp only [OpsW_nil, OpsW_n, StepW, pok, pval, VA.ev, Env.get, Env.put, Env.keep, thenQ, Nat.succ_ne_self, Nat.reduceEqDiff, ite_true, ite_false, true_and, reduceCtorEq]
      refine VW_ret ?_
      try simp only [Env.get, thenQ, blockQ, retQ, resV, resOk, RS.ev, RS.ok, ite_true, true_and, and_true]
      have h2' := beq_iff_eq.1 h2
      rw [idx_at l s k ka hpre (by first | exact h2' | exact h2'.symm)]
      exact View.refl _ _
    refine VW_skip ?_
    try simp only [thenQ, blockQ]
    have h2' := beq_eq_false_iff_ne.1 h2
    have hne : l[k] ≠ s := by first | exact h2' | exact h2'.symm
    refine VW_region [0, 1, 7, 8] ?_
    simp only [OpsW_nil, OpsW_n, StepW, pok, pval, VA.ev, Env.get, Env.put, Env.keep, thenQ, intV, binV, binOk, Nat.le_refl, Nat.succ_ne_self, Nat.reduceEqDiff, ite_true, ite_false, true_and, reduceCtorEq, w64 (n := (k : Int) + 1) (by omega) (by omega)]
    refine ⟨⟨k + 1, ka, fun j hj hjk => ?_⟩, ?_, ?_⟩
    · by_cases e : j = k
      · subst e; exact hne
      · exact hpre j hj (by omega)
    · rfl
    · simp only []; omega
  · have ka : k = l.length := by simp only [decide_eq_false_iff_not] at h1; omega
    refine VW_exit ?_
    try simp only [thenQ, blockQ, retQ, ite_true]
    refine VW_seq (VW_region [4] ?_)
    simp only [OpsW_nil, OpsW_n, StepW, pok, pval, VA.ev, Env.get, Env.put, Env.keep, thenQ, Nat.reduceEqDiff, ite_true, ite_false, true_and, reduceCtorEq]
    refine VW_ret ?_
    try simp only [Env.get, retQ, resV, resOk, RS.ev, RS.ok, ite_true, true_and, and_true]
    have e : ¬ s ∈ l := by
      intro h
      obtain ⟨j, hj, e⟩ := List.mem_iff_getElem.1 h
      exact hpre j hj (by omega) e
    have : idxL l s = -1 := by unfold idxL; rw [if_neg e]
    rw [this]
    exact View.refl _ _
theorem sp_slices_Contains_string (l : List Str) (s : Str) (hl : l.length ≤ 1000000) : PCall Tryd.prog 41 [It.strs l, .str s] (.bool (decide (s ∈ l))) := by
  refine PCall_intro ?_ (cB _) (by simp only [ClosedL, List.mem_cons, List.not_mem_nil, or_false, forall_eq_or_imp, forall_eq, false_implies, implies_true]; repeat' (first | exact cI _ | exact cS _ | exact cB _ | exact closed_fn0 _ | exact closed_nilsl | exact closed_agg (Un.closed _) | exact closed_agg (It.closed _) | exact closed_agg (EI.closed _) | exact closed_agg (Ac.closed _) | exact closed_agg (Wd.closed _) | exact closed_agg (St.closed _) | exact closed_agg (Sta.closed _) | exact closed_eis _ | exact closed_acs _ | exact closed_gzs _ | exact Closed.of_scalar (scalar_int _ _) | exact closed_ro (Ac.closed _) | exact closed_ro (Gz.closed _) | exact closed_agg (Gz.closed _) | exact closed_strs _ | exact closed_map (fun w _ => Wd.closed w) | exact closed_map (fun w _ => St.closed w) | exact closed_map (fun w _ => Un.closed w) | exact closed_map (fun w _ => It.closed w) | exact closed_sc _ | exact closed_sps _ | exact closed_agg (Sp.closed _) | exact closed_ro (EI.closed _) | exact closed_ro (Sta.closed _) | exact closed_ro (It.closed _) | exact closed_ro (by simp only [List.mem_cons, List.not_mem_nil, or_false, forall_eq]; first | exact cI _ | exact cS _ | exact closed_eis _) | refine And.intro ?_ ?_))
  refine ACall_fn (vc := c_slices_Contains_string) (ts := [.t 4]) Go.Proofs.Tryd.func41 (by kernel_rfl) rfl rfl (Nat.le_of_ble_eq_true rfl) (by kernel_rfl) ?_
  unfold c_slices_Contains_string
  refine VW_seq (VW_region [0, 1] ?_)
  simp only [OpsW_nil, OpsW_n, StepW, pok, pval, VA.ev, Env.get, Env.put, Env.keep, argEnv, thenQ, Heap.nil, Nat.succ_ne_self, Nat.reduceEqDiff, ite_true, ite_false, true_and, reduceCtorEq, Nat.zero_add]
  refine VW_seq (VW_region [4] ?_)
  simp only [OpsW_nil, OpsW_n, StepW, pok, pval, VA.ev, Env.get, Env.put, Env.keep, thenQ, intV, binV, binOk, strV, Nat.succ_ne_self, List.map, Nat.reduceEqDiff, ite_true, ite_false, true_and, reduceCtorEq]
  refine ACall_p (sp_slices_Index_string l s hl) ?_
  try simp only [true_and]
  refine VW_ret ?_
  try simp only [Env.get, retQ, resV, resOk, RS.ev, RS.ok, ite_true, true_and, and_true]
  have e : decide ((0 : Int) ≤ idxL l s) = decide (s ∈ l) := by
    unfold idxL
    by_cases h : s ∈ l
    · rw [if_pos h, decide_eq_true h, decide_eq_true (by omega)]
    · rw [if_neg h, decide_eq_false h]; rfl
  rw [e]
  exact View.refl _ _
theorem sp_label_NextFree (l : List Str) (s : Str) (hl : l.length ≤ 1000000) (hs : s.length ≤ 1000000) : PCall Tryd.prog 22 [It.strs l, .str s] (optT (nextFree l s)) := by
  have A := sp_label_Valid s hs
  refine PCall_intro ?_ (closed_opt _) (by simp only [ClosedL, List.mem_cons, List.not_mem_nil, or_false, forall_eq_or_imp, forall_eq, false_implies, implies_true]; repeat' (first | exact cI _ | exact cS _ | exact cB _ | exact closed_fn0 _ | exact closed_nilsl | exact closed_agg (Un.closed _) | exact closed_agg (It.closed _) | exact closed_agg (EI.closed _) | exact closed_agg (Ac.closed _) | exact closed_agg (Wd.closed _) | exact closed_agg (St.closed _) | exact closed_agg (Sta.closed _) | exact closed_eis _ | exact closed_acs _ | exact closed_gzs _ | exact Closed.of_scalar (scalar_int _ _) | exact closed_ro (Ac.closed _) | exact closed_ro (Gz.closed _) | exact closed_agg (Gz.closed _) | exact closed_strs _ | exact closed_map (fun w _ => Wd.closed w) | exact closed_map (fun w _ => St.closed w) | exact closed_map (fun w _ => Un.closed w) | exact closed_map (fun w _ => It.closed w) | exact closed_sc _ | exact closed_sps _ | exact closed_agg (Sp.closed _) | exact closed_ro (EI.closed _) | exact closed_ro (Sta.closed _) | exact closed_ro (It.closed _) | exact closed_ro (by simp only [List.mem_cons, List.not_mem_nil, or_false, forall_eq]; first | exact cI _ | exact cS _ | exact closed_eis _) | refine And.intro ?_ ?_))
  refine ACall_fn (vc := c_label_NextFree) (ts := [.t 4, .t 5]) Go.Proofs.Tryd.func22 (by kernel_rfl) rfl rfl (Nat.le_of_ble_eq_true rfl) (by kernel_rfl) ?_
  unfold c_label_NextFree
  refine VW_seq (VW_region [0, 1] ?_)
  simp only [OpsW_nil, OpsW_n, StepW, pok, pval, VA.ev, Env.get, Env.put, Env.keep, argEnv, thenQ, Heap.nil, Nat.succ_ne_self, Nat.reduceEqDiff, ite_true, ite_false, true_and, reduceCtorEq, Nat.zero_add]
  refine VW_seq (VW_region [0, 1, 6] ?_)
  simp only [OpsW_nil, OpsW_n, StepW, pok, pval, VA.ev, Env.get, Env.put, Env.keep, thenQ, Nat.succ_ne_self, List.map, Nat.reduceEqDiff, ite_true, ite_false, true_and, reduceCtorEq]
  refine ACall_p A ?_
  skip
  refine VW_seq ?_
  refine VW_block ?_
  refine VW_loop (σ := { x : Str × Bool // x.1.length ≤ 1000000 ∧ nextFree l s = if x.2 = true then freeS l x.1 else none }) (fun x => ([(0, It.strs l), (1, .str x.1.1), (6, .bool x.1.2)], ⟨[], 0⟩)) (fun x => if x.1.2 = true then cnt l x.1.1 + 1 else 0) ⟨(s, may s), hs, rfl⟩ ?_ ?_ ?_
  · simp only [Env.get, Nat.succ_ne_self, Env.le, Nat.reduceEqDiff, ite_true, ite_false, and_true, reduceCtorEq]
  · simp only [Heap.le, HL.le, Nat.le_refl, and_true]
  rintro ⟨⟨t, ok⟩, htl, hfree⟩
  simp only [] at htl hfree ⊢
  refine VW_seq ?_
  refine VW_seqE (σ := { x : Bool // x = (ok && decide (t ∈ l)) }) [0, 1, 6, 14] (fun x => [(0, It.strs l), (1, .str t), (6, .bool ok), (14, .bool x.1)]) ?_ ?_
  · cases ok
    · simp only [OpsW_nil, OpsW_n, OpsW_xt, StepW, pok, pval, VA.ev, Env.get, Env.put, Env.keep, pickV, isBool, Nat.succ_ne_self, Env.le, Nat.reduceEqDiff, Bool.false_eq_true, ite_true, ite_false, true_and, and_true, reduceCtorEq]
      exact ⟨⟨false, rfl⟩, rfl⟩
    · simp only [OpsW_nil, OpsW_n, OpsW_y, StepW, pok, pval, VA.ev, Env.get, Env.put, Env.keep, pickV, isBool, Nat.succ_ne_self, Env.le, List.map, Nat.reduceEqDiff, ite_true, ite_false, true_and, and_true, reduceCtorEq]
      refine ACall_p (sp_slices_Contains_string l t hl) ?_
      try simp only [and_true]
      exact ⟨⟨decide (t ∈ l), rfl⟩, rfl⟩
  rintro ⟨x, hx⟩
  simp only []
  refine VW_cond rfl (fun h1 => ?_) (fun h1 => ?_)
  · obtain ⟨rfl, htm⟩ : ok = true ∧ t ∈ l := by rw [h1] at hx; cases ok with | false => cases hx | true => exact ⟨rfl, of_decide_eq_true hx.symm⟩
    rw [if_pos rfl, free_in htm] at hfree
    refine VW_skip ?_
    try simp only [thenQ, Heap.le, HL.le, Env.le, ite_true, and_true]
    refine VW_block ?_
    refine VW_region [0, 1, 6] ?_
    simp only [OpsW_nil, OpsW_n, StepW, pok, pval, VA.ev, Env.get, Env.put, Env.keep, thenQ, blockQ, extV, extOk, PV.nth, Nat.succ_ne_self, List.map, Nat.reduceEqDiff, ite_true, ite_false, true_and, reduceCtorEq]
    refine ACall_p (sp_label_Next t htl) ?_
    try simp only [Nat.le_refl, List.length, List.getD_cons_zero, List.getD_cons_succ, Nat.reduceAdd, Nat.reduceLT, true_and, Nat.zero_add, optT]
    cases hn : nextS t with
    | none =>
      rw [hn] at hfree
      refine ⟨⟨([], false), Nat.zero_le _, by rw [hfree]; rfl⟩, ?_, ?_⟩
      · exact ⟨rfl, rfl⟩
      · simp only [Bool.false_eq_true, if_false, if_true]; omega
    | some u =>
      rw [hn] at hfree
      have hul := label_len (next_some hn).2.1
      have := cnt_lt htm hn
      refine ⟨⟨(u, true), by simp only []; omega, by rw [hfree]; rfl⟩, ?_, ?_⟩
      · exact ⟨rfl, rfl⟩
      · simp only [if_true]; omega
  · have hno : ¬ (ok = true ∧ t ∈ l) := by rintro ⟨rfl, h⟩; rw [h1] at hx; simp [h] at hx
    refine VW_exit ?_
    try simp only [thenQ, blockQ, retQ, ite_true]
    refine VW_seq ?_
    refine VW_seq (VW_region [1, 21] ?_)
    simp only [OpsW_nil, OpsW_n, StepW, pok, pval, VA.ev, Env.get, Env.put, Env.keep, thenQ, unV, unOk, Nat.reduceEqDiff, ite_true, ite_false, true_and, reduceCtorEq]
    refine VW_cond rfl (fun h2 => ?_) (fun h2 => ?_)
    · have hok : ok = false := by cases ok; rfl; cases h2
      subst hok
      refine VW_seq (VW_region [4, 5] ?_)
      simp only [OpsW_nil, OpsW_n, StepW, pok, pval, VA.ev, Env.get, Env.put, Env.keep, thenQ, Nat.succ_ne_self, Nat.reduceEqDiff, ite_true, ite_false, true_and, Bool.not_false]
      refine VW_ret ?_
      try simp only [Env.get, thenQ, retQ, resV, resOk, RS.ev, RS.ok, Nat.succ_ne_self, List.map, Nat.reduceEqDiff, ite_true, ite_false, true_and, and_true]
      rw [hfree]; exact View.refl _ _
    have hok : ok = true := by cases ok; cases h2; rfl
    subst hok
    rw [if_pos rfl, free_out (fun h => hno ⟨rfl, h⟩)] at hfree
    refine VW_skip ?_
    try simp only [thenQ, Bool.not_true]
    refine VW_seq (VW_region [4, 5] ?_)
    simp only [OpsW_nil, OpsW_n, StepW, pok, pval, VA.ev, Env.get, Env.put, Env.keep, thenQ, Nat.succ_ne_self, Nat.reduceEqDiff, ite_true, ite_false, true_and]
    refine VW_ret ?_
    try simp only [Env.get, retQ, resV, resOk, RS.ev, RS.ok, Nat.succ_ne_self, List.map, Nat.reduceEqDiff, ite_true, ite_false, true_and, and_true]
    rw [hfree]; exact View.refl _ _
end Go.Proofs.YtihfbefagcdpmaaDoor.w

