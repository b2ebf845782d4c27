/-
  Walks: corpus.alike.
-/
import Derived.Test.YtcjaojhbebpokaaW6
import Derived.Test.YtcjaojhbebpokaaRd
set_option linter.all false
namespace Go.Proofs.Ytcjaojhbebpokaa.w
open Go Go.VM
set_option maxRecDepth 20000
set_option maxHeartbeats 0
def c38 : VC := (.seq (.region [⟨(some 2), (.box 28 (.t 0)), none⟩, ⟨(some 3), (.box 28 (.t 1)), none⟩, ⟨(some 4), (.mv (.c (.bool false))), none⟩] false) (.seq (.region [⟨(some 5), (.load true 28 (.t 2)), none⟩, ⟨(some 6), (.load true 28 (.t 3)), none⟩, ⟨(some 7), (.call 23 [(.t 5), (.t 6)]), none⟩, ⟨(some 8), (.bin .eql (.t 7) (.c (.int .i64 0))), none⟩, ⟨(some 9), (.mv (.t 8)), none⟩, ⟨(some 10), (.faddr 3 (.t 2)), (some (9, true))⟩, ⟨(some 11), (.load true 25 (.t 10)), (some (9, true))⟩, ⟨(some 12), (.faddr 3 (.t 3)), (some (9, true))⟩, ⟨(some 13), (.load true 25 (.t 12)), (some (9, true))⟩, ⟨(some 14), (.call 58 [(.t 11), (.t 13)]), (some (9, true))⟩, ⟨(some 15), (.pick (.t 9) (.t 14) (.c (.bool false))), none⟩, ⟨(some 4), (.mv (.t 15)), none⟩] false) .ret))
theorem cmpI_z {x y : Int} : cmpI x y = 0 ↔ x = y := by
  simp only [cmpI]
  split
  · simp; omega
  · split <;> simp <;> omega
theorem cmpE_z {a b : EI} : cmpE a b = 0 ↔ a.day = b.day ∧ a.act = b.act ∧ a.item = b.item := by
  simp only [cmpE, orI, ← cmpI_z (x := a.day), ← cmpI_z (x := a.act), ← cmpI_z (x := a.item)]
  split
  · split
    · split <;> simp_all
    · simp_all
  · simp_all
theorem ei_take (a : EI) : a.enc.take 28 = a.enc := List.take_of_length_le (by rw [rd.ei_len]; exact Nat.le_refl _)
theorem sp38 (a b : EI) (ha : a.ok) (hb : b.ok) : PCall Try.prog 38 [.agg a.enc, .agg b.enc] (.bool (eqB a b)) := by
  refine PCall_intro ?_ (Closed.of_scalar (scalar_bool _)) (by simp only [ClosedL, List.mem_cons, List.not_mem_nil, or_false, forall_eq_or_imp, forall_eq, false_implies, implies_true]; repeat' (first | exact cI _ | exact cS _ | exact cB _ | exact closed_fn0 _ | exact closed_nilsl | exact closed_agg (Un.closed _) | exact closed_agg (It.closed _) | exact closed_agg (EI.closed _) | exact closed_agg (Ac.closed _) | exact closed_agg (Wd.closed _) | exact closed_agg (St.closed _) | exact closed_agg (Sta.closed _) | exact closed_eis _ | exact closed_acs _ | exact closed_gzs _ | exact Closed.of_scalar (scalar_int _ _) | exact closed_ro (Ac.closed _) | exact closed_ro (Gz.closed _) | exact closed_agg (Gz.closed _) | exact closed_strs _ | exact closed_map (fun w _ => Wd.closed w) | exact closed_map (fun w _ => St.closed w) | exact closed_map (fun w _ => Un.closed w) | exact closed_map (fun w _ => It.closed w) | exact closed_sc _ | exact closed_sps _ | exact closed_agg (Sp.closed _) | exact closed_ro (EI.closed _) | exact closed_ro (Sta.closed _) | exact closed_ro (It.closed _) | exact closed_ro (by simp only [List.mem_cons, List.not_mem_nil, or_false, forall_eq]; first | exact cI _ | exact cS _ | exact closed_eis _) | refine And.intro ?_ ?_))
  refine ACall_fn (vc := c38) (ts := [.t 4]) Go.Proofs.Try.func38 (by kernel_rfl) rfl rfl (Nat.le_of_ble_eq_true rfl) (by kernel_rfl) ?_
  unfold c38
  have da : a.enc.drop 3 = a.it.enc := rfl
  have db : b.enc.drop 3 = b.it.enc := rfl
  refine VW_seq (VW_region [2, 3] ?_)
  simp only [OpsW_nil, OpsW_n, StepW, pok, pval, VA.ev, Env.get, Env.put, Env.keep, argEnv, thenQ, PV.cells, PV.fits, Heap.push, Heap.nil, Nat.succ_ne_self, Nat.reduceEqDiff, Nat.reduceAdd, ite_true, ite_false, true_and, reduceCtorEq, BEq.rfl, Nat.zero_add, rd.ei_len]
  skip
  skip
  refine VW_seq (VW_region [4] ?_)
  simp only [OpsW_n, StepW, pok, pval, VA.ev, Env.get, Env.put, Env.keep, thenQ, aggV, intV, binV, binOk, strV, locCells, locOk, PV.nth, PV.row, Heap.get, HL.get, Nat.le_refl, Nat.succ_ne_self, List.map, List.length, List.getD_cons_zero, List.drop, Nat.reduceEqDiff, Nat.reduceLT, Bool.true_eq_false, ite_true, ite_false, true_and, and_true, reduceCtorEq, Nat.zero_add, imp_self, ei_take, rd.ei_len]
  repeat (with_reducible refine And.intro ?_ ?_; first | omega | (with_reducible constructor <;> omega) | exact False.elim | exact True.intro)
  refine ACall_p (sp23 a b) ?_
  try simp only [true_and]
  refine OpsW_split rfl (fun g1 => ?_) (fun g1 => ?_)
  rotate_left
  · simp only [OpsW_nil, OpsW_n, OpsW_xt, StepW, pok, pval, VA.ev, Env.get, Env.put, pickV, isBool, Nat.succ_ne_self, Nat.reduceEqDiff, Bool.false_eq_true, ite_true, ite_false, true_and, Bool.not_true, g1]
    refine VW_ret ?_
    try simp only [Env.get, retQ, resV, resOk, RS.ev, RS.ok, ite_true, true_and, and_true]
    rw [eqB_f (fun e => by subst e; simp [cmpE_z] at g1)]
    exact View.refl _ _
  simp only [OpsW_nil, OpsW_n, OpsW_y, StepW, pok, pval, VA.ev, Env.get, Env.put, pickV, isBool, aggV, faddrV, isAddr, locCells, locOk, PV.nth, PV.row, Heap.get, HL.get, Nat.le_refl, Nat.succ_ne_self, List.map, List.length, List.getD_cons_zero, Nat.reduceEqDiff, Nat.reduceLT, Bool.true_eq_false, ite_true, ite_false, true_and, and_true, reduceCtorEq, Nat.zero_add, imp_self, g1, da, db, it_take, It.enc_len]
  repeat (with_reducible refine And.intro ?_ ?_; first | omega | (with_reducible constructor <;> omega) | exact False.elim | exact True.intro)
  refine ACall_p (sp58 a.it b.it ha.2.2.2 hb.2.2.2) ?_
  skip
  refine VW_ret ?_
  try simp only [Env.get, retQ, resV, resOk, RS.ev, RS.ok, ite_true, true_and, and_true]
  have e1 : eqB a.it b.it = eqB a b := by
    have := cmpE_z.1 (show cmpE a b = 0 by simpa using g1)
    by_cases h : a.it = b.it
    · rw [eqB_t h, eqB_t (by cases a; cases b; simp_all)]
    · rw [eqB_f h, eqB_f (fun e => h (by rw [e]))]
  rw [e1]
  exact View.refl _ _
end Go.Proofs.Ytcjaojhbebpokaa.w

