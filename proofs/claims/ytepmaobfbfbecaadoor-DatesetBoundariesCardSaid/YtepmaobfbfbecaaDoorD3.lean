/-
  Walks: strconv.Itoa at small numbers, strings.Join; dateset.one, Format at one small span; pandectlaw02.awake.
  Walks: dateset.one, Format, over what 'one' says of each span; pandectlaw02.awake.
  Walks: the laws DatesetOperations, DatesetBasics.
-/
import Derived.Test.YtepmaobfbfbecaaDoorD2
import Derived.Test.YtepmaobfbfbecaaDoorShAll
import Derived.Test.YtepmaobfbfbecaaDoorVmI
set_option linter.all false
namespace Go.Proofs.YtepmaobfbfbecaaDoor.w
open Go Go.VM
set_option maxRecDepth 20000
set_option maxHeartbeats 0
set_option pp.deepTerms false
theorem sp_strconv_Itoa_small (i : Nat) (hi : i < 100) : PCall Tryd.prog 53 [pI i] (.str (Lib.decDigits i)) := by
  refine PCall_of (by kernel_rfl) (by intro x hx; rw [List.mem_singleton] at hx; subst hx; exact cI _) fun g w vals r ha => ?_
  obtain ⟨v, rfl, hv⟩ := args_1 ha
  obtain rfl := hv.int_inv
  refine (Tryd.strconv_Itoa_small i hi w).mono ?_
  rintro e w' ⟨rfl, rfl⟩
  exact ⟨_, rfl, fun g => .str _ _ (by simp), RowKit.Below.refl _ _⟩
theorem fok_Join : fnOk Tryd.prog 43 = true := by kernel_rfl
theorem join_none (a : Option Addr) (cap : Nat) (sep : Str) (w : World) : Calls Tryd.prog 43 #[.slice a 0 cap, .string ⟨sep.toArray⟩] w fun e w' => ∃ v, e = .returned v ∧ (∀ g, Rep g v (.str (Lib.join [] sep))) ∧ RowKit.Below w.heap.size w w' := by
  refine (Tryd.strings_Join_none a cap _ w).mono ?_
  rintro e w' ⟨rfl, rfl⟩
  exact ⟨_, rfl, fun g => .str _ _ (by simp [Lib.join, List.intercalate]), RowKit.Below.refl _ _⟩
theorem join_some (l : List Str) (sep : Str) (hl : l.length ≤ 1000000) (hlen : (Lib.join l sep).length ≤ 140737488355328) (b o cap : Nat) (w : World) (hc : l.length ≤ cap) (hb : b < w.heap.size)
    (hcells : ∀ (j : Nat) (x : ByteArray), (l.map fun s => (⟨s.toArray⟩ : ByteArray))[j]? = some x → w.cell? ⟨b, o + j, none⟩ = some (.string x)) :
    Calls Tryd.prog 43 #[.slice (some ⟨b, o, none⟩) (l.map fun s => (⟨s.toArray⟩ : ByteArray)).length cap, .string ⟨sep.toArray⟩] w fun e w' => ∃ v, e = .returned v ∧ (∀ g, Rep g v (.str (Lib.join l sep))) ∧ RowKit.Below w.heap.size w w' := by
  have e2 : ((l.map fun s => (⟨s.toArray⟩ : ByteArray)).map (·.data.toList)) = l := by rw [List.map_map]; simp [Function.comp_def]
  generalize (l.map fun s => (⟨s.toArray⟩ : ByteArray)) = xs at hcells e2 ⊢
  have hx : xs.length = l.length := by rw [← e2]; simp
  have hj : Lib.join (xs.map (·.data.toList)) (ByteArray.mk sep.toArray).data.toList = Lib.join l sep := by rw [e2]
  refine (Tryd.strings_Join b o cap xs ⟨sep.toArray⟩ w hcells hb (by omega) (by omega) (by rw [hj]; exact hlen)).mono ?_
  rintro e w' ⟨rfl, hw⟩
  exact ⟨_, rfl, fun g => .str _ _ (by rw [hj]), hw⟩
theorem sp_strings_Join (l : List Str) (sep : Str) (hl : l.length ≤ 1000000) (hlen : (Lib.join l sep).length ≤ 140737488355328) : PCall Tryd.prog 43 [It.strs l, .str sep] (.str (Lib.join l sep)) := by
  refine PCall_of fok_Join (by intro x hx; simp only [List.mem_cons, List.not_mem_nil, or_false] at hx; rcases hx with rfl | rfl; exact closed_strs _; exact cS _) ?_
  intro g w vals r ha
  obtain ⟨v, u, rfl, hv, hu⟩ := args_2 ha
  obtain ⟨s, rfl, hs⟩ := hu.str_inv
  rw [str_eq hs]
  rcases strs_cells r hv with ⟨a, cap, rfl, rfl⟩ | ⟨b, o, cap, rfl, hc, hb, hcells⟩
  · exact join_none a cap sep w
  · exact join_some l sep hl hlen b o cap w hc hb hcells
end Go.Proofs.YtepmaobfbfbecaaDoor.w


namespace Go.Proofs.YtepmaobfbfbecaaDoor.w
open Go Go.VM
set_option maxRecDepth 20000
set_option maxHeartbeats 0
set_option pp.deepTerms false
def c_dateset_one : VC := (.seq (.region [⟨(some 1), (.box 2 (.t 0)), none⟩, ⟨(some 2), (.mv (.c (.str []))), none⟩] false) (.seq (.region [⟨(some 4), (.faddr 0 (.t 1)), none⟩, ⟨(some 5), (.load false 1 (.t 4)), none⟩, ⟨(some 6), (.call 53 [(.t 5)]), none⟩, ⟨(some 3), (.mv (.t 6)), none⟩] false) (.seq (.block 0 (.seq (.region [⟨(some 8), (.faddr 1 (.t 1)), none⟩, ⟨(some 9), (.load false 1 (.t 8)), none⟩, ⟨(some 10), (.faddr 0 (.t 1)), none⟩, ⟨(some 11), (.load false 1 (.t 10)), none⟩, ⟨(some 12), (.bin .sub (.t 9) (.t 11)), none⟩, ⟨(some 13), (.bin .eql (.t 12) (.c (.int .i64 1))), none⟩, ⟨(some 7), (.mv (.t 13)), none⟩] false) (.cond (.t 7) (.seq (.region [⟨(some 14), (.mv (.t 3)), none⟩, ⟨(some 2), (.mv (.t 14)), none⟩] false) .ret) (.seq (.region [⟨(some 16), (.faddr 1 (.t 1)), none⟩, ⟨(some 17), (.load false 1 (.t 16)), none⟩, ⟨(some 18), (.bin .eql (.t 17) (.c (.int .i64 1048577))), none⟩, ⟨(some 15), (.mv (.t 18)), none⟩] false) (.cond (.t 15) (.seq (.region [⟨(some 19), (.mv (.t 3)), none⟩, ⟨(some 20), (.bin .add (.t 19) (.c (.str [43]))), none⟩, ⟨(some 2), (.mv (.t 20)), none⟩] false) .ret) .skip))))) (.seq (.region [⟨(some 21), (.mv (.t 3)), none⟩, ⟨(some 22), (.bin .add (.t 21) (.c (.str [45]))), none⟩, ⟨(some 23), (.faddr 1 (.t 1)), none⟩, ⟨(some 24), (.load false 1 (.t 23)), none⟩, ⟨(some 25), (.bin .sub (.t 24) (.c (.int .i64 1))), none⟩, ⟨(some 26), (.call 53 [(.t 25)]), none⟩, ⟨(some 27), (.bin .add (.t 22) (.t 26)), none⟩, ⟨(some 2), (.mv (.t 27)), none⟩] false) .ret))))
def c_dateset_Format : VC := (.seq (.region [⟨(some 2), (.mv (.c (.str []))), none⟩] false) (.seq (.region [⟨(some 3), (.mv (.c .nilsl)), none⟩] false) (.seq (.seq (.region [⟨(some 6), (.mv (.t 0)), none⟩, ⟨(some 7), (.call 22 [(.t 6)]), none⟩, ⟨(some 8), (.len false (.t 7)), none⟩, ⟨(some 9), (.mv (.c (.int .i64 0))), none⟩] false) (.block 0 (.loop (.seq (.region [⟨(some 10), (.bin .lss (.t 9) (.t 8)), none⟩] false) (.seq (.cond (.t 10) .skip (.exit 0)) (.seq (.block 1 (.seq (.region [⟨(some 11), (.iaddr 2 (.t 7) (.t 9)), none⟩, ⟨(some 12), (.load true 2 (.t 11)), none⟩, ⟨(some 5), (.alloc [(.int .i64 0), (.int .i64 0)]), none⟩, ⟨none, (.store 2 (.t 5) (.t 12)), none⟩] false) (.region [⟨(some 13), (.mv (.t 3)), none⟩, ⟨(some 14), (.load true 2 (.t 5)), none⟩, ⟨(some 15), (.call 42 [(.t 14)]), none⟩, ⟨(some 16), (.bslice 1 1 [(.str [])] [(0, (.t 15))]), none⟩, ⟨(some 17), (.app 1 16 [(.str [])] false (.t 13) (.t 16)), none⟩, ⟨(some 3), (.mv (.t 17)), none⟩] false))) (.region [⟨(some 18), (.bin .add (.t 9) (.c (.int .i64 1))), none⟩, ⟨(some 9), (.mv (.t 18)), none⟩] false))))))) (.seq (.seq (.region [⟨(some 19), (.mv (.t 3)), none⟩, ⟨(some 20), (.len false (.t 19)), none⟩, ⟨(some 21), (.bin .eql (.t 20) (.c (.int .i64 0))), none⟩] false) (.cond (.t 21) (.seq (.region [⟨(some 2), (.mv (.c (.str [110, 101, 118, 101, 114]))), none⟩] false) .ret) .skip)) (.seq (.region [⟨(some 22), (.mv (.t 3)), none⟩, ⟨(some 23), (.call 43 [(.t 22), (.c (.str [44]))]), none⟩, ⟨(some 2), (.mv (.t 23)), none⟩] false) .ret)))))
def c_pandectlaw02_awake : VC := (.seq (.region [⟨(some 0), (.mv (.c (.bool false))), none⟩] false) (.seq (.region [⟨(some 2), (.build [(.int .i64 0), (.int .i64 0)] [(0, (1, (.c (.int .i64 5)))), (1, (1, (.c (.int .i64 9))))]), none⟩, ⟨(some 3), (.build [(.int .i64 0), (.int .i64 0)] [(0, (1, (.c (.int .i64 7)))), (1, (1, (.c (.int .i64 12))))]), none⟩, ⟨(some 4), (.build [(.int .i64 0), (.int .i64 0)] [(0, (1, (.c (.int .i64 20)))), (1, (1, (.c (.int .i64 20))))]), none⟩, ⟨(some 5), (.bslice 2 3 [(.int .i64 0), (.int .i64 0)] [(0, (.t 2)), (1, (.t 3)), (2, (.t 4))]), none⟩, ⟨(some 1), (.mv (.t 5)), none⟩] false) (.seq (.region [⟨(some 6), (.mv (.t 1)), none⟩, ⟨(some 7), (.call 22 [(.t 6)]), none⟩, ⟨(some 8), (.build [(.int .i64 0), (.int .i64 0)] [(0, (1, (.c (.int .i64 5)))), (1, (1, (.c (.int .i64 12))))]), none⟩, ⟨(some 9), (.bslice 2 1 [(.int .i64 0), (.int .i64 0)] [(0, (.t 8))]), none⟩, ⟨(some 10), (.call 13 [(.t 7), (.t 9)]), none⟩, ⟨(some 11), (.mv (.t 10)), none⟩, ⟨(some 12), (.mv (.t 1)), (some (11, true))⟩, ⟨(some 13), (.call 31 [(.t 12)]), (some (11, true))⟩, ⟨(some 14), (.bin .eql (.t 13) (.c (.str [53, 45, 49, 49]))), (some (11, true))⟩, ⟨(some 15), (.pick (.t 11) (.t 14) (.c (.bool false))), none⟩, ⟨(some 16), (.mv (.t 15)), none⟩, ⟨(some 17), (.mv (.t 1)), (some (16, true))⟩, ⟨(some 18), (.call 12 [(.t 17), (.c (.int .i64 8))]), (some (16, true))⟩, ⟨(some 19), (.call 31 [(.t 18)]), (some (16, true))⟩, ⟨(some 20), (.bin .eql (.t 19) (.c (.str [53, 43]))), (some (16, true))⟩, ⟨(some 21), (.pick (.t 16) (.t 20) (.c (.bool false))), none⟩, ⟨(some 22), (.mv (.t 21)), none⟩, ⟨(some 23), (.mv (.t 1)), (some (22, true))⟩, ⟨(some 24), (.call 11 [(.t 23), (.c (.int .i64 8))]), (some (22, true))⟩, ⟨(some 25), (.call 31 [(.t 24)]), (some (22, true))⟩, ⟨(some 26), (.bin .eql (.t 25) (.c (.str [53, 45, 55]))), (some (22, true))⟩, ⟨(some 27), (.pick (.t 22) (.t 26) (.c (.bool false))), none⟩, ⟨(some 28), (.mv (.t 27)), none⟩, ⟨(some 29), (.mv (.t 1)), (some (28, true))⟩, ⟨(some 30), (.call 22 [(.t 29)]), (some (28, true))⟩, ⟨(some 31), (.call 16 [(.t 30)]), (some (28, true))⟩, ⟨(some 32), (.pick (.t 28) (.t 31) (.c (.bool false))), none⟩, ⟨(some 0), (.mv (.t 32)), none⟩] false) .ret)))
theorem sp_one_open (a : Nat) (A : Str) (ha : a < 100) (hA : Lib.decDigits a = A) (hl : A.length ≤ 10) : PCall Tryd.prog 42 [.agg (Sp.enc ⟨a, 1048577⟩)] (.str (A ++ [43])) := by
  refine PCall_intro ?_ (cS _) (by simp only [ClosedL, List.mem_cons, List.not_mem_nil, or_false, forall_eq_or_imp, forall_eq, false_implies, implies_true]; repeat' (first | exact cI _ | exact cS _ | exact cB _ | exact closed_fn0 _ | exact closed_nilsl | exact closed_agg (Un.closed _) | exact closed_agg (It.closed _) | exact closed_agg (EI.closed _) | exact closed_agg (Ac.closed _) | exact closed_agg (Wd.closed _) | exact closed_agg (St.closed _) | exact closed_agg (Sta.closed _) | exact closed_eis _ | exact closed_acs _ | exact closed_strs _ | exact closed_map (fun w _ => Wd.closed w) | exact closed_map (fun w _ => St.closed w) | exact closed_map (fun w _ => Un.closed w) | exact closed_map (fun w _ => It.closed w) | exact closed_sc _ | exact closed_sps _ | exact closed_agg (Sp.closed _) | exact closed_ro (EI.closed _) | exact closed_ro (Sta.closed _) | exact closed_ro (It.closed _) | exact closed_ro (by simp only [List.mem_cons, List.not_mem_nil, or_false, forall_eq]; first | exact cI _ | exact cS _ | exact closed_eis _) | refine And.intro ?_ ?_))
  refine ACall_fn (vc := c_dateset_one) (ts := [.t 2]) Go.Proofs.Tryd.func42 (by kernel_rfl) rfl rfl (Nat.le_of_ble_eq_true rfl) (by kernel_rfl) ?_
  unfold c_dateset_one
  refine VW_seq (VW_region [1] ?_)
  simp only [OpsW_nil, OpsW_n, StepW, pok, pval, VA.ev, Env.get, Env.put, Env.keep, argEnv, thenQ, PV.cells, PV.fits, Heap.push, Heap.nil, Nat.succ_ne_self, List.length, Nat.reduceAdd, ite_true, ite_false, true_and, reduceCtorEq, BEq.rfl, Nat.zero_add, Sp.enc]
  refine VW_seq (VW_region [1, 3] ?_)
  simp only [OpsW_nil, OpsW_n, StepW, pok, pval, VA.ev, Env.get, Env.put, Env.keep, thenQ, aggV, faddrV, isAddr, locCells, locOk, PV.nth, PV.row, Heap.get, HL.get, Nat.succ_ne_self, List.map, List.length, List.getD_cons_zero, List.take, List.drop, List.take_succ_cons, Nat.reduceEqDiff, Nat.reduceAdd, Nat.reduceLT, Nat.reduceLeDiff, Bool.false_eq_true, ite_true, ite_false, true_and, and_true, implies_true, Nat.zero_add, Nat.add_zero, List.length_cons]
  refine ACall_p (sp_strconv_Itoa_small a ha) ?_
  rw [hA]
  try simp only [OpsW_nil, OpsW_n, OpsW_y, OpsW_xt, OpsW_xf, OpsW_u, StepW, guardOf, DrawW_nil, DrawW_n, DrawW_y, DrawW_xt, DrawW_xf, DrawW_u, DrawH, VOp.isIaddr, QW, dok, dval, VOp.pure, VOp.simple, VOp.det, pok, pval, VA.ev, Env.get, Env.put, Env.keep, argEnv, thenQ, blockQ, retQ, resV, resOk, RS.ev, RS.ok, gd, pickV, isBool, aggV, intV, binV, binOk, strV, binbV, boolV, binbOk, unV, unOk, convV, isInt, isStr, numOf, loV, hiV, lenV, boundOk, sliceV, sliceOk, faddrV, isAddr, locCells, locOk, cellsOfAgg, isAggP, iaddrV, iaddrOk, idxV, idxOk, lenOk, extV, extOk, fillV, fillOk, mmV, PV.cells, PV.fits, overlay, PV.nth, PV.row, lookV, mapRows, mapOk, keysOk, keyOk, keyEq, mapFind, mapPut, mapHas, mapsetV, Heap.get, Heap.set, Heap.del, Heap.le, HL.get, HL.set, HL.del, HL.le, Heap.push, Heap.nil, Nat.le_refl, Nat.add_eq_left, Nat.left_eq_add, Nat.succ_ne_self, Nat.one_ne_zero, Env.le, killed, oldId, oldRows, oldOk, srcRows, srcOk, elemsV, elemsOk, eqOk, ekOk, eqCells, eqCell, storeV, storeOk, AB.live, pxV, pxOk, fxV, fxOk, isPtr, slLike, isNil, notNil, List.map, List.set, List.replicate, List.length, List.getD_cons_zero, List.getD_cons_succ, List.getD_nil, List.take, List.drop, List.take_zero, List.drop_zero, List.take_succ_cons, List.drop_succ_cons, List.append, List.cons_append, List.nil_append, Option.map, Nat.reduceEqDiff, Nat.reduceAdd, Nat.reduceLT, Nat.reduceLeDiff, Nat.reduceSub, Nat.reduceMul, reduceIte, Bool.false_eq_true, Bool.true_eq_false, ite_true, ite_false, if_true, if_false, true_and, and_true, implies_true, forall_const, ne_eq, not_false_eq_true, reduceCtorEq, BEq.rfl, beq_self_eq_true, Option.some.injEq, Nat.zero_add, Nat.add_zero, List.length_cons, List.length_nil, true_implies, imp_self, Int.reduceToNat, Int.toNat_natCast, Bool.not_false, Bool.not_true]
  refine VW_seq ?_
  refine VW_block ?_
  refine VW_seq (VW_region [1, 3, 7] ?_)
  simp only [OpsW_nil, OpsW_n, StepW, pok, pval, VA.ev, Env.get, Env.put, Env.keep, thenQ, aggV, intV, binV, binOk, faddrV, isAddr, locCells, locOk, PV.nth, PV.row, Heap.get, HL.get, Nat.le_refl, Nat.succ_ne_self, List.length, List.getD_cons_zero, List.take, List.drop, List.take_succ_cons, List.drop_succ_cons, Nat.reduceEqDiff, Nat.reduceAdd, Nat.reduceLT, Nat.reduceLeDiff, Bool.false_eq_true, ite_true, ite_false, true_and, and_true, implies_true, Nat.zero_add, Nat.add_zero, List.length_cons, w64 (n := (1048577 : Int) - a) (by omega) (by omega)]
  refine VW_cond rfl (fun h1 => by simp at h1; omega) (fun h1 => ?_)
  refine VW_seq (VW_region [1, 3, 15] ?_)
  simp only [OpsW_nil, OpsW_n, StepW, pok, pval, VA.ev, Env.get, Env.put, Env.keep, thenQ, aggV, intV, binV, binOk, faddrV, isAddr, locCells, locOk, PV.nth, PV.row, Heap.get, HL.get, Nat.le_refl, Nat.succ_ne_self, List.length, List.getD_cons_zero, List.take, List.drop, List.take_succ_cons, List.drop_succ_cons, Nat.reduceEqDiff, Nat.reduceLT, Bool.false_eq_true, ite_true, ite_false, true_and, and_true, implies_true, BEq.rfl, Nat.zero_add, List.length_cons]
  refine VW_cond rfl (fun h2 => ?_) (fun h2 => by simp at h2)
  refine VW_seq (VW_region [2] ?_)
  simp only [OpsW_nil, OpsW_n, StepW, pok, pval, VA.ev, Env.get, Env.put, Env.keep, thenQ, binV, binOk, strV, Nat.succ_ne_self, List.length, Nat.reduceEqDiff, Nat.reduceLeDiff, ite_true, ite_false, true_and, Nat.zero_add]
  refine ⟨by omega, ?_⟩
  refine VW_ret ?_
  try simp only [Env.get, thenQ, blockQ, retQ, resV, resOk, RS.ev, RS.ok, ite_true, true_and, and_true]
  exact View.refl _ _
theorem sp_one_span (a b : Nat) (A B : Str) (ha : a < 100) (hb : b < 100) (hab : a ≠ b) (hA : Lib.decDigits a = A) (hB : Lib.decDigits b = B) (hl : A.length ≤ 10) (hm : B.length ≤ 10) : PCall Tryd.prog 42 [.agg (Sp.enc ⟨a, b + 1⟩)] (.str (A ++ [45] ++ B)) := by
  refine PCall_intro ?_ (cS _) (by simp only [ClosedL, List.mem_cons, List.not_mem_nil, or_false, forall_eq_or_imp, forall_eq, false_implies, implies_true]; repeat' (first | exact cI _ | exact cS _ | exact cB _ | exact closed_fn0 _ | exact closed_nilsl | exact closed_agg (Un.closed _) | exact closed_agg (It.closed _) | exact closed_agg (EI.closed _) | exact closed_agg (Ac.closed _) | exact closed_agg (Wd.closed _) | exact closed_agg (St.closed _) | exact closed_agg (Sta.closed _) | exact closed_eis _ | exact closed_acs _ | exact closed_strs _ | exact closed_map (fun w _ => Wd.closed w) | exact closed_map (fun w _ => St.closed w) | exact closed_map (fun w _ => Un.closed w) | exact closed_map (fun w _ => It.closed w) | exact closed_sc _ | exact closed_sps _ | exact closed_agg (Sp.closed _) | exact closed_ro (EI.closed _) | exact closed_ro (Sta.closed _) | exact closed_ro (It.closed _) | exact closed_ro (by simp only [List.mem_cons, List.not_mem_nil, or_false, forall_eq]; first | exact cI _ | exact cS _ | exact closed_eis _) | refine And.intro ?_ ?_))
  refine ACall_fn (vc := c_dateset_one) (ts := [.t 2]) Go.Proofs.Tryd.func42 (by kernel_rfl) rfl rfl (Nat.le_of_ble_eq_true rfl) (by kernel_rfl) ?_
  unfold c_dateset_one
  refine VW_seq (VW_region [1] ?_)
  simp only [OpsW_nil, OpsW_n, StepW, pok, pval, VA.ev, Env.get, Env.put, Env.keep, argEnv, thenQ, PV.cells, PV.fits, Heap.push, Heap.nil, Nat.succ_ne_self, List.length, Nat.reduceAdd, ite_true, ite_false, true_and, reduceCtorEq, BEq.rfl, Nat.zero_add, Sp.enc]
  refine VW_seq (VW_region [1, 3] ?_)
  simp only [OpsW_nil, OpsW_n, StepW, pok, pval, VA.ev, Env.get, Env.put, Env.keep, thenQ, aggV, faddrV, isAddr, locCells, locOk, PV.nth, PV.row, Heap.get, HL.get, Nat.succ_ne_self, List.map, List.length, List.getD_cons_zero, List.take, List.drop, List.take_succ_cons, Nat.reduceEqDiff, Nat.reduceAdd, Nat.reduceLT, Nat.reduceLeDiff, Bool.false_eq_true, ite_true, ite_false, true_and, and_true, implies_true, Nat.zero_add, Nat.add_zero, List.length_cons]
  refine ACall_p (sp_strconv_Itoa_small a ha) ?_
  rw [hA]
  try simp only [OpsW_nil, OpsW_n, OpsW_y, OpsW_xt, OpsW_xf, OpsW_u, StepW, guardOf, DrawW_nil, DrawW_n, DrawW_y, DrawW_xt, DrawW_xf, DrawW_u, DrawH, VOp.isIaddr, QW, dok, dval, VOp.pure, VOp.simple, VOp.det, pok, pval, VA.ev, Env.get, Env.put, Env.keep, argEnv, thenQ, blockQ, retQ, resV, resOk, RS.ev, RS.ok, gd, pickV, isBool, aggV, intV, binV, binOk, strV, binbV, boolV, binbOk, unV, unOk, convV, isInt, isStr, numOf, loV, hiV, lenV, boundOk, sliceV, sliceOk, faddrV, isAddr, locCells, locOk, cellsOfAgg, isAggP, iaddrV, iaddrOk, idxV, idxOk, lenOk, extV, extOk, fillV, fillOk, mmV, PV.cells, PV.fits, overlay, PV.nth, PV.row, lookV, mapRows, mapOk, keysOk, keyOk, keyEq, mapFind, mapPut, mapHas, mapsetV, Heap.get, Heap.set, Heap.del, Heap.le, HL.get, HL.set, HL.del, HL.le, Heap.push, Heap.nil, Nat.le_refl, Nat.add_eq_left, Nat.left_eq_add, Nat.succ_ne_self, Nat.one_ne_zero, Env.le, killed, oldId, oldRows, oldOk, srcRows, srcOk, elemsV, elemsOk, eqOk, ekOk, eqCells, eqCell, storeV, storeOk, AB.live, pxV, pxOk, fxV, fxOk, isPtr, slLike, isNil, notNil, List.map, List.set, List.replicate, List.length, List.getD_cons_zero, List.getD_cons_succ, List.getD_nil, List.take, List.drop, List.take_zero, List.drop_zero, List.take_succ_cons, List.drop_succ_cons, List.append, List.cons_append, List.nil_append, Option.map, Nat.reduceEqDiff, Nat.reduceAdd, Nat.reduceLT, Nat.reduceLeDiff, Nat.reduceSub, Nat.reduceMul, reduceIte, Bool.false_eq_true, Bool.true_eq_false, ite_true, ite_false, if_true, if_false, true_and, and_true, implies_true, forall_const, ne_eq, not_false_eq_true, reduceCtorEq, BEq.rfl, beq_self_eq_true, Option.some.injEq, Nat.zero_add, Nat.add_zero, List.length_cons, List.length_nil, true_implies, imp_self, Int.reduceToNat, Int.toNat_natCast, Bool.not_false, Bool.not_true]
  refine VW_seq ?_
  refine VW_block ?_
  refine VW_seq (VW_region [1, 3, 7] ?_)
  simp only [OpsW_nil, OpsW_n, StepW, pok, pval, VA.ev, Env.get, Env.put, Env.keep, thenQ, aggV, intV, binV, binOk, faddrV, isAddr, locCells, locOk, PV.nth, PV.row, Heap.get, HL.get, Nat.le_refl, Nat.succ_ne_self, List.length, List.getD_cons_zero, List.take, List.drop, List.take_succ_cons, List.drop_succ_cons, Nat.reduceEqDiff, Nat.reduceAdd, Nat.reduceLT, Nat.reduceLeDiff, Bool.false_eq_true, ite_true, ite_false, true_and, and_true, implies_true, Nat.zero_add, Nat.add_zero, List.length_cons, w64 (n := (b : Int) + 1 - a) (by omega) (by omega)]
  refine VW_cond rfl (fun h1 => by simp at h1; omega) (fun h1 => ?_)
  refine VW_seq (VW_region [1, 3, 15] ?_)
  simp only [OpsW_nil, OpsW_n, StepW, pok, pval, VA.ev, Env.get, Env.put, Env.keep, thenQ, aggV, intV, binV, binOk, faddrV, isAddr, locCells, locOk, PV.nth, PV.row, Heap.get, HL.get, Nat.le_refl, Nat.succ_ne_self, List.length, List.getD_cons_zero, List.take, List.drop, List.take_succ_cons, List.drop_succ_cons, Nat.reduceEqDiff, Nat.reduceLT, Bool.false_eq_true, ite_true, ite_false, true_and, and_true, implies_true, Nat.zero_add, List.length_cons]
  refine VW_cond rfl (fun h2 => by simp at h2; omega) (fun h2 => ?_)
  refine VW_skip ?_
  try simp only [thenQ, blockQ]
  have e1 : IntKind.i64.wrap ((b : Int) + 1 - 1) = (b : Int) := by rw [w64 (by omega) (by omega)]; omega
  refine VW_seq (VW_region [2] ?_)
  simp only [OpsW_nil, OpsW_n, StepW, pok, pval, VA.ev, Env.get, Env.put, Env.keep, thenQ, aggV, intV, binV, binOk, strV, faddrV, isAddr, locCells, locOk, PV.nth, PV.row, Heap.get, HL.get, Nat.le_refl, Nat.succ_ne_self, List.map, List.length, List.getD_cons_zero, List.take, List.drop, List.take_succ_cons, List.drop_succ_cons, Nat.reduceEqDiff, Nat.reduceLT, Nat.reduceLeDiff, Bool.false_eq_true, ite_true, ite_false, true_and, and_true, implies_true, Nat.zero_add, List.length_cons, e1]
  refine ⟨by omega, ?_⟩
  refine ACall_p (sp_strconv_Itoa_small b hb) ?_
  rw [hB]
  try simp only [List.length, Nat.zero_add, List.length_append]
  refine ⟨by omega, ?_⟩
  refine VW_ret ?_
  try simp only [Env.get, retQ, resV, resOk, RS.ev, RS.ok, ite_true, true_and, and_true]
  exact View.refl _ _
def never : Str := [110, 101, 118, 101, 114]
def fmtS (f : Sp → Str) (c : List Sp) : Str := if c = [] then never else Lib.join (c.map f) [44]
theorem sp_dateset_Format_by (l : List Sp) (f : Sp → Str) (hl : l.length ≤ 10000) (hf : ∀ s ∈ normS l, PCall Tryd.prog 42 [.agg s.enc] (.str (f s))) (hlen : (Lib.join ((normS l).map f) [44]).length ≤ 140737488355328) :
    PCall Tryd.prog 31 [.sl 2 (l.map Sp.enc)] (.str (fmtS f (normS l))) := by
  have hn := norm_len l
  have hN := norm_ok l (by omega)
  generalize normS l = c at hf hlen hn hN ⊢
  refine PCall_intro ?_ (cS _) (by simp only [ClosedL, List.mem_cons, List.not_mem_nil, or_false, forall_eq_or_imp, forall_eq, false_implies, implies_true]; repeat' (first | exact cI _ | exact cS _ | exact cB _ | exact closed_fn0 _ | exact closed_nilsl | exact closed_agg (Un.closed _) | exact closed_agg (It.closed _) | exact closed_agg (EI.closed _) | exact closed_agg (Ac.closed _) | exact closed_agg (Wd.closed _) | exact closed_agg (St.closed _) | exact closed_agg (Sta.closed _) | exact closed_eis _ | exact closed_acs _ | exact closed_strs _ | exact closed_map (fun w _ => Wd.closed w) | exact closed_map (fun w _ => St.closed w) | exact closed_map (fun w _ => Un.closed w) | exact closed_map (fun w _ => It.closed w) | exact closed_sc _ | exact closed_sps _ | exact closed_agg (Sp.closed _) | exact closed_ro (EI.closed _) | exact closed_ro (Sta.closed _) | exact closed_ro (It.closed _) | exact closed_ro (by simp only [List.mem_cons, List.not_mem_nil, or_false, forall_eq]; first | exact cI _ | exact cS _ | exact closed_eis _) | refine And.intro ?_ ?_))
  refine ACall_fn (vc := c_dateset_Format) (ts := [.t 2]) Go.Proofs.Tryd.func31 (by kernel_rfl) rfl rfl (Nat.le_of_ble_eq_true rfl) (by kernel_rfl) ?_
  unfold c_dateset_Format
  refine VW_seq (VW_region [0] ?_)
  simp only [OpsW_nil, OpsW_n, StepW, pok, pval, VA.ev, Env.get, Env.put, Env.keep, argEnv, thenQ, Heap.nil, ite_true, ite_false, true_and, reduceCtorEq]
  refine VW_seq (VW_region [0, 3] ?_)
  simp only [OpsW_nil, OpsW_n, StepW, pok, pval, VA.ev, Env.get, Env.put, Env.keep, thenQ, ite_true, ite_false, true_and, reduceCtorEq]
  refine VW_own0 3 1 rfl ?_
  try simp only [Env.put, Heap.push, Nat.zero_add]
  refine VW_seq ?_
  refine VW_seq (VW_region [3, 7, 8, 9] ?_)
  simp only [OpsW_nil, OpsW_n, StepW, pok, pval, VA.ev, Env.get, Env.put, Env.keep, thenQ, lenV, lenOk, Nat.succ_ne_self, List.map, Nat.reduceEqDiff, Bool.false_eq_true, ite_true, ite_false, true_and, reduceCtorEq]
  refine ACall_p hN ?_
  try simp only [true_and, List.length_map]
  refine VW_block ?_
  refine VW_loop (σ := { s : Nat × Nat × Nat // s.1 ≤ c.length ∧ s.2.1 < s.2.2 }) (fun s => ([(3, .own s.1.2.1 0 s.1.1), (7, .sl 2 (c.map Sp.enc)), (8, pI c.length), (9, pI s.1.1)], ⟨[(s.1.2.1, .arr false 1 ((c.take s.1.1).map fun s => [PV.str (f s)]))], s.1.2.2⟩)) (fun s => c.length - s.1.1) ⟨(0, 0, 1), by simp⟩ ?_ ?_ ?_
  · simp only [Env.get, Nat.succ_ne_self, Env.le, Nat.reduceEqDiff, ite_true, ite_false, true_and, and_true]
    rfl
  · simp only [Heap.get, Heap.le, HL.get, HL.le, Nat.le_refl, List.map, List.take, ite_true, and_true]
    try rfl
  rintro ⟨⟨k, id, n⟩, hk, hid⟩
  simp only [] at hk hid ⊢
  have qi0 : (id = n) = False := by simp; omega
  have qi1 : (n = id) = False := by simp; omega
  have qi2 : ∀ j, (n + j = id) = False := fun j => by simp; try omega
  have qi3 : ∀ j, (id = n + j) = False := fun j => by simp; try omega
  have qi4 : ∀ j, (n + (j + 1) = n) = False := fun j => by simp; try omega
  have qi5 : ∀ j, (n = n + (j + 1)) = False := fun j => by simp; try omega
  have qi6 : (n + 1 + 1 = n) = False := by simp; try omega
  have qi7 : (n = n + 1 + 1) = False := by simp; try omega
  have qi8 : (n + 1 + 1 + 1 = n) = False := by simp; try omega
  have qi9 : (n = n + 1 + 1 + 1) = False := by simp; try omega
  refine VW_seq (VW_region [3, 7, 8, 9, 10] ?_)
  simp only [OpsW_nil, OpsW_n, StepW, pok, pval, VA.ev, Env.get, Env.put, Env.keep, thenQ, intV, binV, binOk, Heap.get, Heap.le, HL.le, Nat.succ_ne_self, Env.le, Nat.reduceEqDiff, ite_true, ite_false, true_and, and_true]
  refine VW_seq ?_
  refine VW_cond rfl (fun h1 => ?_) (fun h1 => ?_)
  · refine VW_skip ?_
    try simp only [thenQ]
    simp only [decide_eq_true_eq] at h1
    have ka : k < c.length := by omega
    have hst : (c.take (k + 1)).map (fun s => [PV.str (f s)]) = (c.take k).map (fun s => [PV.str (f s)]) ++ [[PV.str (f c[k])]] := by
      rw [List.take_add_one, List.getElem?_eq_getElem ka, List.map_append]; rfl
    have hB : ((c.take k).map fun s => [PV.str (f s)]).length = k := by simp; omega
    generalize (c.take k).map (fun s => [PV.str (f s)]) = B at hst hB ⊢
    have tk : List.take k B = B := List.take_of_length_le (by omega)
    have hone := hf c[k] (List.getElem_mem ka)
    unfold Sp.enc at hone
    refine VW_seq ?_
    refine VW_block ?_
    refine VW_seq (VW_region [3, 5, 7, 8, 9] ?_)
    simp only [OpsW_nil, OpsW_n, StepW, pok, pval, VA.ev, Env.get, Env.put, Env.keep, thenQ, aggV, isInt, numOf, lenV, locCells, locOk, iaddrV, iaddrOk, PV.cells, PV.fits, overlay, PV.nth, PV.row, Heap.get, Heap.set, HL.get, HL.set, HL.del, Heap.push, Nat.le_refl, Nat.succ_ne_self, storeV, storeOk, List.set, List.length, List.getD_cons_zero, List.take, List.drop, List.take_succ_cons, List.drop_succ_cons, List.cons_append, List.nil_append, Nat.reduceEqDiff, Nat.reduceAdd, Nat.reduceLT, Bool.true_eq_false, ite_true, ite_false, true_and, and_true, BEq.rfl, Nat.zero_add, List.length_cons, imp_self, Int.toNat_natCast, List.length_map, rowm ka, Sp.enc, qi0, qi1, qi2, qi3, qi4, qi5, qi6, qi7, qi8, qi9]
    repeat (with_reducible refine And.intro ?_ ?_; first | omega | (with_reducible constructor <;> omega) | exact False.elim | exact True.intro)
    refine VW_region [3, 7, 8, 9] ?_
    simp only [OpsW_nil, OpsW_n, StepW, pok, pval, VA.ev, Env.get, Env.put, Env.keep, thenQ, blockQ, aggV, locCells, locOk, PV.cells, PV.fits, PV.nth, PV.row, Heap.get, Heap.del, HL.get, HL.del, Heap.push, Nat.le_refl, Nat.succ_ne_self, killed, oldId, oldRows, oldOk, srcRows, srcOk, elemsV, elemsOk, List.map, List.set, List.replicate, List.length, List.getD_cons_zero, List.take, List.drop, List.take_succ_cons, Nat.reduceEqDiff, Nat.reduceAdd, Nat.reduceLT, Nat.reduceLeDiff, Bool.true_eq_false, ite_true, ite_false, true_and, and_true, BEq.rfl, Nat.zero_add, List.length_cons, imp_self, qi0, qi1, qi2, qi3, qi4, qi5, qi6, qi7, qi8, qi9]
    refine ACall_p hone ?_
    try simp only [HL.get, HL.del, Nat.le_refl, ite_true, ite_false, true_and, and_true, tk, hB, qi0, qi1, qi2, qi3, qi4, qi5, qi6, qi7, qi8, qi9]
    refine ⟨by omega, by omega, ?_⟩
    refine VW_region [3, 7, 8, 9] ?_
    simp only [OpsW_nil, OpsW_n, StepW, pok, pval, VA.ev, Env.get, Env.put, Env.keep, thenQ, intV, binV, binOk, HL.get, Nat.succ_ne_self, Nat.reduceEqDiff, ite_true, ite_false, true_and, qi0, qi1, qi2, qi3, qi4, qi5, qi6, qi7, qi8, qi9, w64 (n := (k : Int) + 1) (by omega) (by omega)]
    refine ⟨⟨(k + 1, n + 2, n + 3), by simp only []; omega, by simp only []; omega⟩, ?_, ?_, ?_⟩
    · simp
    · rw [hst]; simp
    · simp only []; omega
  · simp only [decide_eq_false_iff_not] at h1
    obtain rfl : k = c.length := by omega
    rw [List.take_length]
    refine VW_exit ?_
    try simp only [thenQ, blockQ, retQ, ite_true]
    refine VW_seq ?_
    refine VW_seq (VW_region [3, 21] ?_)
    simp only [OpsW_nil, OpsW_n, StepW, pok, pval, VA.ev, Env.get, Env.put, Env.keep, thenQ, intV, binV, binOk, lenV, lenOk, Nat.reduceEqDiff, ite_true, ite_false, true_and, qi0, qi1, qi2, qi3, qi4, qi5, qi6, qi7, qi8, qi9]
    refine VW_cond rfl (fun h2 => ?_) (fun h2 => ?_)
    · refine VW_seq (VW_region [2] ?_)
      simp only [OpsW_nil, OpsW_n, StepW, pok, pval, VA.ev, Env.get, Env.put, Env.keep, thenQ, Nat.succ_ne_self, Nat.reduceEqDiff, ite_true, ite_false, true_and]
      refine VW_ret ?_
      try simp only [Env.get, thenQ, retQ, resV, resOk, RS.ev, RS.ok, ite_true, true_and, and_true]
      have e : c = [] := by simpa using h2
      have e2 : fmtS f c = never := if_pos e
      rw [e2]
      exact View.refl _ _
    refine VW_skip ?_
    try simp only [thenQ]
    have e2 : fmtS f c = Lib.join (c.map f) [44] := if_neg (by rintro rfl; simp at h2)
    rw [e2]
    refine VW_seq (VW_region [2] ?_)
    simp only [OpsW_nil, OpsW_n, StepW, pok, pval, VA.ev, Env.get, Env.put, Env.keep, thenQ, Nat.succ_ne_self, List.map, Nat.reduceEqDiff, ite_true, ite_false, true_and, qi0, qi1, qi2, qi3, qi4, qi5, qi6, qi7, qi8, qi9]
    refine ACall_v [It.strs (c.map f), .str [44]] ⟨?_, View.refl _ _, trivial⟩ (sp_strings_Join (c.map f) [44] (by simp; omega) hlen) (scalar_str _) ?_
    · have hv := View.own_all (h := ⟨[(id, .arr false 1 (c.map fun s => [PV.str (f s)]))], n⟩) (id := id) (z := 1) (n := c.length) (fz := false) (es := c.map fun s => [PV.str (f s)]) (by simp [Heap.get, HL.get]) (by simp)
      have e3 : It.strs (c.map f) = .sl 1 (c.map fun s => [PV.str (f s)]) := by simp [It.strs]
      rw [e3]
      exact hv
    try simp only [OpsW_nil, OpsW_n, OpsW_y, OpsW_xt, OpsW_xf, OpsW_u, StepW, guardOf, DrawW_nil, DrawW_n, DrawW_y, DrawW_xt, DrawW_xf, DrawW_u, DrawH, VOp.isIaddr, QW, dok, dval, VOp.pure, VOp.simple, VOp.det, pok, pval, VA.ev, Env.get, Env.put, Env.keep, argEnv, thenQ, blockQ, retQ, resV, resOk, RS.ev, RS.ok, gd, pickV, isBool, aggV, intV, binV, binOk, strV, binbV, boolV, binbOk, unV, unOk, convV, isInt, isStr, numOf, loV, hiV, lenV, boundOk, sliceV, sliceOk, faddrV, isAddr, locCells, locOk, cellsOfAgg, isAggP, iaddrV, iaddrOk, idxV, idxOk, lenOk, extV, extOk, fillV, fillOk, mmV, PV.cells, PV.fits, overlay, PV.nth, PV.row, lookV, mapRows, mapOk, keysOk, keyOk, keyEq, mapFind, mapPut, mapHas, mapsetV, Heap.get, Heap.set, Heap.del, Heap.le, HL.get, HL.set, HL.del, HL.le, Heap.push, Heap.nil, Nat.le_refl, Nat.add_eq_left, Nat.left_eq_add, Nat.succ_ne_self, Nat.one_ne_zero, Env.le, killed, oldId, oldRows, oldOk, srcRows, srcOk, elemsV, elemsOk, eqOk, ekOk, eqCells, eqCell, storeV, storeOk, AB.live, pxV, pxOk, fxV, fxOk, isPtr, slLike, isNil, notNil, List.map, List.set, List.replicate, List.length, List.getD_cons_zero, List.getD_cons_succ, List.getD_nil, List.take, List.drop, List.take_zero, List.drop_zero, List.take_succ_cons, List.drop_succ_cons, List.append, List.cons_append, List.nil_append, Option.map, Nat.reduceEqDiff, Nat.reduceAdd, Nat.reduceLT, Nat.reduceLeDiff, Nat.reduceSub, Nat.reduceMul, reduceIte, Bool.false_eq_true, Bool.true_eq_false, ite_true, ite_false, if_true, if_false, true_and, and_true, implies_true, forall_const, ne_eq, not_false_eq_true, reduceCtorEq, BEq.rfl, beq_self_eq_true, Option.some.injEq, Nat.zero_add, Nat.add_zero, List.length_cons, List.length_nil, true_implies, imp_self, Int.reduceToNat, Int.toNat_natCast, Bool.not_false, Bool.not_true]
    refine VW_ret ?_
    try simp only [Env.get, retQ, resV, resOk, RS.ev, RS.ok, ite_true, true_and, and_true]
    exact View.refl _ _
theorem norm1 : normS [⟨5, 9⟩, ⟨7, 12⟩, ⟨20, 20⟩] = [⟨5, 12⟩] := norm_eq (c := [⟨5, 12⟩]) (by simp [Canon, CanonF, forever]) fun d => by
  simp only [memS_cons, memS_nil, or_false, validD, forever]
  omega
theorem ext1 : extendS [⟨5, 9⟩, ⟨7, 12⟩, ⟨20, 20⟩] 8 = [⟨5, 1048577⟩] := by
  obtain ⟨h1, h2⟩ := extend_spec [⟨5, 9⟩, ⟨7, 12⟩, ⟨20, 20⟩] 8
  refine CanonF.unique h1 (by simp [CanonF, forever]) fun d => ?_
  rw [h2]
  simp only [memS_cons, memS_nil, or_false, validD, forever]
  omega
theorem trunc1 : truncS [⟨5, 9⟩, ⟨7, 12⟩, ⟨20, 20⟩] 8 = [⟨5, 8⟩] := by
  obtain ⟨h1, h2⟩ := trunc_spec [⟨5, 9⟩, ⟨7, 12⟩, ⟨20, 20⟩] 8
  refine CanonF.unique h1 (by simp [CanonF, forever]) fun d => ?_
  rw [h2]
  simp only [memS_cons, memS_nil, or_false, validD, forever]
  omega
theorem fmt_one (l : List Sp) (s : Sp) (T : Str) (hl : l.length ≤ 10000) (hn : normS l = [s]) (h1 : PCall Tryd.prog 42 [.agg s.enc] (.str T)) (hT : T.length ≤ 100) : PCall Tryd.prog 31 [.sl 2 (l.map Sp.enc)] (.str T) := by
  have h := sp_dateset_Format_by l (fun _ => T) hl (by rw [hn]; intro x hx; rw [List.mem_singleton] at hx; subst hx; exact h1) (by rw [hn]; simp [Lib.join, List.intercalate]; omega)
  have e : fmtS (fun _ => T) (normS l) = T := by
    rw [hn]
    simp [fmtS, Lib.join, List.intercalate]
  rw [e] at h
  exact h
def ex3 : List Sp := [⟨5, 9⟩, ⟨7, 12⟩, ⟨20, 20⟩]
theorem awake : PCall Tryd.prog 9 [] (.bool true) := by
  have d5 : Lib.decDigits 5 = [53] := by kernel_rfl
  have d11 : Lib.decDigits 11 = [49, 49] := by kernel_rfl
  have d7 : Lib.decDigits 7 = [55] := by kernel_rfl
  have f1 := fmt_one ex3 ⟨5, 12⟩ [53, 45, 49, 49] (by decide) norm1 (sp_one_span 5 11 [53] [49, 49] (by omega) (by omega) (by omega) d5 d11 (by decide) (by decide)) (by decide)
  have n2 : normS [⟨5, 1048577⟩] = [⟨5, 1048577⟩] := norm_self (by simp [Canon, CanonF, forever])
  have n3 : normS [⟨5, 8⟩] = [⟨5, 8⟩] := norm_self (by simp [Canon, CanonF, forever])
  have f2 := fmt_one [⟨5, 1048577⟩] ⟨5, 1048577⟩ [53, 43] (by simp) n2 (sp_one_open 5 [53] (by omega) d5 (by decide)) (by decide)
  have f3 := fmt_one [⟨5, 8⟩] ⟨5, 8⟩ [53, 45, 55] (by simp) n3 (sp_one_span 5 7 [53] [55] (by omega) (by omega) (by omega) d5 d7 (by decide) (by decide)) (by decide)
  have hN := norm_ok ex3 (by decide)
  have hE := sp_dateset_ExtendFrom ex3 8 (by decide) (by have := trunc1; unfold ex3; rw [this]; simp)
  have hT := sp_dateset_Truncate ex3 8 (by decide)
  have hV := sp_dateset_Valid [⟨5, 12⟩] (by simp)
  have v1 : validB [⟨5, 12⟩] = true := by decide
  unfold ex3 at f1 hN hE hT
  rw [norm1] at hN
  rw [ext1] at hE
  rw [trunc1] at hT
  rw [v1] at hV
  refine PCall_intro ?_ (cB _) (by simp only [ClosedL, List.mem_cons, List.not_mem_nil, or_false, forall_eq_or_imp, forall_eq, false_implies, implies_true]; repeat' (first | exact cI _ | exact cS _ | exact cB _ | exact closed_fn0 _ | exact closed_nilsl | exact closed_agg (Un.closed _) | exact closed_agg (It.closed _) | exact closed_agg (EI.closed _) | exact closed_agg (Ac.closed _) | exact closed_agg (Wd.closed _) | exact closed_agg (St.closed _) | exact closed_agg (Sta.closed _) | exact closed_eis _ | exact closed_acs _ | exact closed_strs _ | exact closed_map (fun w _ => Wd.closed w) | exact closed_map (fun w _ => St.closed w) | exact closed_map (fun w _ => Un.closed w) | exact closed_map (fun w _ => It.closed w) | exact closed_sc _ | exact closed_sps _ | exact closed_agg (Sp.closed _) | exact closed_ro (EI.closed _) | exact closed_ro (Sta.closed _) | exact closed_ro (It.closed _) | exact closed_ro (by simp only [List.mem_cons, List.not_mem_nil, or_false, forall_eq]; first | exact cI _ | exact cS _ | exact closed_eis _) | refine And.intro ?_ ?_))
  refine ACall_fn (vc := c_pandectlaw02_awake) (ts := [.t 0]) Go.Proofs.Tryd.func9 (by kernel_rfl) rfl rfl (Nat.le_of_ble_eq_true rfl) (by kernel_rfl) ?_
  unfold c_pandectlaw02_awake
  refine VW_seq (VW_region [] ?_)
  simp only [OpsW_nil, OpsW_n, StepW, pok, pval, VA.ev, Env.put, Env.keep, argEnv, thenQ, Heap.nil, true_and]
  refine VW_seq (VW_region [1] ?_)
  simp only [OpsW_nil, OpsW_n, StepW, pok, pval, VA.ev, Env.get, Env.put, Env.keep, thenQ, fillV, fillOk, PV.cells, PV.fits, overlay, Heap.push, Nat.le_refl, Nat.succ_ne_self, elemsV, elemsOk, List.set, List.replicate, List.length, List.take, List.drop, List.take_succ_cons, List.drop_succ_cons, List.cons_append, List.nil_append, Nat.reduceEqDiff, Nat.reduceAdd, Nat.reduceLT, Nat.reduceLeDiff, ite_true, ite_false, true_and, and_true, BEq.rfl, Nat.zero_add, List.length_cons]
  refine VW_freeze [(1, .sl 2 (List.map Sp.enc [⟨5, 9⟩, ⟨7, 12⟩, ⟨20, 20⟩]))] ⟨View.own_all (fz := false) rfl rfl, trivial⟩ ?_
  try simp only [List.map]
  refine VW_seq (VW_region [0] ?_)
  simp only [OpsW_n, StepW, pok, pval, VA.ev, Env.get, Env.put, Env.keep, thenQ, fillV, fillOk, PV.cells, PV.fits, overlay, Heap.push, Nat.le_refl, Nat.succ_ne_self, elemsV, elemsOk, List.map, List.set, List.replicate, List.length, List.take, List.drop, List.take_succ_cons, List.drop_succ_cons, List.cons_append, List.nil_append, Nat.reduceEqDiff, Nat.reduceAdd, Nat.reduceLT, Nat.reduceLeDiff, ite_true, ite_false, true_and, and_true, BEq.rfl, Nat.zero_add, List.length_cons]
  refine ACall_p hN ?_
  simp only [List.map, Nat.reduceAdd]
  refine ACall_f [.sl 2 (List.map Sp.enc [⟨5, 12⟩]), .sl 2 (List.map Sp.enc [⟨5, 12⟩])] ⟨View.refl _ _, View.own_all (fz := false) rfl rfl, trivial⟩ (ACall_p (sp_pandectref02_Same [⟨5, 12⟩] [⟨5, 12⟩] (by simp) (by simp)) ?_)
  try simp only [OpsW_n, OpsW_y, StepW, pok, pval, VA.ev, Env.get, Env.put, pickV, isBool, intV, binV, binOk, strV, Nat.succ_ne_self, List.map, Nat.reduceEqDiff, ite_true, ite_false, true_and, decide_true]
  refine ACall_p f1 ?_
  try simp only [OpsW_n, OpsW_y, StepW, pok, pval, VA.ev, Env.get, Env.put, pickV, isBool, intV, binV, binOk, strV, Nat.succ_ne_self, List.map, Nat.reduceEqDiff, ite_true, ite_false, true_and, BEq.rfl]
  refine ACall_p hE ?_
  try simp only [List.map]
  refine ACall_p f2 ?_
  try simp only [OpsW_n, OpsW_y, StepW, pok, pval, VA.ev, Env.get, Env.put, pickV, isBool, intV, binV, binOk, strV, Nat.succ_ne_self, List.map, Nat.reduceEqDiff, ite_true, ite_false, true_and, BEq.rfl]
  refine ACall_p hT ?_
  try simp only [List.map]
  refine ACall_p f3 ?_
  try simp only [OpsW_nil, OpsW_n, OpsW_y, StepW, pok, pval, VA.ev, Env.get, Env.put, pickV, isBool, Nat.succ_ne_self, List.map, Nat.reduceEqDiff, ite_true, ite_false, true_and, reduceCtorEq, BEq.rfl]
  refine ACall_p hN ?_
  try simp only [List.map]
  refine ACall_p hV ?_
  try simp only [OpsW_nil, OpsW_n, OpsW_y, OpsW_xt, OpsW_xf, OpsW_u, StepW, guardOf, DrawW_nil, DrawW_n, DrawW_y, DrawW_xt, DrawW_xf, DrawW_u, DrawH, VOp.isIaddr, QW, dok, dval, VOp.pure, VOp.simple, VOp.det, pok, pval, VA.ev, Env.get, Env.put, Env.keep, argEnv, thenQ, blockQ, retQ, resV, resOk, RS.ev, RS.ok, gd, pickV, isBool, aggV, intV, binV, binOk, strV, binbV, boolV, binbOk, unV, unOk, convV, isInt, isStr, numOf, loV, hiV, lenV, boundOk, sliceV, sliceOk, faddrV, isAddr, locCells, locOk, cellsOfAgg, isAggP, iaddrV, iaddrOk, idxV, idxOk, lenOk, extV, extOk, fillV, fillOk, mmV, PV.cells, PV.fits, overlay, PV.nth, PV.row, lookV, mapRows, mapOk, keysOk, keyOk, keyEq, mapFind, mapPut, mapHas, mapsetV, Heap.get, Heap.set, Heap.del, Heap.le, HL.get, HL.set, HL.del, HL.le, Heap.push, Heap.nil, Nat.le_refl, Nat.add_eq_left, Nat.left_eq_add, Nat.succ_ne_self, Nat.one_ne_zero, Env.le, killed, oldId, oldRows, oldOk, srcRows, srcOk, elemsV, elemsOk, eqOk, ekOk, eqCells, eqCell, storeV, storeOk, AB.live, pxV, pxOk, fxV, fxOk, isPtr, slLike, isNil, notNil, List.map, List.set, List.replicate, List.length, List.getD_cons_zero, List.getD_cons_succ, List.getD_nil, List.take, List.drop, List.take_zero, List.drop_zero, List.take_succ_cons, List.drop_succ_cons, List.append, List.cons_append, List.nil_append, Option.map, Nat.reduceEqDiff, Nat.reduceAdd, Nat.reduceLT, Nat.reduceLeDiff, Nat.reduceSub, Nat.reduceMul, reduceIte, Bool.false_eq_true, Bool.true_eq_false, ite_true, ite_false, if_true, if_false, true_and, and_true, implies_true, forall_const, ne_eq, not_false_eq_true, reduceCtorEq, BEq.rfl, beq_self_eq_true, Option.some.injEq, Nat.zero_add, Nat.add_zero, List.length_cons, List.length_nil, true_implies, imp_self, Int.reduceToNat, Int.toNat_natCast, Bool.not_false, Bool.not_true]
  refine VW_ret ?_
  try simp only [Env.get, retQ, resV, resOk, RS.ev, RS.ok, ite_true, true_and, and_true]
  exact View.refl _ _
end Go.Proofs.YtepmaobfbfbecaaDoor.w


namespace Go.Proofs.YtepmaobfbfbecaaDoor.w
open Go Go.VM
set_option maxRecDepth 20000
set_option maxHeartbeats 0
set_option pp.deepTerms false
def c_pandectlaw02_DatesetOperations : VC := (.seq (.region [⟨(some 4), (.mv (.c (.bool false))), none⟩] false) (.seq (.seq (.region [⟨(some 5), (.call 9 []), none⟩, ⟨(some 6), (.un .not (.t 5)), none⟩] false) (.cond (.t 6) (.seq (.region [⟨(some 4), (.mv (.c (.bool false))), none⟩] false) .ret) .skip)) (.seq (.seq (.region [⟨(some 7), (.mv (.t 0)), none⟩, ⟨(some 8), (.mv (.t 1)), none⟩, ⟨(some 9), (.bslice 1 2 [.nilsl] [(0, (.t 7)), (1, (.t 8))]), none⟩, ⟨(some 10), (.call 10 [(.t 9)]), none⟩, ⟨(some 11), (.un .not (.t 10)), none⟩] false) (.cond (.t 11) (.seq (.region [⟨(some 4), (.mv (.c (.bool true))), none⟩] false) .ret) .skip)) (.seq (.region [⟨(some 12), (.mv (.t 0)), none⟩, ⟨(some 13), (.mv (.t 1)), none⟩, ⟨(some 14), (.call 18 [(.t 12), (.t 13)]), none⟩, ⟨(some 15), (.mv (.t 0)), none⟩, ⟨(some 16), (.mv (.t 1)), none⟩, ⟨(some 17), (.call 19 [(.c (.int .i64 0)), (.t 15), (.t 16)]), none⟩, ⟨(some 18), (.call 13 [(.t 14), (.t 17)]), none⟩, ⟨(some 19), (.mv (.t 18)), none⟩, ⟨(some 20), (.mv (.t 0)), (some (19, true))⟩, ⟨(some 21), (.mv (.t 1)), (some (19, true))⟩, ⟨(some 22), (.call 20 [(.t 20), (.t 21)]), (some (19, true))⟩, ⟨(some 23), (.mv (.t 0)), (some (19, true))⟩, ⟨(some 24), (.mv (.t 1)), (some (19, true))⟩, ⟨(some 25), (.call 19 [(.c (.int .i64 1)), (.t 23), (.t 24)]), (some (19, true))⟩, ⟨(some 26), (.call 13 [(.t 22), (.t 25)]), (some (19, true))⟩, ⟨(some 27), (.pick (.t 19) (.t 26) (.c (.bool false))), none⟩, ⟨(some 28), (.mv (.t 27)), none⟩, ⟨(some 29), (.mv (.t 0)), (some (28, true))⟩, ⟨(some 30), (.mv (.t 1)), (some (28, true))⟩, ⟨(some 31), (.call 21 [(.t 29), (.t 30)]), (some (28, true))⟩, ⟨(some 32), (.mv (.t 0)), (some (28, true))⟩, ⟨(some 33), (.mv (.t 1)), (some (28, true))⟩, ⟨(some 34), (.call 19 [(.c (.int .i64 2)), (.t 32), (.t 33)]), (some (28, true))⟩, ⟨(some 35), (.call 13 [(.t 31), (.t 34)]), (some (28, true))⟩, ⟨(some 36), (.pick (.t 28) (.t 35) (.c (.bool false))), none⟩, ⟨(some 4), (.mv (.t 36)), none⟩] false) .ret))))
def c_pandectlaw02_DatesetBasics : VC := (.seq (.region [⟨(some 4), (.mv (.c (.bool false))), none⟩] false) (.seq (.seq (.region [⟨(some 5), (.call 9 []), none⟩, ⟨(some 6), (.un .not (.t 5)), none⟩] false) (.cond (.t 6) (.seq (.region [⟨(some 4), (.mv (.c (.bool false))), none⟩] false) .ret) .skip)) (.seq (.seq (.region [⟨(some 7), (.mv (.t 0)), none⟩, ⟨(some 8), (.bslice 1 1 [.nilsl] [(0, (.t 7))]), none⟩, ⟨(some 9), (.call 10 [(.t 8)]), none⟩, ⟨(some 10), (.un .not (.t 9)), none⟩] false) (.cond (.t 10) (.seq (.region [⟨(some 4), (.mv (.c (.bool true))), none⟩] false) .ret) .skip)) (.seq (.region [⟨(some 11), (.mv (.t 0)), none⟩, ⟨(some 12), (.call 16 [(.t 11)]), none⟩, ⟨(some 13), (.mv (.t 0)), none⟩, ⟨(some 14), (.call 25 [(.t 13)]), none⟩, ⟨(some 15), (.binb .eql (.t 12) (.t 14)), none⟩, ⟨(some 16), (.mv (.t 15)), none⟩, ⟨(some 17), (.mv (.t 0)), (some (16, true))⟩, ⟨(some 18), (.call 22 [(.t 17)]), (some (16, true))⟩, ⟨(some 19), (.mv (.t 0)), (some (16, true))⟩, ⟨(some 20), (.call 26 [(.t 19)]), (some (16, true))⟩, ⟨(some 21), (.call 13 [(.t 18), (.t 20)]), (some (16, true))⟩, ⟨(some 22), (.pick (.t 16) (.t 21) (.c (.bool false))), none⟩, ⟨(some 23), (.mv (.t 22)), none⟩, ⟨(some 24), (.mv (.t 0)), (some (23, true))⟩, ⟨(some 25), (.mv (.t 1)), (some (23, true))⟩, ⟨(some 26), (.call 17 [(.t 24), (.t 25)]), (some (23, true))⟩, ⟨(some 27), (.mv (.t 0)), (some (23, true))⟩, ⟨(some 28), (.mv (.t 1)), (some (23, true))⟩, ⟨(some 29), (.call 27 [(.t 27), (.t 28)]), (some (23, true))⟩, ⟨(some 30), (.binb .eql (.t 26) (.t 29)), (some (23, true))⟩, ⟨(some 31), (.pick (.t 23) (.t 30) (.c (.bool false))), none⟩, ⟨(some 32), (.mv (.t 31)), none⟩, ⟨(some 33), (.mv (.t 0)), (some (32, true))⟩, ⟨(some 34), (.call 23 [(.t 33)]), (some (32, true))⟩, ⟨(some 35), (.mv (.t 0)), (some (32, true))⟩, ⟨(some 36), (.call 28 [(.t 35)]), (some (32, true))⟩, ⟨(some 37), (.bin .eql (.t 34) (.t 36)), (some (32, true))⟩, ⟨(some 38), (.pick (.t 32) (.t 37) (.c (.bool false))), none⟩, ⟨(some 39), (.mv (.t 38)), none⟩, ⟨(some 40), (.mv (.t 0)), (some (39, true))⟩, ⟨(some 41), (.call 24 [(.t 40)]), (some (39, true))⟩, ⟨(some 42), (.mv (.t 0)), (some (39, true))⟩, ⟨(some 43), (.call 30 [(.t 42)]), (some (39, true))⟩, ⟨(some 44), (.call 29 [(.t 41), (.t 43)]), (some (39, true))⟩, ⟨(some 45), (.pick (.t 39) (.t 44) (.c (.bool false))), none⟩, ⟨(some 4), (.mv (.t 45)), none⟩] false) .ret))))
theorem few_call (ls : List (List Sp)) (hl : ls.length ≤ 3) (ht : ∀ l ∈ ls, l.length ≤ 10000000000000) {h : Heap} {id n : Nat} {es : List (List PV)} (hg : h.get id = some (.arr false 1 es)) (he : es = ls.map encLL) (hn : n = ls.length) {K : PV → Heap → Prop} (hK : K (.bool (decide (total ls ≤ 60))) h) : ACall Tryd.prog 10 [.own id 0 n] h K := by
  subst he
  exact ACall_v [.sl 1 (ls.map encLL)] ⟨View.own_all hg (by simpa using hn), trivial⟩ (sp_pandectlaw02_few ls hl ht) (scalar_bool _) hK
theorem law_DatesetOperations (a b : List Sp) (_ : okL Sp.ok a) (_ : okL Sp.ok b) (za : a.length * 16 ≤ 140737488351232) (zb : b.length * 16 ≤ 140737488351232) :
    PCall Tryd.prog 4 [.sl 2 (a.map Sp.enc), .sl 2 (b.map Sp.enc)] (.bool true) := by
  refine PCall_intro ?_ (cB _) (by simp only [ClosedL, List.mem_cons, List.not_mem_nil, or_false, forall_eq_or_imp, forall_eq, false_implies, implies_true]; repeat' (first | exact cI _ | exact cS _ | exact cB _ | exact closed_fn0 _ | exact closed_nilsl | exact closed_agg (Un.closed _) | exact closed_agg (It.closed _) | exact closed_agg (EI.closed _) | exact closed_agg (Ac.closed _) | exact closed_agg (Wd.closed _) | exact closed_agg (St.closed _) | exact closed_agg (Sta.closed _) | exact closed_eis _ | exact closed_acs _ | exact closed_strs _ | exact closed_map (fun w _ => Wd.closed w) | exact closed_map (fun w _ => St.closed w) | exact closed_map (fun w _ => Un.closed w) | exact closed_map (fun w _ => It.closed w) | exact closed_sc _ | exact closed_sps _ | exact closed_agg (Sp.closed _) | exact closed_ro (EI.closed _) | exact closed_ro (Sta.closed _) | exact closed_ro (It.closed _) | exact closed_ro (by simp only [List.mem_cons, List.not_mem_nil, or_false, forall_eq]; first | exact cI _ | exact cS _ | exact closed_eis _) | refine And.intro ?_ ?_))
  refine ACall_fn (vc := c_pandectlaw02_DatesetOperations) (ts := [.t 4]) Go.Proofs.Tryd.func4 (by kernel_rfl) rfl rfl (Nat.le_of_ble_eq_true rfl) (by kernel_rfl) ?_
  unfold c_pandectlaw02_DatesetOperations
  refine VW_seq (VW_region [0, 1] ?_)
  simp only [OpsW_nil, OpsW_n, StepW, pok, pval, VA.ev, Env.get, Env.put, Env.keep, argEnv, thenQ, Heap.nil, Nat.succ_ne_self, Nat.reduceEqDiff, ite_true, ite_false, true_and, reduceCtorEq, Nat.zero_add]
  refine VW_seq ?_
  refine VW_seq (VW_region [0, 1, 6] ?_)
  simp only [OpsW_nil, OpsW_n, StepW, pok, pval, VA.ev, Env.get, Env.put, Env.keep, thenQ, unV, unOk, Nat.succ_ne_self, List.map, Nat.reduceEqDiff, ite_true, ite_false, reduceCtorEq]
  refine ACall_p awake ?_
  simp only [true_and, Bool.not_true]
  refine VW_cond rfl (fun h1 => by cases h1) (fun _ => ?_)
  refine VW_skip ?_
  try simp only [thenQ]
  refine VW_seq ?_
  refine VW_seq (VW_region [0, 1, 11] ?_)
  simp only [OpsW_nil, OpsW_n, StepW, pok, pval, VA.ev, Env.get, Env.put, Env.keep, thenQ, unV, unOk, PV.cells, PV.fits, Heap.push, Nat.succ_ne_self, elemsV, elemsOk, List.map, List.set, List.replicate, Nat.reduceEqDiff, Nat.reduceLT, ite_true, ite_false, true_and, and_true, reduceCtorEq, BEq.rfl, Nat.zero_add]
  refine few_call [a, b] (by simp) (by intro l hl; simp at hl; rcases hl with rfl | rfl <;> omega) rfl rfl rfl ?_
  try simp only [true_and]
  refine VW_cond rfl (fun h2 => ?_) (fun h2 => ?_)
  · refine VW_seq (VW_region [4] ?_)
    simp only [OpsW_nil, OpsW_n, StepW, pok, pval, VA.ev, Env.get, Env.put, Env.keep, thenQ, Nat.reduceEqDiff, ite_true, ite_false, true_and, reduceCtorEq]
    refine VW_ret ?_
    try simp only [Env.get, thenQ, retQ, resV, resOk, RS.ev, RS.ok, ite_true, true_and, and_true]
    exact View.refl _ _
  have ht : total [a, b] ≤ 60 := by simpa using h2
  have ht' : a.length + b.length ≤ 60 := by simpa [total] using ht
  have b1 := both_same ctOr rfl a b
  have b2 := both_same ctAnd rfl a b
  have b3 := both_same ctSub rfl a b
  have l1 := both_len ctOr a b
  have l2 := both_len ctAnd a b
  have l3 := both_len ctSub a b
  refine VW_skip ?_
  try simp only [thenQ]
  refine VW_seq (VW_region [4] ?_)
  simp only [OpsW_n, StepW, pok, pval, VA.ev, Env.get, Env.put, Env.keep, thenQ, Nat.succ_ne_self, List.map, Nat.reduceEqDiff, ite_true, ite_false, true_and, reduceCtorEq]
  refine ACall_p (sp_dateset_Union a b (by omega) (by omega)) ?_
  try simp only [OpsW_nil, OpsW_n, OpsW_y, OpsW_xt, OpsW_xf, OpsW_u, StepW, guardOf, DrawW_nil, DrawW_n, DrawW_y, DrawW_xt, DrawW_xf, DrawW_u, DrawH, VOp.isIaddr, QW, dok, dval, VOp.pure, VOp.simple, VOp.det, pok, pval, VA.ev, Env.get, Env.put, Env.keep, argEnv, thenQ, blockQ, retQ, resV, resOk, RS.ev, RS.ok, gd, pickV, isBool, aggV, intV, binV, binOk, strV, binbV, boolV, binbOk, unV, unOk, convV, isInt, isStr, numOf, loV, hiV, lenV, boundOk, sliceV, sliceOk, faddrV, isAddr, locCells, locOk, cellsOfAgg, isAggP, iaddrV, iaddrOk, idxV, idxOk, lenOk, extV, extOk, fillV, fillOk, mmV, PV.cells, PV.fits, overlay, PV.nth, PV.row, lookV, mapRows, mapOk, keysOk, keyOk, keyEq, mapFind, mapPut, mapHas, mapsetV, Heap.get, Heap.set, Heap.del, Heap.le, HL.get, HL.set, HL.del, HL.le, Heap.push, Heap.nil, Nat.le_refl, Nat.add_eq_left, Nat.left_eq_add, Nat.succ_ne_self, Nat.one_ne_zero, Env.le, killed, oldId, oldRows, oldOk, srcRows, srcOk, elemsV, elemsOk, eqOk, ekOk, eqCells, eqCell, storeV, storeOk, AB.live, pxV, pxOk, fxV, fxOk, isPtr, slLike, isNil, notNil, List.map, List.set, List.replicate, List.length, List.getD_cons_zero, List.getD_cons_succ, List.getD_nil, List.take, List.drop, List.take_zero, List.drop_zero, List.take_succ_cons, List.drop_succ_cons, List.append, List.cons_append, List.nil_append, Option.map, Nat.reduceEqDiff, Nat.reduceAdd, Nat.reduceLT, Nat.reduceLeDiff, Nat.reduceSub, Nat.reduceMul, reduceIte, Bool.false_eq_true, Bool.true_eq_false, ite_true, ite_false, if_true, if_false, true_and, and_true, implies_true, forall_const, ne_eq, not_false_eq_true, reduceCtorEq, BEq.rfl, beq_self_eq_true, Option.some.injEq, Nat.zero_add, Nat.add_zero, List.length_cons, List.length_nil, true_implies, imp_self, Int.reduceToNat, Int.toNat_natCast, Bool.not_false, Bool.not_true]
  refine ACall_p (sp_pandectref02_Both 0 a b (by omega) (by omega)) ?_
  have c0 : ctOf 0 = ctOr := rfl
  have c1 : ctOf 1 = ctAnd := rfl
  have c2 : ctOf 2 = ctSub := rfl
  rw [c0, b1]
  try simp only [OpsW_nil, OpsW_n, OpsW_y, OpsW_xt, OpsW_xf, OpsW_u, StepW, guardOf, DrawW_nil, DrawW_n, DrawW_y, DrawW_xt, DrawW_xf, DrawW_u, DrawH, VOp.isIaddr, QW, dok, dval, VOp.pure, VOp.simple, VOp.det, pok, pval, VA.ev, Env.get, Env.put, Env.keep, argEnv, thenQ, blockQ, retQ, resV, resOk, RS.ev, RS.ok, gd, pickV, isBool, aggV, intV, binV, binOk, strV, binbV, boolV, binbOk, unV, unOk, convV, isInt, isStr, numOf, loV, hiV, lenV, boundOk, sliceV, sliceOk, faddrV, isAddr, locCells, locOk, cellsOfAgg, isAggP, iaddrV, iaddrOk, idxV, idxOk, lenOk, extV, extOk, fillV, fillOk, mmV, PV.cells, PV.fits, overlay, PV.nth, PV.row, lookV, mapRows, mapOk, keysOk, keyOk, keyEq, mapFind, mapPut, mapHas, mapsetV, Heap.get, Heap.set, Heap.del, Heap.le, HL.get, HL.set, HL.del, HL.le, Heap.push, Heap.nil, Nat.le_refl, Nat.add_eq_left, Nat.left_eq_add, Nat.succ_ne_self, Nat.one_ne_zero, Env.le, killed, oldId, oldRows, oldOk, srcRows, srcOk, elemsV, elemsOk, eqOk, ekOk, eqCells, eqCell, storeV, storeOk, AB.live, pxV, pxOk, fxV, fxOk, isPtr, slLike, isNil, notNil, List.map, List.set, List.replicate, List.length, List.getD_cons_zero, List.getD_cons_succ, List.getD_nil, List.take, List.drop, List.take_zero, List.drop_zero, List.take_succ_cons, List.drop_succ_cons, List.append, List.cons_append, List.nil_append, Option.map, Nat.reduceEqDiff, Nat.reduceAdd, Nat.reduceLT, Nat.reduceLeDiff, Nat.reduceSub, Nat.reduceMul, reduceIte, Bool.false_eq_true, Bool.true_eq_false, ite_true, ite_false, if_true, if_false, true_and, and_true, implies_true, forall_const, ne_eq, not_false_eq_true, reduceCtorEq, BEq.rfl, beq_self_eq_true, Option.some.injEq, Nat.zero_add, Nat.add_zero, List.length_cons, List.length_nil, true_implies, imp_self, Int.reduceToNat, Int.toNat_natCast, Bool.not_false, Bool.not_true]
  refine ACall_p (sp_pandectref02_Same _ _ (by omega) (by omega)) ?_
  try simp only [OpsW_n, OpsW_y, StepW, pok, pval, VA.ev, Env.get, Env.put, pickV, isBool, Nat.succ_ne_self, List.map, Nat.reduceEqDiff, ite_true, ite_false, true_and, reduceCtorEq, decide_true]
  refine ACall_p (sp_dateset_Intersect a b (by omega) (by omega)) ?_
  try simp only [OpsW_nil, OpsW_n, OpsW_y, OpsW_xt, OpsW_xf, OpsW_u, StepW, guardOf, DrawW_nil, DrawW_n, DrawW_y, DrawW_xt, DrawW_xf, DrawW_u, DrawH, VOp.isIaddr, QW, dok, dval, VOp.pure, VOp.simple, VOp.det, pok, pval, VA.ev, Env.get, Env.put, Env.keep, argEnv, thenQ, blockQ, retQ, resV, resOk, RS.ev, RS.ok, gd, pickV, isBool, aggV, intV, binV, binOk, strV, binbV, boolV, binbOk, unV, unOk, convV, isInt, isStr, numOf, loV, hiV, lenV, boundOk, sliceV, sliceOk, faddrV, isAddr, locCells, locOk, cellsOfAgg, isAggP, iaddrV, iaddrOk, idxV, idxOk, lenOk, extV, extOk, fillV, fillOk, mmV, PV.cells, PV.fits, overlay, PV.nth, PV.row, lookV, mapRows, mapOk, keysOk, keyOk, keyEq, mapFind, mapPut, mapHas, mapsetV, Heap.get, Heap.set, Heap.del, Heap.le, HL.get, HL.set, HL.del, HL.le, Heap.push, Heap.nil, Nat.le_refl, Nat.add_eq_left, Nat.left_eq_add, Nat.succ_ne_self, Nat.one_ne_zero, Env.le, killed, oldId, oldRows, oldOk, srcRows, srcOk, elemsV, elemsOk, eqOk, ekOk, eqCells, eqCell, storeV, storeOk, AB.live, pxV, pxOk, fxV, fxOk, isPtr, slLike, isNil, notNil, List.map, List.set, List.replicate, List.length, List.getD_cons_zero, List.getD_cons_succ, List.getD_nil, List.take, List.drop, List.take_zero, List.drop_zero, List.take_succ_cons, List.drop_succ_cons, List.append, List.cons_append, List.nil_append, Option.map, Nat.reduceEqDiff, Nat.reduceAdd, Nat.reduceLT, Nat.reduceLeDiff, Nat.reduceSub, Nat.reduceMul, reduceIte, Bool.false_eq_true, Bool.true_eq_false, ite_true, ite_false, if_true, if_false, true_and, and_true, implies_true, forall_const, ne_eq, not_false_eq_true, reduceCtorEq, BEq.rfl, beq_self_eq_true, Option.some.injEq, Nat.zero_add, Nat.add_zero, List.length_cons, List.length_nil, true_implies, imp_self, Int.reduceToNat, Int.toNat_natCast, Bool.not_false, Bool.not_true]
  refine ACall_p (sp_pandectref02_Both 1 a b (by omega) (by omega)) ?_
  rw [c1, b2]
  try simp only [OpsW_nil, OpsW_n, OpsW_y, OpsW_xt, OpsW_xf, OpsW_u, StepW, guardOf, DrawW_nil, DrawW_n, DrawW_y, DrawW_xt, DrawW_xf, DrawW_u, DrawH, VOp.isIaddr, QW, dok, dval, VOp.pure, VOp.simple, VOp.det, pok, pval, VA.ev, Env.get, Env.put, Env.keep, argEnv, thenQ, blockQ, retQ, resV, resOk, RS.ev, RS.ok, gd, pickV, isBool, aggV, intV, binV, binOk, strV, binbV, boolV, binbOk, unV, unOk, convV, isInt, isStr, numOf, loV, hiV, lenV, boundOk, sliceV, sliceOk, faddrV, isAddr, locCells, locOk, cellsOfAgg, isAggP, iaddrV, iaddrOk, idxV, idxOk, lenOk, extV, extOk, fillV, fillOk, mmV, PV.cells, PV.fits, overlay, PV.nth, PV.row, lookV, mapRows, mapOk, keysOk, keyOk, keyEq, mapFind, mapPut, mapHas, mapsetV, Heap.get, Heap.set, Heap.del, Heap.le, HL.get, HL.set, HL.del, HL.le, Heap.push, Heap.nil, Nat.le_refl, Nat.add_eq_left, Nat.left_eq_add, Nat.succ_ne_self, Nat.one_ne_zero, Env.le, killed, oldId, oldRows, oldOk, srcRows, srcOk, elemsV, elemsOk, eqOk, ekOk, eqCells, eqCell, storeV, storeOk, AB.live, pxV, pxOk, fxV, fxOk, isPtr, slLike, isNil, notNil, List.map, List.set, List.replicate, List.length, List.getD_cons_zero, List.getD_cons_succ, List.getD_nil, List.take, List.drop, List.take_zero, List.drop_zero, List.take_succ_cons, List.drop_succ_cons, List.append, List.cons_append, List.nil_append, Option.map, Nat.reduceEqDiff, Nat.reduceAdd, Nat.reduceLT, Nat.reduceLeDiff, Nat.reduceSub, Nat.reduceMul, reduceIte, Bool.false_eq_true, Bool.true_eq_false, ite_true, ite_false, if_true, if_false, true_and, and_true, implies_true, forall_const, ne_eq, not_false_eq_true, reduceCtorEq, BEq.rfl, beq_self_eq_true, Option.some.injEq, Nat.zero_add, Nat.add_zero, List.length_cons, List.length_nil, true_implies, imp_self, Int.reduceToNat, Int.toNat_natCast, Bool.not_false, Bool.not_true]
  refine ACall_p (sp_pandectref02_Same _ _ (by omega) (by omega)) ?_
  try simp only [OpsW_nil, OpsW_n, OpsW_y, StepW, pok, pval, VA.ev, Env.get, Env.put, pickV, isBool, Nat.succ_ne_self, List.map, Nat.reduceEqDiff, ite_true, ite_false, true_and, reduceCtorEq, decide_true]
  refine ACall_p (sp_dateset_Subtract a b (by omega) (by omega)) ?_
  try simp only [OpsW_nil, OpsW_n, OpsW_y, OpsW_xt, OpsW_xf, OpsW_u, StepW, guardOf, DrawW_nil, DrawW_n, DrawW_y, DrawW_xt, DrawW_xf, DrawW_u, DrawH, VOp.isIaddr, QW, dok, dval, VOp.pure, VOp.simple, VOp.det, pok, pval, VA.ev, Env.get, Env.put, Env.keep, argEnv, thenQ, blockQ, retQ, resV, resOk, RS.ev, RS.ok, gd, pickV, isBool, aggV, intV, binV, binOk, strV, binbV, boolV, binbOk, unV, unOk, convV, isInt, isStr, numOf, loV, hiV, lenV, boundOk, sliceV, sliceOk, faddrV, isAddr, locCells, locOk, cellsOfAgg, isAggP, iaddrV, iaddrOk, idxV, idxOk, lenOk, extV, extOk, fillV, fillOk, mmV, PV.cells, PV.fits, overlay, PV.nth, PV.row, lookV, mapRows, mapOk, keysOk, keyOk, keyEq, mapFind, mapPut, mapHas, mapsetV, Heap.get, Heap.set, Heap.del, Heap.le, HL.get, HL.set, HL.del, HL.le, Heap.push, Heap.nil, Nat.le_refl, Nat.add_eq_left, Nat.left_eq_add, Nat.succ_ne_self, Nat.one_ne_zero, Env.le, killed, oldId, oldRows, oldOk, srcRows, srcOk, elemsV, elemsOk, eqOk, ekOk, eqCells, eqCell, storeV, storeOk, AB.live, pxV, pxOk, fxV, fxOk, isPtr, slLike, isNil, notNil, List.map, List.set, List.replicate, List.length, List.getD_cons_zero, List.getD_cons_succ, List.getD_nil, List.take, List.drop, List.take_zero, List.drop_zero, List.take_succ_cons, List.drop_succ_cons, List.append, List.cons_append, List.nil_append, Option.map, Nat.reduceEqDiff, Nat.reduceAdd, Nat.reduceLT, Nat.reduceLeDiff, Nat.reduceSub, Nat.reduceMul, reduceIte, Bool.false_eq_true, Bool.true_eq_false, ite_true, ite_false, if_true, if_false, true_and, and_true, implies_true, forall_const, ne_eq, not_false_eq_true, reduceCtorEq, BEq.rfl, beq_self_eq_true, Option.some.injEq, Nat.zero_add, Nat.add_zero, List.length_cons, List.length_nil, true_implies, imp_self, Int.reduceToNat, Int.toNat_natCast, Bool.not_false, Bool.not_true]
  refine ACall_p (sp_pandectref02_Both 2 a b (by omega) (by omega)) ?_
  rw [c2, b3]
  try simp only [OpsW_nil, OpsW_n, OpsW_y, OpsW_xt, OpsW_xf, OpsW_u, StepW, guardOf, DrawW_nil, DrawW_n, DrawW_y, DrawW_xt, DrawW_xf, DrawW_u, DrawH, VOp.isIaddr, QW, dok, dval, VOp.pure, VOp.simple, VOp.det, pok, pval, VA.ev, Env.get, Env.put, Env.keep, argEnv, thenQ, blockQ, retQ, resV, resOk, RS.ev, RS.ok, gd, pickV, isBool, aggV, intV, binV, binOk, strV, binbV, boolV, binbOk, unV, unOk, convV, isInt, isStr, numOf, loV, hiV, lenV, boundOk, sliceV, sliceOk, faddrV, isAddr, locCells, locOk, cellsOfAgg, isAggP, iaddrV, iaddrOk, idxV, idxOk, lenOk, extV, extOk, fillV, fillOk, mmV, PV.cells, PV.fits, overlay, PV.nth, PV.row, lookV, mapRows, mapOk, keysOk, keyOk, keyEq, mapFind, mapPut, mapHas, mapsetV, Heap.get, Heap.set, Heap.del, Heap.le, HL.get, HL.set, HL.del, HL.le, Heap.push, Heap.nil, Nat.le_refl, Nat.add_eq_left, Nat.left_eq_add, Nat.succ_ne_self, Nat.one_ne_zero, Env.le, killed, oldId, oldRows, oldOk, srcRows, srcOk, elemsV, elemsOk, eqOk, ekOk, eqCells, eqCell, storeV, storeOk, AB.live, pxV, pxOk, fxV, fxOk, isPtr, slLike, isNil, notNil, List.map, List.set, List.replicate, List.length, List.getD_cons_zero, List.getD_cons_succ, List.getD_nil, List.take, List.drop, List.take_zero, List.drop_zero, List.take_succ_cons, List.drop_succ_cons, List.append, List.cons_append, List.nil_append, Option.map, Nat.reduceEqDiff, Nat.reduceAdd, Nat.reduceLT, Nat.reduceLeDiff, Nat.reduceSub, Nat.reduceMul, reduceIte, Bool.false_eq_true, Bool.true_eq_false, ite_true, ite_false, if_true, if_false, true_and, and_true, implies_true, forall_const, ne_eq, not_false_eq_true, reduceCtorEq, BEq.rfl, beq_self_eq_true, Option.some.injEq, Nat.zero_add, Nat.add_zero, List.length_cons, List.length_nil, true_implies, imp_self, Int.reduceToNat, Int.toNat_natCast, Bool.not_false, Bool.not_true]
  refine ACall_p (sp_pandectref02_Same _ _ (by omega) (by omega)) ?_
  try simp only [decide_true]
  refine VW_ret ?_
  try simp only [Env.get, retQ, resV, resOk, RS.ev, RS.ok, ite_true, true_and, and_true]
  exact View.refl _ _
theorem law_DatesetBasics (l : List Sp) (day : Int) (_ : okL Sp.ok l) (_ : i64 day) (za : l.length * 16 ≤ 140737488351232) :
    PCall Tryd.prog 8 [.sl 2 (l.map Sp.enc), pI day] (.bool true) := by
  refine PCall_intro ?_ (cB _) (by simp only [ClosedL, List.mem_cons, List.not_mem_nil, or_false, forall_eq_or_imp, forall_eq, false_implies, implies_true]; repeat' (first | exact cI _ | exact cS _ | exact cB _ | exact closed_fn0 _ | exact closed_nilsl | exact closed_agg (Un.closed _) | exact closed_agg (It.closed _) | exact closed_agg (EI.closed _) | exact closed_agg (Ac.closed _) | exact closed_agg (Wd.closed _) | exact closed_agg (St.closed _) | exact closed_agg (Sta.closed _) | exact closed_eis _ | exact closed_acs _ | exact closed_strs _ | exact closed_map (fun w _ => Wd.closed w) | exact closed_map (fun w _ => St.closed w) | exact closed_map (fun w _ => Un.closed w) | exact closed_map (fun w _ => It.closed w) | exact closed_sc _ | exact closed_sps _ | exact closed_agg (Sp.closed _) | exact closed_ro (EI.closed _) | exact closed_ro (Sta.closed _) | exact closed_ro (It.closed _) | exact closed_ro (by simp only [List.mem_cons, List.not_mem_nil, or_false, forall_eq]; first | exact cI _ | exact cS _ | exact closed_eis _) | refine And.intro ?_ ?_))
  refine ACall_fn (vc := c_pandectlaw02_DatesetBasics) (ts := [.t 4]) Go.Proofs.Tryd.func8 (by kernel_rfl) rfl rfl (Nat.le_of_ble_eq_true rfl) (by kernel_rfl) ?_
  unfold c_pandectlaw02_DatesetBasics
  refine VW_seq (VW_region [0, 1] ?_)
  simp only [OpsW_nil, OpsW_n, StepW, pok, pval, VA.ev, Env.get, Env.put, Env.keep, argEnv, thenQ, Heap.nil, Nat.succ_ne_self, Nat.reduceEqDiff, ite_true, ite_false, true_and, reduceCtorEq, Nat.zero_add]
  refine VW_seq ?_
  refine VW_seq (VW_region [0, 1, 6] ?_)
  simp only [OpsW_nil, OpsW_n, StepW, pok, pval, VA.ev, Env.get, Env.put, Env.keep, thenQ, unV, unOk, Nat.succ_ne_self, List.map, Nat.reduceEqDiff, ite_true, ite_false, reduceCtorEq]
  refine ACall_p awake ?_
  simp only [true_and, Bool.not_true]
  refine VW_cond rfl (fun h1 => by cases h1) (fun _ => ?_)
  refine VW_skip ?_
  try simp only [thenQ]
  refine VW_seq ?_
  refine VW_seq (VW_region [0, 1, 10] ?_)
  simp only [OpsW_nil, OpsW_n, StepW, pok, pval, VA.ev, Env.get, Env.put, Env.keep, thenQ, unV, unOk, PV.cells, PV.fits, Heap.push, Nat.succ_ne_self, elemsV, elemsOk, List.map, List.set, List.replicate, Nat.reduceEqDiff, Nat.reduceLT, ite_true, ite_false, true_and, and_true, reduceCtorEq, BEq.rfl, Nat.zero_add]
  refine few_call [l] (by simp) (by intro x hl; simp at hl; rcases hl with rfl; omega) rfl rfl rfl ?_
  try simp only [true_and]
  refine VW_cond rfl (fun h2 => ?_) (fun h2 => ?_)
  · refine VW_seq (VW_region [4] ?_)
    simp only [OpsW_nil, OpsW_n, StepW, pok, pval, VA.ev, Env.get, Env.put, Env.keep, thenQ, Nat.reduceEqDiff, ite_true, ite_false, true_and, reduceCtorEq]
    refine VW_ret ?_
    try simp only [Env.get, thenQ, retQ, resV, resOk, RS.ev, RS.ok, ite_true, true_and, and_true]
    exact View.refl _ _
  have ht : total [l] ≤ 60 := by simpa using h2
  have ht' : l.length ≤ 60 := by simpa [total] using ht
  have hn := norm_len l
  have he := edges_len (normS l)
  have hxx : ∀ x : Bool, (x == x) = true := fun x => by cases x <;> rfl
  have hii : ∀ x : Int, (x == x) = true := fun x => by simp
  refine VW_skip ?_
  try simp only [thenQ]
  refine VW_seq (VW_region [4] ?_)
  simp only [OpsW_n, StepW, pok, pval, VA.ev, Env.get, Env.put, Env.keep, thenQ, binbV, boolV, binbOk, Nat.succ_ne_self, List.map, Nat.reduceEqDiff, ite_true, ite_false, true_and, reduceCtorEq]
  refine ACall_p (sp_dateset_Valid l (by omega)) ?_
  try simp only [OpsW_nil, OpsW_n, OpsW_y, OpsW_xt, OpsW_xf, OpsW_u, StepW, guardOf, DrawW_nil, DrawW_n, DrawW_y, DrawW_xt, DrawW_xf, DrawW_u, DrawH, VOp.isIaddr, QW, dok, dval, VOp.pure, VOp.simple, VOp.det, pok, pval, VA.ev, Env.get, Env.put, Env.keep, argEnv, thenQ, blockQ, retQ, resV, resOk, RS.ev, RS.ok, gd, pickV, isBool, aggV, intV, binV, binOk, strV, binbV, boolV, binbOk, unV, unOk, convV, isInt, isStr, numOf, loV, hiV, lenV, boundOk, sliceV, sliceOk, faddrV, isAddr, locCells, locOk, cellsOfAgg, isAggP, iaddrV, iaddrOk, idxV, idxOk, lenOk, extV, extOk, fillV, fillOk, mmV, PV.cells, PV.fits, overlay, PV.nth, PV.row, lookV, mapRows, mapOk, keysOk, keyOk, keyEq, mapFind, mapPut, mapHas, mapsetV, Heap.get, Heap.set, Heap.del, Heap.le, HL.get, HL.set, HL.del, HL.le, Heap.push, Heap.nil, Nat.le_refl, Nat.add_eq_left, Nat.left_eq_add, Nat.succ_ne_self, Nat.one_ne_zero, Env.le, killed, oldId, oldRows, oldOk, srcRows, srcOk, elemsV, elemsOk, eqOk, ekOk, eqCells, eqCell, storeV, storeOk, AB.live, pxV, pxOk, fxV, fxOk, isPtr, slLike, isNil, notNil, List.map, List.set, List.replicate, List.length, List.getD_cons_zero, List.getD_cons_succ, List.getD_nil, List.take, List.drop, List.take_zero, List.drop_zero, List.take_succ_cons, List.drop_succ_cons, List.append, List.cons_append, List.nil_append, Option.map, Nat.reduceEqDiff, Nat.reduceAdd, Nat.reduceLT, Nat.reduceLeDiff, Nat.reduceSub, Nat.reduceMul, reduceIte, Bool.false_eq_true, Bool.true_eq_false, ite_true, ite_false, if_true, if_false, true_and, and_true, implies_true, forall_const, ne_eq, not_false_eq_true, reduceCtorEq, BEq.rfl, beq_self_eq_true, Option.some.injEq, Nat.zero_add, Nat.add_zero, List.length_cons, List.length_nil, true_implies, imp_self, Int.reduceToNat, Int.toNat_natCast, Bool.not_false, Bool.not_true]
  refine ACall_p (sp_pandectref02_May l (by omega)) ?_
  try simp only [OpsW_n, OpsW_y, StepW, pok, pval, VA.ev, Env.get, Env.put, pickV, isBool, Nat.succ_ne_self, List.map, Nat.reduceEqDiff, ite_true, ite_false, true_and, reduceCtorEq, BEq.rfl, hxx]
  refine ACall_p (norm_ok l (by omega)) ?_
  try simp only [OpsW_nil, OpsW_n, OpsW_y, OpsW_xt, OpsW_xf, OpsW_u, StepW, guardOf, DrawW_nil, DrawW_n, DrawW_y, DrawW_xt, DrawW_xf, DrawW_u, DrawH, VOp.isIaddr, QW, dok, dval, VOp.pure, VOp.simple, VOp.det, pok, pval, VA.ev, Env.get, Env.put, Env.keep, argEnv, thenQ, blockQ, retQ, resV, resOk, RS.ev, RS.ok, gd, pickV, isBool, aggV, intV, binV, binOk, strV, binbV, boolV, binbOk, unV, unOk, convV, isInt, isStr, numOf, loV, hiV, lenV, boundOk, sliceV, sliceOk, faddrV, isAddr, locCells, locOk, cellsOfAgg, isAggP, iaddrV, iaddrOk, idxV, idxOk, lenOk, extV, extOk, fillV, fillOk, mmV, PV.cells, PV.fits, overlay, PV.nth, PV.row, lookV, mapRows, mapOk, keysOk, keyOk, keyEq, mapFind, mapPut, mapHas, mapsetV, Heap.get, Heap.set, Heap.del, Heap.le, HL.get, HL.set, HL.del, HL.le, Heap.push, Heap.nil, Nat.le_refl, Nat.add_eq_left, Nat.left_eq_add, Nat.succ_ne_self, Nat.one_ne_zero, Env.le, killed, oldId, oldRows, oldOk, srcRows, srcOk, elemsV, elemsOk, eqOk, ekOk, eqCells, eqCell, storeV, storeOk, AB.live, pxV, pxOk, fxV, fxOk, isPtr, slLike, isNil, notNil, List.map, List.set, List.replicate, List.length, List.getD_cons_zero, List.getD_cons_succ, List.getD_nil, List.take, List.drop, List.take_zero, List.drop_zero, List.take_succ_cons, List.drop_succ_cons, List.append, List.cons_append, List.nil_append, Option.map, Nat.reduceEqDiff, Nat.reduceAdd, Nat.reduceLT, Nat.reduceLeDiff, Nat.reduceSub, Nat.reduceMul, reduceIte, Bool.false_eq_true, Bool.true_eq_false, ite_true, ite_false, if_true, if_false, true_and, and_true, implies_true, forall_const, ne_eq, not_false_eq_true, reduceCtorEq, BEq.rfl, beq_self_eq_true, Option.some.injEq, Nat.zero_add, Nat.add_zero, List.length_cons, List.length_nil, true_implies, imp_self, Int.reduceToNat, Int.toNat_natCast, Bool.not_false, Bool.not_true]
  refine ACall_p (sp_pandectref02_Of l (by omega)) ?_
  rw [ofR_eq]
  try simp only [OpsW_nil, OpsW_n, OpsW_y, OpsW_xt, OpsW_xf, OpsW_u, StepW, guardOf, DrawW_nil, DrawW_n, DrawW_y, DrawW_xt, DrawW_xf, DrawW_u, DrawH, VOp.isIaddr, QW, dok, dval, VOp.pure, VOp.simple, VOp.det, pok, pval, VA.ev, Env.get, Env.put, Env.keep, argEnv, thenQ, blockQ, retQ, resV, resOk, RS.ev, RS.ok, gd, pickV, isBool, aggV, intV, binV, binOk, strV, binbV, boolV, binbOk, unV, unOk, convV, isInt, isStr, numOf, loV, hiV, lenV, boundOk, sliceV, sliceOk, faddrV, isAddr, locCells, locOk, cellsOfAgg, isAggP, iaddrV, iaddrOk, idxV, idxOk, lenOk, extV, extOk, fillV, fillOk, mmV, PV.cells, PV.fits, overlay, PV.nth, PV.row, lookV, mapRows, mapOk, keysOk, keyOk, keyEq, mapFind, mapPut, mapHas, mapsetV, Heap.get, Heap.set, Heap.del, Heap.le, HL.get, HL.set, HL.del, HL.le, Heap.push, Heap.nil, Nat.le_refl, Nat.add_eq_left, Nat.left_eq_add, Nat.succ_ne_self, Nat.one_ne_zero, Env.le, killed, oldId, oldRows, oldOk, srcRows, srcOk, elemsV, elemsOk, eqOk, ekOk, eqCells, eqCell, storeV, storeOk, AB.live, pxV, pxOk, fxV, fxOk, isPtr, slLike, isNil, notNil, List.map, List.set, List.replicate, List.length, List.getD_cons_zero, List.getD_cons_succ, List.getD_nil, List.take, List.drop, List.take_zero, List.drop_zero, List.take_succ_cons, List.drop_succ_cons, List.append, List.cons_append, List.nil_append, Option.map, Nat.reduceEqDiff, Nat.reduceAdd, Nat.reduceLT, Nat.reduceLeDiff, Nat.reduceSub, Nat.reduceMul, reduceIte, Bool.false_eq_true, Bool.true_eq_false, ite_true, ite_false, if_true, if_false, true_and, and_true, implies_true, forall_const, ne_eq, not_false_eq_true, reduceCtorEq, BEq.rfl, beq_self_eq_true, Option.some.injEq, Nat.zero_add, Nat.add_zero, List.length_cons, List.length_nil, true_implies, imp_self, Int.reduceToNat, Int.toNat_natCast, Bool.not_false, Bool.not_true]
  refine ACall_p (sp_pandectref02_Same _ _ (by omega) (by omega)) ?_
  try simp only [OpsW_n, OpsW_y, StepW, pok, pval, VA.ev, Env.get, Env.put, pickV, isBool, binbV, boolV, binbOk, Nat.succ_ne_self, List.map, Nat.reduceEqDiff, ite_true, ite_false, true_and, reduceCtorEq, decide_true]
  refine ACall_p (sp_dateset_Contains l day (by omega)) ?_
  try simp only [OpsW_nil, OpsW_n, OpsW_y, OpsW_xt, OpsW_xf, OpsW_u, StepW, guardOf, DrawW_nil, DrawW_n, DrawW_y, DrawW_xt, DrawW_xf, DrawW_u, DrawH, VOp.isIaddr, QW, dok, dval, VOp.pure, VOp.simple, VOp.det, pok, pval, VA.ev, Env.get, Env.put, Env.keep, argEnv, thenQ, blockQ, retQ, resV, resOk, RS.ev, RS.ok, gd, pickV, isBool, aggV, intV, binV, binOk, strV, binbV, boolV, binbOk, unV, unOk, convV, isInt, isStr, numOf, loV, hiV, lenV, boundOk, sliceV, sliceOk, faddrV, isAddr, locCells, locOk, cellsOfAgg, isAggP, iaddrV, iaddrOk, idxV, idxOk, lenOk, extV, extOk, fillV, fillOk, mmV, PV.cells, PV.fits, overlay, PV.nth, PV.row, lookV, mapRows, mapOk, keysOk, keyOk, keyEq, mapFind, mapPut, mapHas, mapsetV, Heap.get, Heap.set, Heap.del, Heap.le, HL.get, HL.set, HL.del, HL.le, Heap.push, Heap.nil, Nat.le_refl, Nat.add_eq_left, Nat.left_eq_add, Nat.succ_ne_self, Nat.one_ne_zero, Env.le, killed, oldId, oldRows, oldOk, srcRows, srcOk, elemsV, elemsOk, eqOk, ekOk, eqCells, eqCell, storeV, storeOk, AB.live, pxV, pxOk, fxV, fxOk, isPtr, slLike, isNil, notNil, List.map, List.set, List.replicate, List.length, List.getD_cons_zero, List.getD_cons_succ, List.getD_nil, List.take, List.drop, List.take_zero, List.drop_zero, List.take_succ_cons, List.drop_succ_cons, List.append, List.cons_append, List.nil_append, Option.map, Nat.reduceEqDiff, Nat.reduceAdd, Nat.reduceLT, Nat.reduceLeDiff, Nat.reduceSub, Nat.reduceMul, reduceIte, Bool.false_eq_true, Bool.true_eq_false, ite_true, ite_false, if_true, if_false, true_and, and_true, implies_true, forall_const, ne_eq, not_false_eq_true, reduceCtorEq, BEq.rfl, beq_self_eq_true, Option.some.injEq, Nat.zero_add, Nat.add_zero, List.length_cons, List.length_nil, true_implies, imp_self, Int.reduceToNat, Int.toNat_natCast, Bool.not_false, Bool.not_true]
  refine ACall_p (sp_pandectref02_Has l day (by omega)) ?_
  rw [hasB_norm]
  try simp only [OpsW_n, OpsW_y, StepW, pok, pval, VA.ev, Env.get, Env.put, pickV, isBool, intV, binV, binOk, strV, Nat.succ_ne_self, List.map, Nat.reduceEqDiff, ite_true, ite_false, true_and, reduceCtorEq, BEq.rfl, hxx]
  refine ACall_p (sp_dateset_Size l (by omega)) ?_
  try simp only [OpsW_nil, OpsW_n, OpsW_y, OpsW_xt, OpsW_xf, OpsW_u, StepW, guardOf, DrawW_nil, DrawW_n, DrawW_y, DrawW_xt, DrawW_xf, DrawW_u, DrawH, VOp.isIaddr, QW, dok, dval, VOp.pure, VOp.simple, VOp.det, pok, pval, VA.ev, Env.get, Env.put, Env.keep, argEnv, thenQ, blockQ, retQ, resV, resOk, RS.ev, RS.ok, gd, pickV, isBool, aggV, intV, binV, binOk, strV, binbV, boolV, binbOk, unV, unOk, convV, isInt, isStr, numOf, loV, hiV, lenV, boundOk, sliceV, sliceOk, faddrV, isAddr, locCells, locOk, cellsOfAgg, isAggP, iaddrV, iaddrOk, idxV, idxOk, lenOk, extV, extOk, fillV, fillOk, mmV, PV.cells, PV.fits, overlay, PV.nth, PV.row, lookV, mapRows, mapOk, keysOk, keyOk, keyEq, mapFind, mapPut, mapHas, mapsetV, Heap.get, Heap.set, Heap.del, Heap.le, HL.get, HL.set, HL.del, HL.le, Heap.push, Heap.nil, Nat.le_refl, Nat.add_eq_left, Nat.left_eq_add, Nat.succ_ne_self, Nat.one_ne_zero, Env.le, killed, oldId, oldRows, oldOk, srcRows, srcOk, elemsV, elemsOk, eqOk, ekOk, eqCells, eqCell, storeV, storeOk, AB.live, pxV, pxOk, fxV, fxOk, isPtr, slLike, isNil, notNil, List.map, List.set, List.replicate, List.length, List.getD_cons_zero, List.getD_cons_succ, List.getD_nil, List.take, List.drop, List.take_zero, List.drop_zero, List.take_succ_cons, List.drop_succ_cons, List.append, List.cons_append, List.nil_append, Option.map, Nat.reduceEqDiff, Nat.reduceAdd, Nat.reduceLT, Nat.reduceLeDiff, Nat.reduceSub, Nat.reduceMul, reduceIte, Bool.false_eq_true, Bool.true_eq_false, ite_true, ite_false, if_true, if_false, true_and, and_true, implies_true, forall_const, ne_eq, not_false_eq_true, reduceCtorEq, BEq.rfl, beq_self_eq_true, Option.some.injEq, Nat.zero_add, Nat.add_zero, List.length_cons, List.length_nil, true_implies, imp_self, Int.reduceToNat, Int.toNat_natCast, Bool.not_false, Bool.not_true]
  refine ACall_p (sp_pandectref02_Size l (by omega)) ?_
  try simp only [OpsW_nil, OpsW_n, OpsW_y, StepW, pok, pval, VA.ev, Env.get, Env.put, pickV, isBool, Nat.succ_ne_self, List.map, Nat.reduceEqDiff, ite_true, ite_false, true_and, reduceCtorEq, BEq.rfl, hii]
  refine ACall_p (sp_dateset_Boundaries l (by omega)) ?_
  try simp only [OpsW_nil, OpsW_n, OpsW_y, OpsW_xt, OpsW_xf, OpsW_u, StepW, guardOf, DrawW_nil, DrawW_n, DrawW_y, DrawW_xt, DrawW_xf, DrawW_u, DrawH, VOp.isIaddr, QW, dok, dval, VOp.pure, VOp.simple, VOp.det, pok, pval, VA.ev, Env.get, Env.put, Env.keep, argEnv, thenQ, blockQ, retQ, resV, resOk, RS.ev, RS.ok, gd, pickV, isBool, aggV, intV, binV, binOk, strV, binbV, boolV, binbOk, unV, unOk, convV, isInt, isStr, numOf, loV, hiV, lenV, boundOk, sliceV, sliceOk, faddrV, isAddr, locCells, locOk, cellsOfAgg, isAggP, iaddrV, iaddrOk, idxV, idxOk, lenOk, extV, extOk, fillV, fillOk, mmV, PV.cells, PV.fits, overlay, PV.nth, PV.row, lookV, mapRows, mapOk, keysOk, keyOk, keyEq, mapFind, mapPut, mapHas, mapsetV, Heap.get, Heap.set, Heap.del, Heap.le, HL.get, HL.set, HL.del, HL.le, Heap.push, Heap.nil, Nat.le_refl, Nat.add_eq_left, Nat.left_eq_add, Nat.succ_ne_self, Nat.one_ne_zero, Env.le, killed, oldId, oldRows, oldOk, srcRows, srcOk, elemsV, elemsOk, eqOk, ekOk, eqCells, eqCell, storeV, storeOk, AB.live, pxV, pxOk, fxV, fxOk, isPtr, slLike, isNil, notNil, List.map, List.set, List.replicate, List.length, List.getD_cons_zero, List.getD_cons_succ, List.getD_nil, List.take, List.drop, List.take_zero, List.drop_zero, List.take_succ_cons, List.drop_succ_cons, List.append, List.cons_append, List.nil_append, Option.map, Nat.reduceEqDiff, Nat.reduceAdd, Nat.reduceLT, Nat.reduceLeDiff, Nat.reduceSub, Nat.reduceMul, reduceIte, Bool.false_eq_true, Bool.true_eq_false, ite_true, ite_false, if_true, if_false, true_and, and_true, implies_true, forall_const, ne_eq, not_false_eq_true, reduceCtorEq, BEq.rfl, beq_self_eq_true, Option.some.injEq, Nat.zero_add, Nat.add_zero, List.length_cons, List.length_nil, true_implies, imp_self, Int.reduceToNat, Int.toNat_natCast, Bool.not_false, Bool.not_true]
  refine ACall_p (sp_pandectref02_Ends l (by omega)) ?_
  try simp only [OpsW_nil, OpsW_n, OpsW_y, OpsW_xt, OpsW_xf, OpsW_u, StepW, guardOf, DrawW_nil, DrawW_n, DrawW_y, DrawW_xt, DrawW_xf, DrawW_u, DrawH, VOp.isIaddr, QW, dok, dval, VOp.pure, VOp.simple, VOp.det, pok, pval, VA.ev, Env.get, Env.put, Env.keep, argEnv, thenQ, blockQ, retQ, resV, resOk, RS.ev, RS.ok, gd, pickV, isBool, aggV, intV, binV, binOk, strV, binbV, boolV, binbOk, unV, unOk, convV, isInt, isStr, numOf, loV, hiV, lenV, boundOk, sliceV, sliceOk, faddrV, isAddr, locCells, locOk, cellsOfAgg, isAggP, iaddrV, iaddrOk, idxV, idxOk, lenOk, extV, extOk, fillV, fillOk, mmV, PV.cells, PV.fits, overlay, PV.nth, PV.row, lookV, mapRows, mapOk, keysOk, keyOk, keyEq, mapFind, mapPut, mapHas, mapsetV, Heap.get, Heap.set, Heap.del, Heap.le, HL.get, HL.set, HL.del, HL.le, Heap.push, Heap.nil, Nat.le_refl, Nat.add_eq_left, Nat.left_eq_add, Nat.succ_ne_self, Nat.one_ne_zero, Env.le, killed, oldId, oldRows, oldOk, srcRows, srcOk, elemsV, elemsOk, eqOk, ekOk, eqCells, eqCell, storeV, storeOk, AB.live, pxV, pxOk, fxV, fxOk, isPtr, slLike, isNil, notNil, List.map, List.set, List.replicate, List.length, List.getD_cons_zero, List.getD_cons_succ, List.getD_nil, List.take, List.drop, List.take_zero, List.drop_zero, List.take_succ_cons, List.drop_succ_cons, List.append, List.cons_append, List.nil_append, Option.map, Nat.reduceEqDiff, Nat.reduceAdd, Nat.reduceLT, Nat.reduceLeDiff, Nat.reduceSub, Nat.reduceMul, reduceIte, Bool.false_eq_true, Bool.true_eq_false, ite_true, ite_false, if_true, if_false, true_and, and_true, implies_true, forall_const, ne_eq, not_false_eq_true, reduceCtorEq, BEq.rfl, beq_self_eq_true, Option.some.injEq, Nat.zero_add, Nat.add_zero, List.length_cons, List.length_nil, true_implies, imp_self, Int.reduceToNat, Int.toNat_natCast, Bool.not_false, Bool.not_true]
  refine ACall_p (sp_pandectref02_Ints _ _ (by omega) (by omega)) ?_
  try simp only [decide_true]
  refine VW_ret ?_
  try simp only [Env.get, retQ, resV, resOk, RS.ev, RS.ok, ite_true, true_and, and_true]
  exact View.refl _ _
end Go.Proofs.YtepmaobfbfbecaaDoor.w

