/-
  Small laws that the walks of the laws share.
  Walks: the law CommencementRevive.
-/
import Derived.Test.YtepmaobfbfbecaaC1
import Derived.Test.YtepmaobfbfbecaaVmG
set_option linter.all false
namespace Go.Proofs.Ytepmaobfbfbecaa.w
open Go Go.VM
theorem ei_len28 (x : EI) : x.enc.length = 28 := by simp [EI.enc, It.enc_len]
theorem ei_take (x : EI) : List.take 28 x.enc = x.enc := List.take_of_length_le (by rw [ei_len28]; exact Nat.le_refl _)
theorem ei_d3 (x : EI) : List.drop 3 x.enc = x.it.enc := rfl
theorem ei_d20 (x : EI) : List.drop 20 x.enc = List.drop 17 x.it.enc := rfl
theorem ei_t0 (x : EI) : List.take 1 x.enc = [pI x.act] := rfl
theorem ei_t1 (x : EI) : List.take 1 (List.drop 1 x.enc) = [pI x.item] := rfl
theorem ei_t2 (x : EI) : List.take 1 (List.drop 2 x.enc) = [pI x.day] := rfl
theorem ei_l1 (x : EI) : (List.drop 1 x.enc).length = 27 := by simp [ei_len28]
theorem ei_l2 (x : EI) : (List.drop 2 x.enc).length = 26 := by simp [ei_len28]
theorem it_t0 (x : It) : List.take 1 x.enc = [pI x.kind] := by rw [It.enc_eq]; rfl
theorem it_start (x : It) : List.take 3 (List.drop 17 x.enc) = x.start.enc := by rw [It.enc_eq]; rfl
theorem it_l17 (x : It) : (List.drop 17 x.enc).length = 8 := by simp [It.enc_len]
/-- Lists that the laws do not look at. -/
theorem few_len {d : EI} {l : List EI} (h : fewB (d :: l) = true) : l.length ≤ 40 := by
  unfold fewB at h
  simp only [Bool.and_eq_true, decide_eq_true_eq, List.length_cons] at h
  omega
theorem filter_step (p : EI → Bool) {l : List EI} {k : Nat} (ka : k < l.length) : (l.take (k + 1)).filter p = (l.take k).filter p ++ if p l[k] then [l[k]] else [] := by
  rw [List.take_add_one, List.getElem?_eq_getElem ka, List.filter_append]
  simp [List.filter_cons]
theorem filter_le (p : EI → Bool) (l : List EI) (k : Nat) : ((l.take k).filter p).length ≤ l.length :=
  Nat.le_trans (List.length_filter_le ..) (by simp; omega)
end Go.Proofs.Ytepmaobfbfbecaa.w


namespace Go.Proofs.Ytepmaobfbfbecaa.w
open Go Go.VM
set_option maxRecDepth 20000
set_option maxHeartbeats 0
set_option pp.deepTerms false
def c_pandectlaw27_CommencementRevive : VC := (.seq (.region [⟨(some 4), (.box 3 (.t 0)), none⟩, ⟨(some 5), (.box 28 (.t 1)), none⟩, ⟨(some 6), (.box 1 (.t 2)), none⟩, ⟨(some 7), (.box 1 (.t 3)), none⟩, ⟨(some 8), (.mv (.c (.bool false))), none⟩] false) (.seq (.seq (.region [⟨(some 12), (.call 10 []), none⟩, ⟨(some 13), (.un .not (.t 12)), none⟩, ⟨(some 14), (.mv (.t 13)), none⟩, ⟨(some 15), (.load true 28 (.t 5)), (some (14, false))⟩, ⟨(some 16), (.bslice 28 1 [(.int .i64 0), (.int .i64 0), (.int .i64 0), (.int .i64 0), .nilsl, .nilsl, (.int .i64 0), (.int .i64 0), (.int .i64 0), (.int .i64 0), (.int .i64 0), (.int .i64 0), (.str []), .nilsl, .nilsl, .nilsl, .nilsl, .nilsl, (.str []), (.str []), (.int .i64 0), (.int .i64 0), (.str []), (.int .i64 0), (.int .i64 0), (.int .i64 0), (.str []), .nilsl] [(0, (.t 15))]), (some (14, false))⟩, ⟨(some 17), (.load false 1 (.t 6)), (some (14, false))⟩, ⟨(some 18), (.app 28 392 [(.int .i64 0), (.int .i64 0), (.int .i64 0), (.int .i64 0), .nilsl, .nilsl, (.int .i64 0), (.int .i64 0), (.int .i64 0), (.int .i64 0), (.int .i64 0), (.int .i64 0), (.str []), .nilsl, .nilsl, .nilsl, .nilsl, .nilsl, (.str []), (.str []), (.int .i64 0), (.int .i64 0), (.str []), (.int .i64 0), (.int .i64 0), (.int .i64 0), (.str []), .nilsl] false (.t 16) (.t 17)), (some (14, false))⟩, ⟨(some 19), (.call 11 [(.t 18)]), (some (14, false))⟩, ⟨(some 20), (.un .not (.t 19)), (some (14, false))⟩, ⟨(some 21), (.pick (.t 14) (.c (.bool true)) (.t 20)), none⟩, ⟨(some 22), (.mv (.t 21)), none⟩, ⟨(some 23), (.faddr 2 (.t 4)), (some (22, false))⟩, ⟨(some 24), (.load false 1 (.t 23)), (some (22, false))⟩, ⟨(some 25), (.len true (.t 24)), (some (22, false))⟩, ⟨(some 26), (.bin .gtr (.t 25) (.c (.int .i64 100))), (some (22, false))⟩, ⟨(some 27), (.pick (.t 22) (.c (.bool true)) (.t 26)), none⟩, ⟨(some 28), (.mv (.t 27)), none⟩, ⟨(some 29), (.faddr 3 (.t 5)), (some (28, false))⟩, ⟨(some 30), (.faddr 0 (.t 29)), (some (28, false))⟩, ⟨(some 31), (.load false 1 (.t 30)), (some (28, false))⟩, ⟨(some 32), (.bin .lss (.t 31) (.c (.int .i64 0))), (some (28, false))⟩, ⟨(some 33), (.pick (.t 28) (.c (.bool true)) (.t 32)), none⟩, ⟨(some 34), (.mv (.t 33)), none⟩, ⟨(some 35), (.faddr 3 (.t 5)), (some (34, false))⟩, ⟨(some 36), (.faddr 0 (.t 35)), (some (34, false))⟩, ⟨(some 37), (.load false 1 (.t 36)), (some (34, false))⟩, ⟨(some 38), (.bin .gtr (.t 37) (.c (.int .i64 6))), (some (34, false))⟩, ⟨(some 39), (.pick (.t 34) (.c (.bool true)) (.t 38)), none⟩] false) (.cond (.t 39) (.seq (.region [⟨(some 40), (.call 10 []), none⟩, ⟨(some 8), (.mv (.t 40)), none⟩] false) .ret) .skip)) (.seq (.region [⟨(some 41), (.mkfn (.func 22) [] [(.t 6), (.t 5), (.t 7), (.t 4)]), none⟩, ⟨(some 9), (.mv (.t 41)), none⟩] false) (.seq (.region [⟨(some 42), (.mv (.t 9)), none⟩, ⟨(some 43), (.bslice 1 1 [(.int .i64 0)] [(0, (.c (.int .i64 8)))]), none⟩, ⟨(some 44), (.callv (.t 42) [(.t 43)]), none⟩, ⟨(some 45), (.mv (.t 9)), none⟩, ⟨(some 46), (.bslice 1 2 [(.int .i64 0)] [(0, (.c (.int .i64 8))), (1, (.c (.int .i64 8)))]), none⟩, ⟨(some 47), (.callv (.t 45) [(.t 46)]), none⟩, ⟨(some 10), (.mv (.t 44)), none⟩, ⟨(some 11), (.mv (.t 47)), none⟩] false) (.seq (.region [⟨(some 48), (.mv (.t 10)), none⟩, ⟨(some 49), (.mv (.t 11)), none⟩, ⟨(some 50), (.call 16 [(.t 48), (.t 49)]), none⟩, ⟨(some 51), (.mv (.t 50)), none⟩, ⟨(some 52), (.mv (.t 9)), (some (51, true))⟩, ⟨(some 53), (.bslice 1 2 [(.int .i64 0)] [(0, (.c (.int .i64 8))), (1, (.c (.int .i64 9)))]), (some (51, true))⟩, ⟨(some 54), (.callv (.t 52) [(.t 53)]), (some (51, true))⟩, ⟨(some 55), (.mv (.t 9)), (some (51, true))⟩, ⟨(some 56), (.bslice 1 1 [(.int .i64 0)] [(0, (.c (.int .i64 9)))]), (some (51, true))⟩, ⟨(some 57), (.callv (.t 55) [(.t 56)]), (some (51, true))⟩, ⟨(some 58), (.call 16 [(.t 54), (.t 57)]), (some (51, true))⟩, ⟨(some 59), (.pick (.t 51) (.t 58) (.c (.bool false))), none⟩, ⟨(some 60), (.mv (.t 59)), none⟩, ⟨(some 61), (.mv (.t 9)), (some (60, true))⟩, ⟨(some 62), (.bslice 1 1 [(.int .i64 0)] [(0, (.c (.int .i64 7)))]), (some (60, true))⟩, ⟨(some 63), (.callv (.t 61) [(.t 62)]), (some (60, true))⟩, ⟨(some 64), (.mv (.t 9)), (some (60, true))⟩, ⟨(some 65), (.bslice 1 2 [(.int .i64 0)] [(0, (.c (.int .i64 9))), (1, (.c (.int .i64 7)))]), (some (60, true))⟩, ⟨(some 66), (.callv (.t 64) [(.t 65)]), (some (60, true))⟩, ⟨(some 67), (.call 16 [(.t 63), (.t 66)]), (some (60, true))⟩, ⟨(some 68), (.pick (.t 60) (.t 67) (.c (.bool false))), none⟩, ⟨(some 69), (.mv (.t 68)), none⟩, ⟨(some 70), (.mv (.t 9)), (some (69, true))⟩, ⟨(some 71), (.bslice 1 2 [(.int .i64 0)] [(0, (.c (.int .i64 9))), (1, (.c (.int .i64 8)))]), (some (69, true))⟩, ⟨(some 72), (.callv (.t 70) [(.t 71)]), (some (69, true))⟩, ⟨(some 73), (.mv (.t 10)), (some (69, true))⟩, ⟨(some 74), (.call 16 [(.t 72), (.t 73)]), (some (69, true))⟩, ⟨(some 75), (.pick (.t 69) (.t 74) (.c (.bool false))), none⟩, ⟨(some 8), (.mv (.t 75)), none⟩] false) .ret)))))
def c_pandectlaw27_CommencementRevive_1 : VC := (.seq (.region [⟨(some 6), (.mv (.c .nilsl)), none⟩] false) (.seq (.region [⟨(some 10), (.fx (.mk0 28) []), none⟩, ⟨(some 11), (.load false 1 (.t 1)), none⟩, ⟨(some 12), (.app 28 392 [(.int .i64 0), (.int .i64 0), (.int .i64 0), (.int .i64 0), .nilsl, .nilsl, (.int .i64 0), (.int .i64 0), (.int .i64 0), (.int .i64 0), (.int .i64 0), (.int .i64 0), (.str []), .nilsl, .nilsl, .nilsl, .nilsl, .nilsl, (.str []), (.str []), (.int .i64 0), (.int .i64 0), (.str []), (.int .i64 0), (.int .i64 0), (.int .i64 0), (.str []), .nilsl] false (.t 10) (.t 11)), none⟩, ⟨(some 7), (.mv (.t 12)), none⟩] false) (.seq (.seq (.region [⟨(some 13), (.mv (.t 0)), none⟩, ⟨(some 14), (.len false (.t 13)), none⟩, ⟨(some 15), (.mv (.c (.int .i64 0))), none⟩] false) (.block 0 (.loop (.seq (.region [⟨(some 16), (.bin .lss (.t 15) (.t 14)), none⟩] false) (.seq (.cond (.t 16) .skip (.exit 0)) (.seq (.block 1 (.seq (.region [⟨(some 17), (.iaddr 1 (.t 13) (.t 15)), none⟩, ⟨(some 18), (.load false 1 (.t 17)), none⟩, ⟨(some 9), (.mv (.t 18)), none⟩] false) (.region [⟨(some 19), (.mv (.t 7)), none⟩, ⟨(some 20), (.mv (.t 9)), none⟩, ⟨(some 21), (.faddr 0 (.t 2)), none⟩, ⟨(some 22), (.load false 1 (.t 21)), none⟩, ⟨(some 23), (.faddr 1 (.t 2)), none⟩, ⟨(some 24), (.load false 1 (.t 23)), none⟩, ⟨(some 25), (.load false 1 (.t 3)), none⟩, ⟨(some 26), (.build [(.int .i64 0), .nilsl, .nilsl, (.int .i64 0), (.int .i64 0), (.int .i64 0), (.int .i64 0), (.int .i64 0), (.int .i64 0), (.str []), .nilsl, .nilsl, .nilsl, .nilsl, .nilsl, (.str []), (.str []), (.int .i64 0), (.int .i64 0), (.str []), (.int .i64 0), (.int .i64 0), (.int .i64 0), (.str []), .nilsl] [(0, (1, (.t 20))), (20, (1, (.t 22))), (21, (1, (.t 24))), (22, (1, (.t 25)))]), none⟩, ⟨(some 27), (.build [(.int .i64 0), (.int .i64 0), (.int .i64 0), (.int .i64 0), .nilsl, .nilsl, (.int .i64 0), (.int .i64 0), (.int .i64 0), (.int .i64 0), (.int .i64 0), (.int .i64 0), (.str []), .nilsl, .nilsl, .nilsl, .nilsl, .nilsl, (.str []), (.str []), (.int .i64 0), (.int .i64 0), (.str []), (.int .i64 0), (.int .i64 0), (.int .i64 0), (.str []), .nilsl] [(3, (25, (.t 26)))]), none⟩, ⟨(some 28), (.bslice 28 1 [(.int .i64 0), (.int .i64 0), (.int .i64 0), (.int .i64 0), .nilsl, .nilsl, (.int .i64 0), (.int .i64 0), (.int .i64 0), (.int .i64 0), (.int .i64 0), (.int .i64 0), (.str []), .nilsl, .nilsl, .nilsl, .nilsl, .nilsl, (.str []), (.str []), (.int .i64 0), (.int .i64 0), (.str []), (.int .i64 0), (.int .i64 0), (.int .i64 0), (.str []), .nilsl] [(0, (.t 27))]), none⟩, ⟨(some 29), (.app 28 392 [(.int .i64 0), (.int .i64 0), (.int .i64 0), (.int .i64 0), .nilsl, .nilsl, (.int .i64 0), (.int .i64 0), (.int .i64 0), (.int .i64 0), (.int .i64 0), (.int .i64 0), (.str []), .nilsl, .nilsl, .nilsl, .nilsl, .nilsl, (.str []), (.str []), (.int .i64 0), (.int .i64 0), (.str []), (.int .i64 0), (.int .i64 0), (.int .i64 0), (.str []), .nilsl] false (.t 19) (.t 28)), none⟩, ⟨(some 7), (.mv (.t 29)), none⟩] false))) (.region [⟨(some 30), (.bin .add (.t 15) (.c (.int .i64 1))), none⟩, ⟨(some 15), (.mv (.t 30)), none⟩] false))))))) (.seq (.region [⟨(some 31), (.load true 3 (.t 4)), none⟩, ⟨(some 32), (.load true 28 (.t 2)), none⟩, ⟨(some 33), (.mv (.t 7)), none⟩, ⟨(some 34), (.call 21 [(.t 31), (.t 32), (.t 33)]), none⟩, ⟨(some 6), (.mv (.t 34)), none⟩] false) .ret))))
def zeroUn : Un := .mk 0 0 0 0 [] [] [] []
/-- An order that a law types out. -/
def ordE (kind act item day : Int) (event : Str) : EI := ⟨0, 0, 0, .mk kind [] [] 0 0 zeroUn [] [] [] [] ⟨0, 0, []⟩ act item day event []⟩
/-- Its cells as they are built. -/
def rawO (kind act item day : Int) (event : Str) : List PV := [pI 0, pI 0, pI 0, pI kind, .nilsl, .nilsl, pI 0, pI 0, pI 0, pI 0, pI 0, pI 0, .str [], .nilsl, .nilsl, .nilsl, .nilsl, .nilsl, .str [], .str [], pI 0, pI 0, .str [], pI act, pI item, pI day, .str event, .nilsl]
def CellsV (h : Heap) : List PV → List PV → Prop
  | [], [] => True
  | a :: r, b :: q => View h a b ∧ CellsV h r q
  | _, _ => False
theorem CellsV.at {h : Heap} : ∀ {l q : List PV}, CellsV h l q → ∀ j, View h (PV.nth l j) (PV.nth q j)
  | [], [], _, j => View.refl _ _
  | a :: r, b :: q, hv, 0 => hv.1
  | a :: r, b :: q, hv, j + 1 => by
    have := CellsV.at hv.2 j
    simpa [PV.nth] using this
theorem rawO_view (h : Heap) (kind act item day : Int) (event : Str) : CellsV h (rawO kind act item day event) (ordE kind act item day event).enc := by
  rw [EI.enc, It.enc_eq]
  refine ⟨View.refl _ _, View.refl _ _, View.refl _ _, View.refl _ _, View.nil _ _, View.nil _ _, View.refl _ _, View.refl _ _, View.refl _ _, View.refl _ _, View.refl _ _, View.refl _ _, View.refl _ _, View.nil _ _, View.nil _ _, View.nil _ _, View.nil _ _, View.nil _ _, View.refl _ _, View.refl _ _, View.refl _ _, View.refl _ _, View.refl _ _, View.refl _ _, View.refl _ _, View.refl _ _, View.refl _ _, View.nil _ _, trivial⟩
/-- A list and orders behind it. -/
theorem orders_view {h : Heap} {id n : Nat} {fz : Bool} {l m : List EI} {raw : List (List PV)} (hg : h.get id = some (.arr fz 28 (l.map EI.enc ++ raw))) (hn : n = l.length + m.length) (hm : raw.length = m.length) (hv : ∀ i, i < m.length → CellsV h (PV.row raw i) (PV.row (m.map EI.enc) i)) :
    View h (.own id 0 n) (.sl 28 ((l ++ m).map EI.enc)) := by
  refine View.ownV hg (by simp; omega) (by simp; omega) (fun i hi => ?_) (fun i j hi hj => ?_)
  · rw [PV.row, rowm (by simp; omega), ei_len28]
  · simp only [Nat.zero_add, PV.row, List.map_append, List.getD_eq_getElem?_getD]
    by_cases h1 : i < l.length
    · rw [List.getElem?_append_left (by simpa using h1), List.getElem?_append_left (by simpa using h1)]
      exact View.refl _ _
    · rw [List.getElem?_append_right (by simp; omega), List.getElem?_append_right (by simp; omega)]
      have := CellsV.at (hv (i - l.length) (by omega)) j
      simpa [PV.row, List.getD_eq_getElem?_getD] using this
theorem sp_Revive_1 (a : Sta) (d : EI) (l : List EI) (day : Int) (ks : List Int) (hl : l.length ≤ 40) (hk : ks.length ≤ 2) :
    PCall Try.prog 22 [.sl 1 (ks.map fun x => [pI x]), .ro [.sl 28 (l.map EI.enc)], .ro d.enc, .ro [pI day], .ro a.enc] (.sl 2 ((forceS a d (l ++ ks.map fun k => ordE k d.act d.item day [])).map Sp.enc)) := by
  refine PCall_intro ?_ (closed_sps _) (by simp only [ClosedL, List.mem_cons, List.not_mem_nil, or_false, forall_eq_or_imp, forall_eq, false_implies, implies_true]; repeat' (first | exact cI _ | exact cS _ | exact cB _ | exact closed_fn0 _ | exact closed_nilsl | exact closed_agg (Un.closed _) | exact closed_agg (It.closed _) | exact closed_agg (EI.closed _) | exact closed_agg (Ac.closed _) | exact closed_agg (Wd.closed _) | exact closed_agg (St.closed _) | exact closed_agg (Sta.closed _) | exact closed_eis _ | exact closed_acs _ | exact closed_strs _ | exact closed_map (fun w _ => Wd.closed w) | exact closed_map (fun w _ => St.closed w) | exact closed_map (fun w _ => Un.closed w) | exact closed_map (fun w _ => It.closed w) | exact closed_sc _ | exact closed_sps _ | exact closed_agg (Sp.closed _) | exact closed_ro (EI.closed _) | exact closed_ro (Sta.closed _) | exact closed_ro (It.closed _) | exact closed_ro (by simp only [List.mem_cons, List.not_mem_nil, or_false, forall_eq]; first | exact cI _ | exact cS _ | exact closed_eis _) | refine And.intro ?_ ?_))
  refine ACall_fn (vc := c_pandectlaw27_CommencementRevive_1) (ts := [.t 6]) Go.Proofs.Try.func22 (by kernel_rfl) rfl rfl (Nat.le_of_ble_eq_true rfl) (by kernel_rfl) ?_
  unfold c_pandectlaw27_CommencementRevive_1
  refine VW_seq (VW_region [0, 1, 2, 3, 4] ?_)
  simp only [OpsW_nil, OpsW_n, StepW, pok, pval, VA.ev, Env.get, Env.put, Env.keep, argEnv, thenQ, Heap.nil, Nat.succ_ne_self, Nat.reduceEqDiff, Nat.reduceAdd, ite_true, ite_false, true_and, reduceCtorEq, Nat.zero_add]
  refine VW_seq (VW_region [0, 2, 3, 4, 7] ?_)
  simp only [OpsW_nil, OpsW_n, StepW, pok, pval, VA.ev, Env.get, Env.put, Env.keep, thenQ, aggV, locCells, locOk, PV.nth, Heap.get, Heap.del, HL.get, HL.del, Heap.push, Nat.le_refl, Nat.succ_ne_self, killed, oldId, oldRows, oldOk, srcRows, srcOk, fxV, fxOk, List.map, List.length, List.getD_cons_zero, List.take, List.take_succ_cons, List.nil_append, Nat.reduceEqDiff, Nat.reduceAdd, Bool.false_eq_true, ite_true, ite_false, true_and, and_true, implies_true, reduceCtorEq, Nat.zero_add, Nat.add_zero, List.length_cons, List.length_nil, List.length_map]
  refine ⟨by omega, by omega, ?_⟩
  refine VW_seq ?_
  refine VW_seq (VW_region [2, 3, 4, 7, 13, 14, 15] ?_)
  simp only [OpsW_nil, OpsW_n, StepW, pok, pval, VA.ev, Env.get, Env.put, Env.keep, thenQ, lenV, lenOk, Nat.succ_ne_self, Nat.reduceEqDiff, ite_true, ite_false, true_and, reduceCtorEq, List.length_map]
  refine VW_block ?_
  refine VW_loop (σ := { s : Nat × Nat × Nat // s.1 ≤ ks.length ∧ s.2.1 < s.2.2 })
    (fun s => ([(2, .ro d.enc), (3, .ro [pI day]), (4, .ro a.enc), (7, .own s.1.2.1 0 (l.length + s.1.1)), (13, .sl 1 (ks.map fun x => [pI x])), (14, pI ks.length), (15, pI s.1.1)],
      ⟨[(s.1.2.1, .arr false 28 (l.map EI.enc ++ (ks.take s.1.1).map fun k => rawO k d.act d.item day []))], s.1.2.2⟩)) (fun s => ks.length - s.1.1) ⟨(0, 1, 2), by simp⟩ ?_ ?_ ?_
  · simp only [Env.get, Nat.succ_ne_self, Env.le, Nat.reduceEqDiff, ite_true, ite_false, true_and, and_true, Nat.add_zero]
    rfl
  · simp only [Heap.get, Heap.le, HL.get, HL.le, Nat.le_refl, List.take, ite_true, and_true, List.append_nil, List.map_nil]
  rintro ⟨⟨k, id, n⟩, hk', hn⟩
  simp only [] at hk' hn ⊢
  have qi0 : (id = n) = False := by simp; omega
  have qi1 : (n = id) = False := by simp; omega
  have qi2 : ∀ j, (n + j = id) = False := fun j => by simp; try omega
  have qi3 : ∀ j, (id = n + j) = False := fun j => by simp; try omega
  have qi4 : ∀ j, (n + (j + 1) = n) = False := fun j => by simp; try omega
  have qi5 : ∀ j, (n = n + (j + 1)) = False := fun j => by simp; try omega
  have qi6 : (n + 1 + 1 = n) = False := by simp; try omega
  have qi7 : (n = n + 1 + 1) = False := by simp; try omega
  have qi8 : (n + 1 + 1 + 1 = n) = False := by simp; try omega
  have qi9 : (n = n + 1 + 1 + 1) = False := by simp; try omega
  refine VW_seq (VW_region [2, 3, 4, 7, 13, 14, 15, 16] ?_)
  simp only [OpsW_nil, OpsW_n, StepW, pok, pval, VA.ev, Env.get, Env.put, Env.keep, thenQ, intV, binV, binOk, Heap.get, Heap.le, HL.le, Nat.succ_ne_self, Env.le, Nat.reduceEqDiff, ite_true, ite_false, true_and, and_true]
  refine VW_seq ?_
  refine VW_cond rfl (fun h1 => ?_) (fun h1 => ?_)
  · refine VW_skip ?_
    try simp only [thenQ]
    simp only [decide_eq_true_eq] at h1
    have ka : k < ks.length := by omega
    refine VW_seq ?_
    refine VW_block ?_
    refine VW_seq (VW_region [2, 3, 4, 7, 9, 13, 14, 15] ?_)
    simp only [OpsW_nil, OpsW_n, StepW, pok, pval, VA.ev, Env.get, Env.put, Env.keep, thenQ, aggV, isInt, numOf, lenV, locCells, locOk, iaddrV, iaddrOk, PV.nth, PV.row, Nat.le_refl, Nat.succ_ne_self, List.length, List.getD_cons_zero, List.take, List.take_succ_cons, Nat.reduceEqDiff, Bool.false_eq_true, ite_true, ite_false, true_and, and_true, implies_true, Nat.zero_add, List.length_cons, Int.toNat_natCast, List.length_map, rowm ka]
    repeat (with_reducible refine And.intro ?_ ?_; first | omega | (with_reducible constructor <;> omega) | exact False.elim | exact True.intro)
    have hst : l.map EI.enc ++ (ks.take (k + 1)).map (fun k => rawO k d.act d.item day []) = (l.map EI.enc ++ (ks.take k).map (fun k => rawO k d.act d.item day [])) ++ [rawO ks[k] d.act d.item day []] := by
      rw [List.take_add_one, List.getElem?_eq_getElem ka, List.map_append, List.append_assoc]; rfl
    have hB : (l.map EI.enc ++ (ks.take k).map (fun k => rawO k d.act d.item day [])).length = l.length + k := by simp; omega
    generalize l.map EI.enc ++ (ks.take k).map (fun k => rawO k d.act d.item day []) = B at hst hB ⊢
    have tk : List.take (l.length + k) B = B := List.take_of_length_le (by omega)
    refine VW_region [2, 3, 4, 7, 13, 14, 15] ?_
    simp only [OpsW_nil, OpsW_n, StepW, pok, pval, VA.ev, Env.get, Env.put, Env.keep, thenQ, blockQ, aggV, faddrV, isAddr, locCells, locOk, fillV, fillOk, PV.cells, PV.fits, overlay, PV.nth, Heap.get, Heap.del, HL.get, HL.del, Heap.push, Nat.le_refl, Nat.succ_ne_self, killed, oldId, oldRows, oldOk, srcRows, srcOk, elemsV, elemsOk, List.set, List.replicate, List.length, List.getD_cons_zero, List.take, List.drop, List.take_succ_cons, List.drop_succ_cons, List.cons_append, List.nil_append, Nat.reduceEqDiff, Nat.reduceAdd, Nat.reduceLT, Nat.reduceLeDiff, Bool.false_eq_true, ite_true, ite_false, true_and, and_true, implies_true, BEq.rfl, Nat.zero_add, List.length_cons, qi0, qi1, qi2, qi3, qi4, qi5, qi6, qi7, qi8, qi9, ei_t0, ei_t1, ei_len28, ei_l1, tk, hB]
    refine ⟨by omega, by omega, ?_⟩
    refine VW_region [2, 3, 4, 7, 13, 14, 15] ?_
    simp only [OpsW_nil, OpsW_n, StepW, pok, pval, VA.ev, Env.get, Env.put, Env.keep, thenQ, intV, binV, binOk, HL.get, Nat.succ_ne_self, Nat.reduceEqDiff, ite_true, ite_false, true_and, qi0, qi1, qi2, qi3, qi4, qi5, qi6, qi7, qi8, qi9, w64 (n := (k : Int) + 1) (by omega) (by omega)]
    refine ⟨⟨(k + 1, n + 1, n + 2), by simp only []; omega, by simp only []; omega⟩, ?_, ?_, ?_⟩
    · simp [Nat.add_assoc]
    · rw [hst]; simp [rawO]
    · simp only []; omega
  · refine VW_exit ?_
    try simp only [thenQ, blockQ, retQ, ite_true]
    simp only [decide_eq_false_iff_not] at h1
    obtain rfl : k = ks.length := by omega
    rw [List.take_length]
    refine VW_seq (VW_region [6] ?_)
    simp only [OpsW_nil, OpsW_n, StepW, pok, pval, VA.ev, Env.get, Env.put, Env.keep, thenQ, aggV, locCells, locOk, PV.nth, Nat.le_refl, Nat.succ_ne_self, List.map, List.length, List.getD_cons_zero, List.take, List.take_succ_cons, Nat.reduceEqDiff, Nat.reduceAdd, Bool.true_eq_false, ite_true, ite_false, true_and, and_true, Nat.zero_add, List.length_cons, imp_self, qi0, qi1, qi2, qi3, qi4, qi5, qi6, qi7, qi8, qi9, ei_len28, ei_take, Sta.enc]
    refine ACall_f [.agg a.enc, .agg d.enc, .sl 28 ((l ++ ks.map fun k => ordE k d.act d.item day []).map EI.enc)] ⟨View.refl _ _, View.refl _ _, orders_view (fz := false) (raw := ks.map fun k => rawO k d.act d.item day []) (by simp [Heap.get, HL.get]) (by simp) (by simp) (fun i hi => ?_), trivial⟩ (ACall_p (sp_commencement_InForce a d _ (by simp; omega)) ?_)
    · have hi' : i < ks.length := by simpa using hi
      simp only [PV.row, List.map_map]
      rw [rowm hi', rowm hi']
      exact rawO_view _ _ _ _ _ _
    try simp only []
    refine VW_ret ?_
    try simp only [Env.get, retQ, resV, resOk, RS.ev, RS.ok, ite_true, true_and, and_true]
    exact View.refl _ _
/-- The kinds as 'tell' is handed them. -/
theorem kinds_view {h : Heap} {id n : Nat} {ks : List Int} {es : List (List PV)} (hg : h.get id = some (.arr false 1 es)) (he : es = ks.map fun x => [pI x]) (hn : n = ks.length) {x1 x2 x3 x4 : List PV} : Views h [.own id 0 n, .ro x1, .ro x2, .ro x3, .ro x4] [.sl 1 (ks.map fun x => [pI x]), .ro x1, .ro x2, .ro x3, .ro x4] := by
  subst he
  exact ⟨View.own_all hg (by simpa using hn), View.refl _ _, View.refl _ _, View.refl _ _, View.refl _ _, trivial⟩
theorem tell_call (a : Sta) (d : EI) (l : List EI) (day : Int) (ks : List Int) (hl : l.length ≤ 40) (hk : ks.length ≤ 2) {h : Heap} {id n : Nat} {es : List (List PV)} (hg : h.get id = some (.arr false 1 es)) (he : es = ks.map fun x => [pI x]) (hn : n = ks.length) {K : PV → Heap → Prop}
    (hK : K (.sl 2 ((forceS a d (l ++ ks.map fun k => ordE k d.act d.item day [])).map Sp.enc)) ⟨[], h.top⟩) :
    ACall Try.prog 22 [.own id 0 n, .ro [.sl 28 (l.map EI.enc)], .ro d.enc, .ro [pI day], .ro a.enc] h K :=
  ACall_f _ (kinds_view hg he hn) (ACall_p (sp_Revive_1 a d l day ks hl hk) hK)
theorem ord_about {d : EI} {k day : Int} : aboutS d k d.item day (ordE k d.act d.item day []) := ⟨rfl, rfl, rfl, rfl, .inl rfl⟩
theorem revive_laws (a : Sta) (d : EI) (l : List EI) (day : Int) (hd : ¬ (d.it.kind < 0 ∨ d.it.kind > 6)) :
    (forceS a d (l ++ [8].map fun k => ordE k d.act d.item day []) = forceS a d (l ++ [8, 8].map fun k => ordE k d.act d.item day [])) ∧
    (forceS a d (l ++ [8, 9].map fun k => ordE k d.act d.item day []) = forceS a d (l ++ [9].map fun k => ordE k d.act d.item day [])) ∧
    (forceS a d (l ++ [7].map fun k => ordE k d.act d.item day []) = forceS a d (l ++ [9, 7].map fun k => ordE k d.act d.item day [])) ∧
    (forceS a d (l ++ [9, 8].map fun k => ordE k d.act d.item day []) = forceS a d (l ++ [8].map fun k => ordE k d.act d.item day [])) := by
  have hf : ∀ ks : List Int, (∀ k ∈ ks, k ≠ 10) → forceS a d (l ++ ks.map fun k => ordE k d.act d.item day []) = (ks.map fun k => ordE k d.act d.item day []).foldl (turnS d.act d.item) (forceS a d l) := fun ks hk =>
    force_app a d l _ (fun x hx => by obtain ⟨k, hk', rfl⟩ := List.mem_map.1 hx; exact hk k hk') hd
  rw [hf _ (by decide), hf _ (by decide), hf _ (by decide), hf _ (by decide), hf _ (by decide), hf _ (by decide), hf _ (by decide)]
  have t7 := fun s => about_turn7 (d := d) (ord_about (k := 7) (day := day)) s
  have t8 := fun s => about_turn8 (d := d) (ord_about (k := 8) (day := day)) s
  have t9 := fun s => about_turn9 (d := d) (ord_about (k := 9) (day := day)) s
  simp only [List.map_cons, List.map_nil, List.foldl_cons, List.foldl_nil, t7, t8, t9]
  exact ⟨(trunc_trunc _ _).symm, extend_trunc _ _, (extend_extend _ _).symm, trunc_extend _ _⟩
theorem law_CommencementRevive (a : Sta) (d : EI) (l : List EI) (day : Int) (_ : a.ok) (_ : d.ok) (_ : okL EI.ok l) (_ : i64 day) (hz : l.length * 392 ≤ 140737488351232) :
    PCall Try.prog 7 [.agg a.enc, .agg d.enc, .sl 28 (l.map EI.enc), pI day] (.bool true) := by
  refine PCall_intro ?_ (cB _) (by simp only [ClosedL, List.mem_cons, List.not_mem_nil, or_false, forall_eq_or_imp, forall_eq, false_implies, implies_true]; repeat' (first | exact cI _ | exact cS _ | exact cB _ | exact closed_fn0 _ | exact closed_nilsl | exact closed_agg (Un.closed _) | exact closed_agg (It.closed _) | exact closed_agg (EI.closed _) | exact closed_agg (Ac.closed _) | exact closed_agg (Wd.closed _) | exact closed_agg (St.closed _) | exact closed_agg (Sta.closed _) | exact closed_eis _ | exact closed_acs _ | exact closed_strs _ | exact closed_map (fun w _ => Wd.closed w) | exact closed_map (fun w _ => St.closed w) | exact closed_map (fun w _ => Un.closed w) | exact closed_map (fun w _ => It.closed w) | exact closed_sc _ | exact closed_sps _ | exact closed_agg (Sp.closed _) | exact closed_ro (EI.closed _) | exact closed_ro (Sta.closed _) | exact closed_ro (It.closed _) | exact closed_ro (by simp only [List.mem_cons, List.not_mem_nil, or_false, forall_eq]; first | exact cI _ | exact cS _ | exact closed_eis _) | refine And.intro ?_ ?_))
  refine ACall_fn (vc := c_pandectlaw27_CommencementRevive) (ts := [.t 8]) Go.Proofs.Try.func7 (by kernel_rfl) rfl rfl (Nat.le_of_ble_eq_true rfl) (by kernel_rfl) ?_
  unfold c_pandectlaw27_CommencementRevive
  refine VW_seq (VW_region [4, 5, 6, 7] ?_)
  simp only [OpsW_nil, OpsW_n, StepW, pok, pval, VA.ev, Env.get, Env.put, Env.keep, argEnv, thenQ, PV.cells, PV.fits, Heap.push, Heap.nil, Nat.succ_ne_self, List.length, Nat.reduceEqDiff, Nat.reduceAdd, ite_true, ite_false, true_and, reduceCtorEq, BEq.rfl, Nat.zero_add, Sta.enc, ei_len28]
  refine VW_freeze [(4, .ro a.enc), (5, .ro d.enc), (6, .ro [.sl 28 (l.map EI.enc)]), (7, .ro [pI day])] ⟨View.loc (z := 3) (fz := false) (es := [a.enc]) rfl (by simp) rfl (by simp [Sta.enc]), View.loc (z := 28) (fz := false) (es := [d.enc]) rfl (by simp) rfl (by simp [ei_len28]), View.loc (z := 1) (fz := false) (es := [[.sl 28 (l.map EI.enc)]]) rfl (by simp) rfl (by simp), View.loc (z := 1) (fz := false) (es := [[pI day]]) rfl (by simp) rfl (by simp), trivial⟩ ?_
  try simp only []
  refine VW_seq ?_
  refine VW_seqJ (σ := Unit) [4, 5, 6, 7, 39] (fun _ => ([(4, .ro a.enc), (5, .ro d.enc), (6, .ro [.sl 28 (l.map EI.enc)]), (7, .ro [pI day]), (39, .bool (!fewB (d :: l) || (decide ((100 : Int) < a.event.length) || (decide (d.it.kind < 0) || decide (6 < d.it.kind)))))], ⟨[], 20⟩)) ?_ (fun _ => ?_)
  · simp only [OpsW_n, StepW, pok, pval, VA.ev, Env.get, Env.put, Env.keep, unV, unOk, Heap.le, HL.le, Nat.succ_ne_self, Env.le, List.map, Nat.reduceEqDiff, ite_true, ite_false, true_and, and_true]
    refine ACall_p run.awake ?_
    simp only [OpsW_n, OpsW_y, StepW, pok, pval, VA.ev, Env.get, Env.put, pickV, isBool, aggV, unV, unOk, locCells, locOk, PV.cells, PV.fits, PV.nth, Heap.get, Heap.del, HL.get, HL.del, Heap.push, Nat.le_refl, Nat.succ_ne_self, killed, oldId, oldRows, oldOk, srcRows, srcOk, elemsV, elemsOk, List.map, List.set, List.replicate, List.length, List.getD_cons_zero, List.take, List.drop, List.take_succ_cons, List.cons_append, List.nil_append, Nat.reduceEqDiff, Nat.reduceAdd, Nat.reduceLT, Bool.false_eq_true, Bool.true_eq_false, ite_true, ite_false, true_and, and_true, implies_true, BEq.rfl, Nat.zero_add, List.length_cons, imp_self, Bool.not_true, List.length_map, ei_len28, ei_take]
    refine ⟨by omega, by omega, ACall_v [.sl 28 ((d :: l).map EI.enc)] ⟨View.own_all (fz := false) rfl (by simp; omega), trivial⟩ (sp_pandectref27_Few (d :: l) (by simp; omega)) (scalar_bool _) ?_⟩
    cases e1 : fewB (d :: l) with
    | false =>
      try simp only [OpsW_nil, OpsW_n, OpsW_xf, StepW, pok, pval, VA.ev, Env.get, Env.put, pickV, isBool, Nat.succ_ne_self, Nat.reduceEqDiff, Nat.reduceLeDiff, ite_true, ite_false, true_and, and_true, Bool.not_false]
      exact ⟨(), rfl⟩
    | true =>
      cases e2 : decide ((100 : Int) < a.event.length) with
      | true =>
        try simp only [OpsW_nil, OpsW_n, OpsW_y, OpsW_xf, StepW, pok, pval, VA.ev, Env.get, Env.put, pickV, isBool, aggV, intV, binV, binOk, lenV, faddrV, isAddr, locCells, locOk, lenOk, PV.nth, Nat.le_refl, Nat.succ_ne_self, List.length, List.getD_cons_zero, List.take, List.drop, List.take_succ_cons, Nat.reduceEqDiff, Nat.reduceLeDiff, Bool.false_eq_true, ite_true, ite_false, true_and, and_true, implies_true, Nat.zero_add, List.length_cons, Bool.not_true, Sta.enc, e2]
        exact ⟨(), rfl⟩
      | false =>
        cases e3 : decide (d.it.kind < 0) with
        | true =>
          try simp only [OpsW_nil, OpsW_n, OpsW_y, OpsW_xf, StepW, pok, pval, VA.ev, Env.get, Env.put, pickV, isBool, aggV, intV, binV, binOk, lenV, faddrV, isAddr, locCells, locOk, lenOk, PV.nth, Nat.le_refl, Nat.succ_ne_self, List.length, List.getD_cons_zero, List.take, List.drop, List.take_succ_cons, Nat.reduceEqDiff, Nat.reduceLeDiff, Bool.false_eq_true, ite_true, ite_false, true_and, and_true, implies_true, Nat.zero_add, List.length_cons, Bool.not_true, Sta.enc, e2, ei_d3, it_t0, It.enc_len, e3]
          exact ⟨(), rfl⟩
        | false =>
          try simp only [OpsW_nil, OpsW_n, OpsW_y, StepW, pok, pval, VA.ev, Env.get, Env.put, pickV, isBool, aggV, intV, binV, binOk, lenV, faddrV, isAddr, locCells, locOk, lenOk, PV.nth, Nat.le_refl, Nat.succ_ne_self, List.length, List.getD_cons_zero, List.take, List.drop, List.take_succ_cons, Nat.reduceEqDiff, Nat.reduceLeDiff, Bool.false_eq_true, ite_true, ite_false, true_and, and_true, implies_true, Nat.zero_add, List.length_cons, Bool.not_true, Sta.enc, e2, ei_d3, it_t0, It.enc_len, e3]
          exact ⟨(), rfl⟩
  refine VW_cond rfl (fun h1 => ?_) (fun h1 => ?_)
  · refine VW_seq (VW_region [8] ?_)
    simp only [OpsW_nil, OpsW_n, StepW, pok, pval, VA.ev, Env.get, Env.put, Env.keep, thenQ, List.map, Nat.reduceEqDiff, ite_true, ite_false, true_and]
    refine ACall_p run.awake ?_
    try simp only [OpsW_nil, OpsW_n, OpsW_y, OpsW_xt, OpsW_xf, OpsW_u, StepW, guardOf, DrawW_nil, DrawW_n, DrawW_y, DrawW_xt, DrawW_xf, DrawW_u, DrawH, VOp.isIaddr, QW, dok, dval, VOp.pure, VOp.simple, VOp.det, pok, pval, VA.ev, Env.get, Env.put, Env.keep, argEnv, thenQ, blockQ, retQ, resV, resOk, RS.ev, RS.ok, gd, pickV, isBool, aggV, intV, binV, binOk, strV, binbV, boolV, binbOk, unV, unOk, convV, isInt, isStr, numOf, loV, hiV, lenV, boundOk, sliceV, sliceOk, faddrV, isAddr, locCells, locOk, cellsOfAgg, isAggP, iaddrV, iaddrOk, idxV, idxOk, lenOk, extV, extOk, fillV, fillOk, mmV, PV.cells, PV.fits, overlay, PV.nth, PV.row, lookV, mapRows, mapOk, keysOk, keyOk, keyEq, mapFind, mapPut, mapHas, mapsetV, Heap.get, Heap.set, Heap.del, Heap.le, HL.get, HL.set, HL.del, HL.le, Heap.push, Heap.nil, Nat.le_refl, Nat.add_eq_left, Nat.left_eq_add, Nat.succ_ne_self, Nat.one_ne_zero, Env.le, killed, oldId, oldRows, oldOk, srcRows, srcOk, elemsV, elemsOk, eqOk, ekOk, eqCells, eqCell, storeV, storeOk, AB.live, pxV, pxOk, fxV, fxOk, isPtr, slLike, isNil, notNil, List.map, List.set, List.replicate, List.length, List.getD_cons_zero, List.getD_cons_succ, List.getD_nil, List.take, List.drop, List.take_zero, List.drop_zero, List.take_succ_cons, List.drop_succ_cons, List.append, List.cons_append, List.nil_append, Option.map, Nat.reduceEqDiff, Nat.reduceAdd, Nat.reduceLT, Nat.reduceLeDiff, Nat.reduceSub, Nat.reduceMul, reduceIte, Bool.false_eq_true, Bool.true_eq_false, ite_true, ite_false, if_true, if_false, true_and, and_true, implies_true, forall_const, ne_eq, not_false_eq_true, reduceCtorEq, BEq.rfl, beq_self_eq_true, Option.some.injEq, Nat.zero_add, Nat.add_zero, List.length_cons, List.length_nil, true_implies, imp_self, Int.reduceToNat, Int.toNat_natCast, Bool.not_false, Bool.not_true]
    refine VW_ret ?_
    try simp only [Env.get, thenQ, retQ, resV, resOk, RS.ev, RS.ok, ite_true, true_and, and_true]
    exact View.refl _ _
  simp only [Bool.or_eq_false_iff, Bool.not_eq_false', decide_eq_false_iff_not] at h1
  obtain ⟨hf, h2, h3, h4⟩ := h1
  have h40 := few_len hf
  obtain ⟨r1, r2, r3, r4⟩ := revive_laws a d l day (by omega)
  have fl := fun m => (force_canon a d (l ++ m)).2
  refine VW_skip ?_
  try simp only [thenQ]
  refine VW_seq (VW_region [9] ?_)
  simp only [OpsW_nil, OpsW_n, StepW, pok, pval, VA.ev, Env.get, Env.put, Env.keep, thenQ, Nat.succ_ne_self, List.map, Nat.reduceEqDiff, ite_true, ite_false, true_and]
  refine VW_seq (VW_region [9, 10, 11] ?_)
  simp only [OpsW_nil, OpsW_n, StepW, pok, pval, VA.ev, Env.get, Env.put, Env.keep, thenQ, PV.cells, PV.fits, Heap.push, Nat.succ_ne_self, elemsV, elemsOk, List.map, List.set, List.replicate, List.cons_append, List.nil_append, Nat.reduceEqDiff, Nat.reduceAdd, Nat.reduceLT, ite_true, ite_false, true_and, and_true, BEq.rfl]
  refine tell_call a d l day [8] h40 (by simp) rfl rfl rfl ?_
  simp only [List.map, Nat.reduceAdd]
  refine tell_call a d l day [8, 8] h40 (by simp) rfl rfl rfl ?_
  simp only [List.map]
  simp only [List.map_cons, List.map_nil] at r1 r2 r3 r4
  have b1 := decide_eq_true r1
  have b2 := decide_eq_true r2
  have b3 := decide_eq_true r3
  have b4 := decide_eq_true r4
  have fl' : ∀ m : List EI, m.length ≤ 2 → (forceS a d (l ++ m)).length ≤ 100000 := fun m hm => by
    have := fl m
    simp at this; omega
  refine VW_seq (VW_region [8] ?_)
  simp only [OpsW_n, StepW, pok, pval, VA.ev, Env.get, Env.put, Env.keep, thenQ, Nat.succ_ne_self, List.map, Nat.reduceEqDiff, ite_true, ite_false, true_and]
  refine ACall_p (sp_pandectref02_Same _ _ (fl' _ (by simp)) (fl' _ (by simp))) ?_
  try simp only [OpsW_n, OpsW_y, StepW, pok, pval, VA.ev, Env.get, Env.put, pickV, isBool, PV.cells, PV.fits, Heap.push, Nat.succ_ne_self, elemsV, elemsOk, List.map, List.set, List.replicate, List.cons_append, List.nil_append, Nat.reduceEqDiff, Nat.reduceAdd, Nat.reduceLT, ite_true, ite_false, true_and, and_true, BEq.rfl, b1]
  refine tell_call a d l day [8, 9] h40 (by simp) rfl rfl rfl ?_
  simp only [List.map, Nat.reduceAdd]
  refine tell_call a d l day [9] h40 (by simp) rfl rfl rfl ?_
  simp only [List.map]
  refine ACall_p (sp_pandectref02_Same _ _ (fl' _ (by simp)) (fl' _ (by simp))) ?_
  try simp only [OpsW_n, OpsW_y, StepW, pok, pval, VA.ev, Env.get, Env.put, pickV, isBool, PV.cells, PV.fits, Heap.push, Nat.succ_ne_self, elemsV, elemsOk, List.map, List.set, List.replicate, List.cons_append, List.nil_append, Nat.reduceEqDiff, Nat.reduceAdd, Nat.reduceLT, ite_true, ite_false, true_and, and_true, BEq.rfl, b2]
  refine tell_call a d l day [7] h40 (by simp) rfl rfl rfl ?_
  simp only [List.map, Nat.reduceAdd]
  refine tell_call a d l day [9, 7] h40 (by simp) rfl rfl rfl ?_
  simp only [List.map]
  refine ACall_p (sp_pandectref02_Same _ _ (fl' _ (by simp)) (fl' _ (by simp))) ?_
  try simp only [OpsW_nil, OpsW_n, OpsW_y, StepW, pok, pval, VA.ev, Env.get, Env.put, pickV, isBool, PV.cells, PV.fits, Heap.push, Nat.succ_ne_self, elemsV, elemsOk, List.map, List.set, List.replicate, List.cons_append, List.nil_append, Nat.reduceEqDiff, Nat.reduceAdd, Nat.reduceLT, ite_true, ite_false, true_and, and_true, BEq.rfl, b3]
  refine tell_call a d l day [9, 8] h40 (by simp) rfl rfl rfl ?_
  simp only [List.map]
  refine ACall_p (sp_pandectref02_Same _ _ (fl' _ (by simp)) (fl' _ (by simp))) ?_
  try simp only [b4]
  refine VW_ret ?_
  try simp only [Env.get, retQ, resV, resOk, RS.ev, RS.ok, ite_true, true_and, and_true]
  exact View.refl _ _
end Go.Proofs.Ytepmaobfbfbecaa.w

