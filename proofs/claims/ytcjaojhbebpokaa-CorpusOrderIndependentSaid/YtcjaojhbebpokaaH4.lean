/-
  Walks: the enacted items, of the program and of the reference.
-/
import Derived.Test.YtcjaojhbebpokaaH2
set_option linter.all false
namespace Go.Proofs.Ytcjaojhbebpokaa.w
open Go Go.VM
set_option maxRecDepth 20000
set_option maxHeartbeats 0
set_option pp.deepTerms false
def c_corpus_EnactedItems : VC := (.seq (.region [⟨(some 2), (.mv (.c .nilsl)), none⟩] false) (.seq (.region [⟨(some 3), (.mv (.c .nilsl)), none⟩] false) (.seq (.region [⟨(some 12), (.mv (.t 0)), none⟩, ⟨(some 13), (.call 25 [(.t 12)]), none⟩, ⟨(some 4), (.mv (.t 13)), none⟩] false) (.seq (.region [⟨(some 14), (.mv (.t 4)), none⟩, ⟨(some 15), (.call 32 [(.t 14)]), none⟩, ⟨(some 5), (.mv (.t 15)), none⟩] false) (.seq (.seq (.region [⟨(some 16), (.mv (.t 4)), none⟩, ⟨(some 17), (.len false (.t 16)), none⟩, ⟨(some 18), (.mv (.c (.int .i64 0))), none⟩] false) (.block 0 (.loop (.seq (.region [⟨(some 19), (.bin .lss (.t 18) (.t 17)), none⟩] false) (.seq (.cond (.t 19) .skip (.exit 0)) (.seq (.block 1 (.seq (.region [⟨(some 20), (.iaddr 7 (.t 16) (.t 18)), none⟩, ⟨(some 21), (.load true 7 (.t 20)), none⟩, ⟨(some 7), (.alloc [(.int .i64 0), (.str []), (.int .i64 0), (.int .i64 0), (.int .i64 0), (.str []), .nilsl]), none⟩, ⟨none, (.store 7 (.t 7) (.t 21)), none⟩] false) (.seq (.region [⟨(some 22), (.load true 7 (.t 7)), none⟩, ⟨(some 23), (.call 33 [(.t 22)]), none⟩, ⟨(some 24), (.len false (.t 23)), none⟩, ⟨(some 25), (.mv (.c (.int .i64 0))), none⟩] false) (.block 2 (.loop (.seq (.region [⟨(some 26), (.bin .lss (.t 25) (.t 24)), none⟩] false) (.seq (.cond (.t 26) .skip (.exit 2)) (.seq (.block 3 (.seq (.region [⟨(some 27), (.iaddr 28 (.t 23) (.t 25)), none⟩, ⟨(some 28), (.load true 28 (.t 27)), none⟩, ⟨(some 9), (.alloc [(.int .i64 0), (.int .i64 0), (.int .i64 0), (.int .i64 0), .nilsl, .nilsl, (.int .i64 0), (.int .i64 0), (.int .i64 0), (.int .i64 0), (.int .i64 0), (.int .i64 0), (.str []), .nilsl, .nilsl, .nilsl, .nilsl, .nilsl, (.str []), (.str []), (.int .i64 0), (.int .i64 0), (.str []), (.int .i64 0), (.int .i64 0), (.int .i64 0), (.str []), .nilsl]), none⟩, ⟨none, (.store 28 (.t 9) (.t 28)), none⟩] false) (.seq (.seq (.region [⟨(some 30), (.mv (.t 5)), none⟩, ⟨(some 31), (.faddr 0 (.t 9)), none⟩, ⟨(some 32), (.load false 1 (.t 31)), none⟩, ⟨(some 33), (.faddr 1 (.t 9)), none⟩, ⟨(some 34), (.load false 1 (.t 33)), none⟩, ⟨(some 35), (.build [(.int .i64 0), (.int .i64 0)] [(0, (1, (.t 32))), (1, (1, (.t 34)))]), none⟩, ⟨(some 36), (.lookup (.st [.i, .i]) (.agg [(.int .i64 0), .nilsl, .nilsl, (.int .i64 0), (.int .i64 0), (.int .i64 0), (.int .i64 0), (.int .i64 0), (.int .i64 0), (.str []), .nilsl, .nilsl, .nilsl, .nilsl, .nilsl, (.str []), (.str []), (.int .i64 0), (.int .i64 0), (.str []), (.int .i64 0), (.int .i64 0), (.int .i64 0), (.str []), .nilsl]) true (.t 30) (.t 35)), none⟩, ⟨(some 29), (.mv (.t 36)), none⟩, ⟨(some 37), (.ext (.t 29) 0), none⟩, ⟨(some 38), (.ext (.t 29) 1), none⟩, ⟨(some 10), (.alloc [(.int .i64 0), .nilsl, .nilsl, (.int .i64 0), (.int .i64 0), (.int .i64 0), (.int .i64 0), (.int .i64 0), (.int .i64 0), (.str []), .nilsl, .nilsl, .nilsl, .nilsl, .nilsl, (.str []), (.str []), (.int .i64 0), (.int .i64 0), (.str []), (.int .i64 0), (.int .i64 0), (.int .i64 0), (.str []), .nilsl]), none⟩, ⟨none, (.store 25 (.t 10) (.t 37)), none⟩, ⟨(some 11), (.mv (.t 38)), none⟩] false) (.seq (.region [⟨(some 39), (.mv (.t 11)), none⟩, ⟨(some 40), (.mv (.t 39)), none⟩, ⟨(some 41), (.faddr 3 (.t 9)), (some (40, true))⟩, ⟨(some 42), (.faddr 0 (.t 41)), (some (40, true))⟩, ⟨(some 43), (.load false 1 (.t 42)), (some (40, true))⟩, ⟨(some 44), (.call 34 [(.t 43)]), (some (40, true))⟩, ⟨(some 45), (.pick (.t 40) (.t 44) (.c (.bool false))), none⟩] false) (.cond (.t 45) (.region [⟨(some 46), (.load true 25 (.t 10)), none⟩, ⟨(some 47), (.faddr 3 (.t 9)), none⟩, ⟨none, (.store 25 (.t 47) (.t 46)), none⟩] false) .skip))) (.region [⟨(some 48), (.mv (.t 3)), none⟩, ⟨(some 49), (.load true 28 (.t 9)), none⟩, ⟨(some 50), (.bslice 28 1 [(.int .i64 0), (.int .i64 0), (.int .i64 0), (.int .i64 0), .nilsl, .nilsl, (.int .i64 0), (.int .i64 0), (.int .i64 0), (.int .i64 0), (.int .i64 0), (.int .i64 0), (.str []), .nilsl, .nilsl, .nilsl, .nilsl, .nilsl, (.str []), (.str []), (.int .i64 0), (.int .i64 0), (.str []), (.int .i64 0), (.int .i64 0), (.int .i64 0), (.str []), .nilsl] [(0, (.t 49))]), none⟩, ⟨(some 51), (.app 28 392 [(.int .i64 0), (.int .i64 0), (.int .i64 0), (.int .i64 0), .nilsl, .nilsl, (.int .i64 0), (.int .i64 0), (.int .i64 0), (.int .i64 0), (.int .i64 0), (.int .i64 0), (.str []), .nilsl, .nilsl, .nilsl, .nilsl, .nilsl, (.str []), (.str []), (.int .i64 0), (.int .i64 0), (.str []), (.int .i64 0), (.int .i64 0), (.int .i64 0), (.str []), .nilsl] false (.t 48) (.t 50)), none⟩, ⟨(some 3), (.mv (.t 51)), none⟩] false)))) (.region [⟨(some 52), (.bin .add (.t 25) (.c (.int .i64 1))), none⟩, ⟨(some 25), (.mv (.t 52)), none⟩] false))))))))) (.region [⟨(some 53), (.bin .add (.t 18) (.c (.int .i64 1))), none⟩, ⟨(some 18), (.mv (.t 53)), none⟩] false))))))) (.seq (.region [⟨(some 54), (.mv (.t 3)), none⟩, ⟨(some 2), (.mv (.t 54)), none⟩] false) .ret))))))
def c_pandectref28_Deeds : VC := (.seq (.region [⟨(some 2), (.mv (.c .nilsl)), none⟩] false) (.seq (.region [⟨(some 7), (.mv (.t 0)), none⟩, ⟨(some 8), (.call 27 [(.t 7)]), none⟩, ⟨(some 3), (.mv (.t 8)), none⟩] false) (.seq (.region [⟨(some 9), (.fx (.mk0 28) []), none⟩, ⟨(some 4), (.mv (.t 9)), none⟩] false) (.seq (.seq (.region [⟨(some 5), (.mv (.c (.int .i64 0))), none⟩] false) (.block 0 (.loop (.seq (.seq (.region [⟨(some 10), (.mv (.t 5)), none⟩, ⟨(some 11), (.mv (.t 3)), none⟩, ⟨(some 12), (.len false (.t 11)), none⟩, ⟨(some 13), (.bin .lss (.t 10) (.t 12)), none⟩] false) (.cond (.t 13) .skip (.exit 0))) (.seq (.block 1 (.seq (.region [⟨(some 6), (.mv (.c (.int .i64 0))), none⟩] false) (.block 2 (.loop (.seq (.seq (.region [⟨(some 16), (.mv (.t 6)), none⟩, ⟨(some 17), (.mv (.t 3)), none⟩, ⟨(some 18), (.mv (.t 5)), none⟩, ⟨(some 19), (.iaddr 7 (.t 17) (.t 18)), none⟩, ⟨(some 20), (.faddr 6 (.t 19)), none⟩, ⟨(some 21), (.load false 1 (.t 20)), none⟩, ⟨(some 22), (.len false (.t 21)), none⟩, ⟨(some 23), (.bin .lss (.t 16) (.t 22)), none⟩] false) (.cond (.t 23) .skip (.exit 2))) (.seq (.block 3 (.draw2 [⟨(some 26), (.mv (.t 4)), none⟩, ⟨(some 27), (.mv (.t 3)), none⟩, ⟨(some 28), (.mv (.t 5)), none⟩, ⟨(some 29), (.iaddr 7 (.t 27) (.t 28)), none⟩, ⟨(some 30), (.faddr 0 (.t 29)), none⟩, ⟨(some 31), (.load false 1 (.t 30)), none⟩, ⟨(some 32), (.mv (.t 6)), none⟩, ⟨(some 33), (.mv (.t 3)), none⟩, ⟨(some 34), (.mv (.t 5)), none⟩, ⟨(some 35), (.iaddr 7 (.t 33) (.t 34)), none⟩, ⟨(some 36), (.faddr 2 (.t 35)), none⟩, ⟨(some 37), (.load false 1 (.t 36)), none⟩, ⟨(some 38), (.mv (.t 3)), none⟩, ⟨(some 39), (.mv (.t 3)), none⟩, ⟨(some 40), (.mv (.t 5)), none⟩, ⟨(some 41), (.iaddr 7 (.t 39) (.t 40)), none⟩, ⟨(some 42), (.faddr 0 (.t 41)), none⟩, ⟨(some 43), (.load false 1 (.t 42)), none⟩, ⟨(some 44), (.mv (.t 6)), none⟩, ⟨(some 45), (.mv (.t 3)), none⟩, ⟨(some 46), (.mv (.t 5)), none⟩, ⟨(some 47), (.iaddr 7 (.t 45) (.t 46)), none⟩, ⟨(some 48), (.faddr 6 (.t 47)), none⟩, ⟨(some 49), (.load false 1 (.t 48)), none⟩, ⟨(some 50), (.mv (.t 6)), none⟩, ⟨(some 51), (.iaddr 25 (.t 49) (.t 50)), none⟩, ⟨(some 52), (.load true 25 (.t 51)), none⟩, ⟨(some 53), (.call 35 [(.t 38), (.t 43), (.t 44), (.t 52)]), none⟩, ⟨(some 54), (.build [(.int .i64 0), (.int .i64 0), (.int .i64 0), (.int .i64 0), .nilsl, .nilsl, (.int .i64 0), (.int .i64 0), (.int .i64 0), (.int .i64 0), (.int .i64 0), (.int .i64 0), (.str []), .nilsl, .nilsl, .nilsl, .nilsl, .nilsl, (.str []), (.str []), (.int .i64 0), (.int .i64 0), (.str []), (.int .i64 0), (.int .i64 0), (.int .i64 0), (.str []), .nilsl] [(0, (1, (.t 31))), (1, (1, (.t 32))), (2, (1, (.t 37))), (3, (25, (.t 53)))]), none⟩, ⟨(some 55), (.bslice 28 1 [(.int .i64 0), (.int .i64 0), (.int .i64 0), (.int .i64 0), .nilsl, .nilsl, (.int .i64 0), (.int .i64 0), (.int .i64 0), (.int .i64 0), (.int .i64 0), (.int .i64 0), (.str []), .nilsl, .nilsl, .nilsl, .nilsl, .nilsl, (.str []), (.str []), (.int .i64 0), (.int .i64 0), (.str []), (.int .i64 0), (.int .i64 0), (.int .i64 0), (.str []), .nilsl] [(0, (.t 54))]), none⟩, ⟨(some 56), (.app 28 392 [(.int .i64 0), (.int .i64 0), (.int .i64 0), (.int .i64 0), .nilsl, .nilsl, (.int .i64 0), (.int .i64 0), (.int .i64 0), (.int .i64 0), (.int .i64 0), (.int .i64 0), (.str []), .nilsl, .nilsl, .nilsl, .nilsl, .nilsl, (.str []), (.str []), (.int .i64 0), (.int .i64 0), (.str []), (.int .i64 0), (.int .i64 0), (.int .i64 0), (.str []), .nilsl] false (.t 26) (.t 55)), none⟩, ⟨(some 4), (.mv (.t 56)), none⟩] [true, true, true, true, true, true, true, true, true, true, true, true, true, true, true, true, true, true, true, true, true, true, true, true, true, true, true, true, true, true, false, false])) (.region [⟨(some 24), (.mv (.t 6)), none⟩, ⟨(some 25), (.bin .add (.t 24) (.c (.int .i64 1))), none⟩, ⟨(some 6), (.mv (.t 25)), none⟩] false))))))) (.region [⟨(some 14), (.mv (.t 5)), none⟩, ⟨(some 15), (.bin .add (.t 14) (.c (.int .i64 1))), none⟩, ⟨(some 5), (.mv (.t 15)), none⟩] false)))))) (.seq (.region [⟨(some 57), (.mv (.t 4)), none⟩, ⟨(some 2), (.mv (.t 57)), none⟩] false) .ret)))))
def fixE (xs : List It) (d : EI) : EI := { d with it := corrS xs (d.act, d.item) d.it }
def deedsF (xs : List It) (acts : List Ac) : List EI := acts.flatMap fun a => (deeds a).map (fixE xs)
/-- The enacted items, as corrected. -/
def deedsS (acts : List Ac) : List EI := deedsF (itemsS acts) acts
theorem deedsF_len (xs : List It) : ∀ acts : List Ac, (deedsF xs acts).length = (itemsS acts).length
  | [] => rfl
  | a :: r => by
    have ih := deedsF_len xs r
    simp only [deedsF, itemsS, List.flatMap_cons, List.length_append, List.length_map, deeds, deeds_len] at ih ⊢
    rw [ih]
theorem deedsF_take {xs : List It} {l : List Ac} {i : Nat} (h : i < l.length) : deedsF xs (l.take (i + 1)) = deedsF xs (l.take i) ++ (deeds l[i]).map (fixE xs) := by
  rw [deedsF, deedsF, List.take_add_one, List.getElem?_eq_getElem h, List.flatMap_append]; simp
theorem itemsS_le (l : List Ac) (i : Nat) : (itemsS (l.take i)).length ≤ (itemsS l).length := by
  have : itemsS l = itemsS (l.take i) ++ itemsS (l.drop i) := by simp only [itemsS]; rw [← List.flatMap_append, List.take_append_drop]
  rw [this]; simp
theorem items_each (l : List Ac) : ∀ a ∈ l, a.items.length ≤ (itemsS l).length := by
  intro a ha
  obtain ⟨i, hi, rfl⟩ := List.mem_iff_getElem.1 ha
  have h1 := itemsS_le l (i + 1)
  rw [itemsS_take hi, List.length_append] at h1
  omega
theorem ei_l28 (e : EI) : e.enc.length = 28 := rd.ei_len e
theorem ei_t28 (e : EI) : e.enc.take 28 = e.enc := List.take_of_length_le (by rw [rd.ei_len]; exact Nat.le_refl _)
theorem ei_d28 (e : EI) : e.enc.drop 28 = [] := List.drop_of_length_le (by rw [rd.ei_len]; exact Nat.le_refl _)
theorem ei_act (e : EI) : (e.enc.take 1).getD 0 .any = pI e.act := rfl
theorem ei_item (e : EI) : ((e.enc.drop 1).take 1).getD 0 .any = pI e.item := rfl
theorem ei_l1 (e : EI) : (e.enc.drop 1).length = 27 := by simp [rd.ei_len]
theorem ei_day (e : EI) : ((e.enc.drop 2).take 1).getD 0 .any = pI e.day := rfl
theorem ei_l2 (e : EI) : (e.enc.drop 2).length = 26 := by simp [rd.ei_len]
theorem ei_it (e : EI) : e.enc.drop 3 = e.it.enc := rfl
theorem ei_over (e : EI) (x : It) : e.enc.take 3 ++ x.enc = ({ e with it := x } : EI).enc := rfl
def zEI : List PV := .int .i64 0 :: .int .i64 0 :: .int .i64 0 :: zIt
theorem sp_corpus_EnactedItems (l : List Gz) (hl : l.length ≤ 1000000) (hr : (rowG l).length ≤ 1000000) (hd : (itemsS (actsS (rowG l))).length ≤ 1000000) :
    PCall Try.prog 14 [.sl 4 (l.map Gz.enc)] (.sl 28 ((deedsS (actsS (rowG l))).map EI.enc)) := by
  refine PCall_intro ?_ (closed_eis _) (by simp only [ClosedL, List.mem_cons, List.not_mem_nil, or_false, forall_eq_or_imp, forall_eq, false_implies, implies_true]; repeat' (first | exact cI _ | exact cS _ | exact cB _ | exact closed_fn0 _ | exact closed_nilsl | exact closed_agg (Un.closed _) | exact closed_agg (It.closed _) | exact closed_agg (EI.closed _) | exact closed_agg (Ac.closed _) | exact closed_agg (Wd.closed _) | exact closed_agg (St.closed _) | exact closed_agg (Sta.closed _) | exact closed_eis _ | exact closed_acs _ | exact closed_gzs _ | exact Closed.of_scalar (scalar_int _ _) | exact closed_ro (Ac.closed _) | exact closed_ro (Gz.closed _) | exact closed_agg (Gz.closed _) | exact closed_strs _ | exact closed_map (fun w _ => Wd.closed w) | exact closed_map (fun w _ => St.closed w) | exact closed_map (fun w _ => Un.closed w) | exact closed_map (fun w _ => It.closed w) | exact closed_sc _ | exact closed_sps _ | exact closed_agg (Sp.closed _) | exact closed_ro (EI.closed _) | exact closed_ro (Sta.closed _) | exact closed_ro (It.closed _) | exact closed_ro (by simp only [List.mem_cons, List.not_mem_nil, or_false, forall_eq]; first | exact cI _ | exact cS _ | exact closed_eis _) | refine And.intro ?_ ?_))
  refine ACall_fn (vc := c_corpus_EnactedItems) (ts := [.t 2]) Go.Proofs.Try.func14 (by kernel_rfl) rfl rfl (Nat.le_of_ble_eq_true rfl) (by kernel_rfl) ?_
  unfold c_corpus_EnactedItems
  refine VW_seq (VW_region [0] ?_)
  simp only [OpsW_nil, OpsW_n, StepW, pok, pval, VA.ev, Env.get, Env.put, Env.keep, argEnv, thenQ, Heap.nil, ite_true, ite_false, true_and, reduceCtorEq]
  refine VW_seq (VW_region [0, 3] ?_)
  simp only [OpsW_nil, OpsW_n, StepW, pok, pval, VA.ev, Env.get, Env.put, Env.keep, thenQ, ite_true, ite_false, true_and, reduceCtorEq]
  refine VW_seq (VW_region [3, 4] ?_)
  simp only [OpsW_nil, OpsW_n, StepW, pok, pval, VA.ev, Env.get, Env.put, Env.keep, thenQ, Nat.succ_ne_self, List.map, Nat.reduceEqDiff, ite_true, ite_false, true_and, reduceCtorEq]
  refine ACall_p (sp_corpus_Acts l hl hr) ?_
  have hal : (actsS (rowG l)).length ≤ 1000000 := by
    have h1 := foldIns_len (fstA [] (rowG l)) []
    have h2 := fst_le (rowG l) []
    unfold actsS
    simp only [List.length_nil] at h1
    omega
  generalize actsS (rowG l) = acts at hd hal ⊢
  have heach := items_each acts
  try simp only [midQ, OpsW_nil, OpsW_n, OpsW_y, OpsW_xt, OpsW_xf, OpsW_u, StepW, guardOf, DrawW_nil, DrawW_n, DrawW_y, DrawW_xt, DrawW_xf, DrawW_u, DrawH, VOp.isIaddr, QW, dok, dval, VOp.pure, VOp.simple, VOp.det, pok, pval, VA.ev, Env.get, Env.put, Env.keep, argEnv, thenQ, blockQ, retQ, resV, resOk, RS.ev, RS.ok, gd, pickV, isBool, aggV, intV, binV, binOk, strV, binbV, boolV, binbOk, unV, unOk, convV, isInt, isStr, numOf, loV, hiV, lenV, boundOk, sliceV, sliceOk, faddrV, isAddr, locCells, locOk, cellsOfAgg, isAggP, iaddrV, iaddrOk, idxV, idxOk, lenOk, extV, extOk, fillV, fillOk, mmV, PV.cells, PV.fits, overlay, PV.nth, PV.row, lookV, mapRows, mapOk, keysOk, keyOk, keyEq, mapFind, mapPut, mapHas, mapsetV, Heap.get, Heap.set, Heap.del, Heap.le, HL.get, HL.set, HL.del, HL.le, Heap.push, Heap.nil, Nat.le_refl, Nat.add_eq_left, Nat.left_eq_add, Nat.succ_ne_self, Nat.one_ne_zero, Env.le, killed, oldId, oldRows, oldOk, srcRows, srcOk, elemsV, elemsOk, eqOk, ekOk, eqCells, eqCell, storeV, storeOk, AB.live, pxV, pxOk, fxV, fxOk, isPtr, slLike, isNil, notNil, List.map, List.set, List.replicate, List.length, List.getD_cons_zero, List.getD_cons_succ, List.getD_nil, List.take, List.drop, List.take_zero, List.drop_zero, List.take_succ_cons, List.drop_succ_cons, List.append, List.cons_append, List.nil_append, Option.map, Nat.reduceEqDiff, Nat.reduceAdd, Nat.reduceLT, Nat.reduceLeDiff, Nat.reduceSub, Nat.reduceMul, reduceIte, Bool.false_eq_true, Bool.true_eq_false, ite_true, ite_false, if_true, if_false, true_and, and_true, implies_true, forall_const, ne_eq, not_false_eq_true, reduceCtorEq, BEq.rfl, beq_self_eq_true, Option.some.injEq, Nat.zero_add, Nat.add_zero, List.length_cons, List.length_nil, true_implies, imp_self, Int.reduceToNat, Int.toNat_natCast, Bool.not_false, Bool.not_true]
  refine VW_seq (VW_region [3, 4, 5] ?_)
  simp only [OpsW_nil, OpsW_n, StepW, pok, pval, VA.ev, Env.get, Env.put, Env.keep, thenQ, Nat.succ_ne_self, List.map, Nat.reduceEqDiff, ite_true, ite_false, true_and]
  refine ACall_p (sp_corpus_corrections acts hal (fun a ha => by have := heach a ha; omega)) ?_
  try simp only [midQ, OpsW_nil, OpsW_n, OpsW_y, OpsW_xt, OpsW_xf, OpsW_u, StepW, guardOf, DrawW_nil, DrawW_n, DrawW_y, DrawW_xt, DrawW_xf, DrawW_u, DrawH, VOp.isIaddr, QW, dok, dval, VOp.pure, VOp.simple, VOp.det, pok, pval, VA.ev, Env.get, Env.put, Env.keep, argEnv, thenQ, blockQ, retQ, resV, resOk, RS.ev, RS.ok, gd, pickV, isBool, aggV, intV, binV, binOk, strV, binbV, boolV, binbOk, unV, unOk, convV, isInt, isStr, numOf, loV, hiV, lenV, boundOk, sliceV, sliceOk, faddrV, isAddr, locCells, locOk, cellsOfAgg, isAggP, iaddrV, iaddrOk, idxV, idxOk, lenOk, extV, extOk, fillV, fillOk, mmV, PV.cells, PV.fits, overlay, PV.nth, PV.row, lookV, mapRows, mapOk, keysOk, keyOk, keyEq, mapFind, mapPut, mapHas, mapsetV, Heap.get, Heap.set, Heap.del, Heap.le, HL.get, HL.set, HL.del, HL.le, Heap.push, Heap.nil, Nat.le_refl, Nat.add_eq_left, Nat.left_eq_add, Nat.succ_ne_self, Nat.one_ne_zero, Env.le, killed, oldId, oldRows, oldOk, srcRows, srcOk, elemsV, elemsOk, eqOk, ekOk, eqCells, eqCell, storeV, storeOk, AB.live, pxV, pxOk, fxV, fxOk, isPtr, slLike, isNil, notNil, List.map, List.set, List.replicate, List.length, List.getD_cons_zero, List.getD_cons_succ, List.getD_nil, List.take, List.drop, List.take_zero, List.drop_zero, List.take_succ_cons, List.drop_succ_cons, List.append, List.cons_append, List.nil_append, Option.map, Nat.reduceEqDiff, Nat.reduceAdd, Nat.reduceLT, Nat.reduceLeDiff, Nat.reduceSub, Nat.reduceMul, reduceIte, Bool.false_eq_true, Bool.true_eq_false, ite_true, ite_false, if_true, if_false, true_and, and_true, implies_true, forall_const, ne_eq, not_false_eq_true, reduceCtorEq, BEq.rfl, beq_self_eq_true, Option.some.injEq, Nat.zero_add, Nat.add_zero, List.length_cons, List.length_nil, true_implies, imp_self, Int.reduceToNat, Int.toNat_natCast, Bool.not_false, Bool.not_true]
  refine VW_own0 3 28 rfl ?_
  try simp only [Env.put, Heap.push, Nat.zero_add]
  refine VW_seq ?_
  refine VW_seq (VW_region [3, 5, 16, 17, 18] ?_)
  simp only [OpsW_nil, OpsW_n, StepW, pok, pval, VA.ev, Env.get, Env.put, Env.keep, thenQ, lenV, lenOk, Nat.succ_ne_self, Nat.reduceEqDiff, ite_true, ite_false, true_and, List.length_map]
  unfold deedsS
  have hMf : ∀ k, findF k ((itemsS acts).foldl stepF []) = (itemsS acts).foldl (fixAt k) none := fun k => findF_fold k _ []
  have hcl : ∀ n, (deedsF (itemsS acts) (acts.take n)).length ≤ 1000000 := fun n => by rw [deedsF_len]; have := itemsS_le acts n; omega
  generalize (itemsS acts).foldl stepF [] = M at hMf ⊢
  generalize hxs : itemsS acts = xs at hd hMf hcl heach ⊢
  refine VW_block ?_
  refine VW_loop (σ := { s : Nat × Nat × Nat // s.1 ≤ acts.length ∧ s.2.1 < s.2.2 }) (fun s => ([(3, .own s.1.2.1 0 (deedsF xs (acts.take s.1.1)).length), (5, .rmp (encF M)), (16, .sl 7 (acts.map Ac.enc)), (17, pI acts.length), (18, pI s.1.1)], ⟨[(s.1.2.1, .arr false 28 ((deedsF xs (acts.take s.1.1)).map EI.enc))], s.1.2.2⟩)) (fun s => acts.length - s.1.1) ⟨(0, 0, 1), ⟨Nat.zero_le _, by show 0 < 1; omega⟩⟩ ?_ ?_ ?_
  · try simp only [Env.get, Nat.succ_ne_self, Env.le, List.take, Nat.reduceEqDiff, ite_true, ite_false, true_and, and_true, List.length_nil, List.take_zero, deedsF, List.flatMap_nil]
    all_goals (repeat' (first | rfl | trivial | omega | (simp only []; omega) | refine And.intro ?_ ?_))
  · try simp only [Heap.get, Heap.le, HL.get, HL.le, Nat.le_refl, List.map, List.take, ite_true, and_true, List.take_zero, deedsF, List.flatMap_nil]
    all_goals (repeat' (first | rfl | trivial | omega | (simp only []; omega) | refine And.intro ?_ ?_))
  rintro ⟨⟨i, id, t⟩, hi, ht⟩
  simp only [] at hi ht ⊢
  refine VW_seq (VW_region [3, 5, 16, 17, 18, 19] ?_)
  simp only [OpsW_nil, OpsW_n, StepW, pok, pval, VA.ev, Env.get, Env.put, Env.keep, thenQ, intV, binV, binOk, Heap.get, Heap.le, HL.le, Nat.succ_ne_self, Env.le, Nat.reduceEqDiff, ite_true, ite_false, true_and, and_true]
  refine VW_seq ?_
  refine VW_cond rfl (fun h1 => ?_) (fun h1 => ?_)
  · refine VW_skip ?_
    try simp only [thenQ]
    simp only [decide_eq_true_eq] at h1
    have ia : i < acts.length := by omega
    have hrow := deedsF_take (xs := xs) ia
    have hcn := hcl (i + 1)
    rw [hrow, List.length_append, List.length_map] at hcn
    have hitl := heach acts[i] (List.getElem_mem ia)
    have hdl : (deeds acts[i]).length = acts[i].items.length := deeds_len _ _ _ _
    have qi0 : (id = t) = False := eq_false (by omega)
    have qi1 : (id = (t + 1)) = False := eq_false (by omega)
    have qi2 : (t = id) = False := eq_false (by omega)
    have qi3 : (t = (t + 1)) = False := eq_false (by omega)
    have qi4 : ((t + 1) = id) = False := eq_false (by omega)
    have qi5 : ((t + 1) = t) = False := eq_false (by omega)
    refine VW_seq ?_
    refine VW_block ?_
    refine VW_seq (VW_region [3, 5, 7, 16, 17, 18] ?_)
    simp only [OpsW_nil, OpsW_n, StepW, pok, pval, VA.ev, Env.get, Env.put, Env.keep, thenQ, aggV, isInt, numOf, lenV, locCells, locOk, iaddrV, iaddrOk, PV.cells, PV.fits, overlay, PV.nth, PV.row, Heap.get, Heap.set, HL.get, HL.set, HL.del, Heap.push, Nat.le_refl, Nat.succ_ne_self, storeV, storeOk, List.set, List.length, List.getD_cons_zero, List.take, List.drop, List.drop_succ_cons, List.nil_append, Nat.reduceEqDiff, Nat.reduceAdd, Nat.reduceLT, Bool.true_eq_false, ite_true, ite_false, true_and, and_true, BEq.rfl, Nat.zero_add, imp_self, Int.toNat_natCast, List.length_map, rowm ia, ac_take, ac_len, ac_drop, List.append_nil, qi0, qi1, qi2, qi3, qi4, qi5]
    repeat (with_reducible refine And.intro ?_ ?_; first | omega | (with_reducible constructor <;> omega) | exact False.elim | exact True.intro)
    refine VW_seq (VW_region [3, 5, 16, 17, 18, 23, 24, 25] ?_)
    simp only [OpsW_nil, OpsW_n, StepW, pok, pval, VA.ev, Env.get, Env.put, Env.keep, thenQ, aggV, lenV, locCells, locOk, lenOk, PV.nth, PV.row, Heap.get, HL.get, Nat.le_refl, Nat.succ_ne_self, List.map, List.length, List.getD_cons_zero, List.drop, Nat.reduceEqDiff, Nat.reduceLT, Bool.false_eq_true, Bool.true_eq_false, ite_true, ite_false, true_and, and_true, Nat.zero_add, imp_self, ac_take, ac_len, qi0, qi1, qi2, qi3, qi4, qi5]
    refine ACall_p (sp33 acts[i] (by omega)) ?_
    try simp only [true_and, List.length_map]
    refine VW_block ?_
    generalize hds : deeds acts[i] = ds at hrow hcn hdl ⊢
    refine VW_loop (σ := { s : Nat × Nat × Nat // s.1 ≤ ds.length ∧ s.2.1 < s.2.2 }) (fun s => ([(3, .own s.1.2.1 0 (deedsF xs (acts.take i) ++ (ds.take s.1.1).map (fixE xs)).length), (5, .rmp (encF M)), (16, .sl 7 (acts.map Ac.enc)), (17, pI acts.length), (18, pI i), (23, .sl 28 (ds.map EI.enc)), (24, pI ds.length), (25, pI s.1.1)], ⟨[(s.1.2.1, .arr false 28 ((deedsF xs (acts.take i) ++ (ds.take s.1.1).map (fixE xs)).map EI.enc))], s.1.2.2⟩)) (fun s => ds.length - s.1.1) ⟨(0, id, t + 1), ⟨Nat.zero_le _, by show id < t + 1; omega⟩⟩ ?_ ?_ ?_
    · try simp only [Env.get, Nat.succ_ne_self, Env.le, List.take, Nat.reduceEqDiff, ite_true, ite_false, true_and, and_true, List.take_zero, List.map_nil, List.append_nil]
      all_goals (repeat' (first | rfl | trivial | omega | (simp only []; omega) | refine And.intro ?_ ?_))
    · try simp only [Heap.get, Heap.le, HL.get, HL.le, Nat.le_refl, List.map, List.take, ite_true, ite_false, and_true, List.take_zero, List.append_nil, qi0, qi1, qi2, qi3, qi4, qi5]
      all_goals (repeat' (first | rfl | trivial | omega | (simp only []; omega) | refine And.intro ?_ ?_))
    clear ht
    rintro ⟨⟨j, id, t⟩, hj, ht⟩
    simp only [] at hj ht ⊢
    refine VW_seq (VW_region [3, 5, 16, 17, 18, 23, 24, 25, 26] ?_)
    simp only [OpsW_nil, OpsW_n, StepW, pok, pval, VA.ev, Env.get, Env.put, Env.keep, thenQ, intV, binV, binOk, Heap.get, Heap.le, HL.le, Nat.succ_ne_self, Env.le, Nat.reduceEqDiff, ite_true, ite_false, true_and, and_true]
    refine VW_seq ?_
    refine VW_cond rfl (fun h2 => ?_) (fun h2 => ?_)
    · refine VW_skip ?_
      try simp only [thenQ]
      simp only [decide_eq_true_eq] at h2
      have ja : j < ds.length := by omega
      have hnext : deedsF xs (acts.take i) ++ (ds.take (j + 1)).map (fixE xs) = (deedsF xs (acts.take i) ++ (ds.take j).map (fixE xs)) ++ [fixE xs ds[j]] := by
        rw [List.take_add_one, List.getElem?_eq_getElem ja, Option.toList_some, List.map_append, List.append_assoc]; rfl
      have hol : (deedsF xs (acts.take i) ++ (ds.take j).map (fixE xs)).length ≤ 1000000 := by
        simp only [List.length_append, List.length_map, List.length_take]; omega
      generalize hM : deedsF xs (acts.take i) ++ (ds.take j).map (fixE xs) = out at hnext hol ⊢
      have hrx0 := rowm (enc := EI.enc) ja
      generalize hx : ds[j] = x at hnext hrx0 ⊢
      have qi0 : (id = t) = False := eq_false (by omega)
      have qi1 : (id = (t + 1)) = False := eq_false (by omega)
      have qi2 : (id = (t + 1 + 1)) = False := eq_false (by omega)
      have qi3 : (id = (t + 1 + 1 + 1)) = False := eq_false (by omega)
      have qi4 : (t = id) = False := eq_false (by omega)
      have qi5 : (t = (t + 1)) = False := eq_false (by omega)
      have qi6 : (t = (t + 1 + 1)) = False := eq_false (by omega)
      have qi7 : (t = (t + 1 + 1 + 1)) = False := eq_false (by omega)
      have qi8 : ((t + 1) = id) = False := eq_false (by omega)
      have qi9 : ((t + 1) = t) = False := eq_false (by omega)
      have qi10 : ((t + 1) = (t + 1 + 1)) = False := eq_false (by omega)
      have qi11 : ((t + 1) = (t + 1 + 1 + 1)) = False := eq_false (by omega)
      have qi12 : ((t + 1 + 1) = id) = False := eq_false (by omega)
      have qi13 : ((t + 1 + 1) = t) = False := eq_false (by omega)
      have qi14 : ((t + 1 + 1) = (t + 1)) = False := eq_false (by omega)
      have qi15 : ((t + 1 + 1) = (t + 1 + 1 + 1)) = False := eq_false (by omega)
      have qi16 : ((t + 1 + 1 + 1) = id) = False := eq_false (by omega)
      have qi17 : ((t + 1 + 1 + 1) = t) = False := eq_false (by omega)
      have qi18 : ((t + 1 + 1 + 1) = (t + 1)) = False := eq_false (by omega)
      have qi19 : ((t + 1 + 1 + 1) = (t + 1 + 1)) = False := eq_false (by omega)
      refine VW_seq ?_
      refine VW_block ?_
      refine VW_seq (VW_region [3, 5, 9, 16, 17, 18, 23, 24, 25] ?_)
      simp only [OpsW_nil, OpsW_n, StepW, pok, pval, VA.ev, Env.get, Env.put, Env.keep, thenQ, aggV, isInt, numOf, lenV, locCells, locOk, iaddrV, iaddrOk, PV.cells, PV.fits, overlay, PV.nth, PV.row, Heap.get, Heap.set, HL.get, HL.set, HL.del, Heap.push, Nat.le_refl, Nat.succ_ne_self, storeV, storeOk, List.set, List.length, List.getD_cons_zero, List.take, List.drop, List.drop_succ_cons, List.nil_append, Nat.reduceEqDiff, Nat.reduceAdd, Nat.reduceLT, Bool.true_eq_false, ite_true, ite_false, true_and, and_true, BEq.rfl, Nat.zero_add, imp_self, Int.toNat_natCast, List.length_map, hrx0, ei_t28, ei_l28, ei_d28, List.append_nil, qi0, qi1, qi2, qi3, qi4, qi5, qi6, qi7, qi8, qi9, qi10, qi11, qi12, qi13, qi14, qi15, qi16, qi17, qi18, qi19]
      repeat (with_reducible refine And.intro ?_ ?_; first | omega | (with_reducible constructor <;> omega) | exact False.elim | exact True.intro)
      refine VW_seq ?_
      have hkeys := encF_keys (x.act, x.item) M
      have hfind := encF_find (x.act, x.item) M
      have hf := hMf (x.act, x.item)
      simp only [keyF] at hkeys hfind
      refine VW_mid (σ := { y : EI // y = fixE xs x }) (fun y => ([(3, .own id 0 out.length), (5, .rmp (encF M)), (9, .loc t 0 0), (16, .sl 7 (acts.map Ac.enc)), (17, pI acts.length), (18, pI i), (23, .sl 28 (ds.map EI.enc)), (24, pI ds.length), (25, pI j)], ⟨[(t, .arr false 28 [y.1.enc]), (id, .arr false 28 (out.map EI.enc))], t + 1 + 1⟩)) ?_ (fun y => ?_)
      · refine VW_seq (VW_region [3, 5, 9, 10, 11, 16, 17, 18, 23, 24, 25] ?_)
        cases hff : findF (x.act, x.item) M with
        | none =>
          rw [hff] at hfind hf
          simp only [Option.map_none] at hfind
          simp only [OpsW_nil, OpsW_n, StepW, pok, pval, VA.ev, Env.get, Env.put, Env.keep, thenQ, aggV, faddrV, isAddr, locCells, locOk, extV, extOk, fillV, fillOk, PV.cells, PV.fits, overlay, PV.nth, PV.row, lookV, mapRows, mapOk, Heap.get, Heap.set, HL.get, HL.set, HL.del, Heap.push, Nat.le_refl, Nat.succ_ne_self, storeV, storeOk, List.set, List.length, List.getD_cons_zero, List.getD_cons_succ, List.take, List.drop, List.take_succ_cons, List.drop_succ_cons, List.cons_append, List.nil_append, Nat.reduceEqDiff, Nat.reduceAdd, Nat.reduceLT, Nat.reduceLeDiff, Bool.false_eq_true, ite_true, ite_false, true_and, and_true, implies_true, BEq.rfl, Nat.zero_add, Nat.add_zero, List.length_cons, List.length_map, ei_l28, ei_act, ei_item, ei_l1, hkeys, hfind, qi0, qi1, qi2, qi3, qi4, qi5, qi6, qi7, qi8, qi9, qi10, qi11, qi12, qi13, qi14, qi15, qi16, qi17, qi18, qi19]
          refine VW_seq (VW_region [3, 5, 9, 10, 16, 17, 18, 23, 24, 25, 45] ?_)
          simp only [OpsW_nil, OpsW_n, OpsW_xt, StepW, pok, pval, VA.ev, Env.get, Env.put, Env.keep, thenQ, pickV, isBool, Nat.succ_ne_self, Nat.reduceEqDiff, Bool.false_eq_true, ite_true, ite_false, true_and]
          refine VW_cond rfl (fun h3 => by cases h3) (fun h3 => ?_)
          refine VW_skip ?_
          try simp only [midQ, Env.get, Heap.get, Heap.le, HL.get, HL.le, Nat.le_refl, Nat.succ_ne_self, Env.le, Nat.reduceEqDiff, ite_true, ite_false, true_and, and_true, Option.some.injEq]
          refine ⟨⟨x, ?_⟩, ?_⟩
          · unfold fixE corrS; rw [← hf]; simp
          · try simp only [ite_false, and_true, qi0, qi1, qi2, qi3, qi4, qi5, qi6, qi7, qi8, qi9, qi10, qi11, qi12, qi13, qi14, qi15, qi16, qi17, qi18, qi19]
            all_goals (repeat' (first | rfl | trivial | omega | (simp only []; omega) | refine And.intro ?_ ?_))
        | some v =>
          rw [hff] at hfind hf
          simp only [Option.map_some] at hfind
          simp only [OpsW_nil, OpsW_n, StepW, pok, pval, VA.ev, Env.get, Env.put, Env.keep, thenQ, aggV, faddrV, isAddr, locCells, locOk, extV, extOk, fillV, fillOk, PV.cells, PV.fits, overlay, PV.nth, PV.row, lookV, mapRows, mapOk, Heap.get, Heap.set, HL.get, HL.set, HL.del, Heap.push, Nat.le_refl, Nat.succ_ne_self, storeV, storeOk, List.set, List.length, List.getD_cons_zero, List.getD_cons_succ, List.take, List.drop, List.take_succ_cons, List.drop_succ_cons, List.cons_append, List.nil_append, Nat.reduceEqDiff, Nat.reduceAdd, Nat.reduceLT, Nat.reduceLeDiff, Bool.false_eq_true, ite_true, ite_false, true_and, and_true, implies_true, BEq.rfl, Nat.zero_add, Nat.add_zero, List.length_cons, List.length_map, ei_l28, ei_act, ei_item, ei_l1, hkeys, hfind, it_take25, it_len25, it_drop25, List.append_nil, qi0, qi1, qi2, qi3, qi4, qi5, qi6, qi7, qi8, qi9, qi10, qi11, qi12, qi13, qi14, qi15, qi16, qi17, qi18, qi19]
          refine VW_seq (VW_region [3, 5, 9, 10, 16, 17, 18, 23, 24, 25, 45] ?_)
          simp only [OpsW_nil, OpsW_n, OpsW_y, StepW, pok, pval, VA.ev, Env.get, Env.put, Env.keep, thenQ, pickV, isBool, aggV, faddrV, isAddr, locCells, locOk, PV.nth, PV.row, Heap.get, HL.get, Nat.succ_ne_self, List.map, List.length, List.getD_cons_zero, Nat.reduceEqDiff, Nat.reduceLT, Nat.reduceLeDiff, Bool.false_eq_true, ite_true, ite_false, true_and, and_true, implies_true, Nat.zero_add, Nat.add_zero, ei_it, it_kind, it_len25, qi0, qi1, qi2, qi3, qi4, qi5, qi6, qi7, qi8, qi9, qi10, qi11, qi12, qi13, qi14, qi15, qi16, qi17, qi18, qi19]
          refine ACall_p (sp34 x.it.kind) ?_
          try simp only [midQ, OpsW_nil, OpsW_n, OpsW_y, OpsW_xt, OpsW_xf, OpsW_u, StepW, guardOf, DrawW_nil, DrawW_n, DrawW_y, DrawW_xt, DrawW_xf, DrawW_u, DrawH, VOp.isIaddr, QW, dok, dval, VOp.pure, VOp.simple, VOp.det, pok, pval, VA.ev, Env.get, Env.put, Env.keep, argEnv, thenQ, blockQ, retQ, resV, resOk, RS.ev, RS.ok, gd, pickV, isBool, aggV, intV, binV, binOk, strV, binbV, boolV, binbOk, unV, unOk, convV, isInt, isStr, numOf, loV, hiV, lenV, boundOk, sliceV, sliceOk, faddrV, isAddr, locCells, locOk, cellsOfAgg, isAggP, iaddrV, iaddrOk, idxV, idxOk, lenOk, extV, extOk, fillV, fillOk, mmV, PV.cells, PV.fits, overlay, PV.nth, PV.row, lookV, mapRows, mapOk, keysOk, keyOk, keyEq, mapFind, mapPut, mapHas, mapsetV, Heap.get, Heap.set, Heap.del, Heap.le, HL.get, HL.set, HL.del, HL.le, Heap.push, Heap.nil, Nat.le_refl, Nat.add_eq_left, Nat.left_eq_add, Nat.succ_ne_self, Nat.one_ne_zero, Env.le, killed, oldId, oldRows, oldOk, srcRows, srcOk, elemsV, elemsOk, eqOk, ekOk, eqCells, eqCell, storeV, storeOk, AB.live, pxV, pxOk, fxV, fxOk, isPtr, slLike, isNil, notNil, List.map, List.set, List.replicate, List.length, List.getD_cons_zero, List.getD_cons_succ, List.getD_nil, List.take, List.drop, List.take_zero, List.drop_zero, List.take_succ_cons, List.drop_succ_cons, List.append, List.cons_append, List.nil_append, Option.map, Nat.reduceEqDiff, Nat.reduceAdd, Nat.reduceLT, Nat.reduceLeDiff, Nat.reduceSub, Nat.reduceMul, reduceIte, Bool.false_eq_true, Bool.true_eq_false, ite_true, ite_false, if_true, if_false, true_and, and_true, implies_true, forall_const, ne_eq, not_false_eq_true, reduceCtorEq, BEq.rfl, beq_self_eq_true, Option.some.injEq, Nat.zero_add, Nat.add_zero, List.length_cons, List.length_nil, true_implies, imp_self, Int.reduceToNat, Int.toNat_natCast, Bool.not_false, Bool.not_true]
          refine VW_cond rfl (fun h3 => ?_) (fun h3 => ?_)
          · refine VW_region [3, 5, 9, 16, 17, 18, 23, 24, 25] ?_
            simp only [midQ, OpsW_nil, OpsW_n, StepW, pok, pval, VA.ev, Env.get, Env.put, Env.keep, aggV, faddrV, isAddr, locCells, locOk, PV.cells, PV.fits, overlay, PV.nth, PV.row, Heap.get, Heap.set, Heap.le, HL.get, HL.set, HL.del, HL.le, Nat.le_refl, Nat.succ_ne_self, Env.le, storeV, storeOk, List.set, List.length, List.getD_cons_zero, List.drop, Nat.reduceEqDiff, Nat.reduceAdd, Nat.reduceLT, Bool.true_eq_false, ite_true, ite_false, true_and, and_true, BEq.rfl, Option.some.injEq, Nat.zero_add, imp_self, it_take25, it_len25, ei_l28, ei_d28, ei_over, List.append_nil, qi0, qi1, qi2, qi3, qi4, qi5, qi6, qi7, qi8, qi9, qi10, qi11, qi12, qi13, qi14, qi15, qi16, qi17, qi18, qi19]
            refine ⟨⟨{ x with it := v }, ?_⟩, ?_⟩
            · unfold fixE corrS; rw [← hf, if_pos h3]; rfl
            · try simp only [qi0, qi1, qi2, qi3, qi4, qi5, qi6, qi7, qi8, qi9, qi10, qi11, qi12, qi13, qi14, qi15, qi16, qi17, qi18, qi19]
              all_goals (repeat' (first | rfl | trivial | omega | (simp only []; omega) | refine And.intro ?_ ?_))
          · refine VW_skip ?_
            try simp only [midQ, Env.get, Heap.get, Heap.le, HL.get, HL.le, Nat.le_refl, Nat.succ_ne_self, Env.le, Nat.reduceEqDiff, ite_true, ite_false, true_and, and_true, Option.some.injEq]
            refine ⟨⟨x, ?_⟩, ?_⟩
            · unfold fixE corrS; rw [if_neg (by rw [h3]; exact Bool.false_ne_true)]
            · try simp only [ite_false, and_true, qi0, qi1, qi2, qi3, qi4, qi5, qi6, qi7, qi8, qi9, qi10, qi11, qi12, qi13, qi14, qi15, qi16, qi17, qi18, qi19]
              all_goals (repeat' (first | rfl | trivial | omega | (simp only []; omega) | refine And.intro ?_ ?_))
      obtain ⟨y, hy⟩ := y
      rw [← hy] at hnext
      have htk : (out.map EI.enc).take out.length = out.map EI.enc := List.take_of_length_le (by simp)
      refine VW_region [3, 5, 16, 17, 18, 23, 24, 25] ?_
      simp only [OpsW_nil, OpsW_n, StepW, pok, pval, VA.ev, Env.get, Env.put, Env.keep, thenQ, blockQ, aggV, locCells, locOk, PV.cells, PV.fits, PV.nth, PV.row, Heap.get, Heap.del, HL.get, HL.del, Heap.push, Nat.le_refl, Nat.succ_ne_self, killed, oldId, oldRows, oldOk, srcRows, srcOk, elemsV, elemsOk, List.set, List.replicate, List.length, List.getD_cons_zero, List.take, List.drop, List.take_succ_cons, Nat.reduceEqDiff, Nat.reduceLT, Nat.reduceLeDiff, Bool.true_eq_false, ite_true, ite_false, true_and, and_true, BEq.rfl, Nat.zero_add, List.length_cons, imp_self, List.length_map, ei_l28, ei_t28, htk, qi0, qi1, qi2, qi3, qi4, qi5, qi6, qi7, qi8, qi9, qi10, qi11, qi12, qi13, qi14, qi15, qi16, qi17, qi18, qi19]
      repeat (with_reducible refine And.intro ?_ ?_; first | omega | (with_reducible constructor <;> omega) | exact False.elim | exact True.intro)
      try simp only [midQ, OpsW_nil, OpsW_n, OpsW_y, OpsW_xt, OpsW_xf, OpsW_u, StepW, guardOf, DrawW_nil, DrawW_n, DrawW_y, DrawW_xt, DrawW_xf, DrawW_u, DrawH, VOp.isIaddr, QW, dok, dval, VOp.pure, VOp.simple, VOp.det, pok, pval, VA.ev, Env.get, Env.put, Env.keep, argEnv, thenQ, blockQ, retQ, resV, resOk, RS.ev, RS.ok, gd, pickV, isBool, aggV, intV, binV, binOk, strV, binbV, boolV, binbOk, unV, unOk, convV, isInt, isStr, numOf, loV, hiV, lenV, boundOk, sliceV, sliceOk, faddrV, isAddr, locCells, locOk, cellsOfAgg, isAggP, iaddrV, iaddrOk, idxV, idxOk, lenOk, extV, extOk, fillV, fillOk, mmV, PV.cells, PV.fits, overlay, PV.nth, PV.row, lookV, mapRows, mapOk, keysOk, keyOk, keyEq, mapFind, mapPut, mapHas, mapsetV, Heap.get, Heap.set, Heap.del, Heap.le, HL.get, HL.set, HL.del, HL.le, Heap.push, Heap.nil, Nat.le_refl, Nat.add_eq_left, Nat.left_eq_add, Nat.succ_ne_self, Nat.one_ne_zero, Env.le, killed, oldId, oldRows, oldOk, srcRows, srcOk, elemsV, elemsOk, eqOk, ekOk, eqCells, eqCell, storeV, storeOk, AB.live, pxV, pxOk, fxV, fxOk, isPtr, slLike, isNil, notNil, List.map, List.set, List.replicate, List.length, List.getD_cons_zero, List.getD_cons_succ, List.getD_nil, List.take, List.drop, List.take_zero, List.drop_zero, List.take_succ_cons, List.drop_succ_cons, List.append, List.cons_append, List.nil_append, Option.map, Nat.reduceEqDiff, Nat.reduceAdd, Nat.reduceLT, Nat.reduceLeDiff, Nat.reduceSub, Nat.reduceMul, reduceIte, Bool.false_eq_true, Bool.true_eq_false, ite_true, ite_false, if_true, if_false, true_and, and_true, implies_true, forall_const, ne_eq, not_false_eq_true, reduceCtorEq, BEq.rfl, beq_self_eq_true, Option.some.injEq, Nat.zero_add, Nat.add_zero, List.length_cons, List.length_nil, true_implies, imp_self, Int.reduceToNat, Int.toNat_natCast, Bool.not_false, Bool.not_true, qi0, qi1, qi2, qi3, qi4, qi5, qi6, qi7, qi8, qi9, qi10, qi11, qi12, qi13, qi14, qi15, qi16, qi17, qi18, qi19]
      refine VW_region [3, 5, 16, 17, 18, 23, 24, 25] ?_
      simp only [OpsW_nil, OpsW_n, StepW, pok, pval, VA.ev, Env.get, Env.put, Env.keep, thenQ, intV, binV, binOk, HL.get, Nat.succ_ne_self, Nat.reduceEqDiff, ite_true, ite_false, true_and, ad1 (a := j) (by omega)]
      refine ⟨⟨(j + 1, t + 1 + 1 + 1, t + 1 + 1 + 1 + 1), ⟨ja, by show t + 1 + 1 + 1 < t + 1 + 1 + 1 + 1; omega⟩⟩, ?_⟩
      rw [hnext, List.map_append, List.length_append]
      try simp only [Nat.le_refl, List.map, List.length, ite_true, ite_false, true_and, and_true, Nat.zero_add, qi0, qi1, qi2, qi3, qi4, qi5, qi6, qi7, qi8, qi9, qi10, qi11, qi12, qi13, qi14, qi15, qi16, qi17, qi18, qi19]
      all_goals (repeat' (first | rfl | trivial | omega | (simp only []; omega) | refine And.intro ?_ ?_))
    · simp only [decide_eq_false_iff_not] at h2
      obtain rfl : j = ds.length := by omega
      refine VW_exit ?_
      try simp only [thenQ, blockQ, retQ, Nat.succ_ne_self, ite_true, ite_false, reduceCtorEq]
      refine VW_region [3, 5, 16, 17, 18] ?_
      simp only [OpsW_nil, OpsW_n, StepW, pok, pval, VA.ev, Env.get, Env.put, Env.keep, thenQ, intV, binV, binOk, HL.get, Nat.succ_ne_self, Nat.reduceEqDiff, ite_true, ite_false, true_and, ad1 (a := i) (by omega)]
      refine ⟨⟨(i + 1, id, t), ⟨ia, ht⟩⟩, ?_⟩
      rw [hrow, List.take_length]
      try simp only [Nat.le_refl, ite_true, true_and, and_true]
      all_goals (repeat' (first | rfl | trivial | omega | (simp only []; omega) | refine And.intro ?_ ?_))
  · simp only [decide_eq_false_iff_not] at h1
    obtain rfl : i = acts.length := by omega
    refine VW_exit ?_
    try simp only [thenQ, blockQ, retQ, ite_true]
    refine VW_seq (VW_region [2] ?_)
    simp only [OpsW_nil, OpsW_n, StepW, pok, pval, VA.ev, Env.get, Env.put, Env.keep, thenQ, Nat.succ_ne_self, Nat.reduceEqDiff, ite_true, ite_false, true_and]
    refine VW_ret ?_
    try simp only [Env.get, retQ, resV, resOk, RS.ev, RS.ok, ite_true, true_and, and_true]
    rw [List.take_length]
    exact View.own_all (fz := false) (by simp [Heap.get, HL.get]) (by simp)
theorem deed_get (a : Ac) (k : Nat) (h : k < a.items.length) : (deeds a)[k]'(by rw [deeds, deeds_len]; exact h) = ⟨a.number, (k : Nat), a.day, a.items[k]⟩ := by
  have := deeds_get a.number a.day a.items 0 k h
  simpa [deeds] using this
theorem deed_get' (a : Ac) (k : Nat) (h : k < a.items.length) : (deeds a)[k]? = some ⟨a.number, (k : Nat), a.day, a.items[k]⟩ := by
  rw [List.getElem?_eq_getElem (by rw [deeds, deeds_len]; exact h), deed_get a k h]
theorem ac_day (x : Ac) : ((x.enc.drop 2).take 1).getD 0 .any = pI x.day := rfl
theorem ac_l2 (x : Ac) : (x.enc.drop 2).length = 5 := rfl
theorem ac_l6 (x : Ac) : (x.enc.drop 6).length = 1 := rfl
theorem sp_pandectref28_Deeds (l : List Gz) (hl : l.length ≤ 1000000) (hr : (rowG l).length ≤ 1000000) (hd : (itemsS (actsS (rowG l))).length ≤ 1000000) :
    PCall Try.prog 15 [.sl 4 (l.map Gz.enc)] (.sl 28 ((deedsS (actsS (rowG l))).map EI.enc)) := by
  refine PCall_intro ?_ (closed_eis _) (by simp only [ClosedL, List.mem_cons, List.not_mem_nil, or_false, forall_eq_or_imp, forall_eq, false_implies, implies_true]; repeat' (first | exact cI _ | exact cS _ | exact cB _ | exact closed_fn0 _ | exact closed_nilsl | exact closed_agg (Un.closed _) | exact closed_agg (It.closed _) | exact closed_agg (EI.closed _) | exact closed_agg (Ac.closed _) | exact closed_agg (Wd.closed _) | exact closed_agg (St.closed _) | exact closed_agg (Sta.closed _) | exact closed_eis _ | exact closed_acs _ | exact closed_gzs _ | exact Closed.of_scalar (scalar_int _ _) | exact closed_ro (Ac.closed _) | exact closed_ro (Gz.closed _) | exact closed_agg (Gz.closed _) | exact closed_strs _ | exact closed_map (fun w _ => Wd.closed w) | exact closed_map (fun w _ => St.closed w) | exact closed_map (fun w _ => Un.closed w) | exact closed_map (fun w _ => It.closed w) | exact closed_sc _ | exact closed_sps _ | exact closed_agg (Sp.closed _) | exact closed_ro (EI.closed _) | exact closed_ro (Sta.closed _) | exact closed_ro (It.closed _) | exact closed_ro (by simp only [List.mem_cons, List.not_mem_nil, or_false, forall_eq]; first | exact cI _ | exact cS _ | exact closed_eis _) | refine And.intro ?_ ?_))
  refine ACall_fn (vc := c_pandectref28_Deeds) (ts := [.t 2]) Go.Proofs.Try.func15 (by kernel_rfl) rfl rfl (Nat.le_of_ble_eq_true rfl) (by kernel_rfl) ?_
  unfold c_pandectref28_Deeds
  refine VW_seq (VW_region [0] ?_)
  simp only [OpsW_nil, OpsW_n, StepW, pok, pval, VA.ev, Env.get, Env.put, Env.keep, argEnv, thenQ, Heap.nil, ite_true, ite_false, true_and, reduceCtorEq]
  refine VW_seq (VW_region [3] ?_)
  simp only [OpsW_nil, OpsW_n, StepW, pok, pval, VA.ev, Env.get, Env.put, Env.keep, thenQ, List.map, Nat.reduceEqDiff, ite_true, ite_false, true_and, reduceCtorEq]
  refine ACall_p (sp_pandectref28_Acts l hl hr) ?_
  have hal : (actsS (rowG l)).length ≤ 1000000 := by
    have h1 := foldIns_len (fstA [] (rowG l)) []
    have h2 := fst_le (rowG l) []
    unfold actsS
    simp only [List.length_nil] at h1
    omega
  generalize actsS (rowG l) = acts at hd hal ⊢
  have heach := items_each acts
  try simp only [midQ, OpsW_nil, OpsW_n, OpsW_y, OpsW_xt, OpsW_xf, OpsW_u, StepW, guardOf, DrawW_nil, DrawW_n, DrawW_y, DrawW_xt, DrawW_xf, DrawW_u, DrawH, VOp.isIaddr, QW, dok, dval, VOp.pure, VOp.simple, VOp.det, pok, pval, VA.ev, Env.get, Env.put, Env.keep, argEnv, thenQ, blockQ, retQ, resV, resOk, RS.ev, RS.ok, gd, pickV, isBool, aggV, intV, binV, binOk, strV, binbV, boolV, binbOk, unV, unOk, convV, isInt, isStr, numOf, loV, hiV, lenV, boundOk, sliceV, sliceOk, faddrV, isAddr, locCells, locOk, cellsOfAgg, isAggP, iaddrV, iaddrOk, idxV, idxOk, lenOk, extV, extOk, fillV, fillOk, mmV, PV.cells, PV.fits, overlay, PV.nth, PV.row, lookV, mapRows, mapOk, keysOk, keyOk, keyEq, mapFind, mapPut, mapHas, mapsetV, Heap.get, Heap.set, Heap.del, Heap.le, HL.get, HL.set, HL.del, HL.le, Heap.push, Heap.nil, Nat.le_refl, Nat.add_eq_left, Nat.left_eq_add, Nat.succ_ne_self, Nat.one_ne_zero, Env.le, killed, oldId, oldRows, oldOk, srcRows, srcOk, elemsV, elemsOk, eqOk, ekOk, eqCells, eqCell, storeV, storeOk, AB.live, pxV, pxOk, fxV, fxOk, isPtr, slLike, isNil, notNil, List.map, List.set, List.replicate, List.length, List.getD_cons_zero, List.getD_cons_succ, List.getD_nil, List.take, List.drop, List.take_zero, List.drop_zero, List.take_succ_cons, List.drop_succ_cons, List.append, List.cons_append, List.nil_append, Option.map, Nat.reduceEqDiff, Nat.reduceAdd, Nat.reduceLT, Nat.reduceLeDiff, Nat.reduceSub, Nat.reduceMul, reduceIte, Bool.false_eq_true, Bool.true_eq_false, ite_true, ite_false, if_true, if_false, true_and, and_true, implies_true, forall_const, ne_eq, not_false_eq_true, reduceCtorEq, BEq.rfl, beq_self_eq_true, Option.some.injEq, Nat.zero_add, Nat.add_zero, List.length_cons, List.length_nil, true_implies, imp_self, Int.reduceToNat, Int.toNat_natCast, Bool.not_false, Bool.not_true]
  refine VW_seq (VW_region [3, 4] ?_)
  simp only [OpsW_nil, OpsW_n, StepW, pok, pval, VA.ev, Env.get, Env.put, Env.keep, thenQ, Heap.push, Nat.succ_ne_self, fxV, fxOk, List.map, Nat.reduceEqDiff, ite_true, ite_false, true_and, Nat.zero_add]
  unfold deedsS
  have hcl : ∀ n, (deedsF (itemsS acts) (acts.take n)).length ≤ 1000000 := fun n => by rw [deedsF_len]; have := itemsS_le acts n; omega
  have hcor := fun act item it => sp_pandectref28_corrected acts act item it hal (fun a ha => by have := heach a ha; omega)
  generalize hxs : itemsS acts = xs at hd hcl heach hcor ⊢
  refine VW_seq ?_
  refine VW_seq (VW_region [3, 4, 5] ?_)
  simp only [OpsW_nil, OpsW_n, StepW, pok, pval, VA.ev, Env.get, Env.put, Env.keep, thenQ, Nat.succ_ne_self, Nat.reduceEqDiff, ite_true, ite_false, true_and]
  refine VW_block ?_
  refine VW_loop (σ := { s : Nat × Nat × Nat // s.1 ≤ acts.length ∧ s.2.1 < s.2.2 }) (fun s => ([(3, .sl 7 (acts.map Ac.enc)), (4, .own s.1.2.1 0 (deedsF xs (acts.take s.1.1)).length), (5, pI s.1.1)], ⟨[(s.1.2.1, .arr false 28 ((deedsF xs (acts.take s.1.1)).map EI.enc))], s.1.2.2⟩)) (fun s => acts.length - s.1.1) ⟨(0, 0, 1), ⟨Nat.zero_le _, by show 0 < 1; omega⟩⟩ ?_ ?_ ?_
  · try simp only [Env.get, Nat.succ_ne_self, Env.le, List.take, Nat.reduceEqDiff, ite_true, ite_false, true_and, and_true, List.length_nil, List.take_zero, deedsF, List.flatMap_nil]
    all_goals (repeat' (first | rfl | trivial | omega | (simp only []; omega) | refine And.intro ?_ ?_))
  · try simp only [Heap.get, Heap.le, HL.get, HL.le, Nat.le_refl, List.map, List.take, ite_true, and_true, List.take_zero, deedsF, List.flatMap_nil]
    all_goals (repeat' (first | rfl | trivial | omega | (simp only []; omega) | refine And.intro ?_ ?_))
  rintro ⟨⟨i, id, t⟩, hi, ht⟩
  simp only [] at hi ht ⊢
  refine VW_seq ?_
  refine VW_seq (VW_region [3, 4, 5, 13] ?_)
  simp only [OpsW_nil, OpsW_n, StepW, pok, pval, VA.ev, Env.get, Env.put, Env.keep, thenQ, intV, binV, binOk, lenV, lenOk, Heap.get, Heap.le, HL.le, Nat.succ_ne_self, Env.le, Nat.reduceEqDiff, ite_true, ite_false, true_and, and_true, List.length_map]
  refine VW_cond rfl (fun h1 => ?_) (fun h1 => ?_)
  · refine VW_skip ?_
    try simp only [thenQ]
    simp only [decide_eq_true_eq] at h1
    have ia : i < acts.length := by omega
    have hrow := deedsF_take (xs := xs) ia
    have hcn := hcl (i + 1)
    rw [hrow, List.length_append, List.length_map] at hcn
    have hitl := heach acts[i] (List.getElem_mem ia)
    have hdl : (deeds acts[i]).length = acts[i].items.length := deeds_len _ _ _ _
    have hdg := deed_get' acts[i]
    refine VW_seq ?_
    refine VW_block ?_
    refine VW_seq (VW_region [3, 4, 5, 6] ?_)
    simp only [OpsW_nil, OpsW_n, StepW, pok, pval, VA.ev, Env.get, Env.put, Env.keep, thenQ, Nat.succ_ne_self, Nat.reduceEqDiff, ite_true, ite_false, true_and]
    refine VW_block ?_
    generalize hds : deeds acts[i] = ds at hrow hcn hdl hdg ⊢
    refine VW_loop (σ := { s : Nat × Nat × Nat // s.1 ≤ ds.length ∧ s.2.1 < s.2.2 }) (fun s => ([(3, .sl 7 (acts.map Ac.enc)), (4, .own s.1.2.1 0 (deedsF xs (acts.take i) ++ (ds.take s.1.1).map (fixE xs)).length), (5, pI i), (6, pI s.1.1)], ⟨[(s.1.2.1, .arr false 28 ((deedsF xs (acts.take i) ++ (ds.take s.1.1).map (fixE xs)).map EI.enc))], s.1.2.2⟩)) (fun s => ds.length - s.1.1) ⟨(0, id, t), ⟨Nat.zero_le _, ht⟩⟩ ?_ ?_ ?_
    · try simp only [Env.get, Nat.succ_ne_self, Env.le, List.take, Nat.reduceEqDiff, ite_true, ite_false, true_and, and_true, List.take_zero, List.map_nil, List.append_nil]
      all_goals (repeat' (first | rfl | trivial | omega | (simp only []; omega) | refine And.intro ?_ ?_))
    · try simp only [Heap.get, Heap.le, HL.get, HL.le, Nat.le_refl, List.take, ite_true, and_true, List.take_zero, List.map_nil, List.append_nil]
      all_goals (repeat' (first | rfl | trivial | omega | (simp only []; omega) | refine And.intro ?_ ?_))
    clear ht
    rintro ⟨⟨j, id, t⟩, hj, ht⟩
    simp only [] at hj ht ⊢
    refine VW_seq ?_
    refine VW_seq (VW_region [3, 4, 5, 6, 23] ?_)
    simp only [OpsW_nil, OpsW_n, StepW, pok, pval, VA.ev, Env.get, Env.put, Env.keep, thenQ, aggV, intV, binV, binOk, isInt, numOf, lenV, faddrV, isAddr, locCells, locOk, iaddrV, iaddrOk, lenOk, PV.nth, PV.row, Heap.get, Heap.le, HL.le, Nat.le_refl, Nat.succ_ne_self, Env.le, List.length, List.getD_cons_zero, List.take, List.take_succ_cons, Nat.reduceEqDiff, Bool.false_eq_true, ite_true, ite_false, true_and, and_true, implies_true, Nat.zero_add, List.length_cons, Int.toNat_natCast, List.length_map, rowm ia, ac_items, ac_len, ac_l6]
    repeat (with_reducible refine And.intro ?_ ?_; first | omega | (with_reducible constructor <;> omega) | exact False.elim | exact True.intro)
    refine VW_cond rfl (fun h2 => ?_) (fun h2 => ?_)
    · refine VW_skip ?_
      try simp only [thenQ]
      simp only [decide_eq_true_eq] at h2
      have ja : j < ds.length := by omega
      have jb : j < acts[i].items.length := by omega
      have hnext : deedsF xs (acts.take i) ++ (ds.take (j + 1)).map (fixE xs) = (deedsF xs (acts.take i) ++ (ds.take j).map (fixE xs)) ++ [fixE xs ds[j]] := by
        rw [List.take_add_one, List.getElem?_eq_getElem ja, Option.toList_some, List.map_append, List.append_assoc]; rfl
      have hg := hdg j jb
      rw [List.getElem?_eq_getElem ja] at hg
      rw [Option.some.inj hg] at hnext
      have hol : (deedsF xs (acts.take i) ++ (ds.take j).map (fixE xs)).length ≤ 1000000 := by
        simp only [List.length_append, List.length_map, List.length_take]; omega
      generalize hM : deedsF xs (acts.take i) ++ (ds.take j).map (fixE xs) = out at hnext hol ⊢
      have htk : (out.map EI.enc).take out.length = out.map EI.enc := List.take_of_length_le (by simp)
      have qi0 : (id = t) = False := eq_false (by omega)
      have qi1 : (id = (t + 1)) = False := eq_false (by omega)
      have qi2 : (id = (t + 1 + 1)) = False := eq_false (by omega)
      have qi3 : (id = (t + 1 + 1 + 1)) = False := eq_false (by omega)
      have qi4 : (t = id) = False := eq_false (by omega)
      have qi5 : (t = (t + 1)) = False := eq_false (by omega)
      have qi6 : (t = (t + 1 + 1)) = False := eq_false (by omega)
      have qi7 : (t = (t + 1 + 1 + 1)) = False := eq_false (by omega)
      have qi8 : ((t + 1) = id) = False := eq_false (by omega)
      have qi9 : ((t + 1) = t) = False := eq_false (by omega)
      have qi10 : ((t + 1) = (t + 1 + 1)) = False := eq_false (by omega)
      have qi11 : ((t + 1) = (t + 1 + 1 + 1)) = False := eq_false (by omega)
      have qi12 : ((t + 1 + 1) = id) = False := eq_false (by omega)
      have qi13 : ((t + 1 + 1) = t) = False := eq_false (by omega)
      have qi14 : ((t + 1 + 1) = (t + 1)) = False := eq_false (by omega)
      have qi15 : ((t + 1 + 1) = (t + 1 + 1 + 1)) = False := eq_false (by omega)
      have qi16 : ((t + 1 + 1 + 1) = id) = False := eq_false (by omega)
      have qi17 : ((t + 1 + 1 + 1) = t) = False := eq_false (by omega)
      have qi18 : ((t + 1 + 1 + 1) = (t + 1)) = False := eq_false (by omega)
      have qi19 : ((t + 1 + 1 + 1) = (t + 1 + 1)) = False := eq_false (by omega)
      refine VW_seq ?_
      refine VW_block ?_
      refine VW_draw2E (t + 10) [3, 4, 5, 6] (by simp) ?_
      simp only [StepW, DrawW_nil, DrawW_n, QW, dok, dval, VOp.pure, VOp.simple, VOp.det, pok, pval, VA.ev, Env.get, Env.put, Env.keep, thenQ, blockQ, gd, aggV, isInt, numOf, lenV, faddrV, isAddr, locCells, locOk, iaddrV, iaddrOk, fillV, fillOk, PV.cells, PV.fits, overlay, PV.nth, PV.row, Heap.get, Heap.del, Heap.le, HL.get, HL.del, HL.le, Heap.push, Nat.le_refl, Nat.succ_ne_self, killed, oldId, oldRows, oldOk, srcRows, srcOk, elemsV, elemsOk, List.set, List.replicate, List.length, List.getD_cons_zero, List.take, List.drop, List.take_succ_cons, List.drop_succ_cons, List.cons_append, List.nil_append, Nat.reduceEqDiff, Nat.reduceAdd, Nat.reduceLT, Nat.reduceLeDiff, Bool.false_eq_true, Bool.true_eq_false, ite_true, ite_false, true_and, and_true, implies_true, forall_const, BEq.rfl, Nat.zero_add, List.length_cons, imp_self, Int.toNat_natCast, List.length_map, rowm ia, rowm jb, ac_items, ac_len, ac_l6, ac_num, ac_day, ac_l2, it_len25, it_take25, qi0, qi1, qi2, qi3, qi4, qi5, qi6, qi7, qi8, qi9, qi10, qi11, qi12, qi13, qi14, qi15, qi16, qi17, qi18, qi19]
      repeat (with_reducible refine And.intro ?_ ?_; first | omega | (with_reducible constructor <;> omega) | exact False.elim | exact True.intro)
      refine ⟨_, .inl (hcor ..), ?_⟩
      try simp only [List.drop, List.drop_succ_cons, Nat.reduceAdd, true_and, BEq.rfl, List.length_map, it_len25, htk, List.append_nil, qi0, qi1, qi2, qi3, qi4, qi5, qi6, qi7, qi8, qi9, qi10, qi11, qi12, qi13, qi14, qi15, qi16, qi17, qi18, qi19]
      repeat (with_reducible refine And.intro ?_ ?_; first | omega | (with_reducible constructor <;> omega) | exact False.elim | exact True.intro)
      refine VW_region [3, 4, 5, 6] ?_
      simp only [OpsW_nil, OpsW_n, StepW, pok, pval, VA.ev, Env.get, Env.put, Env.keep, thenQ, intV, binV, binOk, HL.get, Nat.succ_ne_self, Nat.reduceEqDiff, ite_true, ite_false, true_and, ad1 (a := j) (by omega)]
      refine ⟨⟨(j + 1, t, t + 1), ⟨ja, by show t < t + 1; omega⟩⟩, ?_⟩
      rw [hnext, List.map_append, List.length_append]
      try simp only [Nat.le_refl, List.map, List.length, ite_true, true_and, and_true, Option.some.injEq, Nat.zero_add, qi0, qi1, qi2, qi3, qi4, qi5, qi6, qi7, qi8, qi9, qi10, qi11, qi12, qi13, qi14, qi15, qi16, qi17, qi18, qi19]
      all_goals (repeat' (first | rfl | trivial | omega | (simp only []; omega) | refine And.intro ?_ ?_))
    · simp only [decide_eq_false_iff_not] at h2
      obtain rfl : j = ds.length := by omega
      refine VW_exit ?_
      try simp only [thenQ, blockQ, retQ, Nat.succ_ne_self, ite_true, ite_false, reduceCtorEq]
      refine VW_region [3, 4, 5] ?_
      simp only [OpsW_nil, OpsW_n, StepW, pok, pval, VA.ev, Env.get, Env.put, Env.keep, thenQ, intV, binV, binOk, HL.get, Nat.succ_ne_self, Nat.reduceEqDiff, ite_true, ite_false, true_and, ad1 (a := i) (by omega)]
      refine ⟨⟨(i + 1, id, t), ⟨ia, ht⟩⟩, ?_⟩
      rw [hrow, List.take_length]
      try simp only [Nat.le_refl, ite_true, true_and, and_true]
      all_goals (repeat' (first | rfl | trivial | omega | (simp only []; omega) | refine And.intro ?_ ?_))
  · simp only [decide_eq_false_iff_not] at h1
    obtain rfl : i = acts.length := by omega
    refine VW_exit ?_
    try simp only [thenQ, blockQ, retQ, ite_true]
    refine VW_seq (VW_region [2] ?_)
    simp only [OpsW_nil, OpsW_n, StepW, pok, pval, VA.ev, Env.get, Env.put, Env.keep, thenQ, Nat.succ_ne_self, Nat.reduceEqDiff, ite_true, ite_false, true_and]
    refine VW_ret ?_
    try simp only [Env.get, retQ, resV, resOk, RS.ev, RS.ok, ite_true, true_and, and_true]
    rw [List.take_length]
    exact View.own_all (fz := false) (by simp [Heap.get, HL.get]) (by simp)
end Go.Proofs.Ytcjaojhbebpokaa.w

