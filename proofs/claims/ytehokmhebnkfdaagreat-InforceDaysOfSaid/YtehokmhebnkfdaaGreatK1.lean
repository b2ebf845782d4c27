import Derived.Test.YtehokmhebnkfdaaGreatSs
import Derived.Test.YtehokmhebnkfdaaGreatCP1
import Derived.Test.YtehokmhebnkfdaaGreatVmS
set_option linter.all false
namespace Go.Proofs.YtehokmhebnkfdaaGreat.w
open Go Go.VM
set_option maxRecDepth 20000
set_option maxHeartbeats 0
set_option pp.deepTerms false
def c_pandectlaw29_awake : VC := (.seq (.region [⟨(some 0), (.mv (.c (.bool false))), none⟩] false) (.seq (.region [⟨(some 4), (.build [(.int .i64 0), (.int .i64 0), (.str [])] [(0, (1, (.c (.int .i64 1)))), (1, (1, (.c (.int .i64 10))))]), none⟩, ⟨(some 5), (.build [(.int .i64 0), .nilsl, .nilsl, (.int .i64 0), (.int .i64 0), (.int .i64 0), (.int .i64 0), (.int .i64 0), (.int .i64 0), (.str []), .nilsl, .nilsl, .nilsl, .nilsl, .nilsl, (.str []), (.str []), (.int .i64 0), (.int .i64 0), (.str []), (.int .i64 0), (.int .i64 0), (.int .i64 0), (.str []), .nilsl] [(0, (1, (.c (.int .i64 1))))]), none⟩, ⟨(some 6), (.bslice 25 1 [(.int .i64 0), .nilsl, .nilsl, (.int .i64 0), (.int .i64 0), (.int .i64 0), (.int .i64 0), (.int .i64 0), (.int .i64 0), (.str []), .nilsl, .nilsl, .nilsl, .nilsl, .nilsl, (.str []), (.str []), (.int .i64 0), (.int .i64 0), (.str []), (.int .i64 0), (.int .i64 0), (.int .i64 0), (.str []), .nilsl] [(0, (.t 5))]), none⟩, ⟨(some 7), (.build [(.int .i64 0), (.str []), (.int .i64 0), (.int .i64 0), (.int .i64 0), (.str []), .nilsl] [(0, (1, (.c (.int .i64 1)))), (3, (3, (.t 4))), (6, (1, (.t 6)))]), none⟩, ⟨(some 1), (.alloc [(.int .i64 0), (.str []), (.int .i64 0), (.int .i64 0), (.int .i64 0), (.str []), .nilsl]), none⟩, ⟨none, (.store 7 (.t 1) (.t 7)), none⟩] false) (.seq (.region [⟨(some 8), (.build [(.int .i64 0), .nilsl, .nilsl, (.int .i64 0), (.int .i64 0), (.int .i64 0), (.int .i64 0), (.int .i64 0), (.int .i64 0), (.str []), .nilsl, .nilsl, .nilsl, .nilsl, .nilsl, (.str []), (.str []), (.int .i64 0), (.int .i64 0), (.str []), (.int .i64 0), (.int .i64 0), (.int .i64 0), (.str []), .nilsl] [(0, (1, (.c (.int .i64 8)))), (20, (1, (.c (.int .i64 1)))), (21, (1, (.c (.int .i64 (-1))))), (22, (1, (.c (.int .i64 20))))]), none⟩, ⟨(some 9), (.bslice 25 1 [(.int .i64 0), .nilsl, .nilsl, (.int .i64 0), (.int .i64 0), (.int .i64 0), (.int .i64 0), (.int .i64 0), (.int .i64 0), (.str []), .nilsl, .nilsl, .nilsl, .nilsl, .nilsl, (.str []), (.str []), (.int .i64 0), (.int .i64 0), (.str []), (.int .i64 0), (.int .i64 0), (.int .i64 0), (.str []), .nilsl] [(0, (.t 8))]), none⟩, ⟨(some 10), (.build [(.int .i64 0), (.str []), (.int .i64 0), (.int .i64 0), (.int .i64 0), (.str []), .nilsl] [(0, (1, (.c (.int .i64 2)))), (2, (1, (.c (.int .i64 1)))), (6, (1, (.t 9)))]), none⟩, ⟨(some 2), (.alloc [(.int .i64 0), (.str []), (.int .i64 0), (.int .i64 0), (.int .i64 0), (.str []), .nilsl]), none⟩, ⟨none, (.store 7 (.t 2) (.t 10)), none⟩] false) (.seq (.region [⟨(some 11), (.load true 7 (.t 1)), none⟩, ⟨(some 12), (.load true 7 (.t 2)), none⟩, ⟨(some 13), (.bslice 7 2 [(.int .i64 0), (.str []), (.int .i64 0), (.int .i64 0), (.int .i64 0), (.str []), .nilsl] [(0, (.t 11)), (1, (.t 12))]), none⟩, ⟨(some 14), (.build [(.int .i64 0), (.int .i64 0), (.str []), .nilsl] [(3, (1, (.t 13)))]), none⟩, ⟨(some 3), (.alloc [(.int .i64 0), (.int .i64 0), (.str []), .nilsl]), none⟩, ⟨none, (.store 4 (.t 3) (.t 14)), none⟩] false) (.seq (.region [⟨(some 15), (.load true 4 (.t 3)), none⟩, ⟨(some 16), (.bslice 4 1 [(.int .i64 0), (.int .i64 0), (.str []), .nilsl] [(0, (.t 15))]), none⟩, ⟨(some 17), (.call 26 [(.t 16)]), none⟩, ⟨(some 18), (.bslice 1 3 [(.int .i64 0)] [(0, (.c (.int .i64 0))), (1, (.c (.int .i64 10))), (2, (.c (.int .i64 20)))]), none⟩, ⟨(some 19), (.call 25 [(.t 17), (.t 18)]), none⟩, ⟨(some 20), (.mv (.t 19)), none⟩, ⟨(some 21), (.load true 4 (.t 3)), (some (20, true))⟩, ⟨(some 22), (.bslice 4 1 [(.int .i64 0), (.int .i64 0), (.str []), .nilsl] [(0, (.t 21))]), (some (20, true))⟩, ⟨(some 23), (.call 11 [(.c (.int .i64 9)), (.c (.str [])), (.t 22)]), (some (20, true))⟩, ⟨(some 24), (.len false (.t 23)), (some (20, true))⟩, ⟨(some 25), (.bin .eql (.t 24) (.c (.int .i64 0))), (some (20, true))⟩, ⟨(some 26), (.pick (.t 20) (.t 25) (.c (.bool false))), none⟩, ⟨(some 27), (.mv (.t 26)), none⟩, ⟨(some 28), (.load true 4 (.t 3)), (some (27, true))⟩, ⟨(some 29), (.bslice 4 1 [(.int .i64 0), (.int .i64 0), (.str []), .nilsl] [(0, (.t 28))]), (some (27, true))⟩, ⟨(some 30), (.call 11 [(.c (.int .i64 10)), (.c (.str [])), (.t 29)]), (some (27, true))⟩, ⟨(some 31), (.len false (.t 30)), (some (27, true))⟩, ⟨(some 32), (.bin .eql (.t 31) (.c (.int .i64 1))), (some (27, true))⟩, ⟨(some 33), (.pick (.t 27) (.t 32) (.c (.bool false))), none⟩, ⟨(some 0), (.mv (.t 33)), none⟩] false) .ret)))))
def itK (kind act item day : Int) : It := .mk kind [] [] 0 0 (.mk 0 0 0 0 [] [] [] []) [] [] [] [] ⟨0, 0, []⟩ act item day [] []
def rawK (kind act item day : Int) : List PV := [pI kind, .nilsl, .nilsl, pI 0, pI 0, pI 0, pI 0, pI 0, pI 0, .str [], .nilsl, .nilsl, .nilsl, .nilsl, .nilsl, .str [], .str [], pI 0, pI 0, .str [], pI act, pI item, pI day, .str [], .nilsl]
def CellsV (h : Heap) : List PV → List PV → Prop
  | [], [] => True
  | a :: r, b :: q => View h a b ∧ CellsV h r q
  | _, _ => False
theorem CellsV.at {h : Heap} : ∀ {l q : List PV}, CellsV h l q → ∀ j, View h (PV.nth l j) (PV.nth q j)
  | [], [], _, j => View.refl _ _
  | a :: r, b :: q, hv, 0 => hv.1
  | a :: r, b :: q, hv, j + 1 => by
    have := CellsV.at hv.2 j
    simpa [PV.nth] using this
theorem CellsV.len {h : Heap} : ∀ {l q : List PV}, CellsV h l q → l.length = q.length
  | [], [], _ => rfl
  | a :: r, b :: q, hv => by simp [CellsV.len hv.2]
  | [], _ :: _, hv => hv.elim
  | _ :: _, [], hv => hv.elim
theorem rawK_view (h : Heap) (kind act item day : Int) : CellsV h (rawK kind act item day) (itK kind act item day).enc := by
  rw [It.Zb5]
  refine ⟨View.refl _ _, View.nil _ _, View.nil _ _, View.refl _ _, View.refl _ _, View.refl _ _, View.refl _ _, View.refl _ _, View.refl _ _, View.refl _ _, View.nil _ _, View.nil _ _, View.nil _ _, View.nil _ _, View.nil _ _, View.refl _ _, View.refl _ _, View.refl _ _, View.refl _ _, View.refl _ _, View.refl _ _, View.refl _ _, View.refl _ _, View.refl _ _, View.nil _ _, trivial⟩
theorem rows_view {h : Heap} {id n z : Nat} {fz : Bool} {es q : List (List PV)} (hg : h.get id = some (.arr fz z es)) (hn : n = es.length) (hq : q.length = n) (hz : ∀ i, i < n → (PV.row q i).length = z) (hv : ∀ i, i < n → CellsV h (PV.row es i) (PV.row q i)) : View h (.own id 0 n) (.sl z q) :=
  View.ownV hg (by omega) hq hz (fun i j hi _ => by rw [Nat.zero_add]; exact CellsV.at (hv i hi) j)
def acA : Ac := ⟨1, [], 0, ⟨1, 10, []⟩, [itK 1 0 0 0]⟩
def acB : Ac := ⟨2, [], 1, ⟨0, 0, []⟩, [itK 8 1 (-1) 20]⟩
def gzA : Gz := ⟨0, 0, [], [acA, acB]⟩
def dA : EI := ⟨1, 0, 0, itK 1 0 0 0⟩
def dB : EI := ⟨2, 0, 1, itK 8 1 (-1) 20⟩
theorem awActs : actsS (rowG [gzA]) = [acA, acB] := by rfl
theorem awDeeds : dds [gzA] = [dA, dB] := by rfl
theorem awChg : chgS [gzA] = [dA] := by unfold chgS; rw [awDeeds]; rfl
theorem extend10 : c.Zb1 [] 10 = [⟨10, 1048577⟩] := by
  obtain ⟨h1, h2⟩ := c.extend_spec [] 10
  refine c.sp_ext h1 (by simp [Canon, Zby, Zbk]) fun d => (h2 d).trans ?_
  rw [c.mem_one]
  simp [Zcg, validD, Zbk]
  omega
theorem trunc20 : c.truncS [⟨10, 1048577⟩] 20 = [⟨10, 20⟩] := by
  obtain ⟨h1, h2⟩ := c.trunc_spec [⟨10, 1048577⟩] 20
  refine c.sp_ext h1 (by simp [Canon, Zby, Zbk]) fun d => (h2 d).trans ?_
  rw [c.mem_one, c.mem_one]
  simp [validD, Zbk]
  omega
theorem awDays : daysS [gzA] dA = [⟨10, 20⟩] := by
  unfold daysS
  rw [awDeeds, awActs, show startA [acA, acB] dA.act = ⟨1, 10, []⟩ from rfl]
  unfold c.forceS
  rw [if_neg (by decide)]
  have e1 : c.initS (c.ruleS ⟨1, 10, []⟩ dA.it.start) [dA, dB] = c.Zb1 [] 10 := by
    rw [show c.ruleS ⟨1, 10, []⟩ dA.it.start = ⟨1, 10, []⟩ from rfl]; rfl
  rw [e1, extend10]
  simp only [List.foldl_cons, List.foldl_nil]
  rw [show c.turnS dA.act dA.item [⟨10, 1048577⟩] dA = [⟨10, 1048577⟩] from rfl]
  rw [show c.turnS dA.act dA.item [⟨10, 1048577⟩] dB = c.truncS [⟨10, 1048577⟩] 20 from rfl, trunc20]
theorem awBreaks : bpS [gzA] = [0, 10, 20] := by
  unfold bpS Zcf
  rw [awChg]
  simp only [List.flatMap_cons, List.flatMap_nil, List.append_nil]
  rw [awDays, show c.edges [⟨10, 20⟩] = [10, 20] from rfl]
  have : c.sortI [0, 10, 20] = [0, 10, 20] := List.mergeSort_of_pairwise (by decide)
  rw [this]; rfl
theorem awOn9 : onS [gzA] 9 [] = [] := by
  unfold onS
  rw [awChg]
  simp only [List.filter_cons, List.filter_nil]
  unfold onB
  rw [awDays]; rfl
theorem awOn10 : onS [gzA] 10 [] = [dA] := by
  unfold onS
  rw [awChg]
  simp only [List.filter_cons, List.filter_nil]
  unfold onB
  rw [awDays]; rfl
theorem awSmal : Smal [gzA] := ⟨by decide, by decide, by rw [awActs]; decide⟩
theorem aw100 : (dds [gzA]).length ≤ 100 := by rw [awDeeds]; decide
theorem awake : PCall Tryz.prog 9 [] (.bool true) := by
  refine Zaj ?_ (cB _) (by simp only [Zav, List.mem_cons, List.not_mem_nil, or_false, forall_eq_or_imp, forall_eq, false_implies, implies_true]; repeat' (first  | exact cB _ | refine And.intro ?_ ?_))
  refine Zan (vc := c_pandectlaw29_awake) (ts := [.t 0]) Go.Proofs.Tryz.func9 (by kernel_rfl) rfl rfl (Nat.le_of_ble_eq_true rfl) (by kernel_rfl) ?_
  unfold c_pandectlaw29_awake
  refine Zad (Zaa [] ?_)
  simp only [Zab, Zac, StepW, pok, pval, VA.ev, Env.put, Env.keep, Zax, thenQ, Heap.nil, true_and]
  refine Zad (Zaa [1] ?_)
  simp only [Zab, Zac, StepW, pok, pval, VA.ev, Env.get, Env.put, Env.keep, thenQ, fillV, Zb4, PV.cells, PV.fits, overlay, PV.row, Heap.get, Heap.set, HL.get, HL.set, HL.del, Heap.push, Nat.le_refl, Nat.succ_ne_self, Zbc, Za8, Za7, Za2, List.set, List.replicate, List.length, List.getD_cons_zero, List.take, List.drop, List.take_succ_cons, List.drop_succ_cons, List.cons_append, List.nil_append, Nat.reduceEqDiff, Nat.reduceAdd, Nat.reduceLT, Nat.reduceLeDiff, ite_true, ite_false, true_and, and_true, reduceCtorEq, BEq.rfl, Nat.zero_add, List.length_cons]
  refine Zad (Zaa [1, 2] ?_)
  simp only [Zab, Zac, StepW, pok, pval, VA.ev, Env.get, Env.put, Env.keep, thenQ, fillV, Zb4, PV.cells, PV.fits, overlay, PV.row, Heap.get, Heap.set, HL.get, HL.set, HL.del, Heap.push, Nat.le_refl, Nat.succ_ne_self, Zbc, Za8, Za7, Za2, List.set, List.replicate, List.length, List.getD_cons_zero, List.take, List.drop, List.take_succ_cons, List.drop_succ_cons, List.cons_append, List.nil_append, Nat.reduceEqDiff, Nat.reduceAdd, Nat.reduceLT, Nat.reduceLeDiff, ite_true, ite_false, true_and, and_true, reduceCtorEq, BEq.rfl, Nat.zero_add, List.length_cons]
  refine Zad (Zaa [3] ?_)
  simp only [Zab, Zac, StepW, pok, pval, VA.ev, Env.get, Env.put, Env.keep, thenQ, aggV, Zae, locOk, fillV, Zb4, PV.cells, PV.fits, overlay, PV.nth, PV.row, Heap.get, Heap.set, HL.get, HL.set, HL.del, Heap.push, Nat.le_refl, Nat.succ_ne_self, Zbc, Za8, Za7, Za2, List.set, List.replicate, List.length, List.getD_cons_zero, List.take, List.drop, List.take_succ_cons, List.drop_succ_cons, List.cons_append, List.nil_append, Nat.reduceEqDiff, Nat.reduceAdd, Nat.reduceLT, Bool.true_eq_false, ite_true, ite_false, true_and, and_true, reduceCtorEq, BEq.rfl, Nat.zero_add, List.length_cons, imp_self]
  refine VW_freeze [(3, .ro gzA.enc)] ⟨?_, trivial⟩ ?_
  · refine View.locV (es := [[pI 0, pI 0, .str [], .own 4 0 2]]) (z := 4) (fz := false) (by simp [Heap.get, HL.get, pI]) (by decide) (by decide) (fun j hj => ?_)
    rw [Nat.zero_add]
    refine CellsV.at (l := [pI 0, pI 0, .str [], .own 4 0 2]) (q := gzA.enc) ⟨View.refl _ _, View.refl _ _, View.refl _ _, ?_, trivial⟩ j
    refine rows_view (es := [[pI 1, .str [], pI 0, pI 1, pI 10, .str [], .own 0 0 1], [pI 2, .str [], pI 1, pI 0, pI 0, .str [], .own 2 0 1]]) (fz := false) (by simp [Heap.get, HL.get, pI]) rfl rfl (fun i hi => ?_) (fun i hi => ?_)
    · match i, hi with
      | 0, _ => rfl
      | 1, _ => rfl
    · match i, hi with
      | 0, _ =>
        refine ⟨View.refl _ _, View.refl _ _, View.refl _ _, View.refl _ _, View.refl _ _, View.refl _ _, ?_, trivial⟩
        refine rows_view (es := [rawK 1 0 0 0]) (fz := false) (by simp [Heap.get, HL.get, pI, rawK]) rfl rfl (fun i hi => ?_) (fun i hi => ?_)
        · match i, hi with
          | 0, _ => exact It.Zbj _
        · match i, hi with
          | 0, _ => exact rawK_view _ _ _ _ _
      | 1, _ =>
        refine ⟨View.refl _ _, View.refl _ _, View.refl _ _, View.refl _ _, View.refl _ _, View.refl _ _, ?_, trivial⟩
        refine rows_view (es := [rawK 8 1 (-1) 20]) (fz := false) (by simp [Heap.get, HL.get, pI, rawK]) rfl rfl (fun i hi => ?_) (fun i hi => ?_)
        · match i, hi with
          | 0, _ => exact It.Zbj _
        · match i, hi with
          | 0, _ => exact rawK_view _ _ _ _ _
  have gt : gzA.enc.take 4 = gzA.enc := rfl
  have gl : gzA.enc.length = 4 := rfl
  refine Zad (Zaa [0] ?_)
  simp only [Zac, StepW, pok, pval, VA.ev, Env.get, Env.put, Env.keep, thenQ, aggV, Zae, locOk, PV.cells, PV.fits, PV.nth, Heap.push, Nat.le_refl, Nat.succ_ne_self, Zbc, Za8, List.map, List.set, List.replicate, Nat.reduceEqDiff, Nat.reduceAdd, Nat.reduceLT, Bool.true_eq_false, ite_true, ite_false, true_and, and_true, BEq.rfl, imp_self, gt, gl]
  refine ACall_f [.sl 4 [gzA.enc]] ⟨View.own_all (fz := false) (by simp [Heap.get, HL.get]) rfl, trivial⟩ (Zas (sp_inforce_Breakpoints [gzA] awSmal aw100) ?_)
  rw [awBreaks]
  try simp only [List.map, Nat.reduceAdd, gt, gl]
  refine ACall_v [.sl 1 ([0, 10, 20].map c.Za5), .sl 1 ([0, 10, 20].map c.Za5)] ⟨View.refl _ _, View.own_all (fz := false) (by simp [Heap.get, HL.get, c.Za5, pI]) rfl, trivial⟩ (sp_pandectref05_Ints [0, 10, 20] (by decide)) (scalar_bool _) ?_
  try simp only [Zac, Za0, StepW, pok, pval, VA.ev, Env.get, Env.put, pickV, isBool, aggV, intV, binV, binOk, lenV, Zae, locOk, lenOk, PV.cells, PV.fits, PV.nth, Heap.push, Nat.le_refl, Nat.succ_ne_self, Zbc, Za8, List.map, List.set, List.replicate, Nat.reduceEqDiff, Nat.reduceAdd, Nat.reduceLT, Bool.false_eq_true, Bool.true_eq_false, ite_true, ite_false, true_and, and_true, BEq.rfl, imp_self, gt, gl]
  refine ACall_f [pI 9, .str [], .sl 4 [gzA.enc]] ⟨View.refl _ _, View.refl _ _, View.own_all (fz := false) (by simp [Heap.get, HL.get]) rfl, trivial⟩ (Zas (sp_inforce_On 9 [] [gzA] awSmal (Nat.le_trans aw100 (by omega))) ?_)
  rw [awOn9]
  have z0 : (((0 : Nat) : Int) == 0) = true := rfl
  have z1 : (((1 : Nat) : Int) == 1) = true := rfl
  have z2 : (((0 + 1 : Nat) : Int) == 1) = true := rfl
  try simp only [Zab, Zac, Za0, StepW, pok, pval, VA.ev, Env.get, Env.put, pickV, isBool, aggV, intV, binV, binOk, lenV, Zae, locOk, lenOk, PV.cells, PV.fits, PV.nth, Heap.push, Nat.le_refl, Nat.succ_ne_self, Zbc, Za8, List.map, List.set, List.replicate, Nat.reduceEqDiff, Nat.reduceAdd, Nat.reduceLT, Bool.false_eq_true, Bool.true_eq_false, ite_true, ite_false, true_and, and_true, reduceCtorEq, BEq.rfl, List.length_nil, imp_self, gt, gl, z0]
  refine ACall_f [pI 10, .str [], .sl 4 [gzA.enc]] ⟨View.refl _ _, View.refl _ _, View.own_all (fz := false) (by simp [Heap.get, HL.get]) rfl, trivial⟩ (Zas (sp_inforce_On 10 [] [gzA] awSmal (Nat.le_trans aw100 (by omega))) ?_)
  rw [awOn10]
  try simp only [List.map, List.length, true_and, Nat.zero_add, List.length_cons, gt, gl, z1, z2]
  refine Zam ?_
  try simp only [Env.get, retQ, resV, resOk, RS.ev, RS.ok, ite_true, true_and, and_true]
  exact View.refl _ _
end Go.Proofs.YtehokmhebnkfdaaGreat.w
