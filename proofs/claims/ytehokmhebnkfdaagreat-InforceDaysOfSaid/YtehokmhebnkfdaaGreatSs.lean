import Derived.Test.YtehokmhebnkfdaaGreatVmU
import Derived.Test.YtehokmhebnkfdaaGreatVmI
import Derived.Test.YtehokmhebnkfdaaGreatCSo
import Derived.Test.YtehokmhebnkfdaaGreatShS
import Derived.Shelf.Slices.CompactS
import Derived.Test.YtehokmhebnkfdaaGreatI2
import Derived.Test.YtehokmhebnkfdaaGreatVmP
import Derived.Test.YtehokmhebnkfdaaGreatH9
set_option linter.all false
namespace Go.Proofs.YtehokmhebnkfdaaGreat.w
open Go Go.VM Go.Shelf Go.RowKit Go.Lib Go.Sort
set_option maxRecDepth 20000
set_option maxHeartbeats 0
end Go.Proofs.YtehokmhebnkfdaaGreat.w
namespace Go.Proofs.YtehokmhebnkfdaaGreat.w
open Go Go.VM
set_option maxRecDepth 20000
set_option maxHeartbeats 0
set_option pp.deepTerms false
def c_inforce_Breakpoints_1 : VC := (.seq (.region [⟨(some 3), (.box 28 (.t 0)), none⟩] false) (.draw2 [⟨(some 5), (.load false 1 (.t 2)), none⟩, ⟨(some 6), (.mv (.t 1)), none⟩, ⟨(some 7), (.call 52 [(.t 6)]), none⟩, ⟨(some 8), (.app 1 8 [(.int .i64 0)] false (.t 5) (.t 7)), none⟩, ⟨none, (.store 1 (.t 2) (.t 8)), none⟩] [true, true, true, false, false]))
def c_inforce_Breakpoints : VC := (.seq (.region [⟨(some 2), (.mv (.c .nilsl)), none⟩] false) (.seq (.region [⟨(some 4), (.bslice 1 1 [(.int .i64 0)] [(0, (.c (.int .i64 0)))]), none⟩, ⟨(some 3), (.alloc [.nilsl]), none⟩, ⟨none, (.store 1 (.t 3) (.t 4)), none⟩] false) (.seq (.region [⟨(some 5), (.mv (.t 0)), none⟩, ⟨(some 6), (.mkfn (.func 51) [] [(.t 3)]), none⟩, ⟨(some 7), (.call 34 [(.t 5), (.t 6)]), none⟩] false) (.seq (.region [⟨(some 8), (.load false 1 (.t 3)), none⟩, ⟨(some 9), (.call 53 [(.t 8)]), none⟩] false) (.seq (.region [⟨(some 10), (.load false 1 (.t 3)), none⟩, ⟨(some 11), (.call 54 [(.t 10)]), none⟩, ⟨(some 2), (.mv (.t 11)), none⟩] false) .ret)))))
noncomputable def Zcf (l : List Gz) (r : List EI) : List Int := 0 :: r.flatMap fun d => c.edges (daysS l d)
noncomputable def bpS (l : List Gz) : List Int := Lib.compact (c.sortI (Zcf l (chgS l)))
theorem edgesS_step (l : List Gz) {r : List EI} {k : Nat} (h : k < r.length) : Zcf l (r.take (k + 1)) = Zcf l (r.take k) ++ c.edges (daysS l (r.getD k EI0)) := by
  unfold Zcf
  rw [take_one h EI0, List.flatMap_append]
  simp
theorem edgesS_len (l : List Gz) (r : List EI) : (Zcf l r).length ≤ 1 + r.length * (2 * ((dds l).length + 1)) := by
  unfold Zcf
  rw [List.length_cons]
  suffices h : (r.flatMap fun d => c.edges (daysS l d)).length ≤ r.length * (2 * ((dds l).length + 1)) by omega
  induction r with
  | nil => simp
  | cons d r ih =>
    have h1 := c.edges_len (daysS l d)
    have h2 := days_len l d
    rw [List.flatMap_cons, List.length_append, List.length_cons, Nat.add_mul]
    omega
theorem back_Breakpoints (l : List Gz) (hd : (dds l).length ≤ 100) : Back 51 [.loc 1 0 0] (chgS l).length (fun k => (chgS l).getD k EI0) (fun k => daysS l ((chgS l).getD k EI0))
    (fun k L => ∃ id, id ≠ 1 ∧ L = [(id, .arr false 1 ((Zcf l ((chgS l).take k)).map c.Za5)), (1, .arr false 1 [[.own id 0 (Zcf l ((chgS l).take k)).length]])]) := by
  intro k hk L t hL hlt hnod
  obtain ⟨id, i0, rfl⟩ := hL
  have h2 : id < t := hlt _ List.mem_cons_self
  have h3 : 1 < t := hlt _ (List.mem_cons_of_mem _ List.mem_cons_self)
  have hstep := edgesS_step l hk
  have hlen : (Zcf l ((chgS l).take k)).length ≤ 30000 := by
    have h1 := edgesS_len l ((chgS l).take k)
    have h4 := (chg_sub l).length_le
    rw [List.length_take] at h1
    have h5 : min k (chgS l).length ≤ 100 := by omega
    have h6 : min k (chgS l).length * (2 * ((dds l).length + 1)) ≤ 100 * (2 * (100 + 1)) := Nat.mul_le_mul h5 (by omega)
    omega
  have hcan := days_canon l ((chgS l).getD k EI0)
  have hdl := days_len l ((chgS l).getD k EI0)
  have hel := c.edges_len (daysS l ((chgS l).getD k EI0))
  simp only []
  generalize (chgS l).getD k EI0 = d at hstep hcan hdl hel ⊢
  generalize daysS l d = D at hstep hcan hdl hel ⊢
  generalize Zcf l ((chgS l).take k) = G at hstep hlen ⊢
  have C := c.sp_dateset_Boundaries D (by omega)
  rw [c.norm_self hcan] at C
  generalize c.edges D = E at hstep hel C
  have hgl : (G.map c.Za5).length = G.length := by simp
  have hgt : (G.map c.Za5).take G.length = G.map c.Za5 := List.take_of_length_le (by simp)
  refine ACall.drop ?_
  refine Zan (vc := c_inforce_Breakpoints_1) (ts := []) Go.Proofs.Tryz.func51 (by kernel_rfl) rfl rfl (Nat.le_of_ble_eq_true rfl) (by kernel_rfl) ?_
  unfold c_inforce_Breakpoints_1
  have qi0 : (1 = id) = False := eq_false (by omega)
  have qi1 : (1 = t) = False := eq_false (by omega)
  have qi2 : (1 = (t + 1)) = False := eq_false (by omega)
  have qi3 : (id = 1) = False := eq_false (by omega)
  have qi4 : (id = t) = False := eq_false (by omega)
  have qi5 : (id = (t + 1)) = False := eq_false (by omega)
  have qi6 : (t = 1) = False := eq_false (by omega)
  have qi7 : (t = id) = False := eq_false (by omega)
  have qi8 : (t = (t + 1)) = False := eq_false (by omega)
  have qi9 : ((t + 1) = 1) = False := eq_false (by omega)
  have qi10 : ((t + 1) = id) = False := eq_false (by omega)
  have qi11 : ((t + 1) = t) = False := eq_false (by omega)
  refine Zad (Zaa [1, 2] ?_)
  simp only [Zab, Zac, StepW, VA.ev, Env.get, Env.put, Env.keep, Zax, thenQ, PV.cells, PV.fits, Heap.le, Heap.push, Nat.succ_ne_self, AB.live, Nat.reduceEqDiff, Nat.reduceAdd, ite_true, ite_false, true_and, ne_eq, reduceCtorEq, BEq.rfl, Nat.zero_add, Zb8]
  refine VW_draw2A (t + 10) [] ?_ ?_
  · try simp only [Heap.get, Heap.le, HL.get, HL.le, Nat.reduceLeDiff, ite_true, ite_false, and_true, qi0, qi1, qi2, qi3, qi4, qi5, qi6, qi7, qi8, qi9, qi10, qi11]
    all_goals (repeat' (first | rfl | trivial | omega | (simp only []; omega) | refine And.intro ?_ ?_))
  simp only [StepW, QW, dok, dval, VOp.pure, VOp.simple, VOp.det, pok, pval, VA.ev, Env.get, Env.put, retQ, resOk, gd, aggV, Zae, locOk, PV.cells, PV.fits, overlay, PV.nth, PV.row, Heap.get, Heap.set, Heap.del, Heap.le, HL.get, HL.set, HL.del, HL.le, Heap.push, Nat.le_refl, Nat.succ_ne_self, Zbl, oldId, Zbh, oldOk, Za6, srcOk, Za7, Za2, List.set, List.length, List.getD_cons_zero, List.getD_cons_succ, List.take, List.drop, List.take_succ_cons, List.drop_succ_cons, List.cons_append, List.nil_append, Nat.reduceEqDiff, Nat.reduceAdd, Nat.reduceLT, Nat.reduceLeDiff, Bool.false_eq_true, Bool.true_eq_false, ite_true, ite_false, true_and, and_true, implies_true, forall_const, reduceCtorEq, BEq.rfl, Option.some.injEq, Nat.zero_add, List.length_cons, DrawA, VOp.writes, false_implies, implies_true, List.length_map, hgl, hgt, qi0, qi1, qi2, qi3, qi4, qi5, qi6, qi7, qi8, qi9, qi10, qi11]
  refine ⟨_, .inl C, ?_⟩
  try simp only [true_and, DrawA, VOp.writes, false_implies, implies_true, List.length_map, hgl, hgt, qi0, qi1, qi2, qi3, qi4, qi5, qi6, qi7, qi8, qi9, qi10, qi11]
  refine ⟨by omega, by omega, by omega, by omega, ⟨[(t + 1, .arr false 1 ((G ++ E).map c.Za5)), (1, .arr false 1 [[.own (t + 1) 0 (G ++ E).length]])], t + 2⟩, ?_, _, _, by omega, by omega, rfl, ⟨t + 1, by omega, by rw [hstep]⟩, nod2 (by simp only []; omega), by simp <;> omega, by simp <;> omega, by simp [AB.live]⟩
  simp only [List.map_append, List.length_append]
  try simp only [Heap.get, HL.get, HL.le, Nat.le_refl, ite_true, ite_false, and_true, qi0, qi1, qi2, qi3, qi4, qi5, qi6, qi7, qi8, qi9, qi10, qi11]
  all_goals (repeat' (first | rfl | trivial | omega | (simp only []; omega) | refine And.intro ?_ ?_))
theorem closed_ints (l : List Int) : Closed (.sl 1 (l.map c.Za5)) := Zbd (fun a _ x hx => by simp only [c.Za5, List.mem_cons, List.not_mem_nil, or_false] at hx; subst hx; exact cI _)
theorem sp_inforce_Breakpoints (l : List Gz) (hs : Smal l) (hd : (dds l).length ≤ 100) : PCall Tryz.prog 26 [.sl 4 (l.map Gz.enc)] (.sl 1 ((bpS l).map c.Za5)) := by
  have hlen : (Zcf l (chgS l)).length ≤ 30000 := by
    have h1 := edgesS_len l (chgS l)
    have h4 := (chg_sub l).length_le
    have h6 : (chgS l).length * (2 * ((dds l).length + 1)) ≤ 100 * (2 * (100 + 1)) := Nat.mul_le_mul (by omega) (by omega)
    omega
  have hsl : (c.sortI (Zcf l (chgS l))).length = (Zcf l (chgS l)).length := by simp [c.sortI]
  have hcl := Lib.compact_length_le (c.sortI (Zcf l (chgS l)))
  refine Zaj ?_ (closed_ints _) (by simp only [Zav, List.mem_cons, List.not_mem_nil, or_false, forall_eq_or_imp, forall_eq, false_implies, implies_true]; repeat' (first  | exact Zbr _ | exact Zc1 _ | refine And.intro ?_ ?_))
  refine Zan (vc := c_inforce_Breakpoints) (ts := [.t 2]) Go.Proofs.Tryz.func26 (by kernel_rfl) rfl rfl (Nat.le_of_ble_eq_true rfl) (by kernel_rfl) ?_
  unfold c_inforce_Breakpoints
  refine Zad (Zaa [0] ?_)
  simp only [Zab, Zac, StepW, pok, pval, VA.ev, Env.get, Env.put, Env.keep, Zax, thenQ, Heap.nil, ite_true, ite_false, true_and, reduceCtorEq]
  refine Zad (Zaa [0, 3] ?_)
  simp only [Zab, Zac, StepW, VA.ev, Env.get, Env.put, Env.keep, thenQ, PV.cells, PV.fits, overlay, PV.row, Heap.get, Heap.set, HL.get, HL.set, HL.del, Heap.push, Nat.le_refl, Nat.succ_ne_self, Zbc, Za8, Za7, Za2, List.set, List.replicate, List.length, List.getD_cons_zero, List.take, List.drop, List.drop_succ_cons, List.cons_append, List.nil_append, Nat.reduceEqDiff, Nat.reduceAdd, Nat.reduceLT, ite_true, ite_false, true_and, and_true, reduceCtorEq, BEq.rfl, Nat.zero_add, List.length_cons]
  refine Zad (Zaa [3] ?_)
  simp only [Zab, Zac, StepW, pok, pval, VA.ev, Env.get, Env.put, Env.keep, thenQ, Nat.succ_ne_self, List.map, Nat.reduceEqDiff, ite_true, ite_false, true_and, reduceCtorEq]
  refine ACall.weakenL (h0 := ⟨[(0, .arr false 1 [[pI 0]]), (1, .arr false 1 [[.own 0 0 1]])], 2⟩) ?_ (ACall.mono (sp_changes l hs (by omega) 51 [.loc 1 0 0] _ (back_Breakpoints l hd) _ 2 ?_ ?_ ?_ ?_) ?_)
  · skip
    all_goals (repeat' (first | rfl | trivial | omega | (simp only []; omega) | refine And.intro ?_ ?_))
  · exact ⟨0, by simp, rfl⟩
  · simp
  · exact nod2 (by simp)
  · simp [AB.live]
  rintro p h' ⟨L', t', ht, rfl, ⟨id, i0, rfl⟩, hnod, hlt, _⟩
  rw [List.take_length]
  have hid : id < t' := hlt _ List.mem_cons_self
  have qi0 : (1 = id) = False := eq_false (by omega)
  have qi1 : (id = 1) = False := eq_false (by omega)
  skip
  refine Zad (Zaa [3] ?_)
  simp only [Zab, Zac, StepW, pok, pval, VA.ev, Env.get, Env.put, Env.keep, thenQ, aggV, Zae, locOk, PV.nth, PV.row, Heap.get, HL.get, Nat.le_refl, List.map, List.length, List.getD_cons_zero, List.take, List.drop, List.take_succ_cons, Nat.reduceEqDiff, Nat.reduceLT, Bool.false_eq_true, ite_true, ite_false, true_and, and_true, implies_true, Nat.zero_add, List.length_cons, qi0, qi1]
  have e0 : c.sortI (Zcf l (chgS l)) = c.sortI (Zcf l (chgS l)) := rfl
  refine ACall.frameL (l1 := [(id, .arr false 1 ((Zcf l (chgS l)).map c.Za5))]) (l2 := [(1, .arr false 1 [[.own id 0 (Zcf l (chgS l)).length]])]) (by simp <;> omega) (by simp) (ACall.mono (c.sortsInt id t' (Zcf l (chgS l)) (by omega)) ?_)
  rintro p h' rfl
  refine ⟨Nat.le_refl _, by simp <;> omega, by simp [AB.live], ?_⟩
  rw [← hsl]
  simp only [List.cons_append, List.nil_append]
  skip
  refine Zad (Zaa [2] ?_)
  simp only [Zab, Zac, StepW, pok, pval, VA.ev, Env.get, Env.put, Env.keep, thenQ, aggV, Zae, locOk, PV.nth, PV.row, Heap.get, HL.get, Nat.le_refl, Nat.succ_ne_self, List.map, List.length, List.getD_cons_zero, List.take, List.drop, List.take_succ_cons, Nat.reduceEqDiff, Nat.reduceLT, Bool.false_eq_true, ite_true, ite_false, true_and, and_true, implies_true, Nat.zero_add, List.length_cons, qi0, qi1]
  refine ACall.frameL (l1 := [(id, .arr false 1 ((c.sortI (Zcf l (chgS l))).map c.Za5))]) (l2 := [(1, .arr false 1 [[.own id 0 (c.sortI (Zcf l (chgS l))).length]])]) (by simp <;> omega) (by simp) (ACall.mono (c.compactsInt id t' (c.sortI (Zcf l (chgS l))) (by omega)) ?_)
  rintro p h' ⟨rfl, rest, rfl⟩
  refine ⟨Nat.le_refl _, by simp <;> omega, by simp [AB.live], ?_⟩
  simp only [List.cons_append, List.nil_append]
  skip
  refine Zam ?_
  try simp only [Env.get, retQ, resV, resOk, RS.ev, RS.ok, ite_true, true_and, and_true]
  have V := View.own (h := ⟨[(id, AB.arr false 1 ((Lib.compact (c.sortI (Zcf l (chgS l))) ++ rest).map c.Za5)), (1, .arr false 1 [[.own id 0 (c.sortI (Zcf l (chgS l))).length]])], t'⟩) (id := id) (off := 0) (len := (bpS l).length) (fz := false) (z := 1) (es := (Lib.compact (c.sortI (Zcf l (chgS l))) ++ rest).map c.Za5) (by simp [Heap.get, HL.get]) (by simp [bpS])
  have e1 : ((((Lib.compact (c.sortI (Zcf l (chgS l))) ++ rest).map c.Za5).drop 0).take (bpS l).length) = (bpS l).map c.Za5 := by
    rw [List.drop_zero, List.map_append]
    exact List.take_left' (by simp [bpS])
  rw [e1] at V
  exact V
end Go.Proofs.YtehokmhebnkfdaaGreat.w
namespace Go.Proofs.YtehokmhebnkfdaaGreat.w
open Go Go.VM
set_option maxRecDepth 20000
set_option maxHeartbeats 0
set_option pp.deepTerms false
def c_pandectlaw29_few : VC := (.seq (.region [⟨(some 2), (.mv (.c (.bool false))), none⟩] false) (.seq (.region [⟨(some 3), (.mv (.t 0)), none⟩, ⟨(some 4), (.call 18 [(.t 3), (.c (.int .i64 30))]), none⟩, ⟨(some 2), (.mv (.t 4)), none⟩] false) .ret))
def c_pandectref05_Ints : VC := (.seq (.region [⟨(some 4), (.mv (.c (.bool false))), none⟩] false) (.seq (.seq (.region [⟨(some 6), (.mv (.t 0)), none⟩, ⟨(some 7), (.len false (.t 6)), none⟩, ⟨(some 8), (.mv (.t 1)), none⟩, ⟨(some 9), (.len false (.t 8)), none⟩, ⟨(some 10), (.bin .neq (.t 7) (.t 9)), none⟩] false) (.cond (.t 10) (.seq (.region [⟨(some 4), (.mv (.c (.bool false))), none⟩] false) .ret) .skip)) (.seq (.seq (.region [⟨(some 5), (.mv (.c (.int .i64 0))), none⟩] false) (.block 0 (.loop (.seq (.seq (.region [⟨(some 11), (.mv (.t 5)), none⟩, ⟨(some 12), (.mv (.t 0)), none⟩, ⟨(some 13), (.len false (.t 12)), none⟩, ⟨(some 14), (.bin .lss (.t 11) (.t 13)), none⟩] false) (.cond (.t 14) .skip (.exit 0))) (.seq (.block 1 (.seq (.region [⟨(some 17), (.mv (.t 0)), none⟩, ⟨(some 18), (.mv (.t 5)), none⟩, ⟨(some 19), (.iaddr 1 (.t 17) (.t 18)), none⟩, ⟨(some 20), (.load false 1 (.t 19)), none⟩, ⟨(some 21), (.mv (.t 1)), none⟩, ⟨(some 22), (.mv (.t 5)), none⟩, ⟨(some 23), (.iaddr 1 (.t 21) (.t 22)), none⟩, ⟨(some 24), (.load false 1 (.t 23)), none⟩, ⟨(some 25), (.bin .neq (.t 20) (.t 24)), none⟩] true) (.cond (.t 25) (.seq (.region [⟨(some 4), (.mv (.c (.bool false))), none⟩] false) .ret) .skip))) (.region [⟨(some 15), (.mv (.t 5)), none⟩, ⟨(some 16), (.bin .add (.t 15) (.c (.int .i64 1))), none⟩, ⟨(some 5), (.mv (.t 16)), none⟩] false)))))) (.seq (.region [⟨(some 4), (.mv (.c (.bool true))), none⟩] false) .ret))))
theorem sp_pandectlaw29_few (l : List Gz) (hok : okL Gz.okZ l) : PCallS Tryz.prog 10 [.sl 4 (l.map Gz.enc)] (fun p => ∃ b, p = .bool b ∧ (b = true → Nice l ∧ FewG 30 l)) := by
  refine Zcs ?_ (clo1 (Zbr _))
  refine Zan (vc := c_pandectlaw29_few) (ts := [.t 2]) Go.Proofs.Tryz.func10 (by kernel_rfl) rfl rfl (Nat.le_of_ble_eq_true rfl) (by kernel_rfl) ?_
  unfold c_pandectlaw29_few
  refine Zad (Zaa [0] ?_)
  simp only [Zab, Zac, StepW, pok, pval, VA.ev, Env.get, Env.put, Env.keep, Zax, thenQ, Heap.nil, ite_true, ite_false, true_and, reduceCtorEq]
  refine Zad (Zaa [2] ?_)
  simp only [Zab, Zac, StepW, pok, pval, VA.ev, Env.get, Env.put, Env.keep, thenQ, Nat.succ_ne_self, List.map, Nat.reduceEqDiff, ite_true, ite_false, true_and, reduceCtorEq]
  refine Zc5 (sp_few28 l 30 (by omega) hok) ?_
  rintro p ⟨b, rfl, hb⟩
  skip
  refine Zam ?_
  try simp only [Env.get, retQ, resV, resOk, RS.ev, RS.ok, ite_true, true_and, and_true]
  exact ⟨_, View.refl _ _, ⟨b, rfl, fun h => ⟨nice_of_few (by omega) hok (hb h), hb h⟩⟩, cB _⟩
theorem sp_pandectref05_Ints (l : List Int) (hl : l.length ≤ 1000000) : PCall Tryz.prog 25 [.sl 1 (l.map c.Za5), .sl 1 (l.map c.Za5)] (.bool true) := by
  refine Zaj ?_ (cB _) (by simp only [Zav, List.mem_cons, List.not_mem_nil, or_false, forall_eq_or_imp, forall_eq, false_implies, implies_true]; repeat' (first  | exact cB _ | exact Zc1 _ | refine And.intro ?_ ?_))
  refine Zan (vc := c_pandectref05_Ints) (ts := [.t 4]) Go.Proofs.Tryz.func25 (by kernel_rfl) rfl rfl (Nat.le_of_ble_eq_true rfl) (by kernel_rfl) ?_
  unfold c_pandectref05_Ints
  refine Zad (Zaa [0, 1] ?_)
  simp only [Zab, Zac, StepW, pok, pval, VA.ev, Env.get, Env.put, Env.keep, Zax, thenQ, Heap.nil, Nat.succ_ne_self, Nat.reduceEqDiff, ite_true, ite_false, true_and, reduceCtorEq, Nat.zero_add]
  refine Zad ?_
  refine Zad (Zaa [0, 1, 10] ?_)
  simp only [Zab, Zac, StepW, pok, pval, VA.ev, Env.get, Env.put, Env.keep, thenQ, intV, binV, binOk, lenV, lenOk, Nat.succ_ne_self, Nat.reduceEqDiff, ite_true, ite_false, true_and, reduceCtorEq, List.length_map]
  refine Zaf rfl (fun h1 => by simp at h1) (fun h1 => ?_)
  refine Zah ?_
  try simp only [thenQ]
  refine Zad ?_
  refine Zad (Zaa [0, 1, 5] ?_)
  simp only [Zab, Zac, StepW, pok, pval, VA.ev, Env.get, Env.put, Env.keep, thenQ, Nat.succ_ne_self, Nat.reduceEqDiff, ite_true, ite_false, true_and, reduceCtorEq]
  refine Zag ?_
  refine Za1 (σ := { i : Nat // i ≤ l.length }) (fun s => ([(0, .sl 1 (l.map c.Za5)), (1, .sl 1 (l.map c.Za5)), (5, pI s.1)], ⟨[], 0⟩)) (fun s => l.length - s.1) ⟨0, Nat.zero_le _⟩ ?_ ?_ ?_
  · simp only [Env.get, Nat.succ_ne_self, Env.le, Nat.reduceEqDiff, ite_true, ite_false, true_and, and_true, reduceCtorEq]
    rfl
  · simp only [Heap.le, HL.le, Nat.le_refl, and_true]
  rintro ⟨i, hi⟩
  simp only []
  refine Zad ?_
  refine Zad (Zaa [0, 1, 5, 14] ?_)
  simp only [Zab, Zac, StepW, pok, pval, VA.ev, Env.get, Env.put, Env.keep, thenQ, intV, binV, binOk, lenV, lenOk, Heap.le, HL.le, Nat.succ_ne_self, Env.le, Nat.reduceEqDiff, ite_true, ite_false, true_and, and_true, reduceCtorEq, List.length_map]
  refine Zaf rfl (fun h2 => ?_) (fun h2 => ?_)
  · refine Zah ?_
    try simp only [thenQ]
    simp only [decide_eq_true_eq] at h2
    have ia : i < l.length := by omega
    refine Zad ?_
    refine Zag ?_
    refine Zad (Zca [0, 1, 5, 25] (by simp [Heap.le, Heap.get, HL.le, HL.get]) ?_)
    simp only [Zbi, Zb3, QW, dok, dval, VOp.pure, VOp.simple, VOp.det, pok, pval, VA.ev, Env.get, Env.put, Env.keep, thenQ, gd, aggV, intV, binV, binOk, isInt, numOf, lenV, Zae, locOk, Zau, Zao, PV.nth, PV.row, Nat.le_refl, Nat.succ_ne_self, List.length, List.getD_cons_zero, List.take, List.take_succ_cons, Nat.reduceEqDiff, Bool.false_eq_true, ite_true, ite_false, true_and, and_true, implies_true, forall_const, reduceCtorEq, Nat.zero_add, List.length_cons, Int.toNat_natCast, List.length_map, rowm ia, c.Za5]
    repeat (with_reducible refine And.intro ?_ ?_; first | omega | (with_reducible constructor <;> omega) | exact False.elim | exact True.intro)
    refine Zaf rfl (fun h3 => by simp at h3) (fun h3 => ?_)
    refine Zah ?_
    try simp only [thenQ, Zai]
    refine Zaa [0, 1, 5] ?_
    simp only [Zab, Zac, StepW, pok, pval, VA.ev, Env.get, Env.put, Env.keep, thenQ, intV, binV, binOk, Nat.le_refl, Nat.succ_ne_self, Nat.reduceEqDiff, ite_true, ite_false, true_and, reduceCtorEq, w64 (n := (i : Int) + 1) (by omega) (by omega)]
    refine ⟨⟨i + 1, ia⟩, ?_, ?_⟩
    · rfl
    · simp only []; omega
  · refine Zay ?_
    try simp only [thenQ, Zai, retQ, ite_true]
    refine Zad (Zaa [4] ?_)
    simp only [Zab, Zac, StepW, pok, pval, VA.ev, Env.get, Env.put, Env.keep, thenQ, Nat.succ_ne_self, Nat.reduceEqDiff, ite_true, ite_false, true_and, reduceCtorEq]
    refine Zam ?_
    try simp only [Env.get, retQ, resV, resOk, RS.ev, RS.ok, ite_true, true_and, and_true]
    exact View.refl _ _
end Go.Proofs.YtehokmhebnkfdaaGreat.w
