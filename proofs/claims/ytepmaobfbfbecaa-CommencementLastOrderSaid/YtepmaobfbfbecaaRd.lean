/-
  How the seat's arguments are read: the types of package api at this seat's numbers.
  Walks: starts and events.
-/
import Derived.Test.YtepmaobfbfbecaaVmB
import Derived.Test.YtepmaobfbfbecaaRows
import Derived.Test.YtepmaobfbfbecaaVmZ
set_option linter.all false
namespace Go.Proofs.Ytepmaobfbfbecaa.rd
open Go Go.VM
variable {W : World}

theorem k3 : Try.prog.cellsOf 3 = 1 := by kernel_rfl
theorem k9 : Try.prog.cellsOf 9 = 1 := by kernel_rfl
theorem k137 : Try.prog.cellsOf 137 = 3 := by kernel_rfl
theorem k139 : Try.prog.cellsOf 139 = 4 := by kernel_rfl
theorem k38 : Try.prog.cellsOf 38 = 3 := by kernel_rfl
theorem k39 : Try.prog.cellsOf 39 = 1 := by kernel_rfl
theorem k40 : Try.prog.cellsOf 40 = 1 := by kernel_rfl
theorem k42 : Try.prog.cellsOf 42 = 8 := by kernel_rfl
theorem k135 : Try.prog.cellsOf 135 = 2 := by kernel_rfl
theorem k23 : Try.prog.cellsOf 23 = 3 := by kernel_rfl
theorem k46 : Try.prog.cellsOf 46 = 25 := by kernel_rfl
theorem k49 : Try.prog.cellsOf 49 = 28 := by kernel_rfl
theorem k36 : Try.prog.cellsOf 36 = 1 := by kernel_rfl
theorem k43 : Try.prog.cellsOf 43 = 1 := by kernel_rfl
theorem k44 : Try.prog.cellsOf 44 = 1 := by kernel_rfl
theorem rI (n : Nat) : Reads Try.prog W n 3 i64 (fun a => [pI a]) := reads_int Try.underlying3
theorem rS (n : Nat) : Reads Try.prog W n 9 okS (fun a => [.str a]) := reads_string Try.underlying9
def enc3 (x : Int × Int × Int × Unit) : List PV := [pI x.1, pI x.2.1, pI x.2.2.1]
def ok3 (x : Int × Int × Int × Unit) : Prop := i64 x.1 ∧ i64 x.2.1 ∧ i64 x.2.2.1 ∧ True
theorem r137 (n : Nat) : Reads Try.prog W n 137 ok3 enc3 := by
  cases n with
  | zero => exact reads_zero
  | succ n => exact Reads.map (fun x : Int × Int × Int × Unit => x) (reads_struct Try.underlying137 rfl k137 (freads_cons (by exact (rI n)) (by exact k3) (by exact (fun _ => rfl)) (by rfl) (freads_cons (by exact (rI n)) (by exact k3) (by exact (fun _ => rfl)) (by rfl) (freads_cons (by exact (rI n)) (by exact k3) (by exact (fun _ => rfl)) (by rfl) freads_nil))) (by exact fun _ => rfl)) (fun _ h => h) (fun _ => rfl)
theorem r38 (n : Nat) : Reads Try.prog W n 38 ok3 enc3 := by
  cases n with
  | zero => exact reads_zero
  | succ n => exact Reads.map (fun x : Int × Int × Int × Unit => x) (reads_struct Try.underlying38 rfl k38 (freads_cons (by exact (rI n)) (by exact k3) (by exact (fun _ => rfl)) (by rfl) (freads_cons (by exact (rI n)) (by exact k3) (by exact (fun _ => rfl)) (by rfl) (freads_cons (by exact (rI n)) (by exact k3) (by exact (fun _ => rfl)) (by rfl) freads_nil))) (by exact fun _ => rfl)) (fun _ h => h) (fun _ => rfl)
theorem rWd (n : Nat) : Reads Try.prog W n 139 Wd.ok Wd.enc := by
  cases n with
  | zero => exact reads_zero
  | succ n =>
    refine Reads.map (fun x : Str × (Int × Int × Int × Unit) × Unit => (⟨x.1, x.2.1.1, x.2.1.2.1, x.2.1.2.2.1⟩ : Wd))
      (reads_struct Try.underlying139 rfl k139 (freads_cons (by exact (rS n)) (by exact k9) (by exact (fun _ => rfl)) (by rfl) (freads_cons (by exact (r137 n)) (by exact k137) (by exact (fun _ => rfl)) (by rfl) freads_nil)) (by exact fun _ => rfl)) ?_ ?_
    · rintro ⟨t, ⟨a, b, c, _⟩, _⟩ ⟨h1, ⟨h2, h3, h4, _⟩, _⟩; exact ⟨h1, h2, h3, h4⟩
    · rintro ⟨t, ⟨a, b, c, _⟩, _⟩; rfl
theorem rWds (n : Nat) : Reads Try.prog W n 39 (okL Wd.ok) (fun l => [.sl 4 (l.map Wd.enc)]) := reads_sl Try.underlying39 k139 (by decide) (fun _ => rfl) n (fun m _ => rWd m)
theorem un_len (u : Un) : u.enc.length = 8 := by rw [Un.enc_eq]; rfl
theorem rUn : ∀ n : Nat, Reads Try.prog W n 42 Un.ok Un.enc := by
  intro n
  induction n using Nat.strongRecOn with
  | _ n ih =>
    cases n with
    | zero => exact reads_zero
    | succ n =>
      refine Reads.map (fun x : (Int × Int × Int × Unit) × Int × Str × List Wd × List Wd × List Un × Unit => Un.mk x.1.1 x.1.2.1 x.1.2.2.1 x.2.1 x.2.2.1 x.2.2.2.1 x.2.2.2.2.1 x.2.2.2.2.2.1)
        (reads_struct Try.underlying42 rfl k42 (freads_cons (by exact (r38 n)) (by exact k38) (by exact (fun _ => rfl)) (by rfl) (freads_cons (by exact (rI n)) (by exact k3) (by exact (fun _ => rfl)) (by rfl) (freads_cons (by exact (rS n)) (by exact k9) (by exact (fun _ => rfl)) (by rfl) (freads_cons (by exact (rWds n)) (by exact k39) (by exact (fun _ => rfl)) (by rfl)
          (freads_cons (by exact (rWds n)) (by exact k39) (by exact (fun _ => rfl)) (by rfl) (freads_cons (by exact (reads_sl Try.underlying40 k42 (by decide) un_len n (fun m hm => ih m (by omega)))) (by exact k40) (by exact (fun _ => rfl)) (by rfl) freads_nil)))))) (by exact fun _ => rfl)) ?_ ?_
      · rintro ⟨⟨a, b, c, _⟩, k, l, h, w, ks, _⟩ ⟨⟨h1, h2, h3, _⟩, h4, h5, h6, h7, h8, _⟩
        exact .mk _ h1 h2 h3 h4 h5 h6 h7 h8.1 h8.2
      · rintro ⟨⟨a, b, c, _⟩, k, l, h, w, ks, _⟩
        rw [Un.enc_eq]; rfl
theorem rSt (n : Nat) : Reads Try.prog W n 135 St.ok St.enc := by
  cases n with
  | zero => exact reads_zero
  | succ n =>
    refine Reads.map (fun x : Int × Str × Unit => (⟨x.1, x.2.1⟩ : St)) (reads_struct Try.underlying135 rfl k135 (freads_cons (by exact (rI n)) (by exact k3) (by exact (fun _ => rfl)) (by rfl) (freads_cons (by exact (rS n)) (by exact k9) (by exact (fun _ => rfl)) (by rfl) freads_nil)) (by exact fun _ => rfl)) ?_ ?_
    · rintro ⟨a, b, _⟩ ⟨h1, h2, _⟩; exact ⟨h1, h2⟩
    · rintro ⟨a, b, _⟩; rfl
theorem rSta (n : Nat) : Reads Try.prog W n 23 Sta.ok Sta.enc := by
  cases n with
  | zero => exact reads_zero
  | succ n =>
    refine Reads.map (fun x : Int × Int × Str × Unit => (⟨x.1, x.2.1, x.2.2.1⟩ : Sta)) (reads_struct Try.underlying23 rfl k23 (freads_cons (by exact (rI n)) (by exact k3) (by exact (fun _ => rfl)) (by rfl) (freads_cons (by exact (rI n)) (by exact k3) (by exact (fun _ => rfl)) (by rfl) (freads_cons (by exact (rS n)) (by exact k9) (by exact (fun _ => rfl)) (by rfl) freads_nil))) (by exact fun _ => rfl)) ?_ ?_
    · rintro ⟨a, b, c, _⟩ ⟨h1, h2, h3, _⟩; exact ⟨h1, h2, h3⟩
    · rintro ⟨a, b, c, _⟩; rfl
theorem rSts (n : Nat) : Reads Try.prog W n 36 (okL St.ok) (fun l => [.sl 2 (l.map St.enc)]) := reads_sl Try.underlying36 k135 (by decide) (fun _ => rfl) n (fun m _ => rSt m)
theorem rSs (n : Nat) : Reads Try.prog W n 43 (okL okS) (fun l => [It.strs l]) := reads_sl Try.underlying43 k9 (by decide) (fun _ => rfl) n (fun m _ => rS m)
theorem rIt : ∀ n : Nat, Reads Try.prog W n 46 It.ok It.enc := by
  intro n
  induction n using Nat.strongRecOn with
  | _ n ih =>
    cases n with
    | zero => exact reads_zero
    | succ n =>
      refine Reads.map (fun x : Int × List St × List St × Int × Int × Un × List Str × List Str × Str × Str × Sta × Int × Int × Int × Str × List It × Unit =>
          It.mk x.1 x.2.1 x.2.2.1 x.2.2.2.1 x.2.2.2.2.1 x.2.2.2.2.2.1 x.2.2.2.2.2.2.1 x.2.2.2.2.2.2.2.1 x.2.2.2.2.2.2.2.2.1 x.2.2.2.2.2.2.2.2.2.1 x.2.2.2.2.2.2.2.2.2.2.1 x.2.2.2.2.2.2.2.2.2.2.2.1 x.2.2.2.2.2.2.2.2.2.2.2.2.1 x.2.2.2.2.2.2.2.2.2.2.2.2.2.1 x.2.2.2.2.2.2.2.2.2.2.2.2.2.2.1 x.2.2.2.2.2.2.2.2.2.2.2.2.2.2.2.1)
        (reads_struct Try.underlying46 rfl k46 (freads_cons (by exact (rI n)) (by exact k3) (by exact (fun _ => rfl)) (by rfl) (freads_cons (by exact (rSts n)) (by exact k36) (by exact (fun _ => rfl)) (by rfl) (freads_cons (by exact (rSts n)) (by exact k36) (by exact (fun _ => rfl)) (by rfl) (freads_cons (by exact (rI n)) (by exact k3) (by exact (fun _ => rfl)) (by rfl) (freads_cons (by exact (rI n)) (by exact k3) (by exact (fun _ => rfl)) (by rfl)
          (freads_cons (by exact (rUn n)) (by exact k42) (by exact un_len) (by rfl) (freads_cons (by exact (rSs n)) (by exact k43) (by exact (fun _ => rfl)) (by rfl) (freads_cons (by exact (rSs n)) (by exact k43) (by exact (fun _ => rfl)) (by rfl) (freads_cons (by exact (rS n)) (by exact k9) (by exact (fun _ => rfl)) (by rfl) (freads_cons (by exact (rS n)) (by exact k9) (by exact (fun _ => rfl)) (by rfl) (freads_cons (by exact (rSta n)) (by exact k23) (by exact (fun _ => rfl)) (by rfl)
          (freads_cons (by exact (rI n)) (by exact k3) (by exact (fun _ => rfl)) (by rfl) (freads_cons (by exact (rI n)) (by exact k3) (by exact (fun _ => rfl)) (by rfl) (freads_cons (by exact (rI n)) (by exact k3) (by exact (fun _ => rfl)) (by rfl) (freads_cons (by exact (rS n)) (by exact k9) (by exact (fun _ => rfl)) (by rfl)
          (freads_cons (by exact (reads_sl Try.underlying44 k46 (by decide) It.enc_len n (fun m hm => ih m (by omega)))) (by exact k44) (by exact (fun _ => rfl)) (by rfl) freads_nil)))))))))))))))) ?_) ?_ ?_
      · rintro ⟨k, a, t, w, n, u, o, e, l, f, s, ac, it, d, ev, b, _⟩; simp only [List.length_append, un_len]; rfl
      · rintro ⟨k, a, t, w, n, u, o, e, l, f, s, ac, it, d, ev, b, _⟩ ⟨h1, h2, h3, h4, h5, h6, h7, h8, h9, h10, h11, h12, h13, h14, h15, h16, _⟩
        exact .mk _ h1 h2 h3 h4 h5 h6 h7 h8 h9 h10 h11 h12 h13 h14 h15 h16.1 h16.2
      · rintro ⟨k, a, t, w, n, u, o, e, l, f, s, ac, it, d, ev, b, _⟩
        rw [It.enc_eq, Un.enc_eq]; rfl
theorem ei_len (x : EI) : x.enc.length = 28 := by simp [EI.enc, It.enc_len]
theorem rEI (n : Nat) : Reads Try.prog W n 49 EI.ok EI.enc := by
  cases n with
  | zero => exact reads_zero
  | succ n =>
    refine Reads.map (fun x : Int × Int × Int × It × Unit => (⟨x.1, x.2.1, x.2.2.1, x.2.2.2.1⟩ : EI)) (reads_struct Try.underlying49 rfl k49 (freads_cons (by exact (rI n)) (by exact k3) (by exact (fun _ => rfl)) (by rfl) (freads_cons (by exact (rI n)) (by exact k3) (by exact (fun _ => rfl)) (by rfl) (freads_cons (by exact (rI n)) (by exact k3) (by exact (fun _ => rfl)) (by rfl) (freads_cons (by exact (rIt n)) (by exact k46) (by exact It.enc_len) (by rfl) freads_nil)))) ?_) ?_ ?_
    · rintro ⟨a, b, c, d, _⟩; simp only [List.length_append, It.enc_len]; rfl
    · rintro ⟨a, b, c, d, _⟩ ⟨h1, h2, h3, h4, _⟩; exact ⟨h1, h2, h3, h4⟩
    · rintro ⟨a, b, c, d, _⟩; simp [EI.enc]
theorem rIts (n : Nat) : Reads Try.prog W n 44 (okL It.ok) (fun l => [.sl 25 (l.map It.enc)]) := reads_sl Try.underlying44 k46 (by decide) It.enc_len n (fun m _ => rIt m)
theorem k61 : Try.prog.cellsOf 61 = 2 := by kernel_rfl
theorem rSp (n : Nat) : Reads Try.prog W n 61 Sp.ok Sp.enc := by
  cases n with
  | zero => exact reads_zero
  | succ n =>
    refine Reads.map (fun x : Int × Int × Unit => (⟨x.1, x.2.1⟩ : Sp)) (reads_struct Try.underlying61 rfl k61 (freads_cons (by exact (rI n)) (by exact k3) (by exact (fun _ => rfl)) (by rfl) (freads_cons (by exact (rI n)) (by exact k3) (by exact (fun _ => rfl)) (by rfl) freads_nil)) (by exact fun _ => rfl)) ?_ ?_
    · rintro ⟨a, b, _⟩ ⟨h1, h2, _⟩; exact ⟨h1, h2⟩
    · rintro ⟨a, b, _⟩; rfl
theorem rSps (n : Nat) : Reads Try.prog W n 32 (okL Sp.ok) (fun l => [.sl 2 (l.map Sp.enc)]) := reads_sl Try.underlying32 k61 (by decide) (fun _ => rfl) n (fun m _ => rSp m)
theorem rEIs (n : Nat) : Reads Try.prog W n 24 (okL EI.ok) (fun l => [.sl 28 (l.map EI.enc)]) := reads_sl Try.underlying24 k49 (by decide) ei_len n (fun m _ => rEI m)
theorem rIs (n : Nat) : Reads Try.prog W n 53 (okL i64) (fun l => [.sl 1 (l.map fun x => [pI x])]) := reads_sl Try.underlying53 k3 (by decide) (fun _ => rfl) n (fun m _ => rI m)
end Go.Proofs.Ytepmaobfbfbecaa.rd


namespace Go.VM
open Go
theorem Sta.closed (s : Sta) : ∀ x ∈ s.enc, Closed x := by
  intro x hx
  simp only [Sta.enc, List.mem_cons, List.not_mem_nil, or_false] at hx
  rcases hx with rfl | rfl | rfl
  · exact cI _
  · exact cI _
  · exact cS _
end Go.VM
namespace Go.Proofs.Ytepmaobfbfbecaa.w
open Go Go.VM
set_option maxRecDepth 20000
set_option maxHeartbeats 0
set_option pp.deepTerms false
def c_commencement_EffectiveStart : VC := (.seq (.region [⟨(some 2), (.box 3 (.t 0)), none⟩, ⟨(some 3), (.box 3 (.t 1)), none⟩, ⟨(some 4), (.alloc [(.int .i64 0), (.int .i64 0), (.str [])]), none⟩] false) (.seq (.seq (.region [⟨(some 5), (.faddr 0 (.t 3)), none⟩, ⟨(some 6), (.load false 1 (.t 5)), none⟩, ⟨(some 7), (.bin .neq (.t 6) (.c (.int .i64 0))), none⟩] false) (.cond (.t 7) (.seq (.region [⟨(some 8), (.load true 3 (.t 3)), none⟩, ⟨none, (.store 3 (.t 4) (.t 8)), none⟩] false) .ret) .skip)) (.seq (.region [⟨(some 9), (.load true 3 (.t 2)), none⟩, ⟨none, (.store 3 (.t 4) (.t 9)), none⟩] false) .ret)))
def c_commencement_EventDay_1 : VC := (.seq (.region [⟨(some 2), (.box 28 (.t 0)), none⟩, ⟨(some 3), (.mv (.c (.bool false))), none⟩] false) (.seq (.region [⟨(some 4), (.faddr 3 (.t 2)), none⟩, ⟨(some 5), (.faddr 0 (.t 4)), none⟩, ⟨(some 6), (.load false 1 (.t 5)), none⟩, ⟨(some 7), (.bin .eql (.t 6) (.c (.int .i64 10))), none⟩, ⟨(some 8), (.mv (.t 7)), none⟩, ⟨(some 9), (.faddr 3 (.t 2)), (some (8, true))⟩, ⟨(some 10), (.faddr 23 (.t 9)), (some (8, true))⟩, ⟨(some 11), (.load false 1 (.t 10)), (some (8, true))⟩, ⟨(some 12), (.load false 1 (.t 1)), (some (8, true))⟩, ⟨(some 13), (.bin .eql (.t 11) (.t 12)), (some (8, true))⟩, ⟨(some 14), (.pick (.t 8) (.t 13) (.c (.bool false))), none⟩, ⟨(some 3), (.mv (.t 14)), none⟩] false) .ret))
def c_commencement_EventDay : VC := (.seq (.region [⟨(some 2), (.box 1 (.t 0)), none⟩, ⟨(some 4), (.mv (.c (.int .i64 0))), none⟩, ⟨(some 5), (.mv (.c (.bool false))), none⟩] false) (.seq (.region [⟨(some 7), (.mv (.t 1)), none⟩, ⟨(some 8), (.mkfn (.func 28) [] [(.t 2)]), none⟩, ⟨(some 9), (.call 27 [(.t 7), (.t 8)]), none⟩, ⟨(some 6), (.mv (.t 9)), none⟩] false) (.seq (.seq (.region [⟨(some 10), (.mv (.t 6)), none⟩, ⟨(some 11), (.bin .lss (.t 10) (.c (.int .i64 0))), none⟩] false) (.cond (.t 11) (.seq (.region [⟨(some 4), (.mv (.c (.int .i64 0))), none⟩, ⟨(some 5), (.mv (.c (.bool false))), none⟩] false) .ret) .skip)) (.seq (.region [⟨(some 12), (.mv (.t 1)), none⟩, ⟨(some 13), (.mv (.t 6)), none⟩, ⟨(some 14), (.iaddr 28 (.t 12) (.t 13)), none⟩, ⟨(some 15), (.faddr 3 (.t 14)), none⟩, ⟨(some 16), (.faddr 22 (.t 15)), none⟩, ⟨(some 17), (.load false 1 (.t 16)), none⟩, ⟨(some 4), (.mv (.t 17)), none⟩, ⟨(some 5), (.mv (.c (.bool true))), none⟩] false) .ret))))
def c_slices_IndexFunc_EnactedItem : VC := (.seq (.region [⟨(some 4), (.mv (.c (.int .i64 0))), none⟩] false) (.seq (.seq (.region [⟨(some 6), (.mv (.t 0)), none⟩, ⟨(some 7), (.len false (.t 6)), none⟩, ⟨(some 8), (.mv (.c (.int .i64 0))), none⟩] false) (.block 0 (.loop (.seq (.region [⟨(some 9), (.bin .lss (.t 8) (.t 7)), none⟩] false) (.seq (.cond (.t 9) .skip (.exit 0)) (.seq (.block 1 (.seq (.region [⟨(some 10), (.mv (.t 8)), none⟩, ⟨(some 5), (.mv (.t 10)), none⟩] false) (.seq (.region [⟨(some 11), (.mv (.t 1)), none⟩, ⟨(some 12), (.mv (.t 0)), none⟩, ⟨(some 13), (.mv (.t 5)), none⟩, ⟨(some 14), (.iaddr 28 (.t 12) (.t 13)), none⟩, ⟨(some 15), (.load true 28 (.t 14)), none⟩, ⟨(some 16), (.callv (.t 11) [(.t 15)]), none⟩] false) (.cond (.t 16) (.seq (.region [⟨(some 17), (.mv (.t 5)), none⟩, ⟨(some 4), (.mv (.t 17)), none⟩] false) .ret) .skip)))) (.region [⟨(some 18), (.bin .add (.t 8) (.c (.int .i64 1))), none⟩, ⟨(some 8), (.mv (.t 18)), none⟩] false))))))) (.seq (.region [⟨(some 4), (.mv (.c (.int .i64 (-1)))), none⟩] false) .ret)))
def ruleS (a b : Sta) : Sta := if b.kind ≠ 0 then b else a
theorem sp_commencement_EffectiveStart (a b : Sta) : PCall Try.prog 14 [.agg a.enc, .agg b.enc] (.agg (ruleS a b).enc) := by
  refine PCall_intro ?_ (closed_agg (Sta.closed _)) (by simp only [ClosedL, List.mem_cons, List.not_mem_nil, or_false, forall_eq_or_imp, forall_eq, false_implies, implies_true]; repeat' (first | exact cI _ | exact cS _ | exact cB _ | exact closed_fn0 _ | exact closed_nilsl | exact closed_agg (Un.closed _) | exact closed_agg (It.closed _) | exact closed_agg (EI.closed _) | exact closed_agg (Ac.closed _) | exact closed_agg (Wd.closed _) | exact closed_agg (St.closed _) | exact closed_agg (Sta.closed _) | exact closed_eis _ | exact closed_acs _ | exact closed_strs _ | exact closed_map (fun w _ => Wd.closed w) | exact closed_map (fun w _ => St.closed w) | exact closed_map (fun w _ => Un.closed w) | exact closed_map (fun w _ => It.closed w) | exact closed_sc _ | exact closed_sps _ | exact closed_agg (Sp.closed _) | exact closed_ro (EI.closed _) | exact closed_ro (Sta.closed _) | exact closed_ro (It.closed _) | exact closed_ro (by simp only [List.mem_cons, List.not_mem_nil, or_false, forall_eq]; first | exact cI _ | exact cS _ | exact closed_eis _) | refine And.intro ?_ ?_))
  refine ACall_fn (vc := c_commencement_EffectiveStart) (ts := [.c 4 true 3]) Go.Proofs.Try.func14 (by kernel_rfl) rfl rfl (Nat.le_of_ble_eq_true rfl) (by kernel_rfl) ?_
  unfold c_commencement_EffectiveStart
  refine VW_seq (VW_region [2, 3, 4] ?_)
  simp only [OpsW_nil, OpsW_n, StepW, VA.ev, Env.get, Env.put, Env.keep, argEnv, thenQ, PV.cells, PV.fits, Heap.push, Heap.nil, Nat.succ_ne_self, List.length, Nat.reduceEqDiff, Nat.reduceAdd, ite_true, ite_false, true_and, reduceCtorEq, BEq.rfl, Nat.zero_add, Sta.enc]
  refine VW_seq ?_
  refine VW_seq (VW_region [2, 3, 4, 7] ?_)
  simp only [OpsW_nil, OpsW_n, StepW, pok, pval, VA.ev, Env.get, Env.put, Env.keep, thenQ, aggV, intV, binV, binOk, faddrV, isAddr, locCells, locOk, PV.nth, PV.row, Heap.get, HL.get, Nat.succ_ne_self, List.length, List.getD_cons_zero, List.take, List.drop, List.take_succ_cons, Nat.reduceEqDiff, Nat.reduceAdd, Nat.reduceLT, Nat.reduceLeDiff, Bool.false_eq_true, ite_true, ite_false, true_and, and_true, implies_true, reduceCtorEq, Nat.zero_add, Nat.add_zero, List.length_cons]
  refine VW_cond rfl (fun h1 => ?_) (fun h1 => ?_)
  · refine VW_seq (VW_region [4] ?_)
    simp only [OpsW_nil, OpsW_n, StepW, pok, pval, VA.ev, Env.get, Env.put, Env.keep, thenQ, aggV, locCells, locOk, PV.cells, PV.fits, overlay, PV.nth, PV.row, Heap.get, Heap.set, HL.get, HL.set, HL.del, Nat.le_refl, Nat.succ_ne_self, storeV, storeOk, List.set, List.length, List.getD_cons_zero, List.take, List.drop, List.take_succ_cons, List.drop_succ_cons, List.cons_append, List.nil_append, Nat.reduceEqDiff, Nat.reduceAdd, Nat.reduceLT, Bool.true_eq_false, ite_true, ite_false, true_and, and_true, reduceCtorEq, BEq.rfl, Nat.zero_add, List.length_cons, imp_self]
    refine VW_ret ?_
    try simp only [Env.get, thenQ, retQ, resV, resOk, RS.ev, RS.ok, aggV, locCells, locOk, PV.nth, PV.row, Heap.get, HL.get, Nat.le_refl, List.length, List.getD_cons_zero, List.take, List.drop, List.take_succ_cons, Nat.reduceEqDiff, Nat.reduceAdd, Nat.reduceLT, Bool.true_eq_false, ite_true, ite_false, true_and, and_true, reduceCtorEq, Nat.zero_add, List.length_cons, imp_self]
    have e : ruleS a b = b := if_pos (by simpa using h1)
    rw [e]
    exact View.refl _ _
  refine VW_skip ?_
  try simp only [thenQ]
  refine VW_seq (VW_region [4] ?_)
  simp only [OpsW_nil, OpsW_n, StepW, pok, pval, VA.ev, Env.get, Env.put, Env.keep, thenQ, aggV, locCells, locOk, PV.cells, PV.fits, overlay, PV.nth, PV.row, Heap.get, Heap.set, HL.get, HL.set, HL.del, Nat.le_refl, Nat.succ_ne_self, storeV, storeOk, List.set, List.length, List.getD_cons_zero, List.take, List.drop, List.take_succ_cons, List.drop_succ_cons, List.cons_append, List.nil_append, Nat.reduceEqDiff, Nat.reduceAdd, Nat.reduceLT, Bool.true_eq_false, ite_true, ite_false, true_and, and_true, reduceCtorEq, BEq.rfl, Nat.zero_add, List.length_cons, imp_self]
  refine VW_ret ?_
  try simp only [Env.get, retQ, resV, resOk, RS.ev, RS.ok, aggV, locCells, locOk, PV.nth, PV.row, Heap.get, HL.get, Nat.le_refl, List.length, List.getD_cons_zero, List.take, List.drop, List.take_succ_cons, Nat.reduceEqDiff, Nat.reduceAdd, Nat.reduceLT, Bool.true_eq_false, ite_true, ite_false, true_and, and_true, reduceCtorEq, Nat.zero_add, List.length_cons, imp_self]
  have e : ruleS a b = a := if_neg (by simpa using h1)
  rw [e]
  exact View.refl _ _
def toldB (name : Str) (x : EI) : Bool := x.it.kind == 10 && x.it.event == name
theorem ac_EventDay_1 (x : EI) (name : Str) (n : Nat) (hn : 0 < n) : ACall Try.prog 28 [.agg x.enc, .loc 0 0 0] ⟨[(0, .arr false 1 [[.str name]])], n⟩
    (fun p h' => p = .bool (toldB name x) ∧ ∃ n', n ≤ n' ∧ h' = ⟨[(0, .arr false 1 [[.str name]])], n'⟩) := by
  have ea := It.enc_eq x.it
  have q0 : (0 = n) = False := by simp; omega
  have q1 : (n = 0) = False := by simp; omega
  refine ACall.drop ?_
  refine ACall_fn (vc := c_commencement_EventDay_1) (ts := [.t 3]) Go.Proofs.Try.func28 (by kernel_rfl) rfl rfl (Nat.le_of_ble_eq_true rfl) (by kernel_rfl) ?_
  unfold c_commencement_EventDay_1
  refine VW_seq (VW_region [1, 2] ?_)
  simp only [OpsW_nil, OpsW_n, StepW, pok, pval, VA.ev, Env.get, Env.put, Env.keep, argEnv, thenQ, PV.cells, PV.fits, Heap.le, Heap.push, Nat.succ_ne_self, List.length, Nat.reduceEqDiff, Nat.reduceAdd, ite_true, ite_false, true_and, reduceCtorEq, BEq.rfl, Nat.zero_add, EI.enc, ea, q0, q1]
  refine VW_seq (VW_region [3] ?_)
  cases e1 : x.it.kind == 10 with
  | true =>
    simp only [OpsW_nil, OpsW_n, OpsW_y, StepW, pok, pval, VA.ev, Env.get, Env.put, Env.keep, thenQ, pickV, isBool, aggV, intV, binV, binOk, strV, faddrV, isAddr, locCells, locOk, PV.nth, PV.row, Heap.get, HL.get, Nat.le_refl, Nat.succ_ne_self, List.length, List.getD_cons_zero, List.take, List.drop, List.take_succ_cons, List.drop_succ_cons, Nat.reduceEqDiff, Nat.reduceAdd, Nat.reduceLT, Nat.reduceLeDiff, Bool.false_eq_true, ite_true, ite_false, true_and, and_true, implies_true, Nat.zero_add, Nat.add_zero, List.length_cons, q0, q1, e1]
    refine VW_ret ?_
    try simp only [Env.get, retQ, resV, resOk, RS.ev, RS.ok, ite_true, true_and, and_true]
    refine ⟨⟨[(0, .arr false 1 [[.str name]])], n + 1⟩, ?_, ?_, n + 1, by omega, rfl⟩
    · refine ⟨Nat.le_refl _, ?_⟩
      simp only [Heap.get, HL.get, HL.le, ite_true, ite_false, and_true, q0, q1]
    · unfold toldB
      rw [e1]
      rfl
  | false =>
    simp only [OpsW_nil, OpsW_n, OpsW_xt, StepW, pok, pval, VA.ev, Env.get, Env.put, Env.keep, thenQ, pickV, isBool, aggV, intV, binV, binOk, faddrV, isAddr, locCells, locOk, PV.nth, PV.row, Heap.get, HL.get, Nat.succ_ne_self, List.length, List.getD_cons_zero, List.take, List.drop, List.take_succ_cons, List.drop_succ_cons, Nat.reduceEqDiff, Nat.reduceAdd, Nat.reduceLT, Nat.reduceLeDiff, Bool.false_eq_true, ite_true, ite_false, true_and, and_true, implies_true, Nat.zero_add, Nat.add_zero, List.length_cons, q0, q1, e1]
    refine VW_ret ?_
    try simp only [Env.get, retQ, resV, resOk, RS.ev, RS.ok, ite_true, true_and, and_true]
    refine ⟨⟨[(0, .arr false 1 [[.str name]])], n + 1⟩, ?_, ?_, n + 1, by omega, rfl⟩
    · refine ⟨Nat.le_refl _, ?_⟩
      simp only [Heap.get, HL.get, HL.le, ite_true, ite_false, and_true, q0, q1]
    · unfold toldB
      rw [e1]
      rfl
/-- Where p holds first, or -1. -/
def firstS (p : EI → Bool) (l : List EI) : Int := if l.findIdx p < l.length then (l.findIdx p : Nat) else -1
theorem ac_IndexFunc (l : List EI) (name : Str) (hl : l.length ≤ 1000000) : ACall Try.prog 27 [.sl 28 (l.map EI.enc), .fn (.func 28) [] [.loc 0 0 0]] ⟨[(0, .arr false 1 [[.str name]])], 1⟩
    (fun p _ => p = pI (firstS (toldB name) l)) := by
  refine ACall_fn (vc := c_slices_IndexFunc_EnactedItem) (ts := [.t 4]) Go.Proofs.Try.func27 (by kernel_rfl) rfl rfl (Nat.le_of_ble_eq_true rfl) (by kernel_rfl) ?_
  unfold c_slices_IndexFunc_EnactedItem
  refine VW_seq (VW_region [0, 1] ?_)
  simp only [OpsW_nil, OpsW_n, StepW, pok, pval, VA.ev, Env.get, Env.put, Env.keep, argEnv, thenQ, Nat.succ_ne_self, Nat.reduceEqDiff, ite_true, ite_false, true_and, reduceCtorEq, Nat.zero_add]
  refine VW_seq ?_
  refine VW_seq (VW_region [0, 1, 7, 8] ?_)
  simp only [OpsW_nil, OpsW_n, StepW, pok, pval, VA.ev, Env.get, Env.put, Env.keep, thenQ, lenV, lenOk, Nat.succ_ne_self, Nat.reduceEqDiff, ite_true, ite_false, true_and, reduceCtorEq, List.length_map]
  refine VW_block ?_
  refine VW_loop (σ := { s : Nat × Nat // s.1 ≤ l.length ∧ 0 < s.2 ∧ ∀ (j : Nat) (hj : j < s.1) (h : j < l.length), toldB name l[j] = false }) (fun s => ([(0, .sl 28 (l.map EI.enc)), (1, .fn (.func 28) [] [.loc 0 0 0]), (7, pI l.length), (8, pI s.1.1)], ⟨[(0, .arr false 1 [[.str name]])], s.1.2⟩)) (fun s => l.length - s.1.1) ⟨(0, 1), by simp⟩ ?_ ?_ ?_
  · simp only [Env.get, Nat.succ_ne_self, Env.le, Nat.reduceEqDiff, ite_true, ite_false, true_and, and_true, reduceCtorEq]
    rfl
  · simp only [Heap.get, Heap.le, HL.get, HL.le, Nat.le_refl, ite_true, and_true]
  rintro ⟨⟨i, n⟩, hi, hn, hpre⟩
  simp only [] at hi hn hpre ⊢
  refine VW_seq (VW_region [0, 1, 7, 8, 9] ?_)
  simp only [OpsW_nil, OpsW_n, StepW, pok, pval, VA.ev, Env.get, Env.put, Env.keep, thenQ, intV, binV, binOk, Heap.get, Heap.le, HL.le, Nat.succ_ne_self, Env.le, Nat.reduceEqDiff, ite_true, ite_false, true_and, and_true, reduceCtorEq]
  refine VW_seq ?_
  refine VW_cond rfl (fun h1 => ?_) (fun h1 => ?_)
  · refine VW_skip ?_
    try simp only [thenQ]
    simp only [decide_eq_true_eq] at h1
    have ia : i < l.length := by omega
    refine VW_seq ?_
    refine VW_block ?_
    refine VW_seq (VW_region [0, 1, 5, 7, 8] ?_)
    simp only [OpsW_nil, OpsW_n, StepW, pok, pval, VA.ev, Env.get, Env.put, Env.keep, thenQ, Nat.succ_ne_self, Nat.reduceEqDiff, ite_true, ite_false, true_and, reduceCtorEq]
    refine VW_seq (VW_region [0, 1, 5, 7, 8, 16] ?_)
    simp only [OpsW_nil, OpsW_n, StepW, pok, pval, VA.ev, Env.get, Env.put, Env.keep, thenQ, aggV, isInt, numOf, lenV, locCells, locOk, iaddrV, iaddrOk, PV.nth, PV.row, Nat.succ_ne_self, List.map, List.cons_append, List.nil_append, Nat.reduceEqDiff, Bool.true_eq_false, ite_true, ite_false, true_and, and_true, reduceCtorEq, imp_self, Int.toNat_natCast, List.length_map, rowm ia]
    have el : l[i].enc.length = 28 := by simp [EI.enc, It.enc_len]
    have et : List.take 28 l[i].enc = l[i].enc := List.take_of_length_le (by omega)
    rw [et]
    refine ⟨by omega, by omega, ?_⟩
    refine ACall.mono (ac_EventDay_1 l[i] name n hn) ?_
    rintro p h' ⟨rfl, n', hn', rfl⟩
    refine VW_cond rfl (fun h2 => ?_) (fun h2 => ?_)
    · refine VW_seq (VW_region [4] ?_)
      simp only [OpsW_nil, OpsW_n, StepW, pok, pval, VA.ev, Env.get, Env.put, Env.keep, thenQ, Nat.succ_ne_self, Nat.reduceEqDiff, ite_true, ite_false, true_and, reduceCtorEq]
      refine VW_ret ?_
      try simp only [Env.get, thenQ, blockQ, retQ, resV, resOk, RS.ev, RS.ok, ite_true, true_and, and_true]
      have ef : l.findIdx (toldB name) = i := (List.findIdx_eq ia).2 ⟨h2, fun j hj => by simpa using hpre j hj (by omega)⟩
      unfold firstS
      rw [ef, if_pos ia]
    refine VW_skip ?_
    try simp only [thenQ, blockQ]
    refine VW_region [0, 1, 7, 8] ?_
    simp only [OpsW_nil, OpsW_n, StepW, pok, pval, VA.ev, Env.get, Env.put, Env.keep, thenQ, intV, binV, binOk, HL.get, Nat.succ_ne_self, Nat.reduceEqDiff, ite_true, ite_false, true_and, and_true, reduceCtorEq, w64 (n := (i : Int) + 1) (by omega) (by omega)]
    refine ⟨⟨(i + 1, n'), by simp only []; omega, by simp only []; omega, fun j hj h => ?_⟩, ?_, ?_, ?_⟩
    · simp only [] at hj
      rcases Nat.lt_or_eq_of_le (Nat.le_of_lt_succ hj) with h3 | rfl
      · exact hpre j h3 h
      · exact h2
    · rfl
    · exact Nat.le_refl _
    · simp only []; omega
  · simp only [decide_eq_false_iff_not] at h1
    refine VW_exit ?_
    try simp only [thenQ, blockQ, retQ, ite_true]
    refine VW_seq (VW_region [4] ?_)
    simp only [OpsW_nil, OpsW_n, StepW, pok, pval, VA.ev, Env.get, Env.put, Env.keep, thenQ, Nat.reduceEqDiff, ite_true, ite_false, true_and, reduceCtorEq]
    refine VW_ret ?_
    try simp only [Env.get, retQ, resV, resOk, RS.ev, RS.ok, ite_true, true_and, and_true]
    have ef : l.findIdx (toldB name) = l.length := List.findIdx_eq_length.2 fun x hx => by
      obtain ⟨j, hj, rfl⟩ := List.mem_iff_getElem.1 hx
      exact hpre j (by omega) hj
    unfold firstS
    rw [ef, if_neg (Nat.lt_irrefl _)]
theorem find_idx (p : EI → Bool) : ∀ l : List EI, l.find? p = l[l.findIdx p]?
  | [] => rfl
  | x :: r => by
    have := find_idx p r
    cases h : p x <;> simp [List.find?, List.findIdx_cons, h, this]
def eventS (name : Str) (l : List EI) : Int × Bool := match l.find? (toldB name) with | some x => (x.it.day, true) | none => (0, false)
theorem sp_commencement_EventDay (l : List EI) (name : Str) (hl : l.length ≤ 1000000) : PCall Try.prog 12 [.str name, .sl 28 (l.map EI.enc)] (.tup [pI (eventS name l).1, .bool (eventS name l).2]) := by
  refine PCall_intro ?_ (closed_tup (by simp only [List.mem_cons, List.not_mem_nil, or_false, forall_eq_or_imp, forall_eq]; exact ⟨cI _, cB _⟩)) (by simp only [ClosedL, List.mem_cons, List.not_mem_nil, or_false, forall_eq_or_imp, forall_eq, false_implies, implies_true]; repeat' (first | exact cI _ | exact cS _ | exact cB _ | exact closed_fn0 _ | exact closed_nilsl | exact closed_agg (Un.closed _) | exact closed_agg (It.closed _) | exact closed_agg (EI.closed _) | exact closed_agg (Ac.closed _) | exact closed_agg (Wd.closed _) | exact closed_agg (St.closed _) | exact closed_agg (Sta.closed _) | exact closed_eis _ | exact closed_acs _ | exact closed_strs _ | exact closed_map (fun w _ => Wd.closed w) | exact closed_map (fun w _ => St.closed w) | exact closed_map (fun w _ => Un.closed w) | exact closed_map (fun w _ => It.closed w) | exact closed_sc _ | exact closed_sps _ | exact closed_agg (Sp.closed _) | exact closed_ro (EI.closed _) | exact closed_ro (Sta.closed _) | exact closed_ro (It.closed _) | exact closed_ro (by simp only [List.mem_cons, List.not_mem_nil, or_false, forall_eq]; first | exact cI _ | exact cS _ | exact closed_eis _) | refine And.intro ?_ ?_))
  refine ACall_fn (vc := c_commencement_EventDay) (ts := [.t 4, .t 5]) Go.Proofs.Try.func12 (by kernel_rfl) rfl rfl (Nat.le_of_ble_eq_true rfl) (by kernel_rfl) ?_
  unfold c_commencement_EventDay
  refine VW_seq (VW_region [1, 2] ?_)
  simp only [OpsW_nil, OpsW_n, StepW, pok, pval, VA.ev, Env.get, Env.put, Env.keep, argEnv, thenQ, PV.cells, PV.fits, Heap.push, Heap.nil, Nat.succ_ne_self, Nat.reduceEqDiff, ite_true, ite_false, true_and, reduceCtorEq, BEq.rfl, Nat.zero_add]
  refine VW_seq (VW_region [1, 6] ?_)
  simp only [OpsW_nil, OpsW_n, StepW, pok, pval, VA.ev, Env.get, Env.put, Env.keep, thenQ, Nat.succ_ne_self, List.map, Nat.reduceEqDiff, ite_true, ite_false, true_and]
  refine ACall.mono (ac_IndexFunc l name hl) ?_
  rintro p h' rfl
  refine VW_seq ?_
  refine VW_seq (VW_region [1, 6, 11] ?_)
  simp only [OpsW_nil, OpsW_n, StepW, pok, pval, VA.ev, Env.get, Env.put, Env.keep, thenQ, intV, binV, binOk, Nat.reduceEqDiff, ite_true, ite_false, true_and]
  by_cases hf : l.findIdx (toldB name) < l.length
  · have e1 : firstS (toldB name) l = (l.findIdx (toldB name) : Nat) := if_pos hf
    have hsome : l.find? (toldB name) = some l[l.findIdx (toldB name)] := by
      rw [find_idx, List.getElem?_eq_getElem hf]
    generalize l.findIdx (toldB name) = i at e1 hf hsome
    have ev : eventS name l = (l[i].it.day, true) := by unfold eventS; rw [hsome]
    rw [e1]
    refine VW_cond rfl (fun h1 => by simp at h1; omega) (fun h1 => ?_)
    refine VW_skip ?_
    try simp only [thenQ]
    refine VW_seq (VW_region [4, 5] ?_)
    have ea := It.enc_eq l[i].it
    simp only [OpsW_nil, OpsW_n, StepW, pok, pval, VA.ev, Env.get, Env.put, Env.keep, thenQ, aggV, isInt, numOf, lenV, faddrV, isAddr, locCells, locOk, iaddrV, iaddrOk, PV.nth, PV.row, Nat.succ_ne_self, List.length, List.getD_cons_zero, List.take, List.drop, List.take_succ_cons, Nat.reduceEqDiff, Nat.reduceAdd, Nat.reduceLeDiff, Bool.false_eq_true, ite_true, ite_false, true_and, and_true, implies_true, Nat.zero_add, List.length_cons, Int.toNat_natCast, List.length_map, rowm hf, EI.enc, ea]
    repeat (with_reducible refine And.intro ?_ ?_; first | omega | (with_reducible constructor <;> omega) | exact False.elim | exact True.intro)
    refine VW_ret ?_
    try simp only [Env.get, retQ, resV, resOk, RS.ev, RS.ok, Nat.succ_ne_self, List.map, Nat.reduceEqDiff, ite_true, ite_false, true_and, and_true]
    rw [ev]
    exact View.refl _ _
  · have e1 : firstS (toldB name) l = -1 := if_neg hf
    have hnone : l.find? (toldB name) = none := by
      rw [find_idx, List.getElem?_eq_none (by omega)]
    have ev : eventS name l = (0, false) := by unfold eventS; rw [hnone]
    rw [e1]
    refine VW_cond rfl (fun h1 => ?_) (fun h1 => by simp at h1)
    refine VW_seq (VW_region [4, 5] ?_)
    simp only [OpsW_nil, OpsW_n, StepW, pok, pval, VA.ev, Env.get, Env.put, Env.keep, thenQ, Nat.succ_ne_self, Nat.reduceEqDiff, ite_true, ite_false, true_and]
    refine VW_ret ?_
    try simp only [Env.get, thenQ, retQ, resV, resOk, RS.ev, RS.ok, Nat.succ_ne_self, List.map, Nat.reduceEqDiff, ite_true, ite_false, true_and, and_true]
    rw [ev]
    exact View.refl _ _
end Go.Proofs.Ytepmaobfbfbecaa.w

