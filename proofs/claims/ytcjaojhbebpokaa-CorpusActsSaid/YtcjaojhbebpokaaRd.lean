/-
  How the seat's arguments are read: the types of package api at this seat's numbers.
  Walks: cmp and the legal order.
  Walks: equality of words, units and items.
  Walks: equality of units and items.
  Walks: equality of items.
  Walks: small ones of corpus.
  Walks: act.EnactedItems.
  Walks: the order of acts.
-/
import Derived.Test.YtcjaojhbebpokaaVmB
import Derived.Test.YtcjaojhbebpokaaRows
import Derived.Test.YtcjaojhbebpokaaVmS
import Derived.KernelRfl
set_option linter.all false
namespace Go.Proofs.Ytcjaojhbebpokaa.rd
open Go Go.VM
variable {W : World}

theorem k3 : Try.prog.cellsOf 3 = 1 := by kernel_rfl
theorem k9 : Try.prog.cellsOf 9 = 1 := by kernel_rfl
theorem k111 : Try.prog.cellsOf 111 = 3 := by kernel_rfl
theorem k113 : Try.prog.cellsOf 113 = 4 := by kernel_rfl
theorem k32 : Try.prog.cellsOf 32 = 3 := by kernel_rfl
theorem k33 : Try.prog.cellsOf 33 = 1 := by kernel_rfl
theorem k34 : Try.prog.cellsOf 34 = 1 := by kernel_rfl
theorem k36 : Try.prog.cellsOf 36 = 8 := by kernel_rfl
theorem k72 : Try.prog.cellsOf 72 = 2 := by kernel_rfl
theorem k39 : Try.prog.cellsOf 39 = 3 := by kernel_rfl
theorem k42 : Try.prog.cellsOf 42 = 25 := by kernel_rfl
theorem k44 : Try.prog.cellsOf 44 = 28 := by kernel_rfl
theorem k30 : Try.prog.cellsOf 30 = 1 := by kernel_rfl
theorem k37 : Try.prog.cellsOf 37 = 1 := by kernel_rfl
theorem k40 : Try.prog.cellsOf 40 = 1 := by kernel_rfl
theorem k56 : Try.prog.cellsOf 56 = 1 := by kernel_rfl
theorem k59 : Try.prog.cellsOf 59 = 7 := by kernel_rfl
theorem k61 : Try.prog.cellsOf 61 = 4 := by kernel_rfl
theorem rI (n : Nat) : Reads Try.prog W n 3 i64 (fun a => [pI a]) := reads_int Try.underlying3
theorem rS (n : Nat) : Reads Try.prog W n 9 okS (fun a => [.str a]) := reads_string Try.underlying9
def enc3 (x : Int × Int × Int × Unit) : List PV := [pI x.1, pI x.2.1, pI x.2.2.1]
def ok3 (x : Int × Int × Int × Unit) : Prop := i64 x.1 ∧ i64 x.2.1 ∧ i64 x.2.2.1 ∧ True
theorem r111 (n : Nat) : Reads Try.prog W n 111 ok3 enc3 := by
  cases n with
  | zero => exact reads_zero
  | succ n => exact Reads.map (fun x : Int × Int × Int × Unit => x) (reads_struct Try.underlying111 rfl k111 (freads_cons (by exact (rI n)) (by exact k3) (by exact (fun _ => rfl)) (by rfl) (freads_cons (by exact (rI n)) (by exact k3) (by exact (fun _ => rfl)) (by rfl) (freads_cons (by exact (rI n)) (by exact k3) (by exact (fun _ => rfl)) (by rfl) freads_nil))) (by exact fun _ => rfl)) (fun _ h => h) (fun _ => rfl)
theorem r32 (n : Nat) : Reads Try.prog W n 32 ok3 enc3 := by
  cases n with
  | zero => exact reads_zero
  | succ n => exact Reads.map (fun x : Int × Int × Int × Unit => x) (reads_struct Try.underlying32 rfl k32 (freads_cons (by exact (rI n)) (by exact k3) (by exact (fun _ => rfl)) (by rfl) (freads_cons (by exact (rI n)) (by exact k3) (by exact (fun _ => rfl)) (by rfl) (freads_cons (by exact (rI n)) (by exact k3) (by exact (fun _ => rfl)) (by rfl) freads_nil))) (by exact fun _ => rfl)) (fun _ h => h) (fun _ => rfl)
theorem rWd (n : Nat) : Reads Try.prog W n 113 Wd.ok Wd.enc := by
  cases n with
  | zero => exact reads_zero
  | succ n =>
    refine Reads.map (fun x : Str × (Int × Int × Int × Unit) × Unit => (⟨x.1, x.2.1.1, x.2.1.2.1, x.2.1.2.2.1⟩ : Wd))
      (reads_struct Try.underlying113 rfl k113 (freads_cons (by exact (rS n)) (by exact k9) (by exact (fun _ => rfl)) (by rfl) (freads_cons (by exact (r111 n)) (by exact k111) (by exact (fun _ => rfl)) (by rfl) freads_nil)) (by exact fun _ => rfl)) ?_ ?_
    · rintro ⟨t, ⟨a, b, c, _⟩, _⟩ ⟨h1, ⟨h2, h3, h4, _⟩, _⟩; exact ⟨h1, h2, h3, h4⟩
    · rintro ⟨t, ⟨a, b, c, _⟩, _⟩; rfl
theorem rWds (n : Nat) : Reads Try.prog W n 33 (okL Wd.ok) (fun l => [.sl 4 (l.map Wd.enc)]) := reads_sl Try.underlying33 k113 (by decide) (fun _ => rfl) n (fun m _ => rWd m)
theorem un_len (u : Un) : u.enc.length = 8 := by rw [Un.enc_eq]; rfl
theorem rUn : ∀ n : Nat, Reads Try.prog W n 36 Un.ok Un.enc := by
  intro n
  induction n using Nat.strongRecOn with
  | _ n ih =>
    cases n with
    | zero => exact reads_zero
    | succ n =>
      refine Reads.map (fun x : (Int × Int × Int × Unit) × Int × Str × List Wd × List Wd × List Un × Unit => Un.mk x.1.1 x.1.2.1 x.1.2.2.1 x.2.1 x.2.2.1 x.2.2.2.1 x.2.2.2.2.1 x.2.2.2.2.2.1)
        (reads_struct Try.underlying36 rfl k36 (freads_cons (by exact (r32 n)) (by exact k32) (by exact (fun _ => rfl)) (by rfl) (freads_cons (by exact (rI n)) (by exact k3) (by exact (fun _ => rfl)) (by rfl) (freads_cons (by exact (rS n)) (by exact k9) (by exact (fun _ => rfl)) (by rfl) (freads_cons (by exact (rWds n)) (by exact k33) (by exact (fun _ => rfl)) (by rfl)
          (freads_cons (by exact (rWds n)) (by exact k33) (by exact (fun _ => rfl)) (by rfl) (freads_cons (by exact (reads_sl Try.underlying34 k36 (by decide) un_len n (fun m hm => ih m (by omega)))) (by exact k34) (by exact (fun _ => rfl)) (by rfl) freads_nil)))))) (by exact fun _ => rfl)) ?_ ?_
      · rintro ⟨⟨a, b, c, _⟩, k, l, h, w, ks, _⟩ ⟨⟨h1, h2, h3, _⟩, h4, h5, h6, h7, h8, _⟩
        exact .mk _ h1 h2 h3 h4 h5 h6 h7 h8.1 h8.2
      · rintro ⟨⟨a, b, c, _⟩, k, l, h, w, ks, _⟩
        rw [Un.enc_eq]; rfl
theorem rSt (n : Nat) : Reads Try.prog W n 72 St.ok St.enc := by
  cases n with
  | zero => exact reads_zero
  | succ n =>
    refine Reads.map (fun x : Int × Str × Unit => (⟨x.1, x.2.1⟩ : St)) (reads_struct Try.underlying72 rfl k72 (freads_cons (by exact (rI n)) (by exact k3) (by exact (fun _ => rfl)) (by rfl) (freads_cons (by exact (rS n)) (by exact k9) (by exact (fun _ => rfl)) (by rfl) freads_nil)) (by exact fun _ => rfl)) ?_ ?_
    · rintro ⟨a, b, _⟩ ⟨h1, h2, _⟩; exact ⟨h1, h2⟩
    · rintro ⟨a, b, _⟩; rfl
theorem rSta (n : Nat) : Reads Try.prog W n 39 Sta.ok Sta.enc := by
  cases n with
  | zero => exact reads_zero
  | succ n =>
    refine Reads.map (fun x : Int × Int × Str × Unit => (⟨x.1, x.2.1, x.2.2.1⟩ : Sta)) (reads_struct Try.underlying39 rfl k39 (freads_cons (by exact (rI n)) (by exact k3) (by exact (fun _ => rfl)) (by rfl) (freads_cons (by exact (rI n)) (by exact k3) (by exact (fun _ => rfl)) (by rfl) (freads_cons (by exact (rS n)) (by exact k9) (by exact (fun _ => rfl)) (by rfl) freads_nil))) (by exact fun _ => rfl)) ?_ ?_
    · rintro ⟨a, b, c, _⟩ ⟨h1, h2, h3, _⟩; exact ⟨h1, h2, h3⟩
    · rintro ⟨a, b, c, _⟩; rfl
theorem rSts (n : Nat) : Reads Try.prog W n 30 (okL St.ok) (fun l => [.sl 2 (l.map St.enc)]) := reads_sl Try.underlying30 k72 (by decide) (fun _ => rfl) n (fun m _ => rSt m)
theorem rSs (n : Nat) : Reads Try.prog W n 37 (okL okS) (fun l => [It.strs l]) := reads_sl Try.underlying37 k9 (by decide) (fun _ => rfl) n (fun m _ => rS m)
theorem rIt : ∀ n : Nat, Reads Try.prog W n 42 It.ok It.enc := by
  intro n
  induction n using Nat.strongRecOn with
  | _ n ih =>
    cases n with
    | zero => exact reads_zero
    | succ n =>
      refine Reads.map (fun x : Int × List St × List St × Int × Int × Un × List Str × List Str × Str × Str × Sta × Int × Int × Int × Str × List It × Unit =>
          It.mk x.1 x.2.1 x.2.2.1 x.2.2.2.1 x.2.2.2.2.1 x.2.2.2.2.2.1 x.2.2.2.2.2.2.1 x.2.2.2.2.2.2.2.1 x.2.2.2.2.2.2.2.2.1 x.2.2.2.2.2.2.2.2.2.1 x.2.2.2.2.2.2.2.2.2.2.1 x.2.2.2.2.2.2.2.2.2.2.2.1 x.2.2.2.2.2.2.2.2.2.2.2.2.1 x.2.2.2.2.2.2.2.2.2.2.2.2.2.1 x.2.2.2.2.2.2.2.2.2.2.2.2.2.2.1 x.2.2.2.2.2.2.2.2.2.2.2.2.2.2.2.1)
        (reads_struct Try.underlying42 rfl k42 (freads_cons (by exact (rI n)) (by exact k3) (by exact (fun _ => rfl)) (by rfl) (freads_cons (by exact (rSts n)) (by exact k30) (by exact (fun _ => rfl)) (by rfl) (freads_cons (by exact (rSts n)) (by exact k30) (by exact (fun _ => rfl)) (by rfl) (freads_cons (by exact (rI n)) (by exact k3) (by exact (fun _ => rfl)) (by rfl) (freads_cons (by exact (rI n)) (by exact k3) (by exact (fun _ => rfl)) (by rfl)
          (freads_cons (by exact (rUn n)) (by exact k36) (by exact un_len) (by rfl) (freads_cons (by exact (rSs n)) (by exact k37) (by exact (fun _ => rfl)) (by rfl) (freads_cons (by exact (rSs n)) (by exact k37) (by exact (fun _ => rfl)) (by rfl) (freads_cons (by exact (rS n)) (by exact k9) (by exact (fun _ => rfl)) (by rfl) (freads_cons (by exact (rS n)) (by exact k9) (by exact (fun _ => rfl)) (by rfl) (freads_cons (by exact (rSta n)) (by exact k39) (by exact (fun _ => rfl)) (by rfl)
          (freads_cons (by exact (rI n)) (by exact k3) (by exact (fun _ => rfl)) (by rfl) (freads_cons (by exact (rI n)) (by exact k3) (by exact (fun _ => rfl)) (by rfl) (freads_cons (by exact (rI n)) (by exact k3) (by exact (fun _ => rfl)) (by rfl) (freads_cons (by exact (rS n)) (by exact k9) (by exact (fun _ => rfl)) (by rfl)
          (freads_cons (by exact (reads_sl Try.underlying40 k42 (by decide) It.enc_len n (fun m hm => ih m (by omega)))) (by exact k40) (by exact (fun _ => rfl)) (by rfl) freads_nil)))))))))))))))) ?_) ?_ ?_
      · rintro ⟨k, a, t, w, n, u, o, e, l, f, s, ac, it, d, ev, b, _⟩; simp only [List.length_append, un_len]; rfl
      · rintro ⟨k, a, t, w, n, u, o, e, l, f, s, ac, it, d, ev, b, _⟩ ⟨h1, h2, h3, h4, h5, h6, h7, h8, h9, h10, h11, h12, h13, h14, h15, h16, _⟩
        exact .mk _ h1 h2 h3 h4 h5 h6 h7 h8 h9 h10 h11 h12 h13 h14 h15 h16.1 h16.2
      · rintro ⟨k, a, t, w, n, u, o, e, l, f, s, ac, it, d, ev, b, _⟩
        rw [It.enc_eq, Un.enc_eq]; rfl
theorem ei_len (x : EI) : x.enc.length = 28 := by simp [EI.enc, It.enc_len]
theorem rEI (n : Nat) : Reads Try.prog W n 44 EI.ok EI.enc := by
  cases n with
  | zero => exact reads_zero
  | succ n =>
    refine Reads.map (fun x : Int × Int × Int × It × Unit => (⟨x.1, x.2.1, x.2.2.1, x.2.2.2.1⟩ : EI)) (reads_struct Try.underlying44 rfl k44 (freads_cons (by exact (rI n)) (by exact k3) (by exact (fun _ => rfl)) (by rfl) (freads_cons (by exact (rI n)) (by exact k3) (by exact (fun _ => rfl)) (by rfl) (freads_cons (by exact (rI n)) (by exact k3) (by exact (fun _ => rfl)) (by rfl) (freads_cons (by exact (rIt n)) (by exact k42) (by exact It.enc_len) (by rfl) freads_nil)))) ?_) ?_ ?_
    · rintro ⟨a, b, c, d, _⟩; simp only [List.length_append, It.enc_len]; rfl
    · rintro ⟨a, b, c, d, _⟩ ⟨h1, h2, h3, h4, _⟩; exact ⟨h1, h2, h3, h4⟩
    · rintro ⟨a, b, c, d, _⟩; simp [EI.enc]
theorem rIts (n : Nat) : Reads Try.prog W n 40 (okL It.ok) (fun l => [.sl 25 (l.map It.enc)]) := reads_sl Try.underlying40 k42 (by decide) It.enc_len n (fun m _ => rIt m)
theorem rAc (n : Nat) : Reads Try.prog W n 59 Ac.ok Ac.enc := by
  cases n with
  | zero => exact reads_zero
  | succ n =>
    refine Reads.map (fun x : Int × Str × Int × Sta × List It × Unit => (⟨x.1, x.2.1, x.2.2.1, x.2.2.2.1, x.2.2.2.2.1⟩ : Ac)) (reads_struct Try.underlying59 rfl k59 (freads_cons (by exact (rI n)) (by exact k3) (by exact (fun _ => rfl)) (by rfl) (freads_cons (by exact (rS n)) (by exact k9) (by exact (fun _ => rfl)) (by rfl) (freads_cons (by exact (rI n)) (by exact k3) (by exact (fun _ => rfl)) (by rfl) (freads_cons (by exact (rSta n)) (by exact k39) (by exact (fun _ => rfl)) (by rfl) (freads_cons (by exact (rIts n)) (by exact k40) (by exact (fun _ => rfl)) (by rfl) freads_nil))))) (by exact fun _ => rfl)) ?_ ?_
    · rintro ⟨a, b, c, d, e, _⟩ ⟨h1, h2, h3, h4, h5, _⟩; exact ⟨h1, h2, h3, h4, h5⟩
    · rintro ⟨a, b, c, d, e, _⟩; rfl
theorem rAcs (n : Nat) : Reads Try.prog W n 56 (okL Ac.ok) (fun l => [.sl 7 (l.map Ac.enc)]) := reads_sl Try.underlying56 k59 (by decide) (fun _ => rfl) n (fun m _ => rAc m)
theorem rGz (n : Nat) : Reads Try.prog W n 61 Gz.ok Gz.enc := by
  cases n with
  | zero => exact reads_zero
  | succ n =>
    refine Reads.map (fun x : Int × Int × Str × List Ac × Unit => (⟨x.1, x.2.1, x.2.2.1, x.2.2.2.1⟩ : Gz)) (reads_struct Try.underlying61 rfl k61 (freads_cons (by exact (rI n)) (by exact k3) (by exact (fun _ => rfl)) (by rfl) (freads_cons (by exact (rI n)) (by exact k3) (by exact (fun _ => rfl)) (by rfl) (freads_cons (by exact (rS n)) (by exact k9) (by exact (fun _ => rfl)) (by rfl) (freads_cons (by exact (rAcs n)) (by exact k56) (by exact (fun _ => rfl)) (by rfl) freads_nil)))) (by exact fun _ => rfl)) ?_ ?_
    · rintro ⟨a, b, c, d, _⟩ ⟨h1, h2, h3, h4, _⟩; exact ⟨h1, h2, h3, h4⟩
    · rintro ⟨a, b, c, d, _⟩; rfl
theorem rGzs (n : Nat) : Reads Try.prog W n 22 (okL Gz.ok) (fun l => [.sl 4 (l.map Gz.enc)]) := reads_sl Try.underlying22 k61 (by decide) (fun _ => rfl) n (fun m _ => rGz m)
theorem rEIs (n : Nat) : Reads Try.prog W n 26 (okL EI.ok) (fun l => [.sl 28 (l.map EI.enc)]) := reads_sl Try.underlying26 k44 (by decide) ei_len n (fun m _ => rEI m)
theorem rIs (n : Nat) : Reads Try.prog W n 67 (okL i64) (fun l => [.sl 1 (l.map fun x => [pI x])]) := reads_sl Try.underlying67 k3 (by decide) (fun _ => rfl) n (fun m _ => rI m)
end Go.Proofs.Ytcjaojhbebpokaa.rd


namespace Go.Proofs.Ytcjaojhbebpokaa.w
open Go Go.VM
def c59 : VC := (.seq (.region [⟨(some 2), (.mv (.c (.bool false))), none⟩] false) (.seq (.region [⟨(some 3), (.mv (.t 0)), none⟩, ⟨(some 4), (.mv (.t 0)), none⟩, ⟨(some 5), (.bin .neq (.t 3) (.t 4)), none⟩, ⟨(some 2), (.mv (.t 5)), none⟩] false) .ret))
def c42 : VC := (.seq (.region [⟨(some 4), (.mv (.c (.int .i64 0))), none⟩] false) (.seq (.region [⟨(some 7), (.mv (.t 0)), none⟩, ⟨(some 8), (.call 59 [(.t 7)]), none⟩, ⟨(some 5), (.mv (.t 8)), none⟩] false) (.seq (.region [⟨(some 9), (.mv (.t 1)), none⟩, ⟨(some 10), (.call 59 [(.t 9)]), none⟩, ⟨(some 6), (.mv (.t 10)), none⟩] false) (.seq (.seq (.region [⟨(some 11), (.mv (.t 5)), none⟩] false) (.cond (.t 11) (.seq (.seq (.region [⟨(some 12), (.mv (.t 6)), none⟩] false) (.cond (.t 12) (.seq (.region [⟨(some 4), (.mv (.c (.int .i64 0))), none⟩] false) .ret) .skip)) (.seq (.region [⟨(some 4), (.mv (.c (.int .i64 (-1)))), none⟩] false) .ret)) .skip)) (.seq (.seq (.region [⟨(some 13), (.mv (.t 6)), none⟩] false) (.cond (.t 13) (.seq (.region [⟨(some 4), (.mv (.c (.int .i64 1))), none⟩] false) .ret) .skip)) (.seq (.seq (.region [⟨(some 14), (.mv (.t 0)), none⟩, ⟨(some 15), (.mv (.t 1)), none⟩, ⟨(some 16), (.bin .lss (.t 14) (.t 15)), none⟩] false) (.cond (.t 16) (.seq (.region [⟨(some 4), (.mv (.c (.int .i64 (-1)))), none⟩] false) .ret) .skip)) (.seq (.seq (.region [⟨(some 17), (.mv (.t 0)), none⟩, ⟨(some 18), (.mv (.t 1)), none⟩, ⟨(some 19), (.bin .gtr (.t 17) (.t 18)), none⟩] false) (.cond (.t 19) (.seq (.region [⟨(some 4), (.mv (.c (.int .i64 1))), none⟩] false) .ret) .skip)) (.seq (.region [⟨(some 4), (.mv (.c (.int .i64 0))), none⟩] false) .ret))))))))
def c41 : VC := (.seq (.region [⟨(some 2), (.mv (.c (.int .i64 0))), none⟩] false) (.seq (.region [⟨(some 3), (.mv (.c (.int .i64 0))), none⟩] false) (.seq (.seq (.region [⟨(some 6), (.mv (.t 0)), none⟩, ⟨(some 7), (.len false (.t 6)), none⟩, ⟨(some 8), (.mv (.c (.int .i64 0))), none⟩] false) (.block 0 (.loop (.seq (.region [⟨(some 9), (.bin .lss (.t 8) (.t 7)), none⟩] false) (.seq (.cond (.t 9) .skip (.exit 0)) (.seq (.block 1 (.seq (.region [⟨(some 10), (.iaddr 1 (.t 6) (.t 8)), none⟩, ⟨(some 11), (.load false 1 (.t 10)), none⟩, ⟨(some 5), (.mv (.t 11)), none⟩] false) (.seq (.region [⟨(some 12), (.mv (.t 5)), none⟩, ⟨(some 13), (.mv (.t 3)), none⟩, ⟨(some 14), (.bin .neq (.t 12) (.t 13)), none⟩] false) (.cond (.t 14) (.seq (.region [⟨(some 15), (.mv (.t 5)), none⟩, ⟨(some 2), (.mv (.t 15)), none⟩] false) .ret) .skip)))) (.region [⟨(some 16), (.bin .add (.t 8) (.c (.int .i64 1))), none⟩, ⟨(some 8), (.mv (.t 16)), none⟩] false))))))) (.seq (.region [⟨(some 17), (.mv (.t 3)), none⟩, ⟨(some 2), (.mv (.t 17)), none⟩] false) .ret))))
def c23 : VC := (.seq (.region [⟨(some 2), (.box 28 (.t 0)), none⟩, ⟨(some 3), (.box 28 (.t 1)), none⟩, ⟨(some 4), (.mv (.c (.int .i64 0))), none⟩] false) (.seq (.region [⟨(some 5), (.faddr 2 (.t 2)), none⟩, ⟨(some 6), (.load false 1 (.t 5)), none⟩, ⟨(some 7), (.faddr 2 (.t 3)), none⟩, ⟨(some 8), (.load false 1 (.t 7)), none⟩, ⟨(some 9), (.call 42 [(.t 6), (.t 8)]), none⟩, ⟨(some 10), (.faddr 0 (.t 2)), none⟩, ⟨(some 11), (.load false 1 (.t 10)), none⟩, ⟨(some 12), (.faddr 0 (.t 3)), none⟩, ⟨(some 13), (.load false 1 (.t 12)), none⟩, ⟨(some 14), (.call 42 [(.t 11), (.t 13)]), none⟩, ⟨(some 15), (.faddr 1 (.t 2)), none⟩, ⟨(some 16), (.load false 1 (.t 15)), none⟩, ⟨(some 17), (.faddr 1 (.t 3)), none⟩, ⟨(some 18), (.load false 1 (.t 17)), none⟩, ⟨(some 19), (.call 42 [(.t 16), (.t 18)]), none⟩, ⟨(some 20), (.bslice 1 3 [(.int .i64 0)] [(0, (.t 9)), (1, (.t 14)), (2, (.t 19))]), none⟩, ⟨(some 21), (.call 41 [(.t 20)]), none⟩, ⟨(some 4), (.mv (.t 21)), none⟩] true) .ret))
def c24 : VC := (.seq (.region [⟨(some 2), (.box 28 (.t 0)), none⟩, ⟨(some 3), (.box 28 (.t 1)), none⟩, ⟨(some 4), (.mv (.c (.int .i64 0))), none⟩] false) (.seq (.region [⟨(some 8), (.faddr 2 (.t 2)), none⟩, ⟨(some 9), (.load false 1 (.t 8)), none⟩, ⟨(some 10), (.faddr 0 (.t 2)), none⟩, ⟨(some 11), (.load false 1 (.t 10)), none⟩, ⟨(some 12), (.faddr 1 (.t 2)), none⟩, ⟨(some 13), (.load false 1 (.t 12)), none⟩, ⟨(some 14), (.bslice 1 3 [(.int .i64 0)] [(0, (.t 9)), (1, (.t 11)), (2, (.t 13))]), none⟩, ⟨(some 5), (.mv (.t 14)), none⟩] false) (.seq (.region [⟨(some 15), (.faddr 2 (.t 3)), none⟩, ⟨(some 16), (.load false 1 (.t 15)), none⟩, ⟨(some 17), (.faddr 0 (.t 3)), none⟩, ⟨(some 18), (.load false 1 (.t 17)), none⟩, ⟨(some 19), (.faddr 1 (.t 3)), none⟩, ⟨(some 20), (.load false 1 (.t 19)), none⟩, ⟨(some 21), (.bslice 1 3 [(.int .i64 0)] [(0, (.t 16)), (1, (.t 18)), (2, (.t 20))]), none⟩, ⟨(some 6), (.mv (.t 21)), none⟩] false) (.seq (.seq (.region [⟨(some 7), (.mv (.c (.int .i64 0))), none⟩] false) (.block 0 (.loop (.seq (.seq (.region [⟨(some 22), (.mv (.t 7)), none⟩, ⟨(some 23), (.bin .lss (.t 22) (.c (.int .i64 3))), none⟩] false) (.cond (.t 23) .skip (.exit 0))) (.seq (.block 1 (.seq (.seq (.region [⟨(some 26), (.mv (.t 5)), none⟩, ⟨(some 27), (.mv (.t 7)), none⟩, ⟨(some 28), (.iaddr 1 (.t 26) (.t 27)), none⟩, ⟨(some 29), (.load false 1 (.t 28)), none⟩, ⟨(some 30), (.mv (.t 6)), none⟩, ⟨(some 31), (.mv (.t 7)), none⟩, ⟨(some 32), (.iaddr 1 (.t 30) (.t 31)), none⟩, ⟨(some 33), (.load false 1 (.t 32)), none⟩, ⟨(some 34), (.bin .lss (.t 29) (.t 33)), none⟩] true) (.cond (.t 34) (.seq (.region [⟨(some 4), (.mv (.c (.int .i64 (-1)))), none⟩] false) .ret) .skip)) (.seq (.region [⟨(some 35), (.mv (.t 5)), none⟩, ⟨(some 36), (.mv (.t 7)), none⟩, ⟨(some 37), (.iaddr 1 (.t 35) (.t 36)), none⟩, ⟨(some 38), (.load false 1 (.t 37)), none⟩, ⟨(some 39), (.mv (.t 6)), none⟩, ⟨(some 40), (.mv (.t 7)), none⟩, ⟨(some 41), (.iaddr 1 (.t 39) (.t 40)), none⟩, ⟨(some 42), (.load false 1 (.t 41)), none⟩, ⟨(some 43), (.bin .gtr (.t 38) (.t 42)), none⟩] true) (.cond (.t 43) (.seq (.region [⟨(some 4), (.mv (.c (.int .i64 1))), none⟩] false) .ret) .skip)))) (.region [⟨(some 24), (.mv (.t 7)), none⟩, ⟨(some 25), (.bin .add (.t 24) (.c (.int .i64 1))), none⟩, ⟨(some 7), (.mv (.t 25)), none⟩] false)))))) (.seq (.region [⟨(some 4), (.mv (.c (.int .i64 0))), none⟩] false) .ret)))))
theorem sp59 (x : Int) : PCall Try.prog 59 [pI x] (.bool false) := by
  refine PCall_intro ?_ (Closed.of_scalar (scalar_bool _)) (by simp only [ClosedL, List.mem_cons, List.not_mem_nil, or_false, forall_eq_or_imp, forall_eq, false_implies, implies_true]; repeat' (first | exact cI _ | exact cS _ | exact cB _ | exact closed_fn0 _ | exact closed_nilsl | exact closed_agg (Un.closed _) | exact closed_agg (It.closed _) | exact closed_agg (EI.closed _) | exact closed_agg (Ac.closed _) | exact closed_agg (Wd.closed _) | exact closed_agg (St.closed _) | exact closed_agg (Sta.closed _) | exact closed_eis _ | exact closed_acs _ | exact closed_gzs _ | exact Closed.of_scalar (scalar_int _ _) | exact closed_ro (Ac.closed _) | exact closed_ro (Gz.closed _) | exact closed_agg (Gz.closed _) | exact closed_strs _ | exact closed_map (fun w _ => Wd.closed w) | exact closed_map (fun w _ => St.closed w) | exact closed_map (fun w _ => Un.closed w) | exact closed_map (fun w _ => It.closed w) | exact closed_sc _ | exact closed_sps _ | exact closed_agg (Sp.closed _) | exact closed_ro (EI.closed _) | exact closed_ro (Sta.closed _) | exact closed_ro (It.closed _) | exact closed_ro (by simp only [List.mem_cons, List.not_mem_nil, or_false, forall_eq]; first | exact cI _ | exact cS _ | exact closed_eis _) | refine And.intro ?_ ?_))
  refine ACall_fn (vc := c59) (ts := [.t 2]) Go.Proofs.Try.func59 (by kernel_rfl) rfl rfl (Nat.le_of_ble_eq_true rfl) (by kernel_rfl) ?_
  unfold c59
  refine VW_seq (VW_region [0, 2] ?_)
  simp only [OpsW_nil, OpsW_n, StepW, pok, pval, VA.ev, Env.get, Env.put, Env.keep, argEnv, thenQ, Heap.nil, ite_true, ite_false, true_and, reduceCtorEq]
  refine VW_seq (VW_region [2] ?_)
  simp only [OpsW_nil, OpsW_n, StepW, pok, pval, VA.ev, Env.get, Env.put, Env.keep, thenQ, intV, binV, binOk, Nat.succ_ne_self, Nat.reduceEqDiff, ite_true, ite_false, true_and, reduceCtorEq]
  refine VW_ret ?_
  simp only [Env.get, retQ, resV, resOk, RS.ev, RS.ok, ite_true, true_and, and_true, bne_self_eq_false]
  exact View.refl _ _
def cmpI (x y : Int) : Int := if x < y then -1 else if y < x then 1 else 0
theorem sp42 (x y : Int) : PCall Try.prog 42 [pI x, pI y] (pI (cmpI x y)) := by
  refine PCall_intro ?_ (Closed.of_scalar (scalar_int _ _)) (by simp only [ClosedL, List.mem_cons, List.not_mem_nil, or_false, forall_eq_or_imp, forall_eq, false_implies, implies_true]; repeat' (first | exact cI _ | exact cS _ | exact cB _ | exact closed_fn0 _ | exact closed_nilsl | exact closed_agg (Un.closed _) | exact closed_agg (It.closed _) | exact closed_agg (EI.closed _) | exact closed_agg (Ac.closed _) | exact closed_agg (Wd.closed _) | exact closed_agg (St.closed _) | exact closed_agg (Sta.closed _) | exact closed_eis _ | exact closed_acs _ | exact closed_gzs _ | exact Closed.of_scalar (scalar_int _ _) | exact closed_ro (Ac.closed _) | exact closed_ro (Gz.closed _) | exact closed_agg (Gz.closed _) | exact closed_strs _ | exact closed_map (fun w _ => Wd.closed w) | exact closed_map (fun w _ => St.closed w) | exact closed_map (fun w _ => Un.closed w) | exact closed_map (fun w _ => It.closed w) | exact closed_sc _ | exact closed_sps _ | exact closed_agg (Sp.closed _) | exact closed_ro (EI.closed _) | exact closed_ro (Sta.closed _) | exact closed_ro (It.closed _) | exact closed_ro (by simp only [List.mem_cons, List.not_mem_nil, or_false, forall_eq]; first | exact cI _ | exact cS _ | exact closed_eis _) | refine And.intro ?_ ?_))
  refine ACall_fn (vc := c42) (ts := [.t 4]) Go.Proofs.Try.func42 (by kernel_rfl) rfl rfl (Nat.le_of_ble_eq_true rfl) (by kernel_rfl) ?_
  unfold c42
  refine VW_seq (VW_region [0, 1, 4] ?_)
  simp only [OpsW_nil, OpsW_n, StepW, pok, pval, VA.ev, Env.get, Env.put, Env.keep, argEnv, thenQ, Heap.nil, Nat.succ_ne_self, Nat.reduceEqDiff, ite_true, ite_false, true_and, reduceCtorEq, Nat.zero_add]
  refine VW_seq (VW_region [0, 1, 4, 5] ?_)
  simp only [OpsW_nil, OpsW_n, StepW, pok, pval, VA.ev, Env.get, Env.put, Env.keep, thenQ, Nat.succ_ne_self, List.map, Nat.reduceEqDiff, ite_true, ite_false, true_and, reduceCtorEq]
  refine ACall_p (sp59 _) ?_
  skip
  refine VW_seq (VW_region [0, 1, 4, 5, 6] ?_)
  simp only [OpsW_nil, OpsW_n, StepW, pok, pval, VA.ev, Env.get, Env.put, Env.keep, thenQ, Nat.succ_ne_self, List.map, Nat.reduceEqDiff, ite_true, ite_false, true_and, reduceCtorEq]
  refine ACall_p (sp59 _) ?_
  skip
  refine VW_seq ?_
  refine VW_seq (VW_region [0, 1, 4, 5, 6, 11] ?_)
  simp only [OpsW_nil, OpsW_n, StepW, pok, pval, VA.ev, Env.get, Env.put, Env.keep, thenQ, Nat.succ_ne_self, Nat.reduceEqDiff, ite_true, ite_false, true_and, reduceCtorEq]
  refine VW_cond rfl (fun hh => by cases hh) (fun _ => ?_)
  refine VW_skip ?_
  simp only [thenQ]
  refine VW_seq ?_
  refine VW_seq (VW_region [0, 1, 4, 5, 6, 13] ?_)
  simp only [OpsW_nil, OpsW_n, StepW, pok, pval, VA.ev, Env.get, Env.put, Env.keep, thenQ, Nat.succ_ne_self, Nat.reduceEqDiff, ite_true, ite_false, true_and, reduceCtorEq]
  refine VW_cond rfl (fun hh => by cases hh) (fun _ => ?_)
  refine VW_skip ?_
  simp only [thenQ]
  refine VW_seq ?_
  refine VW_seq (VW_region [0, 1, 4, 16] ?_)
  simp only [OpsW_nil, OpsW_n, StepW, pok, pval, VA.ev, Env.get, Env.put, Env.keep, thenQ, intV, binV, binOk, Nat.succ_ne_self, Nat.reduceEqDiff, ite_true, ite_false, true_and, reduceCtorEq]
  refine VW_cond rfl (fun h1 => ?_) (fun h1 => ?_)
  · refine VW_seq (VW_region [4] ?_)
    simp only [OpsW_nil, OpsW_n, StepW, pok, pval, VA.ev, Env.get, Env.put, Env.keep, thenQ, Nat.reduceEqDiff, ite_true, ite_false, true_and, reduceCtorEq]
    refine VW_ret ?_
    simp only [Env.get, thenQ, retQ, resV, resOk, RS.ev, RS.ok, ite_true, true_and, and_true]
    simp only [decide_eq_true_eq] at h1
    simp only [cmpI, if_pos h1]
    exact View.refl _ _
  refine VW_skip ?_
  simp only [thenQ]
  refine VW_seq ?_
  refine VW_seq (VW_region [0, 1, 4, 19] ?_)
  simp only [OpsW_nil, OpsW_n, StepW, pok, pval, VA.ev, Env.get, Env.put, Env.keep, thenQ, intV, binV, binOk, Nat.succ_ne_self, Nat.reduceEqDiff, ite_true, ite_false, true_and, reduceCtorEq]
  refine VW_cond rfl (fun h2 => ?_) (fun h2 => ?_)
  · refine VW_seq (VW_region [4] ?_)
    simp only [OpsW_nil, OpsW_n, StepW, pok, pval, VA.ev, Env.get, Env.put, Env.keep, thenQ, Nat.reduceEqDiff, ite_true, ite_false, true_and, reduceCtorEq]
    refine VW_ret ?_
    simp only [Env.get, thenQ, retQ, resV, resOk, RS.ev, RS.ok, ite_true, true_and, and_true]
    simp only [decide_eq_true_eq, decide_eq_false_iff_not] at h1 h2
    simp only [cmpI, if_neg h1, if_pos h2]
    exact View.refl _ _
  refine VW_skip ?_
  simp only [thenQ]
  refine VW_seq (VW_region [4] ?_)
  simp only [OpsW_nil, OpsW_n, StepW, pok, pval, VA.ev, Env.get, Env.put, Env.keep, thenQ, Nat.reduceEqDiff, ite_true, ite_false, true_and, reduceCtorEq]
  refine VW_ret ?_
  simp only [Env.get, retQ, resV, resOk, RS.ev, RS.ok, ite_true, true_and, and_true]
  simp only [decide_eq_true_eq, decide_eq_false_iff_not] at h1 h2
  simp only [cmpI, if_neg h1, if_neg h2]
  exact View.refl _ _
def orI : List Int → Int
  | [] => 0
  | x :: r => if x = 0 then orI r else x
theorem orI_drop (l : List Int) (k : Nat) (h : k < l.length) : orI (l.drop k) = if l[k] = 0 then orI (l.drop (k + 1)) else l[k] := by
  rw [List.drop_eq_getElem_cons h]; rfl
theorem sp41 (l : List Int) (hl : l.length ≤ 4611686018427387904) : PCall Try.prog 41 [.sl 1 (l.map fun x => [pI x])] (pI (orI l)) := by
  refine PCall_intro ?_ (Closed.of_scalar (scalar_int _ _)) (by simp only [ClosedL, List.mem_cons, List.not_mem_nil, or_false, forall_eq_or_imp, forall_eq, false_implies, implies_true]; repeat' (first | exact cI _ | exact cS _ | exact cB _ | exact closed_fn0 _ | exact closed_nilsl | exact closed_agg (Un.closed _) | exact closed_agg (It.closed _) | exact closed_agg (EI.closed _) | exact closed_agg (Ac.closed _) | exact closed_agg (Wd.closed _) | exact closed_agg (St.closed _) | exact closed_agg (Sta.closed _) | exact closed_eis _ | exact closed_acs _ | exact closed_gzs _ | exact Closed.of_scalar (scalar_int _ _) | exact closed_ro (Ac.closed _) | exact closed_ro (Gz.closed _) | exact closed_agg (Gz.closed _) | exact closed_strs _ | exact closed_map (fun w _ => Wd.closed w) | exact closed_map (fun w _ => St.closed w) | exact closed_map (fun w _ => Un.closed w) | exact closed_map (fun w _ => It.closed w) | exact closed_sc _ | exact closed_sps _ | exact closed_agg (Sp.closed _) | exact closed_ro (EI.closed _) | exact closed_ro (Sta.closed _) | exact closed_ro (It.closed _) | exact closed_ro (by simp only [List.mem_cons, List.not_mem_nil, or_false, forall_eq]; first | exact cI _ | exact cS _ | exact closed_eis _) | refine And.intro ?_ ?_))
  refine ACall_fn (vc := c41) (ts := [.t 2]) Go.Proofs.Try.func41 (by kernel_rfl) rfl rfl (Nat.le_of_ble_eq_true rfl) (by kernel_rfl) ?_
  unfold c41
  refine VW_seq (VW_region [0] ?_)
  simp only [OpsW_nil, OpsW_n, StepW, pok, pval, VA.ev, Env.get, Env.put, Env.keep, argEnv, thenQ, Heap.nil, ite_true, ite_false, true_and, reduceCtorEq]
  refine VW_seq (VW_region [0, 3] ?_)
  simp only [OpsW_nil, OpsW_n, StepW, pok, pval, VA.ev, Env.get, Env.put, Env.keep, thenQ, ite_true, ite_false, true_and, reduceCtorEq]
  refine VW_seq ?_
  refine VW_seq (VW_region [3, 6, 7, 8] ?_)
  simp only [OpsW_nil, OpsW_n, StepW, pok, pval, VA.ev, Env.get, Env.put, Env.keep, thenQ, lenV, lenOk, Nat.succ_ne_self, Nat.reduceEqDiff, ite_true, ite_false, true_and, reduceCtorEq]
  refine VW_block ?_
  refine VW_loop (σ := { k : Nat // k ≤ l.length ∧ orI (l.drop k) = orI l }) (fun s => ([(3, pI 0), (6, .sl 1 (l.map fun x => [pI x])), (7, pI l.length), (8, pI s.1)], Heap.nil)) (fun s => l.length - s.1) ⟨0, by simp⟩ ?_ ?_ ?_
  · simp only [Env.get, Nat.succ_ne_self, Env.le, Nat.reduceEqDiff, ite_true, ite_false, true_and, and_true, List.length_map]
    trivial
  · exact ⟨Nat.le_refl _, trivial⟩
  rintro ⟨k, hk, ho⟩
  simp only []
  refine VW_seq (VW_region [3, 6, 7, 8, 9] ?_)
  simp only [OpsW_nil, OpsW_n, StepW, pok, pval, VA.ev, Env.get, Env.put, Env.keep, thenQ, intV, binV, binOk, Heap.le, HL.le, Heap.nil, Nat.succ_ne_self, Env.le, Nat.reduceEqDiff, ite_true, ite_false, true_and, and_true]
  refine VW_seq ?_
  refine VW_cond rfl (fun h1 => ?_) (fun h1 => ?_)
  · simp only [decide_eq_true_eq] at h1
    have hlt : k < l.length := by omega
    refine VW_skip ?_
    try simp only [thenQ]
    refine VW_seq ?_
    refine VW_block ?_
    refine VW_seq (VW_region [3, 5, 6, 7, 8] ?_)
    simp only [OpsW_nil, OpsW_n, StepW, pok, pval, VA.ev, Env.get, Env.put, Env.keep, thenQ, aggV, isInt, numOf, lenV, locCells, locOk, iaddrV, iaddrOk, PV.nth, PV.row, Nat.le_refl, Nat.succ_ne_self, List.length, List.getD_cons_zero, List.take, List.take_succ_cons, Nat.reduceEqDiff, Bool.false_eq_true, ite_true, ite_false, true_and, and_true, implies_true, Nat.zero_add, List.length_cons, Int.toNat_natCast, List.length_map, rowm hlt]
    repeat (with_reducible refine And.intro ?_ ?_; first | omega | (with_reducible constructor <;> omega) | exact False.elim | exact True.intro)
    refine VW_seq (VW_region [3, 5, 6, 7, 8, 14] ?_)
    simp only [OpsW_nil, OpsW_n, StepW, pok, pval, VA.ev, Env.get, Env.put, Env.keep, thenQ, intV, binV, binOk, Nat.succ_ne_self, Nat.reduceEqDiff, ite_true, ite_false, true_and]
    refine VW_cond rfl (fun h2 => ?_) (fun h2 => ?_)
    · refine VW_seq (VW_region [2] ?_)
      simp only [OpsW_nil, OpsW_n, StepW, pok, pval, VA.ev, Env.get, Env.put, Env.keep, thenQ, Nat.succ_ne_self, Nat.reduceEqDiff, ite_true, ite_false, true_and]
      refine VW_ret ?_
      try simp only [Env.get, thenQ, blockQ, retQ, resV, resOk, RS.ev, RS.ok, ite_true, true_and, and_true]
      simp only [bne_iff_ne, ne_eq] at h2
      rw [← ho, orI_drop l k hlt, if_neg h2]
      exact View.refl _ _
    refine VW_skip ?_
    try simp only [thenQ, blockQ]
    refine VW_region [3, 6, 7, 8] ?_
    simp only [OpsW_nil, OpsW_n, StepW, pok, pval, VA.ev, Env.get, Env.put, Env.keep, thenQ, intV, binV, binOk, Nat.le_refl, Nat.succ_ne_self, Nat.reduceEqDiff, ite_true, ite_false, true_and, w64 (n := (k : Int) + 1) (by omega) (by omega)]
    refine ⟨⟨k + 1, by omega, ?_⟩, ?_, ?_⟩
    · simp only [bne_eq_false_iff_eq] at h2
      rw [← ho, orI_drop l k hlt, if_pos h2]
    · simp
    · dsimp only; omega
  · simp only [decide_eq_false_iff_not] at h1
    have hk' : k = l.length := by omega
    refine VW_exit ?_
    try simp only [thenQ, blockQ, retQ, ite_true]
    refine VW_seq (VW_region [2] ?_)
    simp only [OpsW_nil, OpsW_n, StepW, pok, pval, VA.ev, Env.get, Env.put, Env.keep, thenQ, Nat.succ_ne_self, Nat.reduceEqDiff, ite_true, ite_false, true_and]
    refine VW_ret ?_
    try simp only [Env.get, retQ, resV, resOk, RS.ev, RS.ok, ite_true, true_and, and_true]
    rw [← ho, hk', List.drop_length]
    exact View.refl _ _

/-! ### the legal order -/
def cmpE (a b : EI) : Int := orI [cmpI a.day b.day, cmpI a.act b.act, cmpI a.item b.item]
theorem sp23 (a b : EI) : PCall Try.prog 23 [.agg a.enc, .agg b.enc] (pI (cmpE a b)) := by
  refine PCall_intro ?_ (Closed.of_scalar (scalar_int _ _)) (by simp only [ClosedL, List.mem_cons, List.not_mem_nil, or_false, forall_eq_or_imp, forall_eq, false_implies, implies_true]; repeat' (first | exact cI _ | exact cS _ | exact cB _ | exact closed_fn0 _ | exact closed_nilsl | exact closed_agg (Un.closed _) | exact closed_agg (It.closed _) | exact closed_agg (EI.closed _) | exact closed_agg (Ac.closed _) | exact closed_agg (Wd.closed _) | exact closed_agg (St.closed _) | exact closed_agg (Sta.closed _) | exact closed_eis _ | exact closed_acs _ | exact closed_gzs _ | exact Closed.of_scalar (scalar_int _ _) | exact closed_ro (Ac.closed _) | exact closed_ro (Gz.closed _) | exact closed_agg (Gz.closed _) | exact closed_strs _ | exact closed_map (fun w _ => Wd.closed w) | exact closed_map (fun w _ => St.closed w) | exact closed_map (fun w _ => Un.closed w) | exact closed_map (fun w _ => It.closed w) | exact closed_sc _ | exact closed_sps _ | exact closed_agg (Sp.closed _) | exact closed_ro (EI.closed _) | exact closed_ro (Sta.closed _) | exact closed_ro (It.closed _) | exact closed_ro (by simp only [List.mem_cons, List.not_mem_nil, or_false, forall_eq]; first | exact cI _ | exact cS _ | exact closed_eis _) | refine And.intro ?_ ?_))
  refine ACall_fn (vc := c23) (ts := [.t 4]) Go.Proofs.Try.func23 (by kernel_rfl) rfl rfl (Nat.le_of_ble_eq_true rfl) (by kernel_rfl) ?_
  unfold c23
  refine VW_seq (VW_region [2, 3] ?_)
  simp only [OpsW_nil, OpsW_n, StepW, pok, pval, VA.ev, Env.get, Env.put, Env.keep, argEnv, thenQ, PV.cells, PV.fits, Heap.push, Heap.nil, Nat.succ_ne_self, List.length, Nat.reduceEqDiff, Nat.reduceAdd, ite_true, ite_false, true_and, reduceCtorEq, BEq.rfl, Nat.zero_add, EI.enc, It.enc_len]
  refine VW_seq (VW_drawS [4] (by simp [Heap.le, Heap.get, HL.le, HL.get]) ?_)
  simp only [DrawW_nil, DrawW_n, QW, dok, dval, VOp.pure, VOp.simple, VOp.det, pok, pval, VA.ev, Env.get, Env.put, Env.keep, thenQ, gd, aggV, faddrV, isAddr, locCells, locOk, PV.cells, PV.fits, PV.nth, PV.row, Heap.get, HL.get, Nat.succ_ne_self, elemsV, elemsOk, List.set, List.replicate, List.length, List.getD_cons_zero, List.take, List.drop, List.take_succ_cons, List.drop_succ_cons, Nat.reduceEqDiff, Nat.reduceLT, Nat.reduceLeDiff, Bool.false_eq_true, ite_true, ite_false, true_and, and_true, implies_true, forall_const, reduceCtorEq, BEq.rfl, Nat.zero_add, Nat.add_zero, List.length_cons]
  refine ⟨_, .inl (sp42 ..), ?_⟩
  try simp only [true_and]
  refine ⟨_, .inl (sp42 ..), ?_⟩
  try simp only [true_and]
  refine ⟨_, .inl (sp42 ..), ?_⟩
  try simp only [true_and]
  refine ⟨_, .inl (sp41 [cmpI a.day b.day, cmpI a.act b.act, cmpI a.item b.item] (by simp)), ?_⟩
  skip
  refine VW_ret ?_
  try simp only [Env.get, retQ, resV, resOk, RS.ev, RS.ok, ite_true, true_and, and_true]
  exact View.refl _ _

def legI (a b : EI) : Int := if a.day < b.day then -1 else if b.day < a.day then 1 else if a.act < b.act then -1 else if b.act < a.act then 1 else if a.item < b.item then -1 else if b.item < a.item then 1 else 0
def key (a : EI) (k : Nat) : Int := match k with | 0 => a.day | 1 => a.act | _ => a.item
theorem leg_lt {a b : EI} {k : Nat} (he : ∀ j, j < k → key a j = key b j) (hk : k < 3) (h : key a k < key b k) : legI a b = -1 := by
  have : k = 0 ∨ k = 1 ∨ k = 2 := by omega
  rcases this with rfl | rfl | rfl
  · simp only [key] at h; simp [legI, h]
  · have h0 := he 0 (by omega)
    simp only [key] at h h0; simp [legI, h0, h]
  · have h0 := he 0 (by omega)
    have h1 := he 1 (by omega)
    simp only [key] at h h0 h1; simp [legI, h0, h1, h]
theorem leg_gt {a b : EI} {k : Nat} (he : ∀ j, j < k → key a j = key b j) (hk : k < 3) (h : key b k < key a k) : legI a b = 1 := by
  have : k = 0 ∨ k = 1 ∨ k = 2 := by omega
  have hn : ¬ key a k < key b k := by omega
  rcases this with rfl | rfl | rfl
  · simp only [key] at h hn; simp [legI, h, hn]
  · have h0 := he 0 (by omega)
    simp only [key] at h h0 hn; simp [legI, h0, h, hn]
  · have h0 := he 0 (by omega)
    have h1 := he 1 (by omega)
    simp only [key] at h h0 h1 hn; simp [legI, h0, h1, h, hn]
theorem leg_eq {a b : EI} (he : ∀ j, j < 3 → key a j = key b j) : legI a b = 0 := by
  have h0 := he 0 (by omega)
  have h1 := he 1 (by omega)
  have h2 := he 2 (by omega)
  simp only [key] at h0 h1 h2
  simp [legI, h0, h1, h2]
theorem sp24 (a b : EI) : PCall Try.prog 24 [.agg a.enc, .agg b.enc] (pI (legI a b)) := by
  refine PCall_intro ?_ (Closed.of_scalar (scalar_int _ _)) (by simp only [ClosedL, List.mem_cons, List.not_mem_nil, or_false, forall_eq_or_imp, forall_eq, false_implies, implies_true]; repeat' (first | exact cI _ | exact cS _ | exact cB _ | exact closed_fn0 _ | exact closed_nilsl | exact closed_agg (Un.closed _) | exact closed_agg (It.closed _) | exact closed_agg (EI.closed _) | exact closed_agg (Ac.closed _) | exact closed_agg (Wd.closed _) | exact closed_agg (St.closed _) | exact closed_agg (Sta.closed _) | exact closed_eis _ | exact closed_acs _ | exact closed_gzs _ | exact Closed.of_scalar (scalar_int _ _) | exact closed_ro (Ac.closed _) | exact closed_ro (Gz.closed _) | exact closed_agg (Gz.closed _) | exact closed_strs _ | exact closed_map (fun w _ => Wd.closed w) | exact closed_map (fun w _ => St.closed w) | exact closed_map (fun w _ => Un.closed w) | exact closed_map (fun w _ => It.closed w) | exact closed_sc _ | exact closed_sps _ | exact closed_agg (Sp.closed _) | exact closed_ro (EI.closed _) | exact closed_ro (Sta.closed _) | exact closed_ro (It.closed _) | exact closed_ro (by simp only [List.mem_cons, List.not_mem_nil, or_false, forall_eq]; first | exact cI _ | exact cS _ | exact closed_eis _) | refine And.intro ?_ ?_))
  refine ACall_fn (vc := c24) (ts := [.t 4]) Go.Proofs.Try.func24 (by kernel_rfl) rfl rfl (Nat.le_of_ble_eq_true rfl) (by kernel_rfl) ?_
  unfold c24
  refine VW_seq (VW_region [2, 3] ?_)
  simp only [OpsW_nil, OpsW_n, StepW, pok, pval, VA.ev, Env.get, Env.put, Env.keep, argEnv, thenQ, PV.cells, PV.fits, Heap.push, Heap.nil, Nat.succ_ne_self, List.length, Nat.reduceEqDiff, Nat.reduceAdd, ite_true, ite_false, true_and, reduceCtorEq, BEq.rfl, Nat.zero_add, EI.enc, It.enc_len]
  skip
  skip
  refine VW_seq (VW_region [3, 5] ?_)
  simp only [OpsW_nil, OpsW_n, StepW, pok, pval, VA.ev, Env.get, Env.put, Env.keep, thenQ, aggV, faddrV, isAddr, locCells, locOk, PV.cells, PV.fits, PV.nth, PV.row, Heap.get, HL.get, Heap.push, Nat.succ_ne_self, elemsV, elemsOk, List.set, List.replicate, List.length, List.getD_cons_zero, List.take, List.drop, List.take_succ_cons, List.drop_succ_cons, Nat.reduceEqDiff, Nat.reduceAdd, Nat.reduceLT, Nat.reduceLeDiff, Bool.false_eq_true, ite_true, ite_false, true_and, and_true, implies_true, BEq.rfl, Nat.zero_add, Nat.add_zero, List.length_cons]
  skip
  refine VW_seq (VW_region [5, 6] ?_)
  simp only [OpsW_nil, OpsW_n, StepW, pok, pval, VA.ev, Env.get, Env.put, Env.keep, thenQ, aggV, faddrV, isAddr, locCells, locOk, PV.cells, PV.fits, PV.nth, PV.row, Heap.get, HL.get, Heap.push, Nat.succ_ne_self, elemsV, elemsOk, List.set, List.replicate, List.length, List.getD_cons_zero, List.take, List.drop, List.take_succ_cons, List.drop_succ_cons, Nat.reduceEqDiff, Nat.reduceAdd, Nat.reduceLT, Nat.reduceLeDiff, Bool.false_eq_true, ite_true, ite_false, true_and, and_true, implies_true, reduceCtorEq, BEq.rfl, Nat.zero_add, Nat.add_zero, List.length_cons]
  skip
  refine VW_seq ?_
  refine VW_seq (VW_region [5, 6, 7] ?_)
  simp only [OpsW_nil, OpsW_n, StepW, pok, pval, VA.ev, Env.get, Env.put, Env.keep, thenQ, Nat.succ_ne_self, Nat.reduceEqDiff, ite_true, ite_false, true_and]
  refine VW_block ?_
  refine VW_loop (σ := { k : Nat // k ≤ 3 ∧ ∀ j, j < k → key a j = key b j }) (fun s => ([(5, .own 2 0 3), (6, .own 3 0 3), (7, pI s.1)], ⟨[(3, .arr false 1 [[pI b.day], [pI b.act], [pI b.item]]), (2, .arr false 1 [[pI a.day], [pI a.act], [pI a.item]])], 4⟩)) (fun s => 3 - s.1) ⟨0, by simp⟩ ?_ ?_ ?_
  · simp only [Env.get, Nat.succ_ne_self, Env.le, Nat.reduceEqDiff, ite_true, ite_false, true_and, and_true]
    rfl
  · simp only [Heap.get, Heap.le, HL.get, HL.le, Nat.le_refl, Nat.succ_ne_self, Nat.reduceEqDiff, ite_true, ite_false, and_true, reduceCtorEq]
  rintro ⟨k, hk, he⟩
  simp only []
  refine VW_seq ?_
  refine VW_seq (VW_region [5, 6, 7, 23] ?_)
  simp only [OpsW_nil, OpsW_n, StepW, pok, pval, VA.ev, Env.get, Env.put, Env.keep, thenQ, intV, binV, binOk, Heap.get, Heap.le, HL.le, Nat.succ_ne_self, Env.le, Nat.reduceEqDiff, ite_true, ite_false, true_and, and_true]
  refine VW_cond rfl (fun h1 => ?_) (fun h1 => ?_)
  · refine VW_skip ?_
    try simp only [thenQ]
    simp only [decide_eq_true_eq] at h1
    have hlt : k < 3 := by omega
    have ra : ([[pI a.day], [pI a.act], [pI a.item]] : List (List PV)).getD k [] = [pI (key a k)] := by
      have : k = 0 ∨ k = 1 ∨ k = 2 := by omega
      rcases this with rfl | rfl | rfl <;> rfl
    have rb : ([[pI b.day], [pI b.act], [pI b.item]] : List (List PV)).getD k [] = [pI (key b k)] := by
      have : k = 0 ∨ k = 1 ∨ k = 2 := by omega
      rcases this with rfl | rfl | rfl <;> rfl
    refine VW_seq ?_
    refine VW_block ?_
    refine VW_seq ?_
    refine VW_seq (VW_drawS [5, 6, 7, 34] (by simp [Heap.le, Heap.get, HL.le, HL.get]) ?_)  -- mv mv iaddr load mv mv iaddr load bin
    simp only [DrawW_nil, DrawW_n, QW, dok, dval, VOp.pure, VOp.simple, VOp.det, pok, pval, VA.ev, Env.get, Env.put, Env.keep, thenQ, gd, aggV, intV, binV, binOk, isInt, numOf, lenV, locCells, locOk, iaddrV, iaddrOk, PV.nth, PV.row, Heap.get, HL.get, Nat.le_refl, Nat.succ_ne_self, List.length, List.getD_cons_zero, List.take, List.drop, List.take_succ_cons, Nat.reduceEqDiff, Nat.reduceAdd, Bool.false_eq_true, ite_true, ite_false, true_and, and_true, implies_true, forall_const, Nat.zero_add, List.length_cons, Int.toNat_natCast, ra, rb]
    repeat (with_reducible refine And.intro ?_ ?_; first | omega | (with_reducible constructor <;> omega) | exact False.elim | exact True.intro)
    refine VW_cond rfl (fun h2 => ?_) (fun h2 => ?_)
    · refine VW_seq (VW_region [4] ?_)
      simp only [OpsW_nil, OpsW_n, StepW, pok, pval, VA.ev, Env.get, Env.put, Env.keep, thenQ, Nat.succ_ne_self, Nat.reduceEqDiff, ite_true, ite_false, true_and]
      refine VW_ret ?_
      try simp only [Env.get, thenQ, blockQ, retQ, resV, resOk, RS.ev, RS.ok, ite_true, true_and, and_true]
      simp only [decide_eq_true_eq] at h2
      rw [leg_lt he hlt h2]
      exact View.refl _ _
    refine VW_skip ?_
    try simp only [thenQ]
    refine VW_seq (VW_drawS [5, 6, 7, 43] (by simp [Heap.le, Heap.get, HL.le, HL.get]) ?_)  -- mv mv iaddr load mv mv iaddr load bin
    simp only [DrawW_nil, DrawW_n, QW, dok, dval, VOp.pure, VOp.simple, VOp.det, pok, pval, VA.ev, Env.get, Env.put, Env.keep, thenQ, gd, aggV, intV, binV, binOk, isInt, numOf, lenV, locCells, locOk, iaddrV, iaddrOk, PV.nth, PV.row, Heap.get, HL.get, Nat.le_refl, Nat.succ_ne_self, List.length, List.getD_cons_zero, List.take, List.drop, List.take_succ_cons, Nat.reduceEqDiff, Nat.reduceAdd, Bool.false_eq_true, ite_true, ite_false, true_and, and_true, implies_true, forall_const, Nat.zero_add, List.length_cons, Int.toNat_natCast, ra, rb]
    repeat (with_reducible refine And.intro ?_ ?_; first | omega | (with_reducible constructor <;> omega) | exact False.elim | exact True.intro)
    refine VW_cond rfl (fun h3 => ?_) (fun h3 => ?_)
    · refine VW_seq (VW_region [4] ?_)
      simp only [OpsW_nil, OpsW_n, StepW, pok, pval, VA.ev, Env.get, Env.put, Env.keep, thenQ, Nat.succ_ne_self, Nat.reduceEqDiff, ite_true, ite_false, true_and]
      refine VW_ret ?_
      try simp only [Env.get, thenQ, blockQ, retQ, resV, resOk, RS.ev, RS.ok, ite_true, true_and, and_true]
      simp only [decide_eq_true_eq] at h3
      rw [leg_gt he hlt h3]
      exact View.refl _ _
    refine VW_skip ?_
    try simp only [thenQ, blockQ]
    simp only [decide_eq_false_iff_not] at h2 h3
    refine VW_region [5, 6, 7] ?_
    simp only [OpsW_nil, OpsW_n, StepW, pok, pval, VA.ev, Env.get, Env.put, Env.keep, thenQ, intV, binV, binOk, HL.get, Nat.le_refl, Nat.succ_ne_self, Nat.reduceEqDiff, ite_true, ite_false, true_and, and_true, w64 (n := (k : Int) + 1) (by omega) (by omega)]
    refine ⟨⟨k + 1, by omega, fun j hj => ?_⟩, ?_, ?_⟩
    · by_cases hjk : j = k
      · subst hjk; omega
      · exact he j (by omega)
    · simp
    · dsimp only; omega
  · refine VW_exit ?_
    try simp only [thenQ, blockQ, retQ, ite_true]
    simp only [decide_eq_false_iff_not] at h1
    obtain rfl : k = 3 := by omega
    refine VW_seq (VW_region [4] ?_)
    simp only [OpsW_nil, OpsW_n, StepW, pok, pval, VA.ev, Env.get, Env.put, Env.keep, thenQ, Nat.succ_ne_self, Nat.reduceEqDiff, ite_true, ite_false, true_and]
    refine VW_ret ?_
    try simp only [Env.get, retQ, resV, resOk, RS.ev, RS.ok, ite_true, true_and, and_true]
    rw [leg_eq he]
    exact View.refl _ _
end Go.Proofs.Ytcjaojhbebpokaa.w


namespace Go.Proofs.Ytcjaojhbebpokaa.w
open Go Go.VM
def c51 : VC := (.seq (.region [⟨(some 4), (.mv (.c (.bool false))), none⟩] false) (.seq (.seq (.region [⟨(some 6), (.mv (.t 0)), none⟩, ⟨(some 7), (.len false (.t 6)), none⟩, ⟨(some 8), (.mv (.t 1)), none⟩, ⟨(some 9), (.len false (.t 8)), none⟩, ⟨(some 10), (.bin .neq (.t 7) (.t 9)), none⟩] false) (.cond (.t 10) (.seq (.region [⟨(some 4), (.mv (.c (.bool false))), none⟩] false) .ret) .skip)) (.seq (.seq (.region [⟨(some 5), (.mv (.c (.int .i64 0))), none⟩] false) (.block 0 (.loop (.seq (.seq (.region [⟨(some 11), (.mv (.t 5)), none⟩, ⟨(some 12), (.mv (.t 0)), none⟩, ⟨(some 13), (.len false (.t 12)), none⟩, ⟨(some 14), (.bin .lss (.t 11) (.t 13)), none⟩] false) (.cond (.t 14) .skip (.exit 0))) (.seq (.block 1 (.seq (.region [⟨(some 17), (.mv (.t 0)), none⟩, ⟨(some 18), (.mv (.t 5)), none⟩, ⟨(some 19), (.iaddr 1 (.t 17) (.t 18)), none⟩, ⟨(some 20), (.load false 1 (.t 19)), none⟩, ⟨(some 21), (.mv (.t 1)), none⟩, ⟨(some 22), (.mv (.t 5)), none⟩, ⟨(some 23), (.iaddr 1 (.t 21) (.t 22)), none⟩, ⟨(some 24), (.load false 1 (.t 23)), none⟩, ⟨(some 25), (.bin .neq (.t 20) (.t 24)), none⟩] true) (.cond (.t 25) (.seq (.region [⟨(some 4), (.mv (.c (.bool false))), none⟩] false) .ret) .skip))) (.region [⟨(some 15), (.mv (.t 5)), none⟩, ⟨(some 16), (.bin .add (.t 15) (.c (.int .i64 1))), none⟩, ⟨(some 5), (.mv (.t 16)), none⟩] false)))))) (.seq (.region [⟨(some 4), (.mv (.c (.bool true))), none⟩] false) .ret))))
def c50 : VC := (.seq (.region [⟨(some 4), (.mv (.c (.bool false))), none⟩] false) (.seq (.seq (.region [⟨(some 6), (.mv (.t 0)), none⟩, ⟨(some 7), (.len false (.t 6)), none⟩, ⟨(some 8), (.mv (.t 1)), none⟩, ⟨(some 9), (.len false (.t 8)), none⟩, ⟨(some 10), (.bin .neq (.t 7) (.t 9)), none⟩] false) (.cond (.t 10) (.seq (.region [⟨(some 4), (.mv (.c (.bool false))), none⟩] false) .ret) .skip)) (.seq (.seq (.region [⟨(some 5), (.mv (.c (.int .i64 0))), none⟩] false) (.block 0 (.loop (.seq (.seq (.region [⟨(some 11), (.mv (.t 5)), none⟩, ⟨(some 12), (.mv (.t 0)), none⟩, ⟨(some 13), (.len false (.t 12)), none⟩, ⟨(some 14), (.bin .lss (.t 11) (.t 13)), none⟩] false) (.cond (.t 14) .skip (.exit 0))) (.seq (.block 1 (.seq (.region [⟨(some 17), (.mv (.t 0)), none⟩, ⟨(some 18), (.mv (.t 5)), none⟩, ⟨(some 19), (.iaddr 2 (.t 17) (.t 18)), none⟩, ⟨(some 20), (.load true 2 (.t 19)), none⟩, ⟨(some 21), (.mv (.t 1)), none⟩, ⟨(some 22), (.mv (.t 5)), none⟩, ⟨(some 23), (.iaddr 2 (.t 21) (.t 22)), none⟩, ⟨(some 24), (.load true 2 (.t 23)), none⟩, ⟨(some 25), (.eqs true [.i, .s] (.t 20) (.t 24)), none⟩] true) (.cond (.t 25) (.seq (.region [⟨(some 4), (.mv (.c (.bool false))), none⟩] false) .ret) .skip))) (.region [⟨(some 15), (.mv (.t 5)), none⟩, ⟨(some 16), (.bin .add (.t 15) (.c (.int .i64 1))), none⟩, ⟨(some 5), (.mv (.t 16)), none⟩] false)))))) (.seq (.region [⟨(some 4), (.mv (.c (.bool true))), none⟩] false) .ret))))
def c61 : VC := (.seq (.region [⟨(some 4), (.mv (.c (.bool false))), none⟩] false) (.seq (.seq (.region [⟨(some 6), (.mv (.t 0)), none⟩, ⟨(some 7), (.len false (.t 6)), none⟩, ⟨(some 8), (.mv (.t 1)), none⟩, ⟨(some 9), (.len false (.t 8)), none⟩, ⟨(some 10), (.bin .neq (.t 7) (.t 9)), none⟩] false) (.cond (.t 10) (.seq (.region [⟨(some 4), (.mv (.c (.bool false))), none⟩] false) .ret) .skip)) (.seq (.seq (.region [⟨(some 5), (.mv (.c (.int .i64 0))), none⟩] false) (.block 0 (.loop (.seq (.seq (.region [⟨(some 11), (.mv (.t 5)), none⟩, ⟨(some 12), (.mv (.t 0)), none⟩, ⟨(some 13), (.len false (.t 12)), none⟩, ⟨(some 14), (.bin .lss (.t 11) (.t 13)), none⟩] false) (.cond (.t 14) .skip (.exit 0))) (.seq (.block 1 (.seq (.region [⟨(some 17), (.mv (.t 0)), none⟩, ⟨(some 18), (.mv (.t 5)), none⟩, ⟨(some 19), (.iaddr 4 (.t 17) (.t 18)), none⟩, ⟨(some 20), (.load true 4 (.t 19)), none⟩, ⟨(some 21), (.mv (.t 1)), none⟩, ⟨(some 22), (.mv (.t 5)), none⟩, ⟨(some 23), (.iaddr 4 (.t 21) (.t 22)), none⟩, ⟨(some 24), (.load true 4 (.t 23)), none⟩, ⟨(some 25), (.eqs true [.s, .i, .i, .i] (.t 20) (.t 24)), none⟩] true) (.cond (.t 25) (.seq (.region [⟨(some 4), (.mv (.c (.bool false))), none⟩] false) .ret) .skip))) (.region [⟨(some 15), (.mv (.t 5)), none⟩, ⟨(some 16), (.bin .add (.t 15) (.c (.int .i64 1))), none⟩, ⟨(some 5), (.mv (.t 16)), none⟩] false)))))) (.seq (.region [⟨(some 4), (.mv (.c (.bool true))), none⟩] false) .ret))))
def sts (l : List St) : PV := .sl 2 (l.map St.enc)
def wds (l : List Wd) : PV := .sl 4 (l.map Wd.enc)
theorem st_ext {a b : St} (h1 : a.kind = b.kind) (h2 : a.label = b.label) : a = b := by cases a; cases b; simp_all
theorem wd_ext {a b : Wd} (h1 : a.text = b.text) (h2 : a.act = b.act) (h3 : a.item = b.item) (h4 : a.at' = b.at') : a = b := by cases a; cases b; simp_all
theorem sp51 (l m : List Str) (hl0 : l.length ≤ maxLen) : PCall Try.prog 51 [It.strs l, It.strs m] (.bool (eqB l m)) := by
  have hl : l.length ≤ 9223372036854775807 := hl0
  refine PCall_intro ?_ (Closed.of_scalar (scalar_bool _)) (by simp only [ClosedL, List.mem_cons, List.not_mem_nil, or_false, forall_eq_or_imp, forall_eq, false_implies, implies_true]; repeat' (first | exact cI _ | exact cS _ | exact cB _ | exact closed_fn0 _ | exact closed_nilsl | exact closed_agg (Un.closed _) | exact closed_agg (It.closed _) | exact closed_agg (EI.closed _) | exact closed_agg (Ac.closed _) | exact closed_agg (Wd.closed _) | exact closed_agg (St.closed _) | exact closed_agg (Sta.closed _) | exact closed_eis _ | exact closed_acs _ | exact closed_gzs _ | exact Closed.of_scalar (scalar_int _ _) | exact closed_ro (Ac.closed _) | exact closed_ro (Gz.closed _) | exact closed_agg (Gz.closed _) | exact closed_strs _ | exact closed_map (fun w _ => Wd.closed w) | exact closed_map (fun w _ => St.closed w) | exact closed_map (fun w _ => Un.closed w) | exact closed_map (fun w _ => It.closed w) | exact closed_sc _ | exact closed_sps _ | exact closed_agg (Sp.closed _) | exact closed_ro (EI.closed _) | exact closed_ro (Sta.closed _) | exact closed_ro (It.closed _) | exact closed_ro (by simp only [List.mem_cons, List.not_mem_nil, or_false, forall_eq]; first | exact cI _ | exact cS _ | exact closed_eis _) | refine And.intro ?_ ?_))
  refine ACall_fn (vc := c51) (ts := [.t 4]) Go.Proofs.Try.func51 (by kernel_rfl) rfl rfl (Nat.le_of_ble_eq_true rfl) (by kernel_rfl) ?_
  unfold c51
  refine VW_seq (VW_region [0, 1] ?_)
  simp only [OpsW_nil, OpsW_n, StepW, pok, pval, VA.ev, Env.get, Env.put, Env.keep, argEnv, thenQ, Heap.nil, Nat.succ_ne_self, Nat.reduceEqDiff, ite_true, ite_false, true_and, reduceCtorEq, Nat.zero_add, It.strs]
  refine VW_seq ?_
  refine VW_seq (VW_region [0, 1, 10] ?_)
  simp only [OpsW_nil, OpsW_n, StepW, pok, pval, VA.ev, Env.get, Env.put, Env.keep, thenQ, intV, binV, binOk, lenV, lenOk, Nat.succ_ne_self, Nat.reduceEqDiff, ite_true, ite_false, true_and, reduceCtorEq, List.length_map]
  refine VW_cond rfl (fun h1 => ?_) (fun h1 => ?_)
  · refine VW_seq (VW_region [4] ?_)
    simp only [OpsW_nil, OpsW_n, StepW, pok, pval, VA.ev, Env.get, Env.put, Env.keep, thenQ, Nat.reduceEqDiff, ite_true, ite_false, true_and, reduceCtorEq]
    refine VW_ret ?_
    try simp only [Env.get, thenQ, retQ, resV, resOk, RS.ev, RS.ok, ite_true, true_and, and_true]
    simp only [bne_iff_ne, ne_eq, Int.natCast_inj] at h1
    rw [eqB_f (len_ne h1)]
    exact View.refl _ _
  simp only [bne_eq_false_iff_eq, Int.natCast_inj] at h1
  refine VW_skip ?_
  try simp only [thenQ]
  refine VW_seq ?_
  refine VW_seq (VW_region [0, 1, 5] ?_)
  simp only [OpsW_nil, OpsW_n, StepW, pok, pval, VA.ev, Env.get, Env.put, Env.keep, thenQ, Nat.succ_ne_self, Nat.reduceEqDiff, ite_true, ite_false, true_and, reduceCtorEq, List.length_map]
  refine VW_block ?_
  refine VW_loop (σ := { k : Nat // k ≤ l.length ∧ l.take k = m.take k }) (fun s => ([(0, .sl 1 (l.map fun s => [.str s])), (1, .sl 1 (m.map fun s => [.str s])), (5, pI s.1)], Heap.nil)) (fun s => l.length - s.1) ⟨0, by simp⟩ ?_ ?_ ?_
  · simp only [Env.get, Nat.succ_ne_self, Env.le, Nat.reduceEqDiff, ite_true, ite_false, true_and, and_true, reduceCtorEq]
    first | rfl | exact ⟨rfl, rfl⟩
  · exact ⟨Nat.le_refl _, trivial⟩
  rintro ⟨k, hk, he⟩
  simp only []
  refine VW_seq ?_
  refine VW_seq (VW_region [0, 1, 5, 14] ?_)
  simp only [OpsW_nil, OpsW_n, StepW, pok, pval, VA.ev, Env.get, Env.put, Env.keep, thenQ, intV, binV, binOk, lenV, lenOk, Heap.le, HL.le, Heap.nil, Nat.succ_ne_self, Env.le, Nat.reduceEqDiff, ite_true, ite_false, true_and, and_true, reduceCtorEq, List.length_map]
  refine VW_cond rfl (fun h2 => ?_) (fun h2 => ?_)
  · refine VW_skip ?_
    try simp only [thenQ]
    simp only [decide_eq_true_eq] at h2
    have ka : k < l.length := by omega
    have kb : k < m.length := by omega
    refine VW_seq ?_
    refine VW_block ?_
    refine VW_seq (VW_drawS [0, 1, 5, 25] (by simp [Heap.le, Heap.get, HL.le, HL.get]) ?_)
    simp only [DrawW_nil, DrawW_n, QW, dok, dval, VOp.pure, VOp.simple, VOp.det, pok, pval, VA.ev, Env.get, Env.put, Env.keep, thenQ, gd, aggV, binV, binOk, strV, isInt, numOf, lenV, locCells, locOk, iaddrV, iaddrOk, PV.nth, PV.row, Nat.le_refl, Nat.succ_ne_self, List.length, List.getD_cons_zero, List.take, List.take_succ_cons, Nat.reduceEqDiff, Bool.false_eq_true, ite_true, ite_false, true_and, and_true, implies_true, forall_const, reduceCtorEq, Nat.zero_add, List.length_cons, Int.toNat_natCast, List.length_map, rowm ka, rowm kb, List.length_map]
    repeat (with_reducible refine And.intro ?_ ?_; first | omega | (with_reducible constructor <;> omega) | exact False.elim | exact True.intro)
    refine VW_cond rfl (fun h3 => ?_) (fun h3 => ?_)
    · refine VW_seq (VW_region [4] ?_)
      simp only [OpsW_nil, OpsW_n, StepW, pok, pval, VA.ev, Env.get, Env.put, Env.keep, thenQ, Nat.succ_ne_self, Nat.reduceEqDiff, ite_true, ite_false, true_and, reduceCtorEq]
      refine VW_ret ?_
      try simp only [Env.get, thenQ, blockQ, retQ, resV, resOk, RS.ev, RS.ok, ite_true, true_and, and_true]
      have h4 : l[k] ≠ m[k] := by
        intro e
        rw [e] at h3
        simp at h3
      rw [eqB_f (get_ne ka kb h4)]
      exact View.refl _ _
    have h4 : l[k] = m[k] := by
      simpa using h3
    refine VW_skip ?_
    try simp only [thenQ, blockQ]
    refine VW_region [0, 1, 5] ?_
    simp only [OpsW_nil, OpsW_n, StepW, pok, pval, VA.ev, Env.get, Env.put, Env.keep, thenQ, intV, binV, binOk, Nat.le_refl, Nat.succ_ne_self, Nat.reduceEqDiff, ite_true, ite_false, true_and, reduceCtorEq, w64 (n := (k : Int) + 1) (by omega) (by omega)]
    refine ⟨⟨k + 1, by omega, take_step he ka kb h4⟩, ?_, ?_⟩
    · simp
    · dsimp only; omega
  · simp only [decide_eq_false_iff_not] at h2
    obtain rfl : k = l.length := by omega
    refine VW_exit ?_
    try simp only [thenQ, blockQ, retQ, ite_true]
    refine VW_seq (VW_region [4] ?_)
    simp only [OpsW_nil, OpsW_n, StepW, pok, pval, VA.ev, Env.get, Env.put, Env.keep, thenQ, Nat.succ_ne_self, Nat.reduceEqDiff, ite_true, ite_false, true_and, reduceCtorEq]
    refine VW_ret ?_
    try simp only [Env.get, retQ, resV, resOk, RS.ev, RS.ok, ite_true, true_and, and_true]
    rw [eqB_t (take_all h1 he)]
    exact View.refl _ _

theorem sp50 (l m : List St) (hl0 : l.length ≤ maxLen) : PCall Try.prog 50 [sts l, sts m] (.bool (eqB l m)) := by
  have hl : l.length ≤ 9223372036854775807 := hl0
  refine PCall_intro ?_ (Closed.of_scalar (scalar_bool _)) (by simp only [ClosedL, List.mem_cons, List.not_mem_nil, or_false, forall_eq_or_imp, forall_eq, false_implies, implies_true]; repeat' (first | exact cI _ | exact cS _ | exact cB _ | exact closed_fn0 _ | exact closed_nilsl | exact closed_agg (Un.closed _) | exact closed_agg (It.closed _) | exact closed_agg (EI.closed _) | exact closed_agg (Ac.closed _) | exact closed_agg (Wd.closed _) | exact closed_agg (St.closed _) | exact closed_agg (Sta.closed _) | exact closed_eis _ | exact closed_acs _ | exact closed_gzs _ | exact Closed.of_scalar (scalar_int _ _) | exact closed_ro (Ac.closed _) | exact closed_ro (Gz.closed _) | exact closed_agg (Gz.closed _) | exact closed_strs _ | exact closed_map (fun w _ => Wd.closed w) | exact closed_map (fun w _ => St.closed w) | exact closed_map (fun w _ => Un.closed w) | exact closed_map (fun w _ => It.closed w) | exact closed_sc _ | exact closed_sps _ | exact closed_agg (Sp.closed _) | exact closed_ro (EI.closed _) | exact closed_ro (Sta.closed _) | exact closed_ro (It.closed _) | exact closed_ro (by simp only [List.mem_cons, List.not_mem_nil, or_false, forall_eq]; first | exact cI _ | exact cS _ | exact closed_eis _) | refine And.intro ?_ ?_))
  refine ACall_fn (vc := c50) (ts := [.t 4]) Go.Proofs.Try.func50 (by kernel_rfl) rfl rfl (Nat.le_of_ble_eq_true rfl) (by kernel_rfl) ?_
  unfold c50
  refine VW_seq (VW_region [0, 1] ?_)
  simp only [OpsW_nil, OpsW_n, StepW, pok, pval, VA.ev, Env.get, Env.put, Env.keep, argEnv, thenQ, Heap.nil, Nat.succ_ne_self, Nat.reduceEqDiff, ite_true, ite_false, true_and, reduceCtorEq, Nat.zero_add, sts]
  refine VW_seq ?_
  refine VW_seq (VW_region [0, 1, 10] ?_)
  simp only [OpsW_nil, OpsW_n, StepW, pok, pval, VA.ev, Env.get, Env.put, Env.keep, thenQ, intV, binV, binOk, lenV, lenOk, Nat.succ_ne_self, Nat.reduceEqDiff, ite_true, ite_false, true_and, reduceCtorEq, List.length_map]
  refine VW_cond rfl (fun h1 => ?_) (fun h1 => ?_)
  · refine VW_seq (VW_region [4] ?_)
    simp only [OpsW_nil, OpsW_n, StepW, pok, pval, VA.ev, Env.get, Env.put, Env.keep, thenQ, Nat.reduceEqDiff, ite_true, ite_false, true_and, reduceCtorEq]
    refine VW_ret ?_
    try simp only [Env.get, thenQ, retQ, resV, resOk, RS.ev, RS.ok, ite_true, true_and, and_true]
    simp only [bne_iff_ne, ne_eq, Int.natCast_inj] at h1
    rw [eqB_f (len_ne h1)]
    exact View.refl _ _
  simp only [bne_eq_false_iff_eq, Int.natCast_inj] at h1
  refine VW_skip ?_
  try simp only [thenQ]
  refine VW_seq ?_
  refine VW_seq (VW_region [0, 1, 5] ?_)
  simp only [OpsW_nil, OpsW_n, StepW, pok, pval, VA.ev, Env.get, Env.put, Env.keep, thenQ, Nat.succ_ne_self, Nat.reduceEqDiff, ite_true, ite_false, true_and, reduceCtorEq, List.length_map]
  refine VW_block ?_
  refine VW_loop (σ := { k : Nat // k ≤ l.length ∧ l.take k = m.take k }) (fun s => ([(0, .sl 2 (l.map St.enc)), (1, .sl 2 (m.map St.enc)), (5, pI s.1)], Heap.nil)) (fun s => l.length - s.1) ⟨0, by simp⟩ ?_ ?_ ?_
  · simp only [Env.get, Nat.succ_ne_self, Env.le, Nat.reduceEqDiff, ite_true, ite_false, true_and, and_true, reduceCtorEq]
    first | rfl | exact ⟨rfl, rfl⟩
  · exact ⟨Nat.le_refl _, trivial⟩
  rintro ⟨k, hk, he⟩
  simp only []
  refine VW_seq ?_
  refine VW_seq (VW_region [0, 1, 5, 14] ?_)
  simp only [OpsW_nil, OpsW_n, StepW, pok, pval, VA.ev, Env.get, Env.put, Env.keep, thenQ, intV, binV, binOk, lenV, lenOk, Heap.le, HL.le, Heap.nil, Nat.succ_ne_self, Env.le, Nat.reduceEqDiff, ite_true, ite_false, true_and, and_true, reduceCtorEq, List.length_map]
  refine VW_cond rfl (fun h2 => ?_) (fun h2 => ?_)
  · refine VW_skip ?_
    try simp only [thenQ]
    simp only [decide_eq_true_eq] at h2
    have ka : k < l.length := by omega
    have kb : k < m.length := by omega
    refine VW_seq ?_
    refine VW_block ?_
    refine VW_seq (VW_drawS [0, 1, 5, 25] (by simp [Heap.le, Heap.get, HL.le, HL.get]) ?_)
    simp only [DrawW_nil, DrawW_n, QW, dok, dval, VOp.pure, VOp.simple, VOp.det, pok, pval, VA.ev, Env.get, Env.put, Env.keep, thenQ, gd, aggV, isInt, numOf, lenV, locCells, locOk, cellsOfAgg, isAggP, iaddrV, iaddrOk, PV.nth, PV.row, Nat.le_refl, Nat.succ_ne_self, eqOk, ekOk, eqCells, eqCell, List.length, List.getD_cons_zero, List.take, List.take_succ_cons, Nat.reduceEqDiff, Nat.reduceAdd, Bool.true_eq_false, ite_true, ite_false, true_and, and_true, implies_true, forall_const, reduceCtorEq, Nat.zero_add, List.length_cons, imp_self, Int.toNat_natCast, List.length_map, rowm ka, rowm kb, St.enc]
    repeat (with_reducible refine And.intro ?_ ?_; first | omega | (with_reducible constructor <;> omega) | exact False.elim | exact True.intro)
    refine VW_cond rfl (fun h3 => ?_) (fun h3 => ?_)
    · refine VW_seq (VW_region [4] ?_)
      simp only [OpsW_nil, OpsW_n, StepW, pok, pval, VA.ev, Env.get, Env.put, Env.keep, thenQ, Nat.succ_ne_self, Nat.reduceEqDiff, ite_true, ite_false, true_and, reduceCtorEq]
      refine VW_ret ?_
      try simp only [Env.get, thenQ, blockQ, retQ, resV, resOk, RS.ev, RS.ok, ite_true, true_and, and_true]
      have h4 : l[k] ≠ m[k] := by
        intro e
        rw [e] at h3
        simp at h3
      rw [eqB_f (get_ne ka kb h4)]
      exact View.refl _ _
    have h4 : l[k] = m[k] := by
      simp at h3
      exact st_ext h3.1 h3.2
    refine VW_skip ?_
    try simp only [thenQ, blockQ]
    refine VW_region [0, 1, 5] ?_
    simp only [OpsW_nil, OpsW_n, StepW, pok, pval, VA.ev, Env.get, Env.put, Env.keep, thenQ, intV, binV, binOk, Nat.le_refl, Nat.succ_ne_self, Nat.reduceEqDiff, ite_true, ite_false, true_and, reduceCtorEq, w64 (n := (k : Int) + 1) (by omega) (by omega)]
    refine ⟨⟨k + 1, by omega, take_step he ka kb h4⟩, ?_, ?_⟩
    · simp
    · dsimp only; omega
  · simp only [decide_eq_false_iff_not] at h2
    obtain rfl : k = l.length := by omega
    refine VW_exit ?_
    try simp only [thenQ, blockQ, retQ, ite_true]
    refine VW_seq (VW_region [4] ?_)
    simp only [OpsW_nil, OpsW_n, StepW, pok, pval, VA.ev, Env.get, Env.put, Env.keep, thenQ, Nat.succ_ne_self, Nat.reduceEqDiff, ite_true, ite_false, true_and, reduceCtorEq]
    refine VW_ret ?_
    try simp only [Env.get, retQ, resV, resOk, RS.ev, RS.ok, ite_true, true_and, and_true]
    rw [eqB_t (take_all h1 he)]
    exact View.refl _ _

theorem sp61 (l m : List Wd) (hl0 : l.length ≤ maxLen) : PCall Try.prog 61 [wds l, wds m] (.bool (eqB l m)) := by
  have hl : l.length ≤ 9223372036854775807 := hl0
  refine PCall_intro ?_ (Closed.of_scalar (scalar_bool _)) (by simp only [ClosedL, List.mem_cons, List.not_mem_nil, or_false, forall_eq_or_imp, forall_eq, false_implies, implies_true]; repeat' (first | exact cI _ | exact cS _ | exact cB _ | exact closed_fn0 _ | exact closed_nilsl | exact closed_agg (Un.closed _) | exact closed_agg (It.closed _) | exact closed_agg (EI.closed _) | exact closed_agg (Ac.closed _) | exact closed_agg (Wd.closed _) | exact closed_agg (St.closed _) | exact closed_agg (Sta.closed _) | exact closed_eis _ | exact closed_acs _ | exact closed_gzs _ | exact Closed.of_scalar (scalar_int _ _) | exact closed_ro (Ac.closed _) | exact closed_ro (Gz.closed _) | exact closed_agg (Gz.closed _) | exact closed_strs _ | exact closed_map (fun w _ => Wd.closed w) | exact closed_map (fun w _ => St.closed w) | exact closed_map (fun w _ => Un.closed w) | exact closed_map (fun w _ => It.closed w) | exact closed_sc _ | exact closed_sps _ | exact closed_agg (Sp.closed _) | exact closed_ro (EI.closed _) | exact closed_ro (Sta.closed _) | exact closed_ro (It.closed _) | exact closed_ro (by simp only [List.mem_cons, List.not_mem_nil, or_false, forall_eq]; first | exact cI _ | exact cS _ | exact closed_eis _) | refine And.intro ?_ ?_))
  refine ACall_fn (vc := c61) (ts := [.t 4]) Go.Proofs.Try.func61 (by kernel_rfl) rfl rfl (Nat.le_of_ble_eq_true rfl) (by kernel_rfl) ?_
  unfold c61
  refine VW_seq (VW_region [0, 1] ?_)
  simp only [OpsW_nil, OpsW_n, StepW, pok, pval, VA.ev, Env.get, Env.put, Env.keep, argEnv, thenQ, Heap.nil, Nat.succ_ne_self, Nat.reduceEqDiff, ite_true, ite_false, true_and, reduceCtorEq, Nat.zero_add, wds]
  refine VW_seq ?_
  refine VW_seq (VW_region [0, 1, 10] ?_)
  simp only [OpsW_nil, OpsW_n, StepW, pok, pval, VA.ev, Env.get, Env.put, Env.keep, thenQ, intV, binV, binOk, lenV, lenOk, Nat.succ_ne_self, Nat.reduceEqDiff, ite_true, ite_false, true_and, reduceCtorEq, List.length_map]
  refine VW_cond rfl (fun h1 => ?_) (fun h1 => ?_)
  · refine VW_seq (VW_region [4] ?_)
    simp only [OpsW_nil, OpsW_n, StepW, pok, pval, VA.ev, Env.get, Env.put, Env.keep, thenQ, Nat.reduceEqDiff, ite_true, ite_false, true_and, reduceCtorEq]
    refine VW_ret ?_
    try simp only [Env.get, thenQ, retQ, resV, resOk, RS.ev, RS.ok, ite_true, true_and, and_true]
    simp only [bne_iff_ne, ne_eq, Int.natCast_inj] at h1
    rw [eqB_f (len_ne h1)]
    exact View.refl _ _
  simp only [bne_eq_false_iff_eq, Int.natCast_inj] at h1
  refine VW_skip ?_
  try simp only [thenQ]
  refine VW_seq ?_
  refine VW_seq (VW_region [0, 1, 5] ?_)
  simp only [OpsW_nil, OpsW_n, StepW, pok, pval, VA.ev, Env.get, Env.put, Env.keep, thenQ, Nat.succ_ne_self, Nat.reduceEqDiff, ite_true, ite_false, true_and, reduceCtorEq, List.length_map]
  refine VW_block ?_
  refine VW_loop (σ := { k : Nat // k ≤ l.length ∧ l.take k = m.take k }) (fun s => ([(0, .sl 4 (l.map Wd.enc)), (1, .sl 4 (m.map Wd.enc)), (5, pI s.1)], Heap.nil)) (fun s => l.length - s.1) ⟨0, by simp⟩ ?_ ?_ ?_
  · simp only [Env.get, Nat.succ_ne_self, Env.le, Nat.reduceEqDiff, ite_true, ite_false, true_and, and_true, reduceCtorEq]
    first | rfl | exact ⟨rfl, rfl⟩
  · exact ⟨Nat.le_refl _, trivial⟩
  rintro ⟨k, hk, he⟩
  simp only []
  refine VW_seq ?_
  refine VW_seq (VW_region [0, 1, 5, 14] ?_)
  simp only [OpsW_nil, OpsW_n, StepW, pok, pval, VA.ev, Env.get, Env.put, Env.keep, thenQ, intV, binV, binOk, lenV, lenOk, Heap.le, HL.le, Heap.nil, Nat.succ_ne_self, Env.le, Nat.reduceEqDiff, ite_true, ite_false, true_and, and_true, reduceCtorEq, List.length_map]
  refine VW_cond rfl (fun h2 => ?_) (fun h2 => ?_)
  · refine VW_skip ?_
    try simp only [thenQ]
    simp only [decide_eq_true_eq] at h2
    have ka : k < l.length := by omega
    have kb : k < m.length := by omega
    refine VW_seq ?_
    refine VW_block ?_
    refine VW_seq (VW_drawS [0, 1, 5, 25] (by simp [Heap.le, Heap.get, HL.le, HL.get]) ?_)
    simp only [DrawW_nil, DrawW_n, QW, dok, dval, VOp.pure, VOp.simple, VOp.det, pok, pval, VA.ev, Env.get, Env.put, Env.keep, thenQ, gd, aggV, isInt, numOf, lenV, locCells, locOk, cellsOfAgg, isAggP, iaddrV, iaddrOk, PV.nth, PV.row, Nat.le_refl, Nat.succ_ne_self, eqOk, ekOk, eqCells, eqCell, List.length, List.getD_cons_zero, List.take, List.take_succ_cons, Nat.reduceEqDiff, Nat.reduceAdd, Bool.true_eq_false, ite_true, ite_false, true_and, and_true, implies_true, forall_const, reduceCtorEq, Nat.zero_add, List.length_cons, imp_self, Int.toNat_natCast, List.length_map, rowm ka, rowm kb, Wd.enc]
    repeat (with_reducible refine And.intro ?_ ?_; first | omega | (with_reducible constructor <;> omega) | exact False.elim | exact True.intro)
    refine VW_cond rfl (fun h3 => ?_) (fun h3 => ?_)
    · refine VW_seq (VW_region [4] ?_)
      simp only [OpsW_nil, OpsW_n, StepW, pok, pval, VA.ev, Env.get, Env.put, Env.keep, thenQ, Nat.succ_ne_self, Nat.reduceEqDiff, ite_true, ite_false, true_and, reduceCtorEq]
      refine VW_ret ?_
      try simp only [Env.get, thenQ, blockQ, retQ, resV, resOk, RS.ev, RS.ok, ite_true, true_and, and_true]
      have h4 : l[k] ≠ m[k] := by
        intro e
        rw [e] at h3
        simp at h3
      rw [eqB_f (get_ne ka kb h4)]
      exact View.refl _ _
    have h4 : l[k] = m[k] := by
      simp at h3
      exact wd_ext h3.1 h3.2.1 h3.2.2.1 h3.2.2.2
    refine VW_skip ?_
    try simp only [thenQ, blockQ]
    refine VW_region [0, 1, 5] ?_
    simp only [OpsW_nil, OpsW_n, StepW, pok, pval, VA.ev, Env.get, Env.put, Env.keep, thenQ, intV, binV, binOk, Nat.le_refl, Nat.succ_ne_self, Nat.reduceEqDiff, ite_true, ite_false, true_and, reduceCtorEq, w64 (n := (k : Int) + 1) (by omega) (by omega)]
    refine ⟨⟨k + 1, by omega, take_step he ka kb h4⟩, ?_, ?_⟩
    · simp
    · dsimp only; omega
  · simp only [decide_eq_false_iff_not] at h2
    obtain rfl : k = l.length := by omega
    refine VW_exit ?_
    try simp only [thenQ, blockQ, retQ, ite_true]
    refine VW_seq (VW_region [4] ?_)
    simp only [OpsW_nil, OpsW_n, StepW, pok, pval, VA.ev, Env.get, Env.put, Env.keep, thenQ, Nat.succ_ne_self, Nat.reduceEqDiff, ite_true, ite_false, true_and, reduceCtorEq]
    refine VW_ret ?_
    try simp only [Env.get, retQ, resV, resOk, RS.ev, RS.ok, ite_true, true_and, and_true]
    rw [eqB_t (take_all h1 he)]
    exact View.refl _ _

end Go.Proofs.Ytcjaojhbebpokaa.w


namespace Go.Proofs.Ytcjaojhbebpokaa.w
open Go Go.VM
set_option maxRecDepth 20000
set_option maxHeartbeats 0
def c52 : VC := (.seq (.region [⟨(some 2), (.box 8 (.t 0)), none⟩, ⟨(some 3), (.box 8 (.t 1)), none⟩, ⟨(some 4), (.mv (.c (.bool false))), none⟩] false) (.seq (.seq (.region [⟨(some 6), (.faddr 0 (.t 2)), none⟩, ⟨(some 7), (.load true 3 (.t 6)), none⟩, ⟨(some 8), (.faddr 0 (.t 3)), none⟩, ⟨(some 9), (.load true 3 (.t 8)), none⟩, ⟨(some 10), (.eqs true [.i, .i, .i] (.t 7) (.t 9)), none⟩, ⟨(some 11), (.mv (.t 10)), none⟩, ⟨(some 12), (.faddr 3 (.t 2)), (some (11, false))⟩, ⟨(some 13), (.load false 1 (.t 12)), (some (11, false))⟩, ⟨(some 14), (.faddr 3 (.t 3)), (some (11, false))⟩, ⟨(some 15), (.load false 1 (.t 14)), (some (11, false))⟩, ⟨(some 16), (.bin .neq (.t 13) (.t 15)), (some (11, false))⟩, ⟨(some 17), (.pick (.t 11) (.c (.bool true)) (.t 16)), none⟩, ⟨(some 18), (.mv (.t 17)), none⟩, ⟨(some 19), (.faddr 4 (.t 2)), (some (18, false))⟩, ⟨(some 20), (.load false 1 (.t 19)), (some (18, false))⟩, ⟨(some 21), (.faddr 4 (.t 3)), (some (18, false))⟩, ⟨(some 22), (.load false 1 (.t 21)), (some (18, false))⟩, ⟨(some 23), (.bin .neq (.t 20) (.t 22)), (some (18, false))⟩, ⟨(some 24), (.pick (.t 18) (.c (.bool true)) (.t 23)), none⟩, ⟨(some 25), (.mv (.t 24)), none⟩, ⟨(some 26), (.faddr 5 (.t 2)), (some (25, false))⟩, ⟨(some 27), (.load false 1 (.t 26)), (some (25, false))⟩, ⟨(some 28), (.faddr 5 (.t 3)), (some (25, false))⟩, ⟨(some 29), (.load false 1 (.t 28)), (some (25, false))⟩, ⟨(some 30), (.call 61 [(.t 27), (.t 29)]), (some (25, false))⟩, ⟨(some 31), (.un .not (.t 30)), (some (25, false))⟩, ⟨(some 32), (.pick (.t 25) (.c (.bool true)) (.t 31)), none⟩, ⟨(some 33), (.mv (.t 32)), none⟩, ⟨(some 34), (.faddr 6 (.t 2)), (some (33, false))⟩, ⟨(some 35), (.load false 1 (.t 34)), (some (33, false))⟩, ⟨(some 36), (.faddr 6 (.t 3)), (some (33, false))⟩, ⟨(some 37), (.load false 1 (.t 36)), (some (33, false))⟩, ⟨(some 38), (.call 61 [(.t 35), (.t 37)]), (some (33, false))⟩, ⟨(some 39), (.un .not (.t 38)), (some (33, false))⟩, ⟨(some 40), (.pick (.t 33) (.c (.bool true)) (.t 39)), none⟩, ⟨(some 41), (.mv (.t 40)), none⟩, ⟨(some 42), (.faddr 7 (.t 2)), (some (41, false))⟩, ⟨(some 43), (.load false 1 (.t 42)), (some (41, false))⟩, ⟨(some 44), (.len false (.t 43)), (some (41, false))⟩, ⟨(some 45), (.faddr 7 (.t 3)), (some (41, false))⟩, ⟨(some 46), (.load false 1 (.t 45)), (some (41, false))⟩, ⟨(some 47), (.len false (.t 46)), (some (41, false))⟩, ⟨(some 48), (.bin .neq (.t 44) (.t 47)), (some (41, false))⟩, ⟨(some 49), (.pick (.t 41) (.c (.bool true)) (.t 48)), none⟩] false) (.cond (.t 49) (.seq (.region [⟨(some 4), (.mv (.c (.bool false))), none⟩] false) .ret) .skip)) (.seq (.seq (.region [⟨(some 5), (.mv (.c (.int .i64 0))), none⟩] false) (.block 0 (.loop (.seq (.seq (.region [⟨(some 50), (.mv (.t 5)), none⟩, ⟨(some 51), (.faddr 7 (.t 2)), none⟩, ⟨(some 52), (.load false 1 (.t 51)), none⟩, ⟨(some 53), (.len false (.t 52)), none⟩, ⟨(some 54), (.bin .lss (.t 50) (.t 53)), none⟩] false) (.cond (.t 54) .skip (.exit 0))) (.seq (.block 1 (.seq (.region [⟨(some 57), (.faddr 7 (.t 2)), none⟩, ⟨(some 58), (.load false 1 (.t 57)), none⟩, ⟨(some 59), (.mv (.t 5)), none⟩, ⟨(some 60), (.iaddr 8 (.t 58) (.t 59)), none⟩, ⟨(some 61), (.load true 8 (.t 60)), none⟩, ⟨(some 62), (.faddr 7 (.t 3)), none⟩, ⟨(some 63), (.load false 1 (.t 62)), none⟩, ⟨(some 64), (.mv (.t 5)), none⟩, ⟨(some 65), (.iaddr 8 (.t 63) (.t 64)), none⟩, ⟨(some 66), (.load true 8 (.t 65)), none⟩, ⟨(some 67), (.call 52 [(.t 61), (.t 66)]), none⟩, ⟨(some 68), (.un .not (.t 67)), none⟩] true) (.cond (.t 68) (.seq (.region [⟨(some 4), (.mv (.c (.bool false))), none⟩] false) .ret) .skip))) (.region [⟨(some 55), (.mv (.t 5)), none⟩, ⟨(some 56), (.bin .add (.t 55) (.c (.int .i64 1))), none⟩, ⟨(some 5), (.mv (.t 56)), none⟩] false)))))) (.seq (.region [⟨(some 4), (.mv (.c (.bool true))), none⟩] false) .ret))))
theorem un_take (u : Un) : u.enc.take 8 = u.enc := List.take_of_length_le (by rw [rd.un_len]; exact Nat.le_refl _)
theorem un_size {u : Un} {k : Nat} (h : k < u.kids.length) : SizeOf.sizeOf u.kids[k] < SizeOf.sizeOf u := by
  match u, h with
  | .mk a i n kd l hd w ks, h =>
    have h1 : SizeOf.sizeOf ks[k] < SizeOf.sizeOf ks := List.sizeOf_lt_of_mem (List.getElem_mem h)
    rw [Un.mk.sizeOf_spec]
    show SizeOf.sizeOf ks[k] < _
    omega
theorem un_eq {a b : Un} (q1 : a.act = b.act) (q2 : a.item = b.item) (q3 : a.n = b.n) (q4 : a.kind = b.kind) (q5 : a.label = b.label) (q6 : a.head = b.head) (q7 : a.words = b.words) (q8 : a.kids = b.kids) : a = b := by
  cases a; cases b; simp_all [Un.act, Un.item, Un.n, Un.kind, Un.label, Un.head, Un.words, Un.kids]
theorem un_ok_kids {u : Un} (h : u.ok) : u.kids.length ≤ maxLen ∧ ∀ k ∈ u.kids, k.ok := by cases h; exact ⟨by assumption, by assumption⟩
theorem un_ok_head {u : Un} (h : u.ok) : u.head.length ≤ maxLen := by
  cases h with
  | mk _ _ _ _ _ _ h6 => exact h6.1
theorem un_ok_words {u : Un} (h : u.ok) : u.words.length ≤ maxLen := by
  cases h with
  | mk _ _ _ _ _ _ _ h7 => exact h7.1
theorem sp52 (a b : Un) (ha : a.ok) (hb : b.ok) : PCall Try.prog 52 [.agg a.enc, .agg b.enc] (.bool (eqB a b)) := by
  have ea := Un.enc_eq a
  have eb := Un.enc_eq b
  refine PCall_intro ?_ (Closed.of_scalar (scalar_bool _)) (by simp only [ClosedL, List.mem_cons, List.not_mem_nil, or_false, forall_eq_or_imp, forall_eq, false_implies, implies_true]; repeat' (first | exact cI _ | exact cS _ | exact cB _ | exact closed_fn0 _ | exact closed_nilsl | exact closed_agg (Un.closed _) | exact closed_agg (It.closed _) | exact closed_agg (EI.closed _) | exact closed_agg (Ac.closed _) | exact closed_agg (Wd.closed _) | exact closed_agg (St.closed _) | exact closed_agg (Sta.closed _) | exact closed_eis _ | exact closed_acs _ | exact closed_gzs _ | exact Closed.of_scalar (scalar_int _ _) | exact closed_ro (Ac.closed _) | exact closed_ro (Gz.closed _) | exact closed_agg (Gz.closed _) | exact closed_strs _ | exact closed_map (fun w _ => Wd.closed w) | exact closed_map (fun w _ => St.closed w) | exact closed_map (fun w _ => Un.closed w) | exact closed_map (fun w _ => It.closed w) | exact closed_sc _ | exact closed_sps _ | exact closed_agg (Sp.closed _) | exact closed_ro (EI.closed _) | exact closed_ro (Sta.closed _) | exact closed_ro (It.closed _) | exact closed_ro (by simp only [List.mem_cons, List.not_mem_nil, or_false, forall_eq]; first | exact cI _ | exact cS _ | exact closed_eis _) | refine And.intro ?_ ?_))
  refine ACall_fn (vc := c52) (ts := [.t 4]) Go.Proofs.Try.func52 (by kernel_rfl) rfl rfl (Nat.le_of_ble_eq_true rfl) (by kernel_rfl) ?_
  unfold c52
  refine VW_seq (VW_region [2, 3] ?_)
  simp only [OpsW_nil, OpsW_n, StepW, pok, pval, VA.ev, Env.get, Env.put, Env.keep, argEnv, thenQ, PV.cells, PV.fits, Heap.push, Heap.nil, Nat.succ_ne_self, List.length, Nat.reduceEqDiff, Nat.reduceAdd, ite_true, ite_false, true_and, reduceCtorEq, BEq.rfl, Nat.zero_add, ea, eb]
  skip
  skip
  refine VW_seq ?_
  refine VW_seqE (σ := {r : Bool // (r = true → a ≠ b) ∧ (r = false → a.act = b.act ∧ a.item = b.item ∧ a.n = b.n ∧ a.kind = b.kind ∧ a.label = b.label ∧ a.head = b.head ∧ a.words = b.words ∧ a.kids.length = b.kids.length)}) [2, 3, 49]
    (fun s => [(2, .loc 0 0 0), (3, .loc 1 0 0), (49, .bool s.1)]) ?_ ?_
  rotate_left
  · rintro ⟨r, hr1, hr0⟩
    simp only []
    refine VW_cond rfl (fun h1 => ?_) (fun h1 => ?_)
    · subst h1
      refine VW_seq (VW_region [4] ?_)
      simp only [OpsW_nil, OpsW_n, StepW, pok, pval, VA.ev, Env.get, Env.put, Env.keep, thenQ, Nat.reduceEqDiff, ite_true, ite_false, true_and]
      refine VW_ret ?_
      try simp only [Env.get, thenQ, retQ, resV, resOk, RS.ev, RS.ok, ite_true, true_and, and_true]
      rw [eqB_f (hr1 rfl)]
      exact View.refl _ _
    subst h1
    obtain ⟨q1, q2, q3, q4, q5, q6, q7, q8⟩ := hr0 rfl
    have hk8 := (un_ok_kids ha).1
    refine VW_skip ?_
    try simp only [thenQ]
    refine VW_seq ?_
    refine VW_seq (VW_region [2, 3, 5] ?_)
    simp only [OpsW_nil, OpsW_n, StepW, pok, pval, VA.ev, Env.get, Env.put, Env.keep, thenQ, Nat.succ_ne_self, Nat.reduceEqDiff, ite_true, ite_false, true_and]
    refine VW_block ?_
    refine VW_loop (σ := { k : Nat // k ≤ a.kids.length ∧ a.kids.take k = b.kids.take k }) (fun s => ([(2, .loc 0 0 0), (3, .loc 1 0 0), (5, pI s.1)], ⟨[(1, .arr false 8 [b.enc]), (0, .arr false 8 [a.enc])], 2⟩)) (fun s => a.kids.length - s.1) ⟨0, by simp⟩ ?_ ?_ ?_
    · simp only [Env.get, Nat.succ_ne_self, Env.le, Nat.reduceEqDiff, ite_true, ite_false, true_and, and_true]
      rfl
    · simp only [Heap.get, Heap.le, HL.get, HL.le, Nat.le_refl, Nat.succ_ne_self, ite_true, ite_false, and_true, reduceCtorEq, ea, eb]
    rintro ⟨k, hk, he⟩
    simp only []
    refine VW_seq ?_
    refine VW_seq (VW_region [2, 3, 5, 54] ?_)
    simp only [OpsW_nil, OpsW_n, StepW, pok, pval, VA.ev, Env.get, Env.put, Env.keep, thenQ, aggV, intV, binV, binOk, lenV, faddrV, isAddr, locCells, locOk, lenOk, PV.nth, PV.row, Heap.get, Heap.le, HL.get, HL.le, Nat.le_refl, Nat.succ_ne_self, Env.le, List.length, List.getD_cons_zero, List.take, List.drop, List.take_succ_cons, List.drop_succ_cons, Nat.reduceEqDiff, Nat.reduceLT, Bool.false_eq_true, ite_true, ite_false, true_and, and_true, implies_true, Nat.zero_add, List.length_cons, ea, eb, List.length_map]
    repeat (with_reducible refine And.intro ?_ ?_; first | omega | (with_reducible constructor <;> omega) | exact False.elim | exact True.intro)
    refine VW_cond rfl (fun h2 => ?_) (fun h2 => ?_)
    · refine VW_skip ?_
      try simp only [thenQ]
      simp only [decide_eq_true_eq] at h2
      have ka : k < a.kids.length := by omega
      have kb : k < b.kids.length := by omega
      refine VW_seq ?_
      refine VW_block ?_
      refine VW_seq (VW_drawS [2, 3, 5, 68] (by simp [Heap.le, Heap.get, HL.le, HL.get]) ?_)  -- faddr load mv iaddr load faddr load mv iaddr load call un
      simp only [DrawW_nil, DrawW_n, QW, dok, dval, VOp.pure, VOp.simple, VOp.det, pok, pval, VA.ev, Env.get, Env.put, Env.keep, thenQ, gd, aggV, unV, unOk, isInt, numOf, lenV, faddrV, isAddr, locCells, locOk, iaddrV, iaddrOk, PV.nth, PV.row, Heap.get, HL.get, Nat.le_refl, Nat.succ_ne_self, List.length, List.getD_cons_zero, List.take, List.drop, List.take_succ_cons, List.drop_succ_cons, Nat.reduceEqDiff, Nat.reduceLT, Bool.false_eq_true, Bool.true_eq_false, ite_true, ite_false, true_and, and_true, implies_true, forall_const, reduceCtorEq, Nat.zero_add, List.length_cons, imp_self, Int.toNat_natCast, ea, eb, List.length_map, rowm ka, rowm kb, un_take, rd.un_len]
      repeat (with_reducible refine And.intro ?_ ?_; first | omega | (with_reducible constructor <;> omega) | exact False.elim | exact True.intro)
      refine ⟨_, .inl (sp52 _ _ ((un_ok_kids ha).2 _ (List.getElem_mem ka)) ((un_ok_kids hb).2 _ (List.getElem_mem kb))), ?_⟩
      try simp only [true_and]
      refine VW_cond rfl (fun h3 => ?_) (fun h3 => ?_)
      · refine VW_seq (VW_region [4] ?_)
        simp only [OpsW_nil, OpsW_n, StepW, pok, pval, VA.ev, Env.get, Env.put, Env.keep, thenQ, Nat.succ_ne_self, Nat.reduceEqDiff, ite_true, ite_false, true_and]
        refine VW_ret ?_
        try simp only [Env.get, thenQ, blockQ, retQ, resV, resOk, RS.ev, RS.ok, ite_true, true_and, and_true]
        have h4 : a.kids[k] ≠ b.kids[k] := fun e => by rw [e] at h3; simp [eqB] at h3
        have h5 : a ≠ b := fun e => get_ne ka kb h4 (by rw [e])
        rw [eqB_f h5]
        exact View.refl _ _
      have h4 : a.kids[k] = b.kids[k] := by simpa [eqB] using h3
      refine VW_skip ?_
      try simp only [thenQ, blockQ]
      refine VW_region [2, 3, 5] ?_
      simp only [OpsW_nil, OpsW_n, StepW, pok, pval, VA.ev, Env.get, Env.put, Env.keep, thenQ, intV, binV, binOk, HL.get, Nat.le_refl, Nat.succ_ne_self, Nat.reduceEqDiff, ite_true, ite_false, true_and, and_true, reduceCtorEq, w64 (n := (k : Int) + 1) (by omega) (by have : a.kids.length ≤ 9223372036854775807 := hk8; omega)]
      refine ⟨⟨k + 1, by omega, take_step he ka kb h4⟩, ?_, ?_⟩
      · simp
      · simp [ea, eb]; omega
    · simp only [decide_eq_false_iff_not] at h2
      obtain rfl : k = a.kids.length := by omega
      refine VW_exit ?_
      try simp only [thenQ, blockQ, retQ, ite_true]
      refine VW_seq (VW_region [4] ?_)
      simp only [OpsW_nil, OpsW_n, StepW, pok, pval, VA.ev, Env.get, Env.put, Env.keep, thenQ, Nat.succ_ne_self, Nat.reduceEqDiff, ite_true, ite_false, true_and]
      refine VW_ret ?_
      try simp only [Env.get, retQ, resV, resOk, RS.ev, RS.ok, ite_true, true_and, and_true]
      rw [eqB_t (un_eq q1 q2 q3 q4 q5 q6 q7 (take_all q8 he))]
      exact View.refl _ _
  simp only [OpsW_n, StepW, pok, pval, VA.ev, Env.get, Env.put, Env.keep, aggV, faddrV, isAddr, locCells, locOk, cellsOfAgg, isAggP, PV.nth, PV.row, Heap.get, HL.get, Nat.succ_ne_self, Env.le, eqOk, ekOk, eqCells, eqCell, List.length, List.getD_cons_zero, List.take, List.drop, List.take_succ_cons, Nat.reduceEqDiff, Nat.reduceAdd, Nat.reduceLT, Nat.reduceLeDiff, Bool.true_eq_false, ite_true, ite_false, true_and, and_true, ne_eq, reduceCtorEq, Nat.zero_add, Nat.add_zero, List.length_cons, imp_self]
  repeat (with_reducible refine And.intro ?_ ?_; first | omega | (with_reducible constructor <;> omega) | exact False.elim | exact True.intro)
  refine OpsW_split rfl (fun g1 => ?_) (fun g1 => ?_)
  rotate_left
  · simp only [OpsW_nil, OpsW_n, OpsW_xf, StepW, pok, pval, VA.ev, Env.get, Env.put, pickV, isBool, Nat.succ_ne_self, Nat.reduceEqDiff, ite_true, ite_false, true_and, and_true, Bool.not_false, g1, ]
    refine ⟨⟨true, fun _ e => ?_, fun h => by cases h⟩, by simp⟩
    subst e; simp [eqB] at g1
  simp only [OpsW_n, OpsW_y, StepW, pok, pval, VA.ev, Env.get, Env.put, pickV, isBool, aggV, intV, binV, binOk, faddrV, isAddr, locCells, locOk, PV.nth, PV.row, Heap.get, HL.get, Nat.succ_ne_self, List.length, List.getD_cons_zero, List.take, List.drop, List.take_succ_cons, List.drop_succ_cons, Nat.reduceEqDiff, Nat.reduceAdd, Nat.reduceLT, Nat.reduceLeDiff, Bool.false_eq_true, ite_true, ite_false, true_and, and_true, implies_true, reduceCtorEq, Nat.zero_add, List.length_cons, g1, ]
  repeat (with_reducible refine And.intro ?_ ?_; first | omega | (with_reducible constructor <;> omega) | exact False.elim | exact True.intro)
  refine OpsW_split rfl (fun g2 => ?_) (fun g2 => ?_)
  rotate_left
  · simp only [OpsW_nil, OpsW_n, OpsW_xf, StepW, pok, pval, VA.ev, Env.get, Env.put, pickV, isBool, Nat.succ_ne_self, Nat.reduceEqDiff, ite_true, ite_false, true_and, and_true, Bool.not_false, g2, ]
    refine ⟨⟨true, fun _ e => ?_, fun h => by cases h⟩, by simp⟩
    subst e; simp [eqB] at g2
  simp only [OpsW_n, OpsW_y, StepW, pok, pval, VA.ev, Env.get, Env.put, pickV, isBool, aggV, binV, binOk, strV, faddrV, isAddr, locCells, locOk, PV.nth, PV.row, Heap.get, HL.get, Nat.succ_ne_self, List.length, List.getD_cons_zero, List.take, List.drop, List.take_succ_cons, List.drop_succ_cons, Nat.reduceEqDiff, Nat.reduceAdd, Nat.reduceLT, Nat.reduceLeDiff, Bool.false_eq_true, ite_true, ite_false, true_and, and_true, implies_true, reduceCtorEq, Nat.zero_add, List.length_cons, g2, ]
  repeat (with_reducible refine And.intro ?_ ?_; first | omega | (with_reducible constructor <;> omega) | exact False.elim | exact True.intro)
  refine OpsW_split rfl (fun g3 => ?_) (fun g3 => ?_)
  rotate_left
  · simp only [OpsW_nil, OpsW_n, OpsW_xf, StepW, pok, pval, VA.ev, Env.get, Env.put, pickV, isBool, Nat.succ_ne_self, Nat.reduceEqDiff, ite_true, ite_false, true_and, and_true, Bool.not_false, g3, ]
    refine ⟨⟨true, fun _ e => ?_, fun h => by cases h⟩, by simp⟩
    subst e; simp [eqB] at g3
  simp only [OpsW_n, OpsW_y, StepW, pok, pval, VA.ev, Env.get, Env.put, pickV, isBool, aggV, unV, unOk, faddrV, isAddr, locCells, locOk, PV.nth, PV.row, Heap.get, HL.get, Nat.succ_ne_self, List.map, List.length, List.getD_cons_zero, List.take, List.drop, List.take_succ_cons, List.drop_succ_cons, Nat.reduceEqDiff, Nat.reduceAdd, Nat.reduceLT, Nat.reduceLeDiff, Bool.false_eq_true, ite_true, ite_false, true_and, and_true, implies_true, reduceCtorEq, Nat.zero_add, List.length_cons, g3, ]
  repeat (with_reducible refine And.intro ?_ ?_; first | omega | (with_reducible constructor <;> omega) | exact False.elim | exact True.intro)
  refine ACall_p (sp61 _ _ (un_ok_head ha)) ?_
  try simp only [true_and]
  refine OpsW_split rfl (fun g4 => ?_) (fun g4 => ?_)
  rotate_left
  · simp only [OpsW_nil, OpsW_n, OpsW_xf, StepW, pok, pval, VA.ev, Env.get, Env.put, pickV, isBool, Nat.succ_ne_self, Nat.reduceEqDiff, ite_true, ite_false, true_and, and_true, Bool.not_false, g4, ]
    refine ⟨⟨true, fun _ e => ?_, fun h => by cases h⟩, by simp⟩
    subst e; simp [eqB] at g4
  simp only [OpsW_n, OpsW_y, StepW, pok, pval, VA.ev, Env.get, Env.put, pickV, isBool, aggV, unV, unOk, faddrV, isAddr, locCells, locOk, PV.nth, PV.row, Heap.get, HL.get, Nat.succ_ne_self, List.map, List.length, List.getD_cons_zero, List.take, List.drop, List.take_succ_cons, List.drop_succ_cons, Nat.reduceEqDiff, Nat.reduceAdd, Nat.reduceLT, Nat.reduceLeDiff, Bool.false_eq_true, ite_true, ite_false, true_and, and_true, implies_true, reduceCtorEq, Nat.zero_add, List.length_cons, g4, ]
  repeat (with_reducible refine And.intro ?_ ?_; first | omega | (with_reducible constructor <;> omega) | exact False.elim | exact True.intro)
  refine ACall_p (sp61 _ _ (un_ok_words ha)) ?_
  try simp only [true_and]
  refine OpsW_split rfl (fun g5 => ?_) (fun g5 => ?_)
  rotate_left
  · simp only [OpsW_nil, OpsW_n, OpsW_xf, StepW, pok, pval, VA.ev, Env.get, Env.put, pickV, isBool, Nat.succ_ne_self, Nat.reduceEqDiff, ite_true, ite_false, true_and, and_true, Bool.not_false, g5, ]
    refine ⟨⟨true, fun _ e => ?_, fun h => by cases h⟩, by simp⟩
    subst e; simp [eqB] at g5
  simp only [OpsW_nil, OpsW_n, OpsW_y, StepW, pok, pval, VA.ev, Env.get, Env.put, pickV, isBool, aggV, intV, binV, binOk, lenV, faddrV, isAddr, locCells, locOk, lenOk, PV.nth, PV.row, Heap.get, HL.get, Nat.le_refl, Nat.succ_ne_self, List.length, List.getD_cons_zero, List.take, List.drop, List.take_succ_cons, List.drop_succ_cons, Nat.reduceEqDiff, Nat.reduceLT, Bool.false_eq_true, ite_true, ite_false, true_and, and_true, implies_true, reduceCtorEq, Nat.zero_add, List.length_cons, g5, ]
  repeat (with_reducible refine And.intro ?_ ?_; first | omega | (with_reducible constructor <;> omega) | exact False.elim | exact True.intro)
  refine ⟨⟨(a.kids.length : Int) != b.kids.length, fun h e => ?_, fun h => ?_⟩, ?_⟩
  · subst e; simp at h
  · simp [eqB] at g1 g2 g3 g4 g5 h
    exact ⟨g1.1, g1.2.1, g1.2.2, g2, g3, g4, g5, by omega⟩
  · simp
termination_by SizeOf.sizeOf a
decreasing_by exact un_size ka
end Go.Proofs.Ytcjaojhbebpokaa.w


namespace Go.Proofs.Ytcjaojhbebpokaa.w
open Go Go.VM
set_option maxRecDepth 20000
set_option maxHeartbeats 0
def c28 : VC := (.seq (.region [⟨(some 2), (.box 25 (.t 0)), none⟩, ⟨(some 3), (.box 25 (.t 1)), none⟩, ⟨(some 4), (.mv (.c (.bool false))), none⟩] false) (.seq (.seq (.region [⟨(some 6), (.faddr 0 (.t 2)), none⟩, ⟨(some 7), (.load false 1 (.t 6)), none⟩, ⟨(some 8), (.faddr 0 (.t 3)), none⟩, ⟨(some 9), (.load false 1 (.t 8)), none⟩, ⟨(some 10), (.bin .neq (.t 7) (.t 9)), none⟩, ⟨(some 11), (.mv (.t 10)), none⟩, ⟨(some 12), (.faddr 3 (.t 2)), (some (11, false))⟩, ⟨(some 13), (.load false 1 (.t 12)), (some (11, false))⟩, ⟨(some 14), (.faddr 3 (.t 3)), (some (11, false))⟩, ⟨(some 15), (.load false 1 (.t 14)), (some (11, false))⟩, ⟨(some 16), (.bin .neq (.t 13) (.t 15)), (some (11, false))⟩, ⟨(some 17), (.pick (.t 11) (.c (.bool true)) (.t 16)), none⟩, ⟨(some 18), (.mv (.t 17)), none⟩, ⟨(some 19), (.faddr 4 (.t 2)), (some (18, false))⟩, ⟨(some 20), (.load false 1 (.t 19)), (some (18, false))⟩, ⟨(some 21), (.faddr 4 (.t 3)), (some (18, false))⟩, ⟨(some 22), (.load false 1 (.t 21)), (some (18, false))⟩, ⟨(some 23), (.bin .neq (.t 20) (.t 22)), (some (18, false))⟩, ⟨(some 24), (.pick (.t 18) (.c (.bool true)) (.t 23)), none⟩, ⟨(some 25), (.mv (.t 24)), none⟩, ⟨(some 26), (.faddr 15 (.t 2)), (some (25, false))⟩, ⟨(some 27), (.load false 1 (.t 26)), (some (25, false))⟩, ⟨(some 28), (.faddr 15 (.t 3)), (some (25, false))⟩, ⟨(some 29), (.load false 1 (.t 28)), (some (25, false))⟩, ⟨(some 30), (.bin .neq (.t 27) (.t 29)), (some (25, false))⟩, ⟨(some 31), (.pick (.t 25) (.c (.bool true)) (.t 30)), none⟩, ⟨(some 32), (.mv (.t 31)), none⟩, ⟨(some 33), (.faddr 16 (.t 2)), (some (32, false))⟩, ⟨(some 34), (.load false 1 (.t 33)), (some (32, false))⟩, ⟨(some 35), (.faddr 16 (.t 3)), (some (32, false))⟩, ⟨(some 36), (.load false 1 (.t 35)), (some (32, false))⟩, ⟨(some 37), (.bin .neq (.t 34) (.t 36)), (some (32, false))⟩, ⟨(some 38), (.pick (.t 32) (.c (.bool true)) (.t 37)), none⟩, ⟨(some 39), (.mv (.t 38)), none⟩, ⟨(some 40), (.faddr 17 (.t 2)), (some (39, false))⟩, ⟨(some 41), (.load true 3 (.t 40)), (some (39, false))⟩, ⟨(some 42), (.faddr 17 (.t 3)), (some (39, false))⟩, ⟨(some 43), (.load true 3 (.t 42)), (some (39, false))⟩, ⟨(some 44), (.eqs true [.i, .i, .s] (.t 41) (.t 43)), (some (39, false))⟩, ⟨(some 45), (.pick (.t 39) (.c (.bool true)) (.t 44)), none⟩, ⟨(some 46), (.mv (.t 45)), none⟩, ⟨(some 47), (.faddr 20 (.t 2)), (some (46, false))⟩, ⟨(some 48), (.load false 1 (.t 47)), (some (46, false))⟩, ⟨(some 49), (.faddr 20 (.t 3)), (some (46, false))⟩, ⟨(some 50), (.load false 1 (.t 49)), (some (46, false))⟩, ⟨(some 51), (.bin .neq (.t 48) (.t 50)), (some (46, false))⟩, ⟨(some 52), (.pick (.t 46) (.c (.bool true)) (.t 51)), none⟩, ⟨(some 53), (.mv (.t 52)), none⟩, ⟨(some 54), (.faddr 21 (.t 2)), (some (53, false))⟩, ⟨(some 55), (.load false 1 (.t 54)), (some (53, false))⟩, ⟨(some 56), (.faddr 21 (.t 3)), (some (53, false))⟩, ⟨(some 57), (.load false 1 (.t 56)), (some (53, false))⟩, ⟨(some 58), (.bin .neq (.t 55) (.t 57)), (some (53, false))⟩, ⟨(some 59), (.pick (.t 53) (.c (.bool true)) (.t 58)), none⟩, ⟨(some 60), (.mv (.t 59)), none⟩, ⟨(some 61), (.faddr 22 (.t 2)), (some (60, false))⟩, ⟨(some 62), (.load false 1 (.t 61)), (some (60, false))⟩, ⟨(some 63), (.faddr 22 (.t 3)), (some (60, false))⟩, ⟨(some 64), (.load false 1 (.t 63)), (some (60, false))⟩, ⟨(some 65), (.bin .neq (.t 62) (.t 64)), (some (60, false))⟩, ⟨(some 66), (.pick (.t 60) (.c (.bool true)) (.t 65)), none⟩, ⟨(some 67), (.mv (.t 66)), none⟩, ⟨(some 68), (.faddr 23 (.t 2)), (some (67, false))⟩, ⟨(some 69), (.load false 1 (.t 68)), (some (67, false))⟩, ⟨(some 70), (.faddr 23 (.t 3)), (some (67, false))⟩, ⟨(some 71), (.load false 1 (.t 70)), (some (67, false))⟩, ⟨(some 72), (.bin .neq (.t 69) (.t 71)), (some (67, false))⟩, ⟨(some 73), (.pick (.t 67) (.c (.bool true)) (.t 72)), none⟩] false) (.cond (.t 73) (.seq (.region [⟨(some 4), (.mv (.c (.bool false))), none⟩] false) .ret) .skip)) (.seq (.seq (.region [⟨(some 74), (.faddr 1 (.t 2)), none⟩, ⟨(some 75), (.load false 1 (.t 74)), none⟩, ⟨(some 76), (.faddr 1 (.t 3)), none⟩, ⟨(some 77), (.load false 1 (.t 76)), none⟩, ⟨(some 78), (.call 50 [(.t 75), (.t 77)]), none⟩, ⟨(some 79), (.un .not (.t 78)), none⟩, ⟨(some 80), (.mv (.t 79)), none⟩, ⟨(some 81), (.faddr 2 (.t 2)), (some (80, false))⟩, ⟨(some 82), (.load false 1 (.t 81)), (some (80, false))⟩, ⟨(some 83), (.faddr 2 (.t 3)), (some (80, false))⟩, ⟨(some 84), (.load false 1 (.t 83)), (some (80, false))⟩, ⟨(some 85), (.call 50 [(.t 82), (.t 84)]), (some (80, false))⟩, ⟨(some 86), (.un .not (.t 85)), (some (80, false))⟩, ⟨(some 87), (.pick (.t 80) (.c (.bool true)) (.t 86)), none⟩, ⟨(some 88), (.mv (.t 87)), none⟩, ⟨(some 89), (.faddr 13 (.t 2)), (some (88, false))⟩, ⟨(some 90), (.load false 1 (.t 89)), (some (88, false))⟩, ⟨(some 91), (.faddr 13 (.t 3)), (some (88, false))⟩, ⟨(some 92), (.load false 1 (.t 91)), (some (88, false))⟩, ⟨(some 93), (.call 51 [(.t 90), (.t 92)]), (some (88, false))⟩, ⟨(some 94), (.un .not (.t 93)), (some (88, false))⟩, ⟨(some 95), (.pick (.t 88) (.c (.bool true)) (.t 94)), none⟩, ⟨(some 96), (.mv (.t 95)), none⟩, ⟨(some 97), (.faddr 14 (.t 2)), (some (96, false))⟩, ⟨(some 98), (.load false 1 (.t 97)), (some (96, false))⟩, ⟨(some 99), (.faddr 14 (.t 3)), (some (96, false))⟩, ⟨(some 100), (.load false 1 (.t 99)), (some (96, false))⟩, ⟨(some 101), (.call 51 [(.t 98), (.t 100)]), (some (96, false))⟩, ⟨(some 102), (.un .not (.t 101)), (some (96, false))⟩, ⟨(some 103), (.pick (.t 96) (.c (.bool true)) (.t 102)), none⟩, ⟨(some 104), (.mv (.t 103)), none⟩, ⟨(some 105), (.faddr 5 (.t 2)), (some (104, false))⟩, ⟨(some 106), (.load true 8 (.t 105)), (some (104, false))⟩, ⟨(some 107), (.faddr 5 (.t 3)), (some (104, false))⟩, ⟨(some 108), (.load true 8 (.t 107)), (some (104, false))⟩, ⟨(some 109), (.call 52 [(.t 106), (.t 108)]), (some (104, false))⟩, ⟨(some 110), (.un .not (.t 109)), (some (104, false))⟩, ⟨(some 111), (.pick (.t 104) (.c (.bool true)) (.t 110)), none⟩, ⟨(some 112), (.mv (.t 111)), none⟩, ⟨(some 113), (.faddr 24 (.t 2)), (some (112, false))⟩, ⟨(some 114), (.load false 1 (.t 113)), (some (112, false))⟩, ⟨(some 115), (.len false (.t 114)), (some (112, false))⟩, ⟨(some 116), (.faddr 24 (.t 3)), (some (112, false))⟩, ⟨(some 117), (.load false 1 (.t 116)), (some (112, false))⟩, ⟨(some 118), (.len false (.t 117)), (some (112, false))⟩, ⟨(some 119), (.bin .neq (.t 115) (.t 118)), (some (112, false))⟩, ⟨(some 120), (.pick (.t 112) (.c (.bool true)) (.t 119)), none⟩] false) (.cond (.t 120) (.seq (.region [⟨(some 4), (.mv (.c (.bool false))), none⟩] false) .ret) .skip)) (.seq (.seq (.region [⟨(some 5), (.mv (.c (.int .i64 0))), none⟩] false) (.block 0 (.loop (.seq (.seq (.region [⟨(some 121), (.mv (.t 5)), none⟩, ⟨(some 122), (.faddr 24 (.t 2)), none⟩, ⟨(some 123), (.load false 1 (.t 122)), none⟩, ⟨(some 124), (.len false (.t 123)), none⟩, ⟨(some 125), (.bin .lss (.t 121) (.t 124)), none⟩] false) (.cond (.t 125) .skip (.exit 0))) (.seq (.block 1 (.seq (.region [⟨(some 128), (.faddr 24 (.t 2)), none⟩, ⟨(some 129), (.load false 1 (.t 128)), none⟩, ⟨(some 130), (.mv (.t 5)), none⟩, ⟨(some 131), (.iaddr 25 (.t 129) (.t 130)), none⟩, ⟨(some 132), (.load true 25 (.t 131)), none⟩, ⟨(some 133), (.faddr 24 (.t 3)), none⟩, ⟨(some 134), (.load false 1 (.t 133)), none⟩, ⟨(some 135), (.mv (.t 5)), none⟩, ⟨(some 136), (.iaddr 25 (.t 134) (.t 135)), none⟩, ⟨(some 137), (.load true 25 (.t 136)), none⟩, ⟨(some 138), (.call 28 [(.t 132), (.t 137)]), none⟩, ⟨(some 139), (.un .not (.t 138)), none⟩] true) (.cond (.t 139) (.seq (.region [⟨(some 4), (.mv (.c (.bool false))), none⟩] false) .ret) .skip))) (.region [⟨(some 126), (.mv (.t 5)), none⟩, ⟨(some 127), (.bin .add (.t 126) (.c (.int .i64 1))), none⟩, ⟨(some 5), (.mv (.t 127)), none⟩] false)))))) (.seq (.region [⟨(some 4), (.mv (.c (.bool true))), none⟩] false) .ret)))))
structure ItOk (x : It) : Prop where
  at' : x.at'.length ≤ maxLen
  to : x.to.length ≤ maxLen
  unit : x.unit.ok
  old : x.old.length ≤ maxLen
  new : x.new.length ≤ maxLen
  len : x.by'.length ≤ maxLen
  by' : ∀ k ∈ x.by', k.ok
theorem it_ok {x : It} (h : x.ok) : ItOk x := by
  cases h with
  | mk _ h1 h2 h3 h4 h5 h6 h7 h8 h9 h10 h11 h12 h13 h14 h15 h16 h17 => exact ⟨h2.1, h3.1, h6, h7.1, h8.1, h16, h17⟩
theorem it_take (u : It) : u.enc.take 25 = u.enc := List.take_of_length_le (by rw [It.enc_len]; exact Nat.le_refl _)
theorem it_size {u : It} {k : Nat} (h : k < u.by'.length) : SizeOf.sizeOf u.by'[k] < SizeOf.sizeOf u := by
  match u, h with
  | .mk k1 a t w n u o e l f s ac it d ev b, h =>
    have h1 : SizeOf.sizeOf b[k] < SizeOf.sizeOf b := List.sizeOf_lt_of_mem (List.getElem_mem h)
    rw [It.mk.sizeOf_spec]
    show SizeOf.sizeOf b[k] < _
    omega
/-- The fields but By. -/
def It.flat (a b : It) : Prop := a.kind = b.kind ∧ a.wher = b.wher ∧ a.nth = b.nth ∧ a.label = b.label ∧ a.forr = b.forr ∧ a.start = b.start ∧ a.act = b.act ∧ a.item = b.item ∧ a.day = b.day ∧ a.event = b.event
def It.deep (a b : It) : Prop := a.at' = b.at' ∧ a.to = b.to ∧ a.old = b.old ∧ a.new = b.new ∧ a.unit = b.unit ∧ a.by'.length = b.by'.length
theorem it_eq {a b : It} (h1 : It.flat a b) (h2 : It.deep a b) (h3 : a.by' = b.by') : a = b := by
  obtain ⟨q1, q2, q3, q4, q5, q6, q7, q8, q9, q10⟩ := h1
  obtain ⟨p1, p2, p3, p4, p5, p6⟩ := h2
  cases a; cases b; simp_all [It.kind, It.wher, It.nth, It.label, It.forr, It.start, It.act, It.item, It.day, It.event, It.at', It.to, It.old, It.new, It.unit, It.by']
theorem sta_ext {a b : Sta} (h1 : a.kind = b.kind) (h2 : a.day = b.day) (h3 : a.event = b.event) : a = b := by cases a; cases b; simp_all
theorem sp28 (a b : It) (ha : a.ok) (hb : b.ok) : PCall Try.prog 28 [.agg a.enc, .agg b.enc] (.bool (eqB a b)) := by
  have ea := It.enc_eq a
  have eb := It.enc_eq b
  have oa := it_ok ha
  have ob := it_ok hb
  have hu := sp52 a.unit b.unit oa.unit ob.unit
  rw [Un.enc_eq a.unit, Un.enc_eq b.unit] at hu
  refine PCall_intro ?_ (Closed.of_scalar (scalar_bool _)) (by simp only [ClosedL, List.mem_cons, List.not_mem_nil, or_false, forall_eq_or_imp, forall_eq, false_implies, implies_true]; repeat' (first | exact cI _ | exact cS _ | exact cB _ | exact closed_fn0 _ | exact closed_nilsl | exact closed_agg (Un.closed _) | exact closed_agg (It.closed _) | exact closed_agg (EI.closed _) | exact closed_agg (Ac.closed _) | exact closed_agg (Wd.closed _) | exact closed_agg (St.closed _) | exact closed_agg (Sta.closed _) | exact closed_eis _ | exact closed_acs _ | exact closed_gzs _ | exact Closed.of_scalar (scalar_int _ _) | exact closed_ro (Ac.closed _) | exact closed_ro (Gz.closed _) | exact closed_agg (Gz.closed _) | exact closed_strs _ | exact closed_map (fun w _ => Wd.closed w) | exact closed_map (fun w _ => St.closed w) | exact closed_map (fun w _ => Un.closed w) | exact closed_map (fun w _ => It.closed w) | exact closed_sc _ | exact closed_sps _ | exact closed_agg (Sp.closed _) | exact closed_ro (EI.closed _) | exact closed_ro (Sta.closed _) | exact closed_ro (It.closed _) | exact closed_ro (by simp only [List.mem_cons, List.not_mem_nil, or_false, forall_eq]; first | exact cI _ | exact cS _ | exact closed_eis _) | refine And.intro ?_ ?_))
  refine ACall_fn (vc := c28) (ts := [.t 4]) Go.Proofs.Try.func28 (by kernel_rfl) rfl rfl (Nat.le_of_ble_eq_true rfl) (by kernel_rfl) ?_
  unfold c28
  refine VW_seq (VW_region [2, 3] ?_)
  simp only [OpsW_nil, OpsW_n, StepW, pok, pval, VA.ev, Env.get, Env.put, Env.keep, argEnv, thenQ, PV.cells, PV.fits, Heap.push, Heap.nil, Nat.succ_ne_self, List.length, Nat.reduceEqDiff, Nat.reduceAdd, ite_true, ite_false, true_and, reduceCtorEq, BEq.rfl, Nat.zero_add, ea, eb]
  skip
  skip
  refine VW_seq ?_
  refine VW_seqE (σ := {r : Bool // (r = true → a ≠ b) ∧ (r = false → It.flat a b)}) [2, 3, 73] (fun s => [(2, .loc 0 0 0), (3, .loc 1 0 0), (73, .bool s.1)]) ?_ ?_
  · simp only [OpsW_n, StepW, pok, pval, VA.ev, Env.get, Env.put, Env.keep, aggV, intV, binV, binOk, faddrV, isAddr, locCells, locOk, PV.nth, PV.row, Heap.get, HL.get, Nat.succ_ne_self, Env.le, List.length, List.getD_cons_zero, List.take, List.drop, List.take_succ_cons, Nat.reduceEqDiff, Nat.reduceAdd, Nat.reduceLT, Nat.reduceLeDiff, Bool.false_eq_true, ite_true, ite_false, true_and, and_true, implies_true, ne_eq, reduceCtorEq, Nat.zero_add, Nat.add_zero, List.length_cons]
    repeat (with_reducible refine And.intro ?_ ?_; first | omega | (with_reducible constructor <;> omega) | exact False.elim | exact True.intro)
    refine OpsW_split rfl (fun g1 => ?_) (fun g1 => ?_)
    rotate_left
    · simp only [OpsW_nil, OpsW_n, OpsW_xf, StepW, pok, pval, VA.ev, Env.get, Env.put, pickV, isBool, Nat.succ_ne_self, Nat.reduceEqDiff, ite_true, ite_false, true_and, and_true, Bool.not_false, g1, ]
      refine ⟨⟨true, fun _ e => ?_, fun h => by cases h⟩, by simp⟩
      subst e; simp [eqB] at g1
    simp only [OpsW_n, OpsW_y, StepW, pok, pval, VA.ev, Env.get, Env.put, pickV, isBool, aggV, intV, binV, binOk, faddrV, isAddr, locCells, locOk, PV.nth, PV.row, Heap.get, HL.get, Nat.succ_ne_self, List.length, List.getD_cons_zero, List.take, List.drop, List.take_succ_cons, List.drop_succ_cons, Nat.reduceEqDiff, Nat.reduceAdd, Nat.reduceLT, Nat.reduceLeDiff, Bool.false_eq_true, ite_true, ite_false, true_and, and_true, implies_true, reduceCtorEq, Nat.zero_add, List.length_cons, g1, ]
    repeat (with_reducible refine And.intro ?_ ?_; first | omega | (with_reducible constructor <;> omega) | exact False.elim | exact True.intro)
    refine OpsW_split rfl (fun g2 => ?_) (fun g2 => ?_)
    rotate_left
    · simp only [OpsW_nil, OpsW_n, OpsW_xf, StepW, pok, pval, VA.ev, Env.get, Env.put, pickV, isBool, Nat.succ_ne_self, Nat.reduceEqDiff, ite_true, ite_false, true_and, and_true, Bool.not_false, g2, ]
      refine ⟨⟨true, fun _ e => ?_, fun h => by cases h⟩, by simp⟩
      subst e; simp [eqB] at g2
    simp only [OpsW_n, OpsW_y, StepW, pok, pval, VA.ev, Env.get, Env.put, pickV, isBool, aggV, intV, binV, binOk, faddrV, isAddr, locCells, locOk, PV.nth, PV.row, Heap.get, HL.get, Nat.succ_ne_self, List.length, List.getD_cons_zero, List.take, List.drop, List.take_succ_cons, List.drop_succ_cons, Nat.reduceEqDiff, Nat.reduceAdd, Nat.reduceLT, Nat.reduceLeDiff, Bool.false_eq_true, ite_true, ite_false, true_and, and_true, implies_true, reduceCtorEq, Nat.zero_add, List.length_cons, g2, ]
    repeat (with_reducible refine And.intro ?_ ?_; first | omega | (with_reducible constructor <;> omega) | exact False.elim | exact True.intro)
    refine OpsW_split rfl (fun g3 => ?_) (fun g3 => ?_)
    rotate_left
    · simp only [OpsW_nil, OpsW_n, OpsW_xf, StepW, pok, pval, VA.ev, Env.get, Env.put, pickV, isBool, Nat.succ_ne_self, Nat.reduceEqDiff, ite_true, ite_false, true_and, and_true, Bool.not_false, g3, ]
      refine ⟨⟨true, fun _ e => ?_, fun h => by cases h⟩, by simp⟩
      subst e; simp [eqB] at g3
    simp only [OpsW_n, OpsW_y, StepW, pok, pval, VA.ev, Env.get, Env.put, pickV, isBool, aggV, binV, binOk, strV, faddrV, isAddr, locCells, locOk, PV.nth, PV.row, Heap.get, HL.get, Nat.succ_ne_self, List.length, List.getD_cons_zero, List.take, List.drop, List.take_succ_cons, List.drop_succ_cons, Nat.reduceEqDiff, Nat.reduceAdd, Nat.reduceLT, Nat.reduceLeDiff, Bool.false_eq_true, ite_true, ite_false, true_and, and_true, implies_true, reduceCtorEq, Nat.zero_add, List.length_cons, g3, ]
    repeat (with_reducible refine And.intro ?_ ?_; first | omega | (with_reducible constructor <;> omega) | exact False.elim | exact True.intro)
    refine OpsW_split rfl (fun g4 => ?_) (fun g4 => ?_)
    rotate_left
    · simp only [OpsW_nil, OpsW_n, OpsW_xf, StepW, pok, pval, VA.ev, Env.get, Env.put, pickV, isBool, Nat.succ_ne_self, Nat.reduceEqDiff, ite_true, ite_false, true_and, and_true, Bool.not_false, g4, ]
      refine ⟨⟨true, fun _ e => ?_, fun h => by cases h⟩, by simp⟩
      subst e; simp [eqB] at g4
    simp only [OpsW_n, OpsW_y, StepW, pok, pval, VA.ev, Env.get, Env.put, pickV, isBool, aggV, binV, binOk, strV, faddrV, isAddr, locCells, locOk, PV.nth, PV.row, Heap.get, HL.get, Nat.succ_ne_self, List.length, List.getD_cons_zero, List.take, List.drop, List.take_succ_cons, List.drop_succ_cons, Nat.reduceEqDiff, Nat.reduceAdd, Nat.reduceLT, Nat.reduceLeDiff, Bool.false_eq_true, ite_true, ite_false, true_and, and_true, implies_true, reduceCtorEq, Nat.zero_add, List.length_cons, g4, ]
    repeat (with_reducible refine And.intro ?_ ?_; first | omega | (with_reducible constructor <;> omega) | exact False.elim | exact True.intro)
    refine OpsW_split rfl (fun g5 => ?_) (fun g5 => ?_)
    rotate_left
    · simp only [OpsW_nil, OpsW_n, OpsW_xf, StepW, pok, pval, VA.ev, Env.get, Env.put, pickV, isBool, Nat.succ_ne_self, Nat.reduceEqDiff, ite_true, ite_false, true_and, and_true, Bool.not_false, g5, ]
      refine ⟨⟨true, fun _ e => ?_, fun h => by cases h⟩, by simp⟩
      subst e; simp [eqB] at g5
    simp only [OpsW_n, OpsW_y, StepW, pok, pval, VA.ev, Env.get, Env.put, pickV, isBool, aggV, faddrV, isAddr, locCells, locOk, cellsOfAgg, isAggP, PV.nth, PV.row, Heap.get, HL.get, Nat.succ_ne_self, eqOk, ekOk, eqCells, eqCell, List.length, List.getD_cons_zero, List.take, List.drop, List.take_succ_cons, List.drop_succ_cons, Nat.reduceEqDiff, Nat.reduceAdd, Nat.reduceLT, Nat.reduceLeDiff, Bool.false_eq_true, Bool.true_eq_false, ite_true, ite_false, true_and, and_true, reduceCtorEq, Nat.zero_add, List.length_cons, imp_self, g5, ]
    repeat (with_reducible refine And.intro ?_ ?_; first | omega | (with_reducible constructor <;> omega) | exact False.elim | exact True.intro)
    refine OpsW_split rfl (fun g6 => ?_) (fun g6 => ?_)
    rotate_left
    · simp only [OpsW_nil, OpsW_n, OpsW_xf, StepW, pok, pval, VA.ev, Env.get, Env.put, pickV, isBool, Nat.succ_ne_self, Nat.reduceEqDiff, ite_true, ite_false, true_and, and_true, Bool.not_false, g6, ]
      refine ⟨⟨true, fun _ e => ?_, fun h => by cases h⟩, by simp⟩
      subst e; simp [eqB] at g6
    simp only [OpsW_n, OpsW_y, StepW, pok, pval, VA.ev, Env.get, Env.put, pickV, isBool, aggV, intV, binV, binOk, faddrV, isAddr, locCells, locOk, PV.nth, PV.row, Heap.get, HL.get, Nat.succ_ne_self, List.length, List.getD_cons_zero, List.take, List.drop, List.take_succ_cons, List.drop_succ_cons, Nat.reduceEqDiff, Nat.reduceAdd, Nat.reduceLT, Nat.reduceLeDiff, Bool.false_eq_true, ite_true, ite_false, true_and, and_true, implies_true, reduceCtorEq, Nat.zero_add, List.length_cons, g6, ]
    repeat (with_reducible refine And.intro ?_ ?_; first | omega | (with_reducible constructor <;> omega) | exact False.elim | exact True.intro)
    refine OpsW_split rfl (fun g7 => ?_) (fun g7 => ?_)
    rotate_left
    · simp only [OpsW_nil, OpsW_n, OpsW_xf, StepW, pok, pval, VA.ev, Env.get, Env.put, pickV, isBool, Nat.succ_ne_self, Nat.reduceEqDiff, ite_true, ite_false, true_and, and_true, Bool.not_false, g7, ]
      refine ⟨⟨true, fun _ e => ?_, fun h => by cases h⟩, by simp⟩
      subst e; simp [eqB] at g7
    simp only [OpsW_n, OpsW_y, StepW, pok, pval, VA.ev, Env.get, Env.put, pickV, isBool, aggV, intV, binV, binOk, faddrV, isAddr, locCells, locOk, PV.nth, PV.row, Heap.get, HL.get, Nat.succ_ne_self, List.length, List.getD_cons_zero, List.take, List.drop, List.take_succ_cons, List.drop_succ_cons, Nat.reduceEqDiff, Nat.reduceAdd, Nat.reduceLT, Nat.reduceLeDiff, Bool.false_eq_true, ite_true, ite_false, true_and, and_true, implies_true, reduceCtorEq, Nat.zero_add, List.length_cons, g7, ]
    repeat (with_reducible refine And.intro ?_ ?_; first | omega | (with_reducible constructor <;> omega) | exact False.elim | exact True.intro)
    refine OpsW_split rfl (fun g8 => ?_) (fun g8 => ?_)
    rotate_left
    · simp only [OpsW_nil, OpsW_n, OpsW_xf, StepW, pok, pval, VA.ev, Env.get, Env.put, pickV, isBool, Nat.succ_ne_self, Nat.reduceEqDiff, ite_true, ite_false, true_and, and_true, Bool.not_false, g8, ]
      refine ⟨⟨true, fun _ e => ?_, fun h => by cases h⟩, by simp⟩
      subst e; simp [eqB] at g8
    simp only [OpsW_n, OpsW_y, StepW, pok, pval, VA.ev, Env.get, Env.put, pickV, isBool, aggV, intV, binV, binOk, faddrV, isAddr, locCells, locOk, PV.nth, PV.row, Heap.get, HL.get, Nat.succ_ne_self, List.length, List.getD_cons_zero, List.take, List.drop, List.take_succ_cons, List.drop_succ_cons, Nat.reduceEqDiff, Nat.reduceAdd, Nat.reduceLT, Nat.reduceLeDiff, Bool.false_eq_true, ite_true, ite_false, true_and, and_true, implies_true, reduceCtorEq, Nat.zero_add, List.length_cons, g8, ]
    repeat (with_reducible refine And.intro ?_ ?_; first | omega | (with_reducible constructor <;> omega) | exact False.elim | exact True.intro)
    refine OpsW_split rfl (fun g9 => ?_) (fun g9 => ?_)
    rotate_left
    · simp only [OpsW_nil, OpsW_n, OpsW_xf, StepW, pok, pval, VA.ev, Env.get, Env.put, pickV, isBool, Nat.succ_ne_self, Nat.reduceEqDiff, ite_true, ite_false, true_and, and_true, Bool.not_false, g9, ]
      refine ⟨⟨true, fun _ e => ?_, fun h => by cases h⟩, by simp⟩
      subst e; simp [eqB] at g9
    simp only [OpsW_nil, OpsW_n, OpsW_y, StepW, pok, pval, VA.ev, Env.get, Env.put, pickV, isBool, aggV, binV, binOk, strV, faddrV, isAddr, locCells, locOk, PV.nth, PV.row, Heap.get, HL.get, Nat.succ_ne_self, List.length, List.getD_cons_zero, List.take, List.drop, List.take_succ_cons, List.drop_succ_cons, Nat.reduceEqDiff, Nat.reduceAdd, Nat.reduceLT, Nat.reduceLeDiff, Bool.false_eq_true, ite_true, ite_false, true_and, and_true, implies_true, reduceCtorEq, Nat.zero_add, List.length_cons, g9, ]
    repeat (with_reducible refine And.intro ?_ ?_; first | omega | (with_reducible constructor <;> omega) | exact False.elim | exact True.intro)
    refine ⟨⟨a.event != b.event, fun h e => ?_, fun h => ?_⟩, ?_⟩
    · subst e; simp at h
    · simp at g1 g2 g3 g4 g5 g6 g7 g8 g9 h
      exact ⟨g1, g2, g3, g4, g5, sta_ext g6.1 g6.2.1 g6.2.2, g7, g8, g9, h⟩
    · simp
  rintro ⟨r, hr1, hr0⟩
  simp only []
  refine VW_cond rfl (fun h1 => ?_) (fun h1 => ?_)
  · subst h1
    refine VW_seq (VW_region [4] ?_)
    simp only [OpsW_nil, OpsW_n, StepW, pok, pval, VA.ev, Env.get, Env.put, Env.keep, thenQ, Nat.reduceEqDiff, ite_true, ite_false, true_and]
    refine VW_ret ?_
    try simp only [Env.get, thenQ, retQ, resV, resOk, RS.ev, RS.ok, ite_true, true_and, and_true]
    rw [eqB_f (hr1 rfl)]
    exact View.refl _ _
  subst h1
  have hflat := hr0 rfl
  refine VW_skip ?_
  try simp only [thenQ]
  refine VW_seq ?_
  refine VW_seqE (σ := {r : Bool // (r = true → a ≠ b) ∧ (r = false → It.deep a b)}) [2, 3, 120] (fun s => [(2, .loc 0 0 0), (3, .loc 1 0 0), (120, .bool s.1)]) ?_ ?_
  · simp only [OpsW_n, StepW, pok, pval, VA.ev, Env.get, Env.put, Env.keep, aggV, unV, unOk, faddrV, isAddr, locCells, locOk, PV.nth, PV.row, Heap.get, HL.get, Nat.succ_ne_self, Env.le, List.map, List.length, List.getD_cons_zero, List.take, List.drop, List.take_succ_cons, List.drop_succ_cons, Nat.reduceEqDiff, Nat.reduceAdd, Nat.reduceLT, Nat.reduceLeDiff, Bool.false_eq_true, ite_true, ite_false, true_and, and_true, implies_true, ne_eq, reduceCtorEq, Nat.zero_add, List.length_cons]
    repeat (with_reducible refine And.intro ?_ ?_; first | omega | (with_reducible constructor <;> omega) | exact False.elim | exact True.intro)
    refine ACall_p (sp50 _ _ oa.at') ?_
    try simp only [true_and]
    refine OpsW_split rfl (fun g1 => ?_) (fun g1 => ?_)
    rotate_left
    · simp only [OpsW_nil, OpsW_n, OpsW_xf, StepW, pok, pval, VA.ev, Env.get, Env.put, pickV, isBool, Nat.succ_ne_self, Nat.reduceEqDiff, ite_true, ite_false, true_and, and_true, Bool.not_false, g1, ]
      refine ⟨⟨true, fun _ e => ?_, fun h => by cases h⟩, by simp⟩
      subst e; simp [eqB] at g1
    simp only [OpsW_n, OpsW_y, StepW, pok, pval, VA.ev, Env.get, Env.put, pickV, isBool, aggV, unV, unOk, faddrV, isAddr, locCells, locOk, PV.nth, PV.row, Heap.get, HL.get, Nat.succ_ne_self, List.map, List.length, List.getD_cons_zero, List.take, List.drop, List.take_succ_cons, List.drop_succ_cons, Nat.reduceEqDiff, Nat.reduceAdd, Nat.reduceLT, Nat.reduceLeDiff, Bool.false_eq_true, ite_true, ite_false, true_and, and_true, implies_true, reduceCtorEq, Nat.zero_add, List.length_cons, g1, ]
    repeat (with_reducible refine And.intro ?_ ?_; first | omega | (with_reducible constructor <;> omega) | exact False.elim | exact True.intro)
    refine ACall_p (sp50 _ _ oa.to) ?_
    try simp only [true_and]
    refine OpsW_split rfl (fun g2 => ?_) (fun g2 => ?_)
    rotate_left
    · simp only [OpsW_nil, OpsW_n, OpsW_xf, StepW, pok, pval, VA.ev, Env.get, Env.put, pickV, isBool, Nat.succ_ne_self, Nat.reduceEqDiff, ite_true, ite_false, true_and, and_true, Bool.not_false, g2, ]
      refine ⟨⟨true, fun _ e => ?_, fun h => by cases h⟩, by simp⟩
      subst e; simp [eqB] at g2
    simp only [OpsW_n, OpsW_y, StepW, pok, pval, VA.ev, Env.get, Env.put, pickV, isBool, aggV, unV, unOk, faddrV, isAddr, locCells, locOk, PV.nth, PV.row, Heap.get, HL.get, Nat.succ_ne_self, List.map, List.length, List.getD_cons_zero, List.take, List.drop, List.take_succ_cons, List.drop_succ_cons, Nat.reduceEqDiff, Nat.reduceAdd, Nat.reduceLT, Nat.reduceLeDiff, Bool.false_eq_true, ite_true, ite_false, true_and, and_true, implies_true, reduceCtorEq, Nat.zero_add, List.length_cons, g2, ]
    repeat (with_reducible refine And.intro ?_ ?_; first | omega | (with_reducible constructor <;> omega) | exact False.elim | exact True.intro)
    refine ACall_p (sp51 _ _ oa.old) ?_
    try simp only [true_and]
    refine OpsW_split rfl (fun g3 => ?_) (fun g3 => ?_)
    rotate_left
    · simp only [OpsW_nil, OpsW_n, OpsW_xf, StepW, pok, pval, VA.ev, Env.get, Env.put, pickV, isBool, Nat.succ_ne_self, Nat.reduceEqDiff, ite_true, ite_false, true_and, and_true, Bool.not_false, g3, ]
      refine ⟨⟨true, fun _ e => ?_, fun h => by cases h⟩, by simp⟩
      subst e; simp [eqB] at g3
    simp only [OpsW_n, OpsW_y, StepW, pok, pval, VA.ev, Env.get, Env.put, pickV, isBool, aggV, unV, unOk, faddrV, isAddr, locCells, locOk, PV.nth, PV.row, Heap.get, HL.get, Nat.succ_ne_self, List.map, List.length, List.getD_cons_zero, List.take, List.drop, List.take_succ_cons, List.drop_succ_cons, Nat.reduceEqDiff, Nat.reduceAdd, Nat.reduceLT, Nat.reduceLeDiff, Bool.false_eq_true, ite_true, ite_false, true_and, and_true, implies_true, reduceCtorEq, Nat.zero_add, List.length_cons, g3, ]
    repeat (with_reducible refine And.intro ?_ ?_; first | omega | (with_reducible constructor <;> omega) | exact False.elim | exact True.intro)
    refine ACall_p (sp51 _ _ oa.new) ?_
    try simp only [true_and]
    refine OpsW_split rfl (fun g4 => ?_) (fun g4 => ?_)
    rotate_left
    · simp only [OpsW_nil, OpsW_n, OpsW_xf, StepW, pok, pval, VA.ev, Env.get, Env.put, pickV, isBool, Nat.succ_ne_self, Nat.reduceEqDiff, ite_true, ite_false, true_and, and_true, Bool.not_false, g4, ]
      refine ⟨⟨true, fun _ e => ?_, fun h => by cases h⟩, by simp⟩
      subst e; simp [eqB] at g4
    simp only [OpsW_n, OpsW_y, StepW, pok, pval, VA.ev, Env.get, Env.put, pickV, isBool, aggV, unV, unOk, faddrV, isAddr, locCells, locOk, PV.nth, PV.row, Heap.get, HL.get, Nat.succ_ne_self, List.map, List.length, List.getD_cons_zero, List.take, List.drop, List.take_succ_cons, List.drop_succ_cons, Nat.reduceEqDiff, Nat.reduceAdd, Nat.reduceLT, Nat.reduceLeDiff, Bool.false_eq_true, Bool.true_eq_false, ite_true, ite_false, true_and, and_true, reduceCtorEq, Nat.zero_add, List.length_cons, imp_self, g4, ]
    repeat (with_reducible refine And.intro ?_ ?_; first | omega | (with_reducible constructor <;> omega) | exact False.elim | exact True.intro)
    refine ACall_p hu ?_
    try simp only [true_and]
    refine OpsW_split rfl (fun g5 => ?_) (fun g5 => ?_)
    rotate_left
    · simp only [OpsW_nil, OpsW_n, OpsW_xf, StepW, pok, pval, VA.ev, Env.get, Env.put, pickV, isBool, Nat.succ_ne_self, Nat.reduceEqDiff, ite_true, ite_false, true_and, and_true, Bool.not_false, g5, ]
      refine ⟨⟨true, fun _ e => ?_, fun h => by cases h⟩, by simp⟩
      subst e; simp [eqB] at g5
    simp only [OpsW_nil, OpsW_n, OpsW_y, StepW, pok, pval, VA.ev, Env.get, Env.put, pickV, isBool, aggV, intV, binV, binOk, lenV, faddrV, isAddr, locCells, locOk, lenOk, PV.nth, PV.row, Heap.get, HL.get, Nat.le_refl, Nat.succ_ne_self, List.length, List.getD_cons_zero, List.take, List.drop, List.take_succ_cons, List.drop_succ_cons, Nat.reduceEqDiff, Nat.reduceLT, Bool.false_eq_true, ite_true, ite_false, true_and, and_true, implies_true, reduceCtorEq, Nat.zero_add, List.length_cons, g5, ]
    repeat (with_reducible refine And.intro ?_ ?_; first | omega | (with_reducible constructor <;> omega) | exact False.elim | exact True.intro)
    refine ⟨⟨(a.by'.length : Int) != b.by'.length, fun h e => ?_, fun h => ?_⟩, ?_⟩
    · subst e; simp at h
    · simp [eqB] at g1 g2 g3 g4 g5 h
      exact ⟨g1, g2, g3, g4, g5, by omega⟩
    · simp
  rintro ⟨r, hr1, hr0⟩
  simp only []
  refine VW_cond rfl (fun h1 => ?_) (fun h1 => ?_)
  · subst h1
    refine VW_seq (VW_region [4] ?_)
    simp only [OpsW_nil, OpsW_n, StepW, pok, pval, VA.ev, Env.get, Env.put, Env.keep, thenQ, Nat.reduceEqDiff, ite_true, ite_false, true_and]
    refine VW_ret ?_
    try simp only [Env.get, thenQ, retQ, resV, resOk, RS.ev, RS.ok, ite_true, true_and, and_true]
    rw [eqB_f (hr1 rfl)]
    exact View.refl _ _
  subst h1
  have hdeep := hr0 rfl
  have hk8 : a.by'.length ≤ 9223372036854775807 := oa.len
  refine VW_skip ?_
  try simp only [thenQ]
  refine VW_seq ?_
  refine VW_seq (VW_region [2, 3, 5] ?_)
  simp only [OpsW_nil, OpsW_n, StepW, pok, pval, VA.ev, Env.get, Env.put, Env.keep, thenQ, Nat.succ_ne_self, Nat.reduceEqDiff, ite_true, ite_false, true_and]
  refine VW_block ?_
  refine VW_loop (σ := { k : Nat // k ≤ a.by'.length ∧ a.by'.take k = b.by'.take k }) (fun s => ([(2, .loc 0 0 0), (3, .loc 1 0 0), (5, pI s.1)], ⟨[(1, .arr false 25 [b.enc]), (0, .arr false 25 [a.enc])], 2⟩)) (fun s => a.by'.length - s.1) ⟨0, by simp⟩ ?_ ?_ ?_
  · simp only [Env.get, Nat.succ_ne_self, Env.le, Nat.reduceEqDiff, ite_true, ite_false, true_and, and_true]
    rfl
  · simp only [Heap.get, Heap.le, HL.get, HL.le, Nat.le_refl, Nat.succ_ne_self, ite_true, ite_false, and_true, reduceCtorEq, ea, eb]
  rintro ⟨k, hk, he⟩
  simp only []
  refine VW_seq ?_
  refine VW_seq (VW_region [2, 3, 5, 125] ?_)
  simp only [OpsW_nil, OpsW_n, StepW, pok, pval, VA.ev, Env.get, Env.put, Env.keep, thenQ, aggV, intV, binV, binOk, lenV, faddrV, isAddr, locCells, locOk, lenOk, PV.nth, PV.row, Heap.get, Heap.le, HL.get, HL.le, Nat.le_refl, Nat.succ_ne_self, Env.le, List.length, List.getD_cons_zero, List.take, List.drop, List.take_succ_cons, List.drop_succ_cons, Nat.reduceEqDiff, Nat.reduceLT, Bool.false_eq_true, ite_true, ite_false, true_and, and_true, implies_true, Nat.zero_add, List.length_cons, ea, eb, List.length_map]
  repeat (with_reducible refine And.intro ?_ ?_; first | omega | (with_reducible constructor <;> omega) | exact False.elim | exact True.intro)
  refine VW_cond rfl (fun h2 => ?_) (fun h2 => ?_)
  · refine VW_skip ?_
    try simp only [thenQ]
    simp only [decide_eq_true_eq] at h2
    have ka : k < a.by'.length := by omega
    have kb : k < b.by'.length := by have := hdeep.2.2.2.2.2; omega
    refine VW_seq ?_
    refine VW_block ?_
    refine VW_seq (VW_drawS [2, 3, 5, 139] (by simp [Heap.le, Heap.get, HL.le, HL.get]) ?_)  -- faddr load mv iaddr load faddr load mv iaddr load call un
    simp only [DrawW_nil, DrawW_n, QW, dok, dval, VOp.pure, VOp.simple, VOp.det, pok, pval, VA.ev, Env.get, Env.put, Env.keep, thenQ, gd, aggV, unV, unOk, isInt, numOf, lenV, faddrV, isAddr, locCells, locOk, iaddrV, iaddrOk, PV.nth, PV.row, Heap.get, HL.get, Nat.le_refl, Nat.succ_ne_self, List.length, List.getD_cons_zero, List.take, List.drop, List.take_succ_cons, List.drop_succ_cons, Nat.reduceEqDiff, Nat.reduceLT, Bool.false_eq_true, Bool.true_eq_false, ite_true, ite_false, true_and, and_true, implies_true, forall_const, reduceCtorEq, Nat.zero_add, List.length_cons, imp_self, Int.toNat_natCast, ea, eb, List.length_map, rowm ka, rowm kb, it_take, It.enc_len]
    repeat (with_reducible refine And.intro ?_ ?_; first | omega | (with_reducible constructor <;> omega) | exact False.elim | exact True.intro)
    refine ⟨_, .inl (sp28 _ _ (oa.by' _ (List.getElem_mem ka)) (ob.by' _ (List.getElem_mem kb))), ?_⟩
    try simp only [true_and]
    refine VW_cond rfl (fun h3 => ?_) (fun h3 => ?_)
    · refine VW_seq (VW_region [4] ?_)
      simp only [OpsW_nil, OpsW_n, StepW, pok, pval, VA.ev, Env.get, Env.put, Env.keep, thenQ, Nat.succ_ne_self, Nat.reduceEqDiff, ite_true, ite_false, true_and]
      refine VW_ret ?_
      try simp only [Env.get, thenQ, blockQ, retQ, resV, resOk, RS.ev, RS.ok, ite_true, true_and, and_true]
      have h4 : a.by'[k] ≠ b.by'[k] := fun e => by rw [e] at h3; simp [eqB] at h3
      have h5 : a ≠ b := fun e => get_ne ka kb h4 (by rw [e])
      rw [eqB_f h5]
      exact View.refl _ _
    have h4 : a.by'[k] = b.by'[k] := by simpa [eqB] using h3
    refine VW_skip ?_
    try simp only [thenQ, blockQ]
    refine VW_region [2, 3, 5] ?_
    simp only [OpsW_nil, OpsW_n, StepW, pok, pval, VA.ev, Env.get, Env.put, Env.keep, thenQ, intV, binV, binOk, HL.get, Nat.le_refl, Nat.succ_ne_self, Nat.reduceEqDiff, ite_true, ite_false, true_and, and_true, reduceCtorEq, w64 (n := (k : Int) + 1) (by omega) (by omega)]
    refine ⟨⟨k + 1, by omega, take_step he ka kb h4⟩, ?_, ?_⟩
    · simp
    · simp [ea, eb]; omega
  · simp only [decide_eq_false_iff_not] at h2
    obtain rfl : k = a.by'.length := by omega
    refine VW_exit ?_
    try simp only [thenQ, blockQ, retQ, ite_true]
    refine VW_seq (VW_region [4] ?_)
    simp only [OpsW_nil, OpsW_n, StepW, pok, pval, VA.ev, Env.get, Env.put, Env.keep, thenQ, Nat.succ_ne_self, Nat.reduceEqDiff, ite_true, ite_false, true_and]
    refine VW_ret ?_
    try simp only [Env.get, retQ, resV, resOk, RS.ev, RS.ok, ite_true, true_and, and_true]
    rw [eqB_t (it_eq hflat hdeep (take_all hdeep.2.2.2.2.2 he))]
    exact View.refl _ _
termination_by SizeOf.sizeOf a
decreasing_by exact it_size ka
end Go.Proofs.Ytcjaojhbebpokaa.w


namespace Go.Proofs.Ytcjaojhbebpokaa.w
open Go Go.VM
set_option maxRecDepth 20000
set_option maxHeartbeats 0
def c34 : VC := (.seq (.region [⟨(some 2), (.mv (.c (.bool false))), none⟩] false) (.seq (.region [⟨(some 3), (.mv (.t 0)), none⟩, ⟨(some 4), (.bin .geq (.t 3) (.c (.int .i64 0))), none⟩, ⟨(some 5), (.mv (.t 4)), none⟩, ⟨(some 6), (.mv (.t 0)), (some (5, true))⟩, ⟨(some 7), (.bin .leq (.t 6) (.c (.int .i64 6))), (some (5, true))⟩, ⟨(some 8), (.pick (.t 5) (.t 7) (.c (.bool false))), none⟩, ⟨(some 2), (.mv (.t 8)), none⟩] false) .ret))
def c57 : VC := (.seq (.region [⟨(some 2), (.mv (.c (.bool false))), none⟩] false) (.seq (.region [⟨(some 3), (.mv (.t 0)), none⟩, ⟨(some 4), (.bin .geq (.t 3) (.c (.int .i64 0))), none⟩, ⟨(some 5), (.mv (.t 4)), none⟩, ⟨(some 6), (.mv (.t 0)), (some (5, true))⟩, ⟨(some 7), (.bin .leq (.t 6) (.c (.int .i64 6))), (some (5, true))⟩, ⟨(some 8), (.pick (.t 5) (.t 7) (.c (.bool false))), none⟩, ⟨(some 2), (.mv (.t 8)), none⟩] false) .ret))
def amend (k : Int) : Bool := decide (0 ≤ k) && decide (k ≤ 6)
theorem sp34 (k : Int) : PCall Try.prog 34 [pI k] (.bool (amend k)) := by
  refine PCall_intro ?_ (Closed.of_scalar (scalar_bool _)) (by simp only [ClosedL, List.mem_cons, List.not_mem_nil, or_false, forall_eq_or_imp, forall_eq, false_implies, implies_true]; repeat' (first | exact cI _ | exact cS _ | exact cB _ | exact closed_fn0 _ | exact closed_nilsl | exact closed_agg (Un.closed _) | exact closed_agg (It.closed _) | exact closed_agg (EI.closed _) | exact closed_agg (Ac.closed _) | exact closed_agg (Wd.closed _) | exact closed_agg (St.closed _) | exact closed_agg (Sta.closed _) | exact closed_eis _ | exact closed_acs _ | exact closed_gzs _ | exact Closed.of_scalar (scalar_int _ _) | exact closed_ro (Ac.closed _) | exact closed_ro (Gz.closed _) | exact closed_agg (Gz.closed _) | exact closed_strs _ | exact closed_map (fun w _ => Wd.closed w) | exact closed_map (fun w _ => St.closed w) | exact closed_map (fun w _ => Un.closed w) | exact closed_map (fun w _ => It.closed w) | exact closed_sc _ | exact closed_sps _ | exact closed_agg (Sp.closed _) | exact closed_ro (EI.closed _) | exact closed_ro (Sta.closed _) | exact closed_ro (It.closed _) | exact closed_ro (by simp only [List.mem_cons, List.not_mem_nil, or_false, forall_eq]; first | exact cI _ | exact cS _ | exact closed_eis _) | refine And.intro ?_ ?_))
  refine ACall_fn (vc := c34) (ts := [.t 2]) Go.Proofs.Try.func34 (by kernel_rfl) rfl rfl (Nat.le_of_ble_eq_true rfl) (by kernel_rfl) ?_
  unfold c34
  refine VW_seq (VW_region [0] ?_)
  simp only [OpsW_nil, OpsW_n, StepW, pok, pval, VA.ev, Env.get, Env.put, Env.keep, argEnv, thenQ, Heap.nil, ite_true, ite_false, true_and, reduceCtorEq]
  refine VW_seq (VW_region [2] ?_)
  simp only [OpsW_n, StepW, pok, pval, VA.ev, Env.get, Env.put, Env.keep, thenQ, intV, binV, binOk, Nat.reduceEqDiff, ite_true, ite_false, true_and, reduceCtorEq]
  refine OpsW_split rfl (fun g1 => ?_) (fun g1 => ?_)
  · simp only [OpsW_nil, OpsW_n, OpsW_y, StepW, pok, pval, VA.ev, Env.get, Env.put, pickV, isBool, intV, binV, binOk, Nat.succ_ne_self, Nat.reduceEqDiff, ite_true, ite_false, true_and, reduceCtorEq, g1]
    refine VW_ret ?_
    try simp only [Env.get, retQ, resV, resOk, RS.ev, RS.ok, ite_true, true_and, and_true]
    rw [show amend k = decide (k ≤ 6) by rw [amend, g1]; rfl]
    exact View.refl _ _
  · simp only [OpsW_nil, OpsW_n, OpsW_xt, StepW, pok, pval, VA.ev, Env.get, Env.put, pickV, isBool, Nat.succ_ne_self, Nat.reduceEqDiff, Bool.false_eq_true, ite_true, ite_false, true_and, reduceCtorEq, Bool.not_true, g1]
    refine VW_ret ?_
    try simp only [Env.get, retQ, resV, resOk, RS.ev, RS.ok, ite_true, true_and, and_true]
    rw [show amend k = false by rw [amend, g1]; rfl]
    exact View.refl _ _
theorem sp57 (k : Int) : PCall Try.prog 57 [pI k] (.bool (amend k)) := by
  refine PCall_intro ?_ (Closed.of_scalar (scalar_bool _)) (by simp only [ClosedL, List.mem_cons, List.not_mem_nil, or_false, forall_eq_or_imp, forall_eq, false_implies, implies_true]; repeat' (first | exact cI _ | exact cS _ | exact cB _ | exact closed_fn0 _ | exact closed_nilsl | exact closed_agg (Un.closed _) | exact closed_agg (It.closed _) | exact closed_agg (EI.closed _) | exact closed_agg (Ac.closed _) | exact closed_agg (Wd.closed _) | exact closed_agg (St.closed _) | exact closed_agg (Sta.closed _) | exact closed_eis _ | exact closed_acs _ | exact closed_gzs _ | exact Closed.of_scalar (scalar_int _ _) | exact closed_ro (Ac.closed _) | exact closed_ro (Gz.closed _) | exact closed_agg (Gz.closed _) | exact closed_strs _ | exact closed_map (fun w _ => Wd.closed w) | exact closed_map (fun w _ => St.closed w) | exact closed_map (fun w _ => Un.closed w) | exact closed_map (fun w _ => It.closed w) | exact closed_sc _ | exact closed_sps _ | exact closed_agg (Sp.closed _) | exact closed_ro (EI.closed _) | exact closed_ro (Sta.closed _) | exact closed_ro (It.closed _) | exact closed_ro (by simp only [List.mem_cons, List.not_mem_nil, or_false, forall_eq]; first | exact cI _ | exact cS _ | exact closed_eis _) | refine And.intro ?_ ?_))
  refine ACall_fn (vc := c57) (ts := [.t 2]) Go.Proofs.Try.func57 (by kernel_rfl) rfl rfl (Nat.le_of_ble_eq_true rfl) (by kernel_rfl) ?_
  unfold c57
  refine VW_seq (VW_region [0] ?_)
  simp only [OpsW_nil, OpsW_n, StepW, pok, pval, VA.ev, Env.get, Env.put, Env.keep, argEnv, thenQ, Heap.nil, ite_true, ite_false, true_and, reduceCtorEq]
  refine VW_seq (VW_region [2] ?_)
  simp only [OpsW_n, StepW, pok, pval, VA.ev, Env.get, Env.put, Env.keep, thenQ, intV, binV, binOk, Nat.reduceEqDiff, ite_true, ite_false, true_and, reduceCtorEq]
  refine OpsW_split rfl (fun g1 => ?_) (fun g1 => ?_)
  · simp only [OpsW_nil, OpsW_n, OpsW_y, StepW, pok, pval, VA.ev, Env.get, Env.put, pickV, isBool, intV, binV, binOk, Nat.succ_ne_self, Nat.reduceEqDiff, ite_true, ite_false, true_and, reduceCtorEq, g1]
    refine VW_ret ?_
    try simp only [Env.get, retQ, resV, resOk, RS.ev, RS.ok, ite_true, true_and, and_true]
    rw [show amend k = decide (k ≤ 6) by rw [amend, g1]; rfl]
    exact View.refl _ _
  · simp only [OpsW_nil, OpsW_n, OpsW_xt, StepW, pok, pval, VA.ev, Env.get, Env.put, pickV, isBool, Nat.succ_ne_self, Nat.reduceEqDiff, Bool.false_eq_true, ite_true, ite_false, true_and, reduceCtorEq, Bool.not_true, g1]
    refine VW_ret ?_
    try simp only [Env.get, retQ, resV, resOk, RS.ev, RS.ok, ite_true, true_and, and_true]
    rw [show amend k = false by rw [amend, g1]; rfl]
    exact View.refl _ _
end Go.Proofs.Ytcjaojhbebpokaa.w


namespace Go.Proofs.Ytcjaojhbebpokaa.w
open Go Go.VM
set_option maxRecDepth 20000
set_option maxHeartbeats 0
def c33 : VC := (.seq (.region [⟨(some 1), (.box 7 (.t 0)), none⟩, ⟨(some 2), (.mv (.c .nilsl)), none⟩] false) (.seq (.region [⟨(some 3), (.mv (.c .nilsl)), none⟩] false) (.seq (.seq (.region [⟨(some 6), (.faddr 6 (.t 1)), none⟩, ⟨(some 7), (.load false 1 (.t 6)), none⟩, ⟨(some 8), (.len false (.t 7)), none⟩, ⟨(some 9), (.mv (.c (.int .i64 0))), none⟩] false) (.block 0 (.loop (.seq (.region [⟨(some 10), (.bin .lss (.t 9) (.t 8)), none⟩] false) (.seq (.cond (.t 10) .skip (.exit 0)) (.seq (.block 1 (.seq (.region [⟨(some 11), (.mv (.t 9)), none⟩, ⟨(some 12), (.iaddr 25 (.t 7) (.t 9)), none⟩, ⟨(some 13), (.load true 25 (.t 12)), none⟩, ⟨(some 5), (.alloc [(.int .i64 0), .nilsl, .nilsl, (.int .i64 0), (.int .i64 0), (.int .i64 0), (.int .i64 0), (.int .i64 0), (.int .i64 0), (.str []), .nilsl, .nilsl, .nilsl, .nilsl, .nilsl, (.str []), (.str []), (.int .i64 0), (.int .i64 0), (.str []), (.int .i64 0), (.int .i64 0), (.int .i64 0), (.str []), .nilsl]), none⟩, ⟨(some 4), (.mv (.t 11)), none⟩, ⟨none, (.store 25 (.t 5) (.t 13)), none⟩] false) (.region [⟨(some 14), (.mv (.t 3)), none⟩, ⟨(some 15), (.faddr 0 (.t 1)), none⟩, ⟨(some 16), (.load false 1 (.t 15)), none⟩, ⟨(some 17), (.mv (.t 4)), none⟩, ⟨(some 18), (.faddr 2 (.t 1)), none⟩, ⟨(some 19), (.load false 1 (.t 18)), none⟩, ⟨(some 20), (.load true 25 (.t 5)), none⟩, ⟨(some 21), (.build [(.int .i64 0), (.int .i64 0), (.int .i64 0), (.int .i64 0), .nilsl, .nilsl, (.int .i64 0), (.int .i64 0), (.int .i64 0), (.int .i64 0), (.int .i64 0), (.int .i64 0), (.str []), .nilsl, .nilsl, .nilsl, .nilsl, .nilsl, (.str []), (.str []), (.int .i64 0), (.int .i64 0), (.str []), (.int .i64 0), (.int .i64 0), (.int .i64 0), (.str []), .nilsl] [(0, (1, (.t 16))), (1, (1, (.t 17))), (2, (1, (.t 19))), (3, (25, (.t 20)))]), none⟩, ⟨(some 22), (.bslice 28 1 [(.int .i64 0), (.int .i64 0), (.int .i64 0), (.int .i64 0), .nilsl, .nilsl, (.int .i64 0), (.int .i64 0), (.int .i64 0), (.int .i64 0), (.int .i64 0), (.int .i64 0), (.str []), .nilsl, .nilsl, .nilsl, .nilsl, .nilsl, (.str []), (.str []), (.int .i64 0), (.int .i64 0), (.str []), (.int .i64 0), (.int .i64 0), (.int .i64 0), (.str []), .nilsl] [(0, (.t 21))]), none⟩, ⟨(some 23), (.app 28 392 [(.int .i64 0), (.int .i64 0), (.int .i64 0), (.int .i64 0), .nilsl, .nilsl, (.int .i64 0), (.int .i64 0), (.int .i64 0), (.int .i64 0), (.int .i64 0), (.int .i64 0), (.str []), .nilsl, .nilsl, .nilsl, .nilsl, .nilsl, (.str []), (.str []), (.int .i64 0), (.int .i64 0), (.str []), (.int .i64 0), (.int .i64 0), (.int .i64 0), (.str []), .nilsl] false (.t 14) (.t 22)), none⟩, ⟨(some 3), (.mv (.t 23)), none⟩] false))) (.region [⟨(some 24), (.bin .add (.t 9) (.c (.int .i64 1))), none⟩, ⟨(some 9), (.mv (.t 24)), none⟩] false))))))) (.seq (.region [⟨(some 25), (.mv (.t 3)), none⟩, ⟨(some 2), (.mv (.t 25)), none⟩] false) .ret))))
def deedsFrom (n : Int) (d : Int) : Nat → List It → List EI
  | _, [] => []
  | k, it :: r => ⟨n, k, d, it⟩ :: deedsFrom n d (k + 1) r
def deeds (a : Ac) : List EI := deedsFrom a.number a.day 0 a.items
def deedAt (a : Ac) (k : Nat) (h : k < a.items.length) : EI := ⟨a.number, k, a.day, a.items[k]⟩
theorem deeds_len (n d : Int) : ∀ (l : List It) (k : Nat), (deedsFrom n d k l).length = l.length
  | [], _ => rfl
  | x :: r, k => by simp [deedsFrom, deeds_len n d r]
theorem deeds_get (n d : Int) : ∀ (l : List It) (k j : Nat) (h : j < l.length), (deedsFrom n d k l)[j]'(by rw [deeds_len]; exact h) = ⟨n, ((k + j : Nat) : Int), d, l[j]⟩
  | x :: r, k, 0, h => by simp [deedsFrom]
  | x :: r, k, j + 1, h => by
    simp only [deedsFrom, List.getElem_cons_succ]
    rw [deeds_get n d r (k + 1) j (by simpa using h)]
    simp; omega
theorem sp33 (a : Ac) (hl : a.items.length ≤ 1000000) : PCall Try.prog 33 [.agg a.enc] (.sl 28 ((deeds a).map EI.enc)) := by
  refine PCall_intro ?_ (closed_eis _) (by simp only [ClosedL, List.mem_cons, List.not_mem_nil, or_false, forall_eq_or_imp, forall_eq, false_implies, implies_true]; repeat' (first | exact cI _ | exact cS _ | exact cB _ | exact closed_fn0 _ | exact closed_nilsl | exact closed_agg (Un.closed _) | exact closed_agg (It.closed _) | exact closed_agg (EI.closed _) | exact closed_agg (Ac.closed _) | exact closed_agg (Wd.closed _) | exact closed_agg (St.closed _) | exact closed_agg (Sta.closed _) | exact closed_eis _ | exact closed_acs _ | exact closed_gzs _ | exact Closed.of_scalar (scalar_int _ _) | exact closed_ro (Ac.closed _) | exact closed_ro (Gz.closed _) | exact closed_agg (Gz.closed _) | exact closed_strs _ | exact closed_map (fun w _ => Wd.closed w) | exact closed_map (fun w _ => St.closed w) | exact closed_map (fun w _ => Un.closed w) | exact closed_map (fun w _ => It.closed w) | exact closed_sc _ | exact closed_sps _ | exact closed_agg (Sp.closed _) | exact closed_ro (EI.closed _) | exact closed_ro (Sta.closed _) | exact closed_ro (It.closed _) | exact closed_ro (by simp only [List.mem_cons, List.not_mem_nil, or_false, forall_eq]; first | exact cI _ | exact cS _ | exact closed_eis _) | refine And.intro ?_ ?_))
  refine ACall_fn (vc := c33) (ts := [.t 2]) Go.Proofs.Try.func33 (by kernel_rfl) rfl rfl (Nat.le_of_ble_eq_true rfl) (by kernel_rfl) ?_
  unfold c33
  have hdl : (deeds a).length = a.items.length := deeds_len _ _ _ _
  refine VW_seq (VW_region [1] ?_)
  simp only [OpsW_nil, OpsW_n, StepW, pok, pval, VA.ev, Env.get, Env.put, Env.keep, argEnv, thenQ, PV.cells, PV.fits, Heap.push, Heap.nil, Nat.succ_ne_self, List.length, Nat.reduceAdd, ite_true, ite_false, true_and, reduceCtorEq, BEq.rfl, Nat.zero_add, Ac.enc]
  refine VW_seq (VW_region [1, 3] ?_)
  simp only [OpsW_nil, OpsW_n, StepW, pok, pval, VA.ev, Env.get, Env.put, Env.keep, thenQ, Nat.reduceEqDiff, ite_true, ite_false, true_and]
  refine VW_own0 3 28 rfl ?_
  try simp only [Env.put, Heap.push, Nat.reduceAdd]
  refine VW_seq ?_
  refine VW_seq (VW_region [1, 3, 7, 8, 9] ?_)
  simp only [OpsW_nil, OpsW_n, StepW, pok, pval, VA.ev, Env.get, Env.put, Env.keep, thenQ, aggV, lenV, faddrV, isAddr, locCells, locOk, lenOk, PV.nth, PV.row, Heap.get, HL.get, Nat.le_refl, Nat.succ_ne_self, List.length, List.getD_cons_zero, List.take, List.drop, List.take_succ_cons, List.drop_succ_cons, Nat.reduceEqDiff, Nat.reduceLT, Bool.false_eq_true, ite_true, ite_false, true_and, and_true, implies_true, Nat.zero_add, List.length_cons, List.length_map]
  refine VW_block ?_
  refine VW_loop (σ := { s : Nat × Nat × Nat // s.1 ≤ a.items.length ∧ 0 < s.2.1 ∧ s.2.1 < s.2.2 })
    (fun s => ([(1, .loc 0 0 0), (3, .own s.1.2.1 0 s.1.1), (7, .sl 25 (a.items.map It.enc)), (8, pI a.items.length), (9, pI s.1.1)], ⟨[(s.1.2.1, .arr false 28 (((deeds a).take s.1.1).map EI.enc)), (0, .arr false 7 [a.enc])], s.1.2.2⟩)) (fun s => a.items.length - s.1.1) ⟨(0, 1, 2), by simp⟩ ?_ ?_ ?_
  · simp only [Env.get, Nat.succ_ne_self, Env.le, Nat.reduceEqDiff, ite_true, ite_false, true_and, and_true]
    rfl
  · simp only [Heap.get, Heap.le, HL.get, HL.le, Nat.le_refl, Nat.succ_ne_self, List.take, ite_true, ite_false, and_true, reduceCtorEq, Ac.enc, List.map_nil]
  rintro ⟨⟨k, id, n⟩, hk, hi, hn⟩
  simp only [] at hk hi hn ⊢
  have qi0 : (id = n) = False := by simp; omega
  have qi1 : (n = id) = False := by simp; omega
  have qi2 : (id = 0) = False := by simp; omega
  have qi3 : (0 = id) = False := by simp; omega
  have qi4 : (n = 0) = False := by simp; omega
  have qi5 : (0 = n) = False := by simp; omega
  have qi6 : ∀ j, (n + j = id) = False := fun j => by simp; try omega
  have qi7 : ∀ j, (id = n + j) = False := fun j => by simp; try omega
  have qi8 : ∀ j, (n + (j + 1) = n) = False := fun j => by simp; try omega
  have qi9 : ∀ j, (n = n + (j + 1)) = False := fun j => by simp; try omega
  have qi10 : ∀ j, (n + j = 0) = False := fun j => by simp; try omega
  have qi11 : ∀ j, (0 = n + j) = False := fun j => by simp; try omega
  have qi12 : (n + 1 + 1 = n) = False := by simp; try omega
  have qi13 : (n = n + 1 + 1) = False := by simp; try omega
  have qi14 : (n + 1 + 1 + 1 = n) = False := by simp; try omega
  have qi15 : (n = n + 1 + 1 + 1) = False := by simp; try omega
  refine VW_seq (VW_region [1, 3, 7, 8, 9, 10] ?_)
  simp only [OpsW_nil, OpsW_n, StepW, pok, pval, VA.ev, Env.get, Env.put, Env.keep, thenQ, intV, binV, binOk, Heap.get, Heap.le, HL.le, Nat.succ_ne_self, Env.le, Nat.reduceEqDiff, ite_true, ite_false, true_and, and_true, List.length_map]
  refine VW_seq ?_
  refine VW_cond rfl (fun h1 => ?_) (fun h1 => ?_)
  · refine VW_skip ?_
    try simp only [thenQ]
    simp only [decide_eq_true_eq] at h1
    have ka : k < a.items.length := by omega
    refine VW_seq ?_
    refine VW_block ?_
    refine VW_seq (VW_region [1, 3, 4, 5, 7, 8, 9] ?_)
    simp only [OpsW_nil, OpsW_n, StepW, pok, pval, VA.ev, Env.get, Env.put, Env.keep, thenQ, aggV, isInt, numOf, lenV, locCells, locOk, iaddrV, iaddrOk, PV.cells, PV.fits, overlay, PV.nth, PV.row, Heap.get, Heap.set, HL.get, HL.set, HL.del, Heap.push, Nat.le_refl, Nat.succ_ne_self, storeV, storeOk, List.set, List.length, List.getD_cons_zero, List.take, List.drop, List.drop_succ_cons, List.nil_append, Nat.reduceEqDiff, Nat.reduceAdd, Nat.reduceLT, Bool.true_eq_false, ite_true, ite_false, true_and, and_true, BEq.rfl, Nat.zero_add, imp_self, Int.toNat_natCast, List.length_map, rowm ka, it_take, It.enc_len]
    repeat (with_reducible refine And.intro ?_ ?_; first | omega | (with_reducible constructor <;> omega) | exact False.elim | exact True.intro)
    have hdk : (deeds a)[k]'(by rw [hdl]; exact ka) = deedAt a k ka := by
      have := deeds_get a.number a.day a.items 0 k ka
      simpa [deeds, deedAt] using this
    have hstep : ((deeds a).take (k + 1)).map EI.enc = ((deeds a).take k).map EI.enc ++ [(deedAt a k ka).enc] := by
      rw [List.take_add_one, List.getElem?_eq_getElem (by rw [hdl]; exact ka), hdk]; simp
    try simp only [ite_false, It.enc_len, List.append_nil, qi0, qi1, qi2, qi3, qi4, qi5, qi6, qi7, qi8, qi9, qi10, qi11, qi12, qi13, qi14, qi15]
    refine VW_region [1, 3, 7, 8, 9] ?_
    have hlen : (((deeds a).take k).map EI.enc).length = k := by simp [hdl]; omega
    have htk : (((deeds a).take k).map EI.enc).take k = ((deeds a).take k).map EI.enc := List.take_of_length_le (by rw [hlen]; exact Nat.le_refl _)
    simp only [OpsW_nil, OpsW_n, StepW, pok, pval, VA.ev, Env.get, Env.put, Env.keep, thenQ, blockQ, aggV, faddrV, isAddr, locCells, locOk, fillV, fillOk, PV.cells, PV.fits, overlay, PV.nth, PV.row, Heap.get, Heap.del, HL.get, HL.del, Heap.push, Nat.le_refl, Nat.succ_ne_self, killed, oldId, oldRows, oldOk, srcRows, srcOk, elemsV, elemsOk, List.set, List.replicate, List.length, List.getD_cons_zero, List.take, List.drop, List.take_succ_cons, List.drop_succ_cons, List.cons_append, List.nil_append, Nat.reduceEqDiff, Nat.reduceAdd, Nat.reduceLT, Nat.reduceLeDiff, Bool.false_eq_true, Bool.true_eq_false, ite_true, ite_false, true_and, and_true, implies_true, BEq.rfl, Nat.zero_add, Nat.add_zero, List.length_cons, imp_self, Ac.enc, it_take, It.enc_len, List.append_nil, hlen, htk, qi0, qi1, qi2, qi3, qi4, qi5, qi6, qi7, qi8, qi9, qi10, qi11, qi12, qi13, qi14, qi15]
    repeat (with_reducible refine And.intro ?_ ?_; first | omega | (with_reducible constructor <;> omega) | exact False.elim | exact True.intro)
    skip
    refine VW_region [1, 3, 7, 8, 9] ?_
    simp only [OpsW_nil, OpsW_n, StepW, pok, pval, VA.ev, Env.get, Env.put, Env.keep, thenQ, intV, binV, binOk, HL.get, Nat.succ_ne_self, Nat.reduceEqDiff, ite_true, ite_false, true_and, and_true, reduceCtorEq, qi0, qi1, qi2, qi3, qi4, qi5, qi6, qi7, qi8, qi9, qi10, qi11, qi12, qi13, qi14, qi15, w64 (n := (k : Int) + 1) (by omega) (by omega)]
    refine ⟨⟨(k + 1, n + 1 + 1, n + 1 + 1 + 1), ?_, ?_, ?_⟩, ?_, ?_, ?_⟩
    · simp only []; omega
    · simp only []; omega
    · simp only []; omega
    · simp
    · rw [hstep]
      simp only [Nat.le_refl, Nat.left_eq_add, Nat.succ_ne_self, ite_true, ite_false, true_and, reduceCtorEq, Option.some.injEq, qi0, qi1, qi2, qi3, qi4, qi5, qi6, qi7, qi8, qi9, qi10, qi11, qi12, qi13, qi14, qi15, Ac.enc]
      rfl
    · simp only []; omega
  · simp only [decide_eq_false_iff_not] at h1
    have hkl : k = a.items.length := by omega
    refine VW_exit ?_
    try simp only [thenQ, blockQ, retQ, ite_true]
    refine VW_seq (VW_region [2] ?_)
    simp only [OpsW_nil, OpsW_n, StepW, pok, pval, VA.ev, Env.get, Env.put, Env.keep, thenQ, Nat.succ_ne_self, Nat.reduceEqDiff, ite_true, ite_false, true_and]
    refine VW_ret ?_
    try simp only [Env.get, retQ, resV, resOk, RS.ev, RS.ok, ite_true, true_and, and_true]
    have hv := View.own (h := ⟨[(id, .arr false 28 (((deeds a).take k).map EI.enc)), (0, .arr false 7 [a.enc])], n⟩) (id := id) (off := 0) (len := k) (z := 28) (fz := false) (es := ((deeds a).take k).map EI.enc) (by simp [Heap.get, HL.get]) (by simp [hdl]; omega)
    have e1 : List.take k (List.drop 0 (((deeds a).take k).map EI.enc)) = (deeds a).map EI.enc := by
      rw [List.drop_zero, hkl, ← hdl, List.take_length, ← List.map_take, List.take_length]
    rw [e1] at hv
    exact hv
end Go.Proofs.Ytcjaojhbebpokaa.w


namespace Go.Proofs.Ytcjaojhbebpokaa.w
open Go Go.VM
set_option maxRecDepth 20000
set_option maxHeartbeats 0
def c46 : VC := (.seq (.region [⟨(some 2), (.box 7 (.t 0)), none⟩, ⟨(some 3), (.box 7 (.t 1)), none⟩, ⟨(some 4), (.mv (.c (.int .i64 0))), none⟩] false) (.seq (.region [⟨(some 5), (.faddr 2 (.t 2)), none⟩, ⟨(some 6), (.load false 1 (.t 5)), none⟩, ⟨(some 7), (.faddr 2 (.t 3)), none⟩, ⟨(some 8), (.load false 1 (.t 7)), none⟩, ⟨(some 9), (.call 42 [(.t 6), (.t 8)]), none⟩, ⟨(some 10), (.faddr 0 (.t 2)), none⟩, ⟨(some 11), (.load false 1 (.t 10)), none⟩, ⟨(some 12), (.faddr 0 (.t 3)), none⟩, ⟨(some 13), (.load false 1 (.t 12)), none⟩, ⟨(some 14), (.call 42 [(.t 11), (.t 13)]), none⟩, ⟨(some 15), (.bslice 1 2 [(.int .i64 0)] [(0, (.t 9)), (1, (.t 14))]), none⟩, ⟨(some 16), (.call 41 [(.t 15)]), none⟩, ⟨(some 4), (.mv (.t 16)), none⟩] true) .ret))
def cmpA (a b : Ac) : Int := orI [cmpI a.day b.day, cmpI a.number b.number]
theorem sp46 (a b : Ac) : PCall Try.prog 46 [.agg a.enc, .agg b.enc] (pI (cmpA a b)) := by
  refine PCall_intro ?_ (Closed.of_scalar (scalar_int _ _)) (by simp only [ClosedL, List.mem_cons, List.not_mem_nil, or_false, forall_eq_or_imp, forall_eq, false_implies, implies_true]; repeat' (first | exact cI _ | exact cS _ | exact cB _ | exact closed_fn0 _ | exact closed_nilsl | exact closed_agg (Un.closed _) | exact closed_agg (It.closed _) | exact closed_agg (EI.closed _) | exact closed_agg (Ac.closed _) | exact closed_agg (Wd.closed _) | exact closed_agg (St.closed _) | exact closed_agg (Sta.closed _) | exact closed_eis _ | exact closed_acs _ | exact closed_gzs _ | exact Closed.of_scalar (scalar_int _ _) | exact closed_ro (Ac.closed _) | exact closed_ro (Gz.closed _) | exact closed_agg (Gz.closed _) | exact closed_strs _ | exact closed_map (fun w _ => Wd.closed w) | exact closed_map (fun w _ => St.closed w) | exact closed_map (fun w _ => Un.closed w) | exact closed_map (fun w _ => It.closed w) | exact closed_sc _ | exact closed_sps _ | exact closed_agg (Sp.closed _) | exact closed_ro (EI.closed _) | exact closed_ro (Sta.closed _) | exact closed_ro (It.closed _) | exact closed_ro (by simp only [List.mem_cons, List.not_mem_nil, or_false, forall_eq]; first | exact cI _ | exact cS _ | exact closed_eis _) | refine And.intro ?_ ?_))
  refine ACall_fn (vc := c46) (ts := [.t 4]) Go.Proofs.Try.func46 (by kernel_rfl) rfl rfl (Nat.le_of_ble_eq_true rfl) (by kernel_rfl) ?_
  unfold c46
  refine VW_seq (VW_region [2, 3] ?_)
  simp only [OpsW_nil, OpsW_n, StepW, pok, pval, VA.ev, Env.get, Env.put, Env.keep, argEnv, thenQ, PV.cells, PV.fits, Heap.push, Heap.nil, Nat.succ_ne_self, List.length, Nat.reduceEqDiff, Nat.reduceAdd, ite_true, ite_false, true_and, reduceCtorEq, BEq.rfl, Nat.zero_add, Ac.enc]
  skip
  skip
  refine VW_seq (VW_drawS [4] (by simp [Heap.le, Heap.get, HL.le, HL.get]) ?_)  -- faddr load faddr load call faddr load faddr load call bslice call mv
  simp only [DrawW_nil, DrawW_n, QW, dok, dval, VOp.pure, VOp.simple, VOp.det, pok, pval, VA.ev, Env.get, Env.put, Env.keep, thenQ, gd, aggV, faddrV, isAddr, locCells, locOk, PV.cells, PV.fits, PV.nth, PV.row, Heap.get, HL.get, Nat.succ_ne_self, elemsV, elemsOk, List.set, List.replicate, List.length, List.getD_cons_zero, List.take, List.drop, List.take_succ_cons, List.drop_succ_cons, Nat.reduceEqDiff, Nat.reduceAdd, Nat.reduceLT, Nat.reduceLeDiff, Bool.false_eq_true, ite_true, ite_false, true_and, and_true, implies_true, forall_const, reduceCtorEq, BEq.rfl, Nat.zero_add, Nat.add_zero, List.length_cons]
  refine ⟨_, .inl (sp42 ..), ?_⟩
  try simp only [true_and]
  refine ⟨_, .inl (sp42 ..), ?_⟩
  try simp only [true_and]
  refine ⟨_, .inl (sp41 [cmpI a.day b.day, cmpI a.number b.number] (by simp)), ?_⟩
  skip
  refine VW_ret ?_
  try simp only [Env.get, retQ, resV, resOk, RS.ev, RS.ok, ite_true, true_and, and_true]
  exact View.refl _ _
end Go.Proofs.Ytcjaojhbebpokaa.w

