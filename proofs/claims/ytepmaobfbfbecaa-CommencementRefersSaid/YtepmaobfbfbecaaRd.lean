/-
  How the seat's arguments are read: the types of package api at this seat's numbers.
-/
import Derived.Test.YtepmaobfbfbecaaVmK
import Derived.Test.YtepmaobfbfbecaaRows
set_option linter.all false
namespace Go.Proofs.Ytepmaobfbfbecaa.rd
open Go Go.VM
variable {W : World}

theorem k3 : Try.prog.cellsOf 3 = 1 := by kernel_rfl
theorem k9 : Try.prog.cellsOf 9 = 1 := by kernel_rfl
theorem k137 : Try.prog.cellsOf 137 = 3 := by kernel_rfl
theorem k139 : Try.prog.cellsOf 139 = 4 := by kernel_rfl
theorem k38 : Try.prog.cellsOf 38 = 3 := by kernel_rfl
theorem k39 : Try.prog.cellsOf 39 = 1 := by kernel_rfl
theorem k40 : Try.prog.cellsOf 40 = 1 := by kernel_rfl
theorem k42 : Try.prog.cellsOf 42 = 8 := by kernel_rfl
theorem k135 : Try.prog.cellsOf 135 = 2 := by kernel_rfl
theorem k23 : Try.prog.cellsOf 23 = 3 := by kernel_rfl
theorem k46 : Try.prog.cellsOf 46 = 25 := by kernel_rfl
theorem k49 : Try.prog.cellsOf 49 = 28 := by kernel_rfl
theorem k36 : Try.prog.cellsOf 36 = 1 := by kernel_rfl
theorem k43 : Try.prog.cellsOf 43 = 1 := by kernel_rfl
theorem k44 : Try.prog.cellsOf 44 = 1 := by kernel_rfl
theorem rI (n : Nat) : Reads Try.prog W n 3 i64 (fun a => [pI a]) := reads_int Try.underlying3
theorem rS (n : Nat) : Reads Try.prog W n 9 okS (fun a => [.str a]) := reads_string Try.underlying9
def enc3 (x : Int × Int × Int × Unit) : List PV := [pI x.1, pI x.2.1, pI x.2.2.1]
def ok3 (x : Int × Int × Int × Unit) : Prop := i64 x.1 ∧ i64 x.2.1 ∧ i64 x.2.2.1 ∧ True
theorem r137 (n : Nat) : Reads Try.prog W n 137 ok3 enc3 := by
  cases n with
  | zero => exact reads_zero
  | succ n => exact Reads.map (fun x : Int × Int × Int × Unit => x) (reads_struct Try.underlying137 rfl k137 (freads_cons (by exact (rI n)) (by exact k3) (by exact (fun _ => rfl)) (by rfl) (freads_cons (by exact (rI n)) (by exact k3) (by exact (fun _ => rfl)) (by rfl) (freads_cons (by exact (rI n)) (by exact k3) (by exact (fun _ => rfl)) (by rfl) freads_nil))) (by exact fun _ => rfl)) (fun _ h => h) (fun _ => rfl)
theorem r38 (n : Nat) : Reads Try.prog W n 38 ok3 enc3 := by
  cases n with
  | zero => exact reads_zero
  | succ n => exact Reads.map (fun x : Int × Int × Int × Unit => x) (reads_struct Try.underlying38 rfl k38 (freads_cons (by exact (rI n)) (by exact k3) (by exact (fun _ => rfl)) (by rfl) (freads_cons (by exact (rI n)) (by exact k3) (by exact (fun _ => rfl)) (by rfl) (freads_cons (by exact (rI n)) (by exact k3) (by exact (fun _ => rfl)) (by rfl) freads_nil))) (by exact fun _ => rfl)) (fun _ h => h) (fun _ => rfl)
theorem rWd (n : Nat) : Reads Try.prog W n 139 Wd.ok Wd.enc := by
  cases n with
  | zero => exact reads_zero
  | succ n =>
    refine Reads.map (fun x : Str × (Int × Int × Int × Unit) × Unit => (⟨x.1, x.2.1.1, x.2.1.2.1, x.2.1.2.2.1⟩ : Wd))
      (reads_struct Try.underlying139 rfl k139 (freads_cons (by exact (rS n)) (by exact k9) (by exact (fun _ => rfl)) (by rfl) (freads_cons (by exact (r137 n)) (by exact k137) (by exact (fun _ => rfl)) (by rfl) freads_nil)) (by exact fun _ => rfl)) ?_ ?_
    · rintro ⟨t, ⟨a, b, c, _⟩, _⟩ ⟨h1, ⟨h2, h3, h4, _⟩, _⟩; exact ⟨h1, h2, h3, h4⟩
    · rintro ⟨t, ⟨a, b, c, _⟩, _⟩; rfl
theorem rWds (n : Nat) : Reads Try.prog W n 39 (okL Wd.ok) (fun l => [.sl 4 (l.map Wd.enc)]) := reads_sl Try.underlying39 k139 (by decide) (fun _ => rfl) n (fun m _ => rWd m)
theorem un_len (u : Un) : u.enc.length = 8 := by rw [Un.enc_eq]; rfl
theorem rUn : ∀ n : Nat, Reads Try.prog W n 42 Un.ok Un.enc := by
  intro n
  induction n using Nat.strongRecOn with
  | _ n ih =>
    cases n with
    | zero => exact reads_zero
    | succ n =>
      refine Reads.map (fun x : (Int × Int × Int × Unit) × Int × Str × List Wd × List Wd × List Un × Unit => Un.mk x.1.1 x.1.2.1 x.1.2.2.1 x.2.1 x.2.2.1 x.2.2.2.1 x.2.2.2.2.1 x.2.2.2.2.2.1)
        (reads_struct Try.underlying42 rfl k42 (freads_cons (by exact (r38 n)) (by exact k38) (by exact (fun _ => rfl)) (by rfl) (freads_cons (by exact (rI n)) (by exact k3) (by exact (fun _ => rfl)) (by rfl) (freads_cons (by exact (rS n)) (by exact k9) (by exact (fun _ => rfl)) (by rfl) (freads_cons (by exact (rWds n)) (by exact k39) (by exact (fun _ => rfl)) (by rfl)
          (freads_cons (by exact (rWds n)) (by exact k39) (by exact (fun _ => rfl)) (by rfl) (freads_cons (by exact (reads_sl Try.underlying40 k42 (by decide) un_len n (fun m hm => ih m (by omega)))) (by exact k40) (by exact (fun _ => rfl)) (by rfl) freads_nil)))))) (by exact fun _ => rfl)) ?_ ?_
      · rintro ⟨⟨a, b, c, _⟩, k, l, h, w, ks, _⟩ ⟨⟨h1, h2, h3, _⟩, h4, h5, h6, h7, h8, _⟩
        exact .mk _ h1 h2 h3 h4 h5 h6 h7 h8.1 h8.2
      · rintro ⟨⟨a, b, c, _⟩, k, l, h, w, ks, _⟩
        rw [Un.enc_eq]; rfl
theorem rSt (n : Nat) : Reads Try.prog W n 135 St.ok St.enc := by
  cases n with
  | zero => exact reads_zero
  | succ n =>
    refine Reads.map (fun x : Int × Str × Unit => (⟨x.1, x.2.1⟩ : St)) (reads_struct Try.underlying135 rfl k135 (freads_cons (by exact (rI n)) (by exact k3) (by exact (fun _ => rfl)) (by rfl) (freads_cons (by exact (rS n)) (by exact k9) (by exact (fun _ => rfl)) (by rfl) freads_nil)) (by exact fun _ => rfl)) ?_ ?_
    · rintro ⟨a, b, _⟩ ⟨h1, h2, _⟩; exact ⟨h1, h2⟩
    · rintro ⟨a, b, _⟩; rfl
theorem rSta (n : Nat) : Reads Try.prog W n 23 Sta.ok Sta.enc := by
  cases n with
  | zero => exact reads_zero
  | succ n =>
    refine Reads.map (fun x : Int × Int × Str × Unit => (⟨x.1, x.2.1, x.2.2.1⟩ : Sta)) (reads_struct Try.underlying23 rfl k23 (freads_cons (by exact (rI n)) (by exact k3) (by exact (fun _ => rfl)) (by rfl) (freads_cons (by exact (rI n)) (by exact k3) (by exact (fun _ => rfl)) (by rfl) (freads_cons (by exact (rS n)) (by exact k9) (by exact (fun _ => rfl)) (by rfl) freads_nil))) (by exact fun _ => rfl)) ?_ ?_
    · rintro ⟨a, b, c, _⟩ ⟨h1, h2, h3, _⟩; exact ⟨h1, h2, h3⟩
    · rintro ⟨a, b, c, _⟩; rfl
theorem rSts (n : Nat) : Reads Try.prog W n 36 (okL St.ok) (fun l => [.sl 2 (l.map St.enc)]) := reads_sl Try.underlying36 k135 (by decide) (fun _ => rfl) n (fun m _ => rSt m)
theorem rSs (n : Nat) : Reads Try.prog W n 43 (okL okS) (fun l => [It.strs l]) := reads_sl Try.underlying43 k9 (by decide) (fun _ => rfl) n (fun m _ => rS m)
theorem rIt : ∀ n : Nat, Reads Try.prog W n 46 It.ok It.enc := by
  intro n
  induction n using Nat.strongRecOn with
  | _ n ih =>
    cases n with
    | zero => exact reads_zero
    | succ n =>
      refine Reads.map (fun x : Int × List St × List St × Int × Int × Un × List Str × List Str × Str × Str × Sta × Int × Int × Int × Str × List It × Unit =>
          It.mk x.1 x.2.1 x.2.2.1 x.2.2.2.1 x.2.2.2.2.1 x.2.2.2.2.2.1 x.2.2.2.2.2.2.1 x.2.2.2.2.2.2.2.1 x.2.2.2.2.2.2.2.2.1 x.2.2.2.2.2.2.2.2.2.1 x.2.2.2.2.2.2.2.2.2.2.1 x.2.2.2.2.2.2.2.2.2.2.2.1 x.2.2.2.2.2.2.2.2.2.2.2.2.1 x.2.2.2.2.2.2.2.2.2.2.2.2.2.1 x.2.2.2.2.2.2.2.2.2.2.2.2.2.2.1 x.2.2.2.2.2.2.2.2.2.2.2.2.2.2.2.1)
        (reads_struct Try.underlying46 rfl k46 (freads_cons (by exact (rI n)) (by exact k3) (by exact (fun _ => rfl)) (by rfl) (freads_cons (by exact (rSts n)) (by exact k36) (by exact (fun _ => rfl)) (by rfl) (freads_cons (by exact (rSts n)) (by exact k36) (by exact (fun _ => rfl)) (by rfl) (freads_cons (by exact (rI n)) (by exact k3) (by exact (fun _ => rfl)) (by rfl) (freads_cons (by exact (rI n)) (by exact k3) (by exact (fun _ => rfl)) (by rfl)
          (freads_cons (by exact (rUn n)) (by exact k42) (by exact un_len) (by rfl) (freads_cons (by exact (rSs n)) (by exact k43) (by exact (fun _ => rfl)) (by rfl) (freads_cons (by exact (rSs n)) (by exact k43) (by exact (fun _ => rfl)) (by rfl) (freads_cons (by exact (rS n)) (by exact k9) (by exact (fun _ => rfl)) (by rfl) (freads_cons (by exact (rS n)) (by exact k9) (by exact (fun _ => rfl)) (by rfl) (freads_cons (by exact (rSta n)) (by exact k23) (by exact (fun _ => rfl)) (by rfl)
          (freads_cons (by exact (rI n)) (by exact k3) (by exact (fun _ => rfl)) (by rfl) (freads_cons (by exact (rI n)) (by exact k3) (by exact (fun _ => rfl)) (by rfl) (freads_cons (by exact (rI n)) (by exact k3) (by exact (fun _ => rfl)) (by rfl) (freads_cons (by exact (rS n)) (by exact k9) (by exact (fun _ => rfl)) (by rfl)
          (freads_cons (by exact (reads_sl Try.underlying44 k46 (by decide) It.enc_len n (fun m hm => ih m (by omega)))) (by exact k44) (by exact (fun _ => rfl)) (by rfl) freads_nil)))))))))))))))) ?_) ?_ ?_
      · rintro ⟨k, a, t, w, n, u, o, e, l, f, s, ac, it, d, ev, b, _⟩; simp only [List.length_append, un_len]; rfl
      · rintro ⟨k, a, t, w, n, u, o, e, l, f, s, ac, it, d, ev, b, _⟩ ⟨h1, h2, h3, h4, h5, h6, h7, h8, h9, h10, h11, h12, h13, h14, h15, h16, _⟩
        exact .mk _ h1 h2 h3 h4 h5 h6 h7 h8 h9 h10 h11 h12 h13 h14 h15 h16.1 h16.2
      · rintro ⟨k, a, t, w, n, u, o, e, l, f, s, ac, it, d, ev, b, _⟩
        rw [It.enc_eq, Un.enc_eq]; rfl
theorem ei_len (x : EI) : x.enc.length = 28 := by simp [EI.enc, It.enc_len]
theorem rEI (n : Nat) : Reads Try.prog W n 49 EI.ok EI.enc := by
  cases n with
  | zero => exact reads_zero
  | succ n =>
    refine Reads.map (fun x : Int × Int × Int × It × Unit => (⟨x.1, x.2.1, x.2.2.1, x.2.2.2.1⟩ : EI)) (reads_struct Try.underlying49 rfl k49 (freads_cons (by exact (rI n)) (by exact k3) (by exact (fun _ => rfl)) (by rfl) (freads_cons (by exact (rI n)) (by exact k3) (by exact (fun _ => rfl)) (by rfl) (freads_cons (by exact (rI n)) (by exact k3) (by exact (fun _ => rfl)) (by rfl) (freads_cons (by exact (rIt n)) (by exact k46) (by exact It.enc_len) (by rfl) freads_nil)))) ?_) ?_ ?_
    · rintro ⟨a, b, c, d, _⟩; simp only [List.length_append, It.enc_len]; rfl
    · rintro ⟨a, b, c, d, _⟩ ⟨h1, h2, h3, h4, _⟩; exact ⟨h1, h2, h3, h4⟩
    · rintro ⟨a, b, c, d, _⟩; simp [EI.enc]
theorem rIts (n : Nat) : Reads Try.prog W n 44 (okL It.ok) (fun l => [.sl 25 (l.map It.enc)]) := reads_sl Try.underlying44 k46 (by decide) It.enc_len n (fun m _ => rIt m)
theorem k61 : Try.prog.cellsOf 61 = 2 := by kernel_rfl
theorem rSp (n : Nat) : Reads Try.prog W n 61 Sp.ok Sp.enc := by
  cases n with
  | zero => exact reads_zero
  | succ n =>
    refine Reads.map (fun x : Int × Int × Unit => (⟨x.1, x.2.1⟩ : Sp)) (reads_struct Try.underlying61 rfl k61 (freads_cons (by exact (rI n)) (by exact k3) (by exact (fun _ => rfl)) (by rfl) (freads_cons (by exact (rI n)) (by exact k3) (by exact (fun _ => rfl)) (by rfl) freads_nil)) (by exact fun _ => rfl)) ?_ ?_
    · rintro ⟨a, b, _⟩ ⟨h1, h2, _⟩; exact ⟨h1, h2⟩
    · rintro ⟨a, b, _⟩; rfl
theorem rSps (n : Nat) : Reads Try.prog W n 32 (okL Sp.ok) (fun l => [.sl 2 (l.map Sp.enc)]) := reads_sl Try.underlying32 k61 (by decide) (fun _ => rfl) n (fun m _ => rSp m)
theorem rEIs (n : Nat) : Reads Try.prog W n 24 (okL EI.ok) (fun l => [.sl 28 (l.map EI.enc)]) := reads_sl Try.underlying24 k49 (by decide) ei_len n (fun m _ => rEI m)
theorem rIs (n : Nat) : Reads Try.prog W n 53 (okL i64) (fun l => [.sl 1 (l.map fun x => [pI x])]) := reads_sl Try.underlying53 k3 (by decide) (fun _ => rfl) n (fun m _ => rI m)
end Go.Proofs.Ytepmaobfbfbecaa.rd

