/-
  How gazettes are read, with the sizes of their acts' items.
-/
import Derived.Test.YtcjaojhbebpokaaRd
import Derived.Test.YtcjaojhbebpokaaVmAa
import Derived.KernelRfl
set_option linter.all false
namespace Go.Proofs.Ytcjaojhbebpokaa.rd
open Go Go.VM
variable {W : World}
theorem bItem : Try.prog.bytesOf 42 = 368 := by kernel_rfl
theorem bAct : Try.prog.bytesOf 59 = 88 := by kernel_rfl
theorem bGz : Try.prog.bytesOf 61 = 56 := by kernel_rfl
theorem rItsZ (n : Nat) : ReadsZ Try.prog W n 40 (fun l => okL It.ok l ∧ itemsOk l) (fun l => [.sl 25 (l.map It.enc)]) := by
  cases n with
  | zero => exact readsZ_zero
  | succ n =>
    refine ReadsZ.map (fun l : List It => l) (readsZ_slice Try.underlying40 k42 (by decide) bItem It.enc_len (rIt n).z) ?_ (fun _ => rfl)
    rintro l ⟨h1, h2, h3⟩
    refine ⟨⟨h1, h3⟩, ?_⟩
    have h5 : reachBytes = 140737488351232 := rfl
    unfold itemsOk maxItems
    omega
theorem rAcZ (n : Nat) : ReadsZ Try.prog W n 59 Ac.okZ Ac.enc := by
  cases n with
  | zero => exact readsZ_zero
  | succ n =>
    refine ReadsZ.map (fun x : Int × Str × Int × Sta × List It × Unit => (⟨x.1, x.2.1, x.2.2.1, x.2.2.2.1, x.2.2.2.2.1⟩ : Ac)) (readsZ_struct Try.underlying59 rfl k59 (freadsZ_cons (by exact (rI n).z) (by exact k3) (by exact (fun _ => rfl)) (by rfl) (freadsZ_cons (by exact (rS n).z) (by exact k9) (by exact (fun _ => rfl)) (by rfl) (freadsZ_cons (by exact (rI n).z) (by exact k3) (by exact (fun _ => rfl)) (by rfl) (freadsZ_cons (by exact (rSta n).z) (by exact k39) (by exact (fun _ => rfl)) (by rfl) (freadsZ_cons (by exact (rItsZ n)) (by exact k40) (by exact (fun _ => rfl)) (by rfl) freadsZ_nil))))) (by exact fun _ => rfl)) ?_ ?_
    · rintro ⟨a, b, c, d, e, _⟩ ⟨h1, h2, h3, h4, h5, _⟩; exact ⟨⟨h1, h2, h3, h4, h5.1⟩, h5.2⟩
    · rintro ⟨a, b, c, d, e, _⟩; rfl
theorem rAcsZ (n : Nat) : ReadsZ Try.prog W n 56 (okL Ac.okZ) (fun l => [.sl 7 (l.map Ac.enc)]) := by
  cases n with
  | zero => exact readsZ_zero
  | succ n =>
    refine ReadsZ.map (fun l : List Ac => l) (readsZ_slice Try.underlying56 k59 (by decide) bAct (fun _ => rfl) (rAcZ n)) ?_ (fun _ => rfl)
    rintro l ⟨h1, h2, h3⟩
    exact ⟨h1, h3⟩
theorem rGzZ (n : Nat) : ReadsZ Try.prog W n 61 Gz.okZ Gz.enc := by
  cases n with
  | zero => exact readsZ_zero
  | succ n =>
    refine ReadsZ.map (fun x : Int × Int × Str × List Ac × Unit => (⟨x.1, x.2.1, x.2.2.1, x.2.2.2.1⟩ : Gz)) (readsZ_struct Try.underlying61 rfl k61 (freadsZ_cons (by exact (rI n).z) (by exact k3) (by exact (fun _ => rfl)) (by rfl) (freadsZ_cons (by exact (rI n).z) (by exact k3) (by exact (fun _ => rfl)) (by rfl) (freadsZ_cons (by exact (rS n).z) (by exact k9) (by exact (fun _ => rfl)) (by rfl) (freadsZ_cons (by exact (rAcsZ n)) (by exact k56) (by exact (fun _ => rfl)) (by rfl) freadsZ_nil)))) (by exact fun _ => rfl)) ?_ ?_
    · rintro ⟨a, b, c, d, _⟩ ⟨h1, h2, h3, h4, _⟩; exact ⟨h1, h2, h3, h4⟩
    · rintro ⟨a, b, c, d, _⟩; rfl
theorem rGzsZ (n : Nat) : ReadsZ Try.prog W n 22 (okL Gz.okZ) (fun l => [.sl 4 (l.map Gz.enc)]) := by
  cases n with
  | zero => exact readsZ_zero
  | succ n =>
    refine ReadsZ.map (fun l : List Gz => l) (readsZ_slice Try.underlying22 k61 (by decide) bGz (fun _ => rfl) (rGzZ n)) ?_ (fun _ => rfl)
    rintro l ⟨h1, h2, h3⟩
    exact ⟨h1, h3⟩
theorem rU8 (n : Nat) : Reads Try.prog W n 5 (fun a => (Lit.int .u8 a).wf = true) (fun a => [.int .u8 a]) := reads_int Try.underlying5
end Go.Proofs.Ytcjaojhbebpokaa.rd

