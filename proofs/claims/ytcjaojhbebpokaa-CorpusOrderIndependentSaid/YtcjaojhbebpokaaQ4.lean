/-
  Plain laws: the order of the gazettes, where no act is a duplicate.
-/
import Derived.Test.YtcjaojhbebpokaaH11
set_option linter.all false
namespace Go.Proofs.Ytcjaojhbebpokaa.w
open Go Go.VM
set_option maxRecDepth 20000
set_option maxHeartbeats 0
theorem dupA_nil : ∀ (r : List Ac) (s : List Int), dupA s r = [] → (∀ x ∈ r, x.number ∉ s) ∧ r.Pairwise (fun a b => a.number ≠ b.number)
  | [], _, _ => ⟨fun _ h => (List.not_mem_nil h).elim, List.Pairwise.nil⟩
  | x :: r, s, h => by
    unfold dupA at h
    split at h
    · cases h
    · rename_i hx
      obtain ⟨h1, h2⟩ := dupA_nil r (x.number :: s) h
      refine ⟨fun y hy => ?_, List.pairwise_cons.2 ⟨fun y hy e => h1 y hy (by rw [e]; exact List.mem_cons_self), h2⟩⟩
      rcases List.mem_cons.1 hy with rfl | hy'
      · exact hx
      · exact fun hh => h1 y hy' (List.mem_cons_of_mem _ hh)
theorem fst_all : ∀ (r : List Ac) (s : List Int), (∀ x ∈ r, x.number ∉ s) → r.Pairwise (fun a b => a.number ≠ b.number) → fstA s r = r
  | [], _, _, _ => rfl
  | x :: r, s, h1, h2 => by
    obtain ⟨h3, h4⟩ := List.pairwise_cons.1 h2
    rw [fstA, if_neg (h1 x List.mem_cons_self), fst_all r (x.number :: s) (fun y hy => ?_) h4]
    simp only [List.mem_cons, not_or]
    exact ⟨fun e => h3 y hy e.symm, h1 y (List.mem_cons_of_mem _ hy)⟩
theorem once_distinct {row : List Ac} (h : ((twiceS row).length : Int) = 0) : row.Pairwise (fun a b => a.number ≠ b.number) := by
  refine (dupA_nil row [] ?_).2
  unfold twiceS at h
  cases hd : dupA [] row with
  | nil => rfl
  | cons n q =>
    exfalso
    rw [hd, List.foldl_cons] at h
    have h1 := putN_len [] n
    have h2 := putN_fold q (putN [] n)
    omega
theorem acts_perm {r q : List Ac} (h : r.Perm q) (hd : q.Pairwise (fun a b => a.number ≠ b.number)) : actsS r = actsS q := by
  have hd' : r.Pairwise (fun a b => a.number ≠ b.number) := (h.pairwise_iff (fun {_ _} h => Ne.symm h)).2 hd
  refine actsS_unique ((actsS_perm r).trans ?_) (actsS_sorted r)
  rw [fst_all r [] (fun _ _ hh => (List.not_mem_nil hh).elim) hd', fst_all q [] (fun _ _ hh => (List.not_mem_nil hh).elim) hd]
  exact h
/-- Where the k-th of the turned list stood. -/
def turnI (L n q : Nat) : Nat := (L - 1 - q + n) % L
def turnS (l : List Gz) (n k : Nat) : List Gz := (List.range k).map fun q => l.getD (turnI l.length n q) default
theorem turnI_val {L n q : Nat} (hn : n < L) (hq : q < L) : turnI L n q = if L - 1 - q + n < L then L - 1 - q + n else L - 1 - q + n - L := by
  unfold turnI
  split
  · rename_i h; exact Nat.mod_eq_of_lt h
  · rename_i h
    rw [Nat.mod_eq_sub_mod (by omega), Nat.mod_eq_of_lt (by omega)]
theorem turn_perm (l : List Gz) {n : Nat} (hn : n < l.length) : (turnS l n l.length).Perm l := by
  have h1 : ((List.range l.length).map fun q => turnI l.length n q).Perm (List.range l.length) := by
    refine (List.perm_ext_iff_of_nodup ?_ List.nodup_range).2 fun a => ?_
    · unfold List.Nodup
      rw [List.pairwise_map]
      refine List.Pairwise.imp_of_mem (fun {a b} ha hb hab => ?_) List.pairwise_lt_range
      have ha := List.mem_range.1 ha
      have hb := List.mem_range.1 hb
      rw [turnI_val hn ha, turnI_val hn hb]
      split <;> split <;> omega
    · simp only [List.mem_map, List.mem_range]
      constructor
      · rintro ⟨q, hq, rfl⟩
        exact Nat.mod_lt _ (by omega)
      · intro ha
        rcases Nat.lt_or_ge a n with h | h
        · refine ⟨n - 1 - a, by omega, ?_⟩
          rw [turnI_val hn (by omega), if_neg (by omega)]; omega
        · refine ⟨l.length - 1 + n - a, by omega, ?_⟩
          rw [turnI_val hn (by omega), if_pos (by omega)]; omega
  have h2 := h1.map (fun i => l.getD i default)
  rw [List.map_map] at h2
  have h3 : (List.range l.length).map (fun i => l.getD i default) = l := by
    refine List.ext_getElem (by simp) fun i h1 h2 => ?_
    simp [List.getD_eq_getElem?_getD, h2]
  rw [h3] at h2
  exact h2
theorem Nice.perm {l m : List Gz} (h : Nice l) (hp : m.Perm l) : Nice m := by
  have hr : (rowG m).Perm (rowG l) := hp.flatMap_right _
  exact ⟨fun g hg => h.ok g (hp.mem_iff.1 hg), by rw [hp.length_eq]; exact h.len, by rw [hr.length_eq]; exact h.row, by rw [itemsS_perm hr]; exact h.items⟩
end Go.Proofs.Ytcjaojhbebpokaa.w

