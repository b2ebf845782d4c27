/-
  Plain laws: the enacted items are in strict order, each is found.
-/
import Derived.Test.YtcjaojhbebpokaaH9
set_option linter.all false
namespace Go.Proofs.Ytcjaojhbebpokaa.w
open Go Go.VM
set_option maxRecDepth 20000
set_option maxHeartbeats 0
def ltE (a b : EI) : Prop := a.day < b.day ∨ a.day = b.day ∧ (a.act < b.act ∨ a.act = b.act ∧ a.item < b.item)
theorem cmpE_spec (a b : EI) : cmpE a b = -1 ∧ ltE a b ∨ cmpE a b = 0 ∧ a.day = b.day ∧ a.act = b.act ∧ a.item = b.item ∨ cmpE a b = 1 ∧ ltE b a := by
  simp only [cmpE, orI, cmpI, ltE]
  repeat' split
  all_goals omega
def ltA (a b : Ac) : Prop := a.day < b.day ∨ a.day = b.day ∧ a.number < b.number
theorem acts_num (row : List Ac) : (actsS row).Pairwise (fun a b => a.number ≠ b.number) :=
  ((actsS_perm row).pairwise_iff (fun {_ _} h => Ne.symm h)).2 (fstA_spec row []).1
theorem acts_lt (row : List Ac) : (actsS row).Pairwise ltA := by
  refine List.Pairwise.imp₂ (fun a b h1 h2 => ?_) (actsS_sorted row) (acts_num row)
  rw [leA_iff] at h1
  unfold ltA
  omega
theorem acts_inj {row : List Ac} {a b : Ac} (ha : a ∈ actsS row) (hb : b ∈ actsS row) (h : a.number = b.number) : a = b := number_inj (acts_num row) a ha b hb h
theorem deedsFrom_lt (n d : Int) : ∀ (l : List It) (k : Nat), (deedsFrom n d k l).Pairwise (fun a b => ltE a b)
  | [], _ => List.Pairwise.nil
  | x :: r, k => by
    refine List.pairwise_cons.2 ⟨fun y hy => ?_, deedsFrom_lt n d r (k + 1)⟩
    obtain ⟨j, hj, rfl⟩ := deed_mem hy
    unfold ltE
    right; refine ⟨rfl, .inr ⟨rfl, ?_⟩⟩
    show (k : Int) < ((k + 1 + j : Nat) : Int)
    omega
theorem ltE_fix (xs : List It) (a b : EI) : ltE (fixE xs a) (fixE xs b) ↔ ltE a b := Iff.rfl
theorem deedsS_lt (row : List Ac) : (deedsS (actsS row)).Pairwise (fun a b => ltE a b) := by
  unfold deedsS deedsF
  generalize itemsS (actsS row) = xs
  rw [List.pairwise_flatMap]
  refine ⟨fun a _ => ?_, List.Pairwise.imp (fun {a b} h x hx y hy => ?_) (acts_lt row)⟩
  · rw [List.pairwise_map]
    exact deedsFrom_lt _ _ _ _
  · obtain ⟨x', hx', rfl⟩ := List.mem_map.1 hx
    obtain ⟨y', hy', rfl⟩ := List.mem_map.1 hy
    obtain ⟨j, hj, rfl⟩ := deed_mem (by simpa [deeds] using hx')
    obtain ⟨j', hj', rfl⟩ := deed_mem (by simpa [deeds] using hy')
    rw [ltE_fix]
    unfold ltE ltA at *
    rcases h with h | ⟨h1, h2⟩
    · exact .inl h
    · exact .inr ⟨h1, .inl h2⟩
theorem cmpE_lt {a b : EI} (h : ltE a b) : cmpE a b = -1 := by
  have := cmpE_spec a b
  unfold ltE at *
  omega
theorem deedsS_inj {row : List Ac} {d e : EI} (hd : d ∈ deedsS (actsS row)) (he : e ∈ deedsS (actsS row)) (h1 : d.act = e.act) (h2 : d.item = e.item) : d = e := by
  obtain ⟨a, ha, j, hj, rfl⟩ := mem_deedsF.1 hd
  obtain ⟨b, hb, k, hk, rfl⟩ := mem_deedsF.1 he
  simp only at h1 h2
  obtain rfl := acts_inj ha hb h1
  obtain rfl : j = k := by omega
  rfl
theorem fnd_mem {l : List Gz} {d : EI} (hd : d ∈ deedsS (actsS (rowG l))) : fnd d.act d.item l = some d := by
  unfold fnd
  cases hf : (deedsS (actsS (rowG l))).find? (atB d.act d.item) with
  | none =>
    have := List.find?_eq_none.1 hf d hd
    simp [atB] at this
  | some e =>
    have h1 := List.mem_of_find?_eq_some hf
    have h2 := List.find?_some hf
    simp only [atB, Bool.and_eq_true, beq_iff_eq] at h2
    rw [deedsS_inj h1 hd h2.1 h2.2]
theorem fnd_some {n i : Int} {l : List Gz} {d : EI} (h : fnd n i l = some d) : d ∈ deedsS (actsS (rowG l)) ∧ d.act = n ∧ d.item = i := by
  have h2 := List.find?_some h
  simp only [atB, Bool.and_eq_true, beq_iff_eq] at h2
  exact ⟨List.mem_of_find?_eq_some h, h2.1, h2.2⟩
end Go.Proofs.Ytcjaojhbebpokaa.w

