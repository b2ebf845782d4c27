/-
  Plain laws: a further gazette.
-/
import Derived.Test.YtcjaojhbebpokaaQ2
set_option linter.all false
namespace Go.Proofs.Ytcjaojhbebpokaa.w
open Go Go.VM
set_option maxRecDepth 20000
set_option maxHeartbeats 0
theorem fstA_append : ∀ (r q : List Ac) (s : List Int), fstA s (r ++ q) = fstA s r ++ fstA (s ++ r.map Ac.number) q
  | [], q, s => by simp [fstA]
  | x :: r, q, s => by
    simp only [List.cons_append, fstA]
    split
    · rename_i hx
      rw [fstA_append r q s]
      congr 1
      exact fstA_congr q _ _ fun n => by
        simp only [List.mem_append, List.map_cons, List.mem_cons]
        constructor
        · rintro (h | h)
          · exact .inl h
          · exact .inr (.inr h)
        · rintro (h | h | h)
          · exact .inl h
          · exact .inl (by rw [h]; exact hx)
          · exact .inr h
    · rw [fstA_append r q (x.number :: s), List.cons_append]
      congr 2
      exact fstA_congr q _ _ fun n => by
        simp only [List.cons_append, List.mem_append, List.map_cons, List.mem_cons]
        constructor
        · rintro (h | h | h)
          · exact .inr (.inl h)
          · exact .inl h
          · exact .inr (.inr h)
        · rintro (h | h | h)
          · exact .inr (.inl h)
          · exact .inl h
          · exact .inr (.inr h)
theorem actsS_filter (row new : List Ac) : (actsS (row ++ new)).filter (fun a => decide (a.number ∈ row.map Ac.number)) = actsS row := by
  refine actsS_unique ?_ ((actsS_sorted _).sublist List.filter_sublist)
  have h1 := (actsS_perm (row ++ new)).filter (fun a => decide (a.number ∈ row.map Ac.number))
  rw [fstA_append, List.filter_append] at h1
  have h2 : (fstA [] row).filter (fun a => decide (a.number ∈ row.map Ac.number)) = fstA [] row := List.filter_eq_self.2 fun a ha => decide_eq_true (List.mem_map_of_mem ((fst_sub row []).subset ha))
  have h3 : (fstA ([] ++ row.map Ac.number) new).filter (fun a => decide (a.number ∈ row.map Ac.number)) = [] := List.filter_eq_nil_iff.2 fun a ha => by
    have := ((fstA_spec new ([] ++ row.map Ac.number)).2 a ha).1
    simpa using this
  rw [h2, h3, List.append_nil] at h1
  exact h1
theorem mem_acts_more {row new : List Ac} {a : Ac} (h : a ∈ actsS row) : a ∈ actsS (row ++ new) := by
  rw [← actsS_filter row new] at h
  exact (List.mem_filter.1 h).1
theorem fix_filter (k : Int × Int) : ∀ (xs : List It) (o : Option It), xs.foldl (fixAt k) o = (xs.filter (hitB k)).foldl (fixAt k) o
  | [], _ => rfl
  | x :: r, o => by
    cases hh : hitB k x with
    | true => rw [List.filter_cons_of_pos (by exact hh), List.foldl_cons, List.foldl_cons]; exact fix_filter k r _
    | false =>
      rw [List.filter_cons_of_neg (by rw [hh]; exact Bool.false_ne_true), List.foldl_cons]
      have : fixAt k o x = o := by
        unfold fixAt
        unfold hitB at hh
        cases hf : fixOf x with
        | none => rfl
        | some p => rw [hf] at hh; simp only at hh ⊢; rw [if_neg (by simpa using hh)]
      rw [this]; exact fix_filter k r o
theorem flatMap_filter {α β : Type} (p : α → Bool) (f : α → List β) : ∀ (l : List α), (∀ a ∈ l, p a = false → f a = []) → (l.filter p).flatMap f = l.flatMap f
  | [], _ => rfl
  | x :: r, h => by
    have ih := flatMap_filter p f r (fun a ha => h a (List.mem_cons_of_mem _ ha))
    cases hp : p x with
    | true => rw [List.filter_cons_of_pos (by exact hp), List.flatMap_cons, List.flatMap_cons, ih]
    | false => rw [List.filter_cons_of_neg (by rw [hp]; exact Bool.false_ne_true), List.flatMap_cons, h x List.mem_cons_self hp, ih]; rfl
/-- Does an item correct this place? -/
def nameB (n i : Int) (x : It) : Bool := x.kind == 11 && x.act == n && x.item == i
theorem hit_name {n i : Int} {x : It} (h : hitB (n, i) x = true) : nameB n i x = true := by
  unfold hitB at h
  cases hf : fixOf x with
  | none => rw [hf] at h; cases h
  | some p =>
    rw [hf] at h
    have hp := of_decide_eq_true h
    unfold fixOf at hf
    split at hf
    · rename_i hk
      split at hf
      · cases hf
      · split at hf
        · cases hf
          simp only [Prod.mk.injEq] at hp
          simp [nameB, hk, hp.1, hp.2]
        · cases hf
    · cases hf
theorem filter_flatMap' {α β : Type} (p : β → Bool) (f : α → List β) : ∀ l : List α, (l.flatMap f).filter p = l.flatMap fun a => (f a).filter p
  | [] => rfl
  | x :: r => by rw [List.flatMap_cons, List.filter_append, filter_flatMap' p f r, List.flatMap_cons]
/-- Corrections that the further acts do not name stay. -/
theorem corr_more {row new : List Ac} {n i : Int} (h : (itemsS new).any (nameB n i) = false) (it : It) : corrS (itemsS (actsS (row ++ new))) (n, i) it = corrS (itemsS (actsS row)) (n, i) it := by
  have hno : ∀ a ∈ new, a.items.filter (hitB (n, i)) = [] := fun a ha => List.filter_eq_nil_iff.2 fun x hx hh => by
    have h1 : x ∈ itemsS new := List.mem_flatMap.2 ⟨a, ha, hx⟩
    have := List.any_eq_false.1 h x h1
    exact this (hit_name hh)
  have he : (itemsS (actsS (row ++ new))).filter (hitB (n, i)) = (itemsS (actsS row)).filter (hitB (n, i)) := by
    unfold itemsS
    rw [filter_flatMap', filter_flatMap', ← actsS_filter row new]
    refine (flatMap_filter _ _ _ fun a ha hp => ?_).symm
    have hm := mem_actsS ha
    rcases List.mem_append.1 hm with h1 | h1
    · exfalso
      have := of_decide_eq_false hp
      exact this (List.mem_map_of_mem h1)
    · exact hno a h1
  unfold corrS
  rw [fix_filter, he, ← fix_filter]
theorem rowG_one (g : Gz) : rowG [g] = g.acts := by simp [rowG]
/-- What a further gazette leaves. -/
theorem fnd_more {l : List Gz} {g : Gz} {d : EI} (hd : d ∈ deedsS (actsS (rowG l))) : ∃ x, fnd d.act d.item (l ++ [g]) = some x ∧ x.day = d.day ∧ ((itemsS g.acts).any (nameB d.act d.item) = false → x = d) := by
  obtain ⟨a, ha, j, hj, rfl⟩ := mem_deedsF.1 hd
  have hrow : rowG (l ++ [g]) = rowG l ++ g.acts := by rw [rowG_app, rowG_one]
  refine ⟨⟨a.number, (j : Nat), a.day, corrS (itemsS (actsS (rowG (l ++ [g])))) (a.number, (j : Nat)) a.items[j]⟩, ?_, rfl, fun hnm => ?_⟩
  · refine fnd_mem (d := ⟨a.number, (j : Nat), a.day, corrS (itemsS (actsS (rowG (l ++ [g])))) (a.number, (j : Nat)) a.items[j]⟩) (mem_deedsF.2 ⟨a, ?_, j, hj, rfl⟩)
    rw [hrow]; exact mem_acts_more ha
  · rw [hrow, corr_more hnm]
end Go.Proofs.Ytcjaojhbebpokaa.w

