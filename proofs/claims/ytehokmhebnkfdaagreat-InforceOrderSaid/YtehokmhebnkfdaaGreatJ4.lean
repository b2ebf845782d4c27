import Derived.Test.YtehokmhebnkfdaaGreatSs
import Derived.Test.YtehokmhebnkfdaaGreatJ1
set_option linter.all false
namespace Go.Proofs.YtehokmhebnkfdaaGreat.w
open Go Go.VM
set_option maxRecDepth 20000
set_option maxHeartbeats 0
set_option pp.deepTerms false
theorem lt_ext:∀ {l m:List Int},l.Pairwise (· < ·) → m.Pairwise (· < ·) → (∀ x,x ∈ l ↔ x ∈ m) → l = m
  | [],[],_,_,_=>rfl
  | [],b :: m,_,_,h=>absurd ((h b).2 List.mem_cons_self) (by simp)
  | a :: l,[],_,_,h=>absurd ((h a).1 List.mem_cons_self) (by simp)
  | a :: l,b :: m,h1,h2,h=>by
    rw [List.pairwise_cons] at h1 h2
    have hab:a = b:=by
      rcases List.mem_cons.1 ((h a).1 List.mem_cons_self) with e | e
      · exact e
      · rcases List.mem_cons.1 ((h b).2 List.mem_cons_self) with e2 | e2
        · exact e2.symm
        · have:=h1.1 b e2; have:=h2.1 a e; omega
    subst hab
    rw [lt_ext h1.2 h2.2 fun x=>?_]
    constructor
    · intro hx
      rcases List.mem_cons.1 ((h x).1 (List.mem_cons_of_mem _ hx)) with rfl | e
      · exact absurd (h1.1 _ hx) (by omega)
      · exact e
    · intro hx
      rcases List.mem_cons.1 ((h x).2 (List.mem_cons_of_mem _ hx)) with rfl | e
      · exact absurd (h2.1 _ hx) (by omega)
      · exact e
def putS (l:List Int) (n:Int):List Int :=
  if (l.dropWhile fun x=>decide (x < n)).head? = some n then l else (l.takeWhile fun x=>decide (x < n)) ++ n :: l.dropWhile fun x=>decide (x < n)
theorem mem_putS (l:List Int) (n x:Int):x ∈ putS l n ↔ x = n ∨ x ∈ l:=by
  have e:=List.takeWhile_append_dropWhile (p:=fun x=>decide (x < n)) (l:=l)
  unfold putS
  split
  · rename_i h
    have hn:n ∈ l:=(List.dropWhile_sublist _).subset (List.mem_of_mem_head? (by rw [h]; rfl))
    constructor
    · exact .inr
    · rintro (rfl | h)
      · exact hn
      · exact h
  · have e2 : x ∈ l ↔ (x ∈ l.takeWhile fun x => decide (x < n)) ∨ x ∈ l.dropWhile fun x => decide (x < n) := by
      rw [← List.mem_append,e]
    rw [List.mem_append,List.mem_cons,e2]
    constructor
    · rintro (h | h | h)
      · exact .inr (.inl h)
      · exact .inl h
      · exact .inr (.inr h)
    · rintro (h | h | h)
      · exact .inr (.inl h)
      · exact .inl h
      · exact .inr (.inr h)
theorem putS_lt {l:List Int} (h:l.Pairwise (· < ·)) (n:Int):(putS l n).Pairwise (· < ·):=by
  have e:=List.takeWhile_append_dropWhile (p:=fun x=>decide (x < n)) (l:=l)
  unfold putS
  split
  · exact h
  · rename_i hne
    have hb:∀ x ∈ l.takeWhile fun x=>decide (x < n),x < n:=fun x hx=>by
      have:=List.all_eq_true.1 (List.all_takeWhile (p:=fun x=>decide (x < n)) (l:=l)) x hx
      simpa using this
    rw [← e] at h
    rw [List.pairwise_append] at h ⊢
    obtain ⟨h1,h2,h3⟩:=h
    have hc:∀ x ∈ l.dropWhile fun x=>decide (x < n),n < x:=by
      cases hd:l.dropWhile fun x=>decide (x < n) with
      | nil=>simp
      | cons y r =>
        rw [hd] at hne h2
        have hy:¬ y < n:=by
          have:=List.head?_dropWhile_not (fun x=>decide (x < n)) l
          rw [hd] at this
          simpa using this
        have hyn:y ≠ n:=fun h=>hne (by rw [h]; rfl)
        intro x hx
        rcases List.mem_cons.1 hx with rfl | hx
        · omega
        · have:=(List.pairwise_cons.1 h2).1 x hx; omega
    refine ⟨h1,List.pairwise_cons.2 ⟨hc,h2⟩,fun x hx y hy=>?_⟩
    rcases List.mem_cons.1 hy with rfl | hy
    · exact hb x hx
    · exact h3 x hx y hy
theorem fold_put (E:List Int):∀ (o:List Int),o.Pairwise (· < ·) → (E.foldl putS o).Pairwise (· < ·) ∧ ∀ x,x ∈ E.foldl putS o ↔ x ∈ o ∨ x ∈ E:=by
  induction E with
  | nil=>exact fun o h=>⟨h,fun x=>by simp⟩
  | cons e E ih =>
    intro o h
    obtain ⟨i1,i2⟩:=ih (putS o e) (putS_lt h e)
    refine ⟨i1,fun x=>(i2 x).trans ?_⟩
    rw [mem_putS,List.mem_cons]
    constructor
    · rintro ((h | h) | h)
      · exact .inr (.inl h)
      · exact .inl h
      · exact .inr (.inr h)
    · rintro (h | h | h)
      · exact .inl (.inr h)
      · exact .inl (.inl h)
      · exact .inr h
theorem bp_fold (l:List Gz):bpS l = ((chgS l).flatMap fun d=>c.edges (Zcj l d)).foldl putS [0]:=by
  obtain ⟨h1,h2⟩:=fold_put ((chgS l).flatMap fun d=>c.edges (Zcj l d)) [0] (List.pairwise_singleton _ _)
  obtain ⟨g1,g2⟩:=compact_sorted (c.sortI_sorted (Zci l (chgS l)))
  refine lt_ext g1 h1 fun x=>?_
  rw [h2]
  refine (g2 x).trans ((List.mergeSort_perm ..).mem_iff.trans ?_)
  unfold Zci
  simp
end Go.Proofs.YtehokmhebnkfdaaGreat.w
