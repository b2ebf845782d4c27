import Derived.Test.YtehokmhebnkfdaaGreatT0
set_option linter.all false
namespace Go.Proofs.YtehokmhebnkfdaaGreat.w
open Go Go.VM
theorem lt_extT:∀ {l m:List Str},l.Pairwise (· < ·) → m.Pairwise (· < ·) → (∀ x,x ∈ l ↔ x ∈ m) → l = m
  | [],[],_,_,_=>rfl
  | [],b :: m,_,_,h=>absurd ((h b).2 List.mem_cons_self) (by simp)
  | a :: l,[],_,_,h=>absurd ((h a).1 List.mem_cons_self) (by simp)
  | a :: l,b :: m,h1,h2,h=>by
    rw [List.pairwise_cons] at h1 h2
    have hab:a = b:=by
      rcases List.mem_cons.1 ((h a).1 List.mem_cons_self) with e | e
      · exact e
      · rcases List.mem_cons.1 ((h b).2 List.mem_cons_self) with e2 | e2
        · exact e2.symm
        · exact absurd (T_trans (h1.1 b e2) (h2.1 a e)) (T_irr a)
    subst hab
    rw [lt_extT h1.2 h2.2 fun x=>?_]
    constructor
    · intro hx
      rcases List.mem_cons.1 ((h x).1 (List.mem_cons_of_mem _ hx)) with rfl | e
      · exact absurd (h1.1 _ hx) (T_irr _)
      · exact e
    · intro hx
      rcases List.mem_cons.1 ((h x).2 (List.mem_cons_of_mem _ hx)) with rfl | e
      · exact absurd (h2.1 _ hx) (T_irr _)
      · exact e
theorem tw_eqT (p:Str → Bool):∀ (l:List Str) (k:Nat),k ≤ l.length → (∀ (j:Nat) (h:j < l.length),j < k → p l[j] = true) → (∀ h:k < l.length,p l[k] = false) → l.takeWhile p = l.take k ∧ l.dropWhile p = l.drop k
  | [],k,_,_,_=>by simp
  | a :: l,0,_,_,h2=>by
    have:p a = false:=h2 (by simp)
    simp [List.takeWhile_cons,List.dropWhile_cons,this]
  | a :: l,k + 1,hk,h1,h2=>by
    have ha:p a = true:=h1 0 (by simp) (by omega)
    have ih:=tw_eqT p l k (by simpa using hk) (fun j h hj=>h1 (j + 1) (by simpa using h) (by omega)) (fun h=>h2 (by simpa using h))
    simp [List.takeWhile_cons,List.dropWhile_cons,ha,ih.1,ih.2]
def putT (l:List Str) (n:Str):List Str :=
  if (l.dropWhile fun x=>decide (x < n)).head? = some n then l else (l.takeWhile fun x=>decide (x < n)) ++ n :: l.dropWhile fun x=>decide (x < n)
theorem putT_len (l:List Str) (n:Str):(putT l n).length ≤ l.length + 1:=by
  unfold putT
  split
  · omega
  · have:=congrArg List.length (List.takeWhile_append_dropWhile (p:=fun x=>decide (x < n)) (l:=l))
    rw [List.length_append] at this
    rw [List.length_append,List.length_cons]
    omega
theorem mem_putT (l:List Str) (n x:Str):x ∈ putT l n ↔ x = n ∨ x ∈ l:=by
  have e:=List.takeWhile_append_dropWhile (p:=fun x=>decide (x < n)) (l:=l)
  unfold putT
  split
  · rename_i h
    have hn:n ∈ l:=(List.dropWhile_sublist _).subset (List.mem_of_mem_head? (by rw [h]; rfl))
    constructor
    · exact .inr
    · rintro (rfl | h)
      · exact hn
      · exact h
  · have e2 : x ∈ l ↔ (x ∈ l.takeWhile fun x => decide (x < n)) ∨ x ∈ l.dropWhile fun x => decide (x < n) := by
      rw [← List.mem_append,e]
    rw [List.mem_append,List.mem_cons,e2]
    constructor
    · rintro (h | h | h)
      · exact .inr (.inl h)
      · exact .inl h
      · exact .inr (.inr h)
    · rintro (h | h | h)
      · exact .inr (.inl h)
      · exact .inl h
      · exact .inr (.inr h)
theorem putT_lt {l:List Str} (h:l.Pairwise (· < ·)) (n:Str):(putT l n).Pairwise (· < ·):=by
  have e:=List.takeWhile_append_dropWhile (p:=fun x=>decide (x < n)) (l:=l)
  unfold putT
  split
  · exact h
  · rename_i hne
    have hb:∀ x ∈ l.takeWhile fun x=>decide (x < n),x < n:=fun x hx=>by
      have:=List.all_eq_true.1 (List.all_takeWhile (p:=fun x=>decide (x < n)) (l:=l)) x hx
      simpa using this
    rw [← e] at h
    rw [List.pairwise_append] at h ⊢
    obtain ⟨h1,h2,h3⟩:=h
    have hc:∀ x ∈ l.dropWhile fun x=>decide (x < n),n < x:=by
      cases hd:l.dropWhile fun x=>decide (x < n) with
      | nil=>simp
      | cons y r =>
        rw [hd] at hne h2
        have hy:¬ y < n:=by
          have:=List.head?_dropWhile_not (fun x=>decide (x < n)) l
          rw [hd] at this
          simpa using this
        have hyn:y ≠ n:=fun h=>hne (by rw [h]; rfl)
        have hny:n < y:=by
          rcases T_tri n y with h | h | h
          · exact h
          · exact absurd h.symm hyn
          · exact absurd h hy
        intro x hx
        rcases List.mem_cons.1 hx with rfl | hx
        · exact hny
        · exact T_trans hny ((List.pairwise_cons.1 h2).1 x hx)
    refine ⟨h1,List.pairwise_cons.2 ⟨hc,h2⟩,fun x hx y hy=>?_⟩
    rcases List.mem_cons.1 hy with rfl | hy
    · exact hb x hx
    · exact h3 x hx y hy
theorem fold_putT (E:List Str):∀ (o:List Str),o.Pairwise (· < ·) → (E.foldl putT o).Pairwise (· < ·) ∧ ∀ x,x ∈ E.foldl putT o ↔ x ∈ o ∨ x ∈ E:=by
  induction E with
  | nil=>exact fun o h=>⟨h,fun x=>by simp⟩
  | cons e E ih =>
    intro o h
    obtain ⟨i1,i2⟩:=ih (putT o e) (putT_lt h e)
    refine ⟨i1,fun x=>(i2 x).trans ?_⟩
    rw [mem_putT,List.mem_cons]
    constructor
    · rintro ((h | h) | h)
      · exact .inr (.inl h)
      · exact .inl h
      · exact .inr (.inr h)
    · rintro (h | h | h)
      · exact .inl (.inr h)
      · exact .inl (.inl h)
      · exact .inr h
theorem pur_fold (l:List Gz):purS l = (Zdm (chgS l)).foldl putT []:=by
  obtain ⟨h1,h2⟩:=fold_putT (Zdm (chgS l)) [] .nil
  obtain ⟨g1,g2⟩:=pur_spec l
  refine lt_extT g1 h1 fun x=>?_
  rw [h2,g2]
  simp
theorem putT_fold_len (E:List Str):∀ o:List Str,(E.foldl putT o).length ≤ o.length + E.length:=by
  induction E with
  | nil=>exact fun o=>by simp
  | cons e E ih =>
    intro o
    have h1:=ih (putT o e)
    have h2:=putT_len o e
    simp only [List.foldl_cons,List.length_cons]
    omega
end Go.Proofs.YtehokmhebnkfdaaGreat.w
