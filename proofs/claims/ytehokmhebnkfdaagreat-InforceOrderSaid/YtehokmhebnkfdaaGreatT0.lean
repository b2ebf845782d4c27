import Derived.Test.YtehokmhebnkfdaaGreatI4
set_option linter.all false
namespace Go.Proofs.YtehokmhebnkfdaaGreat.w
open Go Go.VM
theorem T_irr (a:Str):¬ a < a:=List.lt_irrefl a
theorem T_trans {a b c:Str} (h:a < b) (k:b < c):a < c:=List.lt_trans h k
theorem T_le {a b:Str}:a ≤ b ↔ a < b ∨ a = b:=by
  constructor
  · intro h
    by_cases h1:a < b
    · exact .inl h1
    · exact .inr (List.le_antisymm h (List.not_lt.1 h1))
  · rintro (h | rfl)
    · exact List.not_lt.1 fun h2=>T_irr _ (T_trans h h2)
    · exact List.not_lt.1 (T_irr _)
theorem T_tri (a b:Str):a < b ∨ a = b ∨ b < a:=by
  by_cases h:a < b
  · exact .inl h
  · rcases T_le.1 (List.not_lt.1 h) with h | h
    · exact .inr (.inr h)
    · exact .inr (.inl h.symm)
theorem get_bangT {d:Array Str} {i:Nat} (h:i < d.size):d[i]! = d[i]:=getElem!_pos d i h
theorem compact_upT {d:Array Str} (hs:∀ i j,i ≤ j → j < d.size → d[i]! ≤ d[j]!):∀ m,m ≤ d.size → (Lib.compactUpTo d m).Pairwise (· < ·) ∧ ∀ x,x ∈ Lib.compactUpTo d m ↔ ∃ j,j < m ∧ d[j]! = x
  | 0,_=>⟨.nil,fun x=>⟨fun h=>(by cases h),fun ⟨j,hj,_⟩=>by cases hj⟩⟩
  | m + 1,hm=>by
    obtain ⟨i1,i2⟩:=compact_upT hs m (by omega)
    rw [Lib.compactUpTo_succ]
    have hmem:∀ x,(∃ j,j < m + 1 ∧ d[j]! = x) ↔ (∃ j,j < m ∧ d[j]! = x) ∨ d[m]! = x:=fun x=>by
      constructor
      · rintro ⟨j,hj,h⟩
        rcases Nat.lt_or_eq_of_le (Nat.le_of_lt_succ hj) with h1 | rfl
        · exact .inl ⟨j,h1,h⟩
        · exact .inr h
      · rintro (⟨j,hj,h⟩ | h)
        · exact ⟨j,by omega,h⟩
        · exact ⟨m,by omega,h⟩
    cases hk:Lib.keeps d m with
    | true =>
      simp only [Lib.keeps,decide_eq_true_eq] at hk
      refine ⟨?_,fun x=>?_⟩
      · rw [if_pos rfl,List.pairwise_append]
        refine ⟨i1,List.pairwise_singleton _ _,fun a ha b hb=>?_⟩
        rw [List.mem_singleton] at hb
        subst hb
        obtain ⟨j,hj,rfl⟩:=(i2 a).1 ha
        rcases hk with rfl | hk
        · cases hj
        · have h1:=hs j (m - 1) (by omega) (by omega)
          have h2:=hs (m - 1) m (by omega) (by omega)
          have h3:d[m - 1]! < d[m]!:=by
            rcases T_le.1 h2 with h | h
            · exact h
            · exact absurd h.symm hk
          rcases T_le.1 h1 with h | h
          · exact T_trans h h3
          · rw [h]; exact h3
      · rw [if_pos rfl,List.mem_append,i2,List.mem_singleton,hmem,eq_comm (a:=x)]
    | false =>
      simp only [Lib.keeps,decide_eq_false_iff_not,not_or,Decidable.not_not] at hk
      refine ⟨by simpa using i1,fun x=>?_⟩
      rw [hmem]
      simp only [Bool.false_eq_true,if_false,List.append_nil,i2]
      constructor
      · exact .inl
      · rintro (h | h)
        · exact h
        · exact ⟨m - 1,by omega,by rw [← hk.2]; exact h⟩
theorem compact_sortedT {zs:List Str} (hs:zs.Pairwise (· ≤ ·)):(Lib.compact zs).Pairwise (· < ·) ∧ ∀ x,x ∈ Lib.compact zs ↔ x ∈ zs:=by
  have hs':∀ i j,i ≤ j → j < zs.toArray.size → zs.toArray[i]! ≤ zs.toArray[j]!:=fun i j hij hj=>by
    rw [get_bangT (d:=zs.toArray) hj,get_bangT (d:=zs.toArray) (Nat.lt_of_le_of_lt hij hj)]
    simp only [List.getElem_toArray]
    rcases Nat.lt_or_eq_of_le hij with h | rfl
    · exact List.pairwise_iff_getElem.1 hs i j _ _ h
    · exact T_le.2 (.inr rfl)
  obtain ⟨h1,h2⟩:=compact_upT hs' zs.length (by simp)
  refine ⟨h1,fun x=>(h2 x).trans ?_⟩
  constructor
  · rintro ⟨j,hj,rfl⟩
    rw [get_bangT (d:=zs.toArray) (by simpa using hj)]
    simp
  · intro h
    obtain ⟨j,hj,rfl⟩:=List.mem_iff_getElem.1 h
    exact ⟨j,hj,by rw [get_bangT (d:=zs.toArray) (by simpa using hj)]; simp⟩
theorem sortT_sorted (zs:List Str):(sortT zs).Pairwise (· ≤ ·):=by
  have := List.pairwise_mergeSort (le := fun a b : Str => decide (a ≤ b)) (fun a b c h1 h2 => by
      simp only [decide_eq_true_eq] at *
      rcases T_le.1 h1 with h | rfl
      · rcases T_le.1 h2 with k | rfl
        · exact T_le.2 (.inl (T_trans h k))
        · exact h1
      · exact h2) (fun a b=>by
      simp only [Bool.or_eq_true,decide_eq_true_eq]
      rcases T_tri a b with h | h | h
      · exact .inl (T_le.2 (.inl h))
      · exact .inl (T_le.2 (.inr h))
      · exact .inr (T_le.2 (.inl h))) zs
  exact this.imp (by simp)
theorem pur_spec (l:List Gz):(purS l).Pairwise (· < ·) ∧ ∀ x,x ∈ purS l ↔ x ∈ Zdm (chgS l):=by
  obtain ⟨h1,h2⟩:=compact_sortedT (sortT_sorted (Zdm (chgS l)))
  exact ⟨h1,fun x=>(h2 x).trans (List.mergeSort_perm ..).mem_iff⟩
end Go.Proofs.YtehokmhebnkfdaaGreat.w
