import Derived.Test.YtehokmhebnkfdaaGreatQ2
set_option linter.all false
namespace Go.Proofs.YtehokmhebnkfdaaGreat.w
open Go Go.VM
set_option maxRecDepth 20000
set_option maxHeartbeats 0
theorem fstA_append:∀ (r q:List Ac) (s:List Int),fstA s (r ++ q) = fstA s r ++ fstA (s ++ r.map Ac.number) q
  | [],q,s=>by simp [fstA]
  | x :: r,q,s=>by
    simp only [List.cons_append,fstA]
    split
    · rename_i hx
      rw [fstA_append r q s]
      congr 1
      exact fstA_congr q _ _ fun n=>by
        simp only [List.mem_append,List.map_cons,List.mem_cons]
        constructor
        · rintro (h | h)
          · exact .inl h
          · exact .inr (.inr h)
        · rintro (h | h | h)
          · exact .inl h
          · exact .inl (by rw [h]; exact hx)
          · exact .inr h
    · rw [fstA_append r q (x.number :: s),List.cons_append]
      congr 2
      exact fstA_congr q _ _ fun n=>by
        simp only [List.cons_append,List.mem_append,List.map_cons,List.mem_cons]
        constructor
        · rintro (h | h | h)
          · exact .inr (.inl h)
          · exact .inl h
          · exact .inr (.inr h)
        · rintro (h | h | h)
          · exact .inr (.inl h)
          · exact .inl h
          · exact .inr (.inr h)
theorem rowG_one (g:Gz):rowG [g] = g.acts:=by simp [rowG]
end Go.Proofs.YtehokmhebnkfdaaGreat.w
