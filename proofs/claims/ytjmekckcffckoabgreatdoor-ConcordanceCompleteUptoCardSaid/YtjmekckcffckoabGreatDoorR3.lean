import Derived.Test.YtjmekckcffckoabGreatDoorK6
import Derived.Test.YtjmekckcffckoabGreatDoorK3
set_option linter.all false
namespace Go.Proofs.YtjmekckcffckoabGreatDoor.w
open Go Go.VM
set_option maxRecDepth 20000
set_option maxHeartbeats 0
set_option pp.deepTerms false
theorem fldF_count:∀ (s cur:Str),(cutF cur s).length ≤ s.length + 1
  | [],cur=>by unfold cutF; simp
  | b :: r,cur=>by
    unfold cutF
    split
    · have:=fldF_count r []
      simp only [List.length_cons]; omega
    · have:=fldF_count r (cur ++ [b])
      simp only [List.length_cons]; omega
end Go.Proofs.YtjmekckcffckoabGreatDoor.w
namespace Go.Proofs.YtjmekckcffckoabGreatDoor.w
open Go Go.VM
section
variable {α : Type} [DecidableEq α]
end
def ltT (a b:Str):Bool:=decide (a < b)
end Go.Proofs.YtjmekckcffckoabGreatDoor.w
namespace Go.Proofs.YtjmekckcffckoabGreatDoor.w
open Go Go.VM
set_option maxRecDepth 20000
theorem leB_sorted (zs:List Str):(zs.mergeSort leB).Pairwise (· ≤ ·):=by
  have := List.pairwise_mergeSort (le := leB) (fun a b c h1 h2 => by
      unfold leB at *
      simp only [decide_eq_true_eq] at *
      exact List.le_trans h1 h2) (fun a b=>by
      unfold leB
      simp only [Bool.or_eq_true,decide_eq_true_eq]
      exact List.le_total a b) zs
  exact this.imp (by simp [leB])
theorem keysS_lt (l:List Pg):(Zcy l).Pairwise (fun a b=>ltT a b = true):=by
  have h1:(Zcy l).Pairwise (· ≤ ·):=leB_sorted _
  have h2:(Zcy l).Pairwise (· ≠ ·):=keysS_nod l
  refine (h1.and h2).imp fun {a b} h=>?_
  unfold ltT
  simp only [decide_eq_true_eq]
  by_cases h3:a < b
  · exact h3
  · exact absurd (List.le_antisymm h.1 (List.not_lt.1 h3)) h.2
theorem findP_eq (s:Str) (l:List Pg):(findP s (Zcn l)).getD [] = Zcd (Zco l s):=by
  have key:∀ K:List Str,(findP s (K.map fun s=>(s,Zcd (Zco l s)))) = if s ∈ K then some (Zcd (Zco l s)) else none:=by
    intro K
    induction K with
    | nil=>simp [findP]
    | cons a K ih =>
      unfold findP at *
      rw [List.map_cons,List.find?_cons]
      by_cases h:a = s
      · subst h; simp
      · have e1:((a,Zcd (Zco l a)).1 == s) = false:=by simpa using h
        have e2:s ∈ a :: K ↔ s ∈ K:=by rw [List.mem_cons]; exact ⟨fun h1=>h1.resolve_left fun h2=>h h2.symm,.inr⟩
        rw [e1,ih]
        by_cases h3:s ∈ K
        · rw [if_pos h3,if_pos (e2.2 h3)]
        · rw [if_neg h3,if_neg fun h4=>h3 (e2.1 h4)]
  unfold Zcn
  rw [key]
  split
  · rfl
  · rename_i h
    have:Zco l s = []:=by
      unfold Zco
      rw [List.map_eq_nil_iff,List.filter_eq_nil_iff]
      intro y hy e
      exact h ((keysS_mem l s).2 ⟨y,hy,by simpa using e⟩)
    rw [this]
    exact (List.eq_nil_of_length_eq_zero (by have:=onceI_len ([]:List Int); simpa using this)).symm
end Go.Proofs.YtjmekckcffckoabGreatDoor.w
