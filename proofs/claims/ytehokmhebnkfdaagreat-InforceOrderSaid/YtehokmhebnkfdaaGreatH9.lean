import Derived.Test.YtehokmhebnkfdaaGreatH2
import Derived.Test.YtehokmhebnkfdaaGreatH8
set_option linter.all false
namespace Go.Proofs.YtehokmhebnkfdaaGreat.w
open Go Go.VM
set_option maxRecDepth 20000
set_option maxHeartbeats 0
set_option pp.deepTerms false
end Go.Proofs.YtehokmhebnkfdaaGreat.w
namespace Go.Proofs.YtehokmhebnkfdaaGreat.w
open Go Go.VM
set_option maxRecDepth 20000
set_option maxHeartbeats 0
theorem fst_sub:∀ (r:List Ac) (s:List Int),(fstA s r).Sublist r
  | [],_=>List.Sublist.slnil
  | x :: r,s=>by
    unfold fstA
    split
    · exact (fst_sub r s).cons x
    · exact (fst_sub r _).cons_cons x
theorem actsS_perm (row:List Ac):(Zbr row).Perm (fstA [] row):=by
  have:=(fold_insA (fstA [] row) [] List.Pairwise.nil).2
  simpa [Zbr] using this
theorem itemsS_perm {a b:List Ac} (h:a.Perm b):(Zba a).length = (Zba b).length:=(h.flatMap_right _).length_eq
theorem itemsS_sub {a b:List Ac} (h:a.Sublist b):(Zba a).length ≤ (Zba b).length:=by
  induction h with
  | slnil=>exact Nat.le_refl _
  | cons x _ ih=>simp only [Zba,List.flatMap_cons,List.length_append] at ih ⊢; omega
  | cons_cons x _ ih=>simp only [Zba,List.flatMap_cons,List.length_append] at ih ⊢; omega
theorem acts_items (row:List Ac):(Zba (Zbr row)).length ≤ (Zba row).length:=by
  rw [itemsS_perm (actsS_perm row)]; exact itemsS_sub (fst_sub row [])
structure Nice (l : List Gz) : Prop where
  ok : ∀ g ∈ l, g.okZ
  len : l.length ≤ 1000
  row : (rowG l).length ≤ 1000000
  items : (Zba (rowG l)).length ≤ 1000
theorem rowG_app (a b:List Gz):rowG (a ++ b) = rowG a ++ rowG b:=by simp [rowG]
theorem Nice.take {l:List Gz} (h:Nice l) (k:Nat):Nice (l.take k):=by
  refine ⟨fun g hg=>h.ok g (List.mem_of_mem_take hg),by have:=h.len; simp; omega,by have:=rowG_le l k; have:=h.row; omega,?_⟩
  have e:rowG l = rowG (l.take k) ++ rowG (l.drop k):=by rw [← rowG_app,List.take_append_drop]
  have:=h.items
  rw [e,itemsS_app,List.length_append] at this
  omega
theorem Nice.left {a b:List Gz} (h:Nice (a ++ b)):Nice a:=by
  have:=h.take a.length
  rwa [List.take_left] at this
theorem Nice.smal {l:List Gz} (h:Nice l):Smal l:=⟨by have:=h.len; omega,h.row,by have:=acts_items (rowG l); have:=h.items; omega⟩
theorem row_le8:∀ (l:List Gz),(∀ g ∈ l,g.acts.length ≤ 8) → (rowG l).length ≤ 8 * l.length
  | [],_=>by simp [rowG]
  | g :: r,h=>by
    have ih:=row_le8 r (fun x hx=>h x (List.mem_cons_of_mem _ hx))
    have:=h g List.mem_cons_self
    simp only [rowG,List.flatMap_cons,List.length_append,List.length_cons] at ih ⊢
    omega
theorem nice_of_few {m:Nat} {l:List Gz} (hm:m ≤ 1000) (hok:okL Gz.okZ l) (h:FewG m l):Nice l :=
  ⟨hok.2,by have:=h.1; omega,by have:=row_le8 l h.2.1; have:=h.1; omega,by have:=h.2.2; omega⟩
theorem deed_mem {n d:Int}:∀ {l:List It} {k:Nat} {e:EI},e ∈ deedsFrom n d k l → ∃ j,∃ h:j < l.length,e = ⟨n,((k + j:Nat):Int),d,l[j]⟩
  | x :: r,k,e,h=>by
    rcases List.mem_cons.1 h with rfl | h'
    · exact ⟨0,by simp,by simp⟩
    · obtain ⟨j,hj,rfl⟩:=deed_mem h'
      refine ⟨j + 1,by simpa using hj,?_⟩
      simp; omega
theorem mem_deedsF {xs:List It} {acts:List Ac} {e:EI}:e ∈ Zch xs acts ↔ ∃ a ∈ acts,∃ j,∃ h:j < a.items.length,e = ⟨a.number,(j:Nat),a.day,corrS xs (a.number,(j:Nat)) a.items[j]⟩:=by
  simp only [Zch,List.mem_flatMap,List.mem_map]
  constructor
  · rintro ⟨a,ha,d,hd,rfl⟩
    obtain ⟨j,hj,rfl⟩:=deed_mem (by simpa [deeds] using hd)
    exact ⟨a,ha,j,hj,by simp [fixE]⟩
  · rintro ⟨a,ha,j,hj,rfl⟩
    refine ⟨a,ha,⟨a.number,(j:Nat),a.day,a.items[j]⟩,?_,rfl⟩
    have:=deed_get a j hj
    rw [← this]; exact List.getElem_mem _
def fnd (n i:Int) (l:List Gz):Option EI:=(deedsS (Zbr (rowG l))).find? (atB n i)
end Go.Proofs.YtehokmhebnkfdaaGreat.w
