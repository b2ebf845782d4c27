import Derived.Test.YtehokmhebnkfdaaGreatH9
set_option linter.all false
namespace Go.Proofs.YtehokmhebnkfdaaGreat.w
open Go Go.VM
set_option maxRecDepth 20000
set_option maxHeartbeats 0
theorem acts_num (row:List Ac):(Zbr row).Pairwise (fun a b=>a.number ≠ b.number) :=
  ((actsS_perm row).pairwise_iff (fun {_ _} h=>Ne.symm h)).2 (fstA_spec row []).1
theorem acts_inj {row:List Ac} {a b:Ac} (ha:a ∈ Zbr row) (hb:b ∈ Zbr row) (h:a.number = b.number):a = b:=number_inj (acts_num row) a ha b hb h
theorem deedsS_inj {row:List Ac} {d e:EI} (hd:d ∈ deedsS (Zbr row)) (he:e ∈ deedsS (Zbr row)) (h1:d.act = e.act) (h2:d.item = e.item):d = e:=by
  obtain ⟨a,ha,j,hj,rfl⟩:=mem_deedsF.1 hd
  obtain ⟨b,hb,k,hk,rfl⟩:=mem_deedsF.1 he
  simp only at h1 h2
  obtain rfl:=acts_inj ha hb h1
  obtain rfl:j = k:=by omega
  rfl
theorem fnd_mem {l:List Gz} {d:EI} (hd:d ∈ deedsS (Zbr (rowG l))):fnd d.act d.item l = some d:=by
  unfold fnd
  cases hf:(deedsS (Zbr (rowG l))).find? (atB d.act d.item) with
  | none =>
    have:=List.find?_eq_none.1 hf d hd
    simp [atB] at this
  | some e =>
    have h1:=List.mem_of_find?_eq_some hf
    have h2:=List.find?_some hf
    simp only [atB,Bool.and_eq_true,beq_iff_eq] at h2
    rw [deedsS_inj h1 hd h2.1 h2.2]
theorem fnd_some {n i:Int} {l:List Gz} {d:EI} (h:fnd n i l = some d):d ∈ deedsS (Zbr (rowG l)) ∧ d.act = n ∧ d.item = i:=by
  have h2:=List.find?_some h
  simp only [atB,Bool.and_eq_true,beq_iff_eq] at h2
  exact ⟨List.mem_of_find?_eq_some h,h2.1,h2.2⟩
end Go.Proofs.YtehokmhebnkfdaaGreat.w
