import Derived.Test.YtehokmhebnkfdaaGreatH9
set_option linter.all false
namespace Go.Proofs.YtehokmhebnkfdaaGreat.w
open Go Go.VM
set_option maxRecDepth 20000
set_option maxHeartbeats 0
def ltE (a b:EI):Prop:=a.day < b.day ∨ a.day = b.day ∧ (a.act < b.act ∨ a.act = b.act ∧ a.item < b.item)
def ltA (a b:Ac):Prop:=a.day < b.day ∨ a.day = b.day ∧ a.number < b.number
theorem acts_num (row:List Ac):(Zbz row).Pairwise (fun a b=>a.number ≠ b.number) :=
  ((actsS_perm row).pairwise_iff (fun {_ _} h=>Ne.symm h)).2 (fstA_spec row []).1
theorem acts_lt (row:List Ac):(Zbz row).Pairwise ltA:=by
  refine List.Pairwise.imp₂ (fun a b h1 h2=>?_) (actsS_sorted row) (acts_num row)
  rw [leA_iff] at h1
  unfold ltA
  omega
theorem deedsFrom_lt (n d:Int):∀ (l:List It) (k:Nat),(deedsFrom n d k l).Pairwise (fun a b=>ltE a b)
  | [],_=>List.Pairwise.nil
  | x :: r,k=>by
    refine List.pairwise_cons.2 ⟨fun y hy=>?_,deedsFrom_lt n d r (k + 1)⟩
    obtain ⟨j,hj,rfl⟩:=deed_mem hy
    unfold ltE
    right; refine ⟨rfl,.inr ⟨rfl,?_⟩⟩
    show (k:Int) < ((k + 1 + j:Nat):Int)
    omega
theorem ltE_fix (xs:List It) (a b:EI):ltE (fixE xs a) (fixE xs b) ↔ ltE a b:=Iff.rfl
theorem deedsS_lt (row:List Ac):(deedsS (Zbz row)).Pairwise (fun a b=>ltE a b):=by
  unfold deedsS Zcg
  generalize Zbc (Zbz row) = xs
  rw [List.pairwise_flatMap]
  refine ⟨fun a _=>?_,List.Pairwise.imp (fun {a b} h x hx y hy=>?_) (acts_lt row)⟩
  · rw [List.pairwise_map]
    exact deedsFrom_lt _ _ _ _
  · obtain ⟨x',hx',rfl⟩:=List.mem_map.1 hx
    obtain ⟨y',hy',rfl⟩:=List.mem_map.1 hy
    obtain ⟨j,hj,rfl⟩:=deed_mem (by simpa [deeds] using hx')
    obtain ⟨j',hj',rfl⟩:=deed_mem (by simpa [deeds] using hy')
    rw [ltE_fix]
    unfold ltE ltA at *
    rcases h with h | ⟨h1,h2⟩
    · exact .inl h
    · exact .inr ⟨h1,.inl h2⟩
end Go.Proofs.YtehokmhebnkfdaaGreat.w
