import Derived.Test.YtehokmhebnkfdaaGreatJ3
import Derived.Test.YtehokmhebnkfdaaGreatJ1
set_option linter.all false
namespace Go.Proofs.YtehokmhebnkfdaaGreat.w
open Go Go.VM
set_option maxRecDepth 20000
set_option maxHeartbeats 0
set_option pp.deepTerms false
theorem chg_mem {l:List Gz} {d:EI}:d ∈ chgS l ↔ d ∈ dds l ∧ isChg d = true:=List.mem_filter
theorem days_none (l:List Gz) (d:EI) (h:isChg d = false):Zcj l d = []:=by
  unfold Zcj c.Zc7
  refine if_pos ?_
  have h1:¬ (0 ≤ d.it.kind ∧ d.it.kind ≤ 6):=fun h2=>by rw [chg_kind.2 h2] at h; cases h
  omega
theorem lastD_fold (l : List Gz) (act item : Int) (x : EI) : ∀ (r : List EI) (o : Option (List Sp)),
    (∀ d ∈ r,d.act = act → d.item = item → d = x) →
    r.foldl (fun o d=>if d.act = act ∧ d.item = item then some (Zcj l d) else o) o = if ∃ d ∈ r,d.act = act ∧ d.item = item then some (Zcj l x) else o
  | [],o,_=>by simp
  | d :: r,o,h=>by
    rw [List.foldl_cons,lastD_fold l act item x r _ (fun e he=>h e (List.mem_cons_of_mem _ he))]
    by_cases h1:d.act = act ∧ d.item = item
    · have hx:=h d List.mem_cons_self h1.1 h1.2
      rw [if_pos h1,if_pos (show ∃ e ∈ d :: r,e.act = act ∧ e.item = item from ⟨d,List.mem_cons_self,h1⟩),hx]
      split <;> rfl
    · rw [if_neg h1]
      have:(∃ e ∈ d :: r,e.act = act ∧ e.item = item) ↔ ∃ e ∈ r,e.act = act ∧ e.item = item:=by
        constructor
        · rintro ⟨e,he,h2⟩
          rcases List.mem_cons.1 he with rfl | he
          · exact absurd h2 h1
          · exact ⟨e,he,h2⟩
        · rintro ⟨e,he,h2⟩; exact ⟨e,List.mem_cons_of_mem _ he,h2⟩
      simp only [this]
theorem lastD_fnd (l:List Gz) (act item:Int):(lastD l act item (chgS l)).getD [] = match fnd act item l with | some d=>Zcj l d | none=>[]:=by
  unfold lastD
  cases hf:fnd act item l with
  | none =>
    have hno:¬ ∃ d ∈ chgS l,d.act = act ∧ d.item = item:=by
      rintro ⟨d,hd,rfl,rfl⟩
      rw [fnd_mem (chg_mem.1 hd).1] at hf; cases hf
    rw [lastD_fold l act item EI0 (chgS l) none (fun d hd h1 h2=>absurd ⟨d,hd,h1,h2⟩ hno),if_neg hno]; rfl
  | some x =>
    obtain ⟨hx,h1,h2⟩:=fnd_some hf
    rw [lastD_fold l act item x (chgS l) none (fun d hd e1 e2=>deedsS_inj (chg_mem.1 hd).1 hx (e1.trans h1.symm) (e2.trans h2.symm))]
    simp only []
    by_cases hc:isChg x = true
    · rw [if_pos ⟨x,chg_mem.2 ⟨hx,hc⟩,h1,h2⟩]; rfl
    · have hc':isChg x = false:=by simpa using hc
      rw [days_none l x hc']
      split
      · rename_i h
        obtain ⟨d,hd,e1,e2⟩:=h
        have:d = x:=deedsS_inj (chg_mem.1 hd).1 hx (e1.trans h1.symm) (e2.trans h2.symm)
        rw [this] at hd
        rw [(chg_mem.1 hd).2] at hc'; cases hc'
      · rfl
theorem Nice.dds {l:List Gz} (h:Nice l) (hf:FewG 30 l):(dds l).length ≤ 30:=by
  have h1:=acts_items (rowG l)
  have h2:=hf.2.2
  have h3:=deedsF_len (Zba (Zbr (rowG l))) (Zbr (rowG l))
  show (deedsS _).length ≤ 30
  unfold deedsS
  omega
end Go.Proofs.YtehokmhebnkfdaaGreat.w
