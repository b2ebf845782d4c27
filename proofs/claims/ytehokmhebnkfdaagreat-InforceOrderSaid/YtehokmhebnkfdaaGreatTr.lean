import Derived.Test.YtehokmhebnkfdaaGreatL1
import Derived.Test.YtehokmhebnkfdaaGreatQ3
import Derived.Test.YtehokmhebnkfdaaGreatCP1
set_option linter.all false
namespace Go.Proofs.YtehokmhebnkfdaaGreat.w
open Go Go.VM
set_option maxRecDepth 20000
theorem fstA_has:∀ (r:List Ac) (s:List Int),∀ a ∈ r,a.number ∈ s ∨ ∃ b ∈ fstA s r,b.number = a.number
  | x :: r,s,a,ha=>by
    simp only [fstA]
    split
    · rename_i hx
      rcases List.mem_cons.1 ha with rfl | ha
      · exact .inl hx
      · exact fstA_has r s a ha
    · rcases List.mem_cons.1 ha with rfl | ha
      · exact .inr ⟨a,List.mem_cons_self,rfl⟩
      · rcases fstA_has r (x.number :: s) a ha with h | ⟨b,hb,e⟩
        · rcases List.mem_cons.1 h with h | h
          · exact .inr ⟨x,List.mem_cons_self,h.symm⟩
          · exact .inl h
        · exact .inr ⟨b,List.mem_cons_of_mem _ hb,e⟩
theorem acts_has {row:List Ac} {a:Ac} (ha:a ∈ row):∃ b ∈ Zbr row,b.number = a.number:=by
  rcases fstA_has row [] a ha with h | ⟨b,hb,e⟩
  · cases h
  · exact ⟨b,(actsS_perm row).mem_iff.2 hb,e⟩
theorem acts_last {row:List Ac} {x:Ac} (h:∀ a ∈ Zbr row,a.day < x.day ∧ a.number < x.number):Zbr (row ++ [x]) = Zbr row ++ [x]:=by
  have hno:x.number ∉ ([]:List Int) ++ row.map Ac.number:=by
    rw [List.nil_append,List.mem_map]
    rintro ⟨a,ha,e⟩
    obtain ⟨b,hb,e2⟩:=acts_has ha
    have:=(h b hb).2
    omega
  have e:fstA [] (row ++ [x]) = fstA [] row ++ [x]:=by
    rw [fstA_append]
    congr 1
    simp only [fstA]
    rw [if_neg hno]
  unfold Zbr
  rw [e,List.foldl_append,List.foldl_cons,List.foldl_nil]
  have hall:∀ (l:List Ac),(∀ a ∈ l,aheadA a x = true) → insA l x = l ++ [x]:=by
    intro l
    induction l with
    | nil=>intro _; rfl
    | cons y r ih =>
      intro hl
      rw [insA_cons,if_pos (hl y List.mem_cons_self),ih fun a ha=>hl a (List.mem_cons_of_mem _ ha)]
      rfl
  exact hall _ fun a ha=>(ahead_iff a x).2 (.inl (h a ha).1)
theorem corr_snoc (xs:List It) (k:Int × Int) (it y:It) (h:y.kind ≠ 11):corrS (xs ++ [y]) k it = corrS xs k it:=by
  unfold corrS
  have:fixOf y = none:=if_neg h
  rw [List.foldl_append,List.foldl_cons,List.foldl_nil]
  simp only [fixAt,this]
theorem fixE_snoc (xs:List It) (d:EI) (y:It) (h:y.kind ≠ 11):fixE (xs ++ [y]) d = fixE xs d:=by
  unfold fixE
  rw [corr_snoc _ _ _ _ h]
theorem deeds_last {acts:List Ac} {x:Ac} {it:It} (hx:x.items = [it]) (h:it.kind ≠ 11) (ha:amend it.kind = false):deedsS (acts ++ [x]) = deedsS acts ++ [⟨x.number,0,x.day,it⟩]:=by
  have e:Zba (acts ++ [x]) = Zba acts ++ [it]:=by simp [Zba,hx]
  unfold deedsS Zch
  rw [e,List.flatMap_append]
  congr 1
  · have:fixE (Zba acts ++ [it]) = fixE (Zba acts):=funext fun d=>fixE_snoc _ _ _ h
    rw [this]
  · have e2:deeds x = [⟨x.number,0,x.day,it⟩]:=by unfold deeds; rw [hx]; rfl
    rw [List.flatMap_cons,List.flatMap_nil,List.append_nil,e2,List.map_cons,List.map_nil,fixE_snoc _ _ _ h]
    unfold fixE corrS
    rw [ha]; rfl
theorem start_last {acts:List Ac} {x:Ac} {n:Int} (h:∃ a ∈ acts,a.number = n):startA (acts ++ [x]) n = startA acts n:=by
  unfold startA
  rw [List.find?_append]
  cases e:acts.find? (fun a=>a.number == n) with
  | some a=>rfl
  | none =>
    obtain ⟨a,ha,hn⟩:=h
    have:=List.find?_eq_none.1 e a ha
    simp [hn] at this
theorem dds_act {l:List Gz} {d:EI} (hd:d ∈ dds l):∃ a ∈ Zbr (rowG l),a.number = d.act:=by
  obtain ⟨a,ha,j,hj,rfl⟩:=mem_deedsF.1 hd
  exact ⟨a,ha,rfl⟩
structure LastG (l : List Gz) (g : Gz) (x : Ac) (it : It) : Prop where
  acts : g.acts = [x]
  items : x.items = [it]
  kind : it.kind = 7 ∨ it.kind = 8 ∨ it.kind = 9
  last : ∀ a ∈ Zbr (rowG l), a.day < x.day ∧ a.number < x.number
theorem LastG.row {l:List Gz} {g:Gz} {x:Ac} {it:It} (h:LastG l g x it):rowG (l ++ [g]) = rowG l ++ [x]:=by
  rw [rowG_app,rowG_one,h.acts]
theorem LastG.actsE {l:List Gz} {g:Gz} {x:Ac} {it:It} (h:LastG l g x it):Zbr (rowG (l ++ [g])) = Zbr (rowG l) ++ [x]:=by
  rw [h.row,acts_last h.last]
theorem LastG.dds {l:List Gz} {g:Gz} {x:Ac} {it:It} (h:LastG l g x it):dds (l ++ [g]) = dds l ++ [⟨x.number,0,x.day,it⟩]:=by
  show deedsS _ = _
  rw [h.actsE,deeds_last h.items (by have:=h.kind; omega)]
  have hk:=h.kind
  unfold amend
  simp only [Bool.and_eq_false_iff,decide_eq_false_iff_not]
  omega
theorem LastG.days {l : List Gz} {g : Gz} {x : Ac} {it : It} (h : LastG l g x it) {d : EI} (hd : d ∈ w.dds l) :
    Zcj (l ++ [g]) d = c.Zc7 (startA (Zbr (rowG l)) d.act) d (w.dds l ++ [⟨x.number,0,x.day,it⟩]):=by
  unfold Zcj
  rw [h.dds,h.actsE,start_last (dds_act hd)]
theorem LastG.other {l:List Gz} {g:Gz} {x:Ac} {it:It} (h:LastG l g x it) {d:EI} (hd:d ∈ chgS l) (hn:d.act ≠ it.act):Zcj (l ++ [g]) d = Zcj l d:=by
  rw [h.days (chg_mem.1 hd).1]
  refine c.force_snoc_same _ _ _ _ ?_ ?_
  · unfold c.Zds
    rw [c.event_app _ _ _ fun y hy=>?_]
    rw [List.mem_singleton] at hy
    subst hy
    have:=h.kind
    show it.kind ≠ 10
    omega
  · unfold c.Zb0
    have:(it.act == d.act) = false:=by simpa using Ne.symm hn
    simp [this]
theorem LastG.own {l : List Gz} {g : Gz} {x : Ac} {it : It} (h : LastG l g x it) {d : EI} (hd : d ∈ chgS l) (hn : d.act = it.act) (hi : it.item = -1) (other : Int) :
    (other < it.day → c.memB (Zcj (l ++ [g]) d) other = c.memB (Zcj l d) other) ∧
    (¬ other < it.day → other ≤ 1048576 → 0 ≤ other → c.memB (Zcj (l ++ [g]) d) other = (it.kind != 8)):=by
  have hk:=chg_kind.1 (chg_mem.1 hd).2
  have ha:c.aboutS d it.kind (-1) it.day ⟨x.number,0,x.day,it⟩:=⟨rfl,hn.symm,hi,rfl,.inr rfl⟩
  obtain ⟨h1,h2⟩:=c.last_order (startA (Zbr (rowG l)) d.act) d ⟨x.number,0,x.day,it⟩ (w.dds l) (-1) it.day other it.kind (by omega) ha h.kind
  rw [← h.days (chg_mem.1 hd).1] at h1 h2
  constructor
  · intro ho
    rw [Bool.eq_iff_iff,c.Zc6,c.Zc6]
    exact h1 ho
  · intro ho hm h0
    rw [Bool.eq_iff_iff,c.Zc6,h2 ho]
    simp only [bne_iff_ne,ne_eq]
    exact ⟨fun hh=>hh.1,fun hh=>⟨hh,h0,hm⟩⟩
end Go.Proofs.YtehokmhebnkfdaaGreat.w
