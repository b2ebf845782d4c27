import Derived.Test.YtehokmhebnkfdaaGreatH7
set_option linter.all false
namespace Go.Proofs.YtehokmhebnkfdaaGreat.w
open Go Go.VM
set_option maxRecDepth 20000
set_option maxHeartbeats 0
set_option pp.deepTerms false
def Zbx : VC := (.seq (.region [⟨(some 4), (.mv (.c (.int .i64 0))), none⟩] false) (.seq (.seq (.region [⟨(some 6), (.mv (.t 0)), none⟩, ⟨(some 7), (.len false (.t 6)), none⟩, ⟨(some 8), (.mv (.c (.int .i64 0))), none⟩] false) (.block 0 (.loop (.seq (.region [⟨(some 9), (.bin .lss (.t 8) (.t 7)), none⟩] false) (.seq (.cond (.t 9) .skip (.exit 0)) (.seq (.block 1 (.seq (.region [⟨(some 10), (.mv (.t 8)), none⟩, ⟨(some 5), (.mv (.t 10)), none⟩] false) (.seq (.region [⟨(some 11), (.mv (.t 1)), none⟩, ⟨(some 12), (.mv (.t 0)), none⟩, ⟨(some 13), (.mv (.t 5)), none⟩, ⟨(some 14), (.iaddr 28 (.t 12) (.t 13)), none⟩, ⟨(some 15), (.load true 28 (.t 14)), none⟩, ⟨(some 16), (.callv (.t 11) [(.t 15)]), none⟩] false) (.cond (.t 16) (.seq (.region [⟨(some 17), (.mv (.t 5)), none⟩, ⟨(some 4), (.mv (.t 17)), none⟩] false) .ret) .skip)))) (.region [⟨(some 18), (.bin .add (.t 8) (.c (.int .i64 1))), none⟩, ⟨(some 8), (.mv (.t 18)), none⟩] false))))))) (.seq (.region [⟨(some 4), (.mv (.c (.int .i64 (-1)))), none⟩] false) .ret)))
def atB (n i : Int) (d : EI) : Bool := d.act == n && d.item == i
def posS {α : Type} (p : α → Bool) : List α → Nat → Int
  | [], _ => -1
  | x :: r, k => bif p x then (k : Int) else posS p r (k + 1)
def It0 : It := .mk 0 [] [] 0 0 (.mk 0 0 0 0 [] [] [] []) [] [] [] [] ⟨0, 0, []⟩ 0 0 0 [] []
def EI0 : EI := ⟨0, 0, 0, It0⟩
theorem View.aggV {h : Heap} : ∀ {l q : List PV}, Views h l q → View h (.agg l) (.agg q) := by
  intro l q hv
  have hl : ∀ {l q : List PV}, Views h l q → l.length = q.length ∧ ∀ j, j < q.length → View h (PV.nth l j) (PV.nth q j) := by
    intro l
    induction l with
    | nil => intro q hv; cases q with
      | nil => exact ⟨rfl, fun j hj => by simp at hj⟩
      | cons y q => exact hv.elim
    | cons x l ih => intro q hv; cases q with
      | nil => exact hv.elim
      | cons y q =>
        obtain ⟨h1, h2⟩ := hv
        obtain ⟨h3, h4⟩ := ih h2
        refine ⟨by simp [h3], fun j hj => ?_⟩
        cases j with
        | zero => exact h1
        | succ j => simpa [PV.nth] using h4 j (by simpa using hj)
  exact View.agg (hl hv).1 (hl hv).2
theorem zEI_view {h : Heap} : View h (.agg zEI) (.agg EI0.enc) := by
  refine View.aggV ?_
  show Views h [_, _, _, _, _, _, _, _, _, _, _, _, _, _, _, _, _, _, _, _, _, _, _, _, _, _, _, _] [_, _, _, _, _, _, _, _, _, _, _, _, _, _, _, _, _, _, _, _, _, _, _, _, _, _, _, _]
  repeat' (first | exact trivial | refine And.intro ?_ ?_)
  all_goals first | exact View.refl _ _ | exact View.nil _ _
def resF (o : Option EI) : PV := .tup [.agg (o.getD EI0).enc, .bool o.isSome]
theorem resF_closed (o : Option EI) : Closed (resF o) := closed_tup (fun x hx => by
  simp only [List.mem_cons, List.not_mem_nil, or_false] at hx
  rcases hx with rfl | rfl
  · exact Zar (EI.closed _)
  · exact cB _)
theorem zEI_take : zEI.take 28 = zEI := rfl
theorem zEI_len : zEI.length = 28 := rfl
theorem zEI_drop : zEI.drop 28 = [] := rfl
structure Smal (l : List Gz) : Prop where
  len : l.length ≤ 1000000
  row : (rowG l).length ≤ 1000000
  items : (Za3 (actsS (rowG l))).length ≤ 1000000
end Go.Proofs.YtehokmhebnkfdaaGreat.w
