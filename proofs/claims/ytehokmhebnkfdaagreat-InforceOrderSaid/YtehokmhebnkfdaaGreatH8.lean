import Derived.Test.YtehokmhebnkfdaaGreatH7
set_option linter.all false
namespace Go.Proofs.YtehokmhebnkfdaaGreat.w
open Go Go.VM
set_option maxRecDepth 20000
set_option maxHeartbeats 0
set_option pp.deepTerms false
def Zcc:VC:=(.seq (.region [ZO 4 (.mv (.c (.int .i64 0)))] false) (.seq (.seq (.region [ZM 6 0,ZO 7 (.len false (.t 6)),ZO 8 (.mv (.c (.int .i64 0)))] false) (.block 0 (.loop (.seq (.region [ZO 9 (.bin .lss (.t 8) (.t 7))] false) (.seq (.cond (.t 9) .skip (.exit 0)) (.seq (.block 1 (.seq (.region [ZM 10 8,ZM 5 10] false) (.seq (.region [ZM 11 1,ZM 12 0,ZM 13 5,ZO 14 (.iaddr 28 (.t 12) (.t 13)),ZO 15 (.load true 28 (.t 14)),ZO 16 (.callv (.t 11) [(.t 15)])] false) (.cond (.t 16) (.seq (.region [ZM 17 5,ZM 4 17] false) .ret) .skip)))) (.region [ZO 18 (.bin .add (.t 8) (.c (.int .i64 1))),ZM 8 18] false))))))) (.seq (.region [ZO 4 (.mv (.c (.int .i64 (-1))))] false) .ret)))
def atB (n i:Int) (d:EI):Bool:=d.act == n && d.item == i
def posS {α:Type} (p:α → Bool):List α → Nat → Int
  | [],_=>-1
  | x :: r,k=>bif p x then (k:Int) else posS p r (k + 1)
def It0:It:=.mk 0 [] [] 0 0 (.mk 0 0 0 0 [] [] [] []) [] [] [] [] ⟨0,0,[]⟩ 0 0 0 [] []
def EI0:EI:=⟨0,0,0,It0⟩
theorem View.aggV {h:Heap}:∀ {l q:List PV},Views h l q → View h (.agg l) (.agg q):=by
  intro l q hv
  have hl:∀ {l q:List PV},Views h l q → l.length = q.length ∧ ∀ j,j < q.length → View h (PV.nth l j) (PV.nth q j):=by
    intro l
    induction l with
    | nil=>intro q hv; cases q with
      | nil=>exact ⟨rfl,fun j hj=>by simp at hj⟩
      | cons y q=>exact hv.elim
    | cons x l ih=>intro q hv; cases q with
      | nil=>exact hv.elim
      | cons y q =>
        obtain ⟨h1,h2⟩:=hv
        obtain ⟨h3,h4⟩:=ih h2
        refine ⟨by simp [h3],fun j hj=>?_⟩
        cases j with
        | zero=>exact h1
        | succ j=>simpa [PV.nth] using h4 j (by simpa using hj)
  exact View.agg (hl hv).1 (hl hv).2
structure Smal (l : List Gz) : Prop where
  len : l.length ≤ 1000000
  row : (rowG l).length ≤ 1000000
  items : (Zba (Zbr (rowG l))).length ≤ 1000000
end Go.Proofs.YtehokmhebnkfdaaGreat.w
