/-
  Drawn regions that append or make: every operation that only looks, looks at nothing.
-/
import Derived.Test.YtepmaobfbfbecaaVmG
set_option linter.all false
namespace Go.VM
open Go
theorem DrawG.monoZ {P : Program} {hqf hqf' : Nat → Heap} {Z Z' : Nat → Heap → Heap → Prop} (hh : hqf = hqf') (hZ : ∀ k h h', Z k h h' → Z' k h h') {K : Env → Heap → Prop} : ∀ {q : List VOper} {k : Nat} {e : Env} {h : Heap}, DrawG P hqf Z k q K e h → DrawG P hqf' Z' k q K e h
  | [], _, _, _, H => H
  | o :: r, k, e, h, H => by
    subst hh
    simp only [DrawG] at H ⊢
    split at H
    · exact H.mono fun v h' kk => ⟨hZ _ _ _ kk.1, DrawG.monoZ rfl hZ kk.2⟩
    · exact H.elim
    · exact QW.mono (fun v hv => DrawG.monoZ rfl hZ hv) H
    · split at H
      · exact QW.mono (fun v hv => DrawG.monoZ rfl hZ hv) H
      · exact H.elim
theorem VW_draw2E {P : Program} {N : Nat} {Q : Exit → Env → Heap → Prop} {e : Env} {h : Heap} {q : List VOper} {late : List Bool} (T : Nat) (l : List Nat) (hT : h.top ≤ T) (H : DrawW P ⟨[], T⟩ q (fun e' h' => Q .normal (Env.keep l e') h') e h) : VW P N (.draw2 q late) Q e h := by
  have hs : ∀ h', Shp ⟨[], T⟩ h' := fun h' id fz z es hg => by simp [Heap.get, HL.get] at hg
  refine VW_draw2 l ⟨[], T⟩ ⟨[], T⟩ ⟨[], T⟩ ⟨hT, trivial⟩ ⟨hT, trivial⟩ (hs h) (DrawG.monoZ (hqf := fun _ => ⟨[], T⟩) (funext fun i => ?_) (fun k h h' hz => ⟨hz, fun _ _ => hz, fun _ => hs h'⟩) H.toG)
  simp only [hq3]
  split <;> (try split) <;> (try split) <;> rfl
theorem VW_drawE {P : Program} {N : Nat} {Q : Exit → Env → Heap → Prop} {e : Env} {h : Heap} {q : List VOper} (T : Nat) (l : List Nat) (hT : h.top ≤ T) (H : DrawW P ⟨[], T⟩ q (fun e' h' => Q .normal (Env.keep l e') h') e h) : VW P N (.region q true) Q e h :=
  VW_draw l ⟨[], T⟩ ⟨hT, trivial⟩ H
/-- The ways through a branch brought together. -/
def midQ {σ : Type} (st : σ → Env × Heap) (Q : Exit → Env → Heap → Prop) : Exit → Env → Heap → Prop
  | .normal, e, h => ∃ s, (st s).1.le e ∧ (st s).2.le h
  | x, e, h => Q x e h
theorem VW_mid {P : Program} {N : Nat} {Q Q1 : Exit → Env → Heap → Prop} {e : Env} {h : Heap} {c y : VC} {σ : Type} (st : σ → Env × Heap) (H1 : VW P N c (midQ st Q) e h) (H2 : ∀ s, VW P N y Q1 (st s).1 (st s).2) : VW P N c (thenQ (VW P N y Q1) Q) e h :=
  H1.mono fun x e h hx => by
    cases x with
    | normal =>
      obtain ⟨s, a, b⟩ := hx
      exact VW.weaken a b (H2 s)
    | _ => exact hx
end Go.VM

