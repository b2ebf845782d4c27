/-
  Heaps whose names fall: no name twice.
-/
import Derived.Test.YtepmaobfbfbecaaVmR
set_option linter.all false
namespace Go.VM
open Go
def HL.dec : List (Nat × AB) → Nat → Prop
  | [], _ => True
  | (k, _) :: r, b => k < b ∧ HL.dec r k
def HOk (h : Heap) : Prop := HL.dec h.l h.top
theorem HL.dec_mono : ∀ {l : List (Nat × AB)} {b b' : Nat}, HL.dec l b → b ≤ b' → HL.dec l b'
  | [], _, _, _, _ => trivial
  | (k, _) :: r, b, b', h, hb => ⟨Nat.lt_of_lt_of_le h.1 hb, h.2⟩
theorem HL.get_none : ∀ {l : List (Nat × AB)} {b t : Nat}, HL.dec l b → b ≤ t → HL.get l t = none
  | [], _, _, _, _ => rfl
  | (k, v) :: r, b, t, h, hb => by
    have : k ≠ t := by have := h.1; omega
    simp only [HL.get, if_neg this]
    exact HL.get_none h.2 (by have := h.1; omega)
theorem HL.le_self : ∀ {l : List (Nat × AB)} {b : Nat} {f : Nat → Option AB}, HL.dec l b → (∀ t, t < b → HL.get l t = f t ∨ HL.get l t = none) → HL.le l f
  | [], _, _, _, _ => trivial
  | (k, v) :: r, b, f, h, hf => by
    refine ⟨?_, HL.le_self h.2 (fun t ht => ?_)⟩
    · have := hf k h.1
      simpa [HL.get, eq_comm] using this
    · have h1 := hf t (by have := h.1; omega)
      have : k ≠ t := by omega
      simpa [HL.get, this] using h1
theorem HOk.le_refl {h : Heap} (ok : HOk h) : h.le h := ⟨Nat.le_refl _, HL.le_self ok fun _ _ => .inl rfl⟩
theorem HOk.push {h : Heap} (ok : HOk h) (x : AB) : HOk (h.push x) := ⟨Nat.lt_succ_self _, ok⟩
theorem HL.dec_del : ∀ {l : List (Nat × AB)} {b : Nat} (k : Nat), HL.dec l b → HL.dec (HL.del l k) b
  | [], _, _, _ => trivial
  | (j, v) :: r, b, k, h => by
    simp only [HL.del]
    split
    · exact HL.dec_del k (HL.dec_mono h.2 (Nat.le_of_lt h.1))
    · exact ⟨h.1, HL.dec_del k h.2⟩
theorem HL.dec_set : ∀ {l : List (Nat × AB)} {b : Nat} (k : Nat) (x : AB), HL.dec l b → HL.dec (HL.set l k x) b
  | [], _, _, _, _ => trivial
  | (j, v) :: r, b, k, x, h => by
    simp only [HL.set]
    split
    · exact ⟨h.1, HL.dec_del k h.2⟩
    · exact ⟨h.1, HL.dec_set k x h.2⟩
theorem HOk.del {h : Heap} (ok : HOk h) (k : Nat) : HOk (h.del k) := HL.dec_del k ok
theorem HOk.set {h : Heap} (ok : HOk h) (k : Nat) (x : AB) : HOk (h.set k x) := HL.dec_set k x ok
theorem HOk.killed {h : Heap} (ok : HOk h) (k : Option Nat) : HOk (Go.VM.killed h k) := by cases k <;> first | exact ok | exact ok.del _
/-- Only some names. -/
def HL.only (p : Nat → Bool) : List (Nat × AB) → List (Nat × AB)
  | [] => []
  | (k, v) :: r => bif p k then (k, v) :: HL.only p r else HL.only p r
theorem HL.dec_only (p : Nat → Bool) : ∀ {l : List (Nat × AB)} {b : Nat}, HL.dec l b → HL.dec (HL.only p l) b
  | [], _, _ => trivial
  | (k, v) :: r, b, h => by
    simp only [HL.only]
    cases p k
    · exact HL.dec_only p (HL.dec_mono h.2 (Nat.le_of_lt h.1))
    · exact ⟨h.1, HL.dec_only p h.2⟩
theorem HL.get_only (p : Nat → Bool) : ∀ {l : List (Nat × AB)} {b : Nat}, HL.dec l b → ∀ t, HL.get (HL.only p l) t = if p t then HL.get l t else none
  | [], _, _, t => by simp [HL.only, HL.get]
  | (k, v) :: r, b, h, t => by
    have ih := HL.get_only p h.2 t
    by_cases hk : k = t
    · subst hk
      simp only [HL.only, HL.get, if_true]
      cases hp : p k
      · simp only [cond_false]; rw [ih]; simp [hp]
      · simp [HL.get]
    · simp only [HL.only, HL.get, if_neg hk]
      cases hp : p k
      · simp only [cond_false]; exact ih
      · simp only [cond_true, HL.get, if_neg hk]; exact ih
end Go.VM

