/-
  The document's types name no block: closed.
-/
import Derived.Test.YtepmaobfbfbecaaVmQ
set_option linter.all false
namespace Go.VM
open Go
theorem cI (n : Int) : Closed (pI n) := Closed.of_scalar (scalar_int _ _)
theorem cS (s : Str) : Closed (.str s) := Closed.of_scalar (scalar_str _)
theorem cB (b : Bool) : Closed (.bool b) := Closed.of_scalar (scalar_bool _)
theorem closed_fn0 (f : Fn) : Closed (.fn f [] []) := fun g v hv => by
  cases hv with
  | fn _ fs cs _ _ s1 s2 r1 r2 => exact .fn f fs cs [] [] s1 s2 (fun j hj => by simp at hj) (fun j hj => by simp at hj)
theorem closed_map {α : Type} {z : Nat} {enc : α → List PV} {l : List α} (h : ∀ a ∈ l, ∀ x ∈ enc a, Closed x) : Closed (.sl z (l.map enc)) :=
  closed_sl (fun e he x hx => by obtain ⟨a, ha, rfl⟩ := List.mem_map.1 he; exact h a ha x hx)
theorem Wd.closed (w : Wd) : ∀ x ∈ w.enc, Closed x := by
  intro x hx; simp only [Wd.enc, List.mem_cons, List.not_mem_nil, or_false] at hx
  rcases hx with rfl | rfl | rfl | rfl <;> first | exact cS _ | exact cI _
theorem St.closed (w : St) : ∀ x ∈ w.enc, Closed x := by
  intro x hx; simp only [St.enc, List.mem_cons, List.not_mem_nil, or_false] at hx
  rcases hx with rfl | rfl <;> first | exact cS _ | exact cI _
theorem closed_sc (l : List Int) : Closed (.sl 1 (l.map fun x => [pI x])) := closed_map (fun a _ x hx => by simp only [List.mem_cons, List.not_mem_nil, or_false] at hx; subst hx; exact cI _)
theorem Sp.closed (w : Sp) : ∀ x ∈ w.enc, Closed x := by
  intro x hx; simp only [Sp.enc, List.mem_cons, List.not_mem_nil, or_false] at hx
  rcases hx with rfl | rfl <;> exact cI _
theorem closed_sps (l : List Sp) : Closed (.sl 2 (l.map Sp.enc)) := closed_map (fun w _ => w.closed)
theorem closed_strs (l : List Str) : Closed (It.strs l) := closed_map (fun a _ x hx => by simp only [List.mem_cons, List.not_mem_nil, or_false] at hx; subst hx; exact cS _)
theorem Un.closed (u : Un) : ∀ x ∈ u.enc, Closed x := by
  rw [Un.enc_eq]
  intro x hx; simp only [List.mem_cons, List.not_mem_nil, or_false] at hx
  rcases hx with rfl | rfl | rfl | rfl | rfl | rfl | rfl | rfl
  · exact cI _
  · exact cI _
  · exact cI _
  · exact cI _
  · exact cS _
  · exact closed_map (fun w _ => w.closed)
  · exact closed_map (fun w _ => w.closed)
  · exact closed_map (fun k hk => Un.closed k)
termination_by SizeOf.sizeOf u
decreasing_by
  match u, hk with
  | .mk _ _ _ _ _ _ _ ks, hk =>
    have h1 : SizeOf.sizeOf k < SizeOf.sizeOf ks := List.sizeOf_lt_of_mem hk
    rw [Un.mk.sizeOf_spec]; omega
theorem It.closed (u : It) : ∀ x ∈ u.enc, Closed x := by
  rw [It.enc_eq]
  intro x hx; simp only [List.mem_cons, List.not_mem_nil, or_false] at hx
  rcases hx with rfl | rfl | rfl | rfl | rfl | rfl | rfl | rfl | rfl | rfl | rfl | rfl | rfl | rfl | rfl | rfl | rfl | rfl | rfl | rfl | rfl | rfl | rfl | rfl | rfl
  all_goals first | exact cI _ | exact cS _ | exact closed_strs _ | exact closed_map (fun w _ => Wd.closed w) | exact closed_map (fun w _ => St.closed w) | exact closed_map (fun w _ => Un.closed w) | skip
  exact closed_map (fun k hk => It.closed k)
termination_by SizeOf.sizeOf u
decreasing_by
  match u, hk with
  | .mk _ _ _ _ _ _ _ _ _ _ _ _ _ _ _ ks, hk =>
    have h1 : SizeOf.sizeOf k < SizeOf.sizeOf ks := List.sizeOf_lt_of_mem hk
    rw [It.mk.sizeOf_spec]; omega
theorem EI.closed (e : EI) : ∀ x ∈ e.enc, Closed x := by
  intro x hx; simp only [EI.enc, List.mem_cons] at hx
  rcases hx with rfl | rfl | rfl | hx
  · exact cI _
  · exact cI _
  · exact cI _
  · exact It.closed _ x hx
theorem Ac.closed (a : Ac) : ∀ x ∈ a.enc, Closed x := by
  intro x hx; simp only [Ac.enc, List.mem_cons, List.not_mem_nil, or_false] at hx
  rcases hx with rfl | rfl | rfl | rfl | rfl | rfl | rfl
  all_goals first | exact cI _ | exact cS _ | exact closed_map (fun w _ => It.closed w)
theorem closed_eis (l : List EI) : Closed (.sl 28 (l.map EI.enc)) := closed_map (fun w _ => w.closed)
theorem closed_acs (l : List Ac) : Closed (.sl 7 (l.map Ac.enc)) := closed_map (fun w _ => w.closed)
end Go.VM

