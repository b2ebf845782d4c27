/-
  The value machine, run: the run itself, and that it is a walk.
-/
import Derived.Test.YtepmaobfbfbecaaVmX
set_option linter.all false
namespace Go.VM
open Go

/-! ### what names no block -/
mutual
def PV.clB : PV → Bool
  | .any | .undef | .bool _ | .int _ _ | .str _ | .nilp | .nilsl | .nilmp | .nilfn | .nilif => true
  | .ro cs => PV.clsB cs
  | .sl _ es => PV.clssB es
  | .agg cs => PV.clsB cs
  | .tup cs => PV.clsB cs
  | .fn _ a b => PV.clsB a && PV.clsB b
  | .ifc _ v => PV.clB v
  | .rmp es => PV.clpB es
  | .loc _ _ _ | .own _ _ _ | .mp _ => false
def PV.clsB : List PV → Bool
  | [] => true
  | p :: r => PV.clB p && PV.clsB r
def PV.clssB : List (List PV) → Bool
  | [] => true
  | p :: r => PV.clsB p && PV.clssB r
def PV.clpB : List (PV × PV) → Bool
  | [] => true
  | (a, b) :: r => PV.clB a && PV.clB b && PV.clpB r
end
theorem closed_fn {f : Fn} {a b : List PV} (h1 : ∀ x ∈ a, Closed x) (h2 : ∀ x ∈ b, Closed x) : Closed (.fn f a b) := by
  intro g v hv
  cases hv with
  | fn _ fs cs _ _ s1 s2 r1 r2 =>
    refine .fn f fs cs a b s1 s2 (fun j hj => h1 _ ?_ g _ (r1 j hj)) (fun j hj => h2 _ ?_ g _ (r2 j hj))
    · simp only [PV.nth, List.getD_eq_getElem?_getD, List.getElem?_eq_getElem hj, Option.getD_some]; exact List.getElem_mem hj
    · simp only [PV.nth, List.getD_eq_getElem?_getD, List.getElem?_eq_getElem hj, Option.getD_some]; exact List.getElem_mem hj
mutual
theorem PV.clB_ok : ∀ (p : PV), p.clB = true → Closed p
  | .any, _ => fun _ v _ => .any v
  | .undef, _ => fun _ v h => by cases h; exact .undef
  | .bool b, _ => cB b
  | .int k n, _ => Closed.of_scalar (scalar_int _ _)
  | .str s, _ => cS s
  | .nilp, _ => fun _ v h => by cases h; exact .nilp
  | .nilsl, _ => closed_nilsl
  | .nilmp, _ => fun _ v h => by cases h; exact .nilmp
  | .nilfn, _ => fun _ v h => by cases h; exact .nilfn
  | .nilif, _ => fun _ v h => by cases h; exact .nilif
  | .ro cs, h => closed_ro (PV.clsB_ok cs h)
  | .sl z es, h => closed_sl (PV.clssB_ok es h)
  | .agg cs, h => closed_agg (PV.clsB_ok cs h)
  | .tup cs, h => closed_tup (PV.clsB_ok cs h)
  | .fn f a b, h => by
    simp only [PV.clB, Bool.and_eq_true] at h
    exact closed_fn (PV.clsB_ok a h.1) (PV.clsB_ok b h.2)
  | .ifc t v, h => fun g x hx => by
    cases hx with
    | ifc _ y _ hy => exact .ifc t y v (PV.clB_ok v h g y hy)
  | .rmp es, h => closed_rmp (PV.clpB_ok es h)
  | .loc _ _ _, h => by cases h
  | .own _ _ _, h => by cases h
  | .mp _, h => by cases h
theorem PV.clsB_ok : ∀ (l : List PV), PV.clsB l = true → ∀ x ∈ l, Closed x
  | [], _ => fun x hx => by cases hx
  | p :: r, h => by
    simp only [PV.clsB, Bool.and_eq_true] at h
    intro x hx
    rcases List.mem_cons.1 hx with hp | hx
    · rw [hp]; exact PV.clB_ok p h.1
    · exact PV.clsB_ok r h.2 x hx
theorem PV.clssB_ok : ∀ (l : List (List PV)), PV.clssB l = true → ∀ e ∈ l, ∀ x ∈ e, Closed x
  | [], _ => fun x hx => by cases hx
  | p :: r, h => by
    simp only [PV.clssB, Bool.and_eq_true] at h
    intro x hx
    rcases List.mem_cons.1 hx with hp | hx
    · rw [hp]; exact PV.clsB_ok p h.1
    · exact PV.clssB_ok r h.2 x hx
theorem PV.clpB_ok : ∀ (l : List (PV × PV)), PV.clpB l = true → ∀ e ∈ l, Closed e.1 ∧ Closed e.2
  | [], _ => fun x hx => by cases hx
  | (a, b) :: r, h => by
    simp only [PV.clpB, Bool.and_eq_true] at h
    intro x hx
    rcases List.mem_cons.1 hx with hp | hx
    · rw [hp]; exact ⟨PV.clB_ok a h.1.1, PV.clB_ok b h.1.2⟩
    · exact PV.clpB_ok r h.2 x hx
end
mutual
def PV.scB : PV → Bool
  | .any | .undef | .bool _ | .int _ _ | .str _ | .nilp | .nilsl | .nilmp | .nilfn | .nilif => true
  | .sl _ es => es.isEmpty
  | .agg cs => PV.scsB cs
  | .tup cs => PV.scsB cs
  | .ro _ | .fn _ _ _ | .ifc _ _ | .loc _ _ _ | .own _ _ _ | .mp _ | .rmp _ => false
def PV.scsB : List PV → Bool
  | [] => true
  | p :: r => PV.scB p && PV.scsB r
end
mutual
theorem PV.scB_ok : ∀ (p : PV), p.scB = true → Scalar p
  | .any, _ => fun _ v _ _ => .any v
  | .undef, _ => fun _ v h _ => by cases h; exact .undef
  | .bool b, _ => scalar_bool _
  | .int k n, _ => scalar_int _ _
  | .str s, _ => scalar_str _
  | .nilp, _ => fun _ v h _ => by cases h; exact .nilp
  | .nilsl, _ => fun _ v h _ => by cases h; exact .nilsl
  | .nilmp, _ => fun _ v h _ => by cases h; exact .nilmp
  | .nilfn, _ => fun _ v h _ => by cases h; exact .nilfn
  | .nilif, _ => fun _ v h _ => by cases h; exact .nilif
  | .ro cs, h => by cases h
  | .sl z es, h => by
    obtain rfl : es = [] := by simpa [PV.scB] using h
    intro g v hv g'
    cases hv with
    | slE => exact .slE _ _ _
    | sl b o len cap z a es vs ha hl hc hz hm hr => 
      obtain rfl : len = 0 := by simpa using hl.symm
      exact .slE _ _ _
  | .agg cs, h => scalar_agg (PV.scsB_ok cs h)
  | .tup cs, h => scalar_tup (PV.scsB_ok cs h)
  | .fn f a b, h => by cases h
  | .ifc t v, h => by cases h
  | .loc _ _ _, h => by cases h
  | .own _ _ _, h => by cases h
  | .mp _, h => by cases h
  | .rmp _, h => by cases h
theorem PV.scsB_ok : ∀ (l : List PV), PV.scsB l = true → ∀ x ∈ l, Scalar x
  | [], _ => fun x hx => by cases hx
  | p :: r, h => by
    simp only [PV.scsB, Bool.and_eq_true] at h
    intro x hx
    rcases List.mem_cons.1 hx with hp | hx
    · rw [hp]; exact PV.scB_ok p h.1
    · exact PV.scsB_ok r h.2 x hx
end

/-! ### a value seen once all is frozen, to the ground -/
def optL (f : PV → Option PV) : List PV → Option (List PV)
  | [] => some []
  | p :: r => match f p with
    | some q => match optL f r with
      | some s => some (q :: s)
      | none => none
    | none => none
def optLL (f : PV → Option PV) : List (List PV) → Option (List (List PV))
  | [] => some []
  | p :: r => match optL f p with
    | some q => match optLL f r with
      | some s => some (q :: s)
      | none => none
    | none => none
def optP (f : PV → Option PV) : List (PV × PV) → Option (List (PV × PV))
  | [] => some []
  | p :: r => match f p.1, f p.2 with
    | some a, some b => match optP f r with
      | some s => some ((a, b) :: s)
      | none => none
    | _, _ => none
theorem optP_ok {f : PV → Option PV} : ∀ {l q : List (PV × PV)}, optP f l = some q → l.length = q.length ∧ ∀ (i : Nat) (a b : PV × PV), l[i]? = some a → q[i]? = some b → f a.1 = some b.1 ∧ f a.2 = some b.2
  | [], q, h => by simp only [optP, Option.some.injEq] at h; subst h; exact ⟨rfl, fun i a b ha => by simp at ha⟩
  | p :: r, q, h => by
    simp only [optP] at h
    split at h
    · rename_i x y hx hy
      split at h
      · rename_i s hs
        simp only [Option.some.injEq] at h; subst h
        obtain ⟨h1, h2⟩ := optP_ok hs
        refine ⟨by simp [h1], fun i a b ha hb => ?_⟩
        cases i with
        | zero =>
          simp only [List.getElem?_cons_zero, Option.some.injEq] at ha hb
          subst ha; subst hb
          exact ⟨hx, hy⟩
        | succ i => exact h2 i a b (by simpa using ha) (by simpa using hb)
      · cases h
    · cases h
theorem optL_ok {f : PV → Option PV} : ∀ {l q : List PV}, optL f l = some q → l.length = q.length ∧ ∀ j, j < q.length → f (PV.nth l j) = some (PV.nth q j)
  | [], q, h => by simp only [optL, Option.some.injEq] at h; subst h; exact ⟨rfl, fun j hj => by simp at hj⟩
  | p :: r, q, h => by
    simp only [optL] at h
    split at h
    · rename_i x hx
      split at h
      · rename_i s hs
        simp only [Option.some.injEq] at h; subst h
        obtain ⟨h1, h2⟩ := optL_ok hs
        refine ⟨by simp [h1], fun j hj => ?_⟩
        cases j with
        | zero => exact hx
        | succ j => exact h2 j (by simpa using hj)
      · cases h
    · cases h
theorem optLL_ok {f : PV → Option PV} : ∀ {l q : List (List PV)}, optLL f l = some q → l.length = q.length ∧ ∀ i, i < q.length → (PV.row l i).length = (PV.row q i).length ∧ ∀ j, j < (PV.row q i).length → f (PV.nth (PV.row l i) j) = some (PV.nth (PV.row q i) j)
  | [], q, h => by simp only [optLL, Option.some.injEq] at h; subst h; exact ⟨rfl, fun j hj => by simp at hj⟩
  | p :: r, q, h => by
    simp only [optLL] at h
    split at h
    · rename_i x hx
      split at h
      · rename_i s hs
        simp only [Option.some.injEq] at h; subst h
        obtain ⟨h1, h2⟩ := optLL_ok hs
        refine ⟨by simp [h1], fun j hj => ?_⟩
        cases j with
        | zero => exact optL_ok hx
        | succ j => exact h2 j (by simpa using hj)
      · cases h
    · cases h
def viewD (h : Heap) : Nat → PV → Option PV
  | 0, _ => none
  | n + 1, p => bif p.clB then some p else match p with
    | .own id off len => (match h.get id with
      | some (.arr _ z es) => bif Nat.ble (off + len) es.length then (match optLL (viewD h n) ((es.drop off).take len) with
        | some q => some (.sl z q)
        | none => none) else none
      | _ => none)
    | .sl z es => (match optLL (viewD h n) es with
        | some q => some (.sl z q)
        | none => none)
    | .agg cs => (match optL (viewD h n) cs with
        | some q => some (.agg q)
        | none => none)
    | .tup cs => (match optL (viewD h n) cs with
        | some q => some (.tup q)
        | none => none)
    | .loc id i off => (match h.get id with
      | some (.arr _ _ es) => bif Nat.blt i es.length then (match optL (viewD h n) ((PV.row es i).drop off) with
        | some q => some (.ro q)
        | none => none) else none
      | _ => none)
    | .mp id => (match h.get id with
      | some (.map es) => (match optP (viewD h n) es with
        | some q => some (.rmp q)
        | none => none)
      | _ => none)
    | _ => none
theorem viewD_ok {h : Heap} : ∀ {n : Nat} {p q : PV}, viewD h n p = some q → View h p q
  | 0, _, _, e => by cases e
  | n + 1, p, q, e => by
    simp only [viewD] at e
    cases hc : p.clB with
    | true => rw [hc] at e; simp only [cond_true, Option.some.injEq] at e; subst e; exact View.refl _ _
    | false =>
      rw [hc] at e
      simp only [cond_false] at e
      split at e
      · rename_i id off len
        split at e
        case h_2 => cases e
        rename_i fz z es hg
        cases hb : Nat.ble (off + len) es.length with
        | false => rw [hb] at e; cases e
        | true =>
          rw [hb] at e
          simp only [cond_true] at e
          split at e
          case h_2 => cases e
          rename_i q' hq
          simp only [Option.some.injEq] at e; subst e
          have hle : off + len ≤ es.length := Nat.le_of_ble_eq_true hb
          obtain ⟨l1, l2⟩ := optLL_ok hq
          have hl : q'.length = len := by rw [← l1]; simp; omega
          intro g w v r hv
          cases hv with
          | ownE ao =>
            have : q' = [] := List.eq_nil_of_length_eq_zero hl
            subst this; exact .slE _ _ _
          | own _ _ _ cap b o n' z' a hb ha hc hn =>
            subst ha
            rcases r.blk id _ hg with ⟨hb0, _⟩ | ⟨b', o', n'', z'', hb', hlt, hlive, hok⟩
            · rw [hb] at hb0; cases hb0
            · rw [hb] at hb'
              simp only [Option.some.injEq, Prod.mk.injEq] at hb'
              obtain ⟨rfl, rfl, rfl, rfl⟩ := hb'
              obtain ⟨rfl, hz, hle', c, ty, h1, h2, h3⟩ := hok
              have hrow : ∀ i, i < len → PV.row ((es.drop off).take len) i = PV.row es (off + i) := fun i hi => by rw [row_take _ _ _ hi, row_drop]
              refine .sl b (o + off * z) len cap z _ _ (fun i j => c.getD (o + (off + i) * z + j) Go.undef) rfl hl hc (fun i hi => ?_) (fun i j hi hj => ?_) (fun i j hi hj => ?_)
              · rw [← (l2 i (by omega)).1, hrow i hi]; exact hz _ (by omega)
              · obtain ⟨e1, e2, e3⟩ := h3 (off + i) j (by omega) hj
                have e4 : o + off * z + i * z + j = o + (off + i) * z + j := by rw [Nat.add_mul]; omega
                rw [e4]
                cases fz
                · have hin : o + (off + i) * z + j < c.size := by
                    have := rows_bound (n := es.length) (z := z) (show off + i < es.length by omega) hj
                    omega
                  exact frzM_new ((hlive rfl).1 _) hg hb rfl (by simp [World.cell?, h1, hin, Array.getD]) e1
                · exact frzM_old (e3 rfl)
              · obtain ⟨e1, e2, e3⟩ := h3 (off + i) j (by omega) hj
                have hj' : j < (PV.row q' i).length := by rw [← (l2 i (by omega)).1, hrow i hi, hz _ (by omega)]; exact hj
                have hv := viewD_ok ((l2 i (by omega)).2 j hj')
                rw [hrow i hi] at hv
                exact hv g w _ r e2
      · rename_i z es
        split at e
        case h_2 => cases e
        rename_i q' hq
        simp only [Option.some.injEq] at e; subst e
        obtain ⟨l1, l2⟩ := optLL_ok hq
        intro g w v r hv
        cases hv with
        | slE ao =>
          have : q' = [] := List.eq_nil_of_length_eq_zero (by rw [← l1]; rfl)
          subst this; exact .slE _ _ _
        | sl b o len cap z a es vs ha hl hc hz hm hr =>
          refine .sl b o len cap z a _ vs ha (by omega) hc (fun i hi => ?_) (fun i j hi hj => frzM_old (hm i j hi hj)) (fun i j hi hj => ?_)
          · rw [← (l2 i (by omega)).1]; exact hz i hi
          · have hj' : j < (PV.row q' i).length := by rw [← (l2 i (by omega)).1, hz i hi]; exact hj
            exact viewD_ok ((l2 i (by omega)).2 j hj') g w _ r (hr i j hi hj)
      · rename_i cs
        split at e
        case h_2 => cases e
        rename_i q' hq
        simp only [Option.some.injEq] at e; subst e
        obtain ⟨l1, l2⟩ := optL_ok hq
        intro g w v r hv
        obtain ⟨vs, rfl, hs, ho, hr⟩ := hv.agg_inv
        exact .agg _ _ (by omega) (fun j hj => ho j (by omega)) (fun j hj => viewD_ok (l2 j hj) g w _ r (hr j (by omega)))
      · rename_i cs
        split at e
        case h_2 => cases e
        rename_i q' hq
        simp only [Option.some.injEq] at e; subst e
        obtain ⟨l1, l2⟩ := optL_ok hq
        intro g w v r hv
        obtain ⟨vs, rfl, hs, hr⟩ := hv.tup_inv
        exact .tup _ _ (by omega) (fun j hj => viewD_ok (l2 j hj) g w _ r (hr j (by omega)))
      · rename_i id i off
        split at e
        case h_2 => cases e
        rename_i fz z es hg
        cases hb : Nat.blt i es.length with
        | false => rw [hb] at e; cases e
        | true =>
          rw [hb] at e
          simp only [cond_true] at e
          split at e
          case h_2 => cases e
          rename_i q' hq
          simp only [Option.some.injEq] at e; subst e
          have hi : i < es.length := Nat.le_of_ble_eq_true hb
          obtain ⟨l1, l2⟩ := optL_ok hq
          intro g w v r hv
          cases hv with
          | loc _ _ _ b o n' z' a hb ha =>
            subst ha
            rcases r.blk id _ hg with ⟨hb0, _⟩ | ⟨b', o', n'', z'', hb', hlt, hlive, hok⟩
            · rw [hb] at hb0; cases hb0
            · rw [hb] at hb'
              simp only [Option.some.injEq, Prod.mk.injEq] at hb'
              obtain ⟨rfl, rfl, rfl, rfl⟩ := hb'
              obtain ⟨rfl, hz, hle', c, ty, h1, h2, h3⟩ := hok
              have hlen : q'.length = z - off := by rw [← l1, List.length_drop, hz i hi]
              have hnth : ∀ j, PV.nth ((PV.row es i).drop off) j = PV.nth (PV.row es i) (off + j) := fun j => by simp [PV.nth, List.getD_eq_getElem?_getD]
              refine .ro b (o + i * z + off) _ q' (fun j => c.getD (o + i * z + (off + j)) Go.undef) rfl (fun j hj => ?_) (fun j hj => ?_)
              · obtain ⟨e1, e2, e3⟩ := h3 i (off + j) hi (by omega)
                rw [Nat.add_assoc]
                cases fz
                · have hin : o + i * z + (off + j) < c.size := by
                    have := rows_bound (n := es.length) (z := z) hi (j := off + j) (by omega)
                    omega
                  exact frzM_new ((hlive rfl).1 _) hg hb rfl (by simp [World.cell?, h1, hin, Array.getD]) e1
                · exact frzM_old (e3 rfl)
              · obtain ⟨e1, e2, e3⟩ := h3 i (off + j) hi (by omega)
                have hv := viewD_ok (l2 j hj)
                rw [hnth] at hv
                exact hv g w _ r e2
      · rename_i id
        split at e
        case h_2 => cases e
        rename_i es hg
        split at e
        case h_2 => cases e
        rename_i q' hq
        simp only [Option.some.injEq] at e; subst e
        obtain ⟨l1, l2⟩ := optP_ok hq
        exact View.map hg l1 fun i a b ha hb => ⟨viewD_ok (l2 i a b ha hb).1, viewD_ok (l2 i a b ha hb).2⟩
      · cases e
theorem views_ok {h : Heap} {n : Nat} : ∀ {l q : List PV}, optL (viewD h n) l = some q → Views h l q
  | [], q, e => by simp only [optL, Option.some.injEq] at e; subst e; trivial
  | p :: r, q, e => by
    simp only [optL] at e
    split at e
    · rename_i x hx
      split at e
      · rename_i s hs
        simp only [Option.some.injEq] at e; subst e
        exact ⟨viewD_ok hx, views_ok hs⟩
      · cases e
    · cases e
end Go.VM

