/-
  The value machine, 11: calls that touch nothing of the caller's ('PCall'), arguments seen as they stand, results frozen.
-/
import Derived.Test.YtepmaobfbfbecaaVmA
set_option linter.all false
namespace Go.VM
open Go

/-- Everything that the heap still writes, frozen. -/
noncomputable def frzM (g : Gh) (w : World) (h : Heap) (b o : Nat) : Option Value := by
  classical
  exact match g.m b o with
    | some v => some v
    | none => if ∃ id z es x, h.get id = some (.arr false z es) ∧ g.β id = some x ∧ x.1 = b then
        (match w.cell? ⟨b, o, none⟩ with
        | some v => if v.oneCell' = true then some v else none
        | none => none)
      else none
noncomputable def frzMM (g : Gh) (w : World) (h : Heap) (b : Nat) : Option (Array MapEntry) := by
  classical
  exact match g.m.mm b with
    | some e => some e
    | none => if ∃ id es x, h.get id = some (.map es) ∧ g.β id = some x ∧ x.1 = b then
        (match w.heap[b]? with
        | some (.map ents _) => some ents
        | _ => none)
      else none
noncomputable def frz (g : Gh) (w : World) (h : Heap) : Gh := ⟨⟨frzM g w h, frzMM g w h⟩, g.β⟩
theorem frzMM_old {g : Gh} {w : World} {h : Heap} {b : Nat} {e : Array MapEntry} (hm : g.m.mm b = some e) : frzMM g w h b = some e := by
  unfold frzMM; simp [hm]
theorem frzMM_new {g : Gh} {w : World} {h : Heap} {b clock : Nat} {e : Array MapEntry} (hm : g.m.mm b = none) {id : Nat} {es : List (PV × PV)} {x : Nat × Nat × Nat × Nat} (h1 : h.get id = some (.map es)) (h2 : g.β id = some x) (h3 : x.1 = b)
    (hc : w.heap[b]? = some (.map e clock)) : frzMM g w h b = some e := by
  unfold frzMM
  rw [hm]
  simp only
  rw [if_pos ⟨id, es, x, h1, h2, h3⟩, hc]
theorem frzMM_inv {g : Gh} {w : World} {h : Heap} {b : Nat} {e : Array MapEntry} (hm : frzMM g w h b = some e) : g.m.mm b = some e ∨ (Owned g h b ∧ ∃ clock, w.heap[b]? = some (.map e clock)) := by
  unfold frzMM at hm
  split at hm
  · rename_i v' hv; simp only [Option.some.injEq] at hm; subst hm; exact .inl hv
  · split at hm
    · rename_i hex
      obtain ⟨id, es, x, h1, h2, h3⟩ := hex
      split at hm
      · rename_i ents clock hc; simp only [Option.some.injEq] at hm; subst hm; exact .inr ⟨⟨id, _, x, h1, rfl, h2, h3⟩, clock, hc⟩
      · cases hm
    · cases hm

theorem frzM_old {g : Gh} {w : World} {h : Heap} {b o : Nat} {v : Value} (hm : g.m b o = some v) : frzM g w h b o = some v := by
  unfold frzM; simp [hm]
theorem frzM_new {g : Gh} {w : World} {h : Heap} {b o : Nat} {v : Value} (hm : g.m b o = none) {id z : Nat} {es : List (List PV)} {x : Nat × Nat × Nat × Nat} (h1 : h.get id = some (.arr false z es)) (h2 : g.β id = some x) (h3 : x.1 = b)
    (hc : w.cell? ⟨b, o, none⟩ = some v) (ho : v.oneCell' = true) : frzM g w h b o = some v := by
  unfold frzM
  rw [hm]
  simp only
  rw [if_pos ⟨id, z, es, x, h1, h2, h3⟩, hc]
  simp [ho]
theorem frzM_inv {g : Gh} {w : World} {h : Heap} {b o : Nat} {v : Value} (hm : frzM g w h b o = some v) : g.m b o = some v ∨ (Owned g h b ∧ w.cell? ⟨b, o, none⟩ = some v ∧ v.oneCell' = true) := by
  unfold frzM at hm
  split at hm
  · rename_i v' hv; simp only [Option.some.injEq] at hm; subst hm; exact .inl hv
  · split at hm
    · rename_i hex
      obtain ⟨id, z, es, x, h1, h2, h3⟩ := hex
      split at hm
      · split at hm
        · rename_i v' hv ho; simp only [Option.some.injEq] at hm; subst hm; exact .inr ⟨⟨id, _, x, h1, rfl, h2, h3⟩, hv, ho⟩
        · cases hm
      · cases hm
    · cases hm
theorem frz_le (g : Gh) (w : World) (h : Heap) : g.le (frz g w h) := ⟨fun _ _ _ e => frzM_old e, fun _ _ e => e, fun _ _ e => frzMM_old e⟩
theorem frz_rel {g : Gh} {w : World} {h : Heap} (r : Rel g w h) : Rel (frz g w h) w ⟨[], h.top⟩ :=
  ⟨fun b o v e => by rcases frzM_inv e with h1 | ⟨_, h1, h2⟩
                     · exact r.mem b o v h1
                     · exact ⟨h1, h2⟩,
   fun b e he => by rcases frzMM_inv he with h1 | ⟨_, h1⟩
                    · exact r.mmem b e h1
                    · exact h1,
   fun id hid => ⟨(r.fin id hid).1, rfl⟩, fun id ab e => by simp [Heap.get, HL.get] at e, fun id id' x x' ab ab' _ e => by simp [Heap.get, HL.get] at e⟩
/-- No names. -/
def Gh.bare (g : Gh) : Gh := ⟨g.m, fun _ => none⟩
theorem Rel.bare {g : Gh} {w : World} {h : Heap} (r : Rel g w h) : Rel g.bare w Heap.nil :=
  ⟨r.mem, r.mmem, fun id _ => ⟨rfl, rfl⟩, fun id ab e => by simp [Heap.get, HL.get, Heap.nil] at e, fun id id' x x' ab ab' _ e => by simp [Heap.get, HL.get, Heap.nil] at e⟩
def ClosedL (l : List PV) : Prop := ∀ x ∈ l, Closed x
theorem ClosedL.args {g : Gh} {vals : Array Value} {l : List PV} (hc : ClosedL l) (ha : Args g vals l) : Args g.bare vals l :=
  ⟨ha.1, fun j hj => by
    refine hc _ ?_ g _ (ha.2 j hj)
    simp only [PV.nth, List.getD_eq_getElem?_getD, List.getElem?_eq_getElem hj, Option.getD_some]
    exact List.getElem_mem hj⟩

/-- p says of v, once all is frozen, what r says of it now. -/
def View (h : Heap) (r p : PV) : Prop := ∀ g w v, Rel g w h → Rep g v r → Rep (frz g w h) v p
theorem View.refl (h : Heap) (r : PV) : View h r r := fun g w v _ hv => hv.mono (frz_le g w h)
theorem View.nil (h : Heap) (z : Nat) : View h .nilsl (.sl z []) := fun g w v _ hv => by cases hv; exact .slE _ _ _
theorem View.own {h : Heap} {id off len z : Nat} {fz : Bool} {es : List (List PV)} (hg : h.get id = some (.arr fz z es)) (hle : off + len ≤ es.length) : View h (.own id off len) (.sl z ((es.drop off).take len)) := by
  intro g w v r hv
  cases hv with
  | ownE ao => simp only [List.take_zero]; exact .slE _ _ _
  | own _ _ _ cap b o n z' a hb ha hc hn =>
    subst ha
    rcases r.blk id _ hg with ⟨hb0, _⟩ | ⟨b', o', n', z'', hb', hlt, hlive, hok⟩
    · rw [hb] at hb0; cases hb0
    · rw [hb] at hb'
      simp only [Option.some.injEq, Prod.mk.injEq] at hb'
      obtain ⟨rfl, rfl, rfl, rfl⟩ := hb'
      obtain ⟨rfl, hz, hle', c, ty, h1, h2, h3⟩ := hok
      refine .sl b (o + off * z) len cap z _ _ (fun i j => c.getD (o + (off + i) * z + j) Go.undef) rfl (by simp; omega) hc (fun i hi => ?_) (fun i j hi hj => ?_) (fun i j hi hj => ?_)
      · rw [row_take _ _ _ hi, row_drop]; exact hz _ (by omega)
      · obtain ⟨e1, e2, e3⟩ := h3 (off + i) j (by omega) hj
        have e4 : o + off * z + i * z + j = o + (off + i) * z + j := by rw [Nat.add_mul]; omega
        rw [e4]
        cases fz
        · have hin : o + (off + i) * z + j < c.size := by
            have := rows_bound (n := es.length) (z := z) (show off + i < es.length by omega) hj
            omega
          exact frzM_new ((hlive rfl).1 _) hg hb rfl (by simp [World.cell?, h1, hin, Array.getD]) e1
        · exact frzM_old (e3 rfl)
      · obtain ⟨e1, e2, e3⟩ := h3 (off + i) j (by omega) hj
        rw [row_take _ _ _ hi, row_drop]
        exact e2.mono (frz_le g w h)
theorem View.map {h : Heap} {id : Nat} {es q : List (PV × PV)} (hg : h.get id = some (.map es)) (hl : es.length = q.length) (hv : ∀ (i : Nat) (a b : PV × PV), es[i]? = some a → q[i]? = some b → View h a.1 b.1 ∧ View h a.2 b.2) : View h (.mp id) (.rmp q) := by
  intro g w v r hr
  cases hr with
  | mp _ b o n z hb =>
    rcases r.blk id _ hg with ⟨_, fz, zz, hh⟩ | ⟨b', o', n', z', hb', hlt, hlive, hok⟩
    · cases hh
    · rw [hb] at hb'
      simp only [Option.some.injEq, Prod.mk.injEq] at hb'
      obtain ⟨rfl, rfl, rfl, rfl⟩ := hb'
      obtain ⟨ents, clock, e1, e2, e3⟩ := hok
      have pick : ∀ (i : Nat) (p : PV × PV), q[i]? = some p → ∃ a, es[i]? = some a := by
        intro i p hp
        have := (List.getElem?_eq_some_iff.1 hp).1
        exact ⟨es[i], List.getElem?_eq_getElem (by omega)⟩
      refine .rmp b ents q (frzMM_new (hlive rfl).2 hg hb rfl e1) (by omega) (fun i e p he hp => ?_) (fun i e p he hp => ?_)
      · obtain ⟨a, ha⟩ := pick i p hp
        exact (hv i a p ha hp).1 g w _ r (e3 i e a he ha).1
      · obtain ⟨a, ha⟩ := pick i p hp
        exact (hv i a p ha hp).2 g w _ r (e3 i e a he ha).2
theorem closed_rmp {es : List (PV × PV)} (h : ∀ e ∈ es, Closed e.1 ∧ Closed e.2) : Closed (.rmp es) := by
  intro g v hv
  cases hv with
  | rmp b ents es hm hl hk hv =>
    exact .rmp b ents es hm hl (fun i e p he hp => (h p (List.mem_of_getElem? hp)).1 g _ (hk i e p he hp)) (fun i e p he hp => (h p (List.mem_of_getElem? hp)).2 g _ (hv i e p he hp))
theorem View.tup {h : Heap} {l q : List PV} (hl : l.length = q.length) (hv : ∀ j, j < q.length → View h (PV.nth l j) (PV.nth q j)) : View h (.tup l) (.tup q) := by
  intro g w v r hr
  obtain ⟨vs, rfl, hs, hrr⟩ := hr.tup_inv
  exact .tup _ _ (by omega) (fun j hj => hv j hj g w _ r (hrr j (by omega)))
theorem View.tup2 {h : Heap} {a b c d : PV} (h1 : View h a c) (h2 : View h b d) : View h (.tup [a, b]) (.tup [c, d]) :=
  View.tup rfl (fun j hj => by
    match j, hj with
    | 0, _ => exact h1
    | 1, _ => exact h2)
/-- Arguments, one by one. -/
def Views (h : Heap) : List PV → List PV → Prop
  | [], [] => True
  | a :: r, b :: q => View h a b ∧ Views h r q
  | _, _ => False
theorem Views.args {g : Gh} {w : World} {h : Heap} (r : Rel g w h) {vals : Array Value} {l q : List PV} (hv : Views h l q) (ha : Args g vals l) : Args (frz g w h) vals q := by
  have key : ∀ (l q : List PV), Views h l q → l.length = q.length ∧ ∀ j, j < q.length → View h (PV.nth l j) (PV.nth q j) := by
    intro l
    induction l with
    | nil => intro q hv; cases q with
      | nil => exact ⟨rfl, fun j hj => by simp at hj⟩
      | cons b q => exact hv.elim
    | cons a l ih => intro q hv; cases q with
      | nil => exact hv.elim
      | cons b q =>
        obtain ⟨h1, h2⟩ := hv
        obtain ⟨i1, i2⟩ := ih q h2
        refine ⟨by simp [i1], fun j hj => ?_⟩
        cases j with
        | zero => exact h1
        | succ j => exact i2 j (by simpa using hj)
  obtain ⟨k1, k2⟩ := key l q hv
  exact ⟨by rw [ha.1, k1], fun j hj => k2 j hj g w _ r (ha.2 j (by omega))⟩

/-! ### closed, scalar -/
theorem Closed.of_scalar {p : PV} (h : Scalar p) : Closed p := fun g v hv => h g v hv _
theorem scalar_int (k : IntKind) (n : Int) : Scalar (.int k n) := fun g v hv g' => by cases hv; exact .int _ _
theorem scalar_bool (b : Bool) : Scalar (.bool b) := fun g v hv g' => by cases hv; exact .bool _
theorem scalar_str (s : List UInt8) : Scalar (.str s) := fun g v hv g' => by cases hv; exact .str _ _ ‹_›
theorem scalar_nilif : Scalar .nilif := fun g v hv g' => by cases hv; exact .nilif
theorem scalar_tup {l : List PV} (h : ∀ x ∈ l, Scalar x) : Scalar (.tup l) := by
  intro g v hv g'
  obtain ⟨vs, rfl, hs, hr⟩ := hv.tup_inv
  refine .tup _ _ hs (fun j hj => ?_)
  refine h _ ?_ g _ (hr j hj) g'
  simp only [PV.nth, List.getD_eq_getElem?_getD, List.getElem?_eq_getElem hj, Option.getD_some]
  exact List.getElem_mem hj
theorem scalar_agg {l : List PV} (h : ∀ x ∈ l, Scalar x) : Scalar (.agg l) := by
  intro g v hv g'
  obtain ⟨vs, rfl, hs, ho, hr⟩ := hv.agg_inv
  refine .agg _ _ hs ho (fun j hj => ?_)
  refine h _ ?_ g _ (hr j hj) g'
  simp only [PV.nth, List.getD_eq_getElem?_getD, List.getElem?_eq_getElem hj, Option.getD_some]
  exact List.getElem_mem hj
theorem closed_nilsl : Closed .nilsl := fun g v hv => by cases hv; exact .nilsl
theorem closed_tup {l : List PV} (h : ∀ x ∈ l, Closed x) : Closed (.tup l) := by
  intro g v hv
  obtain ⟨vs, rfl, hs, hr⟩ := hv.tup_inv
  refine .tup _ _ hs (fun j hj => ?_)
  refine h _ ?_ g _ (hr j hj)
  simp only [PV.nth, List.getD_eq_getElem?_getD, List.getElem?_eq_getElem hj, Option.getD_some]
  exact List.getElem_mem hj
theorem closed_agg {l : List PV} (h : ∀ x ∈ l, Closed x) : Closed (.agg l) := by
  intro g v hv
  obtain ⟨vs, rfl, hs, ho, hr⟩ := hv.agg_inv
  refine .agg _ _ hs ho (fun j hj => ?_)
  refine h _ ?_ g _ (hr j hj)
  simp only [PV.nth, List.getD_eq_getElem?_getD, List.getElem?_eq_getElem hj, Option.getD_some]
  exact List.getElem_mem hj
theorem closed_sl {z : Nat} {es : List (List PV)} (h : ∀ e ∈ es, ∀ x ∈ e, Closed x) : Closed (.sl z es) := by
  intro g v hv
  cases hv with
  | slE => exact .slE _ _ _
  | sl b o len cap z a es vs ha hl hc hz hm hr =>
    refine .sl b o len cap z a es vs ha hl hc hz hm (fun i j hi hj => ?_)
    have hi' : i < es.length := by omega
    have hz' := hz i hi
    refine h (PV.row es i) ?_ _ ?_ g _ (hr i j hi hj)
    · simp only [PV.row, List.getD_eq_getElem?_getD, List.getElem?_eq_getElem hi', Option.getD_some]
      exact List.getElem_mem hi'
    · have hj' : j < (PV.row es i).length := by omega
      simp only [PV.nth, List.getD_eq_getElem?_getD, List.getElem?_eq_getElem hj', Option.getD_some]
      exact List.getElem_mem hj'
theorem closed_ro {cs : List PV} (h : ∀ x ∈ cs, Closed x) : Closed (.ro cs) := by
  intro g v hv
  cases hv with
  | ro b o a cs vs ha hm hr =>
    refine .ro b o a cs vs ha hm (fun j hj => ?_)
    refine h _ ?_ g _ (hr j hj)
    simp only [PV.nth, List.getD_eq_getElem?_getD, List.getElem?_eq_getElem hj, Option.getD_some]
    exact List.getElem_mem hj

/-! ### calls that touch nothing -/
structure MemExt (g : Gh) (w : World) (m' : Mem) (w' : World) : Prop where
  old : ∀ b o v, g.m b o = some v → m' b o = some v
  ok : ∀ b o v, m' b o = some v → w'.cell? ⟨b, o, none⟩ = some v ∧ v.oneCell' = true
  new : ∀ b o v, m' b o = some v → g.m b o = some v ∨ w.heap.size ≤ b
  oldM : ∀ b e, g.m.mm b = some e → m'.mm b = some e
  okM : ∀ b e, m'.mm b = some e → ∃ clock, w'.heap[b]? = some (.map e clock)
  newM : ∀ b e, m'.mm b = some e → g.m.mm b = some e ∨ w.heap.size ≤ b
def PCall (P : Program) (f : FuncId) (args : List PV) (p : PV) : Prop :=
  fnOk P f = true ∧ ClosedL args ∧ ∀ g w (vals : Array Value), Rel g w Heap.nil → Args g vals args →
    Calls P f vals w fun x w' => ∃ v m', x = .returned v ∧ Rep ⟨m', fun _ => none⟩ v p ∧ MemExt g w m' w' ∧ RowKit.Below w.heap.size w w'

theorem PCall_intro {P : Program} {f : FuncId} {args : List PV} {p : PV} (H : ACall P f args Heap.nil (fun r h' => View h' r p)) (hp : Closed p) (hargs : ClosedL args) : PCall P f args p := by
  refine ⟨H.1, hargs, fun g w vals r ha => (H.2 g w vals r ha).mono ?_⟩
  rintro x w' ⟨v, q, g', h', rfl, h1, h2, h3, h4⟩
  have hno : ∀ b, ¬ Owned g Heap.nil b := by rintro b ⟨id, ab, x, e, _⟩; simp [Heap.get, HL.get, Heap.nil] at e
  refine ⟨v, ⟨frzM g' w' h', frzMM g' w' h'⟩, rfl, hp _ _ (h1 g' w' v h3 h2), ⟨fun b o v e => frzM_old (h4.le.1 _ _ _ e), fun b o v e => ?_, fun b o v e => ?_, fun b e he => frzMM_old (h4.le.2.2 _ _ he), fun b e he => (frz_rel h3).mmem b e he, fun b e he => ?_⟩, ⟨h4.os, h4.tape, h4.output, h4.size, fun k hk => h4.block k hk (hno k)⟩⟩
  · exact (frz_rel h3).mem b o v e
  · rcases frzM_inv e with e1 | ⟨e1, _⟩
    · rcases h4.mem b o v e1 with e2 | e2 | e2
      · exact .inl e2
      · exact .inr e2
      · exact (hno _ e2).elim
    · rcases h4.own b e1 with e2 | e2
      · exact (hno _ e2).elim
      · exact .inr e2
  · rcases frzMM_inv he with e1 | ⟨e1, _⟩
    · rcases h4.mmem b e e1 with e2 | e2 | e2
      · exact .inl e2
      · exact .inr e2
      · exact (hno _ e2).elim
    · rcases h4.own b e1 with e2 | e2
      · exact (hno _ e2).elim
      · exact .inr e2

section
variable {P : Program} {f : FuncId} {args : List PV} {p : PV} {h : Heap}
theorem Rel.below {g : Gh} {w w' : World} (r : Rel g w h) {m' : Mem} (hm : MemExt g w m' w') (hb : RowKit.Below w.heap.size w w') : Rel ⟨m', g.β⟩ w' h ∧ Evo g w h ⟨m', g.β⟩ w' h := by
  have hle : g.le ⟨m', g.β⟩ := ⟨hm.old, fun _ _ e => e, hm.oldM⟩
  refine ⟨⟨hm.ok, hm.okM, r.fin, fun id ab e => ?_, r.apart⟩, ⟨hle, hb.os, hb.tape, hb.output, hb.size, fun b h1 _ => hb.block b h1, fun b o v e => (hm.new b o v e).imp id .inl, fun b e he => (hm.newM b e he).imp id .inl, fun b ho => .inl ho⟩⟩
  rcases r.blk id ab e with h1 | ⟨b, o, n, z, h1, h2, h3, h4⟩
  · exact .inl h1
  · refine .inr ⟨b, o, n, z, h1, Nat.lt_of_lt_of_le h2 hb.size, fun hl => ⟨fun x => ?_, ?_⟩, AB.ok_move h4 hle (hb.block b h2)⟩
    · show m' b x = Option.none
      cases hx : m' b x with
      | none => rfl
      | some v =>
        rcases hm.new b x v hx with h5 | h5
        · rw [(h3 hl).1 x] at h5; cases h5
        · omega
    · show m'.mm b = Option.none
      cases hx : m'.mm b with
      | none => rfl
      | some e =>
        rcases hm.newM b e hx with h5 | h5
        · rw [(h3 hl).2] at h5; cases h5
        · omega
/-- A call on this heap that leaves it alone. -/
def PureCall (P : Program) (f : FuncId) (args : List PV) (h : Heap) (p : PV) : Prop :=
  PCall P f args p ∨ ∃ q, Views h args q ∧ PCall P f q p ∧ Scalar p
theorem PureCall.run (H : PureCall P f args h p) {g : Gh} {w : World} {vals : Array Value} (r : Rel g w h) (ha : Args g vals args) :
    Calls P f vals w fun x w' => ∃ v g', x = .returned v ∧ Rep g' v p ∧ Rel g' w' h ∧ Evo g w h g' w' h := by
  rcases H with H | ⟨q, hv, H, hs⟩
  · refine (H.2.2 g.bare w vals r.bare (H.2.1.args ha)).mono ?_
    rintro x w' ⟨v, m', rfl, h1, h2, h3⟩
    obtain ⟨R, E⟩ := r.below (m' := m') (w' := w') ⟨h2.old, h2.ok, h2.new, h2.oldM, h2.okM, h2.newM⟩ h3
    have hle : Gh.le ⟨m', fun _ => none⟩ ⟨m', g.β⟩ := ⟨fun _ _ _ e => e, (fun _ _ e => by cases e), fun _ _ e => e⟩
    exact ⟨v, ⟨m', g.β⟩, rfl, h1.mono hle, R, E⟩
  · refine (H.2.2 (frz g w h).bare w vals (frz_rel r).bare (H.2.1.args (hv.args r ha))).mono ?_
    rintro x w' ⟨v, m', rfl, h1, h2, h3⟩
    obtain ⟨R, E⟩ := r.below (m' := g.m) (w' := w') ⟨fun _ _ _ e => e, fun b o v e => h2.ok b o v (h2.old b o v (frzM_old e)), fun _ _ _ e => .inl e, fun _ _ e => e, fun b e he => h2.okM b e (h2.oldM b e (frzMM_old he)), fun _ _ e => .inl e⟩ h3
    exact ⟨v, _, rfl, hs _ _ h1 _, R, E⟩
theorem PureCall.fn (H : PureCall P f args h p) : fnOk P f = true := by
  rcases H with H | ⟨q, hv, H, hs⟩ <;> exact H.1
theorem PureCall.call {K : PV → Heap → Prop} (H : PureCall P f args h p) (hk : K p h) : ACall P f args h K := by
  refine ⟨H.fn, fun g w vals r ha => (H.run r ha).mono ?_⟩
  rintro x w' ⟨v, g', rfl, h1, h2, h3⟩
  exact ⟨v, p, g', h, rfl, hk, h1, h2, h3⟩
/-- As they stand. -/
theorem ACall_p {K : PV → Heap → Prop} (H : PCall P f args p) (hk : K p h) : ACall P f args h K := PureCall.call (.inl H) hk
/-- Seen, for a result that is read off no memory. -/
theorem ACall_v {K : PV → Heap → Prop} (q : List PV) (hv : Views h args q) (H : PCall P f q p) (hs : Scalar p) (hk : K p h) : ACall P f args h K := PureCall.call (.inr ⟨q, hv, H, hs⟩) hk
theorem ACall.mono {K K' : PV → Heap → Prop} (H : ACall P f args h K) (hk : ∀ p h, K p h → K' p h) : ACall P f args h K' :=
  ⟨H.1, fun g w vals r ha => (H.2 g w vals r ha).mono fun x w' ⟨v, p, g', h', h1, h2, h3⟩ => ⟨v, p, g', h', h1, hk _ _ h2, h3⟩⟩
end

/-- Freezing a block: from here on it is read only. -/
def frzH (h : Heap) (id : Nat) : Heap :=
  match h.get id with
  | some (.arr _ z es) => h.set id (.arr true z es)
  | _ => h
end Go.VM

