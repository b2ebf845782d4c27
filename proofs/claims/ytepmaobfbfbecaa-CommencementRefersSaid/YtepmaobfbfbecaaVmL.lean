/-
  The value machine, 14: from a reading of the arguments to abstract values. No program in sight.
-/
import Derived.Test.YtepmaobfbfbecaaVmD
import Derived.OpenShut
import Derived.DataReads
set_option linter.all false
namespace Go.VM
open Go

noncomputable def g0 (W : World) : Gh := ⟨⟨fun b o => match W.cell? ⟨b, o, none⟩ with | some v => if v.oneCell' = true then some v else none | none => none, fun _ => none⟩, fun _ => none⟩
theorem g0_m {W : World} {b o : Nat} {v : Value} (h : W.cell? ⟨b, o, none⟩ = some v) (h1 : v.oneCell' = true) : (g0 W).m b o = some v := by simp [g0, h, h1]
theorem g0_rel (W : World) : Rel (g0 W) W Heap.nil := by
  refine ⟨fun b o v h => ?_, (fun b e h => by cases h), fun _ _ => ⟨rfl, rfl⟩, fun id ab h => by simp [Heap.get, HL.get, Heap.nil] at h, fun id id' x x' ab ab' _ h => by simp [Heap.get, HL.get, Heap.nil] at h⟩
  simp only [g0] at h
  split at h
  · rename_i u hu
    split at h
    · simp only [Option.some.injEq] at h; subst h; exact ⟨hu, ‹_›⟩
    · cases h
  · cases h

/-- Cells, by what they say. -/
def CRep (g : Gh) (cs : List Value) (ps : List PV) : Prop := cs.length = ps.length ∧ ∀ j, j < ps.length → (cs.getD j Go.undef).oneCell' = true ∧ Rep g (cs.getD j Go.undef) (PV.nth ps j)
theorem CRep.one {g : Gh} {v : Value} {p : PV} (h1 : v.oneCell' = true) (h : Rep g v p) : CRep g [v] [p] := by
  refine ⟨rfl, fun j hj => ?_⟩
  obtain rfl : j = 0 := by simpa using hj
  exact ⟨h1, h⟩
theorem CRep.nil {g : Gh} : CRep g [] [] := ⟨rfl, fun j hj => by simp at hj⟩
theorem CRep.append {g : Gh} {a b : List Value} {p q : List PV} (h : CRep g a p) (k : CRep g b q) : CRep g (a ++ b) (p ++ q) := by
  refine ⟨by simp [h.1, k.1], fun j hj => ?_⟩
  simp only [PV.nth, List.getD_eq_getElem?_getD]
  by_cases hlt : j < p.length
  · rw [List.getElem?_append_left (by rw [h.1]; exact hlt), List.getElem?_append_left hlt]
    have := h.2 j hlt
    simpa [PV.nth, List.getD_eq_getElem?_getD] using this
  · rw [List.getElem?_append_right (by rw [h.1]; omega), List.getElem?_append_right (by omega), h.1]
    have := k.2 (j - p.length) (by simp at hj; omega)
    simpa [PV.nth, List.getD_eq_getElem?_getD] using this

/-- What a reading at a type says. -/
structure Reads (P : Program) (W : World) (n : Nat) (t : TypeId) {α : Type} (ok : α → Prop) (enc : α → List PV) : Prop where
  run : ∀ (H : Type) (en : TypeId × Value → H) (base : Nat) (spare : Nat → Bool) (held : Bool) (cs : List Value) (x : DataW H × List MemPlace), DataW.trod en P W base spare held n t cs = some x → ∃ a, ok a ∧ CRep (g0 W) cs (enc a)

section
variable {P : Program} {W : World} {n : Nat} {t : TypeId}
theorem Reads.map {α β : Type} {ok : α → Prop} {enc : α → List PV} {ok' : β → Prop} {enc' : β → List PV} (f : α → β) (h : Reads P W n t ok enc) (ho : ∀ a, ok a → ok' (f a)) (he : ∀ a, enc' (f a) = enc a) : Reads P W n t ok' enc' := by
  constructor; intro H en base spare held cs x hx
  obtain ⟨a, h1, h2⟩ := h.run H en base spare held cs x hx
  exact ⟨f a, ho a h1, by rw [he]; exact h2⟩
theorem reads_zero {α : Type} {ok : α → Prop} {enc : α → List PV} : Reads P W 0 t ok enc := by
  constructor; intro H en base spare held cs x hx
  simp [DataW.trod] at hx
theorem reads_int {k : IntKind} (ht : P.underlying t = some (.int k)) : Reads P W n t (fun a : Int => (Lit.int k a).wf = true) (fun a => [.int k a]) := by
  constructor; intro H en base spare held cs x hx
  cases n with
  | zero => simp [DataW.trod] at hx
  | succ n =>
    unfold DataW.trod at hx
    rw [ht] at hx
    split at hx <;> try (simp_all; done)
    rename_i k0 k' m heq
    simp only [Option.some.injEq, TypeDesc.int.injEq] at heq
    subst heq
    split at hx
    case isFalse => cases hx
    rename_i hc
    obtain ⟨rfl, hw⟩ := hc
    exact ⟨m, hw, CRep.one rfl (.int _ _)⟩
theorem reads_bool (ht : P.underlying t = some .bool) : Reads P W n t (fun _ : Bool => True) (fun a => [.bool a]) := by
  constructor; intro H en base spare held cs x hx
  cases n with
  | zero => simp [DataW.trod] at hx
  | succ n =>
    unfold DataW.trod at hx
    rw [ht] at hx
    split at hx <;> try (simp_all; done)
    rename_i b heq
    exact ⟨b, trivial, CRep.one rfl (.bool _)⟩
theorem reads_string (ht : P.underlying t = some .string) : Reads P W n t (fun a : List UInt8 => a.length ≤ maxLen) (fun a => [.str a]) := by
  constructor; intro H en base spare held cs x hx
  cases n with
  | zero => simp [DataW.trod] at hx
  | succ n =>
    unfold DataW.trod at hx
    rw [ht] at hx
    split at hx <;> try (simp_all; done)
    rename_i s heq
    split at hx
    case isFalse => cases hx
    rename_i hc
    refine ⟨s.data.toList, ?_, CRep.one rfl (.str _ _ rfl)⟩
    simpa using hc
theorem reads_slice {e : TypeId} {z : Nat} {α : Type} {ok : α → Prop} {enc : α → List PV} (ht : P.underlying t = some (.slice e)) (hz : P.cellsOf e = z) (h0 : z ≠ 0) (hl : ∀ a, (enc a).length = z) (h : Reads P W n e ok enc) :
    Reads P W (n + 1) t (fun l : List α => l.length ≤ maxLen ∧ ∀ a ∈ l, ok a) (fun l => [.sl z (l.map enc)]) := by
  constructor; intro H en base spare held cs x hx
  rcases DataW.trod_slice ht hx with ⟨rfl, rfl⟩ | ⟨a, len, cap, elems, rest, m, hm, rfl, rfl, hb, hlc, hcap, hel, hread, _, _⟩
  · exact ⟨[], ⟨by simp, by simp⟩, CRep.one rfl (.slE _ _ _)⟩
  obtain rfl : n = m := by omega
  rw [hz] at hread
  by_cases hlen : len = 0
  · subst hlen
    exact ⟨[], ⟨by simp, by simp⟩, CRep.one rfl (.slE _ _ _)⟩
  have each : ∀ i : Fin len, ∃ b, ok b ∧ ∀ j, j < z → ∃ v, W.cell? (a.add (i.val * z) |>.add j) = some v ∧ v.oneCell' = true ∧ Rep (g0 W) v (PV.nth (enc b) j) := by
    intro i
    have hr := hread i.val i.isLt
    rw [List.getElem?_eq_getElem (by rw [hel]; exact i.isLt)] at hr
    obtain ⟨ci, hc, hx⟩ := Option.bind_eq_some_iff.1 hr
    obtain ⟨b, hb1, hb2⟩ := h.run H en base spare held ci _ hx
    obtain ⟨_, hcl, hcells⟩ := World.cells?_some hc
    refine ⟨b, hb1, fun j hj => ?_⟩
    have h1 := hb2.2 j (by rw [hl]; exact hj)
    refine ⟨ci.getD j Go.undef, ?_, h1⟩
    rw [hcells j hj, List.getD_eq_getElem?_getD, List.getElem?_eq_getElem (by omega)]
    rfl
  obtain ⟨f, hf⟩ := Classical.axiomOfChoice each
  have hspot : a.spot = none := by
    obtain ⟨v, hv, _⟩ := (hf ⟨0, by omega⟩).2 0 (by omega)
    simp only [Nat.zero_mul, Addr.add, if_true] at hv
    unfold World.cell? at hv
    split at hv
    · split at hv
      · cases hv
      · rename_i hs; simpa using hs
    · cases hv
  have hadd : ∀ k j, ((a.add k).add j) = ⟨a.block, a.off + k + j, none⟩ := by
    intro k j
    obtain ⟨b, o, sp⟩ := a
    simp only at hspot
    subst hspot
    simp only [Addr.add]
    by_cases hk : k = 0 <;> by_cases hj : j = 0 <;> simp [hk, hj]
  refine ⟨List.ofFn f, ⟨by simp; omega, fun b hb => ?_⟩, CRep.one rfl ?_⟩
  · obtain ⟨i, rfl⟩ := (List.mem_ofFn).1 hb
    exact (hf i).1
  · have hrow : ∀ i (hi : i < len), PV.row ((List.ofFn f).map enc) i = enc (f ⟨i, hi⟩) := by
      intro i hi
      simp [PV.row, List.getD_eq_getElem?_getD, hi]
    refine .sl a.block a.off len cap z a _ (fun i j => (W.cell? ⟨a.block, a.off + i * z + j, none⟩).getD Go.undef) (by cases a; simp_all) (by simp) hlc (fun i hi => ?_) (fun i j hi hj => ?_) (fun i j hi hj => ?_)
    · rw [hrow i hi, hl]
    · obtain ⟨v, hv, h1, h2⟩ := (hf ⟨i, hi⟩).2 j hj
      rw [hadd] at hv
      have e1 : W.cell? ⟨a.block, a.off + i * z + j, none⟩ = some v := hv
      rw [e1]
      exact g0_m e1 h1
    · obtain ⟨v, hv, h1, h2⟩ := (hf ⟨i, hi⟩).2 j hj
      rw [hadd] at hv
      have e1 : W.cell? ⟨a.block, a.off + i * z + j, none⟩ = some v := hv
      rw [e1, hrow i hi]
      exact h2

/-- The fields of a struct from one on. -/
structure FReads (P : Program) (W : World) (n : Nat) (fs : List Field) (o : Nat) {α : Type} (ok : α → Prop) (enc : α → List PV) : Prop where
  run : ∀ (H : Type) (en : TypeId × Value → H) (base : Nat) (spare : Nat → Bool) (held : Bool) (cs : List Value),
    (∀ f ∈ fs, ∃ x, DataW.trod en P W base spare held n f.type ((cs.drop f.offset).take (P.cellsOf f.type)) = some x) → ∃ a, ok a ∧ CRep (g0 W) ((cs.drop o).take (enc a).length) (enc a)
theorem freads_nil {o : Nat} : FReads P W n [] o (fun _ : Unit => True) (fun _ => []) := ⟨fun _ _ _ _ _ _ _ => ⟨(), trivial, by simpa using CRep.nil⟩⟩
theorem freads_cons {f : Field} {fs : List Field} {o z : Nat} {α β : Type} {ok : α → Prop} {enc : α → List PV} {ok' : β → Prop} {enc' : β → List PV} (h : Reads P W n f.type ok enc) (hz : P.cellsOf f.type = z) (hl : ∀ a, (enc a).length = z) (ho : f.offset = o) (k : FReads P W n fs (o + z) ok' enc') : FReads P W n (f :: fs) o (fun x : α × β => ok x.1 ∧ ok' x.2) (fun x => enc x.1 ++ enc' x.2) := by
  constructor; intro H en base spare held cs hall
  obtain ⟨x, hx⟩ := hall f (by simp)
  obtain ⟨a, a1, a2⟩ := h.run H en base spare held _ x hx
  obtain ⟨b, b1, b2⟩ := k.run H en base spare held cs (fun g hg => hall g (by simp [hg]))
  refine ⟨(a, b), ⟨a1, b1⟩, ?_⟩
  rw [ho, hz] at a2
  have := a2.append b2
  rw [← List.drop_drop] at this
  have e1 : (enc a ++ enc' b).length = z + (enc' b).length := by simp [hl]
  simp only [e1]
  rw [List.take_add]
  exact this
theorem reads_struct {fs : Array Field} {l : List Field} {z : Nat} {α : Type} {ok : α → Prop} {enc : α → List PV} (ht : P.underlying t = some (.struct fs)) (hfl : fs.toList = l) (hz : P.cellsOf t = z)
    (h : FReads P W n l 0 ok enc) (hl : ∀ a, (enc a).length = z) : Reads P W (n + 1) t ok enc := by
  constructor; intro H en base spare held cs x hx
  obtain ⟨xs, m, hm, rfl, hlen, hxs, hread⟩ := DataW.trod_struct ht hx
  obtain rfl : n = m := by omega
  obtain ⟨a, a1, a2⟩ := h.run H en base spare held cs (fun f hf => by
    rw [← hfl] at hf
    obtain ⟨i, hi, e⟩ := List.getElem_of_mem hf
    have hi' : i < fs.size := by simpa using hi
    have := hread i f (by rw [← e]; simp [hi'])
    rw [List.getElem?_eq_getElem (by rw [hxs]; exact hi')] at this
    exact ⟨_, this⟩)
  refine ⟨a, a1, ?_⟩
  rw [hl, List.drop_zero, List.take_of_length_le (by rw [hlen, hz]; exact Nat.le_refl _)] at a2
  exact a2
/-- A whole argument. -/
theorem Reads.agg {α : Type} {ok : α → Prop} {enc : α → List PV} {H : Type} {en : TypeId × Value → H} {base : Nat} {spare : Nat → Bool} {held : Bool} {vs : Array Value} {d : DataW H} {ps : List MemPlace}
    (h : ∀ n, Reads P W n t ok enc) (hd : DataW.Trod en P W base spare held t (.agg vs) d ps) : ∃ a, ok a ∧ Rep (g0 W) (.agg vs) (.agg (enc a)) := by
  obtain ⟨fuel, hx⟩ := hd
  obtain ⟨a, a1, a2, a3⟩ := (h fuel).run H en base spare held _ _ hx
  simp only [Value.cells] at a2 a3
  refine ⟨a, a1, .agg _ _ (by simpa using a2) (fun j hj => ?_) (fun j hj => ?_)⟩
  · have := (a3 j hj).1; simpa [Array.getD_eq_getD_getElem?] using this
  · have := (a3 j hj).2; simpa [Array.getD_eq_getD_getElem?] using this
theorem Reads.one {α : Type} {ok : α → Prop} {enc : α → PV} {H : Type} {en : TypeId × Value → H} {base : Nat} {spare : Nat → Bool} {held : Bool} {v : Value} {d : DataW H} {ps : List MemPlace}
    (h : ∀ n, Reads P W n t ok (fun a => [enc a])) (hv : v.cells = #[v]) (hd : DataW.Trod en P W base spare held t v d ps) : ∃ a, ok a ∧ Rep (g0 W) v (enc a) := by
  obtain ⟨fuel, hx⟩ := hd
  obtain ⟨a, a1, a2, a3⟩ := (h fuel).run H en base spare held _ _ hx
  rw [hv] at a3
  exact ⟨a, a1, (a3 0 (by simp)).2⟩
end

theorem reads_agg {P : Program} {W : World} {t : TypeId} {fs : Array Field} {α : Type} {ok : α → Prop} {enc : α → List PV} {H : Type} {en : TypeId × Value → H} {base b' : Nat} {spare : Nat → Bool} {held : Bool} {v : Value} {d : DataW H} {ps : List MemPlace} {r : Reach}
    (ht : P.underlying t = some (.struct fs)) (hv : Value.okWide P W r b' t v) (h : ∀ n, Reads P W n t ok enc) (hd : DataW.Trod en P W base spare held t v d ps) : ∃ a, ok a ∧ Rep (g0 W) v (.agg (enc a)) := by
  unfold Value.okWide at hv
  rw [ht] at hv
  obtain ⟨cs, rfl, _⟩ := hv
  exact Reads.agg h hd

theorem reads_arg {P : Program} {W : World} {params : Array TypeId} {args : Array Value} {base : Nat} (hval : ∀ (j : Nat) t v, params[j]? = some t → args[j]? = some v → Value.okWide P W .any base t v) (j : Nat) {t : TypeId} {v : Value} (h1 : params[j]? = some t) (h2 : args[j]? = some v)
    {fs : Array Field} {α : Type} {ok : α → Prop} {enc : α → List PV} {H : Type} {en : TypeId × Value → H} {b' : Nat} {spare : Nat → Bool} {held : Bool} {d : DataW H} {ps : List MemPlace}
    (ht : P.underlying t = some (.struct fs)) (h : ∀ n, Reads P W n t ok enc) (hd : DataW.Trod en P W b' spare held t v d ps) : ∃ a, ok a ∧ Rep (g0 W) v (.agg (enc a)) :=
  reads_agg ht (hval j t v h1 h2) h hd

theorem cells_int {P : Program} {W : World} {t : TypeId} {r : Reach} {b' : Nat} {v : Value} {k : IntKind} (ht : P.underlying t = some (.int k)) (hv : Value.okWide P W r b' t v) : v.cells = #[v] := by
  unfold Value.okWide at hv
  rw [ht] at hv
  cases v <;> first | rfl | (exfalso; simp [Cell.okWide, Cell.ok, ht] at hv)
theorem cells_bool {P : Program} {W : World} {t : TypeId} {r : Reach} {b' : Nat} {v : Value} (ht : P.underlying t = some .bool) (hv : Value.okWide P W r b' t v) : v.cells = #[v] := by
  unfold Value.okWide at hv
  rw [ht] at hv
  cases v <;> first | rfl | (exfalso; simp [Cell.okWide, Cell.ok, ht] at hv)
theorem cells_string {P : Program} {W : World} {t : TypeId} {r : Reach} {b' : Nat} {v : Value} (ht : P.underlying t = some .string) (hv : Value.okWide P W r b' t v) : v.cells = #[v] := by
  unfold Value.okWide at hv
  rw [ht] at hv
  cases v <;> first | rfl | (exfalso; simp [Cell.okWide, Cell.ok, ht] at hv)
theorem cells_slice {P : Program} {W : World} {t e : TypeId} {r : Reach} {b' : Nat} {v : Value} (ht : P.underlying t = some (.slice e)) (hv : Value.okWide P W r b' t v) : v.cells = #[v] := by
  unfold Value.okWide at hv
  rw [ht] at hv
  cases v <;> first | rfl | (exfalso; simp [Cell.okWide, Cell.ok, ht] at hv)
theorem reads_arg1 {P : Program} {W : World} {params : Array TypeId} {args : Array Value} {base : Nat} (hval : ∀ (j : Nat) t v, params[j]? = some t → args[j]? = some v → Value.okWide P W .any base t v) (j : Nat) {t : TypeId} {v : Value} (h1 : params[j]? = some t) (h2 : args[j]? = some v)
    {α : Type} {ok : α → Prop} {enc : α → PV} {H : Type} {en : TypeId × Value → H} {b' : Nat} {spare : Nat → Bool} {held : Bool} {d : DataW H} {ps : List MemPlace}
    (hc : Value.okWide P W .any base t v → v.cells = #[v]) (h : ∀ n, Reads P W n t ok (fun a => [enc a])) (hd : DataW.Trod en P W b' spare held t v d ps) : ∃ a, ok a ∧ Rep (g0 W) v (enc a) :=
  Reads.one h (hc (hval j t v h1 h2)) hd

/-! ### the law's own end -/
section
variable {H : Type} {enc : TypeId × Value → H} {P : Program}
theorem trodAll_below (hl : laidOutB P = true) {W W' : World} (hb : RowKit.Below W.heap.size W W') : ∀ {ts : List TypeId} {vs : List Value} {ds : List (DataW H)} {ps : List MemPlace}, (∀ t ∈ ts, P.readableRec t = true ∧ t < P.types.size) →
    DataW.TrodAll enc P W 0 (fun _ => true) true ts vs ds ps → (∀ x ∈ ps, x.block < W.heap.size) → DataW.TrodAll enc P W' 0 (fun b => decide (b < W.heap.size)) true ts vs ds ps
  | [], [], [], ps, _, h, _ => h
  | t :: ts, v :: vs, d :: ds, ps, hts, h, hlt => by
    obtain ⟨p, q, h1, h2, rfl⟩ := h
    refine ⟨p, q, RowKit.Below.trod hl (hts t (by simp)).1 (hts t (by simp)).2 h1 hb (fun x hx => hlt x (by simp [hx])), trodAll_below hl hb (fun t ht => hts t (by simp [ht])) h2 (fun x hx => hlt x (by simp [hx])), rfl⟩
  | [], _ :: _, _, _, _, h, _ => h.elim
  | [], [], _ :: _, _, _, h, _ => h.elim
  | _ :: _, [], _, _, _, h, _ => h.elim
  | _ :: _, _ :: _, [], _, _, h, _ => h.elim
/-- A law that answers true and leaves all as it was. -/
theorem post_below {f : Func} {s : ChangeSpec} {W W' : World} {args : Array Value} {ds gs : List (DataW H)} {before : List MemPlace} {bt : TypeId} (hlaid : laidOutB P = true) (hts : ∀ t ∈ f.params.toList, P.readableRec t = true ∧ t < P.types.size)
    (hrt : f.resultTypes = #[bt]) (hbt : P.underlying bt = some .bool) (hv : s.vars = []) (h1 : (s.fn H (ds ++ gs)).results = [.lit (.bool true)]) (h2 : (s.fn H (ds ++ gs)).args = ds) (h3 : (s.fn H (ds ++ gs)).vars = [])
    (hW : DataW.Whole enc P f.params.toList s.vars false W args.toList ds gs before) (hb : RowKit.Below W.heap.size W W') : s.post enc P f false true false false W args (.bool true) W' := by
  have hW' := hW
  obtain ⟨p, q, hA, hV, rfl, hfz, hnd⟩ := hW
  rw [hv] at hV
  obtain ⟨rfl, rfl⟩ := ChangeShapes.trodVars_none hV
  refine ⟨ds, [], p ++ [], [], p, [], hW', ?_, ?_, ?_, hb.frame _, fun h => by cases h⟩
  · rw [h1, hrt]
    exact trodAll_cons_mk (RowKit.shut_bool hbt _) ChangeShapes.trodAll_mk0
  · rw [h2]
    exact trodAll_below hlaid hb hts hA (fun x hx => hW'.lt x (by simp [hx]))
  · rw [h3, hv]; exact rfl
end
end Go.VM

