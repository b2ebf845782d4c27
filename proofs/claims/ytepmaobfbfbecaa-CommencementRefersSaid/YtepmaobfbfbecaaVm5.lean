/-
  The value machine, 5: how the abstract heap follows memory: new blocks, blocks that are written, blocks that are frozen.
-/
import Derived.Test.YtepmaobfbfbecaaVm4
import Derived.Laws.CopyRow
set_option linter.all false
namespace Go.VM
open Go

theorem AB.ok_move {g g' : Gh} {w w' : World} {b o n z : Nat} {ab : AB} (h : ab.ok g w b o n z) (hg : g.le g') (hw : w'.heap[b]? = w.heap[b]?) : ab.ok g' w' b o n z := by
  cases ab with
  | arr fz z' es =>
    obtain ⟨h1, h2, h3, c, e, h4, h5, h6⟩ := h
    exact ⟨h1, h2, h3, c, e, by rw [hw]; exact h4, h5, fun i j hi hj => ⟨(h6 i j hi hj).1, (h6 i j hi hj).2.1.mono hg, fun hf => hg.1 _ _ _ ((h6 i j hi hj).2.2 hf)⟩⟩
  | map es =>
    obtain ⟨ents, clock, h1, h2, h3⟩ := h
    exact ⟨ents, clock, by rw [hw]; exact h1, h2, fun i e p he hp => ⟨(h3 i e p he hp).1.mono hg, (h3 i e p he hp).2.mono hg⟩⟩
  | siter s pos =>
    obtain ⟨s', h1, h2⟩ := h
    exact ⟨s', by rw [hw]; exact h1, h2⟩

/-- Is the id killed? -/
def killed (h : Heap) : Option Nat → Heap
  | none => h
  | some i => h.del i
theorem killed_top (h : Heap) (k : Option Nat) : (killed h k).top = h.top := by cases k <;> rfl
theorem killed_le {h : Heap} {k : Option Nat} {id : Nat} {ab : AB} (e : (killed h k).get id = some ab) : h.get id = some ab ∧ k ≠ some id := by
  cases k with
  | none => exact ⟨e, by simp⟩
  | some i =>
    simp only [killed, Heap.get_del] at e
    split at e
    · cases e
    · rename_i hne; exact ⟨e, by simp [hne]⟩

theorem Rel.cell_move {g : Gh} {w w' : World} {h : Heap} (r : Rel g w h) {b0 : Nat} (hb0 : w.heap.size ≤ b0 ∨ g.free b0) (hw : ∀ k, k < w.heap.size → k ≠ b0 → w'.heap[k]? = w.heap[k]?)
    (b o : Nat) (v : Value) (hm : g.m b o = some v) : w'.cell? ⟨b, o, none⟩ = some v ∧ v.oneCell' = true := by
  obtain ⟨h1, h2⟩ := r.mem b o v hm
  refine ⟨?_, h2⟩
  have hlt : b < w.heap.size := by
    rcases Nat.lt_or_ge b w.heap.size with h | h
    · exact h
    · simp [World.cell?, Array.getElem?_eq_none h] at h1
  have hne : b ≠ b0 := by
    rintro rfl
    rcases hb0 with h | h
    · omega
    · rw [h.1] at hm; cases hm
  have := hw b hlt hne
  simpa [World.cell?, this] using h1

theorem Rel.map_move {g : Gh} {w w' : World} {h : Heap} (r : Rel g w h) {b0 : Nat} (hb0 : w.heap.size ≤ b0 ∨ g.free b0) (hw : ∀ k, k < w.heap.size → k ≠ b0 → w'.heap[k]? = w.heap[k]?)
    (b : Nat) (e : Array MapEntry) (hm : g.m.mm b = some e) : ∃ clock, w'.heap[b]? = some (.map e clock) := by
  obtain ⟨c, h1⟩ := r.mmem b e hm
  have hlt : b < w.heap.size := (Array.getElem?_eq_some_iff.1 h1).1
  have hne : b ≠ b0 := by
    rintro rfl
    rcases hb0 with h | h
    · omega
    · rw [h.2] at hm; cases hm
  exact ⟨c, by rw [hw b hlt hne]; exact h1⟩
theorem Rel.put {g : Gh} {w : World} {h : Heap} (r : Rel g w h) (kill : Option Nat) (b0 o n z : Nat) (ab : AB) (w' : World)
    (hb0 : w.heap.size ≤ b0 ∨ ∃ ia abx y, kill = some ia ∧ h.get ia = some abx ∧ abx.live = true ∧ g.β ia = some y ∧ y.1 = b0)
    (hw : ∀ k, k < w.heap.size → k ≠ b0 → w'.heap[k]? = w.heap[k]?) (hsz : w.heap.size ≤ w'.heap.size) (hlt : b0 < w'.heap.size) (ho : w'.os = w.os) (ht : w'.tape = w.tape) (hout : w'.output = w.output)
    (hlive : ab.live = true) (hok : ∀ g', g.le g' → ab.ok g' w' b0 o n z) :
    ∃ g', g.le g' ∧ g'.m = g.m ∧ g'.β h.top = some (b0, o, n, z) ∧ Rel g' w' ((killed h kill).push ab) ∧ Evo g w h g' w' ((killed h kill).push ab) := by
  have hkt := killed_top h kill
  generalize hid : h.top = id at *
  have hid0 : g.β id = none := (r.fin id (by omega)).1
  have hfr : h.get id = none := (r.fin id (by omega)).2
  let g' : Gh := ⟨g.m, fun i => if i = id then some (b0, o, n, z) else g.β i⟩
  have hle : g.le g' := ⟨fun _ _ _ e => e, fun i x e => by
    show (if i = id then _ else _) = _
    rw [if_neg (by rintro rfl; rw [hid0] at e; cases e)]; exact e, fun _ _ e => e⟩
  have hself : g'.β id = some (b0, o, n, z) := by show (if id = id then _ else _) = _; rw [if_pos rfl]
  have hother : ∀ i, i ≠ id → g'.β i = g.β i := fun i hi => by show (if i = id then _ else _) = _; rw [if_neg hi]
  have hno : w.heap.size ≤ b0 ∨ g.free b0 := by
    rcases hb0 with h1 | ⟨ia, abx, y, rfl, e1, e2, e3, e4⟩
    · exact .inl h1
    · right
      rcases r.blk ia abx e1 with ⟨hn, _⟩ | ⟨b, o', n', z', hb, _, hm, _⟩
      · rw [e3] at hn; cases hn
      · rw [e3] at hb; simp only [Option.some.injEq] at hb; subst hb; subst e4; exact hm e2
  have hget : ∀ i ab', ((killed h kill).push ab).get i = some ab' → (i = id ∧ ab' = ab) ∨ (i ≠ id ∧ h.get i = some ab' ∧ kill ≠ some i) := by
    intro i ab' e
    rw [Heap.get_push, hkt] at e
    by_cases hi : id = i
    · subst hi; simp only [if_true, Option.some.injEq] at e; exact .inl ⟨rfl, e.symm⟩
    · simp only [if_neg hi] at e
      obtain ⟨e1, e2⟩ := killed_le e
      exact .inr ⟨fun h => hi h.symm, e1, e2⟩
  -- the blocks of the others are not b0, and stay
  have hdiff : ∀ i ab' x, h.get i = some ab' → kill ≠ some i → g.β i = some x → x.1 < w.heap.size → x.1 ≠ b0 := by
    intro i ab' x e hk hx hlt' heq
    rcases hb0 with h1 | ⟨ia, abx, y, rfl, e1, e2, e3, e4⟩
    · omega
    · exact r.apart ia i y x abx ab' (fun hh => hk (by rw [hh])) e1 e (by simp [e2]) e3 hx (by rw [e4, heq])
  refine ⟨g', hle, rfl, hself, ⟨?_, ?_, ?_, ?_, ?_⟩, ⟨hle, ho, ht, hout, hsz, ?_, ?_, ?_, ?_⟩⟩
  · exact fun b x v e => r.cell_move hno hw b x v e
  · exact fun b e he => r.map_move hno hw b e he
  · intro i hi
    have hi' : id + 1 ≤ i := by have : ((killed h kill).push ab).top = id + 1 := by simp [Heap.push, hkt]
                                omega
    refine ⟨by rw [hother i (by omega)]; exact (r.fin i (by omega)).1, ?_⟩
    cases e : ((killed h kill).push ab).get i with
    | none => rfl
    | some ab' =>
      rcases hget i ab' e with ⟨h1, _⟩ | ⟨_, h1, _⟩
      · omega
      · rw [(r.fin i (by omega)).2] at h1; cases h1
  · intro i ab' e
    rcases hget i ab' e with ⟨rfl, rfl⟩ | ⟨hi, e1, hk⟩
    · refine .inr ⟨b0, o, n, z, hself, hlt, fun _ => ?_, hok g' hle⟩
      rcases hno with h1 | h1
      · refine ⟨fun x => ?_, ?_⟩
        · show g.m b0 x = none
          cases hm : g.m b0 x with
          | none => rfl
          | some v =>
            have := (r.mem b0 x v hm).1
            simp [World.cell?, Array.getElem?_eq_none h1] at this
        · show g.m.mm b0 = none
          cases hm : g.m.mm b0 with
          | none => rfl
          | some e =>
            obtain ⟨c, hc⟩ := r.mmem b0 e hm
            rw [Array.getElem?_eq_none h1] at hc; cases hc
      · exact h1
    · rw [hother i hi]
      rcases r.blk i ab' e1 with h1 | ⟨b, o', n', z', hb, hlt', hm, hokk⟩
      · exact .inl h1
      · exact .inr ⟨b, o', n', z', hb, by omega, hm, AB.ok_move hokk hle (hw b hlt' (hdiff i ab' _ e1 hk hb hlt'))⟩
  · intro i i' x x' abi abi' hne e e' hl hx hx'
    rcases hget i abi e with ⟨rfl, rfl⟩ | ⟨hi, e1, hk⟩ <;> rcases hget i' abi' e' with ⟨rfl, rfl⟩ | ⟨hi', e1', hk'⟩
    · exact absurd rfl hne
    · rw [hself] at hx; simp only [Option.some.injEq] at hx; subst hx
      rw [hother i' hi'] at hx'
      rcases r.blk i' abi' e1' with ⟨h1, _⟩ | ⟨b, o', n', z', hb, hlt', _, _⟩
      · rw [hx'] at h1; cases h1
      · rw [hx'] at hb; simp only [Option.some.injEq] at hb; subst hb
        exact fun hh => hdiff i' abi' _ e1' hk' hx' hlt' hh.symm
    · rw [hself] at hx'; simp only [Option.some.injEq] at hx'; subst hx'
      rw [hother i hi] at hx
      rcases r.blk i abi e1 with ⟨h1, _⟩ | ⟨b, o', n', z', hb, hlt', _, _⟩
      · rw [hx] at h1; cases h1
      · rw [hx] at hb; simp only [Option.some.injEq] at hb; subst hb
        exact fun hh => hdiff i abi _ e1 hk hx hlt' hh
    · rw [hother i hi] at hx; rw [hother i' hi'] at hx'
      exact r.apart i i' x x' abi abi' hne e1 e1' hl hx hx'
  · intro b hb hnot
    refine hw b hb (fun heq => ?_)
    rcases hb0 with h1 | ⟨ia, abx, y, rfl, e1, e2, e3, e4⟩
    · omega
    · exact hnot ⟨ia, abx, y, e1, e2, e3, by rw [e4, heq]⟩
  · exact fun b o v e => .inl e
  · exact fun b e he => .inl he
  · rintro b ⟨i, ab', x, e, hl, hx, rfl⟩
    rcases hget i ab' e with ⟨rfl, rfl⟩ | ⟨hi, e1, hk⟩
    · rw [hself] at hx; simp only [Option.some.injEq] at hx; subst hx
      rcases hb0 with h1 | ⟨ia, abx, y, rfl, e1, e2, e3, e4⟩
      · exact .inr h1
      · exact .inl ⟨ia, abx, y, e1, e2, e3, e4⟩
    · rw [hother i hi] at hx
      exact .inl ⟨i, ab', x, e1, hl, hx, rfl⟩

theorem Rel.set {g : Gh} {w : World} {h : Heap} (r : Rel g w h) {id b0 o n z : Nat} {ab0 ab : AB} (hg : h.get id = some ab0) (hl0 : ab0.live = true) (hβ : g.β id = some (b0, o, n, z)) (w' : World)
    (hw : ∀ k, k < w.heap.size → k ≠ b0 → w'.heap[k]? = w.heap[k]?) (hsz : w.heap.size ≤ w'.heap.size) (ho : w'.os = w.os) (ht : w'.tape = w.tape) (hout : w'.output = w.output)
    (hlive : ab.live = true) (hok : ab.ok g w' b0 o n z) : Rel g w' (h.set id ab) ∧ Evo g w h g w' (h.set id ab) := by
  have hno : g.free b0 := by
    rcases r.blk id ab0 hg with ⟨hn, _⟩ | ⟨b, o', n', z', hb, _, hm, _⟩
    · rw [hβ] at hn; cases hn
    · rw [hβ] at hb; simp only [Option.some.injEq, Prod.mk.injEq] at hb; obtain ⟨rfl, _⟩ := hb; exact hm hl0
  have hlt0 : b0 < w.heap.size := by
    rcases r.blk id ab0 hg with ⟨hn, _⟩ | ⟨b, o', n', z', hb, hlt, hm, _⟩
    · rw [hβ] at hn; cases hn
    · rw [hβ] at hb; simp only [Option.some.injEq, Prod.mk.injEq] at hb; obtain ⟨rfl, _⟩ := hb; exact hlt
  have hget : ∀ i ab', (h.set id ab).get i = some ab' → (i = id ∧ ab' = ab) ∨ (i ≠ id ∧ h.get i = some ab') := by
    intro i ab' e
    rw [Heap.get_set, hg] at e
    split at e
    · rename_i hi; simp at e; exact .inl ⟨hi.symm, e.symm⟩
    · rename_i hi; exact .inr ⟨fun h => hi h.symm, e⟩
  refine ⟨⟨fun b x v e => r.cell_move (.inr hno) hw b x v e, fun b e he => r.map_move (.inr hno) hw b e he, fun i hi => ⟨(r.fin i hi).1, by
      rw [Heap.get_set, hg]
      split
      · rename_i hii; subst hii; rw [(r.fin id hi).2] at hg; cases hg
      · exact (r.fin i hi).2⟩, ?_, ?_⟩, ⟨g.le_refl, ho, ht, hout, hsz, ?_, fun b o v e => .inl e, fun b e he => .inl he, ?_⟩⟩
  · intro i ab' e
    rcases hget i ab' e with ⟨rfl, rfl⟩ | ⟨hi, e1⟩
    · exact .inr ⟨b0, o, n, z, hβ, by omega, fun _ => hno, hok⟩
    · rcases r.blk i ab' e1 with h1 | ⟨b, o', n', z', hb, hlt', hm, hokk⟩
      · exact .inl h1
      · refine .inr ⟨b, o', n', z', hb, by omega, hm, AB.ok_move hokk g.le_refl (hw b hlt' (fun heq => ?_))⟩
        exact r.apart id i _ _ ab0 ab' (Ne.symm hi) hg e1 (by simp [hl0]) hβ hb (by rw [heq])
  · intro i i' x x' abi abi' hne e e' hl hx hx'
    rcases hget i abi e with ⟨rfl, rfl⟩ | ⟨hi, e1⟩ <;> rcases hget i' abi' e' with ⟨rfl, rfl⟩ | ⟨hi', e1'⟩
    · exact absurd rfl hne
    · exact r.apart i i' x x' ab0 abi' hne hg e1' (by simp [hl0]) hx hx'
    · exact r.apart i i' x x' abi ab0 hne e1 hg (by simp [hl0]) hx hx'
    · exact r.apart i i' x x' abi abi' hne e1 e1' hl hx hx'
  · intro b hb hnot
    exact hw b hb (fun heq => hnot ⟨id, ab0, _, hg, hl0, hβ, by rw [heq]⟩)
  · rintro b ⟨i, ab', x, e, hl, hx, rfl⟩
    rcases hget i ab' e with ⟨rfl, rfl⟩ | ⟨hi, e1⟩
    · exact .inl ⟨i, ab0, x, hg, hl0, hx, rfl⟩
    · exact .inl ⟨i, ab', x, e1, hl, hx, rfl⟩

/-- A block that is nowhere: an empty slice that may be nil. -/
theorem Rel.none {g : Gh} {w : World} {h : Heap} (r : Rel g w h) (kill : Option Nat) (z : Nat) (w' : World) (hww : w'.heap = w.heap) (ho : w'.os = w.os) (ht : w'.tape = w.tape) (hout : w'.output = w.output) :
    Rel g w' ((killed h kill).push (.arr false z [])) ∧ Evo g w h g w' ((killed h kill).push (.arr false z [])) := by
  have hkt := killed_top h kill
  have hid0 : g.β h.top = Option.none := (r.fin _ (Nat.le_refl _)).1
  have hget : ∀ i ab', ((killed h kill).push (.arr false z [])).get i = some ab' → (i = h.top ∧ ab' = .arr false z []) ∨ (i ≠ h.top ∧ h.get i = some ab') := by
    intro i ab' e
    rw [Heap.get_push, hkt] at e
    by_cases hi : h.top = i
    · rw [if_pos hi] at e; simp only [Option.some.injEq] at e; exact .inl ⟨hi.symm, e.symm⟩
    · rw [if_neg hi] at e
      exact .inr ⟨fun h => hi h.symm, (killed_le e).1⟩
  refine ⟨⟨fun b o v e => ?_, fun b e he => by rw [hww]; exact r.mmem b e he, ?_, ?_, ?_⟩, ⟨g.le_refl, ho, ht, hout, by rw [hww]; exact Nat.le_refl _, fun b _ _ => by rw [hww], fun b o v e => .inl e, fun b e he => .inl he, ?_⟩⟩
  · have := r.mem b o v e
    simpa [World.cell?, hww] using this
  · intro i hi
    have hi' : h.top + 1 ≤ i := by have : ((killed h kill).push (.arr false z [])).top = h.top + 1 := by simp [Heap.push, hkt]
                                   omega
    refine ⟨(r.fin i (by omega)).1, ?_⟩
    cases e : ((killed h kill).push (.arr false z [])).get i with
    | none => rfl
    | some ab' =>
      rcases hget i ab' e with ⟨h1, _⟩ | ⟨_, h1⟩
      · omega
      · rw [(r.fin i (by omega)).2] at h1; cases h1
  · intro i ab' e
    rcases hget i ab' e with ⟨rfl, rfl⟩ | ⟨hi, e1⟩
    · exact .inl ⟨hid0, _, _, rfl⟩
    · rcases r.blk i ab' e1 with h1 | ⟨b, o', n', z', hb, hlt', hm, hokk⟩
      · exact .inl h1
      · exact .inr ⟨b, o', n', z', hb, by rw [hww]; exact hlt', hm, AB.ok_move hokk g.le_refl (by rw [hww])⟩
  · intro i i' x x' abi abi' hne e e' hl hx hx'
    rcases hget i abi e with ⟨rfl, rfl⟩ | ⟨hi, e1⟩
    · rw [hid0] at hx; cases hx
    · rcases hget i' abi' e' with ⟨rfl, rfl⟩ | ⟨hi', e1'⟩
      · rw [hid0] at hx'; cases hx'
      · exact r.apart i i' x x' abi abi' hne e1 e1' hl hx hx'
  · rintro b ⟨i, ab', x, e, hl, hx, rfl⟩
    rcases hget i ab' e with ⟨rfl, rfl⟩ | ⟨hi, e1⟩
    · rw [hid0] at hx; cases hx
    · exact .inl ⟨i, ab', x, e1, hl, hx, rfl⟩
end Go.VM

