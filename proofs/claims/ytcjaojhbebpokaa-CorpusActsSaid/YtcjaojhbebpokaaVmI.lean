/-
  From the kit's own contracts to calls of the value machine: strings, slices of strings, numbers.
  maps.Keys at a map whose keys are numbers, slices.Sorted of it: the kit's contracts as calls of the value machine.
-/
import Derived.Test.YtcjaojhbebpokaaVmS
import Derived.Shelf.SlIterI.Sorted
import Derived.Shelf.SlIterI.Collect
set_option linter.all false
namespace Go.VM
open Go
theorem memExt_below {g : Gh} {w w' : World} {h : Heap} (r : Rel g w h) (hb : RowKit.Below w.heap.size w w') : MemExt g w g.m w' := by
  have hin : ∀ {b : Nat} {x : Obj}, w.heap[b]? = some x → w'.heap[b]? = w.heap[b]? := fun {b x} e => hb.block b (by
    by_cases hlt : b < w.heap.size
    · exact hlt
    · rw [Array.getElem?_eq_none (by omega)] at e; cases e)
  refine ⟨fun _ _ _ e => e, fun b o v e => ?_, fun _ _ _ e => .inl e, fun _ _ e => e, fun b e he => ?_, fun _ _ e => .inl e⟩
  · obtain ⟨h1, h2⟩ := r.mem b o v e
    refine ⟨?_, h2⟩
    unfold World.cell? at h1 ⊢
    cases hh : w.heap[b]? with
    | none => rw [hh] at h1; cases h1
    | some x => rw [hin hh]; exact h1
  · obtain ⟨clock, h1⟩ := r.mmem b e he
    exact ⟨clock, by rw [hin h1]; exact h1⟩
/-- A contract of the kit's, its result read off no memory. -/
theorem PCall_of {P : Program} {f : FuncId} {args : List PV} {p : PV} (hf : fnOk P f = true) (hc : ClosedL args)
    (H : ∀ (g : Gh) (w : World) (vals : Array Value), Rel g w Heap.nil → Args g vals args → Calls P f vals w fun e w' => ∃ v, e = .returned v ∧ (∀ g, Rep g v p) ∧ RowKit.Below w.heap.size w w') : PCall P f args p :=
  ⟨hf, hc, fun g w vals r ha => (H g w vals r ha).mono fun x w' ⟨v, h1, h2, h3⟩ => ⟨v, g.m, h1, h2 _, memExt_below r h3, h3⟩⟩
theorem args_1 {g : Gh} {vals : Array Value} {p : PV} (h : Args g vals [p]) : ∃ v, vals = #[v] ∧ Rep g v p := by
  obtain ⟨h1, h2⟩ := h
  have := h2 0 (by simp)
  refine ⟨vals[0]'(by simp [h1]), ?_, ?_⟩
  · apply Array.ext
    · simp [h1]
    · intro i hi hj
      have : i = 0 := by simp at hj; omega
      subst this; rfl
  · simpa [Array.getD_eq_getD_getElem?, h1, PV.nth] using this
theorem args_2 {g : Gh} {vals : Array Value} {p q : PV} (h : Args g vals [p, q]) : ∃ v u, vals = #[v, u] ∧ Rep g v p ∧ Rep g u q := by
  obtain ⟨h1, h2⟩ := h
  have a0 := h2 0 (by simp)
  have a1 := h2 1 (by simp)
  refine ⟨vals[0]'(by simp [h1]), vals[1]'(by simp [h1]), ?_, ?_, ?_⟩
  · apply Array.ext
    · simp [h1]
    · intro i hi hj
      have : i = 0 ∨ i = 1 := by simp at hj; omega
      rcases this with rfl | rfl <;> rfl
  · simpa [Array.getD_eq_getD_getElem?, h1, PV.nth] using a0
  · simpa [Array.getD_eq_getD_getElem?, h1, PV.nth] using a1
theorem str_eq {s : ByteArray} {l : List UInt8} (h : s.data.toList = l) : s = ⟨l.toArray⟩ := by
  subst h
  cases s; simp
/-- Strings in memory. -/
theorem strs_cells {g : Gh} {w : World} {h : Heap} (r : Rel g w h) {v : Value} {l : List Str} (hv : Rep g v (It.strs l)) :
    (∃ a cap, v = .slice a 0 cap ∧ l = []) ∨ ∃ b o cap, v = .slice (some ⟨b, o, none⟩) (l.map fun s => (⟨s.toArray⟩ : ByteArray)).length cap ∧ l.length ≤ cap ∧ b < w.heap.size ∧ ∀ (j : Nat) (x : ByteArray), (l.map fun s => (⟨s.toArray⟩ : ByteArray))[j]? = some x → w.cell? ⟨b, o + j, none⟩ = some (.string x) := by
  unfold It.strs at hv
  generalize hes : l.map (fun s => [PV.str s]) = es at hv
  cases hv with
  | slE a cap z => exact .inl ⟨a, cap, rfl, by simpa using hes⟩
  | sl b o len cap z a es vs ha hl hc hz hm hr =>
    subst hes
    subst ha
    have hlen : l.length = len := by simpa using hl
    by_cases h0 : l = []
    · subst h0
      simp at hlen
      subst hlen
      exact .inl ⟨_, _, rfl, rfl⟩
    right
    have cell : ∀ i (hi : i < l.length), w.cell? ⟨b, o + i, none⟩ = some (.string ⟨(l[i]).toArray⟩) := by
      intro i hi
      have h1 := r.mem _ _ _ (hm i 0 (by omega) (by omega))
      have h2 := hr i 0 (by omega) (by omega)
      have e : PV.nth (PV.row (l.map fun s => [PV.str s]) i) 0 = .str l[i] := by simp [PV.row, PV.nth, List.getD_eq_getElem?_getD, hi]
      rw [e] at h2
      obtain ⟨s, hs, hsl⟩ := h2.str_inv
      rw [hs, str_eq hsl] at h1
      simpa using h1.1
    refine ⟨b, o, cap, by simp [hlen], by omega, ?_, fun j x hx => ?_⟩
    · have hpos : 0 < l.length := List.length_pos_iff.2 h0
      have := cell 0 hpos
      unfold World.cell? at this
      by_cases hlt : b < w.heap.size
      · exact hlt
      · simp only [] at this
        rw [Array.getElem?_eq_none (by omega)] at this; cases this
    · rw [List.getElem?_map, Option.map_eq_some_iff] at hx
      obtain ⟨s, hs, rfl⟩ := hx
      obtain ⟨hj, rfl⟩ := List.getElem?_eq_some_iff.1 hs
      exact cell j hj
end Go.VM


namespace Go.VM
open Go Go.RowKit Go.Maps Go.Shelf Go.MapKept Go.WideShapes
open Go.WideElems (Fit rg rd rg_of rd_mk)
theorem Rep.of_one {g : Gh} {b : Nat} {p : PV} {len cap : Nat} (h : Rep g (.slice (some ⟨b, 0, none⟩) len cap) (.sl 1 [[p]])) (hl : len = 1) : ∃ v, g.m b 0 = some v ∧ Rep g v p := by
  subst hl
  cases h with
  | sl b o len cap z a es vs ha hl hc hz hm hr =>
    cases ha
    have h1 := hm 0 0 (by omega) (by omega)
    have h2 := hr 0 0 (by omega) (by omega)
    exact ⟨vs 0 0, by simpa using h1, by simpa [PV.row, PV.nth] using h2⟩
variable {P : Program} {ρ ρ' : Go.Shelf.Ren}
theorem ACall_keys (L : Go.Proofs.SlLaysZI.n7 P ρ) (hf : fnOk P (ρ.f 7) = true) (id : Nat) (h : Heap) : ACall P (ρ.f 7) [.mp id] h (fun p h' => p = .fnb (.func (ρ.f 10)) (.mp id) ∧ h' = h) := by
  refine ⟨hf, fun g w vals r ha => ?_⟩
  obtain ⟨v, rfl, hv⟩ := args_1 ha
  cases hv with
  | mp _ b o n z hb =>
    refine (callsIn_wide (n := 5)).1 ((Go.Proofs.AnyZI.keys_in L Fence.wide 5 trivial rfl (some b) w).mono ?_)
    rintro e w' ⟨rfl, rfl⟩
    obtain ⟨g', f1, f2, f3, f4⟩ := new_frozen r #[.map (some b)] (ρ.t 23) 1 [[.mp id]] (fun i hi => by
      obtain rfl : i = 0 := by simp at hi; omega
      rfl) (by
      refine ⟨rfl, fun i j hi hj => ?_⟩
      obtain rfl : i = 0 := by simp at hi; omega
      obtain rfl : j = 0 := by omega
      exact ⟨rfl, .mp _ _ _ _ _ hb⟩)
    obtain ⟨v, k1, k2⟩ := f2.of_one rfl
    have e1 := (f3.mem _ _ _ k1).1
    obtain rfl : v = .map (some b) := by
      simp [World.cell?] at e1
      exact e1.symm
    exact ⟨_, _, g', h, rfl, ⟨rfl, rfl⟩, .fnb _ _ _ _ k1 k2, f3, f4⟩

/-- Of the values nothing is asked. -/
abbrev R0 : Value → Option (DataW Unit × List MemPlace) := fun _ => some (.nil, [])
theorem ownsMap_of {k : TypeId} (hk : P.underlying k = some (.int .i64)) {w : World} {b clock : Nat} {ents : Array MapEntry} {es : List Int} (hb : w.heap[b]? = some (.map ents clock)) (hl : ents.size = es.length) (hsz : es.length ≤ maxLen)
    (hkeys : ∀ (i : Nat) (e : MapEntry) (x : Int), ents[i]? = some e → es[i]? = some x → e.key = .int .i64 x) (hwf : ∀ x ∈ es, (Lit.int .i64 x).wf = true) (hst : Stamped ents clock) :
    ∃ D : DataW Unit, w.ownsMap P k R0 b ents.size D ∧ (intKeys D).Perm es ∧ Maps.size D = es.length := by
  have each : ∀ x ∈ ents.toList, ∃ a : Int, x.key = .int .i64 a ∧ a ∈ es := by
    intro x hx
    obtain ⟨i, hi, rfl⟩ := List.getElem_of_mem hx
    have hi' : i < es.length := by simpa [hl] using hi
    exact ⟨es[i], hkeys i _ _ (by simp [hi, Array.getElem?_eq_getElem (show i < ents.size by simpa using hi)]) (by simp [hi']), List.getElem_mem _⟩
  have hread : ∀ x ∈ ents.toList, ∀ a : Int, x.key = .int .i64 a → a ∈ es → rd P k R0 x = some (.int .i64 a, .nil) := by
    intro x hx a h1 h2
    obtain ⟨key, val, born⟩ := x
    exact rd_mk (yv := (.nil, [])) (by rw [show key = _ from h1]; exact keyOf_int_mk hk (hwf a h2)) rfl
  refine ⟨_, ⟨ents, clock, hb, ⟨by omega, hst, fun x hx => ?_⟩, Nat.le_refl _, rfl⟩, ?_, ?_⟩
  · obtain ⟨a, h1, h2⟩ := each x hx
    exact ⟨_, hread x hx a h1 h2⟩
  · have e1 : ents.toList.map (fun x => intOf (rg P k R0 x).1) = es := by
      apply List.ext_getElem
      · simp [hl]
      · intro i h1 h2
        have h3 : i < ents.toList.length := by simpa using h1
        have hm := List.getElem_mem h3
        have h4 := hkeys i (ents.toList[i]) es[i] (by simp [Array.getElem?_eq_getElem (show i < ents.size by simpa using h3)]) (by simp [h2])
        simp only [List.getElem_map]
        rw [rg_of (hread _ hm es[i] h4 (List.getElem_mem _))]
        rfl
    show (((ents.toList.map (rg P k R0)).foldr DataW.insert []).map fun p => intOf p.1).Perm es
    refine ((sorted_perm _).map _).trans ?_
    rw [List.map_map]
    exact List.Perm.of_eq e1
  · simp [Maps.size, length_sorted, hl]

theorem ACall_sortedKeys (L7 : Go.Proofs.SlLaysZI.n7 P ρ) (L6 : Go.Proofs.SlLaysZI.n6 P ρ') (hf : fnOk P (ρ'.f 6) = true) (hs : Go.Proofs.AnyZI.SortsIn P ρ' Fence.wide 4)
    (e9 : ∀ args w, (callFunc (ρ'.f 9) args).run P w = .ok (.enter (ρ'.f 9) args) w) (e10 : ∀ args w, (callFunc (ρ.f 10) args).run P w = .ok (.enter (ρ.f 10) args) w)
    (id : Nat) (h : Heap) (es : List (Int × PV)) (hg : h.get id = some (.map (es.map fun p => (.int .i64 p.1, p.2)))) (hwf : ∀ p ∈ es, (Lit.int .i64 p.1).wf = true) (hlen : es.length ≤ 1000000000) :
    ACall P (ρ'.f 6) [.fnb (.func (ρ.f 10)) (.mp id)] h (fun p h' => p = .sl 1 (((es.map (·.1)).mergeSort leI).map fun x => [.int .i64 x]) ∧ h' = h) := by
  refine ⟨hf, fun g w vals r ha => ?_⟩
  obtain ⟨v, rfl, hv⟩ := args_1 ha
  cases hv with
  | fnb _ Bm v _ hm h1 =>
  cases h1 with
  | mp _ b o n z hb =>
  have hcell := (r.mem Bm 0 _ hm).1
  have hBm : Bm < w.heap.size := by
    rcases Nat.lt_or_ge Bm w.heap.size with h1 | h1
    · exact h1
    · simp [World.cell?, Array.getElem?_eq_none h1] at hcell
  rcases r.blk id _ hg with ⟨hn, _⟩ | ⟨b', o', n', z', hb', hlt, hfree, ents, clock, q1, q2, q3, q4⟩
  · rw [hb] at hn; cases hn
  rw [hb] at hb'
  simp only [Option.some.injEq, Prod.mk.injEq] at hb'
  obtain ⟨rfl, _⟩ := hb'
  have hst := q4 (fun p hp => by
    obtain ⟨x, _, rfl⟩ := List.mem_map.1 hp
    rfl)
  have hmx : es.length ≤ maxLen := Nat.le_trans hlen (by decide)
  obtain ⟨D, d1, d2, d3⟩ := ownsMap_of (k := ρ.t 26) (es := es.map (·.1)) L7.t26 q1 (by simpa using q2) (by simpa using hmx) (fun i e x h1 h2 => by
      rw [List.getElem?_map, Option.map_eq_some_iff] at h2
      obtain ⟨p, hp, rfl⟩ := h2
      have h3 := (q3 i e _ h1 (by rw [List.getElem?_map, hp]; rfl)).1
      generalize e.key = kk at h3
      cases h3; rfl) (fun x hx => by
      obtain ⟨p, hp, rfl⟩ := List.mem_map.1 hx
      exact hwf p hp) hst
  have hseq := Go.Proofs.AnyZI.keys_gives { L7 with } Fence.wide 2 trivial rfl (by omega) Bm b ents.size D w hBm hcell d1
  have hdl : Maps.size D = es.length := by simpa using d3
  refine (callsIn_wide (n := 5)).1 ((Go.Proofs.AnyZI.sorted_in L6 Fence.wide 5 trivial trivial trivial trivial rfl (by omega) hs e9 (ρ.f 10) _ trivial e10 _ _ (by omega) (by omega) w hseq).mono ?_)
  rintro e w' ⟨v, ss, rfl, hS, hrow, hnil, hb2⟩
  have hss : ss.mergeSort (fun x y => decide (x ≤ y)) = (es.map (·.1)).mergeSort leI := mergeSort_of_perm_i (hS.trans d2)
  rw [hss] at hrow
  generalize hq : (es.map (·.1)).mergeSort leI = zs at hrow
  have hlz : ss.length = zs.length := by rw [← hq, ← hss]; simp
  rcases hrow.2 with ⟨rfl, hz⟩ | ⟨gb, cap, cur, rfl, hbase, hgb, r1, r2, r3, r4⟩
  · have hzs : zs = [] := List.eq_nil_of_length_eq_zero (by omega)
    subst hzs
    obtain ⟨R, E⟩ := r.below (memExt_below r hb2) hb2
    exact ⟨_, .sl 1 [], _, h, rfl, ⟨rfl, rfl⟩, .slE _ _ _, R, E⟩
  · let m' : Mem := ⟨fun bb oo => if bb = gb then (if oo < zs.length then some (cur.getD oo Go.undef) else none) else g.m bb oo, g.m.mm⟩
    have hcur : ∀ j (hj : j < zs.length), cur.getD j Go.undef = .int .i64 zs[j] := by
      intro j hj
      have h1 : (cur.toList.take (ss.length * 1))[j]? = (zs.map encZ)[j]? := by rw [r4]
      rw [List.getElem?_take, if_pos (by omega), List.getElem?_map] at h1
      simp only [List.getElem?_eq_getElem hj, Option.map_some] at h1
      rw [Array.getD_eq_getD_getElem?, ← Array.getElem?_toList, h1]
      rfl
    have hlg : ∀ bb oo v, g.m bb oo = some v → bb ≠ gb := by
      rintro bb oo v e rfl
      have := (r.mem _ _ _ e).1
      rw [World.cell?, Array.getElem?_eq_none (by omega)] at this
      cases this
    have base := memExt_below r hb2
    have hext : MemExt g w m' w' := by
      refine ⟨fun bb oo v e => ?_, fun bb oo v e => ?_, fun bb oo v e => ?_, base.oldM, base.okM, base.newM⟩
      · show (if bb = gb then _ else _) = _
        rw [if_neg (hlg bb oo v e)]; exact e
      · have e' : (if bb = gb then (if oo < zs.length then some (cur.getD oo Go.undef) else none) else g.m bb oo) = some v := e
        by_cases h1 : bb = gb
        · subst h1
          rw [if_pos rfl] at e'
          by_cases h2 : oo < zs.length
          · rw [if_pos h2] at e'
            simp only [Option.some.injEq] at e'
            subst e'
            refine ⟨?_, by rw [hcur oo h2]; rfl⟩
            have h3 : oo < cur.size := by omega
            simp [World.cell?, hgb, h3]
          · rw [if_neg h2] at e'; cases e'
        · rw [if_neg h1] at e'; exact base.ok bb oo v e'
      · have e' : (if bb = gb then (if oo < zs.length then some (cur.getD oo Go.undef) else none) else g.m bb oo) = some v := e
        by_cases h1 : bb = gb
        · subst h1; exact .inr hbase
        · rw [if_neg h1] at e'; exact .inl e'
    obtain ⟨R, E⟩ := r.below hext hb2
    refine ⟨_, .sl 1 (zs.map fun x => [.int .i64 x]), _, h, rfl, ⟨rfl, rfl⟩, ?_, R, E⟩
    refine .sl gb 0 ss.length cap 1 _ _ (fun i _ => cur.getD i Go.undef) rfl (by simp [hlz]) r1 (fun i hi => ?_) (fun i j hi hj => ?_) (fun i j hi hj => ?_)
    · have hi' : i < zs.length := by omega
      simp [PV.row, List.getD_eq_getElem?_getD, hi']
    · obtain rfl : j = 0 := by omega
      show (if gb = gb then (if 0 + i * 1 + 0 < zs.length then some (cur.getD (0 + i * 1 + 0) Go.undef) else none) else _) = _
      rw [if_pos rfl, if_pos (by omega)]
      simp
    · obtain rfl : j = 0 := by omega
      have hi' : i < zs.length := by omega
      rw [hcur i hi']
      have : PV.nth (PV.row (zs.map fun x => [PV.int .i64 x]) i) 0 = .int .i64 zs[i] := by simp [PV.row, PV.nth, List.getD_eq_getElem?_getD, hi']
      rw [this]
      exact .int _ _
end Go.VM

