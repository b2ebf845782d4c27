/-
  From the kit's own contracts to calls of the value machine: strings, slices of strings, numbers.
  Drawn regions in which one call is handed what the region has made: all that it does not wait for only looks.
-/
import Derived.Test.YtepmaobfbfbecaaVmH
set_option linter.all false
namespace Go.VM
open Go
theorem memExt_below {g : Gh} {w w' : World} {h : Heap} (r : Rel g w h) (hb : RowKit.Below w.heap.size w w') : MemExt g w g.m w' := by
  have hin : ∀ {b : Nat} {x : Obj}, w.heap[b]? = some x → w'.heap[b]? = w.heap[b]? := fun {b x} e => hb.block b (by
    by_cases hlt : b < w.heap.size
    · exact hlt
    · rw [Array.getElem?_eq_none (by omega)] at e; cases e)
  refine ⟨fun _ _ _ e => e, fun b o v e => ?_, fun _ _ _ e => .inl e, fun _ _ e => e, fun b e he => ?_, fun _ _ e => .inl e⟩
  · obtain ⟨h1, h2⟩ := r.mem b o v e
    refine ⟨?_, h2⟩
    unfold World.cell? at h1 ⊢
    cases hh : w.heap[b]? with
    | none => rw [hh] at h1; cases h1
    | some x => rw [hin hh]; exact h1
  · obtain ⟨clock, h1⟩ := r.mmem b e he
    exact ⟨clock, by rw [hin h1]; exact h1⟩
/-- A contract of the kit's, its result read off no memory. -/
theorem PCall_of {P : Program} {f : FuncId} {args : List PV} {p : PV} (hf : fnOk P f = true) (hc : ClosedL args)
    (H : ∀ (g : Gh) (w : World) (vals : Array Value), Rel g w Heap.nil → Args g vals args → Calls P f vals w fun e w' => ∃ v, e = .returned v ∧ (∀ g, Rep g v p) ∧ RowKit.Below w.heap.size w w') : PCall P f args p :=
  ⟨hf, hc, fun g w vals r ha => (H g w vals r ha).mono fun x w' ⟨v, h1, h2, h3⟩ => ⟨v, g.m, h1, h2 _, memExt_below r h3, h3⟩⟩
theorem args_1 {g : Gh} {vals : Array Value} {p : PV} (h : Args g vals [p]) : ∃ v, vals = #[v] ∧ Rep g v p := by
  obtain ⟨h1, h2⟩ := h
  have := h2 0 (by simp)
  refine ⟨vals[0]'(by simp [h1]), ?_, ?_⟩
  · apply Array.ext
    · simp [h1]
    · intro i hi hj
      have : i = 0 := by simp at hj; omega
      subst this; rfl
  · simpa [Array.getD_eq_getD_getElem?, h1, PV.nth] using this
theorem args_2 {g : Gh} {vals : Array Value} {p q : PV} (h : Args g vals [p, q]) : ∃ v u, vals = #[v, u] ∧ Rep g v p ∧ Rep g u q := by
  obtain ⟨h1, h2⟩ := h
  have a0 := h2 0 (by simp)
  have a1 := h2 1 (by simp)
  refine ⟨vals[0]'(by simp [h1]), vals[1]'(by simp [h1]), ?_, ?_, ?_⟩
  · apply Array.ext
    · simp [h1]
    · intro i hi hj
      have : i = 0 ∨ i = 1 := by simp at hj; omega
      rcases this with rfl | rfl <;> rfl
  · simpa [Array.getD_eq_getD_getElem?, h1, PV.nth] using a0
  · simpa [Array.getD_eq_getD_getElem?, h1, PV.nth] using a1
theorem str_eq {s : ByteArray} {l : List UInt8} (h : s.data.toList = l) : s = ⟨l.toArray⟩ := by
  subst h
  cases s; simp
/-- Strings in memory. -/
theorem strs_cells {g : Gh} {w : World} {h : Heap} (r : Rel g w h) {v : Value} {l : List Str} (hv : Rep g v (It.strs l)) :
    (∃ a cap, v = .slice a 0 cap ∧ l = []) ∨ ∃ b o cap, v = .slice (some ⟨b, o, none⟩) (l.map fun s => (⟨s.toArray⟩ : ByteArray)).length cap ∧ l.length ≤ cap ∧ b < w.heap.size ∧ ∀ (j : Nat) (x : ByteArray), (l.map fun s => (⟨s.toArray⟩ : ByteArray))[j]? = some x → w.cell? ⟨b, o + j, none⟩ = some (.string x) := by
  unfold It.strs at hv
  generalize hes : l.map (fun s => [PV.str s]) = es at hv
  cases hv with
  | slE a cap z => exact .inl ⟨a, cap, rfl, by simpa using hes⟩
  | sl b o len cap z a es vs ha hl hc hz hm hr =>
    subst hes
    subst ha
    have hlen : l.length = len := by simpa using hl
    by_cases h0 : l = []
    · subst h0
      simp at hlen
      subst hlen
      exact .inl ⟨_, _, rfl, rfl⟩
    right
    have cell : ∀ i (hi : i < l.length), w.cell? ⟨b, o + i, none⟩ = some (.string ⟨(l[i]).toArray⟩) := by
      intro i hi
      have h1 := r.mem _ _ _ (hm i 0 (by omega) (by omega))
      have h2 := hr i 0 (by omega) (by omega)
      have e : PV.nth (PV.row (l.map fun s => [PV.str s]) i) 0 = .str l[i] := by simp [PV.row, PV.nth, List.getD_eq_getElem?_getD, hi]
      rw [e] at h2
      obtain ⟨s, hs, hsl⟩ := h2.str_inv
      rw [hs, str_eq hsl] at h1
      simpa using h1.1
    refine ⟨b, o, cap, by simp [hlen], by omega, ?_, fun j x hx => ?_⟩
    · have hpos : 0 < l.length := List.length_pos_iff.2 h0
      have := cell 0 hpos
      unfold World.cell? at this
      by_cases hlt : b < w.heap.size
      · exact hlt
      · simp only [] at this
        rw [Array.getElem?_eq_none (by omega)] at this; cases this
    · rw [List.getElem?_map, Option.map_eq_some_iff] at hx
      obtain ⟨s, hs, rfl⟩ := hx
      obtain ⟨hj, rfl⟩ := List.getElem?_eq_some_iff.1 hs
      exact cell j hj
end Go.VM


namespace Go.VM
open Go
section
variable {P : Program} {N : Nat} {ops : Array Oper} {q : List VOper} {hqf : Nat → Heap} {Z : Nat → Heap → Heap → Prop}
/-- The lexical walk; the c-th operation may do what it likes. -/
def DrawC (P : Program) (hq : Heap) (c : Nat) : Nat → List VOper → (Env → Heap → Prop) → Env → Heap → Prop
  | _, [], K, e, h => K e h
  | k, o :: r, K, e, h => match k == c with
    | true => o.guard = none ∧ StepW P e h o.op (fun v h' => hq.le h' ∧ DrawC P hq c (k + 1) r K (e.put o.dst v) h')
    | false => match o.op.simple, o.guard with
      | true, none => StepW P e h o.op (fun v h' => hq.le h' ∧ DrawC P hq c (k + 1) r K (e.put o.dst v) h')
      | true, some _ => False
      | false, none => QW P hq e o.op true (fun v => DrawC P hq c (k + 1) r K (e.put o.dst v) h)
      | false, some (d, want) => (match guardOf want (e.get d) with
        | some b => QW P hq e o.op b (fun v => DrawC P hq c (k + 1) r K (e.put o.dst v) h)
        | none => False)
/-- All behind the c-th operation read what it gives. -/
def lastB (q : List VOper) (c : Nat) : Bool :=
  match q[c]? with
  | some x => !x.op.simple && !x.op.det && x.guard.isNone && (List.range q.length).all fun j => decide (j ≤ c) || (match q[j]? with | some y => !x.apart y | none => true)
  | none => false
theorem lex_soundC {hq : Heap} {c : Nat} (hlast : lastB q c = true) {K : Env → Heap → Prop} (hK : Inv K) (hlen : ops.size = q.length) : ∀ (l : List VOper) (k : Nat) (listed : Array Bool) (e : Env) (h : Heap), (∀ j, l[j]? = q[k + j]?) → (∀ j, j < k → listed.getD j true = true) →
    drawB ops q l.length k listed = true → (∀ o ∈ q, o.op.closed = true) → DrawC P hq c k l K e h → AAny P ops q (fun _ => hq) (fun _ _ h' => hq.le h') (c :: effIdx q) K l.length listed e h
  | [], _, listed, e, h, _, _, hB, _, H => ⟨by simpa [drawB] using hB, H⟩
  | o :: l, k, listed, e, h, hl, hli, hB, hc, H => by
    have h0 : q[k]? = some o := by simpa using (hl 0).symm
    have hkl : k < q.length := (List.getElem?_eq_some_iff.1 h0).1
    simp only [List.length_cons, drawB, Bool.and_eq_true] at hB
    obtain ⟨⟨⟨hr, hf⟩, _⟩, hB'⟩ := hB
    have hl' : ∀ j, l[j]? = q[(k + 1) + j]? := fun j => by have := hl (j + 1); simpa [Nat.add_assoc, Nat.add_comm 1 j] using this
    have hli' : ∀ j, j < k + 1 → (listed.setIfInBounds k true).getD j true = true := fun j hj => by
      by_cases hjk : k = j
      · subst hjk
        rcases Nat.lt_or_ge k listed.size with h' | h'
        · simp [h']
        · simp [Array.getD_eq_getD_getElem?, Array.getElem?_eq_none (show (listed.setIfInBounds k true).size ≤ k by simpa using h')]
      · rw [getD_set_ne true hjk]; exact hli j (by omega)
    have hEj : ∀ (j : Nat) (oj : VOper), q[j]? = some oj → (j ∈ effIdx q ↔ oj.op.simple = true) := by
      intro j oj hj
      have hjl : j < q.length := (List.getElem?_eq_some_iff.1 hj).1
      simp only [effIdx, List.mem_filter, List.mem_range, effAt, hj]
      exact ⟨fun h => h.2, fun h => ⟨hjl, h⟩⟩
    have hE := hEj k o h0
    -- the c-th
    unfold lastB at hlast
    cases hqc : q[c]? with
    | none => rw [hqc] at hlast; cases hlast
    | some oc =>
    rw [hqc] at hlast
    simp only [Bool.and_eq_true, Bool.not_eq_true', List.all_eq_true, List.mem_range, Bool.or_eq_true, decide_eq_true_eq] at hlast
    obtain ⟨⟨⟨c1, c2⟩, c3⟩, c4⟩ := hlast
    have hlast' : lastB q c = true := by
      unfold lastB
      rw [hqc]
      simp only [Bool.and_eq_true, Bool.not_eq_true', List.all_eq_true, List.mem_range, Bool.or_eq_true, decide_eq_true_eq]
      exact ⟨⟨⟨c1, c2⟩, c3⟩, c4⟩
    have ih : ∀ e' h', DrawC P hq c (k + 1) l K e' h' → AAny P ops q (fun _ => hq) (fun _ _ h' => hq.le h') (c :: effIdx q) K l.length (listed.setIfInBounds k true) e' h' :=
      fun e' h' H' => lex_soundC hlast' hK hlen l (k + 1) _ e' h' hl' hli' hB' hc H'
    refine AAny.first hK hc hlen h0 l.length listed e h ?_ (by simpa using hr) ?_
    · intro j oj goj hj hgj hjk hun hno
      have hjl : j < ops.size := (Array.getElem?_eq_some_iff.1 hgj).1
      have hkj : k < j := by
        rcases Nat.lt_or_ge k j with h' | h'
        · exact h'
        · have := hli j (by omega); rw [hun] at this; cases this
      simp only [freeB, List.all_eq_true, List.mem_range] at hf
      have hfj := hf j hjl
      rw [h0, hj, hun] at hfj
      simp only [hno, Bool.or_false, Bool.or_eq_true, beq_iff_eq, Bool.and_eq_true, Bool.not_eq_true', Bool.and_eq_false_iff] at hfj
      rcases hfj with hfj | hfj
      · exact absurd hfj hjk
      · obtain ⟨⟨g1, g2⟩, g3⟩ := hfj
        by_cases hkc : k = c
        · exfalso
          subst hkc
          rw [h0] at hqc
          simp only [Option.some.injEq] at hqc
          subst hqc
          rcases c4 j (by omega) with h' | h'
          · omega
          · rw [hj] at h'
            simp only [Bool.not_eq_true'] at h'
            rw [g1] at h'; cases h'
        · have kE : k ∈ c :: effIdx q ↔ o.op.simple = true := by simp [hkc, hE]
          refine ⟨g1, fun ⟨x1, x2⟩ => ?_, fun x1 => ?_⟩
          · have s1 := kE.1 x1
            rcases List.mem_cons.1 x2 with x2 | x2
            · subst x2
              rw [hj] at hqc
              simp only [Option.some.injEq] at hqc
              subst hqc
              rcases g3 with g3 | g3
              · rw [s1] at g3; cases g3
              · rw [c2] at g3; cases g3
            · rw [hEj j oj hj] at x2
              rcases g2 with g2 | g2
              · rw [s1] at g2; cases g2
              · rw [x2] at g2; cases g2
          · have x1' := kE.1 x1
            refine ⟨x1', ?_⟩
            rcases g3 with g3 | g3
            · rw [x1'] at g3; cases g3
            · exact g3
    · have hq2 : ∀ b, k ≠ c → gOf o e b → QW P hq e o.op b (fun v => DrawC P hq c (k + 1) l K (e.put o.dst v) h) → o.op.simple = false → AStep P (fun _ => hq) (fun _ _ h' => hq.le h') (c :: effIdx q) k o e h (AAny P ops q (fun _ => hq) (fun _ _ h' => hq.le h') (c :: effIdx q) K l.length (listed.setIfInBounds k true)) := by
        intro b hkc hg hQ hs
        have hnE : k ∉ c :: effIdx q := fun hh => by
          rcases List.mem_cons.1 hh with hh | hh
          · exact hkc hh
          · have := hE.1 hh; rw [hs] at this; cases this
        refine (AStep_q hnE).2 ⟨b, hg, ?_⟩
        unfold QW at hQ
        split at hQ
        · rename_i hd
          exact ⟨_, fun hh => det_quiet hd (hQ.1 hh), ih _ _ hQ.2⟩
        · obtain ⟨v, v1, v2⟩ := hQ
          exact ⟨v, v1, ih _ _ v2⟩
      simp only [DrawC] at H
      split at H
      · rename_i hkc
        exact (AStep_E (List.mem_cons.2 (.inl (by simpa using hkc)))).2 ⟨H.1, H.2.mono fun v h' kk => ⟨kk.1, ih _ _ kk.2⟩⟩
      · rename_i hkc
        have hkc' : k ≠ c := by simpa using hkc
        split at H
        · rename_i hs hg
          exact (AStep_E (List.mem_cons_of_mem _ (hE.2 hs))).2 ⟨hg, H.mono fun v h' kk => ⟨kk.1, ih _ _ kk.2⟩⟩
        · exact H.elim
        · rename_i hs hg
          exact hq2 true hkc' (by simp [gOf, hg]) H hs
        · rename_i hs hg
          split at H
          · rename_i b hgc
            exact hq2 b hkc' (by simp [gOf, hg, hgc]) H hs
          · exact H.elim
/-! One operation of the walk. -/
theorem DrawC_at {P : Program} {hq : Heap} {c : Nat} {dst : Option Nat} {op : VOp} {r : List VOper} {K : Env → Heap → Prop} {e : Env} {h : Heap} : DrawC P hq c c (⟨dst, op, none⟩ :: r) K e h = StepW P e h op (fun v h' => hq.le h' ∧ DrawC P hq c (c + 1) r K (e.put dst v) h') := by
  simp only [DrawC, beq_self_eq_true, true_and]
theorem DrawC_n {P : Program} {hq : Heap} {c k : Nat} {dst : Option Nat} {op : VOp} {r : List VOper} {K : Env → Heap → Prop} {e : Env} {h : Heap} (hk : (k == c) = false) : DrawC P hq c k (⟨dst, op, none⟩ :: r) K e h = (match op.simple with
    | true => StepW P e h op (fun v h' => hq.le h' ∧ DrawC P hq c (k + 1) r K (e.put dst v) h')
    | false => QW P hq e op true (fun v => DrawC P hq c (k + 1) r K (e.put dst v) h)) := by
  cases hs : op.simple <;> simp only [DrawC, hk, hs]
theorem DrawC_nil {P : Program} {hq : Heap} {c k : Nat} {K : Env → Heap → Prop} {e : Env} {h : Heap} : DrawC P hq c k [] K e h = K e h := rfl
theorem VW_draw2C {Q : Exit → Env → Heap → Prop} {e : Env} {h : Heap} {late : List Bool} (c : Nat) (T : Nat) (l : List Nat) (hlast : lastB q c = true) (hT : h.top ≤ T)
    (H : DrawC P ⟨[], T⟩ c 0 q (fun e' h' => Q .normal (Env.keep l e') h') e h) : VW P N (.draw2 q late) Q e h := by
  intro cc hc
  cases cc
  case region id ops draw =>
    obtain ⟨p, h3, h' | h' | h'⟩ := cCode_region hc
    · obtain ⟨_, h'⟩ := h'
      simp at h'
    · obtain ⟨hd, hB, h' | h'⟩ := h'
      · obtain ⟨_, h'⟩ := h'
        cases h'
      · simp only [VC.draw2.injEq] at h'
        obtain ⟨h', _⟩ := h'
        subst h'
        subst hd
        simp only [Bool.and_eq_true] at hB
        obtain ⟨hm, hB⟩ := hB
        obtain ⟨hlen, _⟩ := cOpers_get h3
        rw [Array.length_toList] at hlen
        have hcl : ∀ o ∈ q, o.op.closed = true := by
          cases q with
          | nil => intro o ho; cases ho
          | cons x xs =>
            rw [hlen] at hB
            simp only [List.length_cons, drawB, Bool.and_eq_true] at hB
            exact fun o ho => List.all_eq_true.1 hB.1.2 o ho
        intro g w a r he hd hs
        refine wp_region_any hm ?_
        have hany := lex_soundC (P := P) hlast (K := fun e' h' => Q .normal (Env.keep l e') h') (fun e1 e2 h1 hee hk => by have hk' : Q .normal (Env.keep l e1) h1 := hk; rw [keep_eqv hee l] at hk'; exact hk') hlen q 0 (Array.replicate ops.size false) e h (fun j => by simp) (fun j hj => absurd hj (Nat.not_lt_zero _)) (by rw [← hlen]; exact hB) hcl H
        rw [← hlen] at hany
        exact any_sound (N := N) h3 (fun _ h => Heap.le ⟨[], T⟩ h) (fun _ _ _ _ hi _ _ _ => .inl hi) (fun _ _ _ hi _ _ => hi) (fun _ _ _ _ _ _ _ hz => hz) (Q := fun x a' w' => ∃ g' e' h', Q x e' h' ∧ Rel g' w' h' ∧ EnvRep g' a' e' ∧ a'.defers = [] ∧ a'.tmps.size = N ∧ Evo g w h g' w' h') (g0 := g) (w0 := w) (h0 := h)
          (fun g' w' h' a' e' k1 k2 k3 k4 k5 k6 => ⟨g', _, h', k1, k2, k3.keep l, k4, k5, k6⟩) _ _ e h hany ⟨hT, trivial⟩ g _ a (r.drew _) he hd hs (Evo.drew _ _ _ _)
    · obtain ⟨c, h'⟩ := h'; cases h'
  all_goals
    simp only [cCode, Option.map_eq_some_iff] at hc
    first
    | (simp at hc; done)
    | (split at hc <;> simp at hc)
end
end Go.VM

