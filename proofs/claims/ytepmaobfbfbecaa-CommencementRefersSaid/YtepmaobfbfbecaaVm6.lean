/-
  The value machine, 6: append.
-/
import Derived.Test.YtepmaobfbfbecaaVm5
set_option linter.all false
namespace Go.VM
open Go

def srcRows (h : Heap) : PV → List (List PV)
  | .sl _ es => es
  | .own id off len => (match h.get id with
    | some (.arr _ _ es) => (es.drop off).take len
    | _ => [])
  | .str s => s.map fun c => [.int .u8 (c.toNat : Int)]
  | _ => []
def srcOk (h : Heap) (str : Bool) (z : Nat) : PV → Prop
  | .sl z' _ => str = false ∧ z' = z
  | .own id off len => str = false ∧ (match h.get id with
    | some (.arr _ z' es) => z' = z ∧ off + len ≤ es.length
    | _ => False)
  | .nilsl => str = false
  | .str _ => str = true ∧ z = 1
  | _ => False
def oldRows (h : Heap) : PV → List (List PV)
  | .own id off len => (match h.get id with
    | some (.arr _ _ es) => (es.drop off).take len
    | _ => [])
  | _ => []
def oldOk (h : Heap) (z : Nat) : PV → Prop
  | .nilsl => True
  | .own id off len => (match h.get id with
    | some (.arr fz z' es) => fz = false ∧ z' = z ∧ off + len ≤ es.length
    | _ => False)
  | _ => False
def oldId : PV → Option Nat
  | .own id _ _ => some id
  | _ => none

/-- Rows of cells in memory. -/
def RowsAt (g : Gh) (w : World) (b o z : Nat) (rows : List (List PV)) : Prop :=
  ∀ i j, i < rows.length → j < z → ∃ v, w.cell? ⟨b, o + i * z + j, none⟩ = some v ∧ v.oneCell' = true ∧ Rep g v (PV.nth (PV.row rows i) j)
/-- Rows of cells in a list. -/
def RowsIn (g : Gh) (cs : List Value) (z : Nat) (rows : List (List PV)) : Prop :=
  cs.length = rows.length * z ∧ ∀ i j, i < rows.length → j < z → (cs.getD (i * z + j) Go.undef).oneCell' = true ∧ Rep g (cs.getD (i * z + j) Go.undef) (PV.nth (PV.row rows i) j)

theorem rows_bound {n z i j : Nat} (hi : i < n) (hj : j < z) : i * z + j < n * z := by
  have h1 : (i + 1) * z ≤ n * z := Nat.mul_le_mul_right _ hi
  rw [Nat.succ_mul] at h1
  omega
theorem rows_split {n z k : Nat} (hk : k < n * z) : k / z < n ∧ k % z < z ∧ k / z * z + k % z = k := by
  have hz : 0 < z := by
    rcases Nat.eq_zero_or_pos z with rfl | h
    · simp at hk
    · exact h
  exact ⟨(Nat.div_lt_iff_lt_mul hz).2 hk, Nat.mod_lt _ hz, by rw [Nat.mul_comm]; exact Nat.div_add_mod k z⟩

theorem RowsAt.load {P : Program} {g : Gh} {w : World} {b o z : Nat} {rows : List (List PV)} (h : RowsAt g w b o z rows) (w' : World) (hw : w'.heap = w.heap) :
    ∃ cs : List Value, (loadCells ⟨b, o, none⟩ (rows.length * z)).run P w' = .ok cs.toArray w' ∧ RowsIn g cs z rows := by
  have hadd : ∀ j, (⟨b, o, none⟩ : Addr).add j = ⟨b, o + j, none⟩ := fun j => by by_cases h : j = 0 <;> simp [Addr.add, h]
  have hc : ∀ a, w'.cell? a = w.cell? a := fun a => by simp [World.cell?, hw]
  let f : Nat → Value := fun k => (w.cell? ⟨b, o + k, none⟩).getD Go.undef
  have hf : ∀ k, k < rows.length * z → w'.cell? ((⟨b, o, none⟩ : Addr).add k) = some (f k) := by
    intro k hk
    obtain ⟨h1, h2, h3⟩ := rows_split hk
    obtain ⟨v, hv, _, _⟩ := h _ _ h1 h2
    rw [Nat.add_assoc, h3] at hv
    rw [hadd, hc, hv]
    simp [f, hv]
  refine ⟨(List.range (rows.length * z)).map f, run_loadCells w' _ _ f hf, by simp, fun i j hi hj => ?_⟩
  have hk := rows_bound hi hj
  obtain ⟨v, hv, h1, h2⟩ := h i j hi hj
  have e1 : ((List.range (rows.length * z)).map f).getD (i * z + j) Go.undef = v := by
    simp only [List.getD_eq_getElem?_getD, List.getElem?_map, List.getElem?_range hk, Option.map_some, Option.getD_some, f]
    rw [← Nat.add_assoc, hv]; rfl
  rw [e1]; exact ⟨h1, h2⟩

section
variable {P : Program} {g : Gh} {w : World} {h : Heap}

/-- A slice of the abstract heap, seen in memory. -/
theorem own_seen (r : Rel g w h) {id off len : Nat} {fz : Bool} {z : Nat} {es : List (List PV)} {v : Value} (hv : Rep g v (.own id off len)) (hg : h.get id = some (.arr fz z es)) (hle : off + len ≤ es.length) :
    (len = 0 ∧ ∃ ao, v = .slice ao 0 0) ∨
    ∃ cap b o n c ty, v = .slice (some ⟨b, o + off * z, none⟩) len cap ∧ g.β id = some (b, o, n, z) ∧ len ≤ cap ∧ o + off * z + cap * z ≤ n ∧ b < w.heap.size ∧ w.heap[b]? = some (.cells c ty (0, 0)) ∧ c.size = n ∧
      RowsAt g w b (o + off * z) z ((es.drop off).take len) := by
  cases hv with
  | ownE ao => exact .inl ⟨rfl, ao, rfl⟩
  | own _ _ _ cap b o n z' a hb ha hc hn =>
    subst ha
    rcases r.blk id _ hg with ⟨hb0, _⟩ | ⟨b', o', n', z'', hb', hlt, _, hok⟩
    · rw [hb] at hb0; cases hb0
    · rw [hb] at hb'
      simp only [Option.some.injEq, Prod.mk.injEq] at hb'
      obtain ⟨rfl, rfl, rfl, rfl⟩ := hb'
      obtain ⟨rfl, hz, hle', c, ty, h1, h2, h3⟩ := hok
      refine .inr ⟨cap, b, o, n, c, ty, rfl, hb, hc, hn, hlt, h1, h2, ?_⟩
      intro i j hi hj
      have hi' : i < len := by simp at hi; omega
      obtain ⟨e1, e2, _⟩ := h3 (off + i) j (by omega) hj
      have hin : o + (off + i) * z + j < c.size := by
        have := rows_bound (n := es.length) (z := z) (show off + i < es.length by omega) hj
        omega
      refine ⟨c.getD (o + (off + i) * z + j) Go.undef, ?_, e1, ?_⟩
      · have : o + off * z + i * z + j = o + (off + i) * z + j := by rw [Nat.add_mul]; omega
        rw [this]
        simp [World.cell?, h1, hin, Array.getD]
      · rw [row_take _ _ _ hi', row_drop]; exact e2

theorem sl_seen (r : Rel g w h) {z : Nat} {es : List (List PV)} {v : Value} (hv : Rep g v (.sl z es)) :
    (es = [] ∧ ∃ ao cap, v = .slice ao 0 cap) ∨ ∃ b o cap, v = .slice (some ⟨b, o, none⟩) es.length cap ∧ es.length ≤ cap ∧ RowsAt g w b o z es := by
  cases hv with
  | slE ao cap => exact .inl ⟨rfl, ao, cap, rfl⟩
  | sl b o len cap z a es vs ha hl hc hz hm hr =>
    subst ha hl
    refine .inr ⟨b, o, cap, rfl, hc, fun i j hi hj => ⟨vs i j, ?_, ?_, hr i j hi hj⟩⟩
    · exact (r.mem _ _ _ (hm i j hi hj)).1
    · exact (r.mem _ _ _ (hm i j hi hj)).2

theorem src_run (r : Rel g w h) {str : Bool} {z : Nat} {p : PV} {v : Value} (hv : Rep g v p) (hok : srcOk h str z p) :
    (Builtin.lenOf v).run P w = .ok (srcRows h p).length w ∧ ∀ w' : World, w'.heap = w.heap → ∃ cs : List Value, (Builtin.firstCells z (srcRows h p).length v).run P w' = .ok cs.toArray w' ∧ RowsIn g cs z (srcRows h p) := by
  have empty : ∀ ao c, (Builtin.lenOf (.slice ao 0 c)).run P w = .ok 0 w ∧ ∀ w' : World, w'.heap = w.heap → ∃ cs : List Value, (Builtin.firstCells z 0 (.slice ao 0 c)).run P w' = .ok cs.toArray w' ∧ RowsIn g cs z [] := by
    intro ao c
    refine ⟨rfl, fun w' _ => ⟨[], ?_, by simp, fun i j hi => by simp at hi⟩⟩
    cases ao with
    | none => rfl
    | some a => simp [Builtin.firstCells, loadCells, loadCellsFrom]
  cases p <;> simp only [srcOk] at hok
  case nilsl => cases hv; exact empty none 0
  case str s =>
    obtain ⟨_, rfl⟩ := hok
    obtain ⟨s', rfl, rfl⟩ := hv.str_inv
    have hsz : s'.size = s'.data.toList.length := by rw [Array.length_toList]; rfl
    have hl : (srcRows h (.str s'.data.toList)).length = s'.size := by rw [srcRows, List.length_map, ← hsz]
    rw [hl]
    refine ⟨rfl, fun w' _ => ⟨s'.data.toList.map fun c => .int .u8 (c.toNat : Int), ?_, by rw [hl, List.length_map, ← hsz]; omega, fun i j hi hj => ?_⟩⟩
    · have hx : (s'.extract 0 s'.size).data = s'.data := by
        have := Lib.extract_data s' 0 s'.size
        simp only [List.drop_zero, Nat.sub_zero] at this
        rw [hsz, List.take_length] at this
        rw [hsz]
        exact Array.toList_inj.1 this
      simp only [Builtin.firstCells, hx, Sem.run_pure]
      congr 1
      apply Array.ext'
      simp
    · rw [hl] at hi
      obtain rfl : j = 0 := by omega
      have hi' : i < s'.data.toList.length := by omega
      have e1 : (s'.data.toList.map fun c => Value.int .u8 (c.toNat : Int)).getD (i * 1 + 0) Go.undef = .int .u8 ((s'.data.toList[i]).toNat : Int) := by
        simp only [Nat.mul_one, Nat.add_zero, List.getD_eq_getElem?_getD, List.getElem?_map, List.getElem?_eq_getElem hi']
        rfl
      have e2 : PV.row (srcRows h (.str s'.data.toList)) i = [.int .u8 ((s'.data.toList[i]).toNat : Int)] := by
        simp only [PV.row, srcRows, List.getD_eq_getElem?_getD, List.getElem?_map, List.getElem?_eq_getElem hi']
        rfl
      rw [e1, e2]
      exact ⟨rfl, .int _ _⟩
  case sl z' es =>
    obtain ⟨_, rfl⟩ := hok
    rcases sl_seen r hv with ⟨rfl, ao, cap, rfl⟩ | ⟨b, o, cap, rfl, hc, hrows⟩
    · exact empty ao cap
    · exact ⟨rfl, fun w' hw => hrows.load w' hw⟩
  case own id off len =>
    obtain ⟨_, hok⟩ := hok
    split at hok
    case h_2 => exact hok.elim
    rename_i fz z' es hg
    obtain ⟨rfl, hle⟩ := hok
    have hlen : ((es.drop off).take len).length = len := by simp; omega
    simp only [srcRows, hg]
    rcases own_seen r hv hg hle with ⟨rfl, ao, rfl⟩ | ⟨cap, b, o, n, c, ty, rfl, hb, hc, hn, hlt, h1, h2, hrows⟩
    · simp only [List.take_zero, List.length_nil]; exact empty ao 0
    · rw [hlen]
      refine ⟨rfl, fun w' hw => ?_⟩
      have := hrows.load (P := P) w' hw
      rw [hlen] at this
      exact this

theorem rowsIn_append {cs ds : List Value} {z : Nat} {r1 r2 : List (List PV)} (a : RowsIn g cs z r1) (b : RowsIn g ds z r2) : RowsIn g (cs ++ ds) z (r1 ++ r2) := by
  refine ⟨by simp [a.1, b.1, Nat.add_mul], fun i j hi hj => ?_⟩
  simp only [List.length_append] at hi
  by_cases h1 : i < r1.length
  · have hk := rows_bound h1 hj
    have e1 : (cs ++ ds).getD (i * z + j) Go.undef = cs.getD (i * z + j) Go.undef := by
      simp [List.getD_eq_getElem?_getD, List.getElem?_append_left (show i * z + j < cs.length by rw [a.1]; exact hk)]
    have e2 : PV.row (r1 ++ r2) i = PV.row r1 i := by simp [PV.row, List.getD_eq_getElem?_getD, List.getElem?_append_left h1]
    rw [e1, e2]; exact a.2 i j h1 hj
  · have h2 : i - r1.length < r2.length := by omega
    have hge : r1.length * z ≤ i * z := Nat.mul_le_mul_right _ (by omega)
    have e1 : (cs ++ ds).getD (i * z + j) Go.undef = ds.getD ((i - r1.length) * z + j) Go.undef := by
      simp only [List.getD_eq_getElem?_getD]
      rw [List.getElem?_append_right (by rw [a.1]; omega), a.1]
      congr 2
      rw [Nat.sub_mul]; omega
    have e2 : PV.row (r1 ++ r2) i = PV.row r2 (i - r1.length) := by
      simp only [PV.row, List.getD_eq_getElem?_getD]
      rw [List.getElem?_append_right (by omega)]
    rw [e1, e2]; exact b.2 _ j h2 hj
end
end Go.VM

