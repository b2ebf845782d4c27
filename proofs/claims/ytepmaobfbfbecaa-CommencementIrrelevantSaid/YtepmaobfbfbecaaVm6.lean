/-
  The value machine, 6: append.
  The value machine, 7: append is sound.
-/
import Derived.Test.YtepmaobfbfbecaaVm4
set_option linter.all false
namespace Go.VM
open Go

def srcRows (h : Heap) : PV → List (List PV)
  | .sl _ es => es
  | .own id off len => (match h.get id with
    | some (.arr _ _ es) => (es.drop off).take len
    | _ => [])
  | .str s => s.map fun c => [.int .u8 (c.toNat : Int)]
  | _ => []
def srcOk (h : Heap) (str : Bool) (z : Nat) : PV → Prop
  | .sl z' _ => str = false ∧ z' = z
  | .own id off len => str = false ∧ (match h.get id with
    | some (.arr _ z' es) => z' = z ∧ off + len ≤ es.length
    | _ => False)
  | .nilsl => str = false
  | .str _ => str = true ∧ z = 1
  | _ => False
def oldRows (h : Heap) : PV → List (List PV)
  | .own id off len => (match h.get id with
    | some (.arr _ _ es) => (es.drop off).take len
    | _ => [])
  | _ => []
def oldOk (h : Heap) (z : Nat) : PV → Prop
  | .nilsl => True
  | .own id off len => (match h.get id with
    | some (.arr fz z' es) => fz = false ∧ z' = z ∧ off + len ≤ es.length
    | _ => False)
  | _ => False
def oldId : PV → Option Nat
  | .own id _ _ => some id
  | _ => none

/-- Rows of cells in memory. -/
def RowsAt (g : Gh) (w : World) (b o z : Nat) (rows : List (List PV)) : Prop :=
  ∀ i j, i < rows.length → j < z → ∃ v, w.cell? ⟨b, o + i * z + j, none⟩ = some v ∧ v.oneCell' = true ∧ Rep g v (PV.nth (PV.row rows i) j)
/-- Rows of cells in a list. -/
def RowsIn (g : Gh) (cs : List Value) (z : Nat) (rows : List (List PV)) : Prop :=
  cs.length = rows.length * z ∧ ∀ i j, i < rows.length → j < z → (cs.getD (i * z + j) Go.undef).oneCell' = true ∧ Rep g (cs.getD (i * z + j) Go.undef) (PV.nth (PV.row rows i) j)

theorem rows_bound {n z i j : Nat} (hi : i < n) (hj : j < z) : i * z + j < n * z := by
  have h1 : (i + 1) * z ≤ n * z := Nat.mul_le_mul_right _ hi
  rw [Nat.succ_mul] at h1
  omega
theorem rows_split {n z k : Nat} (hk : k < n * z) : k / z < n ∧ k % z < z ∧ k / z * z + k % z = k := by
  have hz : 0 < z := by
    rcases Nat.eq_zero_or_pos z with rfl | h
    · simp at hk
    · exact h
  exact ⟨(Nat.div_lt_iff_lt_mul hz).2 hk, Nat.mod_lt _ hz, by rw [Nat.mul_comm]; exact Nat.div_add_mod k z⟩

theorem RowsAt.load {P : Program} {g : Gh} {w : World} {b o z : Nat} {rows : List (List PV)} (h : RowsAt g w b o z rows) (w' : World) (hw : w'.heap = w.heap) :
    ∃ cs : List Value, (loadCells ⟨b, o, none⟩ (rows.length * z)).run P w' = .ok cs.toArray w' ∧ RowsIn g cs z rows := by
  have hadd : ∀ j, (⟨b, o, none⟩ : Addr).add j = ⟨b, o + j, none⟩ := fun j => by by_cases h : j = 0 <;> simp [Addr.add, h]
  have hc : ∀ a, w'.cell? a = w.cell? a := fun a => by simp [World.cell?, hw]
  let f : Nat → Value := fun k => (w.cell? ⟨b, o + k, none⟩).getD Go.undef
  have hf : ∀ k, k < rows.length * z → w'.cell? ((⟨b, o, none⟩ : Addr).add k) = some (f k) := by
    intro k hk
    obtain ⟨h1, h2, h3⟩ := rows_split hk
    obtain ⟨v, hv, _, _⟩ := h _ _ h1 h2
    rw [Nat.add_assoc, h3] at hv
    rw [hadd, hc, hv]
    simp [f, hv]
  refine ⟨(List.range (rows.length * z)).map f, run_loadCells w' _ _ f hf, by simp, fun i j hi hj => ?_⟩
  have hk := rows_bound hi hj
  obtain ⟨v, hv, h1, h2⟩ := h i j hi hj
  have e1 : ((List.range (rows.length * z)).map f).getD (i * z + j) Go.undef = v := by
    simp only [List.getD_eq_getElem?_getD, List.getElem?_map, List.getElem?_range hk, Option.map_some, Option.getD_some, f]
    rw [← Nat.add_assoc, hv]; rfl
  rw [e1]; exact ⟨h1, h2⟩

section
variable {P : Program} {g : Gh} {w : World} {h : Heap}

/-- A slice of the abstract heap, seen in memory. -/
theorem own_seen (r : Rel g w h) {id off len : Nat} {fz : Bool} {z : Nat} {es : List (List PV)} {v : Value} (hv : Rep g v (.own id off len)) (hg : h.get id = some (.arr fz z es)) (hle : off + len ≤ es.length) :
    (len = 0 ∧ ∃ ao, v = .slice ao 0 0) ∨
    ∃ cap b o n c ty, v = .slice (some ⟨b, o + off * z, none⟩) len cap ∧ g.β id = some (b, o, n, z) ∧ len ≤ cap ∧ o + off * z + cap * z ≤ n ∧ b < w.heap.size ∧ w.heap[b]? = some (.cells c ty (0, 0)) ∧ c.size = n ∧
      RowsAt g w b (o + off * z) z ((es.drop off).take len) := by
  cases hv with
  | ownE ao => exact .inl ⟨rfl, ao, rfl⟩
  | own _ _ _ cap b o n z' a hb ha hc hn =>
    subst ha
    rcases r.blk id _ hg with ⟨hb0, _⟩ | ⟨b', o', n', z'', hb', hlt, _, hok⟩
    · rw [hb] at hb0; cases hb0
    · rw [hb] at hb'
      simp only [Option.some.injEq, Prod.mk.injEq] at hb'
      obtain ⟨rfl, rfl, rfl, rfl⟩ := hb'
      obtain ⟨rfl, hz, hle', c, ty, h1, h2, h3⟩ := hok
      refine .inr ⟨cap, b, o, n, c, ty, rfl, hb, hc, hn, hlt, h1, h2, ?_⟩
      intro i j hi hj
      have hi' : i < len := by simp at hi; omega
      obtain ⟨e1, e2, _⟩ := h3 (off + i) j (by omega) hj
      have hin : o + (off + i) * z + j < c.size := by
        have := rows_bound (n := es.length) (z := z) (show off + i < es.length by omega) hj
        omega
      refine ⟨c.getD (o + (off + i) * z + j) Go.undef, ?_, e1, ?_⟩
      · have : o + off * z + i * z + j = o + (off + i) * z + j := by rw [Nat.add_mul]; omega
        rw [this]
        simp [World.cell?, h1, hin, Array.getD]
      · rw [row_take _ _ _ hi', row_drop]; exact e2

theorem sl_seen (r : Rel g w h) {z : Nat} {es : List (List PV)} {v : Value} (hv : Rep g v (.sl z es)) :
    (es = [] ∧ ∃ ao cap, v = .slice ao 0 cap) ∨ ∃ b o cap, v = .slice (some ⟨b, o, none⟩) es.length cap ∧ es.length ≤ cap ∧ RowsAt g w b o z es := by
  cases hv with
  | slE ao cap => exact .inl ⟨rfl, ao, cap, rfl⟩
  | sl b o len cap z a es vs ha hl hc hz hm hr =>
    subst ha hl
    refine .inr ⟨b, o, cap, rfl, hc, fun i j hi hj => ⟨vs i j, ?_, ?_, hr i j hi hj⟩⟩
    · exact (r.mem _ _ _ (hm i j hi hj)).1
    · exact (r.mem _ _ _ (hm i j hi hj)).2

theorem src_run (r : Rel g w h) {str : Bool} {z : Nat} {p : PV} {v : Value} (hv : Rep g v p) (hok : srcOk h str z p) :
    (Builtin.lenOf v).run P w = .ok (srcRows h p).length w ∧ ∀ w' : World, w'.heap = w.heap → ∃ cs : List Value, (Builtin.firstCells z (srcRows h p).length v).run P w' = .ok cs.toArray w' ∧ RowsIn g cs z (srcRows h p) := by
  have empty : ∀ ao c, (Builtin.lenOf (.slice ao 0 c)).run P w = .ok 0 w ∧ ∀ w' : World, w'.heap = w.heap → ∃ cs : List Value, (Builtin.firstCells z 0 (.slice ao 0 c)).run P w' = .ok cs.toArray w' ∧ RowsIn g cs z [] := by
    intro ao c
    refine ⟨rfl, fun w' _ => ⟨[], ?_, by simp, fun i j hi => by simp at hi⟩⟩
    cases ao with
    | none => rfl
    | some a => simp [Builtin.firstCells, loadCells, loadCellsFrom]
  cases p <;> simp only [srcOk] at hok
  case nilsl => cases hv; exact empty none 0
  case str s =>
    obtain ⟨_, rfl⟩ := hok
    obtain ⟨s', rfl, rfl⟩ := hv.str_inv
    have hsz : s'.size = s'.data.toList.length := by rw [Array.length_toList]; rfl
    have hl : (srcRows h (.str s'.data.toList)).length = s'.size := by rw [srcRows, List.length_map, ← hsz]
    rw [hl]
    refine ⟨rfl, fun w' _ => ⟨s'.data.toList.map fun c => .int .u8 (c.toNat : Int), ?_, by rw [hl, List.length_map, ← hsz]; omega, fun i j hi hj => ?_⟩⟩
    · have hx : (s'.extract 0 s'.size).data = s'.data := by
        have := Lib.extract_data s' 0 s'.size
        simp only [List.drop_zero, Nat.sub_zero] at this
        rw [hsz, List.take_length] at this
        rw [hsz]
        exact Array.toList_inj.1 this
      simp only [Builtin.firstCells, hx, Sem.run_pure]
      congr 1
      apply Array.ext'
      simp
    · rw [hl] at hi
      obtain rfl : j = 0 := by omega
      have hi' : i < s'.data.toList.length := by omega
      have e1 : (s'.data.toList.map fun c => Value.int .u8 (c.toNat : Int)).getD (i * 1 + 0) Go.undef = .int .u8 ((s'.data.toList[i]).toNat : Int) := by
        simp only [Nat.mul_one, Nat.add_zero, List.getD_eq_getElem?_getD, List.getElem?_map, List.getElem?_eq_getElem hi']
        rfl
      have e2 : PV.row (srcRows h (.str s'.data.toList)) i = [.int .u8 ((s'.data.toList[i]).toNat : Int)] := by
        simp only [PV.row, srcRows, List.getD_eq_getElem?_getD, List.getElem?_map, List.getElem?_eq_getElem hi']
        rfl
      rw [e1, e2]
      exact ⟨rfl, .int _ _⟩
  case sl z' es =>
    obtain ⟨_, rfl⟩ := hok
    rcases sl_seen r hv with ⟨rfl, ao, cap, rfl⟩ | ⟨b, o, cap, rfl, hc, hrows⟩
    · exact empty ao cap
    · exact ⟨rfl, fun w' hw => hrows.load w' hw⟩
  case own id off len =>
    obtain ⟨_, hok⟩ := hok
    split at hok
    case h_2 => exact hok.elim
    rename_i fz z' es hg
    obtain ⟨rfl, hle⟩ := hok
    have hlen : ((es.drop off).take len).length = len := by simp; omega
    simp only [srcRows, hg]
    rcases own_seen r hv hg hle with ⟨rfl, ao, rfl⟩ | ⟨cap, b, o, n, c, ty, rfl, hb, hc, hn, hlt, h1, h2, hrows⟩
    · simp only [List.take_zero, List.length_nil]; exact empty ao 0
    · rw [hlen]
      refine ⟨rfl, fun w' hw => ?_⟩
      have := hrows.load (P := P) w' hw
      rw [hlen] at this
      exact this

theorem rowsIn_append {cs ds : List Value} {z : Nat} {r1 r2 : List (List PV)} (a : RowsIn g cs z r1) (b : RowsIn g ds z r2) : RowsIn g (cs ++ ds) z (r1 ++ r2) := by
  refine ⟨by simp [a.1, b.1, Nat.add_mul], fun i j hi hj => ?_⟩
  simp only [List.length_append] at hi
  by_cases h1 : i < r1.length
  · have hk := rows_bound h1 hj
    have e1 : (cs ++ ds).getD (i * z + j) Go.undef = cs.getD (i * z + j) Go.undef := by
      simp [List.getD_eq_getElem?_getD, List.getElem?_append_left (show i * z + j < cs.length by rw [a.1]; exact hk)]
    have e2 : PV.row (r1 ++ r2) i = PV.row r1 i := by simp [PV.row, List.getD_eq_getElem?_getD, List.getElem?_append_left h1]
    rw [e1, e2]; exact a.2 i j h1 hj
  · have h2 : i - r1.length < r2.length := by omega
    have hge : r1.length * z ≤ i * z := Nat.mul_le_mul_right _ (by omega)
    have e1 : (cs ++ ds).getD (i * z + j) Go.undef = ds.getD ((i - r1.length) * z + j) Go.undef := by
      simp only [List.getD_eq_getElem?_getD]
      rw [List.getElem?_append_right (by rw [a.1]; omega), a.1]
      congr 2
      rw [Nat.sub_mul]; omega
    have e2 : PV.row (r1 ++ r2) i = PV.row r2 (i - r1.length) := by
      simp only [PV.row, List.getD_eq_getElem?_getD]
      rw [List.getElem?_append_right (by omega)]
    rw [e1, e2]; exact b.2 _ j h2 hj
end
end Go.VM


namespace Go.VM
open Go

section
variable {P : Program} {g : Gh} {w : World} {h : Heap}

theorem addAddr (b o k : Nat) : (⟨b, o, none⟩ : Addr).add k = ⟨b, o + k, none⟩ := by by_cases h : k = 0 <;> simp [Addr.add, h]

theorem da_old (w : World) (O : Obj) {k : Nat} (hk : k < w.heap.size) : (w.drew.alloc O).heap[k]? = w.heap[k]? := RowKit.Below.heap_alloc w.drew O k hk
theorem da_new (w : World) (O : Obj) : (w.drew.alloc O).heap[w.heap.size]? = some O := by
  show (w.heap.push O)[w.heap.size]? = _
  simp
theorem da_size (w : World) (O : Obj) : (w.drew.alloc O).heap.size = w.heap.size + 1 := by
  show (w.heap.push O).size = _
  simp
/-- append where the capacity suffices, and the slice is at an address. -/
theorem run_app_room {t u ty e : TypeId} {i : TypeInfo} {d : TypeDesc} (ht : P.underlying t = some (.slice e)) (hu : P.underlying u = some d) (hd : ∀ k, d ≠ .int k) (hi : P.info? e = some i)
    {b o L C n : Nat} {x : Value} {news : List Value} (hx : (Builtin.lenOf x).run P w = .ok n w) (hn : (Builtin.firstCells i.size n x).run P w = .ok news.toArray w) (hroom : L + n ≤ C) (hl : news.length = n * i.size)
    {c : Array Value} {tt : TypeId} (hc : w.heap[b]? = some (.cells c tt (0, 0))) (hfit : o + L * i.size + news.length ≤ c.size) (h1 : ∀ v ∈ news, v.oneCell' = true) :
    (Builtin.append_ #[t, u] ty #[.slice (some ⟨b, o, none⟩) L C, x]).run P w =
      .ok (.slice (some ⟨b, o, none⟩) (L + n) C) (w.setRow b (c.toList.take (o + L * i.size) ++ news ++ c.toList.drop (o + L * i.size + news.length)).toArray) := by
  have hst := run_storeCells_at P b (o + L * i.size) tt news 0 c w hc (by simpa using hfit) h1
  simp only [Nat.add_zero] at hst
  have hz : (match d with | .int _ => true | _ => false) = false := by cases d <;> first | rfl | exact absurd rfl (hd _)
  simp [Builtin.append_, run_underlying ht, run_underlying hu, sizeOf, typeInfo, hi, hx, hroom, hn, addAddr, hst, hz]
theorem run_app_stay {t u ty e : TypeId} {i : TypeInfo} {d : TypeDesc} (ht : P.underlying t = some (.slice e)) (hu : P.underlying u = some d) (hd : ∀ k, d ≠ .int k) (hi : P.info? e = some i)
    {ao : Option Addr} {x : Value} (hx : (Builtin.lenOf x).run P w = .ok 0 w) {cs : List Value} (hn : (Builtin.firstCells i.size 0 x).run P w = .ok cs.toArray w) (hcs : cs = []) :
    (Builtin.append_ #[t, u] ty #[.slice ao 0 0, x]).run P w = .ok (.slice ao 0 0) w := by
  subst hcs
  have hz : (match d with | .int _ => true | _ => false) = false := by cases d <;> first | rfl | exact absurd rfl (hd _)
  cases ao <;> simp [Builtin.append_, run_underlying ht, run_underlying hu, sizeOf, typeInfo, hi, hx, hn, hz, storeCells]
theorem run_app_grow {t u ty e : TypeId} {i : TypeInfo} {d : TypeDesc} {zv : Value} (ht : P.underlying t = some (.slice e)) (hu : P.underlying u = some d) (hd : ∀ k, d ≠ .int k) (hi : P.info? e = some i) (hz : i.zero = some zv)
    {ao : Option Addr} {L C n : Nat} {x : Value} {olds news : List Value} (hx : (Builtin.lenOf x).run P w = .ok n w) (hn : (Builtin.firstCells i.size n x).run P w.drew = .ok news.toArray w.drew)
    (ho : (Builtin.firstCells i.size L (.slice ao L C)).run P w.drew = .ok olds.toArray w.drew) (hg : C < L + n) (h63 : L + n ≤ 4611686018427387904) (hfit : (L + n) * i.bytes ≤ 140737488355328) :
    ∃ cap, L + n ≤ cap ∧ (Builtin.append_ #[t, u] ty #[.slice ao L C, x]).run P w =
      .ok (.slice (some ⟨w.heap.size, 0, none⟩) (L + n) cap) (w.drew.alloc (.cells (olds ++ news ++ (Builtin.zeroCells zv.cells (cap - (L + n))).toList).toArray e)) := by
  have hzz : (match d with | .int _ => true | _ => false) = false := by cases d <;> first | rfl | exact absurd rfl (hd _)
  have hnl : ¬ (L + n ≤ C) := by omega
  have h63' : ¬ (9223372036854775807 < ((L : Int) + (n : Int))) := by omega
  have h48 := growslice_fits (need := L + n) (old := C) (bytes := i.bytes) hg hfit
  have h48' : ¬ (281474976710656 < Builtin.nextslicecap (L + n) C * i.bytes) := by omega
  refine ⟨grownCap w (L + n) C e, ?_, ?_⟩
  · unfold grownCap Question.cut; simp only; omega
  · simp [Builtin.append_, run_underlying ht, run_underlying hu, sizeOf, typeInfo, zeroValue, hi, hz, hx, hnl, h63', h48', Question.forced, hn, ho, newRow, grownCap, hzz]
    congr 2
    apply Array.ext'
    simp

theorem rows_one {cs : List Value} {z : Nat} {rows : List (List PV)} (a : RowsIn g cs z rows) : ∀ v ∈ cs, v.oneCell' = true := by
  intro v hv
  obtain ⟨k, hk, rfl⟩ := List.mem_iff_getElem.1 hv
  rw [a.1] at hk
  obtain ⟨h1, h2, h3⟩ := rows_split hk
  have := (a.2 _ _ h1 h2).1
  rw [h3] at this
  simpa [List.getD_eq_getElem?_getD, List.getElem?_eq_getElem (show k < cs.length by rw [a.1]; exact hk)] using this

theorem app_sound {t u ty e : TypeId} {i : TypeInfo} {d : TypeDesc} {zr : List PV} {str : Bool} (ht : P.underlying t = some (.slice e)) (hu : P.underlying u = some d) (hd : ∀ k, d ≠ .int k) (hi : P.info? e = some i) (hzo : zeroOf P e = some zr) (hzl : zr.length = i.size)
    (r : Rel g w h) {p q : PV} {vp vq : Value} (hp : Rep g vp p) (hq : Rep g vq q) (hop : oldOk h i.size p) (hoq : srcOk h str i.size q)
    (hrows : ∀ x ∈ srcRows h q, x.length = i.size) (h63 : (oldRows h p).length + (srcRows h q).length ≤ 4611686018427387904) (hfit : ((oldRows h p).length + (srcRows h q).length) * i.bytes ≤ 140737488355328) :
    ∃ v w' g', (Builtin.append_ #[t, u] ty #[vp, vq]).run P w = .ok v w' ∧ Rep g' v (.own h.top 0 ((oldRows h p).length + (srcRows h q).length)) ∧
      Rel g' w' ((killed h (oldId p)).push (.arr false i.size (oldRows h p ++ srcRows h q))) ∧ Evo g w h g' w' ((killed h (oldId p)).push (.arr false i.size (oldRows h p ++ srcRows h q))) := by
  obtain ⟨hx, hnews⟩ := src_run (P := P) r hq hoq
  obtain ⟨j, zv, hj, hzv, hcs⟩ := zero_spec hzo
  rw [hi] at hj; simp only [Option.some.injEq] at hj; subst hj
  obtain ⟨zs, _⟩ := zero_cells (g := g) hcs
  have hrowl : ∀ k, k < (srcRows h q).length → (PV.row (srcRows h q) k).length = i.size := fun k hk => by
    apply hrows
    simp [PV.row, List.getD_eq_getElem?_getD, List.getElem?_eq_getElem hk]
  generalize srcRows h q = src at *
  -- the case of an empty slice that is nowhere
  have nowhere : ∀ (ao : Option Addr) (olds : List (List PV)) (kill : Option Nat), olds = [] → vp = .slice ao 0 0 →
      ∃ v w' g', (Builtin.append_ #[t, u] ty #[vp, vq]).run P w = .ok v w' ∧ Rep g' v (.own h.top 0 (olds.length + src.length)) ∧
      Rel g' w' ((killed h kill).push (.arr false i.size (olds ++ src))) ∧ Evo g w h g' w' ((killed h kill).push (.arr false i.size (olds ++ src))) := by
    intro ao olds kill ho hvp
    subst ho hvp
    by_cases h0 : src.length = 0
    · obtain rfl : src = [] := by simpa using h0
      obtain ⟨cs, hcs1, hcs2⟩ := hnews w rfl
      have hcs0 : cs = [] := by have := hcs2.1; simpa using this
      obtain ⟨f2, f3⟩ := r.none kill i.size w rfl rfl rfl rfl
      exact ⟨_, w, g, run_app_stay ht hu hd hi hx hcs1 hcs0, .ownE _ _ _, f2, f3⟩
    · obtain ⟨cs, hcs1, hcs2⟩ := hnews w.drew rfl
      have hold : (Builtin.firstCells i.size 0 (.slice ao 0 0)).run P w.drew = .ok ([] : List Value).toArray w.drew := by
        cases ao with
        | none => rfl
        | some a => simp [Builtin.firstCells, loadCells, loadCellsFrom]
      obtain ⟨cap, hcap, hrun⟩ := run_app_grow (ty := ty) ht hu hd hi hzv hx hcs1 hold (by omega) (by omega) (by rw [Nat.zero_add]; exact Nat.le_trans (Nat.mul_le_mul_right _ (by omega)) hfit)
      simp only [Nat.zero_add, List.nil_append] at hrun hcap
      have hsize : (cs ++ (Builtin.zeroCells zv.cells (cap - src.length)).toList).toArray.size = cap * i.size := by
        simp only [List.size_toArray, List.length_append, Array.length_toList, size_zeroCells, hcs2.1, zs, hzl]
        rw [← Nat.add_mul]; congr 1; omega
      obtain ⟨g', f2, _, f3, f4, f5⟩ := r.put kill w.heap.size 0 (cap * i.size) i.size (.arr false i.size src) (w.drew.alloc (.cells (cs ++ (Builtin.zeroCells zv.cells (cap - src.length)).toList).toArray e))
        (.inl (Nat.le_refl _)) (fun k hk _ => da_old _ _ hk) (by rw [da_size]; omega) (by rw [da_size]; omega) rfl rfl rfl rfl (fun g' hg' => by
          refine ⟨rfl, hrowl, by simp; exact Nat.mul_le_mul_right _ hcap, _, e, da_new _ _, hsize, fun a b ha hb => ?_⟩
          have hk := rows_bound ha hb
          obtain ⟨c1, c2⟩ := hcs2.2 a b ha hb
          have e1 : (cs ++ (Builtin.zeroCells zv.cells (cap - src.length)).toList).toArray.getD (0 + a * i.size + b) Go.undef = cs.getD (a * i.size + b) Go.undef := by
            have : a * i.size + b < cs.length := by rw [hcs2.1]; exact hk
            simp [Array.getD_eq_getD_getElem?, List.getD_eq_getElem?_getD, List.getElem?_append_left this]
          rw [e1]
          exact ⟨c1, c2.mono hg', fun hh => by cases hh⟩)
      refine ⟨_, _, g', hrun, ?_, f4, f5⟩
      rw [show ([] : List (List PV)).length + src.length = src.length by simp]
      exact .own h.top 0 src.length cap w.heap.size 0 (cap * i.size) i.size ⟨w.heap.size, 0, none⟩ f3 (by simp) hcap (by simp)
  cases p <;> simp only [oldOk] at hop
  case nilsl => cases hp; exact nowhere none [] none rfl rfl
  case own ia off len =>
    split at hop
    case h_2 => exact hop.elim
    rename_i fz z' es hgx
    obtain ⟨rfl, rfl, hle⟩ := hop
    have hlen : ((es.drop off).take len).length = len := by simp; omega
    have hor : oldRows h (.own ia off len) = (es.drop off).take len := by simp [oldRows, hgx]
    rw [hor] at h63 hfit ⊢
    rcases own_seen r hp hgx hle with ⟨rfl, ao, rfl⟩ | ⟨cap, b, o, n, c, tt, rfl, hb, hc, hn, hlt, h1, h2, hra⟩
    · exact nowhere ao _ _ (by simp) rfl
    · simp only [oldId]
      have hrl : ∀ k, k < len → (PV.row ((es.drop off).take len) k).length = i.size := by
        intro k hk
        rcases r.blk ia _ hgx with ⟨hb0, _⟩ | ⟨b', o', n', z'', hb', _, _, hok⟩
        · rw [hb] at hb0; cases hb0
        · rw [hb] at hb'
          simp only [Option.some.injEq, Prod.mk.injEq] at hb'
          obtain ⟨rfl, rfl, rfl, rfl⟩ := hb'
          rw [row_take _ _ _ hk, row_drop]; exact hok.2.1 _ (by omega)
      have hrl2 : ∀ k, k < ((es.drop off).take len ++ src).length → (PV.row ((es.drop off).take len ++ src) k).length = i.size := by
        intro k hk
        by_cases hkl : k < len
        · have : PV.row ((es.drop off).take len ++ src) k = PV.row ((es.drop off).take len) k := by simp [PV.row, List.getD_eq_getElem?_getD, List.getElem?_append_left (show k < ((es.drop off).take len).length by omega)]
          rw [this]; exact hrl k hkl
        · have : PV.row ((es.drop off).take len ++ src) k = PV.row src (k - len) := by
            simp only [PV.row, List.getD_eq_getElem?_getD]
            rw [List.getElem?_append_right (by omega), hlen]
          rw [this]; exact hrowl _ (by simp only [List.length_append, hlen] at hk; omega)
      rw [hlen] at h63 hfit ⊢
      by_cases hroom : len + src.length ≤ cap
      · obtain ⟨cs, hcs1, hcs2⟩ := hnews w rfl
        have hfit2 : o + off * i.size + len * i.size + cs.length ≤ c.size := by
          have : (len + src.length) * i.size ≤ cap * i.size := Nat.mul_le_mul_right _ hroom
          rw [Nat.add_mul] at this
          rw [hcs2.1]; omega
        have hrun := run_app_room (ty := ty) ht hu hd hi hx hcs1 hroom hcs2.1 h1 hfit2 (rows_one hcs2)
        have hheap : (w.setRow b (c.toList.take (o + off * i.size + len * i.size) ++ cs ++ c.toList.drop (o + off * i.size + len * i.size + cs.length)).toArray).heap[b]? = some (.cells (c.toList.take (o + off * i.size + len * i.size) ++ cs ++ c.toList.drop (o + off * i.size + len * i.size + cs.length)).toArray tt (0, 0)) := setRow_heap w b c _ tt (0, 0) h1
        have hsame : ∀ k, k ≠ b → (w.setRow b (c.toList.take (o + off * i.size + len * i.size) ++ cs ++ c.toList.drop (o + off * i.size + len * i.size + cs.length)).toArray).heap[k]? = w.heap[k]? := by
          intro k hk
          simp only [World.setRow, Array.getElem?_modify]
          rw [if_neg (Ne.symm hk)]
        have hsz : (w.setRow b (c.toList.take (o + off * i.size + len * i.size) ++ cs ++ c.toList.drop (o + off * i.size + len * i.size + cs.length)).toArray).heap.size = w.heap.size := by simp [World.setRow]
        generalize hW : w.setRow b (c.toList.take (o + off * i.size + len * i.size) ++ cs ++ c.toList.drop (o + off * i.size + len * i.size + cs.length)).toArray = W at *
        have hWos : W.os = w.os ∧ W.tape = w.tape ∧ W.output = w.output := by rw [← hW]; exact ⟨rfl, rfl, rfl⟩
        obtain ⟨g', f2, _, f3, f4, f5⟩ := r.put (some ia) b (o + off * i.size) n i.size (.arr false i.size ((es.drop off).take len ++ src)) W
          (.inr ⟨ia, _, _, rfl, hgx, rfl, hb, rfl⟩) (fun k _ hk => hsame k hk) (by omega) (by omega) hWos.1 hWos.2.1 hWos.2.2 rfl (fun g' hg' => by
            refine ⟨rfl, hrl2, ?_, _, tt, hheap, ?_, fun x y hx' hy => ?_⟩
            · simp only [List.length_append, hlen]
              have : (len + src.length) * i.size ≤ cap * i.size := Nat.mul_le_mul_right _ hroom
              omega
            · simp; omega
            · simp only [List.length_append, hlen] at hx'
              by_cases hxl : x < len
              · obtain ⟨v, e1, e2, e3⟩ := hra x y (by omega) hy
                have hk := rows_bound (n := len) hxl hy
                have e4 : (c.toList.take (o + off * i.size + len * i.size) ++ cs ++ c.toList.drop (o + off * i.size + len * i.size + cs.length)).toArray.getD (o + off * i.size + x * i.size + y) Go.undef = v := by
                  have hin : o + off * i.size + x * i.size + y < (c.toList.take (o + off * i.size + len * i.size)).length := by simp; omega
                  have hin2 : o + off * i.size + x * i.size + y < c.size := by omega
                  simp only [World.cell?, h1, Option.isSome_none, Bool.false_eq_true, if_false] at e1
                  rw [Array.getD_eq_getD_getElem?, List.getElem?_toArray, List.append_assoc, List.getElem?_append_left hin, List.getElem?_take, if_pos (by omega), Array.getElem?_toList, e1]
                  rfl
                have e5 : PV.row ((es.drop off).take len ++ src) x = PV.row ((es.drop off).take len) x := by simp [PV.row, List.getD_eq_getElem?_getD, List.getElem?_append_left (show x < ((es.drop off).take len).length by omega)]
                rw [e4, e5]
                exact ⟨e2, e3.mono hg', fun hh => by cases hh⟩
              · obtain ⟨e2, e3⟩ := hcs2.2 (x - len) y (by omega) hy
                have hk := rows_bound (n := src.length) (show x - len < src.length by omega) hy
                have hxz : x * i.size = len * i.size + (x - len) * i.size := by rw [← Nat.add_mul]; congr 1; omega
                have e4 : (c.toList.take (o + off * i.size + len * i.size) ++ cs ++ c.toList.drop (o + off * i.size + len * i.size + cs.length)).toArray.getD (o + off * i.size + x * i.size + y) Go.undef = cs.getD ((x - len) * i.size + y) Go.undef := by
                  have hl1 : (c.toList.take (o + off * i.size + len * i.size)).length = o + off * i.size + len * i.size := by simp; omega
                  rw [Array.getD_eq_getD_getElem?, List.getElem?_toArray, List.append_assoc, List.getElem?_append_right (by rw [hl1]; omega), hl1, List.getElem?_append_left (by rw [hcs2.1]; omega), List.getD_eq_getElem?_getD]
                  congr 2; omega
                have e5 : PV.row ((es.drop off).take len ++ src) x = PV.row src (x - len) := by
                  simp only [PV.row, List.getD_eq_getElem?_getD]
                  rw [List.getElem?_append_right (by omega), hlen]
                rw [e4, e5]
                exact ⟨e2, e3.mono hg', fun hh => by cases hh⟩)
        refine ⟨_, W, g', hrun, ?_, f4, f5⟩
        refine .own h.top 0 _ cap b (o + off * i.size) n i.size _ f3 (by simp) hroom (by simp; omega)
      · obtain ⟨cs, hcs1, hcs2⟩ := hnews w.drew rfl
        obtain ⟨os, hos1, hos2⟩ := hra.load (P := P) w.drew rfl
        rw [hlen] at hos1
        obtain ⟨cap', hcap, hrun⟩ := run_app_grow (ty := ty) (ao := some ⟨b, o + off * i.size, none⟩) (L := len) (C := cap) ht hu hd hi hzv hx hcs1 hos1 (by omega) h63 hfit
        have hboth := rowsIn_append hos2 hcs2
        have hsize : (os ++ cs ++ (Builtin.zeroCells zv.cells (cap' - (len + src.length))).toList).toArray.size = cap' * i.size := by
          simp only [List.size_toArray, List.length_append, Array.length_toList, size_zeroCells, hcs2.1, hos2.1, zs, hzl, hlen]
          rw [← Nat.add_mul, ← Nat.add_mul]; congr 1; omega
        obtain ⟨g', f2, _, f3, f4, f5⟩ := r.put (some ia) w.heap.size 0 (cap' * i.size) i.size (.arr false i.size ((es.drop off).take len ++ src)) (w.drew.alloc (.cells (os ++ cs ++ (Builtin.zeroCells zv.cells (cap' - (len + src.length))).toList).toArray e))
          (.inl (Nat.le_refl _)) (fun k hk _ => da_old _ _ hk) (by rw [da_size]; omega) (by rw [da_size]; omega) rfl rfl rfl rfl (fun g' hg' => by
            refine ⟨rfl, hrl2, by simp only [List.length_append, hlen, Nat.zero_add]; exact Nat.mul_le_mul_right _ hcap, _, e, da_new _ _, hsize, fun x y hx' hy => ?_⟩
            have hk := rows_bound hx' hy
            obtain ⟨c1, c2⟩ := hboth.2 x y hx' hy
            have e1 : (os ++ cs ++ (Builtin.zeroCells zv.cells (cap' - (len + src.length))).toList).toArray.getD (0 + x * i.size + y) Go.undef = (os ++ cs).getD (x * i.size + y) Go.undef := by
              have : x * i.size + y < (os ++ cs).length := by rw [hboth.1]; exact hk
              rw [Nat.zero_add, Array.getD_eq_getD_getElem?, List.getElem?_toArray, List.getElem?_append_left this, List.getD_eq_getElem?_getD]
            rw [e1]
            exact ⟨c1, c2.mono hg', fun hh => by cases hh⟩)
        refine ⟨_, _, g', hrun, ?_, f4, f5⟩
        exact .own h.top 0 (len + src.length) cap' w.heap.size 0 (cap' * i.size) i.size ⟨w.heap.size, 0, none⟩ f3 (by simp) hcap (by simp)
end
end Go.VM

