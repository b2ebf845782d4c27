/-
  The value machine, 3: the pure operations are sound: run on the values that the abstract ones stand for, they give what 'pval' says and leave the world alone.
-/
import Derived.Test.YtepmaobfbfbecaaVm1
import Derived.Laws.Cells
import Derived.ChangeKeysEq
import Derived.Laws.Small
import Derived.Laws.StructEq
import Derived.Laws.Slices
import Derived.Lib.Strings
set_option linter.all false
namespace Go.VM
open Go

theorem cst_rep {g : Gh} {v : Value} {p : PV} (h : cst v = some p) : Rep g v p := by
  unfold cst at h
  split at h <;> first | (simp only [Option.some.injEq] at h; subst h) | (cases h; done)
  · exact .bool _
  · exact .int _ _
  · exact .str _ _ rfl
  · exact .nilsl
  · exact .nilp
  · exact .nilmp
  · exact .nilfn
  · exact .nilif
  · exact .fn _ _ _ _ _ rfl rfl (fun j hj => absurd hj (by simp)) (fun j hj => absurd hj (by simp))
theorem cst_one {v : Value} {p : PV} (h : cst v = some p) : v.oneCell' = true := by
  unfold cst at h
  split at h <;> first | rfl | (cases h; done)
theorem csts_one : ∀ {l : List Value} {ps : List PV}, csts l = some ps → ∀ j, j < ps.length → (l.getD j Go.undef).oneCell' = true
  | [], ps, h, j, hj => by simp only [csts, Option.some.injEq] at h; subst h; exact absurd hj (by simp)
  | v :: r, ps, h, j, hj => by
    simp only [csts] at h
    split at h
    · rename_i p q hp hq
      simp only [Option.some.injEq] at h; subst h
      cases j with
      | zero => simpa using cst_one hp
      | succ j =>
        have := csts_one hq j (by simpa using hj)
        simpa using this
    · cases h
theorem csts_len : ∀ {l : List Value} {ps : List PV}, csts l = some ps → l.length = ps.length
  | [], ps, h => by simp only [csts, Option.some.injEq] at h; subst h; rfl
  | v :: r, ps, h => by
    simp only [csts] at h
    split at h
    · rename_i p q hp hq
      simp only [Option.some.injEq] at h; subst h
      simp [csts_len hq]
    · cases h
theorem csts_rep {g : Gh} : ∀ {l : List Value} {ps : List PV}, csts l = some ps → ∀ j, j < ps.length → Rep g (l.getD j Go.undef) (PV.nth ps j)
  | [], ps, h, j, hj => by simp only [csts, Option.some.injEq] at h; subst h; exact absurd hj (by simp)
  | v :: r, ps, h, j, hj => by
    simp only [csts] at h
    split at h
    · rename_i p q hp hq
      simp only [Option.some.injEq] at h; subst h
      cases j with
      | zero => simpa [PV.nth] using cst_rep hp
      | succ j =>
        have := csts_rep (g := g) hq j (by simpa using hj)
        simpa [PV.nth] using this
    · cases h

theorem cA_rep {g : Gh} {a : Act} {e : Env} (he : EnvRep g a e) {x : Operand} {va : VA} (h : cA x = some va) : Rep g (a.eval x) (va.ev e) := by
  cases x with
  | tmp t => simp only [cA, Option.some.injEq] at h; subst h; exact he t
  | const v =>
    simp only [cA, Option.map_eq_some_iff] at h
    obtain ⟨p, hp, rfl⟩ := h
    exact cst_rep hp
  | global n => cases h
  | func f =>
    simp only [cA, Option.some.injEq] at h; subst h
    exact .fn _ _ _ _ _ rfl rfl (fun j hj => absurd hj (by simp)) (fun j hj => absurd hj (by simp))
theorem cAs_len : ∀ {l : List Operand} {ps : List VA}, cAs l = some ps → l.length = ps.length
  | [], ps, h => by simp only [cAs, Option.some.injEq] at h; subst h; rfl
  | v :: r, ps, h => by
    simp only [cAs] at h
    split at h
    · rename_i p q hp hq
      simp only [Option.some.injEq] at h; subst h
      simp [cAs_len hq]
    · cases h
theorem cAs_rep {g : Gh} {a : Act} {e : Env} (he : EnvRep g a e) : ∀ {l : List Operand} {ps : List VA}, cAs l = some ps →
    ∀ j, j < ps.length → Rep g ((l.map a.eval).getD j Go.undef) (PV.nth (ps.map (VA.ev e)) j)
  | [], ps, h, j, hj => by simp only [cAs, Option.some.injEq] at h; subst h; exact absurd hj (by simp)
  | v :: r, ps, h, j, hj => by
    simp only [cAs] at h
    split at h
    · rename_i p q hp hq
      simp only [Option.some.injEq] at h; subst h
      cases j with
      | zero => simpa [PV.nth] using cA_rep he hp
      | succ j =>
        have := cAs_rep he hq j (by simpa using hj)
        simpa [PV.nth] using this
    · cases h

/-! ### inversions -/
section inv
variable {g : Gh} {v : Value}
theorem Rep.bool_inv {b : Bool} (h : Rep g v (.bool b)) : v = .bool b := by cases h; rfl
theorem Rep.int_inv {k : IntKind} {n : Int} (h : Rep g v (.int k n)) : v = .int k n := by cases h; rfl
theorem Rep.str_inv {l : List UInt8} (h : Rep g v (.str l)) : ∃ s : ByteArray, v = .string s ∧ s.data.toList = l := by cases h; exact ⟨_, rfl, ‹_›⟩
theorem Rep.agg_inv {cs : List PV} (h : Rep g v (.agg cs)) : ∃ vs : Array Value, v = .agg vs ∧ vs.size = cs.length ∧ (∀ j, j < cs.length → (vs.getD j Go.undef).oneCell' = true) ∧ ∀ j, j < cs.length → Rep g (vs.getD j Go.undef) (PV.nth cs j) := by
  cases h with
  | agg vs cs h h1 hr => exact ⟨_, rfl, h, h1, hr⟩
theorem Rep.tup_inv {cs : List PV} (h : Rep g v (.tup cs)) : ∃ vs : Array Value, v = .tuple vs ∧ vs.size = cs.length ∧ ∀ j, j < cs.length → Rep g (vs.getD j Go.undef) (PV.nth cs j) := by
  cases h; exact ⟨_, rfl, ‹_›, ‹_›⟩
theorem Rep.loc_inv {id i off : Nat} (h : Rep g v (.loc id i off)) : ∃ b o n z, g.β id = some (b, o, n, z) ∧ v = .pointer (some ⟨b, o + i * z + off, none⟩) := by
  cases h with
  | loc id i off b o n z a hb ha => subst ha; exact ⟨b, o, n, z, hb, rfl⟩
theorem Rep.ro_inv {cs : List PV} (h : Rep g v (.ro cs)) : ∃ b o, ∃ vs : Nat → Value, v = .pointer (some ⟨b, o, none⟩) ∧ (∀ j, j < cs.length → g.m b (o + j) = some (vs j)) ∧ ∀ j, j < cs.length → Rep g (vs j) (PV.nth cs j) := by
  cases h with
  | ro b o a cs vs ha hm hr => subst ha; exact ⟨b, o, vs, rfl, hm, hr⟩
theorem Rep.cells_size {p : PV} {n : Nat} (h : Rep g v p) (hf : p.fits n = true) : v.cells.size = n ∧ p.cells.length = n ∧ (∀ j, j < n → (v.cells.getD j Go.undef).oneCell' = true) ∧ ∀ j, j < n → Rep g (v.cells.getD j Go.undef) (PV.nth p.cells j) := by
  by_cases ha : ∃ cs, p = .agg cs
  · obtain ⟨cs, rfl⟩ := ha
    obtain ⟨vs, rfl, hs, ho, hr⟩ := h.agg_inv
    simp only [PV.fits, beq_iff_eq] at hf
    exact ⟨by rw [← hf]; exact hs, hf, fun j hj => ho j (by omega), fun j hj => hr j (by omega)⟩
  · have hp : p.cells = [p] := by cases p <;> first | rfl | exact absurd ⟨_, rfl⟩ ha
    have hn : n = 1 := by cases p <;> simp [PV.fits] at hf <;> first | exact hf | exact absurd ⟨_, rfl⟩ ha
    have hv : v.cells = #[v] := by cases h <;> first | rfl | exact absurd ⟨_, rfl⟩ ha | simp [PV.fits] at hf
    have h1 : v.oneCell' = true := by cases h <;> first | rfl | exact absurd ⟨_, rfl⟩ ha | simp [PV.fits] at hf
    subst hn
    refine ⟨by simp [hv], by simp [hp], fun j hj => ?_, fun j hj => ?_⟩
    · obtain rfl : j = 0 := by omega
      simpa [hv] using h1
    · obtain rfl : j = 0 := by omega
      simpa [hv, hp, PV.nth] using h
end inv

/-- The cells behind an address. -/
theorem loc_cells {g : Gh} {w : World} {h : Heap} (r : Rel g w h) {v : Value} {p : PV} (hv : Rep g v p) (hok : locOk h p) :
    ∃ b o, ∃ vs : Nat → Value, v = .pointer (some ⟨b, o, none⟩) ∧ ∀ j, j < (locCells h p).length → w.cell? ⟨b, o + j, none⟩ = some (vs j) ∧ (vs j).oneCell' = true ∧ Rep g (vs j) (PV.nth (locCells h p) j) := by
  cases p <;> simp only [locOk] at hok
  case ro cs =>
    obtain ⟨b, o, vs, rfl, hm, hr⟩ := hv.ro_inv
    exact ⟨b, o, vs, rfl, fun j hj => ⟨(r.mem _ _ _ (hm j hj)).1, (r.mem _ _ _ (hm j hj)).2, hr j hj⟩⟩
  case loc id i off =>
    obtain ⟨b, o, n, z, hb, rfl⟩ := hv.loc_inv
    split at hok
    case h_2 => exact hok.elim
    rename_i fz z' es hg
    simp only [locCells, hg]
    refine ⟨b, o + i * z + off, fun j => ?_, rfl, ?_⟩
    · exact match w.heap[b]? with
        | some (.cells c _ _) => c.getD (o + i * z + off + j) Go.undef
        | _ => Go.undef
    · intro j hj
      rcases r.blk id _ hg with ⟨h0, _⟩ | ⟨b', o', n', z'', hb', hlt, hno, hokk⟩
      · rw [hb] at h0; cases h0
      · rw [hb] at hb'
        simp only [Option.some.injEq, Prod.mk.injEq] at hb'
        obtain ⟨rfl, rfl, rfl, rfl⟩ := hb'
        obtain ⟨rfl, hz, hle, c, e, hc, hs, hrep⟩ := hokk
        have hzi := hz i hok
        have hjz : off + j < z' := by
          simp only [List.length_drop] at hj
          omega
        obtain ⟨ho1, hr, _⟩ := hrep i (off + j) hok hjz
        have hin : o + i * z' + (off + j) < c.size := by
          have h1 : (i + 1) * z' ≤ es.length * z' := Nat.mul_le_mul_right _ hok
          rw [Nat.succ_mul] at h1
          omega
        simp only [hc]
        refine ⟨?_, by rw [show o + i * z' + off + j = o + i * z' + (off + j) by omega]; exact ho1, ?_⟩
        · simp only [World.cell?, hc, Option.isSome_none, Bool.false_eq_true, if_false]
          rw [show o + i * z' + off + j = o + i * z' + (off + j) by omega]
          rw [Array.getElem?_eq_getElem hin]
          simp [Array.getD, hin]
        · rw [show o + i * z' + off + j = o + i * z' + (off + j) by omega]
          have e1 : PV.nth ((PV.row es i).drop off) j = PV.nth (PV.row es i) (off + j) := by simp [PV.nth, List.getD_eq_getElem?_getD, List.getElem?_drop]
          rw [e1]; exact hr

theorem run_agg {P : Program} {t : TypeId} {b : Bool} (h : aggOf P t = some b) (w : World) : (Go.isAgg t).run P w = .ok b w := by
  unfold aggOf at h
  unfold Go.isAgg
  split at h
  · rename_i d hd; simp only [Option.some.injEq] at h; subst h; simp [run_underlying hd]
  · rename_i d hd; simp only [Option.some.injEq] at h; subst h; simp [run_underlying hd]
  · rename_i d hne1 hne2 hd
    simp only [Option.some.injEq] at h; subst h
    rw [Sem.run_bind, run_underlying hd]
    simp only [Result.andThen_ok]
    cases d <;> first | rfl | simp_all
  · cases h
theorem run_sz {P : Program} {t : TypeId} {s : Nat} (h : szOf P t = some s) (w : World) : (sizeOf t).run P w = .ok s w := by
  simp only [szOf, Option.map_eq_some_iff] at h
  obtain ⟨i, hi, rfl⟩ := h
  simp [sizeOf, run_typeInfo w hi]

theorem run_fieldAt {P : Program} {t : TypeId} {f : Nat} {fd : Field} {s : Nat} (hf : fieldOf P t f = some fd) (hs : szOf P fd.type = some s) (h0 : s ≠ 0) (w : World) (b o : Nat) :
    (Instr.fieldAt t (.pointer (some ⟨b, o, none⟩)) f).run P w = .ok (.pointer (some ⟨b, o + fd.offset, none⟩)) w := by
  unfold fieldOf at hf
  split at hf
  · rename_i fs hu
    simp only [Instr.fieldAt, Sem.run_bind, run_underlying hu, Result.andThen_ok, hf, Instr.sureAddr, Sem.run_pure, fieldPlace, run_sz hs, if_neg h0]
    by_cases h : fd.offset = 0 <;> simp [Addr.add, h]
  · cases hf
theorem run_part {P : Program} {t : TypeId} {s : Nat} {b : Bool} (hs : szOf P t = some s) (hb : aggOf P t = some b) (w : World) (cs : Array Value) (off : Nat) (hle : off + s ≤ cs.size) (h1 : b = false → s = 1) :
    (part t cs off).run P w = .ok (if b then .agg (cs.extract off (off + s)) else cs.getD off Go.undef) w := by
  cases b
  · have := h1 rfl
    have hlt : off < cs.size := by omega
    simp [part, run_agg hb, hlt, Array.getD]
  · simp [part, run_agg hb, run_sz hs]
theorem run_loadAt {P : Program} {t : TypeId} {s : Nat} {b : Bool} (hs : szOf P t = some s) (hb : aggOf P t = some b) (w : World) (bl o : Nat) (vs : Nat → Value)
    (hc : ∀ j, j < s → w.cell? ⟨bl, o + j, none⟩ = some (vs j)) (h1 : b = false → s = 1) :
    (Instr.loadAt t (.pointer (some ⟨bl, o, none⟩))).run P w = .ok (if b then .agg ((List.range s).map vs).toArray else vs 0) w := by
  have hadd : ∀ j, (⟨bl, o, none⟩ : Addr).add j = ⟨bl, o + j, none⟩ := fun j => by by_cases h : j = 0 <;> simp [Addr.add, h]
  cases b
  · have := h1 rfl
    subst this
    have h0 := hc 0 (by omega)
    simp only [Nat.add_zero] at h0
    simp [Instr.loadAt, Instr.sureAddr, loadVar, run_agg hb, h0]
  · have hl := run_loadCells (P := P) w ⟨bl, o, none⟩ s vs (fun j hj => by rw [hadd]; exact hc j hj)
    simp only [Instr.loadAt, Instr.sureAddr, Sem.run_bind, Sem.run_pure, Result.andThen_ok, loadVar, run_agg hb, if_true, run_sz hs, hl]


/-! ### the pure operations, one by one -/
theorem wrap_str {a b : List UInt8} {s t : ByteArray} (hs : s.data.toList = a) (ht : t.data.toList = b) : s.toList = a ∧ t.toList = b ∧ s.size = a.length ∧ (s ++ t).data.toList = a ++ b := by
  have h1 : ∀ x : ByteArray, x.toList = x.data.toList := ByteArray.toList_eq
  refine ⟨by rw [h1, hs], by rw [h1, ht], by rw [← hs, Array.length_toList]; rfl, by rw [← hs, ← ht, ByteArray.data_append, Array.toList_append]⟩
theorem eqGuard_run {P : Program} {w : World} {op : BinOp} {t : TypeId} {x y : Operand} {a b : Value} (h1 : (∀ vs, a ≠ .agg vs) ) (h2 : a ≠ .nilIface) : (eqGuard op t x y a b).run P w = .ok () w := by
  unfold eqGuard
  cases op <;> cases a <;> simp_all
theorem int_sound {P : Program} {w : World} {op : BinOp} {t : TypeId} {k k' : IntKind} {a b : Int} (hok : binOk op (.int k a) (.int k' b)) :
    ∃ v, (binOp op t (.int k a) (.int k' b)).run P w = .ok v w ∧ ∀ g, Rep g v (binV op (.int k a) (.int k' b)) := by
  cases op <;> simp only [binOk] at hok <;> simp only [binV, intV]
  case add => subst hok; exact ⟨_, by simp [binOp, Op.intArith], fun g => .int _ _⟩
  case sub => subst hok; exact ⟨_, by simp [binOp, Op.intArith], fun g => .int _ _⟩
  case mul => subst hok; exact ⟨_, by simp [binOp, Op.intArith], fun g => .int _ _⟩
  case quo => obtain ⟨rfl, h⟩ := hok; exact ⟨_, by simp [binOp, Op.intDiv, h], fun g => .int _ _⟩
  case rem => obtain ⟨rfl, h⟩ := hok; exact ⟨_, by simp [binOp, Op.intDiv, h], fun g => .int _ _⟩
  case and => subst hok; exact ⟨_, by simp [binOp, Op.intBits], fun g => .int _ _⟩
  case or => subst hok; exact ⟨_, by simp [binOp, Op.intBits], fun g => .int _ _⟩
  case xor => subst hok; exact ⟨_, by simp [binOp, Op.intBits], fun g => .int _ _⟩
  case andNot => subst hok; exact ⟨_, by simp [binOp, Op.intBits], fun g => .int _ _⟩
  case shl => have h : ¬ b < 0 := by omega
              exact ⟨_, by simp [binOp, Op.shift, h], fun g => .int _ _⟩
  case shr => have h : ¬ b < 0 := by omega
              exact ⟨_, by simp [binOp, Op.shift, h], fun g => .int _ _⟩
  case eql => subst hok; exact ⟨_, by simp [binOp, Op.intCmp], fun g => .bool _⟩
  case neq => subst hok; exact ⟨_, by simp [binOp, Op.intCmp], fun g => .bool _⟩
  case lss => subst hok; exact ⟨_, by simp [binOp, Op.intCmp], fun g => .bool _⟩
  case leq => subst hok; exact ⟨_, by simp [binOp, Op.intCmp], fun g => .bool _⟩
  case gtr => subst hok; exact ⟨_, by simp [binOp, Op.intCmp], fun g => .bool _⟩
  case geq => subst hok; exact ⟨_, by simp [binOp, Op.intCmp], fun g => .bool _⟩
theorem strop_sound {P : Program} {w : World} {op : BinOp} {t : TypeId} {s u : ByteArray} {a b : List UInt8} (hs : s.data.toList = a) (hu : u.data.toList = b) (hok : binOk op (.str a) (.str b)) :
    ∃ v, (binOp op t (.string s) (.string u)).run P w = .ok v w ∧ ∀ g, Rep g v (binV op (.str a) (.str b)) := by
  obtain ⟨e1, e2, e3, e4⟩ := wrap_str hs hu
  have e5 : u.size = b.length := by rw [← hu, Array.length_toList]; rfl
  cases op <;> simp only [binOk] at hok <;> simp only [binV, strV]
  case add =>
    refine ⟨.string (s ++ u), ?_, fun g => .str _ _ e4⟩
    have : ¬ (9223372036854775807 < ((s.size : Int) + (u.size : Int))) := by omega
    simp [binOp, Op.stringOp, IntKind.max, IntKind.signed, IntKind.bits, this]
  case eql => exact ⟨.bool (a == b), by simp only [binOp, Op.stringOp, e1, e2, Sem.run_pure], fun g => .bool _⟩
  case neq => exact ⟨.bool (a != b), by simp only [binOp, Op.stringOp, e1, e2, Sem.run_pure, bne], fun g => .bool _⟩
  case lss => exact ⟨.bool _, by simp [binOp, Op.stringOp, e1, e2], fun g => .bool _⟩
  case leq => exact ⟨.bool _, by simp [binOp, Op.stringOp, e1, e2], fun g => .bool _⟩
  case gtr => exact ⟨.bool _, by simp [binOp, Op.stringOp, e1, e2], fun g => .bool _⟩
  case geq => exact ⟨.bool _, by simp [binOp, Op.stringOp, e1, e2], fun g => .bool _⟩
theorem boolop_sound {P : Program} {w : World} {op : BinOp} {t : TypeId} {a b : Bool} (hd : P.underlying t = some .bool) (hok : binbOk op (.bool a) (.bool b)) :
    ∃ v, (binOp op t (.bool a) (.bool b)).run P w = .ok v w ∧ ∀ g, Rep g v (binbV op (.bool a) (.bool b)) := by
  have he : (Op.equal t (.bool a) (.bool b)).run P w = .ok (a == b) w := run_equal_bool w t a b hd
  cases op <;> simp only [binbOk] at hok <;> simp only [binbV, boolV]
  case eql => exact ⟨_, by simp [binOp, he], fun g => .bool _⟩
  case neq => exact ⟨_, by simp [binOp, he, bne], fun g => .bool _⟩
theorem bin_sound {P : Program} {g : Gh} {w : World} {op : BinOp} {t : TypeId} {x y : Operand} {vx vy : Value} {px py : PV} 
    (hx : Rep g vx px) (hy : Rep g vy py) (hok : binOk op px py) :
    ∃ v, ((do eqGuard op t x y vx vy; binOp op t vx vy : Sem Value)).run P w = .ok v w ∧ Rep g v (binV op px py) := by
  have key : ∃ v, (binOp op t vx vy).run P w = .ok v w ∧ Rep g v (binV op px py) := by
    cases px <;> cases py <;> (try (simp only [binOk] at hok; done))
    case int.int k a k' b =>
      obtain rfl := hx.int_inv
      obtain rfl := hy.int_inv
      obtain ⟨v, h1, h2⟩ := int_sound (P := P) (w := w) (t := t) hok
      exact ⟨v, h1, h2 g⟩
    case str.str a b =>
      obtain ⟨s, rfl, hs⟩ := hx.str_inv
      obtain ⟨u, rfl, hu⟩ := hy.str_inv
      obtain ⟨v, h1, h2⟩ := strop_sound (P := P) (w := w) (t := t) hs hu hok
      exact ⟨v, h1, h2 g⟩
  obtain ⟨v, h1, h2⟩ := key
  refine ⟨v, ?_, h2⟩
  have hg : (eqGuard op t x y vx vy).run P w = .ok () w := by
    apply eqGuard_run
    · intro vs hv; subst hv; cases hx; simp [binOk] at hok; simp [binOk] at hok
    · intro hv; subst hv; cases hx; simp [binOk] at hok; simp [binOk] at hok
  simp [hg, h1]

theorem binb_sound {P : Program} {g : Gh} {w : World} {op : BinOp} {t : TypeId} {x y : Operand} {vx vy : Value} {px py : PV} 
    (hb : P.underlying t = some .bool) (hx : Rep g vx px) (hy : Rep g vy py) (hok : binbOk op px py) :
    ∃ v, ((do eqGuard op t x y vx vy; binOp op t vx vy : Sem Value)).run P w = .ok v w ∧ Rep g v (binbV op px py) := by
  cases px <;> cases py <;> (try (simp only [binbOk] at hok; done))
  rename_i p q
  obtain rfl := hx.bool_inv
  obtain rfl := hy.bool_inv
  obtain ⟨v, h1, h2⟩ := boolop_sound (P := P) (w := w) hb hok
  have hg : (eqGuard op t x y (.bool p) (.bool q)).run P w = .ok () w := eqGuard_run (fun vs hv => by cases hv) (fun hv => by cases hv)
  exact ⟨v, by simp [hg, h1], h2 g⟩

theorem nth_drop (l : List PV) (a j : Nat) : PV.nth (l.drop a) j = PV.nth l (a + j) := by simp [PV.nth, List.getD_eq_getElem?_getD, List.getElem?_drop]
theorem nth_take (l : List PV) (a j : Nat) (h : j < a) : PV.nth (l.take a) j = PV.nth l j := by simp [PV.nth, List.getD_eq_getElem?_getD, List.getElem?_take, h]
theorem row_drop (l : List (List PV)) (a j : Nat) : PV.row (l.drop a) j = PV.row l (a + j) := by simp [PV.row, List.getD_eq_getElem?_getD, List.getElem?_drop]
theorem row_take (l : List (List PV)) (a j : Nat) (h : j < a) : PV.row (l.take a) j = PV.row l j := by simp [PV.row, List.getD_eq_getElem?_getD, List.getElem?_take, h]
theorem getD_extract (vs : Array Value) (a b j : Nat) (h : j < b - a) (hb : b ≤ vs.size) : (vs.extract a b).getD j Go.undef = vs.getD (a + j) Go.undef := by
  have h1 : j < (vs.extract a b).size := by simp; omega
  have h2 : a + j < vs.size := by omega
  have h3 : j < min b vs.size - a := by omega
  simp [Array.getD, h2, h3]

section pure
variable {P : Program} {g : Gh} {w : World} {h : Heap} {a : Act} {e : Env}

theorem load_sound {t : TypeId} {s : Nat} {b : Bool} {x : Operand} {va : VA} (hr : Rel g w h) (he : EnvRep g a e) (hx : cA x = some va) (hb : aggOf P t = some b) (hs : szOf P t = some s)
    (hok : pok e h (.load b s va)) : ∃ v, (Instr.loadAt t (a.eval x)).run P w = .ok v w ∧ Rep g v (pval e h (.load b s va)) := by
  obtain ⟨hl, hle, h1⟩ := hok
  obtain ⟨bl, o, vs, hv, hc⟩ := loc_cells hr (cA_rep he hx) hl
  have hrun := run_loadAt (P := P) hs hb w bl o vs (fun j hj => (hc j (by omega)).1) h1
  rw [hv]
  refine ⟨_, hrun, ?_⟩
  · simp only [pval, aggV]
    cases b
    · simp only [Bool.false_eq_true, if_false]
      have := h1 rfl; subst this
      rw [nth_take _ _ _ (by omega)]
      exact (hc 0 (by omega)).2.2
    · simp only [if_true]
      have key : ∀ j, j < s → ((List.range s).map vs).toArray.getD j Go.undef = vs j := fun j hj' => by simp [Array.getD, hj']
      refine .agg _ _ (by simp; omega) (fun j hj => ?_) (fun j hj => ?_)
      · have hj' : j < s := by simp at hj; omega
        rw [key j hj']
        exact (hc j (by omega)).2.1
      · have hj' : j < s := by simp at hj; omega
        rw [nth_take _ _ _ hj', key j hj']
        exact (hc j (by omega)).2.2

theorem fld_sound {t : TypeId} {f : Nat} {fd : Field} {s : Nat} {b : Bool} {x : Operand} {va : VA} (he : EnvRep g a e) (hx : cA x = some va) (hf : fieldOf P t f = some fd) (hb : aggOf P fd.type = some b) (hs : szOf P fd.type = some s)
    (hok : pok e h (.fld b fd.offset s va)) : ∃ v, (Instr.field t (a.eval x) f).run P w = .ok v w ∧ Rep g v (pval e h (.fld b fd.offset s va)) := by
  obtain ⟨hl, hle, h1⟩ := hok
  have hv := cA_rep he hx
  cases hp : va.ev e <;> simp only [hp, isAggP] at hl
  rename_i cs
  rw [hp] at hv
  obtain ⟨vs, hv, hsz, ho, hr⟩ := hv.agg_inv
  simp only [hp, cellsOfAgg] at hle
  simp only [pval, hp, cellsOfAgg]
  have hrun : (Instr.field t (.agg vs) f).run P w = .ok (if b then .agg (vs.extract fd.offset (fd.offset + s)) else vs.getD fd.offset Go.undef) w := by
    unfold fieldOf at hf
    split at hf
    · rename_i fs hu
      simp only [Instr.field, Sem.run_bind, run_underlying hu, Result.andThen_ok, hf, asAgg, Sem.run_pure]
      exact run_part hs hb w vs fd.offset (by omega) h1
    · cases hf
  rw [hv]
  refine ⟨_, hrun, ?_⟩
  · simp only [aggV]
    cases b
    · simp only [Bool.false_eq_true, if_false]
      have := h1 rfl; subst this
      rw [nth_take _ _ _ (by omega), nth_drop]
      exact hr _ (by omega)
    · simp only [if_true]
      refine .agg _ _ (by simp; omega) (fun j hj => ?_) (fun j hj => ?_)
      · have hj' : j < s := by simp at hj; omega
        rw [getD_extract _ _ _ _ (by omega) (by omega)]
        exact ho _ (by omega)
      · have hj' : j < s := by simp at hj; omega
        rw [nth_take _ _ _ hj', nth_drop, getD_extract _ _ _ _ (by omega) (by omega)]
        exact hr _ (by omega)

theorem faddr_sound {t : TypeId} {f : Nat} {fd : Field} {s : Nat} {x : Operand} {va : VA} (he : EnvRep g a e) (hx : cA x = some va) (hf : fieldOf P t f = some fd) (hs : szOf P fd.type = some s) (h0 : s ≠ 0)
    (hok : isAddr (va.ev e)) : ∃ v, (Instr.fieldAt t (a.eval x) f).run P w = .ok v w ∧ Rep g v (faddrV fd.offset (va.ev e)) := by
  have hv := cA_rep he hx
  cases hp : va.ev e <;> simp only [hp, isAddr] at hok <;> rw [hp] at hv
  case loc id i off =>
    obtain ⟨b, o, n, z, hb, hv⟩ := hv.loc_inv
    rw [hv]
    exact ⟨_, run_fieldAt hf hs h0 w _ _, .loc _ _ _ b o n z _ hb (by congr 1; omega)⟩
  case ro cs =>
    obtain ⟨b, o, vs, hv, hm, hr⟩ := hv.ro_inv
    rw [hv]
    refine ⟨_, run_fieldAt hf hs h0 w _ _, .ro b (o + fd.offset) _ _ (fun j => vs (fd.offset + j)) rfl (fun j hj => ?_) (fun j hj => ?_)⟩
    · rw [Nat.add_assoc]; exact hm _ (by simp at hj; omega)
    · rw [nth_drop]; exact hr _ (by simp at hj; omega)

theorem iaddr_sound {t ty : TypeId} {z : Nat} {x y : Operand} {va vi : VA} (hr : Rel g w h) (he : EnvRep g a e) (hx : cA x = some va) (hy : cA y = some vi) (hu : P.underlying t = some (.slice ty)) (hs : szOf P ty = some z)
    (hok : iaddrOk z h (va.ev e) (vi.ev e)) : ∃ v, (Instr.indexAt t (a.eval x) (a.eval y)).run P w = .ok v w ∧ Rep g v (iaddrV (va.ev e) (vi.ev e)) := by
  obtain ⟨hi, h0, hlt, hm⟩ := hok
  have hv := cA_rep he hx
  have hiv := cA_rep he hy
  cases hpi : vi.ev e <;> simp only [hpi, isInt] at hi <;> rw [hpi] at hiv
  rename_i k n
  have hiv := hiv.int_inv
  simp only [hpi, numOf] at h0 hlt hm ⊢
  have key : ∀ (b o len cap : Nat), n < (len : Int) → (Instr.indexAt t (.slice (some ⟨b, o, none⟩) len cap) (.int k n)).run P w = .ok (.pointer (some ⟨b, o + n.toNat * z, none⟩)) w := by
    intro b o len cap hn
    simp only [Instr.indexAt, asIntOf, Sem.run_bind, Sem.run_pure, Result.andThen_ok, run_underlying hu, run_sz hs, if_pos (And.intro h0 hn), Sem.run_ite, h0, hn, and_self, if_true]
    by_cases h : n.toNat * z = 0 <;> simp [Addr.add, h]
  rw [hiv]
  generalize a.eval x = vx at hv ⊢
  cases hp : va.ev e <;> simp only [hp, lenV, iaddrV, numOf] at hm hlt ⊢ <;> rw [hp] at hv
  case sl z' es =>
    subst hm
    cases hv with
    | slE => exact absurd hlt (by simp; omega)
    | sl b o len cap z a es vs ha hl hc hz hmm hrr =>
      subst ha hl
      refine ⟨_, key _ _ _ _ hlt, ?_⟩
      have hn : n.toNat < es.length := by omega
      refine .ro b (o + n.toNat * z') _ _ (fun j => vs n.toNat j) rfl (fun j hj => ?_) (fun j hj => ?_)
      · exact hmm _ _ hn (by rw [hz _ hn] at hj; exact hj)
      · exact hrr _ _ hn (by rw [hz _ hn] at hj; exact hj)
  case own id off len =>
    split at hm
    case h_2 => exact hm.elim
    rename_i fz z' es hg
    subst hm
    cases hv with
    | ownE => exact absurd hlt (by simp; omega)
    | own _ _ _ cap b o n' z a hb ha hc hn =>
      subst ha
      rcases hr.blk id _ hg with ⟨hb0, _⟩ | ⟨b', o', n'', z'', hb', _, _, hokk⟩
      · rw [hb] at hb0; cases hb0
      · rw [hb] at hb'
        simp only [Option.some.injEq, Prod.mk.injEq] at hb'
        obtain ⟨rfl, rfl, rfl, rfl⟩ := hb'
        have hz := hokk.1
        subst hz
        refine ⟨_, key _ _ _ _ hlt, ?_⟩
        exact .loc _ _ _ b o n' z' _ hb (by congr 1; rw [Nat.add_mul]; omega)

theorem idx_sound {t : TypeId} {x y : Operand} {va vi : VA} (he : EnvRep g a e) (hx : cA x = some va) (hy : cA y = some vi) (hu : P.underlying t = some .string)
    (hok : idxOk (va.ev e) (vi.ev e)) : ∃ v, (Instr.index t (a.eval x) (a.eval y)).run P w = .ok v w ∧ Rep g v (idxV (va.ev e) (vi.ev e)) := by
  obtain ⟨hi, h0, hlt, hm⟩ := hok
  have hv := cA_rep he hx
  have hiv := cA_rep he hy
  cases hpi : vi.ev e <;> simp only [hpi, isInt] at hi <;> rw [hpi] at hiv
  rename_i k n
  have hiv := hiv.int_inv
  simp only [hpi, numOf] at h0 hlt hm ⊢
  cases hp : va.ev e <;> simp only [hp, lenV, idxV] at hm hlt ⊢ <;> rw [hp] at hv
  rename_i l
  obtain ⟨s, hv, hs⟩ := hv.str_inv
  have hsz : s.size = l.length := by rw [← hs, Array.length_toList]; rfl
  have hn : n.toNat < s.size := by omega
  have hb : s[n.toNat]? = some (l.getD n.toNat 0) := by
    have h1 : s[n.toNat]? = s.data[n.toNat]? := by
      rw [getElem?_pos s n.toNat hn, Array.getElem?_eq_getElem hn]
      rfl
    rw [h1, ← Array.getElem?_toList, hs, List.getElem?_eq_getElem (by omega), List.getD_eq_getElem?_getD, List.getElem?_eq_getElem (show n.toNat < l.length by omega)]
    rfl
  rw [hiv, hv]
  have hrun : (Instr.index t (.string s) (.int k n)).run P w = .ok (.int .u8 ((l.getD n.toNat 0).toNat : Int)) w := by
    simp only [Instr.index, asIntOf, Sem.run_bind, Sem.run_pure, Result.andThen_ok, run_underlying hu, if_pos h0, hb]
  exact ⟨_, hrun, .int _ _⟩

theorem bound_run {k : IntKind} {n : Int} {y : Nat} {code : BoundsCode} (h0 : 0 ≤ n) (h1 : n.toNat ≤ y) (w : World) : (Instr.sliceBound (.int k n) y code).run P w = .ok n.toNat w :=
  run_sliceBound w k n y code h0 (by omega)
theorem cAo_cases {o : Option Operand} {va : Option VA} (h : cAo o = some va) : (o = none ∧ va = none) ∨ ∃ x v, o = some x ∧ va = some v ∧ cA x = some v := by
  cases o with
  | none => simp only [cAo, Option.some.injEq] at h; exact .inl ⟨rfl, h.symm⟩
  | some x =>
    simp only [cAo, Option.map_eq_some_iff] at h
    obtain ⟨v, hv, rfl⟩ := h
    exact .inr ⟨x, v, rfl, rfl, hv⟩
theorem bounds_run {lo hi : Option Operand} {vl vh : Option VA} (he : EnvRep g a e) (hl : cAo lo = some vl) (hh : cAo hi = some vh) (sl : Bool) (len cap : Nat) (hlc : len ≤ cap)
    (b1 : boundOk (vl.map (VA.ev e))) (b2 : boundOk (vh.map (VA.ev e))) (b3 : loV (vl.map (VA.ev e)) ≤ hiV len (vh.map (VA.ev e))) (b4 : hiV len (vh.map (VA.ev e)) ≤ len) :
    (Instr.sliceBounds sl len cap (lo.map a.eval) (hi.map a.eval) none).run P w = .ok (loV (vl.map (VA.ev e)), hiV len (vh.map (VA.ev e)), cap) w := by
  have key : ∀ {x : Operand} {v : VA}, cA x = some v → boundOk (some (v.ev e)) → ∃ k n, a.eval x = .int k n ∧ v.ev e = .int k n ∧ 0 ≤ n := by
    intro x v hx hb
    have hr := cA_rep he hx
    cases hp : v.ev e <;> simp only [hp, boundOk] at hb
    rw [hp] at hr
    exact ⟨_, _, hr.int_inv, rfl, hb⟩
  rcases cAo_cases hl with ⟨rfl, rfl⟩ | ⟨x, v, rfl, rfl, hx⟩ <;> rcases cAo_cases hh with ⟨rfl, rfl⟩ | ⟨y, u, rfl, rfl, hy⟩
  · simp [Instr.sliceBounds, loV, hiV]
  · obtain ⟨k, n, e1, e2, h0⟩ := key hy b2
    simp only [Option.map_some, Option.map_none, e1, e2, loV, hiV, numOf] at *
    simp [Instr.sliceBounds, bound_run (P := P) h0 (show n.toNat ≤ cap by omega)]
  · obtain ⟨k, n, e1, e2, h0⟩ := key hx b1
    simp only [Option.map_some, Option.map_none, e1, e2, loV, hiV, numOf] at *
    simp [Instr.sliceBounds, bound_run (P := P) h0 b3]
  · obtain ⟨k, n, e1, e2, h0⟩ := key hx b1
    obtain ⟨k', n', e1', e2', h0'⟩ := key hy b2
    simp only [Option.map_some, Option.map_none, e1, e2, e1', e2', loV, hiV, numOf] at *
    simp [Instr.sliceBounds, bound_run (P := P) h0 b3, bound_run (P := P) h0' (show n'.toNat ≤ cap by omega)]

theorem extract_toList (s : ByteArray) (a b : Nat) : (s.extract a b).data.toList = (s.data.toList.drop a).take (b - a) := Lib.extract_data s a b

theorem slice_sound {t : TypeId} {z : Nat} {x : Operand} {va : VA} {lo hi : Option Operand} {vl vh : Option VA} (hr : Rel g w h) (he : EnvRep g a e) (hx : cA x = some va) (hl : cAo lo = some vl) (hh : cAo hi = some vh)
    {st : Bool} (hu : (P.underlying t = some .string ∧ st = true) ∨ st = false ∧ ∃ ty, P.underlying t = some (.slice ty) ∧ szOf P ty = some z)
    (hok : sliceOk st z h (va.ev e) (vl.map (VA.ev e)) (vh.map (VA.ev e))) :
    ∃ v, (Instr.sliceAt t (a.eval x) (lo.map a.eval) (hi.map a.eval) none).run P w = .ok v w ∧ Rep g v (sliceV (va.ev e) (vl.map (VA.ev e)) (vh.map (VA.ev e))) := by
  obtain ⟨b1, b2, b3, b4, hm⟩ := hok
  have hv := cA_rep he hx
  generalize a.eval x = vx at hv ⊢
  rcases hu with ⟨hu, rfl⟩ | ⟨rfl, ty, hu, hz⟩
  · have hpl : ∃ l, va.ev e = .str l := by
      cases hp : va.ev e <;> simp only [hp] at hm <;> first | exact ⟨_, rfl⟩ | (simp at hm; done)
    obtain ⟨l, hp⟩ := hpl
    rw [hp] at hv b3 b4 ⊢
    obtain ⟨s, rfl, rfl⟩ := hv.str_inv
    have hsz : s.size = s.data.toList.length := by rw [Array.length_toList]; rfl
    have hb := bounds_run (P := P) (w := w) he hl hh false s.size s.size (Nat.le_refl _) b1 b2 (by rw [hsz]; exact b3) (by rw [hsz]; exact b4)
    refine ⟨.string (s.extract (loV (vl.map (VA.ev e))) (hiV s.size (vh.map (VA.ev e)))), ?_, .str _ _ ?_⟩
    · simp [Instr.sliceAt, Instr.slice, run_underlying hu, hb]
    · rw [extract_toList, hsz]
  · have run : ∀ (ao : Option Addr) (len cap : Nat), len ≤ cap → loV (vl.map (VA.ev e)) ≤ hiV len (vh.map (VA.ev e)) → hiV len (vh.map (VA.ev e)) ≤ len →
        (Instr.sliceAt t (.slice ao len cap) (lo.map a.eval) (hi.map a.eval) none).run P w =
          .ok (.slice (if cap = loV (vl.map (VA.ev e)) then ao else ao.map (·.add (loV (vl.map (VA.ev e)) * z))) (hiV len (vh.map (VA.ev e)) - loV (vl.map (VA.ev e))) (cap - loV (vl.map (VA.ev e)))) w := by
      intro ao len cap h1 h2 h3
      have hb := bounds_run (P := P) (w := w) he hl hh true len cap h1 b1 b2 h2 h3
      simp only [Instr.sliceAt, Instr.slice, Sem.run_bind, run_underlying hu, Result.andThen_ok, hb, run_sz hz, Sem.run_pure]
    cases hp : va.ev e <;> simp only [hp, lenV, sliceV] at hm b3 b4 ⊢ <;> rw [hp] at hv
    case str l => simp at hm
    case nilsl =>
      cases hv
      refine ⟨_, run none 0 0 (Nat.le_refl _) b3 b4, ?_⟩
      have e1 : hiV 0 (vh.map (VA.ev e)) = 0 := by omega
      rw [e1] at b3 ⊢
      have e2 : loV (vl.map (VA.ev e)) = 0 := by omega
      rw [e2]
      exact .nilsl
    case sl z' es =>
      obtain ⟨_, rfl⟩ := hm
      generalize loV (vl.map (VA.ev e)) = L at *
      cases hv with
      | slE ao cap =>
        refine ⟨_, run ao 0 cap (Nat.zero_le _) b3 b4, ?_⟩
        simp only [List.length_nil] at b3 b4 ⊢
        generalize hiV 0 (vh.map (VA.ev e)) = H at *
        obtain rfl : H = 0 := by omega
        obtain rfl : L = 0 := by omega
        simpa using Rep.slE _ _ _
      | sl b o len cap z a' es vs ha hl' hc hz' hmm hrr =>
        subst ha hl'
        refine ⟨_, run _ _ cap hc b3 b4, ?_⟩
        generalize hiV es.length (vh.map (VA.ev e)) = H at *
        by_cases hE : H - L = 0
        · rw [hE]; simp only [List.take_zero]; exact .slE _ _ _
        · have hne : cap ≠ L := by omega
          rw [if_neg hne]
          refine .sl b (o + L * z') (H - L) (cap - L) z' _ _ (fun i j => vs (L + i) j) ?_ (by simp; omega) (by omega) (fun i hi => ?_) (fun i j hi hj => ?_) (fun i j hi hj => ?_)
          · by_cases h0 : L * z' = 0 <;> simp [Addr.add, h0]
          · rw [row_take _ _ _ hi, row_drop]; exact hz' _ (by omega)
          · rw [← hmm (L + i) j (by omega) hj, Nat.add_mul]; congr 1; omega
          · rw [row_take _ _ _ hi, row_drop]; exact hrr _ _ (by omega) hj
    case own id off len =>
      generalize loV (vl.map (VA.ev e)) = L at *
      cases hv with
      | ownE ao =>
        refine ⟨_, run ao 0 0 (Nat.le_refl _) b3 b4, ?_⟩
        generalize hiV 0 (vh.map (VA.ev e)) = H at *
        obtain rfl : H = 0 := by omega
        obtain rfl : L = 0 := by omega
        simpa using Rep.ownE _ _ _
      | own _ _ _ cap b o n' z2 a' hb ha hc hn =>
        subst ha
        obtain ⟨_, hm⟩ := hm
        split at hm
        case h_2 => exact hm.elim
        rename_i fz z' es hg
        subst hm
        rcases hr.blk id _ hg with ⟨hb0, _⟩ | ⟨b', o', n'', z'', hb', _, _, hokk⟩
        · rw [hb] at hb0; cases hb0
        · rw [hb] at hb'
          simp only [Option.some.injEq, Prod.mk.injEq] at hb'
          obtain ⟨rfl, rfl, rfl, rfl⟩ := hb'
          have hz2 := hokk.1
          subst hz2
          refine ⟨_, run _ _ cap hc b3 b4, ?_⟩
          generalize hiV len (vh.map (VA.ev e)) = H at *
          by_cases hE : cap = L
          · have : H - L = 0 := by omega
            rw [this, hE, Nat.sub_self]; exact .ownE _ _ _
          · rw [if_neg hE]
            have e1 : (off + L) * z' = off * z' + L * z' := Nat.add_mul _ _ _
            have e2 : (cap - L) * z' + L * z' = cap * z' := by rw [← Nat.add_mul]; congr 1; omega
            refine .own id (off + L) (H - L) (cap - L) b o n' z' _ hb ?_ (by omega) (by omega)
            by_cases h0 : L * z' = 0 <;> simp [Addr.add, h0] <;> omega

theorem fits_cells {p : PV} {n : Nat} (h : p.fits n = true) : p.cells.length = n := by
  cases p <;> simp [PV.fits] at h <;> simp [PV.cells] <;> omega
theorem overlay_len (cs : List PV) (o : Nat) (new : List PV) (h : o + new.length ≤ cs.length) : (overlay cs o new).length = cs.length := by
  simp [overlay]; omega
theorem overlay_nth (cs : List PV) (o : Nat) (new : List PV) (h : o + new.length ≤ cs.length) (j : Nat) :
    PV.nth (overlay cs o new) j = if o ≤ j ∧ j < o + new.length then PV.nth new (j - o) else PV.nth cs j := by
  simp only [overlay, PV.nth, List.getD_eq_getElem?_getD]
  by_cases h1 : j < o
  · rw [if_neg (by omega), List.append_assoc, List.getElem?_append_left (by simp; omega), List.getElem?_take, if_pos h1]
  · by_cases h2 : j < o + new.length
    · rw [if_pos ⟨by omega, h2⟩, List.append_assoc, List.getElem?_append_right (by simp; omega), List.getElem?_append_left (by simp; omega)]
      congr 2; simp; omega
    · rw [if_neg (by omega), List.getElem?_append_right (by simp; omega), List.getElem?_drop]
      congr 2; simp; omega
/-- Writing cells over an array from a place on. -/
theorem foldl_over : ∀ (new : List (Value)) (k o : Nat) (cs : Array Value), (new.zipIdx k).foldl (fun (cs : Array Value) (p : Value × Nat) => cs.setIfInBounds (o + p.2) p.1) cs =
    (new.zipIdx k).foldl (fun (cs : Array Value) (p : Value × Nat) => cs.setIfInBounds (o + p.2) p.1) cs := fun _ _ _ _ => rfl
theorem fold_size (o : Nat) : ∀ (new : List Value) (k : Nat) (cs : Array Value), ((new.zipIdx k).foldl (fun (cs : Array Value) (p : Value × Nat) => cs.setIfInBounds (o + p.2) p.1) cs).size = cs.size
  | [], _, _ => rfl
  | v :: r, k, cs => by simp only [List.zipIdx_cons, List.foldl_cons]; rw [fold_size o r]; simp
theorem fold_get (o : Nat) : ∀ (new : List Value) (k : Nat) (cs : Array Value), o + k + new.length ≤ cs.size → ∀ j,
    ((new.zipIdx k).foldl (fun (cs : Array Value) (p : Value × Nat) => cs.setIfInBounds (o + p.2) p.1) cs).getD j Go.undef =
      if o + k ≤ j ∧ j < o + k + new.length then new.getD (j - (o + k)) Go.undef else cs.getD j Go.undef
  | [], k, cs, h, j => by simp; intro h1 h2; omega
  | v :: r, k, cs, h, j => by
    simp only [List.zipIdx_cons, List.foldl_cons]
    simp only [List.length_cons] at h
    rw [fold_get o r (k + 1) _ (by simp; omega)]
    by_cases h1 : j = o + k
    · subst h1
      rw [if_neg (by omega), if_pos ⟨by omega, by simp⟩]
      have : o + k < cs.size := by omega
      simp [Array.getD, this]
    · by_cases h2 : o + (k + 1) ≤ j ∧ j < o + (k + 1) + r.length
      · rw [if_pos h2, if_pos ⟨by omega, by simp; omega⟩]
        have e1 : j - (o + k) = (j - (o + (k + 1))) + 1 := by omega
        rw [e1]; simp
      · rw [if_neg h2, if_neg (by simp; omega)]
        simp only [Array.getD_eq_getD_getElem?]
        rw [Array.getElem?_setIfInBounds_ne (by omega)]

/-- Filling a composite: the cells of the parts, laid over the zero cells. -/
theorem fill_sound (he : EnvRep g a e) (place : Nat → Option (Nat × Nat)) : ∀ (ps : List (Nat × Operand)) (qs : List (Nat × Nat × VA)) (cells : Array Value) (cs : List PV),
    ps.length = qs.length → (∀ (i : Nat) (p : Nat × Operand) (q : Nat × Nat × VA), ps[i]? = some p → qs[i]? = some q → place p.1 = some (q.1, q.2.1) ∧ cA p.2 = some q.2.2) →
    cells.size = cs.length → (∀ j, j < cs.length → (cells.getD j Go.undef).oneCell' = true ∧ Rep g (cells.getD j Go.undef) (PV.nth cs j)) → fillOk e cs.length qs →
    ∃ out, Instr.fill place cells (ps.map fun p => (p.1, a.eval p.2)) = some out ∧ out.size = cs.length ∧ (fillV e cs qs).length = cs.length ∧ ∀ j, j < cs.length → (out.getD j Go.undef).oneCell' = true ∧ Rep g (out.getD j Go.undef) (PV.nth (fillV e cs qs) j)
  | [], [], cells, cs, _, _, hs, hr, _ => ⟨cells, rfl, hs, rfl, hr⟩
  | p :: ps, q :: qs, cells, cs, hl, hp, hs, hr, hok => by
    obtain ⟨o, s, va⟩ := q
    obtain ⟨hf, hle, hok⟩ := hok
    obtain ⟨h1, h2⟩ := hp 0 p _ rfl rfl
    have hv := cA_rep he h2
    obtain ⟨z1, z2, z4, z3⟩ := hv.cells_size hf
    simp only at h1 z1 z2 z3 z4
    have hL : (overlay cs o (va.ev e).cells).length = cs.length := overlay_len _ _ _ (by omega)
    simp only [List.map_cons, Instr.fill, h1, fillV]
    rw [if_neg (by simp; omega)]
    have hnew : ∀ (C : Array Value), C = ((a.eval p.2).cells.zipIdx.foldl (fun (cs : Array Value) (x : Value × Nat) => cs.setIfInBounds (o + x.2) x.1) cells) →
        C.size = cs.length ∧ ∀ j, j < cs.length → (C.getD j Go.undef).oneCell' = true ∧ Rep g (C.getD j Go.undef) (PV.nth (overlay cs o (va.ev e).cells) j) := by
      intro C hC
      have e0 : C = (((a.eval p.2).cells.toList.zipIdx 0).foldl (fun (cs : Array Value) (x : Value × Nat) => cs.setIfInBounds (o + x.2) x.1) cells) := by
        rw [hC, ← Array.foldl_toList, Array.toList_zipIdx]
      refine ⟨by rw [e0, fold_size, hs], fun j hj => ?_⟩
      rw [e0, fold_get o _ 0 cells (by simp; omega), overlay_nth _ _ _ (by omega)]
      simp only [Nat.add_zero, Array.length_toList, z1, z2]
      split
      · rename_i hh
        have := And.intro (z4 (j - o) (by omega)) (z3 (j - o) (by omega))
        simpa [Array.getD_eq_getD_getElem?] using this
      · exact hr j hj
    obtain ⟨c1, c2⟩ := hnew _ rfl
    obtain ⟨out, r1, r2, r3, r4⟩ := fill_sound he place ps qs _ (overlay cs o (va.ev e).cells) (by simpa using hl) (fun i => by simpa using hp (i + 1)) (by rw [hL]; exact c1) (by rw [hL]; exact c2) (by rw [hL]; exact hok)
    rw [hL] at r2 r3 r4
    exact ⟨out, r1, r2, r3, r4⟩

end pure

end Go.VM

