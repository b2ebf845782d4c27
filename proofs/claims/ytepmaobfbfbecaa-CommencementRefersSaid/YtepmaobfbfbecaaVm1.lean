/-
  The value machine, 1: abstract values, what they stand for in memory, the ghost state, the abstract heap, and how a state evolves. No program in sight.
-/
import Derived.Calls
import Derived.Below
import Derived.Orders
import Derived.Laws.Sem
set_option linter.all false
namespace Go.VM
open Go

/-- Abstract values. Memory that never changes again is read as a tree (sl, ro); what is still written lies in the abstract heap (loc, own, mp). -/
inductive PV where
  | any
  | undef
  | bool (b : Bool)
  | int (k : IntKind) (n : Int)
  | str (s : List UInt8)
  | nilp
  | loc (id i off : Nat)
  | ro (cs : List PV)
  | nilsl
  | sl (z : Nat) (es : List (List PV))
  | own (id off len : Nat)
  | mp (id : Nat)
  | rmp (es : List (PV × PV))
  | nilmp
  | fn (f : Fn) (first captured : List PV)
  | nilfn
  | agg (cs : List PV)
  | tup (vs : List PV)
  | ifc (t : TypeId) (v : PV)
  | nilif
  deriving Inhabited

/-- Memory that never changes again: cells, maps. -/
structure Mem where
  c : Nat → Nat → Option Value
  mm : Nat → Option (Array MapEntry)
instance : CoeFun Mem (fun _ => Nat → Nat → Option Value) := ⟨Mem.c⟩
structure Gh where
  m : Mem
  β : Nat → Option (Nat × Nat × Nat × Nat)
/-- Nothing of the block is held fast. -/
def Gh.free (g : Gh) (b : Nat) : Prop := (∀ x, g.m b x = none) ∧ g.m.mm b = none

def Gh.le (g g' : Gh) : Prop :=
  (∀ b o v, g.m b o = some v → g'.m b o = some v) ∧ (∀ id x, g.β id = some x → g'.β id = some x) ∧ (∀ b e, g.m.mm b = some e → g'.m.mm b = some e)
theorem Gh.le_refl (g : Gh) : g.le g := ⟨fun _ _ _ h => h, fun _ _ h => h, fun _ _ h => h⟩
theorem Gh.le_trans {a b c : Gh} (h : a.le b) (k : b.le c) : a.le c :=
  ⟨fun x y v e => k.1 x y v (h.1 x y v e), fun i x e => k.2.1 i x (h.2.1 i x e), fun i x e => k.2.2 i x (h.2.2 i x e)⟩

def PV.nth (l : List PV) (j : Nat) : PV := l.getD j .any
def PV.row (es : List (List PV)) (i : Nat) : List PV := es.getD i []

/-- What an abstract value says of a value. -/
inductive Rep (g : Gh) : Value → PV → Prop
  | any (v : Value) : Rep g v .any
  | undef : Rep g Go.undef .undef
  | bool (b : Bool) : Rep g (.bool b) (.bool b)
  | int (k : IntKind) (n : Int) : Rep g (.int k n) (.int k n)
  | str (s : ByteArray) (l : List UInt8) (h : s.data.toList = l) : Rep g (.string s) (.str l)
  | nilp : Rep g (.pointer none) .nilp
  | loc (id i off b o n z : Nat) (a : Addr) (hb : g.β id = some (b, o, n, z)) (ha : a = ⟨b, o + i * z + off, none⟩) : Rep g (.pointer (some a)) (.loc id i off)
  | ro (b o : Nat) (a : Addr) (cs : List PV) (vs : Nat → Value) (ha : a = ⟨b, o, none⟩) (hm : ∀ j, j < cs.length → g.m b (o + j) = some (vs j))
      (hr : ∀ j, j < cs.length → Rep g (vs j) (PV.nth cs j)) : Rep g (.pointer (some a)) (.ro cs)
  | nilsl : Rep g (.slice none 0 0) .nilsl
  | slE (a : Option Addr) (cap z : Nat) : Rep g (.slice a 0 cap) (.sl z [])
  | sl (b o len cap z : Nat) (a : Addr) (es : List (List PV)) (vs : Nat → Nat → Value) (ha : a = ⟨b, o, none⟩) (hl : es.length = len) (hc : len ≤ cap)
      (hz : ∀ i, i < len → (PV.row es i).length = z) (hm : ∀ i j, i < len → j < z → g.m b (o + i * z + j) = some (vs i j))
      (hr : ∀ i j, i < len → j < z → Rep g (vs i j) (PV.nth (PV.row es i) j)) : Rep g (.slice (some a) len cap) (.sl z es)
  | ownE (a : Option Addr) (id off : Nat) : Rep g (.slice a 0 0) (.own id off 0)
  | own (id off len cap b o n z : Nat) (a : Addr) (hb : g.β id = some (b, o, n, z)) (ha : a = ⟨b, o + off * z, none⟩) (hc : len ≤ cap) (hn : o + off * z + cap * z ≤ n) :
      Rep g (.slice (some a) len cap) (.own id off len)
  | mp (id b o n z : Nat) (hb : g.β id = some (b, o, n, z)) : Rep g (.map (some b)) (.mp id)
  | rmp (b : Nat) (ents : Array MapEntry) (es : List (PV × PV)) (hm : g.m.mm b = some ents) (hl : ents.size = es.length) (hk : ∀ (i : Nat) (e : MapEntry) (p : PV × PV), ents[i]? = some e → es[i]? = some p → Rep g e.key p.1)
      (hv : ∀ (i : Nat) (e : MapEntry) (p : PV × PV), ents[i]? = some e → es[i]? = some p → Rep g e.val p.2) : Rep g (.map (some b)) (.rmp es)
  | nilmp : Rep g (.map none) .nilmp
  | fn (f : Fn) (fs cs : Array Value) (pf pc : List PV) (h1 : fs.size = pf.length) (h2 : cs.size = pc.length) (hf : ∀ j, j < pf.length → Rep g (fs.getD j Go.undef) (PV.nth pf j))
      (hc : ∀ j, j < pc.length → Rep g (cs.getD j Go.undef) (PV.nth pc j)) : Rep g (.func f fs cs) (.fn f pf pc)
  | nilfn : Rep g .nilFunc .nilfn
  | agg (vs : Array Value) (cs : List PV) (h : vs.size = cs.length) (h1 : ∀ j, j < cs.length → (vs.getD j Go.undef).oneCell' = true) (hr : ∀ j, j < cs.length → Rep g (vs.getD j Go.undef) (PV.nth cs j)) : Rep g (.agg vs) (.agg cs)
  | tup (vs : Array Value) (cs : List PV) (h : vs.size = cs.length) (hr : ∀ j, j < cs.length → Rep g (vs.getD j Go.undef) (PV.nth cs j)) : Rep g (.tuple vs) (.tup cs)
  | ifc (t : TypeId) (v : Value) (p : PV) (h : Rep g v p) : Rep g (.iface t v) (.ifc t p)
  | nilif : Rep g .nilIface .nilif

theorem Rep.mono {g g' : Gh} (hg : g.le g') {v : Value} {p : PV} (h : Rep g v p) : Rep g' v p := by
  induction h with
  | any v => exact .any v
  | undef => exact .undef
  | bool b => exact .bool b
  | int k n => exact .int k n
  | str s l h => exact .str s l h
  | nilp => exact .nilp
  | loc id i off b o n z a hb ha => exact .loc id i off b o n z a (hg.2.1 _ _ hb) ha
  | ro b o a cs vs ha hm hr ih => exact .ro b o a cs vs ha (fun j hj => hg.1 _ _ _ (hm j hj)) ih
  | nilsl => exact .nilsl
  | slE a cap z => exact .slE a cap z
  | sl b o len cap z a es vs ha hl hc hz hm hr ih => exact .sl b o len cap z a es vs ha hl hc hz (fun i j hi hj => hg.1 _ _ _ (hm i j hi hj)) ih
  | ownE a id off => exact .ownE a id off
  | own id off len cap b o n z a hb ha hc hn => exact .own id off len cap b o n z a (hg.2.1 _ _ hb) ha hc hn
  | mp id b o n z hb => exact .mp id b o n z (hg.2.1 _ _ hb)
  | rmp b ents es hm hl hk hv ihk ihv => exact .rmp b ents es (hg.2.2 _ _ hm) hl ihk ihv
  | nilmp => exact .nilmp
  | fn f fs cs pf pc h1 h2 hf hc ihf ihc => exact .fn f fs cs pf pc h1 h2 ihf ihc
  | nilfn => exact .nilfn
  | agg vs cs h h1 hr ih => exact .agg vs cs h h1 ih
  | tup vs cs h hr ih => exact .tup vs cs h ih
  | ifc t v p h ih => exact .ifc t v p ih
  | nilif => exact .nilif

/-- What stands for itself: it names no block of the abstract heap. -/
def Closed (p : PV) : Prop := ∀ g v, Rep g v p → Rep ⟨g.m, fun _ => none⟩ v p
/-- What is read off no memory at all. -/
def Scalar (p : PV) : Prop := ∀ g v, Rep g v p → ∀ g', Rep g' v p

abbrev Env := List (Nat × PV)
def Env.get : Env → Nat → PV
  | [], _ => .any
  | (k, v) :: r, t => if k = t then v else Env.get r t
def Env.put (e : Env) (d : Option Nat) (v : PV) : Env := match d with | some d => (d, v) :: e | none => e
def EnvRep (g : Gh) (a : Act) (e : Env) : Prop := ∀ t, Rep g (a.tmps.getD t Go.undef) (e.get t)
/-- e says less than e'. -/
def Env.le : Env → Env → Prop
  | [], _ => True
  | (k, v) :: r, e' => e'.get k = v ∧ Env.le r e'
def Env.keep (l : List Nat) (e : Env) : Env :=
  match l with
  | [] => []
  | t :: r => (t, e.get t) :: Env.keep r e

inductive AB where
  | arr (fz : Bool) (z : Nat) (es : List (List PV))
  | map (es : List (PV × PV))
  | siter (s : List UInt8) (pos : Nat)
  deriving Inhabited

/-- The blocks by their names; names from 'top' on were never given. -/
def HL := List (Nat × AB)
def HL.get : List (Nat × AB) → Nat → Option AB
  | [], _ => none
  | (k, v) :: r, t => if k = t then some v else HL.get r t
def HL.del : List (Nat × AB) → Nat → List (Nat × AB)
  | [], _ => []
  | (k, v) :: r, t => if k = t then HL.del r t else (k, v) :: HL.del r t
/-- Write into a block that is there, in its place. -/
def HL.set : List (Nat × AB) → Nat → AB → List (Nat × AB)
  | [], _, _ => []
  | (k, v) :: r, t, x => if k = t then (k, x) :: HL.del r t else (k, v) :: HL.set r t x
def HL.le : List (Nat × AB) → (Nat → Option AB) → Prop
  | [], _ => True
  | (k, v) :: r, f => f k = some v ∧ HL.le r f
structure Heap where
  l : List (Nat × AB)
  top : Nat
  deriving Inhabited
def Heap.nil : Heap := ⟨[], 0⟩
def Heap.get (h : Heap) (t : Nat) : Option AB := HL.get h.l t
def Heap.del (h : Heap) (t : Nat) : Heap := ⟨HL.del h.l t, h.top⟩
def Heap.set (h : Heap) (t : Nat) (x : AB) : Heap := ⟨HL.set h.l t x, h.top⟩
def Heap.push (h : Heap) (x : AB) : Heap := ⟨(h.top, x) :: h.l, h.top + 1⟩
def Heap.le (h h' : Heap) : Prop := h'.top ≤ h.top ∧ HL.le h.l (Heap.get h')

/-- Is it still written? -/
def AB.live : AB → Bool
  | .arr fz _ _ => !fz
  | _ => true
def AB.ok (g : Gh) (w : World) (b o n z : Nat) : AB → Prop
  | .arr fz z' es => z' = z ∧ (∀ i, i < es.length → (PV.row es i).length = z) ∧ o + es.length * z ≤ n ∧
      ∃ c e, w.heap[b]? = some (.cells c e (0, 0)) ∧ c.size = n ∧ ∀ i j, i < es.length → j < z → (c.getD (o + i * z + j) Go.undef).oneCell' = true ∧ Rep g (c.getD (o + i * z + j) Go.undef) (PV.nth (PV.row es i) j) ∧
        (fz = true → g.m b (o + i * z + j) = some (c.getD (o + i * z + j) Go.undef))
  | .map es => ∃ ents clock, w.heap[b]? = some (.map ents clock) ∧ ents.size = es.length ∧
      ∀ (i : Nat) (e : MapEntry) (p : PV × PV), ents[i]? = some e → es[i]? = some p → Rep g e.key p.1 ∧ Rep g e.val p.2
  | .siter s pos => ∃ s', w.heap[b]? = some (.stringIter s' pos) ∧ s'.data.toList = s

structure Rel (g : Gh) (w : World) (h : Heap) : Prop where
  mem : ∀ b o v, g.m b o = some v → w.cell? ⟨b, o, none⟩ = some v ∧ v.oneCell' = true
  mmem : ∀ b e, g.m.mm b = some e → ∃ clock, w.heap[b]? = some (.map e clock)
  fin : ∀ id, h.top ≤ id → g.β id = none ∧ h.get id = none
  blk : ∀ id ab, h.get id = some ab → (g.β id = none ∧ ∃ fz z, ab = .arr fz z []) ∨
    ∃ b o n z, g.β id = some (b, o, n, z) ∧ b < w.heap.size ∧ (ab.live = true → g.free b) ∧ ab.ok g w b o n z
  apart : ∀ id id' x x' ab ab', id ≠ id' → h.get id = some ab → h.get id' = some ab' → (ab.live || ab'.live) = true → g.β id = some x → g.β id' = some x' → x.1 ≠ x'.1

/-- The blocks that the abstract heap owns. -/
def Owned (g : Gh) (h : Heap) (b : Nat) : Prop := ∃ id ab x, h.get id = some ab ∧ ab.live = true ∧ g.β id = some x ∧ x.1 = b

structure Evo (g : Gh) (w : World) (h : Heap) (g' : Gh) (w' : World) (h' : Heap) : Prop where
  le : g.le g'
  os : w'.os = w.os
  tape : w'.tape = w.tape
  output : w'.output = w.output
  size : w.heap.size ≤ w'.heap.size
  block : ∀ b, b < w.heap.size → ¬ Owned g h b → w'.heap[b]? = w.heap[b]?
  mem : ∀ b o v, g'.m b o = some v → g.m b o = some v ∨ w.heap.size ≤ b ∨ Owned g h b
  mmem : ∀ b e, g'.m.mm b = some e → g.m.mm b = some e ∨ w.heap.size ≤ b ∨ Owned g h b
  own : ∀ b, Owned g' h' b → Owned g h b ∨ w.heap.size ≤ b

theorem Evo.refl (g : Gh) (w : World) (h : Heap) : Evo g w h g w h :=
  ⟨g.le_refl, rfl, rfl, rfl, Nat.le_refl _, fun _ _ _ => rfl, fun _ _ _ e => .inl e, fun _ _ e => .inl e, fun _ e => .inl e⟩

theorem Evo.trans {g g' g'' : Gh} {w w' w'' : World} {h h' h'' : Heap} (a : Evo g w h g' w' h') (b : Evo g' w' h' g'' w'' h'') : Evo g w h g'' w'' h'' := by
  refine ⟨Gh.le_trans a.le b.le, b.os.trans a.os, b.tape.trans a.tape, b.output.trans a.output, Nat.le_trans a.size b.size, ?_, ?_, ?_, ?_⟩
  · intro k hk hno
    rw [b.block k (Nat.lt_of_lt_of_le hk a.size) (fun ho => ?_), a.block k hk hno]
    rcases a.own k ho with h1 | h1
    · exact hno h1
    · omega
  · intro k o v e
    rcases b.mem k o v e with h1 | h1 | h1
    · exact a.mem k o v h1
    · exact .inr (.inl (Nat.le_trans a.size h1))
    · rcases a.own k h1 with h2 | h2
      · exact .inr (.inr h2)
      · exact .inr (.inl h2)
  · intro k e he
    rcases b.mmem k e he with h1 | h1 | h1
    · exact a.mmem k e h1
    · exact .inr (.inl (Nat.le_trans a.size h1))
    · rcases a.own k h1 with h2 | h2
      · exact .inr (.inr h2)
      · exact .inr (.inl h2)
  · intro k ho
    rcases b.own k ho with h1 | h1
    · exact a.own k h1
    · exact .inr (Nat.le_trans a.size h1)

/-! ### the small laws -/
theorem Env.get_put (e : Env) (d : Nat) (v : PV) (t : Nat) : (e.put (some d) v).get t = if d = t then v else e.get t := rfl
theorem EnvRep.mono {g g' : Gh} (hg : g.le g') {a : Act} {e : Env} (h : EnvRep g a e) : EnvRep g' a e := fun t => (h t).mono hg
theorem EnvRep.put {g : Gh} {a : Act} {e : Env} (h : EnvRep g a e) {d : Option Nat} {v : Value} {p : PV} (hv : Rep g v p) (hd : ∀ t, d = some t → t < a.tmps.size) :
    EnvRep g (a.put d v) (e.put d p) := by
  intro t
  cases d with
  | none => exact h t
  | some d =>
    have hlt := hd d rfl
    by_cases e1 : d = t
    · subst e1
      simp only [Env.put, Env.get, if_true, Act.put]
      simpa [Array.getD_eq_getD_getElem?, hlt] using hv
    · have := h t
      simp only [Env.put, Env.get, if_neg e1, Act.put]
      simpa [Array.getD_eq_getD_getElem?, Array.getElem?_setIfInBounds_ne e1] using this
theorem EnvRep.le {g : Gh} {a : Act} : ∀ {e e' : Env}, e.le e' → EnvRep g a e' → EnvRep g a e
  | [], _, _, _ => fun _ => .any _
  | (k, v) :: r, e', h, he => by
    intro t
    by_cases e1 : k = t
    · subst e1
      simp only [Env.get, if_true]
      rw [← h.1]; exact he k
    · simp only [Env.get, if_neg e1]
      exact EnvRep.le h.2 he t
theorem Env.keep_get (l : List Nat) (e : Env) (t : Nat) : (Env.keep l e).get t = e.get t ∨ (Env.keep l e).get t = .any := by
  induction l with
  | nil => exact .inr rfl
  | cons k l ih =>
    by_cases e1 : k = t
    · subst e1; left; simp [Env.keep, Env.get]
    · simpa [Env.keep, Env.get, if_neg e1] using ih
theorem EnvRep.keep {g : Gh} {a : Act} {e : Env} (l : List Nat) (h : EnvRep g a e) : EnvRep g a (Env.keep l e) := by
  intro t
  rcases Env.keep_get l e t with h1 | h1 <;> rw [h1]
  · exact h t
  · exact .any _

theorem HL.get_del (h : List (Nat × AB)) (k t : Nat) : HL.get (HL.del h k) t = if k = t then none else HL.get h t := by
  induction h with
  | nil => simp [HL.del, HL.get]
  | cons x r ih =>
    obtain ⟨i, v⟩ := x
    by_cases e1 : i = k
    · subst e1
      simp only [HL.del, if_true, HL.get, ih]
      split <;> rfl
    · simp only [HL.del, if_neg e1, HL.get, ih]
      by_cases e2 : i = t
      · subst e2; simp [Ne.symm e1]
      · simp [e2]
theorem Heap.get_del (h : Heap) (k t : Nat) : (h.del k).get t = if k = t then none else h.get t := HL.get_del h.l k t
theorem Heap.get_set (h : Heap) (k t : Nat) (x : AB) : (h.set k x).get t = if k = t then (if (h.get k).isSome then some x else none) else h.get t := by
  obtain ⟨h, n⟩ := h
  simp only [Heap.get, Heap.set]
  induction h with
  | nil => simp [HL.set, HL.get]
  | cons y r ih =>
    obtain ⟨i, v⟩ := y
    by_cases e1 : i = k
    · subst e1
      simp only [HL.set, if_true, HL.get, HL.get_del, Option.isSome_some]
      split <;> rfl
    · simp only [HL.set, if_neg e1, HL.get, ih]
      by_cases e2 : i = t
      · subst e2; simp [Ne.symm e1]
      · simp only [if_neg e2]
        rfl
theorem Heap.get_push (h : Heap) (x : AB) (t : Nat) : (h.push x).get t = if h.top = t then some x else h.get t := rfl
theorem HL.le_get : ∀ {h : List (Nat × AB)} {f : Nat → Option AB}, HL.le h f → ∀ id ab, HL.get h id = some ab → f id = some ab
  | [], _, _, _, _, e => by simp [HL.get] at e
  | (k, v) :: r, f, hl, id, ab, e => by
    by_cases e1 : k = id
    · subst e1; simp only [HL.get, if_true, Option.some.injEq] at e; subst e; exact hl.1
    · simp only [HL.get, if_neg e1] at e
      exact HL.le_get hl.2 id ab e
theorem Heap.le_get {h h' : Heap} (hl : h.le h') (id : Nat) (ab : AB) (e : h.get id = some ab) : h'.get id = some ab := HL.le_get hl.2 id ab e

/-- Some blocks less. -/
theorem Rel.weaken {g : Gh} {w : World} {h h' : Heap} (hl : h.le h') (r : Rel g w h') : Rel g w h :=
  ⟨r.mem, r.mmem, fun id hid => ⟨(r.fin id (Nat.le_trans hl.1 hid)).1, by
    cases e : h.get id with
    | none => rfl
    | some ab =>
      have h1 := Heap.le_get hl id ab e
      rw [(r.fin id (Nat.le_trans hl.1 hid)).2] at h1; cases h1⟩, fun id ab e => r.blk id ab (Heap.le_get hl id ab e), fun id id' x x' ab ab' hne e e' => r.apart id id' x x' ab ab' hne (Heap.le_get hl _ _ e) (Heap.le_get hl _ _ e')⟩
theorem Owned.weaken {g : Gh} {h h' : Heap} (hl : h.le h') {b : Nat} (o : Owned g h b) : Owned g h' b := by
  obtain ⟨id, ab, x, e, hv, hb, hx⟩ := o
  exact ⟨id, ab, x, Heap.le_get hl _ _ e, hv, hb, hx⟩
theorem Evo.weakenR {g : Gh} {w : World} {h : Heap} {g' : Gh} {w' : World} {h' h'' : Heap} (a : Evo g w h g' w' h') (hl : h''.le h') : Evo g w h g' w' h'' :=
  ⟨a.le, a.os, a.tape, a.output, a.size, a.block, a.mem, a.mmem, fun b ho => a.own b (ho.weaken hl)⟩
theorem Evo.weakenL {g : Gh} {w : World} {h h0 : Heap} {g' : Gh} {w' : World} {h' : Heap} (a : Evo g w h g' w' h') (hl : h.le h0) : Evo g w h0 g' w' h' :=
  ⟨a.le, a.os, a.tape, a.output, a.size, fun b hb hno => a.block b hb (fun ho => hno (ho.weaken hl)),
   fun b o v e => (a.mem b o v e).imp id (Or.imp id (Owned.weaken hl)), fun b o e => (a.mmem b o e).imp id (Or.imp id (Owned.weaken hl)), fun b ho => (a.own b ho).imp (Owned.weaken hl) id⟩
/-- A draw. -/
theorem Rel.drew {g : Gh} {w : World} {h : Heap} (r : Rel g w h) (k : Nat) : Rel g { w with drawn := k } h :=
  ⟨r.mem, r.mmem, r.fin, fun id ab e => (r.blk id ab e).imp (fun h => h) (fun ⟨b, o, n, z, h1, h2, h3, h4⟩ => ⟨b, o, n, z, h1, h2, h3, by cases ab <;> simpa [AB.ok] using h4⟩), r.apart⟩
theorem Evo.drew (g : Gh) (w : World) (h : Heap) (k : Nat) : Evo g w h g { w with drawn := k } h :=
  ⟨g.le_refl, rfl, rfl, rfl, Nat.le_refl _, fun _ _ _ => rfl, fun _ _ _ e => .inl e, fun _ _ e => .inl e, fun _ e => .inl e⟩
end Go.VM

