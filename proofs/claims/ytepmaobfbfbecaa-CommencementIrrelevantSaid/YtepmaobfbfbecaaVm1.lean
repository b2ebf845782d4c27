/-
  The value machine, 1: abstract values, what they stand for in memory, the ghost state, the abstract heap, and how a state evolves. No program in sight.
  The value machine, 2: operations as data ('VOp'), how they are read off the program's operations ('cOp'), and what they give on abstract values.
-/
import Derived.Calls
import Derived.Below
import Derived.Orders
import Derived.Laws.Sem
import Derived.Laws.Entries
import Derived.Laws.Append
set_option linter.all false
namespace Go.VM
open Go

/-- Abstract values. Memory that never changes again is read as a tree (sl, ro); what is still written lies in the abstract heap (loc, own, mp). -/
inductive PV where
  | any
  | undef
  | bool (b : Bool)
  | int (k : IntKind) (n : Int)
  | str (s : List UInt8)
  | nilp
  | loc (id i off : Nat)
  | ro (cs : List PV)
  | nilsl
  | sl (z : Nat) (es : List (List PV))
  | own (id off len : Nat)
  | mp (id : Nat)
  | rmp (es : List (PV × PV))
  | nilmp
  | fn (f : Fn) (first captured : List PV)
  | nilfn
  | agg (cs : List PV)
  | tup (vs : List PV)
  | ifc (t : TypeId) (v : PV)
  | nilif
  deriving Inhabited

/-- Memory that never changes again: cells, maps. -/
structure Mem where
  c : Nat → Nat → Option Value
  mm : Nat → Option (Array MapEntry)
instance : CoeFun Mem (fun _ => Nat → Nat → Option Value) := ⟨Mem.c⟩
structure Gh where
  m : Mem
  β : Nat → Option (Nat × Nat × Nat × Nat)
/-- Nothing of the block is held fast. -/
def Gh.free (g : Gh) (b : Nat) : Prop := (∀ x, g.m b x = none) ∧ g.m.mm b = none

def Gh.le (g g' : Gh) : Prop :=
  (∀ b o v, g.m b o = some v → g'.m b o = some v) ∧ (∀ id x, g.β id = some x → g'.β id = some x) ∧ (∀ b e, g.m.mm b = some e → g'.m.mm b = some e)
theorem Gh.le_refl (g : Gh) : g.le g := ⟨fun _ _ _ h => h, fun _ _ h => h, fun _ _ h => h⟩
theorem Gh.le_trans {a b c : Gh} (h : a.le b) (k : b.le c) : a.le c :=
  ⟨fun x y v e => k.1 x y v (h.1 x y v e), fun i x e => k.2.1 i x (h.2.1 i x e), fun i x e => k.2.2 i x (h.2.2 i x e)⟩

def PV.nth (l : List PV) (j : Nat) : PV := l.getD j .any
def PV.row (es : List (List PV)) (i : Nat) : List PV := es.getD i []

/-- What an abstract value says of a value. -/
inductive Rep (g : Gh) : Value → PV → Prop
  | any (v : Value) : Rep g v .any
  | undef : Rep g Go.undef .undef
  | bool (b : Bool) : Rep g (.bool b) (.bool b)
  | int (k : IntKind) (n : Int) : Rep g (.int k n) (.int k n)
  | str (s : ByteArray) (l : List UInt8) (h : s.data.toList = l) : Rep g (.string s) (.str l)
  | nilp : Rep g (.pointer none) .nilp
  | loc (id i off b o n z : Nat) (a : Addr) (hb : g.β id = some (b, o, n, z)) (ha : a = ⟨b, o + i * z + off, none⟩) : Rep g (.pointer (some a)) (.loc id i off)
  | ro (b o : Nat) (a : Addr) (cs : List PV) (vs : Nat → Value) (ha : a = ⟨b, o, none⟩) (hm : ∀ j, j < cs.length → g.m b (o + j) = some (vs j))
      (hr : ∀ j, j < cs.length → Rep g (vs j) (PV.nth cs j)) : Rep g (.pointer (some a)) (.ro cs)
  | nilsl : Rep g (.slice none 0 0) .nilsl
  | slE (a : Option Addr) (cap z : Nat) : Rep g (.slice a 0 cap) (.sl z [])
  | sl (b o len cap z : Nat) (a : Addr) (es : List (List PV)) (vs : Nat → Nat → Value) (ha : a = ⟨b, o, none⟩) (hl : es.length = len) (hc : len ≤ cap)
      (hz : ∀ i, i < len → (PV.row es i).length = z) (hm : ∀ i j, i < len → j < z → g.m b (o + i * z + j) = some (vs i j))
      (hr : ∀ i j, i < len → j < z → Rep g (vs i j) (PV.nth (PV.row es i) j)) : Rep g (.slice (some a) len cap) (.sl z es)
  | ownE (a : Option Addr) (id off : Nat) : Rep g (.slice a 0 0) (.own id off 0)
  | own (id off len cap b o n z : Nat) (a : Addr) (hb : g.β id = some (b, o, n, z)) (ha : a = ⟨b, o + off * z, none⟩) (hc : len ≤ cap) (hn : o + off * z + cap * z ≤ n) :
      Rep g (.slice (some a) len cap) (.own id off len)
  | mp (id b o n z : Nat) (hb : g.β id = some (b, o, n, z)) : Rep g (.map (some b)) (.mp id)
  | rmp (b : Nat) (ents : Array MapEntry) (es : List (PV × PV)) (hm : g.m.mm b = some ents) (hl : ents.size = es.length) (hk : ∀ (i : Nat) (e : MapEntry) (p : PV × PV), ents[i]? = some e → es[i]? = some p → Rep g e.key p.1)
      (hv : ∀ (i : Nat) (e : MapEntry) (p : PV × PV), ents[i]? = some e → es[i]? = some p → Rep g e.val p.2) : Rep g (.map (some b)) (.rmp es)
  | nilmp : Rep g (.map none) .nilmp
  | fn (f : Fn) (fs cs : Array Value) (pf pc : List PV) (h1 : fs.size = pf.length) (h2 : cs.size = pc.length) (hf : ∀ j, j < pf.length → Rep g (fs.getD j Go.undef) (PV.nth pf j))
      (hc : ∀ j, j < pc.length → Rep g (cs.getD j Go.undef) (PV.nth pc j)) : Rep g (.func f fs cs) (.fn f pf pc)
  | nilfn : Rep g .nilFunc .nilfn
  | agg (vs : Array Value) (cs : List PV) (h : vs.size = cs.length) (h1 : ∀ j, j < cs.length → (vs.getD j Go.undef).oneCell' = true) (hr : ∀ j, j < cs.length → Rep g (vs.getD j Go.undef) (PV.nth cs j)) : Rep g (.agg vs) (.agg cs)
  | tup (vs : Array Value) (cs : List PV) (h : vs.size = cs.length) (hr : ∀ j, j < cs.length → Rep g (vs.getD j Go.undef) (PV.nth cs j)) : Rep g (.tuple vs) (.tup cs)
  | ifc (t : TypeId) (v : Value) (p : PV) (h : Rep g v p) : Rep g (.iface t v) (.ifc t p)
  | nilif : Rep g .nilIface .nilif

theorem Rep.mono {g g' : Gh} (hg : g.le g') {v : Value} {p : PV} (h : Rep g v p) : Rep g' v p := by
  induction h with
  | any v => exact .any v
  | undef => exact .undef
  | bool b => exact .bool b
  | int k n => exact .int k n
  | str s l h => exact .str s l h
  | nilp => exact .nilp
  | loc id i off b o n z a hb ha => exact .loc id i off b o n z a (hg.2.1 _ _ hb) ha
  | ro b o a cs vs ha hm hr ih => exact .ro b o a cs vs ha (fun j hj => hg.1 _ _ _ (hm j hj)) ih
  | nilsl => exact .nilsl
  | slE a cap z => exact .slE a cap z
  | sl b o len cap z a es vs ha hl hc hz hm hr ih => exact .sl b o len cap z a es vs ha hl hc hz (fun i j hi hj => hg.1 _ _ _ (hm i j hi hj)) ih
  | ownE a id off => exact .ownE a id off
  | own id off len cap b o n z a hb ha hc hn => exact .own id off len cap b o n z a (hg.2.1 _ _ hb) ha hc hn
  | mp id b o n z hb => exact .mp id b o n z (hg.2.1 _ _ hb)
  | rmp b ents es hm hl hk hv ihk ihv => exact .rmp b ents es (hg.2.2 _ _ hm) hl ihk ihv
  | nilmp => exact .nilmp
  | fn f fs cs pf pc h1 h2 hf hc ihf ihc => exact .fn f fs cs pf pc h1 h2 ihf ihc
  | nilfn => exact .nilfn
  | agg vs cs h h1 hr ih => exact .agg vs cs h h1 ih
  | tup vs cs h hr ih => exact .tup vs cs h ih
  | ifc t v p h ih => exact .ifc t v p ih
  | nilif => exact .nilif

/-- What stands for itself: it names no block of the abstract heap. -/
def Closed (p : PV) : Prop := ∀ g v, Rep g v p → Rep ⟨g.m, fun _ => none⟩ v p
/-- What is read off no memory at all. -/
def Scalar (p : PV) : Prop := ∀ g v, Rep g v p → ∀ g', Rep g' v p

abbrev Env := List (Nat × PV)
def Env.get : Env → Nat → PV
  | [], _ => .any
  | (k, v) :: r, t => if k = t then v else Env.get r t
def Env.put (e : Env) (d : Option Nat) (v : PV) : Env := match d with | some d => (d, v) :: e | none => e
def EnvRep (g : Gh) (a : Act) (e : Env) : Prop := ∀ t, Rep g (a.tmps.getD t Go.undef) (e.get t)
/-- e says less than e'. -/
def Env.le : Env → Env → Prop
  | [], _ => True
  | (k, v) :: r, e' => e'.get k = v ∧ Env.le r e'
def Env.keep (l : List Nat) (e : Env) : Env :=
  match l with
  | [] => []
  | t :: r => (t, e.get t) :: Env.keep r e

inductive AB where
  | arr (fz : Bool) (z : Nat) (es : List (List PV))
  | map (es : List (PV × PV))
  | siter (s : List UInt8) (pos : Nat)
  deriving Inhabited

/-- The blocks by their names; names from 'top' on were never given. -/
def HL := List (Nat × AB)
def HL.get : List (Nat × AB) → Nat → Option AB
  | [], _ => none
  | (k, v) :: r, t => if k = t then some v else HL.get r t
def HL.del : List (Nat × AB) → Nat → List (Nat × AB)
  | [], _ => []
  | (k, v) :: r, t => if k = t then HL.del r t else (k, v) :: HL.del r t
/-- Write into a block that is there, in its place. -/
def HL.set : List (Nat × AB) → Nat → AB → List (Nat × AB)
  | [], _, _ => []
  | (k, v) :: r, t, x => if k = t then (k, x) :: HL.del r t else (k, v) :: HL.set r t x
def HL.le : List (Nat × AB) → (Nat → Option AB) → Prop
  | [], _ => True
  | (k, v) :: r, f => f k = some v ∧ HL.le r f
structure Heap where
  l : List (Nat × AB)
  top : Nat
  deriving Inhabited
def Heap.nil : Heap := ⟨[], 0⟩
def Heap.get (h : Heap) (t : Nat) : Option AB := HL.get h.l t
def Heap.del (h : Heap) (t : Nat) : Heap := ⟨HL.del h.l t, h.top⟩
def Heap.set (h : Heap) (t : Nat) (x : AB) : Heap := ⟨HL.set h.l t x, h.top⟩
def Heap.push (h : Heap) (x : AB) : Heap := ⟨(h.top, x) :: h.l, h.top + 1⟩
def Heap.le (h h' : Heap) : Prop := h'.top ≤ h.top ∧ HL.le h.l (Heap.get h')

/-- Is it still written? -/
def AB.live : AB → Bool
  | .arr fz _ _ => !fz
  | _ => true
def AB.ok (g : Gh) (w : World) (b o n z : Nat) : AB → Prop
  | .arr fz z' es => z' = z ∧ (∀ i, i < es.length → (PV.row es i).length = z) ∧ o + es.length * z ≤ n ∧
      ∃ c e, w.heap[b]? = some (.cells c e (0, 0)) ∧ c.size = n ∧ ∀ i j, i < es.length → j < z → (c.getD (o + i * z + j) Go.undef).oneCell' = true ∧ Rep g (c.getD (o + i * z + j) Go.undef) (PV.nth (PV.row es i) j) ∧
        (fz = true → g.m b (o + i * z + j) = some (c.getD (o + i * z + j) Go.undef))
  | .map es => ∃ ents clock, w.heap[b]? = some (.map ents clock) ∧ ents.size = es.length ∧
      ∀ (i : Nat) (e : MapEntry) (p : PV × PV), ents[i]? = some e → es[i]? = some p → Rep g e.key p.1 ∧ Rep g e.val p.2
  | .siter s pos => ∃ s', w.heap[b]? = some (.stringIter s' pos) ∧ s'.data.toList = s

structure Rel (g : Gh) (w : World) (h : Heap) : Prop where
  mem : ∀ b o v, g.m b o = some v → w.cell? ⟨b, o, none⟩ = some v ∧ v.oneCell' = true
  mmem : ∀ b e, g.m.mm b = some e → ∃ clock, w.heap[b]? = some (.map e clock)
  fin : ∀ id, h.top ≤ id → g.β id = none ∧ h.get id = none
  blk : ∀ id ab, h.get id = some ab → (g.β id = none ∧ ∃ fz z, ab = .arr fz z []) ∨
    ∃ b o n z, g.β id = some (b, o, n, z) ∧ b < w.heap.size ∧ (ab.live = true → g.free b) ∧ ab.ok g w b o n z
  apart : ∀ id id' x x' ab ab', id ≠ id' → h.get id = some ab → h.get id' = some ab' → (ab.live || ab'.live) = true → g.β id = some x → g.β id' = some x' → x.1 ≠ x'.1

/-- The blocks that the abstract heap owns. -/
def Owned (g : Gh) (h : Heap) (b : Nat) : Prop := ∃ id ab x, h.get id = some ab ∧ ab.live = true ∧ g.β id = some x ∧ x.1 = b

structure Evo (g : Gh) (w : World) (h : Heap) (g' : Gh) (w' : World) (h' : Heap) : Prop where
  le : g.le g'
  os : w'.os = w.os
  tape : w'.tape = w.tape
  output : w'.output = w.output
  size : w.heap.size ≤ w'.heap.size
  block : ∀ b, b < w.heap.size → ¬ Owned g h b → w'.heap[b]? = w.heap[b]?
  mem : ∀ b o v, g'.m b o = some v → g.m b o = some v ∨ w.heap.size ≤ b ∨ Owned g h b
  mmem : ∀ b e, g'.m.mm b = some e → g.m.mm b = some e ∨ w.heap.size ≤ b ∨ Owned g h b
  own : ∀ b, Owned g' h' b → Owned g h b ∨ w.heap.size ≤ b

theorem Evo.refl (g : Gh) (w : World) (h : Heap) : Evo g w h g w h :=
  ⟨g.le_refl, rfl, rfl, rfl, Nat.le_refl _, fun _ _ _ => rfl, fun _ _ _ e => .inl e, fun _ _ e => .inl e, fun _ e => .inl e⟩

theorem Evo.trans {g g' g'' : Gh} {w w' w'' : World} {h h' h'' : Heap} (a : Evo g w h g' w' h') (b : Evo g' w' h' g'' w'' h'') : Evo g w h g'' w'' h'' := by
  refine ⟨Gh.le_trans a.le b.le, b.os.trans a.os, b.tape.trans a.tape, b.output.trans a.output, Nat.le_trans a.size b.size, ?_, ?_, ?_, ?_⟩
  · intro k hk hno
    rw [b.block k (Nat.lt_of_lt_of_le hk a.size) (fun ho => ?_), a.block k hk hno]
    rcases a.own k ho with h1 | h1
    · exact hno h1
    · omega
  · intro k o v e
    rcases b.mem k o v e with h1 | h1 | h1
    · exact a.mem k o v h1
    · exact .inr (.inl (Nat.le_trans a.size h1))
    · rcases a.own k h1 with h2 | h2
      · exact .inr (.inr h2)
      · exact .inr (.inl h2)
  · intro k e he
    rcases b.mmem k e he with h1 | h1 | h1
    · exact a.mmem k e h1
    · exact .inr (.inl (Nat.le_trans a.size h1))
    · rcases a.own k h1 with h2 | h2
      · exact .inr (.inr h2)
      · exact .inr (.inl h2)
  · intro k ho
    rcases b.own k ho with h1 | h1
    · exact a.own k h1
    · exact .inr (Nat.le_trans a.size h1)

/-! ### the small laws -/
theorem Env.get_put (e : Env) (d : Nat) (v : PV) (t : Nat) : (e.put (some d) v).get t = if d = t then v else e.get t := rfl
theorem EnvRep.mono {g g' : Gh} (hg : g.le g') {a : Act} {e : Env} (h : EnvRep g a e) : EnvRep g' a e := fun t => (h t).mono hg
theorem EnvRep.put {g : Gh} {a : Act} {e : Env} (h : EnvRep g a e) {d : Option Nat} {v : Value} {p : PV} (hv : Rep g v p) (hd : ∀ t, d = some t → t < a.tmps.size) :
    EnvRep g (a.put d v) (e.put d p) := by
  intro t
  cases d with
  | none => exact h t
  | some d =>
    have hlt := hd d rfl
    by_cases e1 : d = t
    · subst e1
      simp only [Env.put, Env.get, if_true, Act.put]
      simpa [Array.getD_eq_getD_getElem?, hlt] using hv
    · have := h t
      simp only [Env.put, Env.get, if_neg e1, Act.put]
      simpa [Array.getD_eq_getD_getElem?, Array.getElem?_setIfInBounds_ne e1] using this
theorem EnvRep.le {g : Gh} {a : Act} : ∀ {e e' : Env}, e.le e' → EnvRep g a e' → EnvRep g a e
  | [], _, _, _ => fun _ => .any _
  | (k, v) :: r, e', h, he => by
    intro t
    by_cases e1 : k = t
    · subst e1
      simp only [Env.get, if_true]
      rw [← h.1]; exact he k
    · simp only [Env.get, if_neg e1]
      exact EnvRep.le h.2 he t
theorem Env.keep_get (l : List Nat) (e : Env) (t : Nat) : (Env.keep l e).get t = e.get t ∨ (Env.keep l e).get t = .any := by
  induction l with
  | nil => exact .inr rfl
  | cons k l ih =>
    by_cases e1 : k = t
    · subst e1; left; simp [Env.keep, Env.get]
    · simpa [Env.keep, Env.get, if_neg e1] using ih
theorem EnvRep.keep {g : Gh} {a : Act} {e : Env} (l : List Nat) (h : EnvRep g a e) : EnvRep g a (Env.keep l e) := by
  intro t
  rcases Env.keep_get l e t with h1 | h1 <;> rw [h1]
  · exact h t
  · exact .any _

theorem HL.get_del (h : List (Nat × AB)) (k t : Nat) : HL.get (HL.del h k) t = if k = t then none else HL.get h t := by
  induction h with
  | nil => simp [HL.del, HL.get]
  | cons x r ih =>
    obtain ⟨i, v⟩ := x
    by_cases e1 : i = k
    · subst e1
      simp only [HL.del, if_true, HL.get, ih]
      split <;> rfl
    · simp only [HL.del, if_neg e1, HL.get, ih]
      by_cases e2 : i = t
      · subst e2; simp [Ne.symm e1]
      · simp [e2]
theorem Heap.get_del (h : Heap) (k t : Nat) : (h.del k).get t = if k = t then none else h.get t := HL.get_del h.l k t
theorem Heap.get_set (h : Heap) (k t : Nat) (x : AB) : (h.set k x).get t = if k = t then (if (h.get k).isSome then some x else none) else h.get t := by
  obtain ⟨h, n⟩ := h
  simp only [Heap.get, Heap.set]
  induction h with
  | nil => simp [HL.set, HL.get]
  | cons y r ih =>
    obtain ⟨i, v⟩ := y
    by_cases e1 : i = k
    · subst e1
      simp only [HL.set, if_true, HL.get, HL.get_del, Option.isSome_some]
      split <;> rfl
    · simp only [HL.set, if_neg e1, HL.get, ih]
      by_cases e2 : i = t
      · subst e2; simp [Ne.symm e1]
      · simp only [if_neg e2]
        rfl
theorem Heap.get_push (h : Heap) (x : AB) (t : Nat) : (h.push x).get t = if h.top = t then some x else h.get t := rfl
theorem HL.le_get : ∀ {h : List (Nat × AB)} {f : Nat → Option AB}, HL.le h f → ∀ id ab, HL.get h id = some ab → f id = some ab
  | [], _, _, _, _, e => by simp [HL.get] at e
  | (k, v) :: r, f, hl, id, ab, e => by
    by_cases e1 : k = id
    · subst e1; simp only [HL.get, if_true, Option.some.injEq] at e; subst e; exact hl.1
    · simp only [HL.get, if_neg e1] at e
      exact HL.le_get hl.2 id ab e
theorem Heap.le_get {h h' : Heap} (hl : h.le h') (id : Nat) (ab : AB) (e : h.get id = some ab) : h'.get id = some ab := HL.le_get hl.2 id ab e

/-- Some blocks less. -/
theorem Rel.weaken {g : Gh} {w : World} {h h' : Heap} (hl : h.le h') (r : Rel g w h') : Rel g w h :=
  ⟨r.mem, r.mmem, fun id hid => ⟨(r.fin id (Nat.le_trans hl.1 hid)).1, by
    cases e : h.get id with
    | none => rfl
    | some ab =>
      have h1 := Heap.le_get hl id ab e
      rw [(r.fin id (Nat.le_trans hl.1 hid)).2] at h1; cases h1⟩, fun id ab e => r.blk id ab (Heap.le_get hl id ab e), fun id id' x x' ab ab' hne e e' => r.apart id id' x x' ab ab' hne (Heap.le_get hl _ _ e) (Heap.le_get hl _ _ e')⟩
theorem Owned.weaken {g : Gh} {h h' : Heap} (hl : h.le h') {b : Nat} (o : Owned g h b) : Owned g h' b := by
  obtain ⟨id, ab, x, e, hv, hb, hx⟩ := o
  exact ⟨id, ab, x, Heap.le_get hl _ _ e, hv, hb, hx⟩
theorem Evo.weakenR {g : Gh} {w : World} {h : Heap} {g' : Gh} {w' : World} {h' h'' : Heap} (a : Evo g w h g' w' h') (hl : h''.le h') : Evo g w h g' w' h'' :=
  ⟨a.le, a.os, a.tape, a.output, a.size, a.block, a.mem, a.mmem, fun b ho => a.own b (ho.weaken hl)⟩
theorem Evo.weakenL {g : Gh} {w : World} {h h0 : Heap} {g' : Gh} {w' : World} {h' : Heap} (a : Evo g w h g' w' h') (hl : h.le h0) : Evo g w h0 g' w' h' :=
  ⟨a.le, a.os, a.tape, a.output, a.size, fun b hb hno => a.block b hb (fun ho => hno (ho.weaken hl)),
   fun b o v e => (a.mem b o v e).imp id (Or.imp id (Owned.weaken hl)), fun b o e => (a.mmem b o e).imp id (Or.imp id (Owned.weaken hl)), fun b ho => (a.own b ho).imp (Owned.weaken hl) id⟩
/-- A draw. -/
theorem Rel.drew {g : Gh} {w : World} {h : Heap} (r : Rel g w h) (k : Nat) : Rel g { w with drawn := k } h :=
  ⟨r.mem, r.mmem, r.fin, fun id ab e => (r.blk id ab e).imp (fun h => h) (fun ⟨b, o, n, z, h1, h2, h3, h4⟩ => ⟨b, o, n, z, h1, h2, h3, by cases ab <;> simpa [AB.ok] using h4⟩), r.apart⟩
theorem Evo.drew (g : Gh) (w : World) (h : Heap) (k : Nat) : Evo g w h g { w with drawn := k } h :=
  ⟨g.le_refl, rfl, rfl, rfl, Nat.le_refl _, fun _ _ _ => rfl, fun _ _ _ e => .inl e, fun _ _ e => .inl e, fun _ e => .inl e⟩
end Go.VM


namespace Go.VM
open Go

inductive VA where
  | t (n : Nat)
  | c (p : PV)
  deriving Inhabited
def VA.ev (e : Env) : VA → PV
  | .t n => e.get n
  | .c p => p

def cst : Value → Option PV
  | .bool b => some (.bool b)
  | .int k n => some (.int k n)
  | .string s => some (.str s.data.toList)
  | .slice none 0 0 => some .nilsl
  | .pointer none => some .nilp
  | .map none => some .nilmp
  | .nilFunc => some .nilfn
  | .nilIface => some .nilif
  | .func (.func f) ⟨[]⟩ ⟨[]⟩ => some (.fn (.func f) [] [])
  | _ => none
def csts : List Value → Option (List PV)
  | [] => some []
  | v :: r => match cst v, csts r with
    | some p, some q => some (p :: q)
    | _, _ => none

def cA : Operand → Option VA
  | .tmp t => some (.t t)
  | .const v => (cst v).map .c
  | .func f => some (.c (.fn (.func f) [] []))
  | .global _ => none
def cAs : List Operand → Option (List VA)
  | [] => some []
  | v :: r => match cA v, cAs r with
    | some p, some q => some (p :: q)
    | _, _ => none
def cAo : Option Operand → Option (Option VA)
  | none => some none
  | some x => (cA x).map some

/-- Kinds of cells that == compares. -/
inductive EK where
  | b | i | s
  deriving DecidableEq, Inhabited
/-- Kinds of keys of a map. -/
inductive KK where
  | one (k : EK)
  | st (ks : List EK)
  deriving DecidableEq, Inhabited
/-- Further operations that only look. -/
inductive PX where
  | nck
  | unx
  | isnil (neg : Bool)
  deriving DecidableEq, Inhabited
/-- Further operations that make or write memory. -/
inductive FX where
  | slice0 (z : Nat)
  | mk0 (z : Nat)
  | clear (z : Nat) (zr : List PV)
  deriving Inhabited
inductive VOp where
  | mv (a : VA)
  | pick (c a b : VA)
  | alloc (zero : List PV)
  | box (n : Nat) (a : VA)
  | build (zero : List PV) (parts : List (Nat × Nat × VA))
  | bslice (z n : Nat) (zero : List PV) (parts : List (Nat × VA))
  | load (agg : Bool) (sz : Nat) (a : VA)
  | store (sz : Nat) (a v : VA)
  | bin (op : BinOp) (a b : VA)
  | binb (op : BinOp) (a b : VA)
  | strid (a : VA)
  | eqs (neg : Bool) (ks : List EK) (a b : VA)
  | isnil (neg : Bool) (a : VA)
  | un (op : UnOp) (a : VA)
  | conv (k : IntKind) (a : VA)
  | b2s (a : VA)
  | s2b (a : VA)
  | mkfn (f : Fn) (first cap : List VA)
  | slice (st : Bool) (z : Nat) (a : VA) (lo hi : Option VA)
  | faddr (off : Nat) (a : VA)
  | fld (agg : Bool) (off sz : Nat) (a : VA)
  | iaddr (z : Nat) (a i : VA)
  | idx (a i : VA)
  | ext (a : VA) (i : Nat)
  | len (st : Bool) (a : VA)
  | app (z bytes : Nat) (zero : List PV) (str : Bool) (a b : VA)
  | mm (mx : Bool) (args : List VA)
  | mkmap
  | lookup (kk : KK) (zero : PV) (ok : Bool) (m k : VA)
  | mapset (kk : KK) (m k v : VA)
  | mlen (m : VA)
  | call (f : FuncId) (args : List VA)
  | callv (f : VA) (args : List VA)
  | px (k : PX) (l : List VA)
  | fx (k : FX) (l : List VA)
  | nd (neg : Bool) (a : VA)
  | other (o : Oper)
  deriving Inhabited

/-! ### reading the program's operations -/
def szOf (P : Program) (t : TypeId) : Option Nat := (P.info? t).map (·.size)
def aggOf (P : Program) (t : TypeId) : Option Bool :=
  match P.underlying t with
  | some (.struct _) | some (.array _ _) => some true
  | some _ => some false
  | none => none
def zeroOf (P : Program) (t : TypeId) : Option (List PV) :=
  match P.info? t with
  | some i => match i.zero with
    | some v => csts v.cells.toList
    | none => none
  | none => none
def fieldOf (P : Program) (t : TypeId) (f : Nat) : Option Field :=
  match P.underlying t with
  | some (.struct fs) => fs[f]?
  | _ => none
/-- Types whose == compares cell by cell: no floats, no pointers, nothing that may be stood in for. -/
def flatFs (P : Program) (F : TypeId → Option (List EK)) : List Field → Nat → Option (List EK)
  | [], _ => some []
  | f :: r, o => if f.name != "_" && f.offset == o then (match F f.type with
    | some ks => (match flatFs P F r (o + ks.length) with | some q => some (ks ++ q) | none => none)
    | none => none) else none
def flatK (P : Program) : Nat → TypeId → Option (List EK)
  | 0, _ => none
  | d + 1, t => match P.underlying t with
    | some .bool => if szOf P t == some 1 then some [.b] else none
    | some (.int _) => if szOf P t == some 1 then some [.i] else none
    | some .string => if szOf P t == some 1 then some [.s] else none
    | some (.struct fs) => (match flatFs P (flatK P d) fs.toList 0 with
      | some ks => if !P.stoodInHeld t && szOf P t == some ks.length then some ks else none
      | none => none)
    | _ => none
def keyK (P : Program) (t : TypeId) : Option KK :=
  match P.underlying t with
  | some .bool => some (.one .b)
  | some (.int _) => some (.one .i)
  | some .string => some (.one .s)
  | some (.struct _) => (flatK P 6 t).map .st
  | _ => none
def zeroP (P : Program) (t : TypeId) : Option PV :=
  match P.info? t with
  | some i => match i.zero with
    | some (.agg cs) => (csts cs.toList).map .agg
    | some v => cst v
    | none => none
  | none => none
def fnOk (P : Program) (f : FuncId) : Bool :=
  match P.funcs[f]? with
  | some fn => fn.name != "runtime.NumGoroutine" && fn.body.isSome
  | none => false
def cParts (P : Program) (t : TypeId) : List (Nat × Operand) → Option (List (Nat × Nat × VA))
  | [] => some []
  | (i, x) :: r =>
    match (match P.underlying t with
      | some (.struct fs) => (match fs[i]? with | some f => (szOf P f.type).map fun s => (f.offset, s) | none => none)
      | some (.array _ e) => (szOf P e).map fun s => (i * s, s)
      | _ => none), cA x, cParts P t r with
    | some (o, s), some a, some q => some ((o, s, a) :: q)
    | _, _, _ => none
def fieldsOk (P : Program) (t : TypeId) : Bool :=
  match P.underlying t with
  | some (.struct fs) => fs.toList.all fun f => (szOf P f.type).isSome
  | some (.array _ e) => (szOf P e).isSome
  | _ => false
def cElems : List (Nat × Operand) → Option (List (Nat × VA))
  | [] => some []
  | (i, x) :: r => match cA x, cElems r with
    | some a, some q => some ((i, a) :: q)
    | _, _ => none

def cCall (P : Program) (c : Call) (o : Oper) : Option VOp :=
  match c.callee with
  | .builtin .len => match c.args.toList, c.argTypes.toList with
    | [x], [t] => match cA x, P.underlying t with
      | some a, some .string => some (.len true a)
      | some a, some (.slice _) => some (.len false a)
      | some a, some (.map _ _) => some (.mlen a)
      | _, _ => none
    | _, _ => none
  | .builtin .append => match c.args.toList, c.argTypes.toList with
    | [x, y], [t, u] => match cA x, cA y, P.underlying t, P.underlying u with
      | some a, some b, some (.slice e), some (.slice e') => match szOf P e, zeroOf P e with
        | some z, some zr => if e == e' && zr.length == z then (P.info? e).map fun i => .app z i.bytes zr false a b else none
        | _, _ => none
      | some a, some b, some (.slice e), some .string => match szOf P e, zeroOf P e with
        | some z, some zr => if z == 1 && zr.length == z then (P.info? e).map fun i => .app z i.bytes zr true a b else none
        | _, _ => none
      | _, _, _, _ => none
    | _, _ => none
  | .builtin .max => (cAs c.args.toList).map (.mm true)
  | .builtin .min => (cAs c.args.toList).map (.mm false)
  | .value (.func f) => if fnOk P f then (cAs c.args.toList).map (.call f) else none
  | .value (.const (.func (.func f) ⟨[]⟩ ⟨[]⟩)) => if fnOk P f then (cAs c.args.toList).map (.call f) else none
  | .value x => match cA x, cAs c.args.toList with
    | some a, some l => some (.callv a l)
    | _, _ => none
  | _ => some (.other o)

def zeroC : Operand → Bool
  | .const (.int .i64 0) => true
  | _ => false
/-- Kinds of types whose values are held against nil. -/
def nilT (P : Program) (t : TypeId) : Bool :=
  match P.underlying t with
  | some (.slice _) => true
  | _ => false
def nilC : Operand → Bool
  | .const (.slice none 0 0) => true
  | _ => false
def cCallX (P : Program) (c : Call) : Option VOp :=
  match c.callee with
  | .builtin .clear => match c.args.toList, c.argTypes.toList with
    | [x], [t] => match P.underlying t, cA x with
      | some (.slice e), some a => match szOf P e, zeroOf P e with
        | some z, some zr => if zr.length == z then some (.fx (.clear z zr) [a]) else none
        | _, _ => none
      | _, _ => none
    | _, _ => none
  | _ => none
/-- The further operations. -/
def cX (P : Program) (o : Oper) : Option VOp :=
  match o.op with
  | .nilCheck x => (cA x).map fun a => .px .nck [a]
  | .unOp .xor _ x => (cA x).map fun a => .px .unx [a]
  | .slice t x none (some hi) (some mx) => if zeroC hi && zeroC mx then (match P.underlying t, cA x with
    | some (.slice e), some a => (szOf P e).map fun z => .fx (.slice0 z) [a]
    | _, _ => none) else none
  | .slice t x (some lo) (some hi) (some mx) => if zeroC lo && zeroC hi && zeroC mx then (match P.underlying t, cA x with
    | some (.slice e), some a => (szOf P e).map fun z => .fx (.slice0 z) [a]
    | _, _ => none) else none
  | .binOp .eql t x y _ => if nilC y && nilT P t then (cA x).map fun a => .nd false a else none
  | .binOp .neq t x y _ => if nilC y && nilT P t then (cA x).map fun a => .nd true a else none
  | .buildSlice t n parts => if n == 0 && parts.isEmpty then (match P.underlying t with
    | some (.slice e) => match szOf P e, zeroOf P e with
      | some z, some zr => if zr.length == z && z != 0 then some (.fx (.mk0 z) []) else none
      | _, _ => none
    | _ => none) else none
  | .call c => cCallX P c
  | .insert t m k v => match P.underlying t, cA m, cA k, cA v with
    | some (.map kt _), some a, some b, some c => (keyK P kt).map fun kk => .mapset kk a b c
    | _, _, _, _ => none
  | _ => none
def cOp0 (P : Program) (o : Oper) : Option VOp :=
  match o.op with
  | .move x | .assign x => (cA x).map .mv
  | .pick c a b => match cA c, cA a, cA b with
    | some c, some a, some b => some (.pick c a b)
    | _, _, _ => none
  | .alloc t => (zeroOf P t).map .alloc
  | .box t x => match cA x, szOf P t with
    | some a, some n => some (.box n a)
    | _, _ => none
  | .build t parts => match zeroOf P t, cParts P t parts.toList with
    | some zr, some ps => if fieldsOk P t then some (.build zr ps) else none
    | _, _ => none
  | .buildSlice t n parts => match P.underlying t with
    | some (.slice e) => match szOf P e, zeroOf P e, cElems parts.toList with
      | some z, some zr, some ps => if n * z ≤ 2 ^ 20 && zr.length == z && z != 0 then some (.bslice z n zr ps) else none
      | _, _, _ => none
    | _ => none
  | .load t a => match cA a, aggOf P t, szOf P t with
    | some a, some g, some s => some (.load g s a)
    | _, _, _ => none
  | .store t a v => match cA a, cA v, szOf P t with
    | some a, some v, some s => some (.store s a v)
    | _, _, _ => none
  | .binOp op t x y _ => match cA x, cA y, P.underlying t with
    | some a, some b, some .bool => some (.binb op a b)
    | some a, some b, some (.int _) => some (.bin op a b)
    | some a, some b, some .string => some (.bin op a b)
    | some a, some b, some (.struct _) => match op with
      | .eql => (match flatK P 6 t with | some ks => if !P.eqGuardType P.depth t then some (.eqs false ks a b) else none | none => none)
      | .neq => (match flatK P 6 t with | some ks => if !P.eqGuardType P.depth t then some (.eqs true ks a b) else none | none => none)
      | _ => none
    | _, _, _ => some (.other o)
  | .unOp op _ x => (cA x).map (.un op)
  | .convert s d x => match cA x, P.underlying s, P.underlying d with
    | some a, some (.int _), some (.int k) => some (.conv k a)
    | some a, some .string, some .string => some (.strid a)
    | _, _, _ => some (.other o)
  | .makeFunc f first cap => match f, cAs first.toList, cAs cap.toList with
    | .func _, some a, some b => some (.mkfn f a b)
    | _, _, _ => none
  | .slice t x lo hi none => match P.underlying t, cA x, cAo lo, cAo hi with
    | some .string, some a, some l, some h => some (.slice true 0 a l h)
    | some (.slice e), some a, some l, some h => (szOf P e).map fun z => .slice false z a l h
    | _, _, _, _ => none
  | .fieldAddr t x f => match fieldOf P t f, cA x with
    | some fd, some a => match szOf P fd.type with
      | some s => if s == 0 then none else some (.faddr fd.offset a)
      | none => none
    | _, _ => none
  | .field t x f => match fieldOf P t f, cA x with
    | some fd, some a => match szOf P fd.type, aggOf P fd.type with
      | some s, some g => some (.fld g fd.offset s a)
      | _, _ => none
    | _, _ => none
  | .indexAddr t x i => match P.underlying t, cA x, cA i with
    | some (.slice e), some a, some i => (szOf P e).map fun z => .iaddr z a i
    | _, _, _ => none
  | .index t x i => match P.underlying t, cA x, cA i with
    | some .string, some a, some i => some (.idx a i)
    | _, _, _ => none
  | .extract x i => (cA x).map fun a => .ext a i
  | .makeMap _ none => some .mkmap
  | .lookup t m k ok => match P.underlying t, cA m, cA k with
    | some (.map kt et), some a, some b => match keyK P kt, zeroP P et with
      | some kk, some zr => some (.lookup kk zr ok a b)
      | _, _ => some (.other o)
    | _, _, _ => some (.other o)
  | .mapUpdate t m k v => match P.underlying t, cA m, cA k, cA v with
    | some (.map kt _), some a, some b, some c => match keyK P kt with
      | some kk => some (.mapset kk a b c)
      | none => some (.other o)
    | _, _, _, _ => some (.other o)
  | .call c => cCall P c o
  | _ => some (.other o)

def cOp (P : Program) (o : Oper) : Option VOp :=
  match cX P o with
  | some v => some v
  | none => cOp0 P o

/-! ### what the operations give -/
def PV.cells : PV → List PV
  | .agg cs => cs
  | v => [v]
def PV.fits (n : Nat) : PV → Bool
  | .agg cs => cs.length == n
  | .any | .undef | .tup _ => false
  | _ => n == 1
def overlay (cs : List PV) (off : Nat) (new : List PV) : List PV := cs.take off ++ new ++ cs.drop (off + new.length)
def gd (c : Bool) (p : PV) : PV := if c then p else .undef
def pickV : PV → PV → PV → PV
  | .bool c, a, b => if c then a else b
  | _, _, _ => .any
def isBool : PV → Prop
  | .bool _ => True
  | _ => False
def aggV (agg : Bool) (cs : List PV) : PV := if agg then .agg cs else PV.nth cs 0
def intV (op : BinOp) (k : IntKind) (a b : Int) : PV :=
  match op with
  | .add => .int k (k.wrap (a + b))
  | .sub => .int k (k.wrap (a - b))
  | .mul => .int k (k.wrap (a * b))
  | .quo => .int k (k.wrap (a.tdiv b))
  | .rem => .int k (a.tmod b)
  | .and => .int k (k.wrap (BitVec.ofInt k.bits a &&& BitVec.ofInt k.bits b).toNat)
  | .or => .int k (k.wrap (BitVec.ofInt k.bits a ||| BitVec.ofInt k.bits b).toNat)
  | .xor => .int k (k.wrap (BitVec.ofInt k.bits a ^^^ BitVec.ofInt k.bits b).toNat)
  | .andNot => .int k (k.wrap (BitVec.ofInt k.bits a &&& ~~~BitVec.ofInt k.bits b).toNat)
  | .shl => .int k (k.wrap (a * 2 ^ (min b.toNat k.bits)))
  | .shr => .int k (a.fdiv (2 ^ (min b.toNat k.bits)))
  | .eql => .bool (a == b)
  | .neq => .bool (a != b)
  | .lss => .bool (decide (a < b))
  | .leq => .bool (decide (a ≤ b))
  | .gtr => .bool (decide (b < a))
  | .geq => .bool (decide (b ≤ a))
def strV (op : BinOp) (a b : List UInt8) : PV :=
  match op with
  | .add => .str (a ++ b)
  | .eql => .bool (a == b)
  | .neq => .bool (a != b)
  | .lss => .bool (Op.bytesLess a b)
  | .leq => .bool (Op.bytesLess a b || a == b)
  | .gtr => .bool (!(Op.bytesLess a b || a == b))
  | .geq => .bool (!Op.bytesLess a b)
  | _ => .any
def boolV (op : BinOp) (a b : Bool) : PV :=
  match op with
  | .eql => .bool (a == b)
  | .neq => .bool (a != b)
  | _ => .any
def binV (op : BinOp) : PV → PV → PV
  | .int k a, .int _ b => intV op k a b
  | .str a, .str b => strV op a b
  | _, _ => .any
def binbV (op : BinOp) : PV → PV → PV
  | .bool a, .bool b => boolV op a b
  | _, _ => .any
def binbOk (op : BinOp) : PV → PV → Prop
  | .bool _, .bool _ => (match op with
    | .eql | .neq => True
    | _ => False)
  | _, _ => False
def isStr : PV → Prop
  | .str _ => True
  | _ => False
def binOk (op : BinOp) : PV → PV → Prop
  | .int k a, .int k' b => (match op with
    | .shl | .shr => 0 ≤ b
    | .quo | .rem => k = k' ∧ b ≠ 0
    | _ => k = k')
  | .str a, .str b => (match op with
    | .add => a.length + b.length ≤ 9223372036854775807
    | .eql | .neq | .lss | .leq | .gtr | .geq => True
    | _ => False)
  | _, _ => False
def eqCell : PV → PV → Bool
  | .int _ a, .int _ b => a == b
  | .str a, .str b => a == b
  | .bool a, .bool b => a == b
  | _, _ => false
def eqCells : List PV → List PV → Bool
  | a :: r, b :: q => eqCell a b && eqCells r q
  | _, _ => true
def ekOk : EK → PV → PV → Prop
  | .i, .int k _, .int k' _ => k = k'
  | .s, .str _, .str _ => True
  | .b, .bool _, .bool _ => True
  | _, _, _ => False
def eqOk : List EK → List PV → List PV → Prop
  | k :: ks, x :: r, y :: q => ekOk k x y ∧ eqOk ks r q
  | [], [], [] => True
  | _, _, _ => False
def keyOk : KK → PV → PV → Prop
  | .one k, a, b => ekOk k a b
  | .st ks, a, b => isAggP' a ∧ isAggP' b ∧ eqOk ks a.cells b.cells
where isAggP' : PV → Prop
  | .agg _ => True
  | _ => False
def keyEq (a b : PV) : Bool := eqCells a.cells b.cells
def mapFind (k : PV) : List (PV × PV) → Option PV
  | [] => none
  | (x, v) :: r => if keyEq k x then some v else mapFind k r
def mapPut (k v : PV) : List (PV × PV) → List (PV × PV)
  | [] => [(k, v)]
  | (x, u) :: r => if keyEq k x then (k, v) :: r else (x, u) :: mapPut k v r
/-- The key stands for itself beside all keys of the map. -/
def keysOk (kk : KK) (k : PV) (es : List (PV × PV)) : Prop := keyOk kk k k ∧ ∀ p ∈ es, keyOk kk k p.1
def mapRows (h : Heap) : PV → List (PV × PV)
  | .mp id => (match h.get id with
    | some (.map es) => es
    | _ => [])
  | .rmp es => es
  | _ => []
def mapOk (h : Heap) : PV → Prop
  | .mp id => (match h.get id with
    | some (.map _) => True
    | _ => False)
  | .rmp _ => True
  | .nilmp => True
  | _ => False
def lookV (zero : PV) (ok : Bool) (r : Option PV) : PV :=
  match r with
  | some v => if ok then .tup [v, .bool true] else v
  | none => if ok then .tup [zero, .bool false] else zero
def unV (op : UnOp) : PV → PV
  | .int k n => (match op with
    | .neg => .int k (k.wrap (0 - n))
    | _ => .any)
  | .bool b => (match op with
    | .not => .bool (!b)
    | _ => .any)
  | _ => .any
def unOk (op : UnOp) : PV → Prop
  | .int _ _ => (match op with | .neg => True | _ => False)
  | .bool _ => (match op with | .not => True | _ => False)
  | _ => False
def convV (k : IntKind) : PV → PV
  | .int _ n => .int k (k.wrap n)
  | _ => .any
def isInt : PV → Prop
  | .int _ _ => True
  | _ => False
def numOf : PV → Int
  | .int _ n => n
  | _ => 0
def loV (o : Option PV) : Nat := match o with | some p => (numOf p).toNat | none => 0
def hiV (n : Nat) (o : Option PV) : Nat := match o with | some p => (numOf p).toNat | none => n
def lenV : PV → Nat
  | .str s => s.length
  | .sl _ es => es.length
  | .own _ _ n => n
  | _ => 0
def boundOk (o : Option PV) : Prop := match o with | some (.int _ n) => 0 ≤ n | some _ => False | none => True
def sliceV (a : PV) (lo hi : Option PV) : PV :=
  match a with
  | .str s => .str ((s.drop (loV lo)).take (hiV s.length hi - loV lo))
  | .sl z es => .sl z ((es.drop (loV lo)).take (hiV es.length hi - loV lo))
  | .own id off n => .own id (off + loV lo) (hiV n hi - loV lo)
  | .nilsl => .nilsl
  | _ => .any
def sliceOk (st : Bool) (z : Nat) (h : Heap) (a : PV) (lo hi : Option PV) : Prop :=
  boundOk lo ∧ boundOk hi ∧ loV lo ≤ hiV (lenV a) hi ∧ hiV (lenV a) hi ≤ lenV a ∧
  match a with
  | .str _ => st = true
  | .sl z' _ => st = false ∧ z' = z
  | .own id _ _ => st = false ∧ (match h.get id with | some (.arr _ z' _) => z' = z | _ => False)
  | .nilsl => st = false
  | _ => False
def faddrV (off : Nat) : PV → PV
  | .loc id i o => .loc id i (o + off)
  | .ro cs => .ro (cs.drop off)
  | _ => .any
def isAddr : PV → Prop
  | .loc _ _ _ | .ro _ => True
  | _ => False
def locCells (h : Heap) : PV → List PV
  | .loc id i o => (match h.get id with
    | some (.arr _ _ es) => (PV.row es i).drop o
    | _ => [])
  | .ro cs => cs
  | _ => []
def locOk (h : Heap) : PV → Prop
  | .loc id i _ => (match h.get id with
    | some (.arr _ _ es) => i < es.length
    | _ => False)
  | .ro _ => True
  | _ => False
def cellsOfAgg : PV → List PV
  | .agg cs => cs
  | _ => []
def isAggP : PV → Prop
  | .agg _ => True
  | _ => False
def iaddrV (a i : PV) : PV :=
  match a with
  | .sl _ es => .ro (PV.row es (numOf i).toNat)
  | .own id off _ => .loc id (off + (numOf i).toNat) 0
  | _ => .any
def iaddrOk (z : Nat) (h : Heap) (a i : PV) : Prop :=
  isInt i ∧ 0 ≤ numOf i ∧ numOf i < lenV a ∧
  match a with
  | .sl z' _ => z' = z
  | .own id _ _ => (match h.get id with | some (.arr _ z' _) => z' = z | _ => False)
  | _ => False
def idxV (a i : PV) : PV :=
  match a with
  | .str s => .int .u8 ((s.getD (numOf i).toNat 0).toNat : Int)
  | _ => .any
def idxOk (a i : PV) : Prop :=
  isInt i ∧ 0 ≤ numOf i ∧ numOf i < lenV a ∧ match a with | .str _ => True | _ => False
def lenOk (st : Bool) : PV → Prop
  | .str _ => st = true
  | .sl _ _ | .own _ _ _ | .nilsl => st = false
  | _ => False
def extV (i : Nat) : PV → PV
  | .tup l => PV.nth l i
  | _ => .any
def extOk (i : Nat) : PV → Prop
  | .tup l => i < l.length
  | _ => False
def fillV (e : Env) : List PV → List (Nat × Nat × VA) → List PV
  | cs, [] => cs
  | cs, (o, _, a) :: r => fillV e (overlay cs o (a.ev e).cells) r
def fillOk (e : Env) (n : Nat) : List (Nat × Nat × VA) → Prop
  | [] => True
  | (o, s, a) :: r => (a.ev e).fits s = true ∧ o + s ≤ n ∧ fillOk e n r
def mmV (mx : Bool) : PV → PV → PV
  | .int k a, .int _ b => .int k (if mx then (if b > a then b else a) else (if b < a then b else a))
  | _, _ => .any

/-- What surely is not nil. -/
def notNil : PV → Bool
  | .loc _ _ _ | .ro _ | .mp _ => true
  | .fn (.func _) _ _ => true
  | .sl _ (_ :: _) => true
  | .own _ _ (_ + 1) => true
  | _ => false
def isNil : PV → Bool
  | .nilsl | .nilp | .nilmp | .nilfn => true
  | _ => false
def isPtr : PV → Bool
  | .loc _ _ _ | .ro _ => true
  | .fn (.func _) _ _ => true
  | _ => false
def pxV (h : Heap) : PX → List PV → PV
  | .nck, [a] => a
  | .unx, [.int k n] => intV .xor k (if k.signed then -1 else k.max) n
  | .isnil neg, [a] => .bool (isNil a != neg)
  | _, _ => .any
def pxOk (h : Heap) : PX → List PV → Prop
  | .nck, [a] => isPtr a = true
  | .unx, [a] => isInt a
  | .isnil _, [a] => isNil a = true ∨ notNil a = true
  | _, _ => False
/-- The pure ones: value. -/
def pval (e : Env) (h : Heap) : VOp → PV
  | .mv a => a.ev e
  | .pick c a b => pickV (c.ev e) (a.ev e) (b.ev e)
  | .build zr ps => .agg (fillV e zr ps)
  | .load g s a => aggV g ((locCells h (a.ev e)).take s)
  | .bin op a b => binV op (a.ev e) (b.ev e)
  | .binb op a b => binbV op (a.ev e) (b.ev e)
  | .strid a => a.ev e
  | .eqs neg _ a b => .bool (eqCells (cellsOfAgg (a.ev e)) (cellsOfAgg (b.ev e)) != neg)
  | .un op a => unV op (a.ev e)
  | .conv k a => convV k (a.ev e)
  | .mkfn f x y => .fn f (x.map (VA.ev e)) (y.map (VA.ev e))
  | .slice _ _ a lo hi => sliceV (a.ev e) (lo.map (VA.ev e)) (hi.map (VA.ev e))
  | .faddr off a => faddrV off (a.ev e)
  | .fld g off s a => aggV g (((cellsOfAgg (a.ev e)).drop off).take s)
  | .iaddr _ a i => iaddrV (a.ev e) (i.ev e)
  | .idx a i => idxV (a.ev e) (i.ev e)
  | .ext a i => extV i (a.ev e)
  | .len _ a => .int .i64 (lenV (a.ev e))
  | .lookup _ zr ok m k => lookV zr ok (mapFind (k.ev e) (mapRows h (m.ev e)))
  | .mlen m => .int .i64 ((mapRows h (m.ev e)).length : Int)
  | .mm mx [a, b] => mmV mx (a.ev e) (b.ev e)
  | .px k l => pxV h k (l.map (VA.ev e))
  | _ => .any
/-- The pure ones: what is asked. -/
def pok (e : Env) (h : Heap) : VOp → Prop
  | .mv _ => True
  | .pick c _ _ => isBool (c.ev e)
  | .build zr ps => fillOk e zr.length ps
  | .load g s a => locOk h (a.ev e) ∧ s ≤ (locCells h (a.ev e)).length ∧ (g = false → s = 1)
  | .bin op a b => binOk op (a.ev e) (b.ev e)
  | .binb op a b => binbOk op (a.ev e) (b.ev e)
  | .strid a => isStr (a.ev e)
  | .eqs _ ks a b => isAggP (a.ev e) ∧ isAggP (b.ev e) ∧ eqOk ks (cellsOfAgg (a.ev e)) (cellsOfAgg (b.ev e))
  | .un op a => unOk op (a.ev e)
  | .conv _ a => isInt (a.ev e)
  | .mkfn _ _ _ => True
  | .slice st z a lo hi => sliceOk st z h (a.ev e) (lo.map (VA.ev e)) (hi.map (VA.ev e))
  | .faddr _ a => isAddr (a.ev e)
  | .fld g off s a => isAggP (a.ev e) ∧ off + s ≤ (cellsOfAgg (a.ev e)).length ∧ (g = false → s = 1)
  | .iaddr z a i => iaddrOk z h (a.ev e) (i.ev e)
  | .idx a i => idxOk (a.ev e) (i.ev e)
  | .ext a i => extOk i (a.ev e)
  | .len st a => lenOk st (a.ev e)
  | .lookup kk _ _ m k => mapOk h (m.ev e) ∧ keysOk kk (k.ev e) (mapRows h (m.ev e))
  | .mlen m => mapOk h (m.ev e)
  | .mm _ [a, b] => isInt (a.ev e) ∧ isInt (b.ev e)
  | .px k l => pxOk h k (l.map (VA.ev e))
  | _ => False
def VOp.pure : VOp → Bool
  | .mv _ | .pick .. | .build .. | .load .. | .bin .. | .eqs .. | .binb .. | .strid _ | .un .. | .conv .. | .mkfn .. | .slice .. | .faddr .. | .fld .. | .iaddr .. | .idx .. | .ext .. | .len .. | .lookup .. | .mlen .. | .mm .. | .px .. => true
  | _ => false
end Go.VM

