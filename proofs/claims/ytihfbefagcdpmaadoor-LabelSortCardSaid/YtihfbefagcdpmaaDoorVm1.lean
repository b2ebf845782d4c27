import Derived.Calls
import Derived.MapKept
import Derived.Below
import Derived.Orders
import Derived.Laws.Sem
import Derived.Laws.Entries
import Derived.Laws.Append
import Derived.Laws.Cells
import Derived.ChangeKeysEq
import Derived.Laws.Small
import Derived.Laws.StructEq
import Derived.Laws.Slices
import Derived.Lib.Strings
import GoSem.Builtin.Min
import Derived.Laws.BytesArg
set_option linter.all false
namespace Go.VM
open Go
inductive PV where
  | any
  | undef
  | bool (b : Bool)
  | int (k : IntKind) (n : Int)
  | str (s : List UInt8)
  | nilp
  | loc (id i off : Nat)
  | ro (cs : List PV)
  | nilsl
  | sl (z : Nat) (es : List (List PV))
  | own (id off len : Nat)
  | mp (id : Nat)
  | rmp (es : List (PV × PV))
  | nilmp
  | fn (f : Fn) (first captured : List PV)
  | fnb (f : Fn) (p : PV)
  | nilfn
  | agg (cs : List PV)
  | tup (vs : List PV)
  | ifc (t : TypeId) (v : PV)
  | nilif
  deriving Inhabited
inductive MK where
  | map (e : Array MapEntry) (clock : Nat)
  | cells (c : Array Value)
def MK.At:MK → Option Obj → Prop
  | .map e clock,x=>x = some (.map e clock)
  | .cells c,x=>∃ t fr,x = some (.cells c t fr)
theorem MK.At.there {k:MK} {x:Option Obj} (h:k.At x):∃ o,x = some o:=by
  cases k with
  | map e c=>exact ⟨_,h⟩
  | cells c=>obtain ⟨t,fr,h⟩:=h; exact ⟨_,h⟩
theorem MK.At.lt {k:MK} {hp:Array Obj} {b:Nat} (h:k.At hp[b]?):b < hp.size:=by
  obtain ⟨o,h⟩:=h.there; exact (Array.getElem?_eq_some_iff.1 h).1
def known:List (Nat × List Value):=[(2,[.int .u64 1,.int .u64 10,.int .u64 100,.int .u64 1000,.int .u64 10000,.int .u64 100000,.int .u64 1000000,.int .u64 10000000,.int .u64 100000000,.int .u64 1000000000,.int .u64 10000000000,.int .u64 100000000000,.int .u64 1000000000000,.int .u64 10000000000000,.int .u64 100000000000000,.int .u64 1000000000000000,.int .u64 10000000000000000,.int .u64 100000000000000000,.int .u64 1000000000000000000,.int .u64 10000000000000000000])]
structure Mem where
  c : Nat → Nat → Option Value
  mm : Nat → Option MK
  kn : ∀ b l, known.lookup b = some l → mm b = some (.cells l.toArray) ∧ ∀ j, j < l.length → c b j = some (l.getD j Go.undef)
instance : CoeFun Mem (fun _ => Nat → Nat → Option Value) := ⟨Mem.c⟩
structure Gh where
  m : Mem
  β : Nat → Option (Nat × Nat × Nat × Nat)
def Gh.free (g:Gh) (b:Nat):Prop:=(∀ x,g.m b x = none) ∧ g.m.mm b = none
def Gh.le (g g':Gh):Prop :=
  (∀ b o v,g.m b o = some v → g'.m b o = some v) ∧ (∀ id x,g.β id = some x → g'.β id = some x) ∧ (∀ b e,g.m.mm b = some e → g'.m.mm b = some e)
theorem Gh.le_refl (g:Gh):g.le g:=⟨fun _ _ _ h=>h,fun _ _ h=>h,fun _ _ h=>h⟩
theorem Gh.le_trans {a b c:Gh} (h:a.le b) (k:b.le c):a.le c :=
  ⟨fun x y v e=>k.1 x y v (h.1 x y v e),fun i x e=>k.2.1 i x (h.2.1 i x e),fun i x e=>k.2.2 i x (h.2.2 i x e)⟩
def PV.nth (l:List PV) (j:Nat):PV:=l.getD j .any
def PV.row (es:List (List PV)) (i:Nat):List PV:=es.getD i []
inductive Rep (g : Gh) : Value → PV → Prop
  | any (v : Value) : Rep g v .any
  | undef : Rep g Go.undef .undef
  | bool (b : Bool) : Rep g (.bool b) (.bool b)
  | int (k : IntKind) (n : Int) : Rep g (.int k n) (.int k n)
  | str (s : ByteArray) (l : List UInt8) (h : s.data.toList = l) : Rep g (.string s) (.str l)
  | nilp : Rep g (.pointer none) .nilp
  | loc (id i off b o n z : Nat) (a : Addr) (hb : g.β id = some (b, o, n, z)) (ha : a = ⟨b, o + i * z + off, none⟩) : Rep g (.pointer (some a)) (.loc id i off)
  | ro (b o : Nat) (a : Addr) (cs : List PV) (vs : Nat → Value) (ha : a = ⟨b, o, none⟩) (hm : ∀ j, j < cs.length → g.m b (o + j) = some (vs j))
      (hr : ∀ j, j < cs.length → Rep g (vs j) (PV.nth cs j)) : Rep g (.pointer (some a)) (.ro cs)
  | nilsl : Rep g (.slice none 0 0) .nilsl
  | slE (a : Option Addr) (cap z : Nat) : Rep g (.slice a 0 cap) (.sl z [])
  | sl (b o len cap z : Nat) (a : Addr) (es : List (List PV)) (vs : Nat → Nat → Value) (ha : a = ⟨b, o, none⟩) (hl : es.length = len) (hc : len ≤ cap)
      (hz : ∀ i, i < len → (PV.row es i).length = z) (hm : ∀ i j, i < len → j < z → g.m b (o + i * z + j) = some (vs i j))
      (hr : ∀ i j, i < len → j < z → Rep g (vs i j) (PV.nth (PV.row es i) j)) : Rep g (.slice (some a) len cap) (.sl z es)
  | ownE (a : Option Addr) (id off : Nat) : Rep g (.slice a 0 0) (.own id off 0)
  | own (id off len cap b o n z : Nat) (a : Addr) (hb : g.β id = some (b, o, n, z)) (ha : a = ⟨b, o + off * z, none⟩) (hc : len ≤ cap) (hn : o + off * z + cap * z ≤ n) :
      Rep g (.slice (some a) len cap) (.own id off len)
  | mp (id b o n z : Nat) (hb : g.β id = some (b, o, n, z)) : Rep g (.map (some b)) (.mp id)
  | rmp {clock : Nat} (b : Nat) (ents : Array MapEntry) (es : List (PV × PV)) (hm : g.m.mm b = some (.map ents clock)) (hl : ents.size = es.length) (hk : ∀ (i : Nat) (e : MapEntry) (p : PV × PV), ents[i]? = some e → es[i]? = some p → Rep g e.key p.1)
      (hv : ∀ (i : Nat) (e : MapEntry) (p : PV × PV), ents[i]? = some e → es[i]? = some p → Rep g e.val p.2) : Rep g (.map (some b)) (.rmp es)
  | nilmp : Rep g (.map none) .nilmp
  | fn (f : Fn) (fs cs : Array Value) (pf pc : List PV) (h1 : fs.size = pf.length) (h2 : cs.size = pc.length) (hf : ∀ j, j < pf.length → Rep g (fs.getD j Go.undef) (PV.nth pf j))
      (hc : ∀ j, j < pc.length → Rep g (cs.getD j Go.undef) (PV.nth pc j)) : Rep g (.func f fs cs) (.fn f pf pc)
  | fnb (f : Fn) (b : Nat) (v : Value) (p : PV) (hm : g.m b 0 = some v) (h : Rep g v p) : Rep g (.func f #[] #[.pointer (some ⟨b, 0, none⟩)]) (.fnb f p)
  | nilfn : Rep g .nilFunc .nilfn
  | agg (vs : Array Value) (cs : List PV) (h : vs.size = cs.length) (h1 : ∀ j, j < cs.length → (vs.getD j Go.undef).oneCell' = true) (hr : ∀ j, j < cs.length → Rep g (vs.getD j Go.undef) (PV.nth cs j)) : Rep g (.agg vs) (.agg cs)
  | tup (vs : Array Value) (cs : List PV) (h : vs.size = cs.length) (hr : ∀ j, j < cs.length → Rep g (vs.getD j Go.undef) (PV.nth cs j)) : Rep g (.tuple vs) (.tup cs)
  | ifc (t : TypeId) (v : Value) (p : PV) (h : Rep g v p) : Rep g (.iface t v) (.ifc t p)
  | nilif : Rep g .nilIface .nilif
theorem Rep.mono {g g':Gh} (hg:g.le g') {v:Value} {p:PV} (h:Rep g v p):Rep g' v p:=by
  induction h with
  | any v=>exact .any v
  | undef=>exact .undef
  | bool b=>exact .bool b
  | int k n=>exact .int k n
  | str s l h=>exact .str s l h
  | nilp=>exact .nilp
  | loc id i off b o n z a hb ha=>exact .loc id i off b o n z a (hg.2.1 _ _ hb) ha
  | ro b o a cs vs ha hm hr ih=>exact .ro b o a cs vs ha (fun j hj=>hg.1 _ _ _ (hm j hj)) ih
  | nilsl=>exact .nilsl
  | slE a cap z=>exact .slE a cap z
  | sl b o len cap z a es vs ha hl hc hz hm hr ih=>exact .sl b o len cap z a es vs ha hl hc hz (fun i j hi hj=>hg.1 _ _ _ (hm i j hi hj)) ih
  | ownE a id off=>exact .ownE a id off
  | own id off len cap b o n z a hb ha hc hn=>exact .own id off len cap b o n z a (hg.2.1 _ _ hb) ha hc hn
  | mp id b o n z hb=>exact .mp id b o n z (hg.2.1 _ _ hb)
  | rmp b ents es hm hl hk hv ihk ihv=>exact .rmp b ents es (hg.2.2 _ _ hm) hl ihk ihv
  | nilmp=>exact .nilmp
  | fn f fs cs pf pc h1 h2 hf hc ihf ihc=>exact .fn f fs cs pf pc h1 h2 ihf ihc
  | fnb f b v p hm h ih=>exact .fnb f b v p (hg.1 _ _ _ hm) ih
  | nilfn=>exact .nilfn
  | agg vs cs h h1 hr ih=>exact .agg vs cs h h1 ih
  | tup vs cs h hr ih=>exact .tup vs cs h ih
  | ifc t v p h ih=>exact .ifc t v p ih
  | nilif=>exact .nilif
def Closed (p:PV):Prop:=∀ g v,Rep g v p → Rep ⟨g.m,fun _=>none⟩ v p
def Scalar (p:PV):Prop:=∀ g v,Rep g v p → ∀ g',Rep g' v p
abbrev Env:=List (Nat × PV)
def Env.get:Env → Nat → PV
  | [],_=>.any
  | (k,v) :: r,t=>if k = t then v else Env.get r t
def Env.put (e:Env) (d:Option Nat) (v:PV):Env:=match d with | some d=>(d,v) :: e | none=>e
def Zao (g:Gh) (a:Act) (e:Env):Prop:=∀ t,Rep g (a.tmps.getD t Go.undef) (e.get t)
def Env.le:Env → Env → Prop
  | [],_=>True
  | (k,v) :: r,e'=>e'.get k = v ∧ Env.le r e'
def Env.keep (l:List Nat) (e:Env):Env :=
  match l with
  | []=>[]
  | t :: r=>(t,e.get t) :: Env.keep r e
inductive AB where
  | arr (fz : Bool) (z : Nat) (es : List (List PV))
  | map (es : List (PV × PV))
  | miter (es : List (PV × PV)) (seen : List Nat)
  | bld (T : TypeId) (k : Nat) (bf : Option Nat)
  | buf (e : TypeId) (s : List UInt8)
  deriving Inhabited
def HL:=List (Nat × AB)
def HL.get:List (Nat × AB) → Nat → Option AB
  | [],_=>none
  | (k,v) :: r,t=>if k = t then some v else HL.get r t
def HL.del:List (Nat × AB) → Nat → List (Nat × AB)
  | [],_=>[]
  | (k,v) :: r,t=>if k = t then HL.del r t else (k,v) :: HL.del r t
def HL.set:List (Nat × AB) → Nat → AB → List (Nat × AB)
  | [],_,_=>[]
  | (k,v) :: r,t,x=>if k = t then (k,x) :: HL.del r t else (k,v) :: HL.set r t x
def HL.le:List (Nat × AB) → (Nat → Option AB) → Prop
  | [],_=>True
  | (k,v) :: r,f=>f k = some v ∧ HL.le r f
structure Heap where
  l : List (Nat × AB)
  top : Nat
  deriving Inhabited
def Heap.nil:Heap:=⟨[],0⟩
def Heap.get (h:Heap) (t:Nat):Option AB:=HL.get h.l t
def Heap.del (h:Heap) (t:Nat):Heap:=⟨HL.del h.l t,h.top⟩
def Heap.set (h:Heap) (t:Nat) (x:AB):Heap:=⟨HL.set h.l t x,h.top⟩
def Heap.push (h:Heap) (x:AB):Heap:=⟨(h.top,x) :: h.l,h.top + 1⟩
def Heap.le (h h':Heap):Prop:=h'.top ≤ h.top ∧ HL.le h.l (Heap.get h')
def AB.live:AB → Bool
  | .arr fz _ _=>!fz
  | _=>true
def flatC:PV → Bool
  | .int _ _ | .str _ | .bool _=>true
  | _=>false
def flatP:PV → Bool
  | .agg cs=>cs.all flatC
  | p=>flatC p
def keysFlat (es:List (PV × PV)):Prop:=∀ p ∈ es,flatP p.1 = true
def AB.ok (g:Gh) (w:World) (b o n z:Nat):AB → Prop
  | .arr fz z' es => z' = z ∧ (∀ i, i < es.length → (PV.row es i).length = z) ∧ o + es.length * z ≤ n ∧
      ∃ c e,w.heap[b]? = some (.cells c e (0,0)) ∧ c.size = n ∧ ∀ i j,i < es.length → j < z → (c.getD (o + i * z + j) Go.undef).oneCell' = true ∧ Rep g (c.getD (o + i * z + j) Go.undef) (PV.nth (PV.row es i) j) ∧
        (fz = true → g.m b (o + i * z + j) = some (c.getD (o + i * z + j) Go.undef))
  | .map es => ∃ ents clock, w.heap[b]? = some (.map ents clock) ∧ ents.size = es.length ∧
      (∀ (i:Nat) (e:MapEntry) (p:PV × PV),ents[i]? = some e → es[i]? = some p → Rep g e.key p.1 ∧ Rep g e.val p.2) ∧ (keysFlat es → MapKept.Stamped ents clock)
  | .miter es seen => o = 0 ∧ ∃ m ents clock stamps, w.heap[b]? = some (.mapIter (some m) clock stamps clock) ∧ g.m.mm m = some (.map ents clock) ∧ ents.size = es.length ∧
      (∀ (i:Nat) (e:MapEntry) (p:PV × PV),ents[i]? = some e → es[i]? = some p → Rep g e.key p.1 ∧ Rep g e.val p.2) ∧ MapKept.Stamped ents clock ∧
      stamps.toList = seen.map (fun i=>(ents.getD i default).born) ∧ ∀ i ∈ seen,i < es.length
  | .bld T k bf => o = 0 ∧ ∃ p v, w.heap[b]? = some (.cells #[p, v] T (0, 0)) ∧ (p = .pointer none ∨ p = .pointer (some ⟨b, 0, none⟩)) ∧
      (match bf with
      | none=>v = .slice none 0 0 ∧ k = 0
      | some id2=>∃ gb cap,g.β id2 = some (gb,0,cap,1) ∧ v = .slice (some ⟨gb,0,none⟩) k cap ∧ k ≤ cap ∧ cap ≤ maxLen)
  | .buf e s=>o = 0 ∧ n ≤ maxLen ∧ s.length ≤ n ∧ ∃ cur,w.heap[b]? = some (.cells cur e (0,0)) ∧ cur.size = n ∧ cur.toList.take s.length = s.map fun c=>Value.int .u8 c.toNat
structure Rel (g : Gh) (w : World) (h : Heap) : Prop where
  mem : ∀ b o v, g.m b o = some v → w.cell? ⟨b, o, none⟩ = some v ∧ v.oneCell' = true
  mmem : ∀ b e, g.m.mm b = some e → e.At w.heap[b]?
  fin : ∀ id, h.top ≤ id → g.β id = none ∧ h.get id = none
  blk : ∀ id ab, h.get id = some ab → (g.β id = none ∧ ∃ fz z, ab = .arr fz z []) ∨
    ∃ b o n z, g.β id = some (b, o, n, z) ∧ b < w.heap.size ∧ (ab.live = true → g.free b) ∧ ab.ok g w b o n z
  apart : ∀ id id' x x' ab ab', id ≠ id' → h.get id = some ab → h.get id' = some ab' → (ab.live || ab'.live) = true → g.β id = some x → g.β id' = some x' → x.1 ≠ x'.1
def Owned (g:Gh) (h:Heap) (b:Nat):Prop:=∃ id ab x,h.get id = some ab ∧ ab.live = true ∧ g.β id = some x ∧ x.1 = b
structure Evo (g : Gh) (w : World) (h : Heap) (g' : Gh) (w' : World) (h' : Heap) : Prop where
  le : g.le g'
  os : w'.os = w.os
  tape : w'.tape = w.tape
  output : w'.output = w.output
  size : w.heap.size ≤ w'.heap.size
  block : ∀ b, b < w.heap.size → ¬ Owned g h b → w'.heap[b]? = w.heap[b]?
  mem : ∀ b o v, g'.m b o = some v → g.m b o = some v ∨ w.heap.size ≤ b ∨ Owned g h b
  mmem : ∀ b e, g'.m.mm b = some e → g.m.mm b = some e ∨ w.heap.size ≤ b ∨ Owned g h b
  own : ∀ b, Owned g' h' b → Owned g h b ∨ w.heap.size ≤ b
theorem Evo.refl (g:Gh) (w:World) (h:Heap):Evo g w h g w h :=
  ⟨g.le_refl,rfl,rfl,rfl,Nat.le_refl _,fun _ _ _=>rfl,fun _ _ _ e=>.inl e,fun _ _ e=>.inl e,fun _ e=>.inl e⟩
theorem Evo.trans {g g' g'':Gh} {w w' w'':World} {h h' h'':Heap} (a:Evo g w h g' w' h') (b:Evo g' w' h' g'' w'' h''):Evo g w h g'' w'' h'':=by
  refine ⟨Gh.le_trans a.le b.le,b.os.trans a.os,b.tape.trans a.tape,b.output.trans a.output,Nat.le_trans a.size b.size,?_,?_,?_,?_⟩
  · intro k hk hno
    rw [b.block k (Nat.lt_of_lt_of_le hk a.size) (fun ho=>?_),a.block k hk hno]
    rcases a.own k ho with h1 | h1
    · exact hno h1
    · omega
  · intro k o v e
    rcases b.mem k o v e with h1 | h1 | h1
    · exact a.mem k o v h1
    · exact .inr (.inl (Nat.le_trans a.size h1))
    · rcases a.own k h1 with h2 | h2
      · exact .inr (.inr h2)
      · exact .inr (.inl h2)
  · intro k e he
    rcases b.mmem k e he with h1 | h1 | h1
    · exact a.mmem k e h1
    · exact .inr (.inl (Nat.le_trans a.size h1))
    · rcases a.own k h1 with h2 | h2
      · exact .inr (.inr h2)
      · exact .inr (.inl h2)
  · intro k ho
    rcases b.own k ho with h1 | h1
    · exact a.own k h1
    · exact .inr (Nat.le_trans a.size h1)
theorem Env.get_put (e:Env) (d:Nat) (v:PV) (t:Nat):(e.put (some d) v).get t = if d = t then v else e.get t:=rfl
theorem Zao.mono {g g':Gh} (hg:g.le g') {a:Act} {e:Env} (h:Zao g a e):Zao g' a e:=fun t=>(h t).mono hg
theorem Zao.put {g : Gh} {a : Act} {e : Env} (h : Zao g a e) {d : Option Nat} {v : Value} {p : PV} (hv : Rep g v p) (hd : ∀ t, d = some t → t < a.tmps.size) :
    Zao g (a.put d v) (e.put d p):=by
  intro t
  cases d with
  | none=>exact h t
  | some d =>
    have hlt:=hd d rfl
    by_cases e1:d = t
    · subst e1
      simp only [Env.put,Env.get,if_true,Act.put]
      simpa [Array.getD_eq_getD_getElem?,hlt] using hv
    · have:=h t
      simp only [Env.put,Env.get,if_neg e1,Act.put]
      simpa [Array.getD_eq_getD_getElem?,Array.getElem?_setIfInBounds_ne e1] using this
theorem Zao.le {g:Gh} {a:Act}:∀ {e e':Env},e.le e' → Zao g a e' → Zao g a e
  | [],_,_,_=>fun _=>.any _
  | (k,v) :: r,e',h,he=>by
    intro t
    by_cases e1:k = t
    · subst e1
      simp only [Env.get,if_true]
      rw [← h.1]; exact he k
    · simp only [Env.get,if_neg e1]
      exact Zao.le h.2 he t
theorem Env.keep_get (l:List Nat) (e:Env) (t:Nat):(Env.keep l e).get t = e.get t ∨ (Env.keep l e).get t = .any:=by
  induction l with
  | nil=>exact .inr rfl
  | cons k l ih =>
    by_cases e1:k = t
    · subst e1; left; simp [Env.keep,Env.get]
    · simpa [Env.keep,Env.get,if_neg e1] using ih
theorem Zao.keep {g:Gh} {a:Act} {e:Env} (l:List Nat) (h:Zao g a e):Zao g a (Env.keep l e):=by
  intro t
  rcases Env.keep_get l e t with h1 | h1 <;> rw [h1]
  · exact h t
  · exact .any _
theorem HL.get_del (h:List (Nat × AB)) (k t:Nat):HL.get (HL.del h k) t = if k = t then none else HL.get h t:=by
  induction h with
  | nil=>simp [HL.del,HL.get]
  | cons x r ih =>
    obtain ⟨i,v⟩:=x
    by_cases e1:i = k
    · subst e1
      simp only [HL.del,if_true,HL.get,ih]
      split <;> rfl
    · simp only [HL.del,if_neg e1,HL.get,ih]
      by_cases e2:i = t
      · subst e2; simp [Ne.symm e1]
      · simp [e2]
theorem Heap.get_del (h:Heap) (k t:Nat):(h.del k).get t = if k = t then none else h.get t:=HL.get_del h.l k t
theorem Heap.get_set (h:Heap) (k t:Nat) (x:AB):(h.set k x).get t = if k = t then (if (h.get k).isSome then some x else none) else h.get t:=by
  obtain ⟨h,n⟩:=h
  simp only [Heap.get,Heap.set]
  induction h with
  | nil=>simp [HL.set,HL.get]
  | cons y r ih =>
    obtain ⟨i,v⟩:=y
    by_cases e1:i = k
    · subst e1
      simp only [HL.set,if_true,HL.get,HL.get_del,Option.isSome_some]
      split <;> rfl
    · simp only [HL.set,if_neg e1,HL.get,ih]
      by_cases e2:i = t
      · subst e2; simp [Ne.symm e1]
      · simp only [if_neg e2]
        rfl
theorem Heap.get_push (h:Heap) (x:AB) (t:Nat):(h.push x).get t = if h.top = t then some x else h.get t:=rfl
theorem HL.le_get:∀ {h:List (Nat × AB)} {f:Nat → Option AB},HL.le h f → ∀ id ab,HL.get h id = some ab → f id = some ab
  | [],_,_,_,_,e=>by simp [HL.get] at e
  | (k,v) :: r,f,hl,id,ab,e=>by
    by_cases e1:k = id
    · subst e1; simp only [HL.get,if_true,Option.some.injEq] at e; subst e; exact hl.1
    · simp only [HL.get,if_neg e1] at e
      exact HL.le_get hl.2 id ab e
theorem Heap.le_get {h h':Heap} (hl:h.le h') (id:Nat) (ab:AB) (e:h.get id = some ab):h'.get id = some ab:=HL.le_get hl.2 id ab e
theorem Rel.weaken {g:Gh} {w:World} {h h':Heap} (hl:h.le h') (r:Rel g w h'):Rel g w h :=
  ⟨r.mem,r.mmem,fun id hid=>⟨(r.fin id (Nat.le_trans hl.1 hid)).1,by
    cases e:h.get id with
    | none=>rfl
    | some ab =>
      have h1:=Heap.le_get hl id ab e
      rw [(r.fin id (Nat.le_trans hl.1 hid)).2] at h1; cases h1⟩,fun id ab e=>r.blk id ab (Heap.le_get hl id ab e),fun id id' x x' ab ab' hne e e'=>r.apart id id' x x' ab ab' hne (Heap.le_get hl _ _ e) (Heap.le_get hl _ _ e')⟩
theorem Owned.weaken {g:Gh} {h h':Heap} (hl:h.le h') {b:Nat} (o:Owned g h b):Owned g h' b:=by
  obtain ⟨id,ab,x,e,hv,hb,hx⟩:=o
  exact ⟨id,ab,x,Heap.le_get hl _ _ e,hv,hb,hx⟩
theorem Evo.weakenR {g:Gh} {w:World} {h:Heap} {g':Gh} {w':World} {h' h'':Heap} (a:Evo g w h g' w' h') (hl:h''.le h'):Evo g w h g' w' h'' :=
  ⟨a.le,a.os,a.tape,a.output,a.size,a.block,a.mem,a.mmem,fun b ho=>a.own b (ho.weaken hl)⟩
theorem Evo.weakenL {g:Gh} {w:World} {h h0:Heap} {g':Gh} {w':World} {h':Heap} (a:Evo g w h g' w' h') (hl:h.le h0):Evo g w h0 g' w' h' :=
  ⟨a.le,a.os,a.tape,a.output,a.size,fun b hb hno=>a.block b hb (fun ho=>hno (ho.weaken hl)),
   fun b o v e=>(a.mem b o v e).imp id (Or.imp id (Owned.weaken hl)),fun b o e=>(a.mmem b o e).imp id (Or.imp id (Owned.weaken hl)),fun b ho=>(a.own b ho).imp (Owned.weaken hl) id⟩
theorem Rel.drew {g:Gh} {w:World} {h:Heap} (r:Rel g w h) (k:Nat):Rel g { w with drawn:=k } h :=
  ⟨r.mem,r.mmem,r.fin,fun id ab e=>(r.blk id ab e).imp (fun h=>h) (fun ⟨b,o,n,z,h1,h2,h3,h4⟩=>⟨b,o,n,z,h1,h2,h3,by cases ab <;> simpa [AB.ok] using h4⟩),r.apart⟩
theorem Evo.drew (g:Gh) (w:World) (h:Heap) (k:Nat):Evo g w h g { w with drawn:=k } h :=
  ⟨g.le_refl,rfl,rfl,rfl,Nat.le_refl _,fun _ _ _=>rfl,fun _ _ _ e=>.inl e,fun _ _ e=>.inl e,fun _ e=>.inl e⟩
end Go.VM
namespace Go.VM
open Go
inductive VA where
  | t (n : Nat)
  | c (p : PV)
  deriving Inhabited
def VA.ev (e:Env):VA → PV
  | .t n=>e.get n
  | .c p=>p
def cst:Value → Option PV
  | .bool b=>some (.bool b)
  | .int k n=>some (.int k n)
  | .string s=>some (.str s.data.toList)
  | .slice none 0 0=>some .nilsl
  | .pointer none=>some .nilp
  | .map none=>some .nilmp
  | .nilFunc=>some .nilfn
  | .nilIface=>some .nilif
  | .func (.func f) ⟨[]⟩ ⟨[]⟩=>some (.fn (.func f) [] [])
  | _=>none
def csts:List Value → Option (List PV)
  | []=>some []
  | v :: r=>match cst v,csts r with
    | some p,some q=>some (p :: q)
    | _,_=>none
def cA:Operand → Option VA
  | .tmp t=>some (.t t)
  | .const v=>(cst v).map .c
  | .func f=>some (.c (.fn (.func f) [] []))
  | .global b=>((known.lookup b).bind csts).map fun cs=>.c (.ro cs)
def cAs:List Operand → Option (List VA)
  | []=>some []
  | v :: r=>match cA v,cAs r with
    | some p,some q=>some (p :: q)
    | _,_=>none
def cAo:Option Operand → Option (Option VA)
  | none=>some none
  | some x=>(cA x).map some
inductive EK where
  | b | i | s
  deriving DecidableEq, Inhabited
inductive KK where
  | one (k : EK)
  | st (ks : List EK)
  deriving DecidableEq, Inhabited
inductive PX where
  | nck
  | unx
  | isnil (neg : Bool)
  | b2s
  deriving DecidableEq, Inhabited
inductive FX where
  | slice0 (z : Nat)
  | mk0 (z : Nat)
  | clear (z : Nat) (zr : List PV)
  deriving Inhabited
inductive VOp where
  | mv (a : VA)
  | pick (c a b : VA)
  | alloc (zero : List PV)
  | box (n : Nat) (a : VA)
  | build (zero : List PV) (parts : List (Nat × Nat × VA))
  | bslice (z n : Nat) (zero : List PV) (parts : List (Nat × VA))
  | load (agg : Bool) (sz : Nat) (a : VA)
  | store (sz : Nat) (a v : VA)
  | bin (op : BinOp) (a b : VA)
  | binb (op : BinOp) (a b : VA)
  | strid (a : VA)
  | eqs (neg : Bool) (ks : List EK) (a b : VA)
  | isnil (neg : Bool) (a : VA)
  | un (op : UnOp) (a : VA)
  | conv (k : IntKind) (a : VA)
  | b2s (a : VA)
  | s2b (a : VA)
  | mkfn (f : Fn) (first cap : List VA)
  | slice (st : Bool) (z : Nat) (a : VA) (lo hi : Option VA)
  | faddr (off : Nat) (a : VA)
  | fld (agg : Bool) (off sz : Nat) (a : VA)
  | iaddr (z : Nat) (a i : VA)
  | idx (a i : VA)
  | ext (a : VA) (i : Nat)
  | len (st : Bool) (a : VA)
  | app (z bytes : Nat) (zero : List PV) (str : Bool) (a b : VA)
  | mm (mx : Bool) (args : List VA)
  | mkmap
  | lookup (kk : KK) (zero : PV) (ok : Bool) (m k : VA)
  | mapset (kk : KK) (m k v : VA)
  | mlen (m : VA)
  | call (f : FuncId) (args : List VA)
  | callv (f : VA) (args : List VA)
  | px (k : PX) (l : List VA)
  | fx (k : FX) (l : List VA)
  | nd (neg : Bool) (a : VA)
  | other (o : Oper)
  deriving Inhabited
def szOf (P:Program) (t:TypeId):Option Nat:=(P.info? t).map (·.size)
def aggOf (P:Program) (t:TypeId):Option Bool :=
  match P.underlying t with
  | some (.struct _) | some (.array _ _)=>some true
  | some _=>some false
  | none=>none
def zeroOf (P:Program) (t:TypeId):Option (List PV) :=
  match P.info? t with
  | some i=>match i.zero with
    | some v=>csts v.cells.toList
    | none=>none
  | none=>none
def fieldOf (P:Program) (t:TypeId) (f:Nat):Option Field :=
  match P.underlying t with
  | some (.struct fs)=>fs[f]?
  | _=>none
def flatFs (P:Program) (F:TypeId → Option (List EK)):List Field → Nat → Option (List EK)
  | [],_=>some []
  | f :: r, o => if f.name != "_" && f.offset == o then (match F f.type with
    | some ks=>(match flatFs P F r (o + ks.length) with | some q=>some (ks ++ q) | none=>none)
    | none=>none) else none
def flatK (P:Program):Nat → TypeId → Option (List EK)
  | 0,_=>none
  | d + 1,t=>match P.underlying t with
    | some .bool=>if szOf P t == some 1 then some [.b] else none
    | some (.int _)=>if szOf P t == some 1 then some [.i] else none
    | some .string=>if szOf P t == some 1 then some [.s] else none
    | some (.struct fs)=>(match flatFs P (flatK P d) fs.toList 0 with
      | some ks=>if !P.stoodInHeld t && szOf P t == some ks.length then some ks else none
      | none=>none)
    | _=>none
def keyK (P:Program) (t:TypeId):Option KK :=
  match P.underlying t with
  | some .bool=>some (.one .b)
  | some (.int _)=>some (.one .i)
  | some .string=>some (.one .s)
  | some (.struct _)=>(flatK P 6 t).map .st
  | _=>none
def zeroP (P:Program) (t:TypeId):Option PV :=
  match P.info? t with
  | some i=>match i.zero with
    | some (.agg cs)=>(csts cs.toList).map .agg
    | some v=>cst v
    | none=>none
  | none=>none
def fnOk (P:Program) (f:FuncId):Bool :=
  match P.funcs[f]? with
  | some fn => fn.name != "runtime.NumGoroutine" && fn.body.isSome
  | none=>false
def cParts (P:Program) (t:TypeId):List (Nat × Operand) → Option (List (Nat × Nat × VA))
  | []=>some []
  | (i,x) :: r =>
    match (match P.underlying t with
      | some (.struct fs)=>(match fs[i]? with | some f=>(szOf P f.type).map fun s=>(f.offset,s) | none=>none)
      | some (.array _ e)=>(szOf P e).map fun s=>(i * s,s)
      | _=>none),cA x,cParts P t r with
    | some (o,s),some a,some q=>some ((o,s,a) :: q)
    | _,_,_=>none
def fieldsOk (P:Program) (t:TypeId):Bool :=
  match P.underlying t with
  | some (.struct fs)=>fs.toList.all fun f=>(szOf P f.type).isSome
  | some (.array _ e)=>(szOf P e).isSome
  | _=>false
def cElems:List (Nat × Operand) → Option (List (Nat × VA))
  | []=>some []
  | (i,x) :: r=>match cA x,cElems r with
    | some a,some q=>some ((i,a) :: q)
    | _,_=>none
def cCall (P:Program) (c:Call) (o:Oper):Option VOp :=
  match c.callee with
  | .builtin .len=>match c.args.toList,c.argTypes.toList with
    | [x],[t]=>match cA x,P.underlying t with
      | some a,some .string=>some (.len true a)
      | some a,some (.slice _)=>some (.len false a)
      | some a,some (.map _ _)=>some (.mlen a)
      | _,_=>none
    | _,_=>none
  | .builtin .append=>match c.args.toList,c.argTypes.toList with
    | [x,y],[t,u]=>match cA x,cA y,P.underlying t,P.underlying u with
      | some a,some b,some (.slice e),some (.slice e')=>match szOf P e,zeroOf P e with
        | some z,some zr=>if e == e' && zr.length == z then (P.info? e).map fun i=>.app z i.bytes zr false a b else none
        | _,_=>none
      | some a,some b,some (.slice e),some .string=>match szOf P e,zeroOf P e with
        | some z,some zr=>if z == 1 && zr.length == z then (P.info? e).map fun i=>.app z i.bytes zr true a b else none
        | _,_=>none
      | _,_,_,_=>none
    | _,_=>none
  | .builtin .max=>(cAs c.args.toList).map (.mm true)
  | .builtin .min=>(cAs c.args.toList).map (.mm false)
  | .value (.func f)=>if fnOk P f then (cAs c.args.toList).map (.call f) else none
  | .value (.const (.func (.func f) ⟨[]⟩ ⟨[]⟩))=>if fnOk P f then (cAs c.args.toList).map (.call f) else none
  | .value x=>match cA x,cAs c.args.toList with
    | some a,some l=>some (.callv a l)
    | _,_=>none
  | _=>some (.other o)
def zeroC:Operand → Bool
  | .const (.int .i64 0)=>true
  | _=>false
def nilT (P:Program) (t:TypeId):Bool :=
  match P.underlying t with
  | some (.slice _)=>true
  | _=>false
def nilC:Operand → Bool
  | .const (.slice none 0 0)=>true
  | _=>false
def cCallX (P:Program) (c:Call):Option VOp :=
  match c.callee with
  | .builtin .clear=>match c.args.toList,c.argTypes.toList with
    | [x],[t]=>match P.underlying t,cA x with
      | some (.slice e),some a=>match szOf P e,zeroOf P e with
        | some z,some zr=>if zr.length == z then some (.fx (.clear z zr) [a]) else none
        | _,_=>none
      | _,_=>none
    | _,_=>none
  | _=>none
def cX (P:Program) (o:Oper):Option VOp :=
  match o.op with
  | .nilCheck x=>(cA x).map fun a=>.px .nck [a]
  | .unOp .xor _ x=>(cA x).map fun a=>.px .unx [a]
  | .slice t x none (some hi) (some mx)=>if zeroC hi && zeroC mx then (match P.underlying t,cA x with
    | some (.slice e),some a=>(szOf P e).map fun z=>.fx (.slice0 z) [a]
    | _,_=>none) else none
  | .slice t x (some lo) (some hi) (some mx)=>if zeroC lo && zeroC hi && zeroC mx then (match P.underlying t,cA x with
    | some (.slice e),some a=>(szOf P e).map fun z=>.fx (.slice0 z) [a]
    | _,_=>none) else none
  | .binOp .eql t x y _=>if nilC y && nilT P t then (cA x).map fun a=>.nd false a else none
  | .binOp .neq t x y _=>if nilC y && nilT P t then (cA x).map fun a=>.nd true a else none
  | .buildSlice t n parts=>if n == 0 && parts.isEmpty then (match P.underlying t with
    | some (.slice e)=>match szOf P e,zeroOf P e with
      | some z,some zr=>if zr.length == z && z != 0 then some (.fx (.mk0 z) []) else none
      | _,_=>none
    | _=>none) else none
  | .call c=>cCallX P c
  | .insert t m k v=>match P.underlying t,cA m,cA k,cA v with
    | some (.map kt _),some a,some b,some c=>(keyK P kt).map fun kk=>.mapset kk a b c
    | _,_,_,_=>none
  | .convert s d x=>match P.underlying s,P.underlying d,cA x with
    | some (.slice e),some .string,some a=>(match P.underlying e with
      | some (.int .u8)=>some (.px .b2s [a])
      | _=>none)
    | _,_,_=>none
  | _=>none
def cOp0 (P:Program) (o:Oper):Option VOp :=
  match o.op with
  | .move x | .assign x=>(cA x).map .mv
  | .pick c a b=>match cA c,cA a,cA b with
    | some c,some a,some b=>some (.pick c a b)
    | _,_,_=>none
  | .alloc t=>(zeroOf P t).map .alloc
  | .box t x=>match cA x,szOf P t with
    | some a,some n=>some (.box n a)
    | _,_=>none
  | .build t parts=>match zeroOf P t,cParts P t parts.toList with
    | some zr,some ps=>if fieldsOk P t then some (.build zr ps) else none
    | _,_=>none
  | .buildSlice t n parts=>match P.underlying t with
    | some (.slice e)=>match szOf P e,zeroOf P e,cElems parts.toList with
      | some z,some zr,some ps=>if n * z ≤ 2 ^ 20 && zr.length == z && z != 0 then some (.bslice z n zr ps) else none
      | _,_,_=>none
    | _=>none
  | .load t a=>match cA a,aggOf P t,szOf P t with
    | some a,some g,some s=>some (.load g s a)
    | _,_,_=>none
  | .store t a v=>match cA a,cA v,szOf P t with
    | some a,some v,some s=>some (.store s a v)
    | _,_,_=>none
  | .binOp op t x y _=>match cA x,cA y,P.underlying t with
    | some a,some b,some .bool=>some (.binb op a b)
    | some a,some b,some (.int _)=>some (.bin op a b)
    | some a,some b,some .string=>some (.bin op a b)
    | some a,some b,some (.struct _)=>match op with
      | .eql=>(match flatK P 6 t with | some ks=>if !P.eqGuardType P.depth t then some (.eqs false ks a b) else none | none=>none)
      | .neq=>(match flatK P 6 t with | some ks=>if !P.eqGuardType P.depth t then some (.eqs true ks a b) else none | none=>none)
      | _=>none
    | _,_,_=>some (.other o)
  | .unOp op _ x=>(cA x).map (.un op)
  | .convert s d x=>match cA x,P.underlying s,P.underlying d with
    | some a,some (.int _),some (.int k)=>some (.conv k a)
    | some a,some .string,some .string=>some (.strid a)
    | _,_,_=>some (.other o)
  | .makeFunc f first cap=>match f,cAs first.toList,cAs cap.toList with
    | .func _,some a,some b=>some (.mkfn f a b)
    | _,_,_=>none
  | .slice t x lo hi none=>match P.underlying t,cA x,cAo lo,cAo hi with
    | some .string,some a,some l,some h=>some (.slice true 0 a l h)
    | some (.slice e),some a,some l,some h=>(szOf P e).map fun z=>.slice false z a l h
    | _,_,_,_=>none
  | .fieldAddr t x f=>match fieldOf P t f,cA x with
    | some fd,some a=>match szOf P fd.type with
      | some s=>if s == 0 then none else some (.faddr fd.offset a)
      | none=>none
    | _,_=>none
  | .field t x f=>match fieldOf P t f,cA x with
    | some fd,some a=>match szOf P fd.type,aggOf P fd.type with
      | some s,some g=>some (.fld g fd.offset s a)
      | _,_=>none
    | _,_=>none
  | .indexAddr t x i=>match P.underlying t,cA x,cA i with
    | some (.slice e),some a,some i=>(szOf P e).map fun z=>.iaddr z a i
    | _,_,_=>none
  | .index t x i=>match P.underlying t,cA x,cA i with
    | some .string,some a,some i=>some (.idx a i)
    | _,_,_=>none
  | .extract x i=>(cA x).map fun a=>.ext a i
  | .makeMap _ none=>some .mkmap
  | .lookup t m k ok=>match P.underlying t,cA m,cA k with
    | some (.map kt et),some a,some b=>match keyK P kt,zeroP P et with
      | some kk,some zr=>some (.lookup kk zr ok a b)
      | _,_=>some (.other o)
    | _,_,_=>some (.other o)
  | .mapUpdate t m k v=>match P.underlying t,cA m,cA k,cA v with
    | some (.map kt _),some a,some b,some c=>match keyK P kt with
      | some kk=>some (.mapset kk a b c)
      | none=>some (.other o)
    | _,_,_,_=>some (.other o)
  | .call c=>cCall P c o
  | _=>some (.other o)
def rawT (P:Program) (t:TypeId):Bool :=
  match P.underlying t with
  | some (.struct fs)=>match fs.toList with
    | [f, _] => f.name == "addr"
    | _=>false
  | _=>false
def rawO (P:Program) (o:Oper):Bool :=
  match o.op with
  | .alloc t=>rawT P t
  | _=>false
def cOp (P:Program) (o:Oper):Option VOp :=
  if rawO P o then some (.other o) else match cX P o with
  | some v=>some v
  | none=>match cOp0 P o with
    | some v=>some v
    | none=>some (.other o)
def PV.cells:PV → List PV
  | .agg cs=>cs
  | v=>[v]
def PV.fits (n:Nat):PV → Bool
  | .agg cs=>cs.length == n
  | .any | .undef | .tup _=>false
  | _=>n == 1
def overlay (cs:List PV) (off:Nat) (new:List PV):List PV:=cs.take off ++ new ++ cs.drop (off + new.length)
def gd (c:Bool) (p:PV):PV:=if c then p else .undef
def Za4:PV → PV → PV → PV
  | .bool c,a,b=>if c then a else b
  | _,_,_=>.any
def isBool:PV → Prop
  | .bool _=>True
  | _=>False
def aggV (agg:Bool) (cs:List PV):PV:=if agg then .agg cs else PV.nth cs 0
def intV (op:BinOp) (k:IntKind) (a b:Int):PV :=
  match op with
  | .add=>.int k (k.wrap (a + b))
  | .sub=>.int k (k.wrap (a - b))
  | .mul=>.int k (k.wrap (a * b))
  | .quo=>.int k (k.wrap (a.tdiv b))
  | .rem=>.int k (a.tmod b)
  | .and=>.int k (k.wrap (BitVec.ofInt k.bits a &&& BitVec.ofInt k.bits b).toNat)
  | .or=>.int k (k.wrap (BitVec.ofInt k.bits a ||| BitVec.ofInt k.bits b).toNat)
  | .xor=>.int k (k.wrap (BitVec.ofInt k.bits a ^^^ BitVec.ofInt k.bits b).toNat)
  | .andNot=>.int k (k.wrap (BitVec.ofInt k.bits a &&& ~~~BitVec.ofInt k.bits b).toNat)
  | .shl=>.int k (k.wrap (a * 2 ^ (min b.toNat k.bits)))
  | .shr=>.int k (a.fdiv (2 ^ (min b.toNat k.bits)))
  | .eql=>.bool (a == b)
  | .neq=>.bool (a != b)
  | .lss=>.bool (decide (a < b))
  | .leq=>.bool (decide (a ≤ b))
  | .gtr=>.bool (decide (b < a))
  | .geq=>.bool (decide (b ≤ a))
def strV (op:BinOp) (a b:List UInt8):PV :=
  match op with
  | .add=>.str (a ++ b)
  | .eql=>.bool (a == b)
  | .neq=>.bool (a != b)
  | .lss=>.bool (Op.bytesLess a b)
  | .leq=>.bool (Op.bytesLess a b || a == b)
  | .gtr=>.bool (!(Op.bytesLess a b || a == b))
  | .geq=>.bool (!Op.bytesLess a b)
  | _=>.any
def boolV (op:BinOp) (a b:Bool):PV :=
  match op with
  | .eql=>.bool (a == b)
  | .neq=>.bool (a != b)
  | _=>.any
def binV (op:BinOp):PV → PV → PV
  | .int k a,.int _ b=>intV op k a b
  | .str a,.str b=>strV op a b
  | _,_=>.any
def binbV (op:BinOp):PV → PV → PV
  | .bool a,.bool b=>boolV op a b
  | _,_=>.any
def binbOk (op:BinOp):PV → PV → Prop
  | .bool _,.bool _=>(match op with
    | .eql | .neq=>True
    | _=>False)
  | _,_=>False
def isStr:PV → Prop
  | .str _=>True
  | _=>False
def Zan (op:BinOp):PV → PV → Prop
  | .int k a,.int k' b=>(match op with
    | .shl | .shr=>0 ≤ b
    | .quo | .rem=>k = k' ∧ b ≠ 0
    | _=>k = k')
  | .str a,.str b=>(match op with
    | .add=>a.length + b.length ≤ 9223372036854775807
    | .eql | .neq | .lss | .leq | .gtr | .geq=>True
    | _=>False)
  | _,_=>False
def Zbk:PV → PV → Bool
  | .int _ a,.int _ b=>a == b
  | .str a,.str b=>a == b
  | .bool a,.bool b=>a == b
  | _,_=>false
def Zaq:List PV → List PV → Bool
  | a :: r,b :: q=>Zbk a b && Zaq r q
  | _,_=>true
def ekOk:EK → PV → PV → Prop
  | .i,.int k _,.int k' _=>k = k'
  | .s,.str _,.str _=>True
  | .b,.bool _,.bool _=>True
  | _,_,_=>False
def eqOk:List EK → List PV → List PV → Prop
  | k :: ks,x :: r,y :: q=>ekOk k x y ∧ eqOk ks r q
  | [],[],[]=>True
  | _,_,_=>False
def keyOk:KK → PV → PV → Prop
  | .one k,a,b=>ekOk k a b
  | .st ks,a,b=>isAggP' a ∧ isAggP' b ∧ eqOk ks a.cells b.cells
where isAggP':PV → Prop
  | .agg _=>True
  | _=>False
def keyEq (a b:PV):Bool:=Zaq a.cells b.cells
def mapFind (k:PV):List (PV × PV) → Option PV
  | []=>none
  | (x,v) :: r=>if keyEq k x then some v else mapFind k r
def mapPut (k v:PV):List (PV × PV) → List (PV × PV)
  | []=>[(k,v)]
  | (x,u) :: r=>if keyEq k x then (k,v) :: r else (x,u) :: mapPut k v r
def keysOk (kk:KK) (k:PV) (es:List (PV × PV)):Prop:=keyOk kk k k ∧ ∀ p ∈ es,keyOk kk k p.1
def Zbe (h:Heap):PV → List (PV × PV)
  | .mp id=>(match h.get id with
    | some (.map es)=>es
    | _=>[])
  | .rmp es=>es
  | _=>[]
def mapOk (h:Heap):PV → Prop
  | .mp id=>(match h.get id with
    | some (.map _)=>True
    | _=>False)
  | .rmp _=>True
  | .nilmp=>True
  | _=>False
def lookV (zero:PV) (ok:Bool) (r:Option PV):PV :=
  match r with
  | some v=>if ok then .tup [v,.bool true] else v
  | none=>if ok then .tup [zero,.bool false] else zero
def unV (op:UnOp):PV → PV
  | .int k n=>(match op with
    | .neg=>.int k (k.wrap (0 - n))
    | _=>.any)
  | .bool b=>(match op with
    | .not=>.bool (!b)
    | _=>.any)
  | _=>.any
def unOk (op:UnOp):PV → Prop
  | .int _ _=>(match op with | .neg=>True | _=>False)
  | .bool _=>(match op with | .not=>True | _=>False)
  | _=>False
def convV (k:IntKind):PV → PV
  | .int _ n=>.int k (k.wrap n)
  | _=>.any
def isInt:PV → Prop
  | .int _ _=>True
  | _=>False
def numOf:PV → Int
  | .int _ n=>n
  | _=>0
def loV (o:Option PV):Nat:=match o with | some p=>(numOf p).toNat | none=>0
def hiV (n:Nat) (o:Option PV):Nat:=match o with | some p=>(numOf p).toNat | none=>n
def lenV:PV → Nat
  | .str s=>s.length
  | .sl _ es=>es.length
  | .own _ _ n=>n
  | _=>0
def boundOk (o:Option PV):Prop:=match o with | some (.int _ n)=>0 ≤ n | some _=>False | none=>True
def sliceV (a:PV) (lo hi:Option PV):PV :=
  match a with
  | .str s=>.str ((s.drop (loV lo)).take (hiV s.length hi - loV lo))
  | .sl z es=>.sl z ((es.drop (loV lo)).take (hiV es.length hi - loV lo))
  | .own id off n=>.own id (off + loV lo) (hiV n hi - loV lo)
  | .nilsl=>.nilsl
  | _=>.any
def sliceOk (st:Bool) (z:Nat) (h:Heap) (a:PV) (lo hi:Option PV):Prop :=
  boundOk lo ∧ boundOk hi ∧ loV lo ≤ hiV (lenV a) hi ∧ hiV (lenV a) hi ≤ lenV a ∧
  match a with
  | .str _=>st = true
  | .sl z' _=>st = false ∧ z' = z
  | .own id _ _=>st = false ∧ (match h.get id with | some (.arr _ z' _)=>z' = z | _=>False)
  | .nilsl=>st = false
  | _=>False
def faddrV (off:Nat):PV → PV
  | .loc id i o=>.loc id i (o + off)
  | .ro cs=>.ro (cs.drop off)
  | _=>.any
def isAddr:PV → Prop
  | .loc _ _ _ | .ro _=>True
  | _=>False
def Za3 (h:Heap):PV → List PV
  | .loc id i o=>(match h.get id with
    | some (.arr _ _ es)=>(PV.row es i).drop o
    | _=>[])
  | .ro cs=>cs
  | _=>[]
def locOk (h:Heap):PV → Prop
  | .loc id i _=>(match h.get id with
    | some (.arr _ _ es)=>i < es.length
    | _=>False)
  | .ro _=>True
  | _=>False
def Zaw:PV → List PV
  | .agg cs=>cs
  | _=>[]
def isAggP:PV → Prop
  | .agg _=>True
  | _=>False
def iaddrV (a i:PV):PV :=
  match a with
  | .sl _ es=>.ro (PV.row es (numOf i).toNat)
  | .own id off _=>.loc id (off + (numOf i).toNat) 0
  | _=>.any
def iaddrOk (z:Nat) (h:Heap) (a i:PV):Prop :=
  isInt i ∧ 0 ≤ numOf i ∧ numOf i < lenV a ∧
  match a with
  | .sl z' _=>z' = z
  | .own id _ _=>(match h.get id with | some (.arr _ z' _)=>z' = z | _=>False)
  | _=>False
def idxV (a i:PV):PV :=
  match a with
  | .str s=>.int .u8 ((s.getD (numOf i).toNat 0).toNat:Int)
  | _=>.any
def idxOk (a i:PV):Prop :=
  isInt i ∧ 0 ≤ numOf i ∧ numOf i < lenV a ∧ match a with | .str _=>True | _=>False
def lenOk (st:Bool):PV → Prop
  | .str _=>st = true
  | .sl _ _ | .own _ _ _ | .nilsl=>st = false
  | _=>False
def extV (i:Nat):PV → PV
  | .tup l=>PV.nth l i
  | _=>.any
def extOk (i:Nat):PV → Prop
  | .tup l=>i < l.length
  | _=>False
def fillV (e:Env):List PV → List (Nat × Nat × VA) → List PV
  | cs,[]=>cs
  | cs,(o,_,a) :: r=>fillV e (overlay cs o (a.ev e).cells) r
def fillOk (e:Env) (n:Nat):List (Nat × Nat × VA) → Prop
  | []=>True
  | (o,s,a) :: r=>(a.ev e).fits s = true ∧ o + s ≤ n ∧ fillOk e n r
def mmV (mx:Bool):PV → PV → PV
  | .int k a,.int _ b=>.int k (if mx then (if b > a then b else a) else (if b < a then b else a))
  | _,_=>.any
def notNil:PV → Bool
  | .loc _ _ _ | .ro _ | .mp _=>true
  | .fn (.func _) _ _=>true
  | .sl _ (_ :: _)=>true
  | .own _ _ (_ + 1)=>true
  | _=>false
def isNil:PV → Bool
  | .nilsl | .nilp | .nilmp | .nilfn=>true
  | _=>false
def isPtr:PV → Bool
  | .loc _ _ _ | .ro _=>true
  | .fn (.func _) _ _=>true
  | _=>false
def byteRows (h:Heap):PV → List (List PV)
  | .sl _ es=>es
  | .own id off len=>(match h.get id with
    | some (.arr _ _ es)=>(es.drop off).take len
    | _=>[])
  | _=>[]
def byteOf:List PV → UInt8
  | [.int _ n]=>UInt8.ofNat n.toNat
  | _=>0
def isByte:List PV → Prop
  | [.int .u8 _]=>True
  | _=>False
def bytesOk (h:Heap):PV → Prop
  | .nilsl=>True
  | .sl z es=>z = 1 ∧ ∀ r ∈ es,isByte r
  | .own id off len=>(match h.get id with
    | some (.arr _ z es)=>z = 1 ∧ off + len ≤ es.length ∧ ∀ r ∈ (es.drop off).take len,isByte r
    | _=>False)
  | _=>False
def pxV (h:Heap):PX → List PV → PV
  | .b2s,[a]=>.str ((byteRows h a).map byteOf)
  | .nck,[a]=>a
  | .unx,[.int k n]=>intV .xor k (if k.signed then -1 else k.max) n
  | .isnil neg,[a]=>.bool (isNil a != neg)
  | _,_=>.any
def pxOk (h:Heap):PX → List PV → Prop
  | .b2s,[a]=>bytesOk h a
  | .nck,[a]=>isPtr a = true
  | .unx,[a]=>isInt a
  | .isnil _,[a]=>isNil a = true ∨ notNil a = true
  | _,_=>False
def pval (e:Env) (h:Heap):VOp → PV
  | .mv a=>a.ev e
  | .pick c a b=>Za4 (c.ev e) (a.ev e) (b.ev e)
  | .build zr ps=>.agg (fillV e zr ps)
  | .load g s a=>aggV g ((Za3 h (a.ev e)).take s)
  | .bin op a b=>binV op (a.ev e) (b.ev e)
  | .binb op a b=>binbV op (a.ev e) (b.ev e)
  | .strid a=>a.ev e
  | .eqs neg _ a b=>.bool (Zaq (Zaw (a.ev e)) (Zaw (b.ev e)) != neg)
  | .un op a=>unV op (a.ev e)
  | .conv k a=>convV k (a.ev e)
  | .mkfn f x y=>.fn f (x.map (VA.ev e)) (y.map (VA.ev e))
  | .slice _ _ a lo hi=>sliceV (a.ev e) (lo.map (VA.ev e)) (hi.map (VA.ev e))
  | .faddr off a=>faddrV off (a.ev e)
  | .fld g off s a=>aggV g (((Zaw (a.ev e)).drop off).take s)
  | .iaddr _ a i=>iaddrV (a.ev e) (i.ev e)
  | .idx a i=>idxV (a.ev e) (i.ev e)
  | .ext a i=>extV i (a.ev e)
  | .len _ a=>.int .i64 (lenV (a.ev e))
  | .lookup _ zr ok m k=>lookV zr ok (mapFind (k.ev e) (Zbe h (m.ev e)))
  | .mlen m=>.int .i64 ((Zbe h (m.ev e)).length:Int)
  | .mm mx [a,b]=>mmV mx (a.ev e) (b.ev e)
  | .px k l=>pxV h k (l.map (VA.ev e))
  | _=>.any
def pok (e:Env) (h:Heap):VOp → Prop
  | .mv _=>True
  | .pick c _ _=>isBool (c.ev e)
  | .build zr ps=>fillOk e zr.length ps
  | .load g s a=>locOk h (a.ev e) ∧ s ≤ (Za3 h (a.ev e)).length ∧ (g = false → s = 1)
  | .bin op a b=>Zan op (a.ev e) (b.ev e)
  | .binb op a b=>binbOk op (a.ev e) (b.ev e)
  | .strid a=>isStr (a.ev e)
  | .eqs _ ks a b=>isAggP (a.ev e) ∧ isAggP (b.ev e) ∧ eqOk ks (Zaw (a.ev e)) (Zaw (b.ev e))
  | .un op a=>unOk op (a.ev e)
  | .conv _ a=>isInt (a.ev e)
  | .mkfn _ _ _=>True
  | .slice st z a lo hi=>sliceOk st z h (a.ev e) (lo.map (VA.ev e)) (hi.map (VA.ev e))
  | .faddr _ a=>isAddr (a.ev e)
  | .fld g off s a=>isAggP (a.ev e) ∧ off + s ≤ (Zaw (a.ev e)).length ∧ (g = false → s = 1)
  | .iaddr z a i=>iaddrOk z h (a.ev e) (i.ev e)
  | .idx a i=>idxOk (a.ev e) (i.ev e)
  | .ext a i=>extOk i (a.ev e)
  | .len st a=>lenOk st (a.ev e)
  | .lookup kk _ _ m k=>mapOk h (m.ev e) ∧ keysOk kk (k.ev e) (Zbe h (m.ev e))
  | .mlen m=>mapOk h (m.ev e)
  | .mm _ [a,b]=>isInt (a.ev e) ∧ isInt (b.ev e)
  | .px k l=>pxOk h k (l.map (VA.ev e))
  | _=>False
def VOp.pure:VOp → Bool
  | .mv _ | .pick .. | .build .. | .load .. | .bin .. | .eqs .. | .binb .. | .strid _ | .un .. | .conv .. | .mkfn .. | .slice .. | .faddr .. | .fld .. | .iaddr .. | .idx .. | .ext .. | .len .. | .lookup .. | .mlen .. | .mm .. | .px ..=>true
  | _=>false
end Go.VM
namespace Go.VM
open Go
theorem cst_rep {g:Gh} {v:Value} {p:PV} (h:cst v = some p):Rep g v p:=by
  unfold cst at h
  split at h <;> first | (simp only [Option.some.injEq] at h; subst h) | (cases h; done)
  · exact .bool _
  · exact .int _ _
  · exact .str _ _ rfl
  · exact .nilsl
  · exact .nilp
  · exact .nilmp
  · exact .nilfn
  · exact .nilif
  · exact .fn _ _ _ _ _ rfl rfl (fun j hj=>absurd hj (by simp)) (fun j hj=>absurd hj (by simp))
theorem cst_one {v:Value} {p:PV} (h:cst v = some p):v.oneCell' = true:=by
  unfold cst at h
  split at h <;> first | rfl | (cases h; done)
theorem csts_one:∀ {l:List Value} {ps:List PV},csts l = some ps → ∀ j,j < ps.length → (l.getD j Go.undef).oneCell' = true
  | [],ps,h,j,hj=>by simp only [csts,Option.some.injEq] at h; subst h; exact absurd hj (by simp)
  | v :: r,ps,h,j,hj=>by
    simp only [csts] at h
    split at h
    · rename_i p q hp hq
      simp only [Option.some.injEq] at h; subst h
      cases j with
      | zero=>simpa using cst_one hp
      | succ j =>
        have:=csts_one hq j (by simpa using hj)
        simpa using this
    · cases h
theorem csts_len:∀ {l:List Value} {ps:List PV},csts l = some ps → l.length = ps.length
  | [],ps,h=>by simp only [csts,Option.some.injEq] at h; subst h; rfl
  | v :: r,ps,h=>by
    simp only [csts] at h
    split at h
    · rename_i p q hp hq
      simp only [Option.some.injEq] at h; subst h
      simp [csts_len hq]
    · cases h
theorem csts_rep {g:Gh}:∀ {l:List Value} {ps:List PV},csts l = some ps → ∀ j,j < ps.length → Rep g (l.getD j Go.undef) (PV.nth ps j)
  | [],ps,h,j,hj=>by simp only [csts,Option.some.injEq] at h; subst h; exact absurd hj (by simp)
  | v :: r,ps,h,j,hj=>by
    simp only [csts] at h
    split at h
    · rename_i p q hp hq
      simp only [Option.some.injEq] at h; subst h
      cases j with
      | zero=>simpa [PV.nth] using cst_rep hp
      | succ j =>
        have:=csts_rep (g:=g) hq j (by simpa using hj)
        simpa [PV.nth] using this
    · cases h
theorem Zam {g:Gh} {a:Act} {e:Env} (he:Zao g a e) {x:Operand} {va:VA} (h:cA x = some va):Rep g (a.eval x) (va.ev e):=by
  cases x with
  | tmp t=>simp only [cA,Option.some.injEq] at h; subst h; exact he t
  | const v =>
    simp only [cA,Option.map_eq_some_iff] at h
    obtain ⟨p,hp,rfl⟩:=h
    exact cst_rep hp
  | global n =>
    simp only [cA,Option.map_eq_some_iff,Option.bind_eq_some_iff] at h
    obtain ⟨cs,⟨l,hl,hcs⟩,rfl⟩:=h
    have hk:=(g.m.kn _ _ hl).2
    refine .ro n 0 _ cs (fun j=>l.getD j Go.undef) rfl (fun j hj=>?_) (fun j hj=>csts_rep hcs j hj)
    rw [Nat.zero_add]; exact hk j (by rw [csts_len hcs]; exact hj)
  | func f =>
    simp only [cA,Option.some.injEq] at h; subst h
    exact .fn _ _ _ _ _ rfl rfl (fun j hj=>absurd hj (by simp)) (fun j hj=>absurd hj (by simp))
theorem cAs_len:∀ {l:List Operand} {ps:List VA},cAs l = some ps → l.length = ps.length
  | [],ps,h=>by simp only [cAs,Option.some.injEq] at h; subst h; rfl
  | v :: r,ps,h=>by
    simp only [cAs] at h
    split at h
    · rename_i p q hp hq
      simp only [Option.some.injEq] at h; subst h
      simp [cAs_len hq]
    · cases h
theorem cAs_rep {g : Gh} {a : Act} {e : Env} (he : Zao g a e) : ∀ {l : List Operand} {ps : List VA}, cAs l = some ps →
    ∀ j,j < ps.length → Rep g ((l.map a.eval).getD j Go.undef) (PV.nth (ps.map (VA.ev e)) j)
  | [],ps,h,j,hj=>by simp only [cAs,Option.some.injEq] at h; subst h; exact absurd hj (by simp)
  | v :: r,ps,h,j,hj=>by
    simp only [cAs] at h
    split at h
    · rename_i p q hp hq
      simp only [Option.some.injEq] at h; subst h
      cases j with
      | zero=>simpa [PV.nth] using Zam he hp
      | succ j =>
        have:=cAs_rep he hq j (by simpa using hj)
        simpa [PV.nth] using this
    · cases h
section inv
variable {g : Gh} {v : Value}
theorem Rep.bool_inv {b:Bool} (h:Rep g v (.bool b)):v = .bool b:=by cases h; rfl
theorem Rep.int_inv {k:IntKind} {n:Int} (h:Rep g v (.int k n)):v = .int k n:=by cases h; rfl
theorem Rep.str_inv {l:List UInt8} (h:Rep g v (.str l)):∃ s:ByteArray,v = .string s ∧ s.data.toList = l:=by cases h; exact ⟨_,rfl,‹_›⟩
theorem Rep.agg_inv {cs:List PV} (h:Rep g v (.agg cs)):∃ vs:Array Value,v = .agg vs ∧ vs.size = cs.length ∧ (∀ j,j < cs.length → (vs.getD j Go.undef).oneCell' = true) ∧ ∀ j,j < cs.length → Rep g (vs.getD j Go.undef) (PV.nth cs j):=by
  cases h with
  | agg vs cs h h1 hr=>exact ⟨_,rfl,h,h1,hr⟩
theorem Rep.tup_inv {cs:List PV} (h:Rep g v (.tup cs)):∃ vs:Array Value,v = .tuple vs ∧ vs.size = cs.length ∧ ∀ j,j < cs.length → Rep g (vs.getD j Go.undef) (PV.nth cs j):=by
  cases h; exact ⟨_,rfl,‹_›,‹_›⟩
theorem Rep.loc_inv {id i off:Nat} (h:Rep g v (.loc id i off)):∃ b o n z,g.β id = some (b,o,n,z) ∧ v = .pointer (some ⟨b,o + i * z + off,none⟩):=by
  cases h with
  | loc id i off b o n z a hb ha=>subst ha; exact ⟨b,o,n,z,hb,rfl⟩
theorem Rep.ro_inv {cs:List PV} (h:Rep g v (.ro cs)):∃ b o,∃ vs:Nat → Value,v = .pointer (some ⟨b,o,none⟩) ∧ (∀ j,j < cs.length → g.m b (o + j) = some (vs j)) ∧ ∀ j,j < cs.length → Rep g (vs j) (PV.nth cs j):=by
  cases h with
  | ro b o a cs vs ha hm hr=>subst ha; exact ⟨b,o,vs,rfl,hm,hr⟩
theorem Rep.cells_size {p:PV} {n:Nat} (h:Rep g v p) (hf:p.fits n = true):v.cells.size = n ∧ p.cells.length = n ∧ (∀ j,j < n → (v.cells.getD j Go.undef).oneCell' = true) ∧ ∀ j,j < n → Rep g (v.cells.getD j Go.undef) (PV.nth p.cells j):=by
  by_cases ha:∃ cs,p = .agg cs
  · obtain ⟨cs,rfl⟩:=ha
    obtain ⟨vs,rfl,hs,ho,hr⟩:=h.agg_inv
    simp only [PV.fits,beq_iff_eq] at hf
    exact ⟨by rw [← hf]; exact hs,hf,fun j hj=>ho j (by omega),fun j hj=>hr j (by omega)⟩
  · have hp:p.cells = [p]:=by cases p <;> first | rfl | exact absurd ⟨_,rfl⟩ ha
    have hn:n = 1:=by cases p <;> simp [PV.fits] at hf <;> first | exact hf | exact absurd ⟨_,rfl⟩ ha
    have hv:v.cells = #[v]:=by cases h <;> first | rfl | exact absurd ⟨_,rfl⟩ ha | simp [PV.fits] at hf
    have h1:v.oneCell' = true:=by cases h <;> first | rfl | exact absurd ⟨_,rfl⟩ ha | simp [PV.fits] at hf
    subst hn
    refine ⟨by simp [hv],by simp [hp],fun j hj=>?_,fun j hj=>?_⟩
    · obtain rfl:j = 0:=by omega
      simpa [hv] using h1
    · obtain rfl:j = 0:=by omega
      simpa [hv,hp,PV.nth] using h
end inv
theorem loc_cells {g : Gh} {w : World} {h : Heap} (r : Rel g w h) {v : Value} {p : PV} (hv : Rep g v p) (hok : locOk h p) :
    ∃ b o,∃ vs:Nat → Value,v = .pointer (some ⟨b,o,none⟩) ∧ ∀ j,j < (Za3 h p).length → w.cell? ⟨b,o + j,none⟩ = some (vs j) ∧ (vs j).oneCell' = true ∧ Rep g (vs j) (PV.nth (Za3 h p) j):=by
  cases p <;> simp only [locOk] at hok
  case ro cs =>
    obtain ⟨b,o,vs,rfl,hm,hr⟩:=hv.ro_inv
    exact ⟨b,o,vs,rfl,fun j hj=>⟨(r.mem _ _ _ (hm j hj)).1,(r.mem _ _ _ (hm j hj)).2,hr j hj⟩⟩
  case loc id i off =>
    obtain ⟨b,o,n,z,hb,rfl⟩:=hv.loc_inv
    split at hok
    case h_2=>exact hok.elim
    rename_i fz z' es hg
    simp only [Za3,hg]
    refine ⟨b,o + i * z + off,fun j=>?_,rfl,?_⟩
    · exact match w.heap[b]? with
        | some (.cells c _ _)=>c.getD (o + i * z + off + j) Go.undef
        | _=>Go.undef
    · intro j hj
      rcases r.blk id _ hg with ⟨h0,_⟩ | ⟨b',o',n',z'',hb',hlt,hno,hokk⟩
      · rw [hb] at h0; cases h0
      · rw [hb] at hb'
        simp only [Option.some.injEq,Prod.mk.injEq] at hb'
        obtain ⟨rfl,rfl,rfl,rfl⟩:=hb'
        obtain ⟨rfl,hz,hle,c,e,hc,hs,hrep⟩:=hokk
        have hzi:=hz i hok
        have hjz:off + j < z':=by
          simp only [List.length_drop] at hj
          omega
        obtain ⟨ho1,hr,_⟩:=hrep i (off + j) hok hjz
        have hin:o + i * z' + (off + j) < c.size:=by
          have h1:(i + 1) * z' ≤ es.length * z':=Nat.mul_le_mul_right _ hok
          rw [Nat.succ_mul] at h1
          omega
        simp only [hc]
        refine ⟨?_,by rw [show o + i * z' + off + j = o + i * z' + (off + j) by omega]; exact ho1,?_⟩
        · simp only [World.cell?,hc,Option.isSome_none,Bool.false_eq_true,if_false]
          rw [show o + i * z' + off + j = o + i * z' + (off + j) by omega]
          rw [Array.getElem?_eq_getElem hin]
          simp [Array.getD,hin]
        · rw [show o + i * z' + off + j = o + i * z' + (off + j) by omega]
          have e1:PV.nth ((PV.row es i).drop off) j = PV.nth (PV.row es i) (off + j):=by simp [PV.nth,List.getD_eq_getElem?_getD,List.getElem?_drop]
          rw [e1]; exact hr
theorem run_agg {P:Program} {t:TypeId} {b:Bool} (h:aggOf P t = some b) (w:World):(Go.isAgg t).run P w = .ok b w:=by
  unfold aggOf at h
  unfold Go.isAgg
  split at h
  · rename_i d hd; simp only [Option.some.injEq] at h; subst h; simp [run_underlying hd]
  · rename_i d hd; simp only [Option.some.injEq] at h; subst h; simp [run_underlying hd]
  · rename_i d hne1 hne2 hd
    simp only [Option.some.injEq] at h; subst h
    rw [Sem.run_bind,run_underlying hd]
    simp only [Result.andThen_ok]
    cases d <;> first | rfl | simp_all
  · cases h
theorem run_sz {P:Program} {t:TypeId} {s:Nat} (h:szOf P t = some s) (w:World):(sizeOf t).run P w = .ok s w:=by
  simp only [szOf,Option.map_eq_some_iff] at h
  obtain ⟨i,hi,rfl⟩:=h
  simp [sizeOf,run_typeInfo w hi]
theorem run_fieldAt {P : Program} {t : TypeId} {f : Nat} {fd : Field} {s : Nat} (hf : fieldOf P t f = some fd) (hs : szOf P fd.type = some s) (h0 : s ≠ 0) (w : World) (b o : Nat) :
    (Instr.fieldAt t (.pointer (some ⟨b,o,none⟩)) f).run P w = .ok (.pointer (some ⟨b,o + fd.offset,none⟩)) w:=by
  unfold fieldOf at hf
  split at hf
  · rename_i fs hu
    simp only [Instr.fieldAt,Sem.run_bind,run_underlying hu,Result.andThen_ok,hf,Instr.sureAddr,Sem.run_pure,fieldPlace,run_sz hs,if_neg h0]
    by_cases h:fd.offset = 0 <;> simp [Addr.add,h]
  · cases hf
theorem run_part {P : Program} {t : TypeId} {s : Nat} {b : Bool} (hs : szOf P t = some s) (hb : aggOf P t = some b) (w : World) (cs : Array Value) (off : Nat) (hle : off + s ≤ cs.size) (h1 : b = false → s = 1) :
    (part t cs off).run P w = .ok (if b then .agg (cs.extract off (off + s)) else cs.getD off Go.undef) w:=by
  cases b
  · have:=h1 rfl
    have hlt:off < cs.size:=by omega
    simp [part,run_agg hb,hlt,Array.getD]
  · simp [part,run_agg hb,run_sz hs]
theorem run_loadAt {P : Program} {t : TypeId} {s : Nat} {b : Bool} (hs : szOf P t = some s) (hb : aggOf P t = some b) (w : World) (bl o : Nat) (vs : Nat → Value)
    (hc:∀ j,j < s → w.cell? ⟨bl,o + j,none⟩ = some (vs j)) (h1:b = false → s = 1) :
    (Instr.loadAt t (.pointer (some ⟨bl,o,none⟩))).run P w = .ok (if b then .agg ((List.range s).map vs).toArray else vs 0) w:=by
  have hadd:∀ j,(⟨bl,o,none⟩:Addr).add j = ⟨bl,o + j,none⟩:=fun j=>by by_cases h:j = 0 <;> simp [Addr.add,h]
  cases b
  · have:=h1 rfl
    subst this
    have h0:=hc 0 (by omega)
    simp only [Nat.add_zero] at h0
    simp [Instr.loadAt,Instr.sureAddr,loadVar,run_agg hb,h0]
  · have hl:=run_loadCells (P:=P) w ⟨bl,o,none⟩ s vs (fun j hj=>by rw [hadd]; exact hc j hj)
    simp only [Instr.loadAt,Instr.sureAddr,Sem.run_bind,Sem.run_pure,Result.andThen_ok,loadVar,run_agg hb,if_true,run_sz hs,hl]
theorem wrap_str {a b:List UInt8} {s t:ByteArray} (hs:s.data.toList = a) (ht:t.data.toList = b):s.toList = a ∧ t.toList = b ∧ s.size = a.length ∧ (s ++ t).data.toList = a ++ b:=by
  have h1:∀ x:ByteArray,x.toList = x.data.toList:=ByteArray.toList_eq
  refine ⟨by rw [h1,hs],by rw [h1,ht],by rw [← hs,Array.length_toList]; rfl,by rw [← hs,← ht,ByteArray.data_append,Array.toList_append]⟩
theorem eqGuard_run {P:Program} {w:World} {op:BinOp} {t:TypeId} {x y:Operand} {a b:Value} (h1:(∀ vs,a ≠ .agg vs) ) (h2:a ≠ .nilIface):(eqGuard op t x y a b).run P w = .ok () w:=by
  unfold eqGuard
  cases op <;> cases a <;> simp_all
theorem int_sound {P : Program} {w : World} {op : BinOp} {t : TypeId} {k k' : IntKind} {a b : Int} (hok : Zan op (.int k a) (.int k' b)) :
    ∃ v,(binOp op t (.int k a) (.int k' b)).run P w = .ok v w ∧ ∀ g,Rep g v (binV op (.int k a) (.int k' b)):=by
  cases op <;> simp only [Zan] at hok <;> simp only [binV,intV]
  case add=>subst hok; exact ⟨_,by simp [binOp,Op.intArith],fun g=>.int _ _⟩
  case sub=>subst hok; exact ⟨_,by simp [binOp,Op.intArith],fun g=>.int _ _⟩
  case mul=>subst hok; exact ⟨_,by simp [binOp,Op.intArith],fun g=>.int _ _⟩
  case quo=>obtain ⟨rfl,h⟩:=hok; exact ⟨_,by simp [binOp,Op.intDiv,h],fun g=>.int _ _⟩
  case rem=>obtain ⟨rfl,h⟩:=hok; exact ⟨_,by simp [binOp,Op.intDiv,h],fun g=>.int _ _⟩
  case and=>subst hok; exact ⟨_,by simp [binOp,Op.intBits],fun g=>.int _ _⟩
  case or=>subst hok; exact ⟨_,by simp [binOp,Op.intBits],fun g=>.int _ _⟩
  case xor=>subst hok; exact ⟨_,by simp [binOp,Op.intBits],fun g=>.int _ _⟩
  case andNot=>subst hok; exact ⟨_,by simp [binOp,Op.intBits],fun g=>.int _ _⟩
  case shl => have h : ¬ b < 0 := by omega
              exact ⟨_,by simp [binOp,Op.shift,h],fun g=>.int _ _⟩
  case shr => have h : ¬ b < 0 := by omega
              exact ⟨_,by simp [binOp,Op.shift,h],fun g=>.int _ _⟩
  case eql=>subst hok; exact ⟨_,by simp [binOp,Op.intCmp],fun g=>.bool _⟩
  case neq=>subst hok; exact ⟨_,by simp [binOp,Op.intCmp],fun g=>.bool _⟩
  case lss=>subst hok; exact ⟨_,by simp [binOp,Op.intCmp],fun g=>.bool _⟩
  case leq=>subst hok; exact ⟨_,by simp [binOp,Op.intCmp],fun g=>.bool _⟩
  case gtr=>subst hok; exact ⟨_,by simp [binOp,Op.intCmp],fun g=>.bool _⟩
  case geq=>subst hok; exact ⟨_,by simp [binOp,Op.intCmp],fun g=>.bool _⟩
theorem strop_sound {P : Program} {w : World} {op : BinOp} {t : TypeId} {s u : ByteArray} {a b : List UInt8} (hs : s.data.toList = a) (hu : u.data.toList = b) (hok : Zan op (.str a) (.str b)) :
    ∃ v,(binOp op t (.string s) (.string u)).run P w = .ok v w ∧ ∀ g,Rep g v (binV op (.str a) (.str b)):=by
  obtain ⟨e1,e2,e3,e4⟩:=wrap_str hs hu
  have e5:u.size = b.length:=by rw [← hu,Array.length_toList]; rfl
  cases op <;> simp only [Zan] at hok <;> simp only [binV,strV]
  case add =>
    refine ⟨.string (s ++ u),?_,fun g=>.str _ _ e4⟩
    have:¬ (9223372036854775807 < ((s.size:Int) + (u.size:Int))):=by omega
    simp [binOp,Op.stringOp,IntKind.max,IntKind.signed,IntKind.bits,this]
  case eql=>exact ⟨.bool (a == b),by simp only [binOp,Op.stringOp,e1,e2,Sem.run_pure],fun g=>.bool _⟩
  case neq=>exact ⟨.bool (a != b),by simp only [binOp,Op.stringOp,e1,e2,Sem.run_pure,bne],fun g=>.bool _⟩
  case lss=>exact ⟨.bool _,by simp [binOp,Op.stringOp,e1,e2],fun g=>.bool _⟩
  case leq=>exact ⟨.bool _,by simp [binOp,Op.stringOp,e1,e2],fun g=>.bool _⟩
  case gtr=>exact ⟨.bool _,by simp [binOp,Op.stringOp,e1,e2],fun g=>.bool _⟩
  case geq=>exact ⟨.bool _,by simp [binOp,Op.stringOp,e1,e2],fun g=>.bool _⟩
theorem boolop_sound {P : Program} {w : World} {op : BinOp} {t : TypeId} {a b : Bool} (hd : P.underlying t = some .bool) (hok : binbOk op (.bool a) (.bool b)) :
    ∃ v,(binOp op t (.bool a) (.bool b)).run P w = .ok v w ∧ ∀ g,Rep g v (binbV op (.bool a) (.bool b)):=by
  have he:(Op.equal t (.bool a) (.bool b)).run P w = .ok (a == b) w:=run_equal_bool w t a b hd
  cases op <;> simp only [binbOk] at hok <;> simp only [binbV,boolV]
  case eql=>exact ⟨_,by simp [binOp,he],fun g=>.bool _⟩
  case neq=>exact ⟨_,by simp [binOp,he,bne],fun g=>.bool _⟩
theorem bin_sound {P : Program} {g : Gh} {w : World} {op : BinOp} {t : TypeId} {x y : Operand} {vx vy : Value} {px py : PV} 
    (hx:Rep g vx px) (hy:Rep g vy py) (hok:Zan op px py) :
    ∃ v,((do eqGuard op t x y vx vy; binOp op t vx vy:Sem Value)).run P w = .ok v w ∧ Rep g v (binV op px py):=by
  have key:∃ v,(binOp op t vx vy).run P w = .ok v w ∧ Rep g v (binV op px py):=by
    cases px <;> cases py <;> (try (simp only [Zan] at hok; done))
    case int.int k a k' b =>
      obtain rfl:=hx.int_inv
      obtain rfl:=hy.int_inv
      obtain ⟨v,h1,h2⟩:=int_sound (P:=P) (w:=w) (t:=t) hok
      exact ⟨v,h1,h2 g⟩
    case str.str a b =>
      obtain ⟨s,rfl,hs⟩:=hx.str_inv
      obtain ⟨u,rfl,hu⟩:=hy.str_inv
      obtain ⟨v,h1,h2⟩:=strop_sound (P:=P) (w:=w) (t:=t) hs hu hok
      exact ⟨v,h1,h2 g⟩
  obtain ⟨v,h1,h2⟩:=key
  refine ⟨v,?_,h2⟩
  have hg:(eqGuard op t x y vx vy).run P w = .ok () w:=by
    apply eqGuard_run
    · intro vs hv; subst hv; cases hx; simp [Zan] at hok; simp [Zan] at hok
    · intro hv; subst hv; cases hx; simp [Zan] at hok; simp [Zan] at hok
  simp [hg,h1]
theorem binb_sound {P : Program} {g : Gh} {w : World} {op : BinOp} {t : TypeId} {x y : Operand} {vx vy : Value} {px py : PV} 
    (hb:P.underlying t = some .bool) (hx:Rep g vx px) (hy:Rep g vy py) (hok:binbOk op px py) :
    ∃ v,((do eqGuard op t x y vx vy; binOp op t vx vy:Sem Value)).run P w = .ok v w ∧ Rep g v (binbV op px py):=by
  cases px <;> cases py <;> (try (simp only [binbOk] at hok; done))
  rename_i p q
  obtain rfl:=hx.bool_inv
  obtain rfl:=hy.bool_inv
  obtain ⟨v,h1,h2⟩:=boolop_sound (P:=P) (w:=w) hb hok
  have hg:(eqGuard op t x y (.bool p) (.bool q)).run P w = .ok () w:=eqGuard_run (fun vs hv=>by cases hv) (fun hv=>by cases hv)
  exact ⟨v,by simp [hg,h1],h2 g⟩
theorem nth_drop (l:List PV) (a j:Nat):PV.nth (l.drop a) j = PV.nth l (a + j):=by simp [PV.nth,List.getD_eq_getElem?_getD,List.getElem?_drop]
theorem nth_take (l:List PV) (a j:Nat) (h:j < a):PV.nth (l.take a) j = PV.nth l j:=by simp [PV.nth,List.getD_eq_getElem?_getD,List.getElem?_take,h]
theorem row_drop (l:List (List PV)) (a j:Nat):PV.row (l.drop a) j = PV.row l (a + j):=by simp [PV.row,List.getD_eq_getElem?_getD,List.getElem?_drop]
theorem row_take (l:List (List PV)) (a j:Nat) (h:j < a):PV.row (l.take a) j = PV.row l j:=by simp [PV.row,List.getD_eq_getElem?_getD,List.getElem?_take,h]
theorem getD_extract (vs:Array Value) (a b j:Nat) (h:j < b - a) (hb:b ≤ vs.size):(vs.extract a b).getD j Go.undef = vs.getD (a + j) Go.undef:=by
  have h1:j < (vs.extract a b).size:=by simp; omega
  have h2:a + j < vs.size:=by omega
  have h3:j < min b vs.size - a:=by omega
  simp [Array.getD,h2,h3]
section pure
variable {P : Program} {g : Gh} {w : World} {h : Heap} {a : Act} {e : Env}
theorem load_sound {t : TypeId} {s : Nat} {b : Bool} {x : Operand} {va : VA} (hr : Rel g w h) (he : Zao g a e) (hx : cA x = some va) (hb : aggOf P t = some b) (hs : szOf P t = some s)
    (hok:pok e h (.load b s va)):∃ v,(Instr.loadAt t (a.eval x)).run P w = .ok v w ∧ Rep g v (pval e h (.load b s va)):=by
  obtain ⟨hl,hle,h1⟩:=hok
  obtain ⟨bl,o,vs,hv,hc⟩:=loc_cells hr (Zam he hx) hl
  have hrun:=run_loadAt (P:=P) hs hb w bl o vs (fun j hj=>(hc j (by omega)).1) h1
  rw [hv]
  refine ⟨_,hrun,?_⟩
  · simp only [pval,aggV]
    cases b
    · simp only [Bool.false_eq_true,if_false]
      have:=h1 rfl; subst this
      rw [nth_take _ _ _ (by omega)]
      exact (hc 0 (by omega)).2.2
    · simp only [if_true]
      have key:∀ j,j < s → ((List.range s).map vs).toArray.getD j Go.undef = vs j:=fun j hj'=>by simp [Array.getD,hj']
      refine .agg _ _ (by simp; omega) (fun j hj=>?_) (fun j hj=>?_)
      · have hj':j < s:=by simp at hj; omega
        rw [key j hj']
        exact (hc j (by omega)).2.1
      · have hj':j < s:=by simp at hj; omega
        rw [nth_take _ _ _ hj',key j hj']
        exact (hc j (by omega)).2.2
theorem fld_sound {t : TypeId} {f : Nat} {fd : Field} {s : Nat} {b : Bool} {x : Operand} {va : VA} (he : Zao g a e) (hx : cA x = some va) (hf : fieldOf P t f = some fd) (hb : aggOf P fd.type = some b) (hs : szOf P fd.type = some s)
    (hok:pok e h (.fld b fd.offset s va)):∃ v,(Instr.field t (a.eval x) f).run P w = .ok v w ∧ Rep g v (pval e h (.fld b fd.offset s va)):=by
  obtain ⟨hl,hle,h1⟩:=hok
  have hv:=Zam he hx
  cases hp:va.ev e <;> simp only [hp,isAggP] at hl
  rename_i cs
  rw [hp] at hv
  obtain ⟨vs,hv,hsz,ho,hr⟩:=hv.agg_inv
  simp only [hp,Zaw] at hle
  simp only [pval,hp,Zaw]
  have hrun:(Instr.field t (.agg vs) f).run P w = .ok (if b then .agg (vs.extract fd.offset (fd.offset + s)) else vs.getD fd.offset Go.undef) w:=by
    unfold fieldOf at hf
    split at hf
    · rename_i fs hu
      simp only [Instr.field,Sem.run_bind,run_underlying hu,Result.andThen_ok,hf,asAgg,Sem.run_pure]
      exact run_part hs hb w vs fd.offset (by omega) h1
    · cases hf
  rw [hv]
  refine ⟨_,hrun,?_⟩
  · simp only [aggV]
    cases b
    · simp only [Bool.false_eq_true,if_false]
      have:=h1 rfl; subst this
      rw [nth_take _ _ _ (by omega),nth_drop]
      exact hr _ (by omega)
    · simp only [if_true]
      refine .agg _ _ (by simp; omega) (fun j hj=>?_) (fun j hj=>?_)
      · have hj':j < s:=by simp at hj; omega
        rw [getD_extract _ _ _ _ (by omega) (by omega)]
        exact ho _ (by omega)
      · have hj':j < s:=by simp at hj; omega
        rw [nth_take _ _ _ hj',nth_drop,getD_extract _ _ _ _ (by omega) (by omega)]
        exact hr _ (by omega)
theorem faddr_sound {t : TypeId} {f : Nat} {fd : Field} {s : Nat} {x : Operand} {va : VA} (he : Zao g a e) (hx : cA x = some va) (hf : fieldOf P t f = some fd) (hs : szOf P fd.type = some s) (h0 : s ≠ 0)
    (hok:isAddr (va.ev e)):∃ v,(Instr.fieldAt t (a.eval x) f).run P w = .ok v w ∧ Rep g v (faddrV fd.offset (va.ev e)):=by
  have hv:=Zam he hx
  cases hp:va.ev e <;> simp only [hp,isAddr] at hok <;> rw [hp] at hv
  case loc id i off =>
    obtain ⟨b,o,n,z,hb,hv⟩:=hv.loc_inv
    rw [hv]
    exact ⟨_,run_fieldAt hf hs h0 w _ _,.loc _ _ _ b o n z _ hb (by congr 1; omega)⟩
  case ro cs =>
    obtain ⟨b,o,vs,hv,hm,hr⟩:=hv.ro_inv
    rw [hv]
    refine ⟨_,run_fieldAt hf hs h0 w _ _,.ro b (o + fd.offset) _ _ (fun j=>vs (fd.offset + j)) rfl (fun j hj=>?_) (fun j hj=>?_)⟩
    · rw [Nat.add_assoc]; exact hm _ (by simp at hj; omega)
    · rw [nth_drop]; exact hr _ (by simp at hj; omega)
theorem iaddr_sound {t ty : TypeId} {z : Nat} {x y : Operand} {va vi : VA} (hr : Rel g w h) (he : Zao g a e) (hx : cA x = some va) (hy : cA y = some vi) (hu : P.underlying t = some (.slice ty)) (hs : szOf P ty = some z)
    (hok:iaddrOk z h (va.ev e) (vi.ev e)):∃ v,(Instr.indexAt t (a.eval x) (a.eval y)).run P w = .ok v w ∧ Rep g v (iaddrV (va.ev e) (vi.ev e)):=by
  obtain ⟨hi,h0,hlt,hm⟩:=hok
  have hv:=Zam he hx
  have hiv:=Zam he hy
  cases hpi:vi.ev e <;> simp only [hpi,isInt] at hi <;> rw [hpi] at hiv
  rename_i k n
  have hiv:=hiv.int_inv
  simp only [hpi,numOf] at h0 hlt hm ⊢
  have key:∀ (b o len cap:Nat),n < (len:Int) → (Instr.indexAt t (.slice (some ⟨b,o,none⟩) len cap) (.int k n)).run P w = .ok (.pointer (some ⟨b,o + n.toNat * z,none⟩)) w:=by
    intro b o len cap hn
    simp only [Instr.indexAt,asIntOf,Sem.run_bind,Sem.run_pure,Result.andThen_ok,run_underlying hu,run_sz hs,if_pos (And.intro h0 hn),Sem.run_ite,h0,hn,and_self,if_true]
    by_cases h:n.toNat * z = 0 <;> simp [Addr.add,h]
  rw [hiv]
  generalize a.eval x = vx at hv ⊢
  cases hp:va.ev e <;> simp only [hp,lenV,iaddrV,numOf] at hm hlt ⊢ <;> rw [hp] at hv
  case sl z' es =>
    subst hm
    cases hv with
    | slE=>exact absurd hlt (by simp; omega)
    | sl b o len cap z a es vs ha hl hc hz hmm hrr =>
      subst ha hl
      refine ⟨_,key _ _ _ _ hlt,?_⟩
      have hn:n.toNat < es.length:=by omega
      refine .ro b (o + n.toNat * z') _ _ (fun j=>vs n.toNat j) rfl (fun j hj=>?_) (fun j hj=>?_)
      · exact hmm _ _ hn (by rw [hz _ hn] at hj; exact hj)
      · exact hrr _ _ hn (by rw [hz _ hn] at hj; exact hj)
  case own id off len =>
    split at hm
    case h_2=>exact hm.elim
    rename_i fz z' es hg
    subst hm
    cases hv with
    | ownE=>exact absurd hlt (by simp; omega)
    | own _ _ _ cap b o n' z a hb ha hc hn =>
      subst ha
      rcases hr.blk id _ hg with ⟨hb0,_⟩ | ⟨b',o',n'',z'',hb',_,_,hokk⟩
      · rw [hb] at hb0; cases hb0
      · rw [hb] at hb'
        simp only [Option.some.injEq,Prod.mk.injEq] at hb'
        obtain ⟨rfl,rfl,rfl,rfl⟩:=hb'
        have hz:=hokk.1
        subst hz
        refine ⟨_,key _ _ _ _ hlt,?_⟩
        exact .loc _ _ _ b o n' z' _ hb (by congr 1; rw [Nat.add_mul]; omega)
theorem idx_sound {t : TypeId} {x y : Operand} {va vi : VA} (he : Zao g a e) (hx : cA x = some va) (hy : cA y = some vi) (hu : P.underlying t = some .string)
    (hok:idxOk (va.ev e) (vi.ev e)):∃ v,(Instr.index t (a.eval x) (a.eval y)).run P w = .ok v w ∧ Rep g v (idxV (va.ev e) (vi.ev e)):=by
  obtain ⟨hi,h0,hlt,hm⟩:=hok
  have hv:=Zam he hx
  have hiv:=Zam he hy
  cases hpi:vi.ev e <;> simp only [hpi,isInt] at hi <;> rw [hpi] at hiv
  rename_i k n
  have hiv:=hiv.int_inv
  simp only [hpi,numOf] at h0 hlt hm ⊢
  cases hp:va.ev e <;> simp only [hp,lenV,idxV] at hm hlt ⊢ <;> rw [hp] at hv
  rename_i l
  obtain ⟨s,hv,hs⟩:=hv.str_inv
  have hsz:s.size = l.length:=by rw [← hs,Array.length_toList]; rfl
  have hn:n.toNat < s.size:=by omega
  have hb:s[n.toNat]? = some (l.getD n.toNat 0):=by
    have h1:s[n.toNat]? = s.data[n.toNat]?:=by
      rw [getElem?_pos s n.toNat hn,Array.getElem?_eq_getElem hn]
      rfl
    rw [h1,← Array.getElem?_toList,hs,List.getElem?_eq_getElem (by omega),List.getD_eq_getElem?_getD,List.getElem?_eq_getElem (show n.toNat < l.length by omega)]
    rfl
  rw [hiv,hv]
  have hrun:(Instr.index t (.string s) (.int k n)).run P w = .ok (.int .u8 ((l.getD n.toNat 0).toNat:Int)) w:=by
    simp only [Instr.index,asIntOf,Sem.run_bind,Sem.run_pure,Result.andThen_ok,run_underlying hu,if_pos h0,hb]
  exact ⟨_,hrun,.int _ _⟩
theorem bound_run {k:IntKind} {n:Int} {y:Nat} {code:BoundsCode} (h0:0 ≤ n) (h1:n.toNat ≤ y) (w:World):(Instr.sliceBound (.int k n) y code).run P w = .ok n.toNat w :=
  run_sliceBound w k n y code h0 (by omega)
theorem cAo_cases {o:Option Operand} {va:Option VA} (h:cAo o = some va):(o = none ∧ va = none) ∨ ∃ x v,o = some x ∧ va = some v ∧ cA x = some v:=by
  cases o with
  | none=>simp only [cAo,Option.some.injEq] at h; exact .inl ⟨rfl,h.symm⟩
  | some x =>
    simp only [cAo,Option.map_eq_some_iff] at h
    obtain ⟨v,hv,rfl⟩:=h
    exact .inr ⟨x,v,rfl,rfl,hv⟩
theorem bounds_run {lo hi : Option Operand} {vl vh : Option VA} (he : Zao g a e) (hl : cAo lo = some vl) (hh : cAo hi = some vh) (sl : Bool) (len cap : Nat) (hlc : len ≤ cap)
    (b1:boundOk (vl.map (VA.ev e))) (b2:boundOk (vh.map (VA.ev e))) (b3:loV (vl.map (VA.ev e)) ≤ hiV len (vh.map (VA.ev e))) (b4:hiV len (vh.map (VA.ev e)) ≤ len) :
    (Instr.sliceBounds sl len cap (lo.map a.eval) (hi.map a.eval) none).run P w = .ok (loV (vl.map (VA.ev e)),hiV len (vh.map (VA.ev e)),cap) w:=by
  have key:∀ {x:Operand} {v:VA},cA x = some v → boundOk (some (v.ev e)) → ∃ k n,a.eval x = .int k n ∧ v.ev e = .int k n ∧ 0 ≤ n:=by
    intro x v hx hb
    have hr:=Zam he hx
    cases hp:v.ev e <;> simp only [hp,boundOk] at hb
    rw [hp] at hr
    exact ⟨_,_,hr.int_inv,rfl,hb⟩
  rcases cAo_cases hl with ⟨rfl,rfl⟩ | ⟨x,v,rfl,rfl,hx⟩ <;> rcases cAo_cases hh with ⟨rfl,rfl⟩ | ⟨y,u,rfl,rfl,hy⟩
  · simp [Instr.sliceBounds,loV,hiV]
  · obtain ⟨k,n,e1,e2,h0⟩:=key hy b2
    simp only [Option.map_some,Option.map_none,e1,e2,loV,hiV,numOf] at *
    simp [Instr.sliceBounds,bound_run (P:=P) h0 (show n.toNat ≤ cap by omega)]
  · obtain ⟨k,n,e1,e2,h0⟩:=key hx b1
    simp only [Option.map_some,Option.map_none,e1,e2,loV,hiV,numOf] at *
    simp [Instr.sliceBounds,bound_run (P:=P) h0 b3]
  · obtain ⟨k,n,e1,e2,h0⟩:=key hx b1
    obtain ⟨k',n',e1',e2',h0'⟩:=key hy b2
    simp only [Option.map_some,Option.map_none,e1,e2,e1',e2',loV,hiV,numOf] at *
    simp [Instr.sliceBounds,bound_run (P:=P) h0 b3,bound_run (P:=P) h0' (show n'.toNat ≤ cap by omega)]
theorem extract_toList (s:ByteArray) (a b:Nat):(s.extract a b).data.toList = (s.data.toList.drop a).take (b - a):=Lib.extract_data s a b
theorem slice_sound {t : TypeId} {z : Nat} {x : Operand} {va : VA} {lo hi : Option Operand} {vl vh : Option VA} (hr : Rel g w h) (he : Zao g a e) (hx : cA x = some va) (hl : cAo lo = some vl) (hh : cAo hi = some vh)
    {st:Bool} (hu:(P.underlying t = some .string ∧ st = true) ∨ st = false ∧ ∃ ty,P.underlying t = some (.slice ty) ∧ szOf P ty = some z)
    (hok:sliceOk st z h (va.ev e) (vl.map (VA.ev e)) (vh.map (VA.ev e))) :
    ∃ v,(Instr.sliceAt t (a.eval x) (lo.map a.eval) (hi.map a.eval) none).run P w = .ok v w ∧ Rep g v (sliceV (va.ev e) (vl.map (VA.ev e)) (vh.map (VA.ev e))):=by
  obtain ⟨b1,b2,b3,b4,hm⟩:=hok
  have hv:=Zam he hx
  generalize a.eval x = vx at hv ⊢
  rcases hu with ⟨hu,rfl⟩ | ⟨rfl,ty,hu,hz⟩
  · have hpl : ∃ l, va.ev e = .str l := by
      cases hp:va.ev e <;> simp only [hp] at hm <;> first | exact ⟨_,rfl⟩ | (simp at hm; done)
    obtain ⟨l,hp⟩:=hpl
    rw [hp] at hv b3 b4 ⊢
    obtain ⟨s,rfl,rfl⟩:=hv.str_inv
    have hsz:s.size = s.data.toList.length:=by rw [Array.length_toList]; rfl
    have hb:=bounds_run (P:=P) (w:=w) he hl hh false s.size s.size (Nat.le_refl _) b1 b2 (by rw [hsz]; exact b3) (by rw [hsz]; exact b4)
    refine ⟨.string (s.extract (loV (vl.map (VA.ev e))) (hiV s.size (vh.map (VA.ev e)))),?_,.str _ _ ?_⟩
    · simp [Instr.sliceAt,Instr.slice,run_underlying hu,hb]
    · rw [extract_toList,hsz]
  · have run : ∀ (ao : Option Addr) (len cap : Nat), len ≤ cap → loV (vl.map (VA.ev e)) ≤ hiV len (vh.map (VA.ev e)) → hiV len (vh.map (VA.ev e)) ≤ len →
        (Instr.sliceAt t (.slice ao len cap) (lo.map a.eval) (hi.map a.eval) none).run P w =
          .ok (.slice (if cap = loV (vl.map (VA.ev e)) then ao else ao.map (·.add (loV (vl.map (VA.ev e)) * z))) (hiV len (vh.map (VA.ev e)) - loV (vl.map (VA.ev e))) (cap - loV (vl.map (VA.ev e)))) w:=by
      intro ao len cap h1 h2 h3
      have hb:=bounds_run (P:=P) (w:=w) he hl hh true len cap h1 b1 b2 h2 h3
      simp only [Instr.sliceAt,Instr.slice,Sem.run_bind,run_underlying hu,Result.andThen_ok,hb,run_sz hz,Sem.run_pure]
    cases hp:va.ev e <;> simp only [hp,lenV,sliceV] at hm b3 b4 ⊢ <;> rw [hp] at hv
    case str l=>simp at hm
    case nilsl =>
      cases hv
      refine ⟨_,run none 0 0 (Nat.le_refl _) b3 b4,?_⟩
      have e1:hiV 0 (vh.map (VA.ev e)) = 0:=by omega
      rw [e1] at b3 ⊢
      have e2:loV (vl.map (VA.ev e)) = 0:=by omega
      rw [e2]
      exact .nilsl
    case sl z' es =>
      obtain ⟨_,rfl⟩:=hm
      generalize loV (vl.map (VA.ev e)) = L at *
      cases hv with
      | slE ao cap =>
        refine ⟨_,run ao 0 cap (Nat.zero_le _) b3 b4,?_⟩
        simp only [List.length_nil] at b3 b4 ⊢
        generalize hiV 0 (vh.map (VA.ev e)) = H at *
        obtain rfl:H = 0:=by omega
        obtain rfl:L = 0:=by omega
        simpa using Rep.slE _ _ _
      | sl b o len cap z a' es vs ha hl' hc hz' hmm hrr =>
        subst ha hl'
        refine ⟨_,run _ _ cap hc b3 b4,?_⟩
        generalize hiV es.length (vh.map (VA.ev e)) = H at *
        by_cases hE:H - L = 0
        · rw [hE]; simp only [List.take_zero]; exact .slE _ _ _
        · have hne:cap ≠ L:=by omega
          rw [if_neg hne]
          refine .sl b (o + L * z') (H - L) (cap - L) z' _ _ (fun i j=>vs (L + i) j) ?_ (by simp; omega) (by omega) (fun i hi=>?_) (fun i j hi hj=>?_) (fun i j hi hj=>?_)
          · by_cases h0:L * z' = 0 <;> simp [Addr.add,h0]
          · rw [row_take _ _ _ hi,row_drop]; exact hz' _ (by omega)
          · rw [← hmm (L + i) j (by omega) hj,Nat.add_mul]; congr 1; omega
          · rw [row_take _ _ _ hi,row_drop]; exact hrr _ _ (by omega) hj
    case own id off len =>
      generalize loV (vl.map (VA.ev e)) = L at *
      cases hv with
      | ownE ao =>
        refine ⟨_,run ao 0 0 (Nat.le_refl _) b3 b4,?_⟩
        generalize hiV 0 (vh.map (VA.ev e)) = H at *
        obtain rfl:H = 0:=by omega
        obtain rfl:L = 0:=by omega
        simpa using Rep.ownE _ _ _
      | own _ _ _ cap b o n' z2 a' hb ha hc hn =>
        subst ha
        obtain ⟨_,hm⟩:=hm
        split at hm
        case h_2=>exact hm.elim
        rename_i fz z' es hg
        subst hm
        rcases hr.blk id _ hg with ⟨hb0,_⟩ | ⟨b',o',n'',z'',hb',_,_,hokk⟩
        · rw [hb] at hb0; cases hb0
        · rw [hb] at hb'
          simp only [Option.some.injEq,Prod.mk.injEq] at hb'
          obtain ⟨rfl,rfl,rfl,rfl⟩:=hb'
          have hz2:=hokk.1
          subst hz2
          refine ⟨_,run _ _ cap hc b3 b4,?_⟩
          generalize hiV len (vh.map (VA.ev e)) = H at *
          by_cases hE:cap = L
          · have:H - L = 0:=by omega
            rw [this,hE,Nat.sub_self]; exact .ownE _ _ _
          · rw [if_neg hE]
            have e1:(off + L) * z' = off * z' + L * z':=Nat.add_mul _ _ _
            have e2:(cap - L) * z' + L * z' = cap * z':=by rw [← Nat.add_mul]; congr 1; omega
            refine .own id (off + L) (H - L) (cap - L) b o n' z' _ hb ?_ (by omega) (by omega)
            by_cases h0:L * z' = 0 <;> simp [Addr.add,h0] <;> omega
theorem fits_cells {p:PV} {n:Nat} (h:p.fits n = true):p.cells.length = n:=by
  cases p <;> simp [PV.fits] at h <;> simp [PV.cells] <;> omega
theorem overlay_len (cs:List PV) (o:Nat) (new:List PV) (h:o + new.length ≤ cs.length):(overlay cs o new).length = cs.length:=by
  simp [overlay]; omega
theorem overlay_nth (cs : List PV) (o : Nat) (new : List PV) (h : o + new.length ≤ cs.length) (j : Nat) :
    PV.nth (overlay cs o new) j = if o ≤ j ∧ j < o + new.length then PV.nth new (j - o) else PV.nth cs j:=by
  simp only [overlay,PV.nth,List.getD_eq_getElem?_getD]
  by_cases h1:j < o
  · rw [if_neg (by omega),List.append_assoc,List.getElem?_append_left (by simp; omega),List.getElem?_take,if_pos h1]
  · by_cases h2:j < o + new.length
    · rw [if_pos ⟨by omega,h2⟩,List.append_assoc,List.getElem?_append_right (by simp; omega),List.getElem?_append_left (by simp; omega)]
      congr 2; simp; omega
    · rw [if_neg (by omega),List.getElem?_append_right (by simp; omega),List.getElem?_drop]
      congr 2; simp; omega
theorem fold_size (o:Nat):∀ (new:List Value) (k:Nat) (cs:Array Value),((new.zipIdx k).foldl (fun (cs:Array Value) (p:Value × Nat)=>cs.setIfInBounds (o + p.2) p.1) cs).size = cs.size
  | [],_,_=>rfl
  | v :: r,k,cs=>by simp only [List.zipIdx_cons,List.foldl_cons]; rw [fold_size o r]; simp
theorem fold_get (o : Nat) : ∀ (new : List Value) (k : Nat) (cs : Array Value), o + k + new.length ≤ cs.size → ∀ j,
    ((new.zipIdx k).foldl (fun (cs:Array Value) (p:Value × Nat)=>cs.setIfInBounds (o + p.2) p.1) cs).getD j Go.undef =
      if o + k ≤ j ∧ j < o + k + new.length then new.getD (j - (o + k)) Go.undef else cs.getD j Go.undef
  | [],k,cs,h,j=>by simp; intro h1 h2; omega
  | v :: r,k,cs,h,j=>by
    simp only [List.zipIdx_cons,List.foldl_cons]
    simp only [List.length_cons] at h
    rw [fold_get o r (k + 1) _ (by simp; omega)]
    by_cases h1:j = o + k
    · subst h1
      rw [if_neg (by omega),if_pos ⟨by omega,by simp⟩]
      have:o + k < cs.size:=by omega
      simp [Array.getD,this]
    · by_cases h2:o + (k + 1) ≤ j ∧ j < o + (k + 1) + r.length
      · rw [if_pos h2,if_pos ⟨by omega,by simp; omega⟩]
        have e1:j - (o + k) = (j - (o + (k + 1))) + 1:=by omega
        rw [e1]; simp
      · rw [if_neg h2,if_neg (by simp; omega)]
        simp only [Array.getD_eq_getD_getElem?]
        rw [Array.getElem?_setIfInBounds_ne (by omega)]
theorem fill_sound (he : Zao g a e) (place : Nat → Option (Nat × Nat)) : ∀ (ps : List (Nat × Operand)) (qs : List (Nat × Nat × VA)) (cells : Array Value) (cs : List PV),
    ps.length = qs.length → (∀ (i:Nat) (p:Nat × Operand) (q:Nat × Nat × VA),ps[i]? = some p → qs[i]? = some q → place p.1 = some (q.1,q.2.1) ∧ cA p.2 = some q.2.2) →
    cells.size = cs.length → (∀ j,j < cs.length → (cells.getD j Go.undef).oneCell' = true ∧ Rep g (cells.getD j Go.undef) (PV.nth cs j)) → fillOk e cs.length qs →
    ∃ out,Instr.fill place cells (ps.map fun p=>(p.1,a.eval p.2)) = some out ∧ out.size = cs.length ∧ (fillV e cs qs).length = cs.length ∧ ∀ j,j < cs.length → (out.getD j Go.undef).oneCell' = true ∧ Rep g (out.getD j Go.undef) (PV.nth (fillV e cs qs) j)
  | [],[],cells,cs,_,_,hs,hr,_=>⟨cells,rfl,hs,rfl,hr⟩
  | p :: ps,q :: qs,cells,cs,hl,hp,hs,hr,hok=>by
    obtain ⟨o,s,va⟩:=q
    obtain ⟨hf,hle,hok⟩:=hok
    obtain ⟨h1,h2⟩:=hp 0 p _ rfl rfl
    have hv:=Zam he h2
    obtain ⟨z1,z2,z4,z3⟩:=hv.cells_size hf
    simp only at h1 z1 z2 z3 z4
    have hL:(overlay cs o (va.ev e).cells).length = cs.length:=overlay_len _ _ _ (by omega)
    simp only [List.map_cons,Instr.fill,h1,fillV]
    rw [if_neg (by simp; omega)]
    have hnew : ∀ (C : Array Value), C = ((a.eval p.2).cells.zipIdx.foldl (fun (cs : Array Value) (x : Value × Nat) => cs.setIfInBounds (o + x.2) x.1) cells) →
        C.size = cs.length ∧ ∀ j,j < cs.length → (C.getD j Go.undef).oneCell' = true ∧ Rep g (C.getD j Go.undef) (PV.nth (overlay cs o (va.ev e).cells) j):=by
      intro C hC
      have e0:C = (((a.eval p.2).cells.toList.zipIdx 0).foldl (fun (cs:Array Value) (x:Value × Nat)=>cs.setIfInBounds (o + x.2) x.1) cells):=by
        rw [hC,← Array.foldl_toList,Array.toList_zipIdx]
      refine ⟨by rw [e0,fold_size,hs],fun j hj=>?_⟩
      rw [e0,fold_get o _ 0 cells (by simp; omega),overlay_nth _ _ _ (by omega)]
      simp only [Nat.add_zero,Array.length_toList,z1,z2]
      split
      · rename_i hh
        have:=And.intro (z4 (j - o) (by omega)) (z3 (j - o) (by omega))
        simpa [Array.getD_eq_getD_getElem?] using this
      · exact hr j hj
    obtain ⟨c1,c2⟩:=hnew _ rfl
    obtain ⟨out,r1,r2,r3,r4⟩:=fill_sound he place ps qs _ (overlay cs o (va.ev e).cells) (by simpa using hl) (fun i=>by simpa using hp (i + 1)) (by rw [hL]; exact c1) (by rw [hL]; exact c2) (by rw [hL]; exact hok)
    rw [hL] at r2 r3 r4
    exact ⟨out,r1,r2,r3,r4⟩
end pure
end Go.VM
namespace Go.VM
open Go
section
variable {P : Program} {g : Gh} {w : World} {h : Heap} {a : Act} {e : Env}
theorem pick_sound {c x y : PV} {vc vx vy : Value} (hc : Rep g vc c) (hx : Rep g vx x) (hy : Rep g vy y) (hok : isBool c) :
    ∃ b,vc = .bool b ∧ Rep g (if b then vx else vy) (Za4 c x y):=by
  cases c <;> simp only [isBool] at hok
  rename_i b
  refine ⟨b,hc.bool_inv,?_⟩
  cases b
  · exact hy
  · exact hx
theorem un_sound {op:UnOp} {p:PV} {v:Value} (hv:Rep g v p) (hok:unOk op p):∃ u,(Op.unary op v).run P w = .ok u w ∧ Rep g u (unV op p):=by
  cases p <;> simp only [unOk] at hok
  case int k n =>
    obtain rfl:=hv.int_inv
    cases op <;> simp only at hok
    exact ⟨_,rfl,.int _ _⟩
  case bool b =>
    obtain rfl:=hv.bool_inv
    cases op <;> simp only at hok
    exact ⟨_,rfl,.bool _⟩
theorem len_sound {t : TypeId} {ty : TypeId} {p : PV} {v : Value} {st : Bool} (hv : Rep g v p) (hok : lenOk st p) (hu : (P.underlying t = some .string ∧ st = true) ∨ (∃ e, P.underlying t = some (.slice e)) ∧ st = false) :
    (Builtin.len_ #[t] ty #[v]).run P w = .ok (.int .i64 (lenV p)) w:=by
  rcases hu with ⟨hu,rfl⟩ | ⟨⟨e,hu⟩,rfl⟩
  · cases p <;> simp [lenOk] at hok
    obtain ⟨s,rfl,rfl⟩:=hv.str_inv
    have hsz:s.size = s.data.toList.length:=by rw [Array.length_toList]; rfl
    simp only [Builtin.len_,lenV,← hsz]
    simp [run_underlying hu,goInt]
  · cases p <;> simp [lenOk] at hok
    case nilsl=>cases hv; simp [Builtin.len_,lenV,run_underlying hu,goInt]
    case sl z es =>
      cases hv with
      | slE ao cap=>simp [Builtin.len_,lenV,run_underlying hu,goInt]
      | sl b o len cap z a' es vs ha hl hc hz hm hr=>subst hl; simp [Builtin.len_,lenV,run_underlying hu,goInt]
    case own id off len=>cases hv <;> simp [Builtin.len_,lenV,run_underlying hu,goInt]
theorem ext_sound {i:Nat} {p:PV} {v:Value} (hv:Rep g v p) (hok:extOk i p):∃ u,(Instr.extract v i).run P w = .ok u w ∧ Rep g u (extV i p):=by
  cases p <;> simp only [extOk] at hok
  rename_i l
  obtain ⟨vs,rfl,hs,hr⟩:=hv.tup_inv
  have hi:i < vs.size:=by omega
  refine ⟨vs.getD i Go.undef,?_,hr i hok⟩
  simp [Instr.extract,Array.getElem?_eq_getElem hi,Array.getD,hi]
theorem mm_sound {mx : Bool} {x y : PV} {vx vy : Value} (hx : Rep g vx x) (hy : Rep g vy y) (h1 : isInt x) (h2 : isInt y) :
    ∃ u,(if mx then Builtin.max_ #[] 0 #[vx,vy] else Builtin.min_ #[] 0 #[vx,vy]).run P w = .ok u w ∧ Rep g u (mmV mx x y):=by
  cases x <;> simp only [isInt] at h1
  cases y <;> simp only [isInt] at h2
  obtain rfl:=hx.int_inv
  obtain rfl:=hy.int_inv
  cases mx
  · refine ⟨_,?_,.int _ _⟩
    simp [Builtin.min_,Builtin.min2,mmV]
  · refine ⟨_,?_,.int _ _⟩
    simp [Builtin.max_,Builtin.max2,mmV]
theorem val_run {X:Sem Value} {x:Value} (hx:X.run P w = .ok x w):((do pure (.value (← X)):Sem Next)).run P w = .ok (.value x) w:=by simp [hx]
theorem cParts_spec {t : TypeId} : ∀ {ps : List (Nat × Operand)} {qs : List (Nat × Nat × VA)}, cParts P t ps = some qs → ps.length = qs.length ∧
    ∀ (i:Nat) (p:Nat × Operand) (q:Nat × Nat × VA),ps[i]? = some p → qs[i]? = some q → cA p.2 = some q.2.2 ∧
      ((∃ fs f,P.underlying t = some (.struct fs) ∧ fs[p.1]? = some f ∧ f.offset = q.1 ∧ szOf P f.type = some q.2.1) ∨ (∃ n ty s,P.underlying t = some (.array n ty) ∧ szOf P ty = some s ∧ q.1 = p.1 * s ∧ q.2.1 = s))
  | [],qs,h=>by simp only [cParts,Option.some.injEq] at h; subst h; exact ⟨rfl,fun i p q hp=>by simp at hp⟩
  | (i,x) :: r,qs,h=>by
    simp only [cParts] at h
    split at h
    · rename_i o s va q h1 h2 h3
      simp only [Option.some.injEq] at h; subst h
      obtain ⟨ih1,ih2⟩:=cParts_spec h3
      refine ⟨by simp [ih1],fun j p q' hp hq=>?_⟩
      cases j with
      | succ j=>exact ih2 j p q' (by simpa using hp) (by simpa using hq)
      | zero =>
        simp only [List.getElem?_cons_zero,Option.some.injEq] at hp hq
        subst hp hq
        refine ⟨h2,?_⟩
        split at h1
        · rename_i fs hu
          split at h1
          · rename_i f hf
            simp only [Option.map_eq_some_iff,Prod.mk.injEq] at h1
            obtain ⟨s',hs,rfl,rfl⟩:=h1
            exact .inl ⟨fs,f,hu,hf,rfl,hs⟩
          · cases h1
        · rename_i n ty hu
          simp only [Option.map_eq_some_iff,Prod.mk.injEq] at h1
          obtain ⟨s',hs,rfl,rfl⟩:=h1
          exact .inr ⟨n,ty,s',hu,hs,rfl,rfl⟩
        · cases h1
    · cases h
theorem zero_spec {t:TypeId} {zr:List PV} (h:zeroOf P t = some zr):∃ i v,P.info? t = some i ∧ i.zero = some v ∧ csts v.cells.toList = some zr:=by
  unfold zeroOf at h
  split at h
  · rename_i i hi
    split at h
    · rename_i v hv; exact ⟨i,v,hi,hv,h⟩
    · cases h
  · cases h
theorem run_zero {t:TypeId} {i:TypeInfo} {v:Value} (hi:P.info? t = some i) (hv:i.zero = some v):(zeroValue t).run P w = .ok v w:=by
  simp [zeroValue,run_typeInfo w hi,hv]
theorem zero_cells {zr:List PV} {v:Value} (h:csts v.cells.toList = some zr):v.cells.size = zr.length ∧ ∀ j,j < zr.length → (v.cells.getD j Go.undef).oneCell' = true ∧ Rep g (v.cells.getD j Go.undef) (PV.nth zr j):=by
  have hl:=csts_len h
  rw [Array.length_toList] at hl
  refine ⟨hl,fun j hj=>?_⟩
  have h1:=csts_one h j hj
  have h2:=csts_rep (g:=g) h j hj
  have e1:v.cells.toList.getD j Go.undef = v.cells.getD j Go.undef:=by simp [Array.getD_eq_getD_getElem?]
  rw [e1] at h1 h2
  exact ⟨h1,h2⟩
theorem mapM_places:∀ (l:List Field),(∀ f ∈ l,∃ s,szOf P f.type = some s) → (l.mapM fun f=>do pure (f.offset,← sizeOf f.type):Sem (List (Nat × Nat))).run P w = .ok (l.map fun f=>(f.offset,(szOf P f.type).getD 0)) w
  | [],_=>by simp
  | f :: r,h=>by
    obtain ⟨s,hs⟩:=h f (by simp)
    have ih:=mapM_places r (fun f hf=>h f (by simp [hf]))
    simp only [List.mapM_cons,Sem.run_bind,run_sz hs,Result.andThen_ok,Sem.run_pure,ih,List.map_cons,hs,Option.getD_some]
theorem build_sound {t : TypeId} {parts : Array (Nat × Operand)} {zr : List PV} {ps : List (Nat × Nat × VA)} (he : Zao g a e) (hz : zeroOf P t = some zr) (hps : cParts P t parts.toList = some ps) (hfo : fieldsOk P t = true)
    (hok:fillOk e zr.length ps):∃ v,(Instr.build t (parts.map fun (i,x)=>(i,a.eval x))).run P w = .ok v w ∧ Rep g v (.agg (fillV e zr ps)):=by
  obtain ⟨i,v,hi,hv,hcs⟩:=zero_spec hz
  obtain ⟨hl,hsp⟩:=cParts_spec hps
  obtain ⟨z1,z2⟩:=zero_cells (g:=g) hcs
  have fin : ∀ place : Nat → Option (Nat × Nat), (∀ (i : Nat) (p : Nat × Operand) (q : Nat × Nat × VA), parts.toList[i]? = some p → ps[i]? = some q → place p.1 = some (q.1, q.2.1) ∧ cA p.2 = some q.2.2) →
      ∃ out,Instr.fill place v.cells (parts.map fun (i,x)=>(i,a.eval x)).toList = some out ∧ Rep g (.agg out) (.agg (fillV e zr ps)):=by
    intro place hp
    obtain ⟨out,o1,o2,o3,o4⟩:=fill_sound he place parts.toList ps v.cells zr hl hp z1 z2 hok
    refine ⟨out,by rw [Array.toList_map]; exact o1,.agg _ _ (by omega) (fun j hj=>(o4 j (by omega)).1) (fun j hj=>(o4 j (by omega)).2)⟩
  unfold fieldsOk at hfo
  split at hfo
  · rename_i fs hu
    have hall:∀ f ∈ fs.toList,∃ s,szOf P f.type = some s:=fun f hf=>Option.isSome_iff_exists.1 (List.all_eq_true.1 hfo f hf)
    have hm:=mapM_places (P:=P) (w:=w) fs.toList hall
    have hma:(fs.mapM fun f=>do pure (f.offset,← sizeOf f.type):Sem (Array (Nat × Nat))).run P w = .ok (fs.toList.map fun f=>(f.offset,(szOf P f.type).getD 0)).toArray w:=by
      rw [Array.mapM_eq_mapM_toList,Sem.run_map,hm]; rfl
    obtain ⟨out,o1,o2⟩:=fin (fun i=>(fs.toList.map fun f=>(f.offset,(szOf P f.type).getD 0)).toArray[i]?) (fun i p q h1 h2=>by
      obtain ⟨c1,c2⟩:=hsp i p q h1 h2
      refine ⟨?_,c1⟩
      rcases c2 with ⟨fs',f,hu',hf,ho,hs⟩ | ⟨n,ty,s,hu',_⟩
      · rw [hu] at hu'; simp only [Option.some.injEq,TypeDesc.struct.injEq] at hu'; subst hu'
        simp [hf,ho,hs]
      · rw [hu] at hu'; simp at hu')
    refine ⟨.agg out,?_,o2⟩
    simp only [Instr.build,Sem.run_bind,run_zero hi hv,Result.andThen_ok,run_underlying hu,hma,o1,Sem.run_pure]
  · rename_i n ty hu
    obtain ⟨s,hs⟩:=Option.isSome_iff_exists.1 hfo
    obtain ⟨out,o1,o2⟩:=fin (fun i=>some (i * s,s)) (fun i p q h1 h2=>by
      obtain ⟨c1,c2⟩:=hsp i p q h1 h2
      refine ⟨?_,c1⟩
      rcases c2 with ⟨fs',f,hu',hf,ho,_⟩ | ⟨n',ty',s',hu',hs',e1,e2⟩
      · rw [hu] at hu'; simp at hu'
      · rw [hu] at hu'; simp only [Option.some.injEq,TypeDesc.array.injEq] at hu'; obtain ⟨rfl,rfl⟩:=hu'
        rw [hs] at hs'; simp only [Option.some.injEq] at hs'; subst hs'
        rw [e1,e2])
    refine ⟨.agg out,?_,o2⟩
    simp only [Instr.build,Sem.run_bind,run_zero hi hv,Result.andThen_ok,run_underlying hu,run_sz hs,o1,Sem.run_pure]
  · cases hfo
theorem mkfn_sound {f : Fn} {x y : Array Operand} {vx vy : List VA} (he : Zao g a e) (hx : cAs x.toList = some vx) (hy : cAs y.toList = some vy) :
    Rep g (.func f (x.map a.eval) (y.map a.eval)) (.fn f (vx.map (VA.ev e)) (vy.map (VA.ev e))):=by
  have key:∀ (z:Array Operand) (vz:List VA),cAs z.toList = some vz → (z.map a.eval).size = (vz.map (VA.ev e)).length ∧ ∀ j,j < (vz.map (VA.ev e)).length → Rep g ((z.map a.eval).getD j Go.undef) (PV.nth (vz.map (VA.ev e)) j):=by
    intro z vz hz
    have hl:=cAs_len hz
    rw [Array.length_toList] at hl
    refine ⟨by simp [hl],fun j hj=>?_⟩
    have:=cAs_rep he hz j (by simpa using hj)
    have e1:(z.map a.eval).getD j Go.undef = (z.toList.map a.eval).getD j Go.undef:=by simp [Array.getD_eq_getD_getElem?]
    rw [e1]; exact this
  obtain ⟨a1,a2⟩:=key x vx hx
  obtain ⟨b1,b2⟩:=key y vy hy
  exact .fn _ _ _ _ _ a1 b1 a2 b2
theorem Zag {α β:Type} {o:Option α} {f:α → β} {y:β} (h:o.map f = some y):∃ x,o = some x ∧ f x = y:=by
  simpa [Option.map_eq_some_iff] using h
def EntR (g:Gh) (l:List MapEntry) (es:List (PV × PV)):Prop:=l.length = es.length ∧ ∀ (i:Nat) (e:MapEntry) (p:PV × PV),l[i]? = some e → es[i]? = some p → Rep g e.key p.1 ∧ Rep g e.val p.2
theorem EntR.tail {e:MapEntry} {l:List MapEntry} {p:PV × PV} {es:List (PV × PV)} (h:EntR g (e :: l) (p :: es)):EntR g l es :=
  ⟨by simpa using h.1,fun i x y h1 h2=>h.2 (i + 1) x y (by simpa using h1) (by simpa using h2)⟩
theorem map_rows {m : PV} {v : Value} (r : Rel g w h) (hm : Rep g v m) (hok : mapOk h m) :
    (v = .map none ∧ Zbe h m = []) ∨ ∃ b ents clock,v = .map (some b) ∧ w.heap[b]? = some (.map ents clock) ∧ EntR g ents.toList (Zbe h m):=by
  cases m <;> simp only [mapOk] at hok
  case nilmp=>cases hm; exact .inl ⟨rfl,rfl⟩
  case rmp es =>
    cases hm with
    | rmp b ents es hmm hl hk hv =>
      have hc:=r.mmem b _ hmm
      refine .inr ⟨b,ents,_,rfl,hc,?_⟩
      simp only [Zbe]
      exact ⟨by simpa using hl,fun i e p h1 h2=>⟨hk i e p (by simpa using h1) h2,hv i e p (by simpa using h1) h2⟩⟩
  case mp id =>
    split at hok
    case h_2=>exact hok.elim
    rename_i es hg
    cases hm with
    | mp id b o n z hb =>
    rcases r.blk id _ hg with ⟨_,fz,z,hh⟩ | ⟨b',o',n',z',hb',_,_,hok'⟩
    · cases hh
    · rw [hb] at hb'
      simp only [Option.some.injEq,Prod.mk.injEq] at hb'
      obtain ⟨rfl,-⟩:=hb'
      obtain ⟨ents,clock,e1,e2,e3,_⟩:=hok'
      refine .inr ⟨b,ents,clock,rfl,e1,?_⟩
      simp only [Zbe,hg]
      exact ⟨by simpa using e2,fun i e p h1 h2=>e3 i e p (by simpa using h1) h2⟩
theorem call_pure_sound {c : Call} {o : Oper} {vop : VOp} (ho : o.op = .call c) (hc : cCall P c o = some vop) (hp : vop.pure = true) (hok : pok e h vop) (hr : Rel g w h) (he : Zao g a e) :
    ∃ v,(execOp a.eval o).run P w = .ok (.value v) w ∧ Rep g v (pval e h vop):=by
  obtain ⟨callee,args,argTypes⟩:=c
  have args1:∀ {x:Operand},args.toList = [x] → args = #[x]:=fun hh=>by rw [← Array.toArray_toList (xs:=args),hh]
  have args2:∀ {x y:Operand},args.toList = [x,y] → args = #[x,y]:=fun hh=>by rw [← Array.toArray_toList (xs:=args),hh]
  have types1:∀ {x:TypeId},argTypes.toList = [x] → argTypes = #[x]:=fun hh=>by rw [← Array.toArray_toList (xs:=argTypes),hh]
  have two:∀ {l:List Operand} {q:List VA},cAs l = some q → ∀ va vb,q = [va,vb] → ∃ x y,l = [x,y] ∧ cA x = some va ∧ cA y = some vb:=by
    intro l q hl va vb hq
    subst hq
    match l,hl with
    | [],hl=>have:=cAs_len hl; simp at this
    | [x],hl=>have:=cAs_len hl; simp at this
    | [x,y],hl =>
      simp only [cAs] at hl
      split at hl <;> simp at hl
      rename_i p q hp hq
      split at hq <;> simp at hq
      rename_i p' q' hp' hq'
      simp at hq'
      obtain ⟨rfl,rfl⟩:=hl
      simp only [List.cons.injEq] at hq
      exact ⟨x,y,rfl,hp,by rw [hp',hq.1]⟩
    | x :: y :: z :: l,hl =>
      have:=cAs_len hl
      simp at this
  unfold cCall at hc
  simp only at hc
  split at hc
  · split at hc
    case h_2=>cases hc
    rename_i x t hx ht
    obtain rfl:=args1 hx
    obtain rfl:=types1 ht
    split at hc <;> (try (cases hc; done)) <;> simp only [Option.some.injEq] at hc <;> subst hc
    · rename_i va hva hu
      have hl:=len_sound (P:=P) (w:=w) (ty:=o.type) (Zam he hva) hok (.inl ⟨hu,rfl⟩)
      exact ⟨_,by simp [execOp,ho,resolve,invoke,builtin,hl],.int _ _⟩
    · rename_i va ty hva hu
      have hl:=len_sound (P:=P) (w:=w) (ty:=o.type) (Zam he hva) hok (.inr ⟨⟨ty,hu⟩,rfl⟩)
      exact ⟨_,by simp [execOp,ho,resolve,invoke,builtin,hl],.int _ _⟩
    · rename_i va kt et hva hu
      rcases map_rows hr (Zam he hva) hok with ⟨hv,hrows⟩ | ⟨b,ents,clock,hv,hh,hent⟩
      · exact ⟨.int .i64 0,by simp [execOp,ho,resolve,invoke,builtin,hv,Builtin.len_,run_underlying hu,goInt],by simp only [pval,hrows]; exact .int _ _⟩
      · refine ⟨.int .i64 ents.size,by simp [execOp,ho,resolve,invoke,builtin,hv,Builtin.len_,run_underlying hu,MapKept.run_getObj_map hh,goInt],?_⟩
        have:=hent.1
        simp only [Array.length_toList] at this
        simp only [pval,← this]; exact .int _ _
  · split at hc
    case h_2=>cases hc
    split at hc
    · split at hc
      · split at hc
        · simp only [Option.map_eq_some_iff] at hc; obtain ⟨i,_,rfl⟩:=hc; simp [VOp.pure] at hp
        · cases hc
      · cases hc
    · split at hc
      · split at hc
        · simp only [Option.map_eq_some_iff] at hc; obtain ⟨i,_,rfl⟩:=hc; simp [VOp.pure] at hp
        · cases hc
      · cases hc
    · cases hc
  · simp only [Option.map_eq_some_iff] at hc
    obtain ⟨q,hq,rfl⟩:=hc
    match q,hok with
    | [va,vb],hok =>
      obtain ⟨x,y,hl,h1,h2⟩:=two hq va vb rfl
      obtain rfl:=args2 hl
      obtain ⟨u,hu,hr⟩:=mm_sound (P:=P) (w:=w) (mx:=true) (Zam he h1) (Zam he h2) hok.1 hok.2
      have hu':(Builtin.max_ argTypes o.type #[a.eval x,a.eval y]).run P w = .ok u w:=hu
      exact ⟨u,by simp [execOp,ho,resolve,invoke,builtin,hu'],hr⟩
  · simp only [Option.map_eq_some_iff] at hc
    obtain ⟨q,hq,rfl⟩:=hc
    match q,hok with
    | [va,vb],hok =>
      obtain ⟨x,y,hl,h1,h2⟩:=two hq va vb rfl
      obtain rfl:=args2 hl
      obtain ⟨u,hu,hr⟩:=mm_sound (P:=P) (w:=w) (mx:=false) (Zam he h1) (Zam he h2) hok.1 hok.2
      have hu':(Builtin.min_ argTypes o.type #[a.eval x,a.eval y]).run P w = .ok u w:=hu
      exact ⟨u,by simp [execOp,ho,resolve,invoke,builtin,hu'],hr⟩
  · split at hc
    · simp only [Option.map_eq_some_iff] at hc; obtain ⟨q,_,rfl⟩:=hc; simp [VOp.pure] at hp
    · cases hc
  · split at hc
    · simp only [Option.map_eq_some_iff] at hc; obtain ⟨q,_,rfl⟩:=hc; simp [VOp.pure] at hp
    · cases hc
  · split at hc
    · simp only [Option.some.injEq] at hc; subst hc; simp [VOp.pure] at hp
    · cases hc
  · simp only [Option.some.injEq] at hc; subst hc; simp [VOp.pure] at hp
theorem eqCells_split:∀ (a b c d:List PV),a.length = b.length → Zaq (a ++ c) (b ++ d) = (Zaq a b && Zaq c d)
  | [],[],c,d,_=>by simp [Zaq]
  | x :: a,y :: b,c,d,h=>by
    simp only [List.cons_append,Zaq]
    rw [eqCells_split a b c d (by simpa using h),Bool.and_assoc]
  | [],_ :: _,_,_,h=>by simp at h
  | _ :: _,[],_,_,h=>by simp at h
theorem eqOk_len:∀ (ks:List EK) (a b:List PV),eqOk ks a b → a.length = ks.length ∧ b.length = ks.length
  | [],[],[],_=>⟨rfl,rfl⟩
  | k :: ks,x :: a,y :: b,h=>by
    have:=eqOk_len ks a b h.2
    simp [this]
  | [],_ :: _,_,h=>by simp [eqOk] at h
  | [],[],_ :: _,h=>by simp [eqOk] at h
  | _ :: _,[],_,h=>by simp [eqOk] at h
  | _ :: _,_ :: _,[],h=>by simp [eqOk] at h
theorem eqOk_split:∀ (ks ls:List EK) (a b:List PV),eqOk (ks ++ ls) a b → eqOk ks (a.take ks.length) (b.take ks.length) ∧ eqOk ls (a.drop ks.length) (b.drop ks.length)
  | [],ls,a,b,h=>⟨by simp [eqOk],by simpa using h⟩
  | k :: ks,ls,x :: a,y :: b,h=>by
    obtain ⟨h1,h2⟩:=eqOk_split ks ls a b h.2
    exact ⟨⟨h.1,h1⟩,h2⟩
  | _ :: _,_,[],_,h=>by simp [eqOk] at h
  | _ :: _,_,_ :: _,[],h=>by simp [eqOk] at h
theorem ekOk_b {p q:PV} (h:ekOk .b p q):∃ a c,p = .bool a ∧ q = .bool c:=by
  cases p <;> simp only [ekOk] at h <;> cases q <;> first | exact ⟨_,_,rfl,rfl⟩ | exact h.elim
theorem ekOk_i {p q:PV} (h:ekOk .i p q):∃ k a c,p = .int k a ∧ q = .int k c:=by
  cases p <;> try (simp only [ekOk] at h; done)
  cases q <;> try (simp only [ekOk] at h; done)
  simp only [ekOk] at h
  subst h
  exact ⟨_,_,_,rfl,rfl⟩
theorem ekOk_s {p q:PV} (h:ekOk .s p q):∃ a c,p = .str a ∧ q = .str c:=by
  cases p <;> try (simp only [ekOk] at h; done)
  cases q <;> try (simp only [ekOk] at h; done)
  exact ⟨_,_,rfl,rfl⟩
def CellsR (g:Gh) (xs:Array Value) (cx:List PV):Prop:=xs.size = cx.length ∧ ∀ j,j < cx.length → Rep g (xs.getD j Go.undef) (PV.nth cx j)
def asV (b:Bool) (xs:Array Value):Value:=if b then .agg xs else xs.getD 0 Go.undef
theorem flat_sz {d:Nat} {t:TypeId} {ks:List EK} (h:flatK P d t = some ks):szOf P t = some ks.length ∧ ∃ b,aggOf P t = some b ∧ (b = false → ks.length = 1):=by
  cases d with
  | zero=>simp [flatK] at h
  | succ d =>
    simp only [flatK] at h
    unfold aggOf
    split at h
    · rename_i hu; split at h
      · rename_i hs; simp only [Option.some.injEq] at h; subst h; rw [hu]; exact ⟨by simpa using hs,false,rfl,fun _=>rfl⟩
      · cases h
    · rename_i hu; split at h
      · rename_i hs; simp only [Option.some.injEq] at h; subst h; rw [hu]; exact ⟨by simpa using hs,false,rfl,fun _=>rfl⟩
      · cases h
    · rename_i hu; split at h
      · rename_i hs; simp only [Option.some.injEq] at h; subst h; rw [hu]; exact ⟨by simpa using hs,false,rfl,fun _=>rfl⟩
      · cases h
    · rename_i hu
      split at h
      · split at h
        · rename_i hs
          simp only [Option.some.injEq] at h; subst h; rw [hu]
          simp only [Bool.and_eq_true,beq_iff_eq] at hs
          exact ⟨hs.2,true,rfl,fun h=>by cases h⟩
        · cases h
      · cases h
    · cases h
theorem flat_run : ∀ (d : Nat) (t : TypeId) (ks : List EK), flatK P d t = some ks → ∀ (D : Nat), d ≤ D → ∀ (b : Bool), aggOf P t = some b → ∀ (xs ys : Array Value) (cx cy : List PV), CellsR g xs cx → CellsR g ys cy → eqOk ks cx cy →
    (Op.equalIn D t (asV b xs) (asV b ys)).run P w = .ok (Zaq cx cy) w:=by
  intro d
  induction d with
  | zero=>intro t ks h; simp [flatK] at h
  | succ d ih =>
    intro t ks h D hD b hb xs ys cx cy hx hy hok
    obtain ⟨D',rfl⟩:∃ D',D = D' + 1:=⟨D - 1,by omega⟩
    obtain ⟨hlx,hly⟩:=eqOk_len _ _ _ hok
    have hsz:=flat_sz h
    simp only [flatK] at h
    unfold aggOf at hb
    split at h
    · rename_i hu
      rw [hu] at hb; simp only [Option.some.injEq] at hb; subst hb
      split at h
      case isFalse=>cases h
      simp only [Option.some.injEq] at h; subst h
      match cx,cy,hlx,hly with
      | [p],[q],_,_ =>
        have r1:=hx.2 0 (by simp)
        have r2:=hy.2 0 (by simp)
        simp only [asV,Bool.false_eq_true,if_false,PV.nth,List.getD_cons_zero] at r1 r2 ⊢
        obtain ⟨a,c,rfl,rfl⟩:=ekOk_b hok.1
        rw [r1.bool_inv,r2.bool_inv,run_equalIn_bool' w D' t _ _ hu]
        simp [Zaq,Zbk]
    · rename_i k0 hu
      rw [hu] at hb; simp only [Option.some.injEq] at hb; subst hb
      split at h
      case isFalse=>cases h
      simp only [Option.some.injEq] at h; subst h
      match cx,cy,hlx,hly with
      | [p],[q],_,_ =>
        have r1:=hx.2 0 (by simp)
        have r2:=hy.2 0 (by simp)
        simp only [asV,Bool.false_eq_true,if_false,PV.nth,List.getD_cons_zero] at r1 r2 ⊢
        obtain ⟨k,a,c,rfl,rfl⟩:=ekOk_i hok.1
        rw [r1.int_inv,r2.int_inv,run_equalIn_int w D' t _ _ _ _ hu]
        simp [Zaq,Zbk]
    · rename_i hu
      rw [hu] at hb; simp only [Option.some.injEq] at hb; subst hb
      split at h
      case isFalse=>cases h
      simp only [Option.some.injEq] at h; subst h
      match cx,cy,hlx,hly with
      | [p],[q],_,_ =>
        have r1:=hx.2 0 (by simp)
        have r2:=hy.2 0 (by simp)
        simp only [asV,Bool.false_eq_true,if_false,PV.nth,List.getD_cons_zero] at r1 r2 ⊢
        obtain ⟨a,c,rfl,rfl⟩:=ekOk_s hok.1
        obtain ⟨s1,e1,rfl⟩:=r1.str_inv
        obtain ⟨s2,e2,rfl⟩:=r2.str_inv
        rw [e1,e2,run_equalIn_string w D' t _ _ hu,ByteArray.toList_eq,ByteArray.toList_eq]
        simp only [Zaq,Zbk,Bool.and_true]
    · rename_i fs hu
      rw [hu] at hb; simp only [Option.some.injEq] at hb; subst hb
      split at h
      case h_2=>cases h
      rename_i ks' hfl
      split at h
      case isFalse=>cases h
      rename_i hst
      simp only [Option.some.injEq] at h; subst h
      simp only [Bool.and_eq_true,Bool.not_eq_true',beq_iff_eq] at hst
      have hfo:P.fieldsOf t = fs:=by simp [Program.fieldsOf,hu]
      simp only [asV,if_true]
      rw [run_equalIn_struct w D' t xs ys (by rw [hfo]; exact hu) hst.1,hfo]
      have key:∀ (l:List Field) (o:Nat) (ls:List EK),flatFs P (flatK P d) l o = some ls → o ≤ cx.length → eqOk ls (cx.drop o) (cy.drop o) → (Op.eqFields D' xs ys l).run P w = .ok (Zaq (cx.drop o) (cy.drop o)) w:=by
        intro l
        induction l with
        | nil =>
          intro o ls ho hoc hok'
          simp only [flatFs,Option.some.injEq] at ho
          subst ho
          obtain ⟨q1,q2⟩:=eqOk_len _ _ _ hok'
          rw [List.eq_nil_of_length_eq_zero q1,List.eq_nil_of_length_eq_zero q2]
          simp [Op.eqFields,Zaq]
        | cons f l ihl =>
          intro o ls ho hoc hok'
          simp only [flatFs] at ho
          split at ho
          case isFalse=>cases ho
          rename_i hc
          simp only [Bool.and_eq_true,bne_iff_ne,ne_eq,beq_iff_eq] at hc
          obtain ⟨c1,c2⟩:=hc
          split at ho
          case h_2=>cases ho
          rename_i k1 c3
          split at ho
          case h_2=>cases ho
          rename_i q1 c4
          simp only [Option.some.injEq] at ho; subst ho
          obtain ⟨v1,v2⟩:=eqOk_len _ _ _ hok'
          simp only [List.length_append,List.length_drop] at v1 v2
          obtain ⟨m1,m2⟩:=eqOk_split _ _ _ _ hok'
          rw [List.drop_drop,List.drop_drop] at m2
          obtain ⟨hsz',b',hb',hone⟩:=flat_sz c3
          have l1:((cx.drop o).take k1.length).length = k1.length:=by simp; omega
          have l2:((cy.drop o).take k1.length).length = k1.length:=by simp; omega
          have hpx:=run_part (P:=P) hsz' hb' w xs f.offset (by rw [c2,hx.1]; omega) hone
          have hpy:=run_part (P:=P) hsz' hb' w ys f.offset (by rw [c2,hy.1]; omega) hone
          have sub:∀ (zs:Array Value) (cz:List PV),CellsR g zs cz → o + k1.length ≤ cz.length → CellsR g (zs.extract o (o + k1.length)) ((cz.drop o).take k1.length):=by
            intro zs cz hz hzl
            refine ⟨by simp; have:=hz.1; omega,fun j hj=>?_⟩
            have hj':j < k1.length:=by simp at hj; omega
            rw [nth_take _ _ _ hj',nth_drop,getD_extract _ _ _ _ (by omega) (by have:=hz.1; omega)]
            exact hz.2 _ (by omega)
          have asv:∀ (zs:Array Value),zs.size ≥ o + k1.length → (if b' = true then Value.agg (zs.extract o (o + k1.length)) else zs.getD o Go.undef) = asV b' (zs.extract o (o + k1.length)):=by
            intro zs hz
            cases b'
            · have:=hone rfl
              simp only [asV,Bool.false_eq_true,if_false]
              rw [getD_extract _ _ _ _ (by omega) (by omega)]; simp
            · rfl
          have hrec:=ih f.type k1 c3 D' (by omega) b' hb' (xs.extract o (o + k1.length)) (ys.extract o (o + k1.length)) _ _ (sub xs cx hx (by omega)) (sub ys cy hy (by omega)) m1
          rw [c2] at hpx hpy
          rw [asv xs (by have:=hx.1; omega)] at hpx
          rw [asv ys (by have:=hy.1; omega)] at hpy
          have hrest:=ihl (o + k1.length) q1 c4 (by omega) m2
          have e3:=eqCells_split ((cx.drop o).take k1.length) ((cy.drop o).take k1.length) (cx.drop (o + k1.length)) (cy.drop (o + k1.length)) (by omega)
          rw [← List.drop_drop,← List.drop_drop,List.take_append_drop,List.take_append_drop,List.drop_drop,List.drop_drop] at e3
          rw [e3]
          simp only [Op.eqFields,if_pos c1,Sem.run_bind,c2,hpx,hpy,Result.andThen_ok,hrec]
          cases hq:Zaq ((cx.drop o).take k1.length) ((cy.drop o).take k1.length)
          · simp
          · simpa using hrest
      have:=key fs.toList 0 ks' hfl (Nat.zero_le _) (by simpa using hok)
      simpa using this
    · cases h
theorem eqs_sound {t : TypeId} {x y : Operand} {vx vy : Value} {px py : PV} {ks : List EK} {neg : Bool} {fs : Array Field} (hf : flatK P 6 t = some ks) (hu : P.underlying t = some (.struct fs)) (hm : P.eqGuardType P.depth t = false)
    (hx:Rep g vx px) (hy:Rep g vy py) (h1:isAggP px) (h2:isAggP py) (hok:eqOk ks (Zaw px) (Zaw py)) :
    ∃ v,((do eqGuard (if neg then .neq else .eql) t x y vx vy; binOp (if neg then .neq else .eql) t vx vy:Sem Value)).run P w = .ok v w ∧ Rep g v (.bool (Zaq (Zaw px) (Zaw py) != neg)):=by
  cases px <;> simp only [isAggP] at h1
  cases py <;> simp only [isAggP] at h2
  rename_i cx cy
  obtain ⟨xs,rfl,s1,_,r1⟩:=hx.agg_inv
  obtain ⟨ys,rfl,s2,_,r2⟩:=hy.agg_inv
  simp only [Zaw] at hok ⊢
  have hb:aggOf P t = some true:=by unfold aggOf; rw [hu]
  have hrun:=flat_run (P:=P) (g:=g) (w:=w) 6 t ks hf 10000 (by omega) true hb xs ys cx cy ⟨s1,r1⟩ ⟨s2,r2⟩ hok
  simp only [asV,if_true] at hrun
  cases neg
  · refine ⟨.bool (Zaq cx cy),?_,by simpa using Rep.bool _⟩
    simp only [Bool.false_eq_true,if_false,Sem.run_bind,run_eqGuard_agg w _ t x y xs ys hm,Result.andThen_ok,run_eql_struct,hrun]
  · refine ⟨.bool (!Zaq cx cy),?_,by simpa using Rep.bool _⟩
    simp only [if_true,Sem.run_bind,run_eqGuard_agg w _ t x y xs ys hm,Result.andThen_ok,run_neq_struct,hrun]
theorem check_run {em : Bool} : ∀ (d : Nat) (t : TypeId) (ks : List EK), flatK P d t = some ks → ∀ (D : Nat), d ≤ D → ∀ (b : Bool), aggOf P t = some b → ∀ (xs : Array Value) (cx : List PV), CellsR g xs cx → eqOk ks cx cx →
    (Instr.checkKey em D t (asV b xs)).run P w = .ok () w:=by
  intro d
  induction d with
  | zero=>intro t ks h; simp [flatK] at h
  | succ d ih =>
    intro t ks h D hD b hb xs cx hx hok
    obtain ⟨D',rfl⟩:∃ D',D = D' + 1:=⟨D - 1,by omega⟩
    obtain ⟨hlx,-⟩:=eqOk_len _ _ _ hok
    simp only [flatK] at h
    unfold aggOf at hb
    have one:∀ (k:EK),ks = [k] → b = false → (P.underlying t = some .bool ∨ (∃ q,P.underlying t = some (.int q)) ∨ P.underlying t = some .string) → (Instr.checkKey em (D' + 1) t (asV b xs)).run P w = .ok () w:=by
      rintro k rfl rfl hu
      match cx,hlx with
      | [p],_ =>
        have r1:=hx.2 0 (by simp)
        simp only [asV,Bool.false_eq_true,if_false,PV.nth,List.getD_cons_zero] at r1 ⊢
        have hbasic:(∃ c,xs.getD 0 Go.undef = .bool c) ∨ (∃ k n,xs.getD 0 Go.undef = .int k n) ∨ ∃ s,xs.getD 0 Go.undef = .string s:=by
          cases k
          · obtain ⟨a,c,rfl,-⟩:=ekOk_b hok.1; exact .inl ⟨_,r1.bool_inv⟩
          · obtain ⟨k,a,c,rfl,-⟩:=ekOk_i hok.1; exact .inr (.inl ⟨_,_,r1.int_inv⟩)
          · obtain ⟨a,c,rfl,-⟩:=ekOk_s hok.1; obtain ⟨s1,e1,_⟩:=r1.str_inv; exact .inr (.inr ⟨_,e1⟩)
        rcases hu with hu | ⟨q,hu⟩ | hu <;> rcases hbasic with ⟨c,e1⟩ | ⟨k,n,e1⟩ | ⟨s,e1⟩ <;> rw [e1] <;> simp [Instr.checkKey,run_underlying hu]
    split at h
    · rename_i hu
      rw [hu] at hb; simp only [Option.some.injEq] at hb; subst hb
      split at h
      case isFalse=>cases h
      simp only [Option.some.injEq] at h; subst h
      exact one _ rfl rfl (.inl hu)
    · rename_i k0 hu
      rw [hu] at hb; simp only [Option.some.injEq] at hb; subst hb
      split at h
      case isFalse=>cases h
      simp only [Option.some.injEq] at h; subst h
      exact one _ rfl rfl (.inr (.inl ⟨_,hu⟩))
    · rename_i hu
      rw [hu] at hb; simp only [Option.some.injEq] at hb; subst hb
      split at h
      case isFalse=>cases h
      simp only [Option.some.injEq] at h; subst h
      exact one _ rfl rfl (.inr (.inr hu))
    · rename_i fs hu
      rw [hu] at hb; simp only [Option.some.injEq] at hb; subst hb
      split at h
      case h_2=>cases h
      rename_i ks' hfl
      split at h
      case isFalse=>cases h
      simp only [Option.some.injEq] at h; subst h
      simp only [asV,if_true]
      rw [Instr.checkKey]
      simp only [Sem.run_bind,run_underlying hu,Result.andThen_ok]
      rw [← Array.forIn_toList]
      have hok0:eqOk ks' (cx.drop 0) (cx.drop 0):=by simpa using hok
      have ho0:0 ≤ cx.length:=Nat.zero_le _
      clear hu hok hlx one
      rename_i hst; clear hst
      generalize fs.toList = l at hfl
      generalize 0 = o at hfl hok0 ho0
      induction l generalizing o ks' with
      | nil=>simp
      | cons f l ihl =>
        simp only [flatFs] at hfl
        split at hfl
        case isFalse=>cases hfl
        rename_i hc
        simp only [Bool.and_eq_true,bne_iff_ne,ne_eq,beq_iff_eq] at hc
        obtain ⟨c1,c2⟩:=hc
        split at hfl
        case h_2=>cases hfl
        rename_i k1 c3
        split at hfl
        case h_2=>cases hfl
        rename_i q1 c4
        simp only [Option.some.injEq] at hfl; subst hfl
        obtain ⟨v1,v2⟩:=eqOk_len _ _ _ hok0
        simp only [List.length_append,List.length_drop] at v1
        obtain ⟨m1,m2⟩:=eqOk_split _ _ _ _ hok0
        rw [List.drop_drop] at m2
        obtain ⟨hsz',b',hb',hone⟩:=flat_sz c3
        have hpx:=run_part (P:=P) hsz' hb' w xs f.offset (by rw [c2,hx.1]; omega) hone
        have sub:CellsR g (xs.extract o (o + k1.length)) ((cx.drop o).take k1.length):=by
          refine ⟨by simp; have:=hx.1; omega,fun j hj=>?_⟩
          have hj':j < k1.length:=by simp at hj; omega
          rw [nth_take _ _ _ hj',nth_drop,getD_extract _ _ _ _ (by omega) (by have:=hx.1; omega)]
          exact hx.2 _ (by omega)
        have asv:(if b' = true then Value.agg (xs.extract o (o + k1.length)) else xs.getD o Go.undef) = asV b' (xs.extract o (o + k1.length)):=by
          cases b'
          · have:=hone rfl
            simp only [asV,Bool.false_eq_true,if_false]
            rw [getD_extract _ _ _ _ (by omega) (by have:=hx.1; omega)]; simp
          · rfl
        have hrec:=ih f.type k1 c3 D' (by omega) b' hb' (xs.extract o (o + k1.length)) _ sub m1
        rw [c2,asv] at hpx
        simp only [List.forIn_cons,Sem.run_bind,ne_eq,c1,not_false_eq_true,if_true,c2,hpx,Result.andThen_ok,hrec,Sem.run_pure]
        exact ihl q1 (o + k1.length) c4 m2 (by omega)
    · cases h
theorem same_cell {k:EK} {p q:PV} {v u:Value} (hk:ekOk k p q) (he:Zbk p q = true) (hv:Rep g v p) (hu:Rep g u q) (n:Nat):Instr.sameBits n u v = true:=by
  cases k
  · obtain ⟨a,c,rfl,rfl⟩:=ekOk_b hk
    rw [hv.bool_inv,hu.bool_inv]
    simp only [Zbk,beq_iff_eq] at he; subst he
    cases n <;> simp [Instr.sameBits]
  · obtain ⟨k,a,c,rfl,rfl⟩:=ekOk_i hk
    rw [hv.int_inv,hu.int_inv]
    simp only [Zbk,beq_iff_eq] at he; subst he
    cases n <;> simp [Instr.sameBits]
  · obtain ⟨a,c,rfl,rfl⟩:=ekOk_s hk
    obtain ⟨s1,rfl,h1⟩:=hv.str_inv
    obtain ⟨s2,rfl,h2⟩:=hu.str_inv
    simp only [Zbk,beq_iff_eq] at he; subst he
    have:s1 = s2:=by
      cases s1; cases s2
      simp only [ByteArray.mk.injEq]
      apply Array.ext'
      rw [h1,h2]
    subst this
    cases n <;> simp [Instr.sameBits,MapKept.bytes_beq]
theorem same_cells {n : Nat} : ∀ (ks : List EK) (cx cy : List PV) (xs ys : List Value), eqOk ks cx cy → Zaq cx cy = true → xs.length = cx.length → ys.length = cy.length →
    (∀ j,j < cx.length → Rep g (xs.getD j Go.undef) (PV.nth cx j)) → (∀ j,j < cy.length → Rep g (ys.getD j Go.undef) (PV.nth cy j)) → ((ys.zip xs).all fun (x,y)=>Instr.sameBits n x y) = true
  | [],[],[],xs,ys,_,_,h1,h2,_,_=>by
    rw [List.eq_nil_of_length_eq_zero h1]; simp
  | k :: ks,p :: cx,q :: cy,x :: xs,y :: ys,hk,he,h1,h2,r1,r2=>by
    simp only [Zaq,Bool.and_eq_true] at he
    have a1:=r1 0 (by simp)
    have a2:=r2 0 (by simp)
    simp only [PV.nth,List.getD_cons_zero] at a1 a2
    simp only [List.zip_cons_cons,List.all_cons,Bool.and_eq_true]
    refine ⟨same_cell hk.1 he.1 a1 a2 n,same_cells ks cx cy xs ys hk.2 he.2 (by simpa using h1) (by simpa using h2) (fun j hj=>?_) (fun j hj=>?_)⟩
    · have:=r1 (j + 1) (by simp; omega); simpa [PV.nth] using this
    · have:=r2 (j + 1) (by simp; omega); simpa [PV.nth] using this
  | _ :: _,[],_,_,_,h,_,_,_,_,_=>h.elim
  | _ :: _,_ :: _,[],_,_,h,_,_,_,_,_=>h.elim
  | [],_ :: _,_,_,_,h,_,_,_,_,_=>h.elim
  | [],[],_ :: _,_,_,h,_,_,_,_,_=>h.elim
  | _ :: _,_ :: _,_ :: _,[],_,_,_,h,_,_,_=>by simp at h
  | _ :: _,_ :: _,_ :: _,_ :: _,[],_,_,_,h,_,_=>by simp at h
theorem keyK_cases {kt : TypeId} {kk : KK} (h : keyK P kt = some kk) :
    (∃ k d,kk = .one k ∧ P.underlying kt = some d ∧ ((d = .bool ∧ k = .b) ∨ (∃ q,d = .int q ∧ k = .i) ∨ (d = .string ∧ k = .s))) ∨ (∃ ks fs,kk = .st ks ∧ P.underlying kt = some (.struct fs) ∧ flatK P 6 kt = some ks):=by
  unfold keyK at h
  split at h
  · rename_i hu; simp only [Option.some.injEq] at h; exact .inl ⟨_,_,h.symm,hu,.inl ⟨rfl,rfl⟩⟩
  · rename_i q hu; simp only [Option.some.injEq] at h; exact .inl ⟨_,_,h.symm,hu,.inr (.inl ⟨_,rfl,rfl⟩)⟩
  · rename_i hu; simp only [Option.some.injEq] at h; exact .inl ⟨_,_,h.symm,hu,.inr (.inr ⟨rfl,rfl⟩)⟩
  · rename_i fs hu
    obtain ⟨ks,hk,rfl⟩:=Zag h
    exact .inr ⟨ks,fs,rfl,hu,hk⟩
  · cases h
theorem sameNow_run {d:TypeDesc} {k:EK} (hd:(d = .bool ∧ k = .b) ∨ (∃ q,d = .int q ∧ k = .i) ∨ (d = .string ∧ k = .s)) {p q:PV} {v u:Value} (hk:ekOk k p q) (hv:Rep g v p) (hu:Rep g u q):Instr.sameNow d v u = some (keyEq p q):=by
  rcases hd with ⟨rfl,rfl⟩ | ⟨k0,rfl,rfl⟩ | ⟨rfl,rfl⟩
  · obtain ⟨a,c,rfl,rfl⟩:=ekOk_b hk
    rw [hv.bool_inv,hu.bool_inv]
    simp [Instr.sameNow,keyEq,PV.cells,Zaq,Zbk]
  · obtain ⟨k,a,c,rfl,rfl⟩:=ekOk_i hk
    rw [hv.int_inv,hu.int_inv]
    simp [Instr.sameNow,keyEq,PV.cells,Zaq,Zbk]
  · obtain ⟨a,c,rfl,rfl⟩:=ekOk_s hk
    obtain ⟨s1,rfl,h1⟩:=hv.str_inv
    obtain ⟨s2,rfl,h2⟩:=hu.str_inv
    have:(s1 == s2) = (a == c):=by
      rw [Bool.eq_iff_iff,MapKept.bytes_beq,beq_iff_eq]
      constructor
      · rintro rfl; rw [← h1,h2]
      · rintro rfl
        cases s1; cases s2
        simp only [ByteArray.mk.injEq]
        apply Array.ext'
        rw [h1,h2]
    simp [Instr.sameNow,keyEq,PV.cells,Zaq,Zbk,this]
def Found (g:Gh) (key:Value) (pk:PV) (l:List MapEntry) (es:List (PV × PV)) (i:Nat) (r:Option (Nat × Value)):Prop :=
  (mapFind pk es = none ∧ (∀ pv,mapPut pk pv es = es ++ [(pk,pv)]) ∧ r = none) ∨
  ∃ j e p,mapFind pk es = some p.2 ∧ (∀ pv,mapPut pk pv es = es.set j (pk,pv)) ∧ l[j]? = some e ∧ es[j]? = some p ∧ r = some (i + j,e.val) ∧ Instr.sameBits 10000 e.key key = true ∧ keyEq pk p.1 = true
theorem Found.here {key:Value} {pk:PV} {e:MapEntry} {l:List MapEntry} {p:PV × PV} {es:List (PV × PV)} {i:Nat} (h:keyEq pk p.1 = true) (hs:Instr.sameBits 10000 e.key key = true):Found g key pk (e :: l) (p :: es) i (some (i,e.val)) :=
  .inr ⟨0,e,p,by simp [mapFind,h],fun pv=>by simp [mapPut,h],rfl,rfl,rfl,hs,h⟩
theorem Found.there {key:Value} {pk:PV} {e:MapEntry} {l:List MapEntry} {p:PV × PV} {es:List (PV × PV)} {i:Nat} {r:Option (Nat × Value)} (h:keyEq pk p.1 = false) (hf:Found g key pk l es (i + 1) r):Found g key pk (e :: l) (p :: es) i r:=by
  rcases hf with ⟨h1,h2,h3⟩ | ⟨j,e',p',h1,h2,h3,h4,h5,h6⟩
  · exact .inl ⟨by simp [mapFind,h,h1],fun pv=>by simp [mapPut,h,h2],h3⟩
  · exact .inr ⟨j + 1,e',p',by simp [mapFind,h,h1],fun pv=>by simp [mapPut,h,h2],by simpa using h3,by simpa using h4,by rw [h5]; simp; omega,h6⟩
theorem find_run {kt : TypeId} {kk : KK} (hk : keyK P kt = some kk) {key : Value} {pk : PV} (hkey : Rep g key pk) {l : List MapEntry} {es : List (PV × PV)} (hr : EntR g l es) (hok : ∀ p ∈ es, keyOk kk pk p.1) :
    ∃ r,(Instr.findKey kt key l).run P w = .ok r w ∧ Found g key pk l es 0 r:=by
  rcases keyK_cases hk with ⟨k,d,rfl,hu,hd⟩ | ⟨ks,fs,rfl,hu,hfl⟩
  · have scan : ∀ (l : List MapEntry) (es : List (PV × PV)) (i : Nat), EntR g l es → (∀ p ∈ es, keyOk (.one k) pk p.1) → ∃ r, Instr.findNow d key l i = some r ∧ Found g key pk l es i r := by
      intro l
      induction l with
      | nil =>
        intro es i hr _
        obtain rfl:es = []:=List.eq_nil_of_length_eq_zero hr.1.symm
        exact ⟨none,rfl,.inl ⟨rfl,fun _=>rfl,rfl⟩⟩
      | cons e l ih =>
        intro es i hr hok
        match es,hr with
        | p :: es,hr =>
          obtain ⟨r1,r2⟩:=hr.2 0 e p rfl rfl
          have hk1:ekOk k pk p.1:=hok p (by simp)
          have hs:=sameNow_run hd hk1 hkey r1
          cases hb:keyEq pk p.1
          · obtain ⟨r,q1,q2⟩:=ih es (i + 1) hr.tail (fun x hx=>hok x (by simp [hx]))
            exact ⟨r,by simp [Instr.findNow,hs,hb,q1],q2.there hb⟩
          · refine ⟨_,by simp [Instr.findNow,hs,hb],Found.here hb ?_⟩
            refine same_cell hk1 ?_ hkey r1 _
            rcases hd with ⟨rfl,rfl⟩ | ⟨k0,rfl,rfl⟩ | ⟨rfl,rfl⟩
            · obtain ⟨a,c,e1,e2⟩:=ekOk_b hk1; rw [e1,e2] at hb ⊢; simpa [keyEq,PV.cells,Zaq] using hb
            · obtain ⟨k,a,c,e1,e2⟩:=ekOk_i hk1; rw [e1,e2] at hb ⊢; simpa [keyEq,PV.cells,Zaq] using hb
            · obtain ⟨a,c,e1,e2⟩:=ekOk_s hk1; rw [e1,e2] at hb ⊢; simpa [keyEq,PV.cells,Zaq] using hb
    obtain ⟨r,h1,h2⟩:=scan l es 0 hr hok
    exact ⟨r,MapKept.run_findKey hu h1,h2⟩
  · have hb:aggOf P kt = some true:=by unfold aggOf; rw [hu]
    have scan:∀ (l:List MapEntry) (es:List (PV × PV)) (i:Nat),EntR g l es → (∀ p ∈ es,keyOk (.st ks) pk p.1) → ∃ r,(Instr.findAsking kt key l i).run P w = .ok r w ∧ Found g key pk l es i r:=by
      intro l
      induction l with
      | nil =>
        intro es i hr _
        obtain rfl:es = []:=List.eq_nil_of_length_eq_zero hr.1.symm
        exact ⟨none,by simp [Instr.findAsking],.inl ⟨rfl,fun _=>rfl,rfl⟩⟩
      | cons e l ih =>
        intro es i hr hok
        match es,hr with
        | p :: es,hr =>
          obtain ⟨r1,r2⟩:=hr.2 0 e p rfl rfl
          obtain ⟨k1,k2,k3⟩:=hok p (by simp)
          obtain ⟨p1,p2⟩:=p
          obtain ⟨cx,rfl⟩:∃ cx,pk = .agg cx:=by cases pk <;> first | exact ⟨_,rfl⟩ | exact k1.elim
          obtain ⟨cy,rfl⟩:∃ cx,p1 = .agg cx:=by cases p1 <;> first | exact ⟨_,rfl⟩ | exact k2.elim
          obtain ⟨xs,rfl,s1,_,q1⟩:=hkey.agg_inv
          obtain ⟨ys,hy,s2,_,q2⟩:=r1.agg_inv
          simp only [PV.cells] at k3
          have hrun:=flat_run (P:=P) (g:=g) (w:=w) 6 kt ks hfl 10000 (by omega) true hb xs ys cx cy ⟨s1,q1⟩ ⟨s2,q2⟩ k3
          simp only [asV,if_true] at hrun
          have hrun':(Op.equal kt (.agg xs) e.key).run P w = .ok (Zaq cx cy) w:=by rw [hy]; exact hrun
          have hke:keyEq (.agg cx) (.agg cy) = Zaq cx cy:=rfl
          cases hq:Zaq cx cy
          · obtain ⟨r,g1,g2⟩:=ih es (i + 1) hr.tail (fun x hx=>hok x (by simp [hx]))
            exact ⟨r,by simp [Instr.findAsking,hrun',hq,g1],g2.there (hke.trans hq)⟩
          · refine ⟨_,by simp [Instr.findAsking,hrun',hq],Found.here (hke.trans hq) ?_⟩
            rw [hy]
            show Instr.sameBits (9999 + 1) (.agg ys) (.agg xs) = true
            obtain ⟨v1,v2⟩:=eqOk_len _ _ _ k3
            simp only [Instr.sameBits,Bool.and_eq_true,beq_iff_eq]
            refine ⟨by omega,?_⟩
            have:=same_cells (g:=g) (n:=9999) ks cx cy xs.toList ys.toList k3 hq (by simpa using s1) (by simpa using s2) (fun j hj=>by have:=q1 j hj; simpa [Array.getD_eq_getD_getElem?] using this) (fun j hj=>by have:=q2 j hj; simpa [Array.getD_eq_getD_getElem?] using this)
            exact this
    obtain ⟨r,h1,h2⟩:=scan l es 0 hr hok
    have e1:(Instr.findKey kt key l).run P w = (Instr.findAsking kt key l).run P w:=by
      cases l with
      | nil=>simp [Instr.findKey,run_underlying hu,Instr.findNow,Instr.findAsking]
      | cons e es=>simp [Instr.findKey,run_underlying hu,Instr.findNow,Instr.sameNow]
    exact ⟨r,by rw [e1]; exact h1,h2⟩
theorem check_key {em:Bool} {kt:TypeId} {kk:KK} (hk:keyK P kt = some kk) {key:Value} {pk:PV} (hkey:Rep g key pk) (hok:keyOk kk pk pk):(Instr.checkKey em 10000 kt key).run P w = .ok () w:=by
  rcases keyK_cases hk with ⟨k,d,rfl,hu,hd⟩ | ⟨ks,fs,rfl,hu,hfl⟩
  · have hbasic : (∃ c, key = .bool c) ∨ (∃ k n, key = .int k n) ∨ ∃ s, key = .string s := by
      cases k
      · obtain ⟨a,c,rfl,-⟩:=ekOk_b hok; exact .inl ⟨_,hkey.bool_inv⟩
      · obtain ⟨k,a,c,rfl,-⟩:=ekOk_i hok; exact .inr (.inl ⟨_,_,hkey.int_inv⟩)
      · obtain ⟨a,c,rfl,-⟩:=ekOk_s hok; obtain ⟨s1,e1,_⟩:=hkey.str_inv; exact .inr (.inr ⟨_,e1⟩)
    rw [show (10000:Nat) = 9999 + 1 from rfl,Instr.checkKey]
    rcases hd with ⟨rfl,rfl⟩ | ⟨k0,rfl,rfl⟩ | ⟨rfl,rfl⟩ <;> rcases hbasic with ⟨c,e1⟩ | ⟨k,n,e1⟩ | ⟨s,e1⟩ <;> rw [e1] <;> simp [run_underlying hu]
  · have hb:aggOf P kt = some true:=by unfold aggOf; rw [hu]
    obtain ⟨k1,_,k3⟩:=hok
    obtain ⟨cx,rfl⟩:∃ cx,pk = .agg cx:=by cases pk <;> first | exact ⟨_,rfl⟩ | exact k1.elim
    obtain ⟨xs,rfl,s1,_,q1⟩:=hkey.agg_inv
    exact check_run (P:=P) (g:=g) (w:=w) 6 kt ks hfl 10000 (by omega) true hb xs cx ⟨s1,q1⟩ k3
theorem zeroP_run {t:TypeId} {zr:PV} (h:zeroP P t = some zr):∃ v,(zeroValue t).run P w = .ok v w ∧ Rep g v zr:=by
  unfold zeroP at h
  split at h
  case h_2=>cases h
  rename_i i hi
  split at h
  · rename_i cs hz
    obtain ⟨ps,hc,rfl⟩:=Zag h
    refine ⟨_,run_zero hi hz,.agg _ _ (by have:=csts_len hc; simpa using this) (fun j hj=>?_) (fun j hj=>?_)⟩
    · have:=csts_one hc j hj; simpa [Array.getD_eq_getD_getElem?] using this
    · have:=csts_rep (g:=g) hc j hj; simpa [Array.getD_eq_getD_getElem?] using this
  · rename_i v hz _
    exact ⟨_,run_zero hi ‹_›,cst_rep h⟩
  · cases h
theorem lookup_sound {t kt et : TypeId} {kk : KK} {zr : PV} {ok : Bool} {m k : PV} {vm vk : Value} (ht : P.underlying t = some (.map kt et)) (hk : keyK P kt = some kk) (hz : zeroP P et = some zr) (r : Rel g w h)
    (hm:Rep g vm m) (hkey:Rep g vk k) (h1:mapOk h m) (h2:keysOk kk k (Zbe h m)) :
    ∃ v,(Instr.lookup t vm vk ok).run P w = .ok v w ∧ Rep g v (lookV zr ok (mapFind k (Zbe h m))):=by
  have tup:∀ {a b:Value} {p q:PV},Rep g a p → Rep g b q → Rep g (.tuple #[a,b]) (.tup [p,q]):=by
    intro a b p q ha hb
    refine .tup _ _ rfl (fun j hj=>?_)
    match j with
    | 0=>exact ha
    | 1=>exact hb
    | n + 2=>simp at hj; omega
  obtain ⟨zv,hzr,hzp⟩:=zeroP_run (g:=g) (w:=w) hz
  have hc:∀ em,(Instr.checkKey em 10000 kt vk).run P w = .ok () w:=fun em=>check_key hk hkey h2.1
  rcases map_rows r hm h1 with ⟨rfl,hrows⟩ | ⟨b,ents,clock,rfl,hh,hent⟩
  · rw [hrows]
    have hf:(Instr.findKey kt vk []).run P w = .ok none w:=by
      obtain ⟨r,q1,q2⟩:=find_run (P:=P) (w:=w) hk hkey (l:=[]) (es:=[]) ⟨rfl,fun i e p h=>by simp at h⟩ (fun p hp=>by cases hp)
      rcases q2 with ⟨_,_,rfl⟩ | ⟨j,e,p,_,_,h3,_⟩
      · exact q1
      · simp at h3
    simp only [mapFind,lookV]
    cases ok
    · exact ⟨zv,by simp [Instr.lookup,run_underlying ht,hc,hf,hzr],by simpa using hzp⟩
    · exact ⟨.tuple #[zv,.bool false],by simp [Instr.lookup,run_underlying ht,hc,hf,hzr],by simpa using tup hzp (.bool false)⟩
  · obtain ⟨r,q1,q2⟩:=find_run (P:=P) (w:=w) hk hkey hent h2.2
    rcases q2 with ⟨f1,_,rfl⟩ | ⟨j,e,p,f1,_,f3,f4,rfl,_⟩
    · rw [f1]
      simp only [lookV]
      cases ok
      · exact ⟨zv,by simp [Instr.lookup,run_underlying ht,MapKept.run_getObj_map hh,hc,q1,hzr],by simpa using hzp⟩
      · exact ⟨.tuple #[zv,.bool false],by simp [Instr.lookup,run_underlying ht,MapKept.run_getObj_map hh,hc,q1,hzr],by simpa using tup hzp (.bool false)⟩
    · rw [f1]
      have hv:=(hent.2 j e p f3 f4).2
      simp only [lookV]
      cases ok
      · exact ⟨e.val,by simp [Instr.lookup,run_underlying ht,MapKept.run_getObj_map hh,hc,q1],by simpa using hv⟩
      · exact ⟨.tuple #[e.val,.bool true],by simp [Instr.lookup,run_underlying ht,MapKept.run_getObj_map hh,hc,q1],by simpa using tup hv (.bool true)⟩
theorem pure_sound0 {o : Oper} {vop : VOp} (hc : cOp0 P o = some vop) (hp : vop.pure = true) (hok : pok e h vop) (hr : Rel g w h) (he : Zao g a e) :
    ∃ v,(execOp a.eval o).run P w = .ok (.value v) w ∧ Rep g v (pval e h vop):=by
  obtain ⟨dst,op,type,pos,after,guard⟩:=o
  have val:∀ {X:Sem Value} {p:PV},(∃ v,X.run P w = .ok v w ∧ Rep g v p) → ∃ v,((do pure (.value (← X)):Sem Next)).run P w = .ok (.value v) w ∧ Rep g v p :=
    fun ⟨v,h1,h2⟩=>⟨v,val_run h1,h2⟩
  cases op <;> simp only [cOp0] at hc
  case move x =>
    obtain ⟨va,hx,rfl⟩:=Zag hc
    exact ⟨_,rfl,Zam he hx⟩
  case assign x =>
    obtain ⟨va,hx,rfl⟩:=Zag hc
    exact ⟨_,rfl,Zam he hx⟩
  case pick c x y =>
    split at hc
    · rename_i vc vx vy h1 h2 h3
      simp only [Option.some.injEq] at hc; subst hc
      obtain ⟨b,hb,hv⟩:=pick_sound (Zam he h1) (Zam he h2) (Zam he h3) hok
      refine ⟨_,?_,hv⟩
      simp only [execOp,hb,asBool,Sem.run_bind,Sem.run_pure,Result.andThen_ok]
    · cases hc
  case alloc t=>obtain ⟨z,_,rfl⟩:=Zag hc; simp [VOp.pure] at hp
  case box t x=>split at hc <;> simp at hc; subst hc; simp [VOp.pure] at hp
  case build t parts =>
    split at hc
    · rename_i zr ps h1 h2
      split at hc
      · rename_i h3
        simp only [Option.some.injEq] at hc; subst hc
        exact val (build_sound he h1 h2 h3 hok)
      · cases hc
    · cases hc
  case buildSlice t n parts =>
    split at hc
    · split at hc
      · split at hc
        · simp only [Option.some.injEq] at hc; subst hc; simp [VOp.pure] at hp
        · cases hc
      · cases hc
    · cases hc
  case load t x =>
    split at hc
    · rename_i va b s h1 h2 h3
      simp only [Option.some.injEq] at hc; subst hc
      exact val (load_sound hr he h1 h2 h3 hok)
    · cases hc
  case store t x y=>split at hc <;> simp at hc; subst hc; simp [VOp.pure] at hp
  case binOp op t x y yt =>
    split at hc
    · rename_i va vb h1 h2 hu
      simp only [Option.some.injEq] at hc; subst hc
      exact val (binb_sound hu (Zam he h1) (Zam he h2) hok)
    · rename_i va vb k h1 h2 hu
      simp only [Option.some.injEq] at hc; subst hc
      exact val (bin_sound (Zam he h1) (Zam he h2) hok)
    · rename_i va vb h1 h2 hu
      simp only [Option.some.injEq] at hc; subst hc
      exact val (bin_sound (Zam he h1) (Zam he h2) hok)
    · rename_i va vb fs h1 h2 hu
      split at hc
      · split at hc
        · rename_i ks hk
          split at hc
          · rename_i hm
            simp only [Option.some.injEq] at hc; subst hc
            exact val (eqs_sound (neg:=false) hk hu (by simpa using hm) (Zam he h1) (Zam he h2) hok.1 hok.2.1 hok.2.2)
          · cases hc
        · cases hc
      · split at hc
        · rename_i ks hk
          split at hc
          · rename_i hm
            simp only [Option.some.injEq] at hc; subst hc
            exact val (eqs_sound (neg:=true) hk hu (by simpa using hm) (Zam he h1) (Zam he h2) hok.1 hok.2.1 hok.2.2)
          · cases hc
        · cases hc
      · cases hc
    · simp only [Option.some.injEq] at hc; subst hc; simp [VOp.pure] at hp
  case unOp op t x =>
    obtain ⟨va,hx,rfl⟩:=Zag hc
    exact val (un_sound (Zam he hx) hok)
  case convert s d x =>
    split at hc
    · rename_i va k' k h1 h2 h3
      simp only [Option.some.injEq] at hc; subst hc
      have hv:=Zam he h1
      simp only [pok] at hok
      cases hpv:va.ev e <;> simp only [hpv,isInt] at hok
      rw [hpv] at hv
      refine val ⟨.int k (k.wrap _),?_,by simp only [pval,hpv,convV]; exact .int _ _⟩
      simp only [hv.int_inv,convert,Sem.run_bind,run_underlying h2,run_underlying h3,Result.andThen_ok]
      rfl
    · rename_i va h1 h2 h3
      simp only [Option.some.injEq] at hc; subst hc
      have hv:=Zam he h1
      simp only [pok] at hok
      cases hpv:va.ev e <;> simp only [hpv,isStr] at hok
      rw [hpv] at hv
      obtain ⟨s,hs,rfl⟩:=hv.str_inv
      refine val ⟨.string s,?_,by simp only [pval,hpv]; exact .str _ _ rfl⟩
      simp only [hs,convert,Sem.run_bind,run_underlying h2,run_underlying h3,Result.andThen_ok]
      rfl
    · simp only [Option.some.injEq] at hc; subst hc; simp [VOp.pure] at hp
  case makeFunc f x y =>
    split at hc
    · rename_i k va vb h1 h2
      simp only [Option.some.injEq] at hc; subst hc
      exact ⟨_,rfl,mkfn_sound he h1 h2⟩
    · cases hc
  case slice t x lo hi mx =>
    cases mx with
    | some m=>simp at hc; subst hc; simp [VOp.pure] at hp
    | none =>
      simp only at hc
      split at hc
      · rename_i va vl vh hu h1 h2 h3
        simp only [Option.some.injEq] at hc; subst hc
        exact val (slice_sound hr he h1 h2 h3 (.inl ⟨hu,rfl⟩) hok)
      · rename_i ty va vl vh hu h1 h2 h3
        obtain ⟨z,hz,rfl⟩:=Zag hc
        exact val (slice_sound hr he h1 h2 h3 (.inr ⟨rfl,ty,hu,hz⟩) hok)
      · cases hc
  case fieldAddr t x f =>
    split at hc
    · rename_i fd va h1 h2
      split at hc
      · rename_i s hs
        split at hc
        · cases hc
        · rename_i h0
          simp only [Option.some.injEq] at hc; subst hc
          exact val (faddr_sound he h2 h1 hs (by simpa using h0) hok)
      · cases hc
    · cases hc
  case field t x f =>
    split at hc
    · rename_i fd va h1 h2
      split at hc
      · rename_i s b hs hb
        simp only [Option.some.injEq] at hc; subst hc
        exact val (fld_sound he h2 h1 hb hs hok)
      · cases hc
    · cases hc
  case indexAddr t x i =>
    split at hc
    · rename_i ty va vi hu h1 h2
      obtain ⟨z,hz,rfl⟩:=Zag hc
      exact val (iaddr_sound hr he h1 h2 hu hz hok)
    · cases hc
  case index t x i =>
    split at hc
    · rename_i va vi hu h1 h2
      simp only [Option.some.injEq] at hc; subst hc
      exact val (idx_sound he h1 h2 hu hok)
    · cases hc
  case extract x i =>
    obtain ⟨va,hx,rfl⟩:=Zag hc
    exact val (ext_sound (Zam he hx) hok)
  case call c=>exact call_pure_sound (o:=⟨dst,.call c,type,pos,after,guard⟩) rfl hc hp hok hr he
  case makeMap t r =>
    cases r <;> simp only [Option.some.injEq] at hc <;> subst hc <;> simp [VOp.pure] at hp
  case lookup t m k ok =>
    split at hc
    · rename_i kt et va vb hu h1 h2
      split at hc
      · rename_i kk zr h3 h4
        simp only [Option.some.injEq] at hc; subst hc
        exact val (lookup_sound hu h3 h4 hr (Zam he h1) (Zam he h2) hok.1 hok.2)
      · simp only [Option.some.injEq] at hc; subst hc; simp [VOp.pure] at hp
    · simp only [Option.some.injEq] at hc; subst hc; simp [VOp.pure] at hp
  case mapUpdate t m k v =>
    split at hc
    · split at hc
      · simp only [Option.some.injEq] at hc; subst hc; simp [VOp.pure] at hp
      · simp only [Option.some.injEq] at hc; subst hc; simp [VOp.pure] at hp
    · simp only [Option.some.injEq] at hc; subst hc; simp [VOp.pure] at hp
  all_goals (simp only [Option.some.injEq] at hc; subst hc; simp [VOp.pure] at hp)
theorem ptr_run {x : Operand} {va : VA} (hx : cA x = some va) (he : Zao g a e) (hok : isPtr (va.ev e) = true) {o : Oper} (ho : o.op = .nilCheck x) :
    (execOp a.eval o).run P w = .ok (.value (a.eval x)) w:=by
  have hv:=Zam he hx
  simp only [execOp,ho]
  generalize a.eval x = vx at hv
  cases hp:va.ev e <;> rw [hp] at hv hok <;> simp only [isPtr,Bool.false_eq_true] at hok
  case loc id i off =>
    obtain ⟨b,o',n,z,hb,rfl⟩:=hv.loc_inv
    simp
  case ro cs =>
    cases hv with
    | ro b o ad cs vs ha hm hr=>simp
  case fn f pf pc =>
    cases hv with
    | fn f fs cs pf pc h1 h2 hf hc =>
      cases f <;> simp only [Bool.false_eq_true] at hok
      simp
theorem byte_row {r:List PV} (h:isByte r):∃ n:Int,r = [.int .u8 n]:=by
  unfold isByte at h
  split at h
  · exact ⟨_,rfl⟩
  · cases h
theorem bytes_sound {s d t : TypeId} (hs : P.underlying s = some (.slice t)) (ht : P.underlying t = some (.int .u8)) (hd : P.underlying d = some .string) {v : Value} {p : PV} (hv : Rep g v p) (hr : Rel g w h) (hok : bytesOk h p) :
    ∃ x,(convert s d v).run P w = .ok (.string x) w ∧ x.data.toList = (byteRows h p).map byteOf:=by
  have key : ∀ (b o cap : Nat) (es : List (List PV)), (∀ r ∈ es, isByte r) → (∀ i (hi : i < es.length), ∃ x, w.cell? ⟨b, o + i, none⟩ = some x ∧ Rep g x (PV.nth es[i] 0)) →
      ∃ x,(convert s d (.slice (some ⟨b,o,none⟩) es.length cap)).run P w = .ok (.string x) w ∧ x.data.toList = es.map byteOf:=by
    intro b o cap es hb hc
    refine ⟨_,run_convert_bytes_arg w s t hs ht b o es.length cap (es.map fun r=>match r with | [.int _ n]=>n | _=>0) (by simp) (fun i hi=>?_) d hd,?_⟩
    · obtain ⟨x,h1,h2⟩:=hc i hi
      obtain ⟨n,hn⟩:=byte_row (hb _ (List.getElem_mem hi))
      rw [hn] at h2
      have h3:=Rep.int_inv h2
      rw [h1,h3]
      simp [List.getD_eq_getElem?_getD,hi,hn]
    · rw [strOfNums_data,List.map_map]
      refine List.map_congr_left fun r hr=>?_
      obtain ⟨n,rfl⟩:=byte_row (hb r hr)
      rfl
  cases hv with
  | nilsl=>exact ⟨_,run_convert_bytes_nil w s t hs ht 0 0 d hd,rfl⟩
  | slE a cap z =>
    cases a with
    | none=>exact ⟨_,run_convert_bytes_nil w s t hs ht 0 cap d hd,rfl⟩
    | some a =>
      refine ⟨.empty,?_,rfl⟩
      rw [run_convert_bytes_string w s d t (some a) 0 cap hs ht hd,run_bytesToString w a 0 cap [] (by simpa using run_loadCells_list (P:=P) w a [] (fun j v hj=>by simp at hj))]
      rfl
  | sl b o len cap z a es vs ha hl hc hz hm hrr =>
    subst ha
    obtain ⟨rfl,hb⟩:=hok
    subst hl
    refine key b o cap es hb (fun i hi=>?_)
    refine ⟨vs i 0,?_,?_⟩
    · have:=(hr.mem _ _ _ (hm i 0 hi (by omega))).1
      simpa using this
    · have:=hrr i 0 hi (by omega)
      simpa [PV.row,List.getD_eq_getElem?_getD,hi] using this
  | ownE a id off =>
    refine ⟨.empty,?_,by
      simp only [byteRows]
      split <;> (simp only [List.take_zero,List.map_nil]; rfl)⟩
    cases a with
    | none=>exact run_convert_bytes_nil w s t hs ht 0 0 d hd
    | some a =>
      rw [run_convert_bytes_string w s d t (some a) 0 0 hs ht hd,run_bytesToString w a 0 0 [] (by simpa using run_loadCells_list (P:=P) w a [] (fun j v hj=>by simp at hj))]
      rfl
  | own id off len cap b o n z a hb ha hc hn =>
    subst ha
    simp only [bytesOk] at hok
    cases hg:h.get id with
    | none=>rw [hg] at hok; cases hok
    | some ab =>
      rw [hg] at hok
      cases ab with
      | arr fz z' es =>
        obtain ⟨rfl,hle,hby⟩:=hok
        rcases hr.blk id _ hg with ⟨hn0,_⟩ | ⟨b',o',n',z',hb',hlt,hfree,q1,q2,q3,c,ee,q4,q5,q6⟩
        · rw [hb] at hn0; cases hn0
        rw [hb] at hb'
        simp only [Option.some.injEq,Prod.mk.injEq] at hb'
        obtain ⟨rfl,rfl,rfl,rfl⟩:=hb'
        subst q1
        have hlen:((es.drop off).take len).length = len:=by simp; omega
        have:=key b (o + off * 1) cap ((es.drop off).take len) hby (fun i hi=>by
          rw [hlen] at hi
          have h1:=q6 (off + i) 0 (by omega) (by omega)
          refine ⟨c.getD (o + (off + i) * 1 + 0) Go.undef,?_,?_⟩
          · have hin:o + off * 1 + i < c.size:=by omega
            have e1:o + (off + i) * 1 + 0 = o + off * 1 + i:=by omega
            rw [e1]
            have hin':o + off + i < c.size:=by omega
            simp [World.cell?,q4,hin']
          · have h2:=h1.2.1
            simpa [PV.row,List.getD_eq_getElem?_getD,List.getElem_drop,show off + i < es.length by omega] using h2)
        rw [hlen] at this
        simpa [byteRows,hg] using this
      | map _=>cases hok
      | miter _ _=>cases hok
      | bld _ _ _=>cases hok
      | buf _ _=>cases hok
  | _=>cases hok
theorem px_sound {o : Oper} {k : PX} {l : List VA} (hc : cX P o = some (.px k l)) (hok : pxOk h k (l.map (VA.ev e))) (hr : Rel g w h) (he : Zao g a e) :
    ∃ v,(execOp a.eval o).run P w = .ok (.value v) w ∧ Rep g v (pxV h k (l.map (VA.ev e))):=by
  obtain ⟨dst,op,type,pos,after,guard⟩:=o
  cases op
  case nilCheck x =>
    simp only [cX] at hc
    obtain ⟨va,hx,hq⟩:=Zag hc
    simp only [VOp.px.injEq] at hq
    obtain ⟨rfl,rfl⟩:=hq
    exact ⟨a.eval x,ptr_run hx he hok rfl,Zam he hx⟩
  case unOp uop t x =>
    cases uop <;> simp only [cX] at hc <;> try (cases hc; done)
    obtain ⟨va,hx,hq⟩:=Zag hc
    simp only [VOp.px.injEq] at hq
    obtain ⟨rfl,rfl⟩:=hq
    have hv:=Zam he hx
    simp only [List.map_cons,List.map_nil,pxOk,pxV] at hok ⊢
    cases hp:va.ev e <;> rw [hp] at hv hok <;> simp only [isInt] at hok
    have h2:=hv.int_inv
    exact ⟨_,by simp only [execOp,h2,Op.unary,Op.intBits]; rfl,.int _ _⟩
  case slice t x lo hi mx =>
    exfalso
    cases lo <;> cases hi <;> cases mx <;> simp only [cX] at hc <;> first
      | (cases hc; done)
      | ((repeat' (split at hc)) <;> first | (cases hc; done) | (obtain ⟨z,_,hq⟩:=Zag hc; cases hq))
  case insert t m k v =>
    exfalso
    simp only [cX] at hc
    split at hc
    · obtain ⟨z,_,hq⟩:=Zag hc; cases hq
    · cases hc
  case binOp op t x y yt =>
    exfalso
    cases op <;> simp only [cX] at hc <;> first
      | (cases hc; done)
      | (split at hc <;> first | (cases hc; done) | (obtain ⟨z,_,hq⟩:=Zag hc; cases hq))
  case buildSlice t n parts =>
    exfalso
    simp only [cX] at hc
    (repeat' (split at hc)) <;> simp at hc
  case call c =>
    exfalso
    simp only [cX,cCallX] at hc
    (repeat' (split at hc)) <;> simp at hc
  case convert s d x =>
    simp only [cX] at hc
    split at hc
    · rename_i t va hs hd hx
      split at hc
      · rename_i ht
        simp only [Option.some.injEq,VOp.px.injEq] at hc
        obtain ⟨rfl,rfl⟩:=hc
        obtain ⟨y,h1,h2⟩:=bytes_sound hs ht hd (Zam he hx) hr hok
        exact ⟨.string y,by simp only [execOp]; simp [Sem.run_bind,h1,Sem.run_pure],.str _ _ h2⟩
      · cases hc
    · cases hc
  all_goals (exfalso; simp only [cX] at hc; cases hc)
def VOp.isX:VOp → Prop
  | .px _ _ | .fx _ _ | .mapset _ _ _ _ | .nd _ _=>True
  | _=>False
theorem cX_ext {o:Oper} {vo:VOp} (hx:cX P o = some vo):vo.isX:=by
  obtain ⟨dst,op,type,pos,after,guard⟩:=o
  cases op
  case nilCheck x=>simp only [cX] at hx; obtain ⟨z,_,rfl⟩:=Zag hx; trivial
  case unOp uop t x=>cases uop <;> simp only [cX] at hx <;> first | (cases hx; done) | (obtain ⟨z,_,rfl⟩:=Zag hx; trivial)
  case slice t x lo hi mx =>
    cases lo <;> cases hi <;> cases mx <;> simp only [cX] at hx <;> first
      | (cases hx; done)
      | ((repeat' (split at hx)) <;> first | (cases hx; done) | (obtain ⟨z,_,rfl⟩:=Zag hx; trivial))
  case insert t m k v =>
    simp only [cX] at hx
    split at hx
    · obtain ⟨z,_,rfl⟩:=Zag hx; trivial
    · cases hx
  case binOp op t x y yt =>
    cases op <;> simp only [cX] at hx <;> first
      | (cases hx; done)
      | (split at hx <;> first | (cases hx; done) | (obtain ⟨z,_,rfl⟩:=Zag hx; trivial))
  case buildSlice t n parts =>
    simp only [cX] at hx
    (repeat' (split at hx)) <;> first | (cases hx; done) | (simp only [Option.some.injEq] at hx; subst hx; trivial)
  case call c =>
    simp only [cX,cCallX] at hx
    (repeat' (split at hx)) <;> first | (cases hx; done) | (simp only [Option.some.injEq] at hx; subst hx; trivial)
  case convert s d x =>
    simp only [cX] at hx
    (repeat' (split at hx)) <;> first | (cases hx; done) | (simp only [Option.some.injEq] at hx; subst hx; trivial)
  all_goals (simp only [cX] at hx; cases hx)
theorem pure_sound {o : Oper} {vop : VOp} (hc : cOp P o = some vop) (hp : vop.pure = true) (hok : pok e h vop) (hr : Rel g w h) (he : Zao g a e) :
    ∃ v,(execOp a.eval o).run P w = .ok (.value v) w ∧ Rep g v (pval e h vop):=by
  unfold cOp at hc
  split at hc
  · simp only [Option.some.injEq] at hc; subst hc
    simp [VOp.pure] at hp
  rename_i hraw
  clear hraw
  split at hc
  · rename_i vo hx
    simp only [Option.some.injEq] at hc; subst hc
    have hk:=cX_ext hx
    cases vo <;> simp only [VOp.isX] at hk <;> simp only [VOp.pure,Bool.false_eq_true] at hp
    exact px_sound (h:=h) hx hok hr he
  · split at hc
    · rename_i v hv
      simp only [Option.some.injEq] at hc; subst hc
      exact pure_sound0 hv hp hok hr he
    · simp only [Option.some.injEq] at hc; subst hc
      simp [VOp.pure] at hp
end
end Go.VM
