/-
  The value machine, run: the walk of a call whose arguments are known is a computation.
  The value machine, run: the run itself, and that it is a walk.
  The value machine, run: code and calls.
  The value machine, run: drawn regions, loops, calls, the whole.
  The value machine, run: the whole, and what a run gives.
  Walks of drawn regions that store.
  Calls that are handed what the caller made: it is frozen; calls over less of the heap.
  The reach of a statement: a slice that came in takes at most so many bytes.
  Drawn regions that append or make: every operation that only looks, looks at nothing.
  From the kit's own contracts to calls of the value machine: strings, slices of strings, numbers.
  Drawn regions in which one call is handed what the region has made: all that it does not wait for only looks.
  Calls over a part of the heap: what lies beside stays.
-/
import Derived.Test.YtihfbefagcdpmaaDoorVmA
import Derived.LoopN
import Derived.SizedLaws
set_option linter.all false
namespace Go.VM
open Go

/-! ### frames as trees -/
inductive Tr where
  | lf
  | nd (l : Tr) (v : PV) (r : Tr)
  deriving Inhabited
def Tr.get : Tr → Nat → PV
  | .lf, _ => .any
  | .nd l v r, n => bif n == 0 then v else bif n % 2 == 1 then Tr.get l (n / 2) else Tr.get r (n / 2 - 1)
def Tr.put : Nat → Tr → Nat → PV → Tr
  | 0, t, _, _ => t
  | f + 1, .lf, n, x => bif n == 0 then .nd .lf x .lf else bif n % 2 == 1 then .nd (Tr.put f .lf (n / 2) x) .any .lf else .nd .lf .any (Tr.put f .lf (n / 2 - 1) x)
  | f + 1, .nd l v r, n, x => bif n == 0 then .nd l x r else bif n % 2 == 1 then .nd (Tr.put f l (n / 2) x) v r else .nd l v (Tr.put f r (n / 2 - 1) x)
theorem Tr.get_put : ∀ (f : Nat) (t : Tr) (n m : Nat) (x : PV), n + 1 < 2 ^ f → (Tr.put f t n x).get m = if n = m then x else t.get m := by
  intro f
  induction f with
  | zero => intro t n m x h; simp at h
  | succ f ih =>
    intro t n m x h
    have h2 : 2 ^ (f + 1) = 2 ^ f + 2 ^ f := by rw [Nat.pow_succ]; omega
    cases t with
    | lf =>
      by_cases h0 : n = 0
      · subst h0
        cases m with
        | zero => simp [Tr.put, Tr.get]
        | succ m =>
          simp only [Tr.put, Tr.get, beq_self_eq_true, cond_true, Nat.add_eq_zero_iff, Nat.succ_ne_zero, and_false, if_false]
          have : ¬ (0 = m + 1) := by omega
          simp [this]
      · have hb : (n == 0) = false := by simp [h0]
        by_cases h1 : n % 2 = 1
        · have hb1 : (n % 2 == 1) = true := by simp [h1]
          simp only [Tr.put, hb, hb1, cond_true, cond_false, Tr.get]
          by_cases m0 : m = 0
          · subst m0; simp [h0]
          · have mb : (m == 0) = false := by simp [m0]
            by_cases m1 : m % 2 = 1
            · have mb1 : (m % 2 == 1) = true := by simp [m1]
              simp only [mb, mb1, cond_true, cond_false]
              rw [ih .lf (n / 2) (m / 2) x (by omega)]
              by_cases e : n = m
              · subst e; simp
              · rw [if_neg e, if_neg (by omega)]; rfl
            · have mb1 : (m % 2 == 1) = false := by simp [m1]
              simp only [mb, mb1, cond_false]
              rw [if_neg (by rintro rfl; exact m1 h1)]
        · have hb1 : (n % 2 == 1) = false := by simp [h1]
          simp only [Tr.put, hb, hb1, cond_false, Tr.get]
          by_cases m0 : m = 0
          · subst m0; simp [h0]
          · have mb : (m == 0) = false := by simp [m0]
            by_cases m1 : m % 2 = 1
            · have mb1 : (m % 2 == 1) = true := by simp [m1]
              simp only [mb, mb1, cond_true, cond_false]
              rw [if_neg (by rintro rfl; exact h1 m1)]
            · have mb1 : (m % 2 == 1) = false := by simp [m1]
              simp only [mb, mb1, cond_false]
              rw [ih .lf (n / 2 - 1) (m / 2 - 1) x (by omega)]
              by_cases e : n = m
              · subst e; simp
              · rw [if_neg e, if_neg (by omega)]; rfl
    | nd l v r =>
      by_cases h0 : n = 0
      · subst h0
        cases m with
        | zero => simp [Tr.put, Tr.get]
        | succ m =>
          have : ¬ (0 = m + 1) := by omega
          simp [Tr.put, Tr.get, this]
      · have hb : (n == 0) = false := by simp [h0]
        by_cases h1 : n % 2 = 1
        · have hb1 : (n % 2 == 1) = true := by simp [h1]
          simp only [Tr.put, hb, hb1, cond_true, cond_false, Tr.get]
          by_cases m0 : m = 0
          · subst m0; simp [h0]
          · have mb : (m == 0) = false := by simp [m0]
            by_cases m1 : m % 2 = 1
            · have mb1 : (m % 2 == 1) = true := by simp [m1]
              simp only [mb, mb1, cond_true, cond_false]
              rw [ih l (n / 2) (m / 2) x (by omega)]
              by_cases e : n = m
              · subst e; simp
              · rw [if_neg e, if_neg (by omega)]
            · have mb1 : (m % 2 == 1) = false := by simp [m1]
              simp only [mb, mb1, cond_false]
              rw [if_neg (by rintro rfl; exact m1 h1)]
        · have hb1 : (n % 2 == 1) = false := by simp [h1]
          simp only [Tr.put, hb, hb1, cond_false, Tr.get]
          by_cases m0 : m = 0
          · subst m0; simp [h0]
          · have mb : (m == 0) = false := by simp [m0]
            by_cases m1 : m % 2 = 1
            · have mb1 : (m % 2 == 1) = true := by simp [m1]
              simp only [mb, mb1, cond_true, cond_false]
              rw [if_neg (by rintro rfl; exact h1 m1)]
            · have mb1 : (m % 2 == 1) = false := by simp [m1]
              simp only [mb, mb1, cond_false]
              rw [ih r (n / 2 - 1) (m / 2 - 1) x (by omega)]
              by_cases e : n = m
              · subst e; simp
              · rw [if_neg e, if_neg (by omega)]

/-! ### what is asked, as computations -/
def isBoolB : PV → Bool | .bool _ => true | _ => false
def isStrB : PV → Bool | .str _ => true | _ => false
def isIntB : PV → Bool | .int _ _ => true | _ => false
def isAggB : PV → Bool | .agg _ => true | _ => false
def isAddrB : PV → Bool | .loc _ _ _ | .ro _ => true | _ => false
theorem isBoolB_ok {p : PV} (h : isBoolB p = true) : isBool p := by cases p <;> first | trivial | cases h
theorem isStrB_ok {p : PV} (h : isStrB p = true) : isStr p := by cases p <;> first | trivial | cases h
theorem isIntB_ok {p : PV} (h : isIntB p = true) : isInt p := by cases p <;> first | trivial | cases h
theorem isAggB_ok {p : PV} (h : isAggB p = true) : isAggP p := by cases p <;> first | trivial | cases h
theorem isAddrB_ok {p : PV} (h : isAddrB p = true) : isAddr p := by cases p <;> first | trivial | cases h
def binbOkB (op : BinOp) : PV → PV → Bool
  | .bool _, .bool _ => (match op with | .eql | .neq => true | _ => false)
  | _, _ => false
theorem binbOkB_ok {op : BinOp} {a b : PV} (h : binbOkB op a b = true) : binbOk op a b := by
  unfold binbOkB at h
  split at h
  · unfold binbOk
    cases op <;> simp at h ⊢
  · cases h
def binOkB (op : BinOp) : PV → PV → Bool
  | .int k a, .int k' b => (match op with
    | .shl | .shr => decide (0 ≤ b)
    | .quo | .rem => decide (k = k') && !decide (b = 0)
    | _ => decide (k = k'))
  | .str a, .str b => (match op with
    | .add => Nat.ble (a.length + b.length) 9223372036854775807
    | .eql | .neq | .lss | .leq | .gtr | .geq => true
    | _ => false)
  | _, _ => false
theorem binOkB_ok {op : BinOp} {a b : PV} (h : binOkB op a b = true) : binOk op a b := by
  unfold binOkB at h
  split at h
  · unfold binOk
    cases op <;> simpa using h
  · unfold binOk
    cases op <;> first | trivial | (simp at h; done) | (simpa using h)
  · cases h
def ekOkB : EK → PV → PV → Bool
  | .i, .int k _, .int k' _ => decide (k = k')
  | .s, .str _, .str _ => true
  | .b, .bool _, .bool _ => true
  | _, _, _ => false
theorem ekOkB_ok {k : EK} {a b : PV} (h : ekOkB k a b = true) : ekOk k a b := by
  unfold ekOkB at h
  split at h
  · simpa [ekOk] using h
  · trivial
  · trivial
  · cases h
def eqOkB : List EK → List PV → List PV → Bool
  | k :: ks, x :: r, y :: q => ekOkB k x y && eqOkB ks r q
  | [], [], [] => true
  | _, _, _ => false
theorem eqOkB_ok : ∀ {ks : List EK} {a b : List PV}, eqOkB ks a b = true → eqOk ks a b := by
  intro ks
  induction ks with
  | nil => intro a b h; cases a <;> cases b <;> first | trivial | cases h
  | cons k ks ih =>
    intro a b h
    cases a <;> cases b <;> first | (cases h; done) | skip
    simp only [eqOkB, Bool.and_eq_true] at h
    exact ⟨ekOkB_ok h.1, ih h.2⟩
def keyOkB : KK → PV → PV → Bool
  | .one k, a, b => ekOkB k a b
  | .st ks, .agg a, .agg b => eqOkB ks a b
  | _, _, _ => false
theorem keyOkB_ok {kk : KK} {a b : PV} (h : keyOkB kk a b = true) : keyOk kk a b := by
  unfold keyOkB at h
  split at h
  · exact ekOkB_ok h
  · exact ⟨trivial, trivial, eqOkB_ok h⟩
  · cases h
def keysOkB (kk : KK) (k : PV) (es : List (PV × PV)) : Bool := keyOkB kk k k && es.all fun p => keyOkB kk k p.1
theorem keysOkB_ok {kk : KK} {k : PV} {es : List (PV × PV)} (h : keysOkB kk k es = true) : keysOk kk k es := by
  simp only [keysOkB, Bool.and_eq_true, List.all_eq_true] at h
  exact ⟨keyOkB_ok h.1, fun p hp => keyOkB_ok (h.2 p hp)⟩
def mapOkB (h : Heap) : PV → Bool
  | .mp id => (match h.get id with | some (.map _) => true | _ => false)
  | .rmp _ => true
  | .nilmp => true
  | _ => false
theorem mapOkB_ok {h : Heap} {p : PV} (H : mapOkB h p = true) : mapOk h p := by
  unfold mapOkB at H
  split at H
  · split at H
    · rename_i e; simp [mapOk, e]
    · cases H
  · trivial
  · trivial
  · cases H
def mapHasB (h : Heap) : PV → Bool
  | .mp id => (match h.get id with | some (.map _) => true | _ => false)
  | _ => false
theorem mapHasB_ok {h : Heap} {p : PV} (H : mapHasB h p = true) : mapHas h p := by
  unfold mapHasB at H
  split at H
  · split at H
    · rename_i e; simp [mapHas, e]
    · cases H
  · cases H
def unOkB (op : UnOp) : PV → Bool
  | .int _ _ => (match op with | .neg => true | _ => false)
  | .bool _ => (match op with | .not => true | _ => false)
  | _ => false
theorem unOkB_ok {op : UnOp} {p : PV} (h : unOkB op p = true) : unOk op p := by
  unfold unOkB at h
  split at h
  · unfold unOk; cases op <;> simp at h ⊢
  · unfold unOk; cases op <;> simp at h ⊢
  · cases h
def boundOkB : Option PV → Bool
  | some (.int _ n) => decide (0 ≤ n)
  | some _ => false
  | none => true
theorem boundOkB_ok {o : Option PV} (h : boundOkB o = true) : boundOk o := by
  unfold boundOkB at h
  split at h
  · simpa [boundOk] using h
  · cases h
  · trivial
def sliceOkB (st : Bool) (z : Nat) (h : Heap) (a : PV) (lo hi : Option PV) : Bool :=
  boundOkB lo && boundOkB hi && Nat.ble (loV lo) (hiV (lenV a) hi) && Nat.ble (hiV (lenV a) hi) (lenV a) &&
  match a with
  | .str _ => st
  | .sl z' _ => !st && Nat.beq z' z
  | .own id _ _ => !st && (match h.get id with | some (.arr _ z' _) => Nat.beq z' z | _ => false)
  | .nilsl => !st
  | _ => false
theorem sliceOkB_ok {st : Bool} {z : Nat} {h : Heap} {a : PV} {lo hi : Option PV} (H : sliceOkB st z h a lo hi = true) : sliceOk st z h a lo hi := by
  simp only [sliceOkB, Bool.and_eq_true, Nat.ble_eq] at H
  obtain ⟨⟨⟨⟨h1, h2⟩, h3⟩, h4⟩, h5⟩ := H
  refine ⟨boundOkB_ok h1, boundOkB_ok h2, h3, h4, ?_⟩
  split at h5
  · exact h5
  · simp only [Bool.and_eq_true, Bool.not_eq_true'] at h5; exact ⟨h5.1, Nat.eq_of_beq_eq_true h5.2⟩
  · simp only [Bool.and_eq_true, Bool.not_eq_true'] at h5
    refine ⟨h5.1, ?_⟩
    have h6 := h5.2
    split at h6
    · rename_i e; rw [e]; simpa using h6
    · cases h6
  · simpa using h5
  · cases h5
def locOkB (h : Heap) : PV → Bool
  | .loc id i _ => (match h.get id with | some (.arr _ _ es) => Nat.blt i es.length | _ => false)
  | .ro _ => true
  | _ => false
theorem locOkB_ok {h : Heap} {p : PV} (H : locOkB h p = true) : locOk h p := by
  unfold locOkB at H
  split at H
  · split at H
    · rename_i e; simp only [locOk, e]; exact Nat.le_of_ble_eq_true H
    · cases H
  · trivial
  · cases H
def iaddrOkB (z : Nat) (h : Heap) (a i : PV) : Bool :=
  isIntB i && decide (0 ≤ numOf i) && decide (numOf i < lenV a) &&
  match a with
  | .sl z' _ => Nat.beq z' z
  | .own id _ _ => (match h.get id with | some (.arr _ z' _) => Nat.beq z' z | _ => false)
  | _ => false
theorem iaddrOkB_ok {z : Nat} {h : Heap} {a i : PV} (H : iaddrOkB z h a i = true) : iaddrOk z h a i := by
  simp only [iaddrOkB, Bool.and_eq_true, decide_eq_true_eq] at H
  obtain ⟨⟨⟨h1, h2⟩, h3⟩, h4⟩ := H
  refine ⟨isIntB_ok h1, h2, h3, ?_⟩
  split at h4
  · simpa using h4
  · split at h4
    · rename_i e; simp only [e]; simpa using h4
    · cases h4
  · cases h4
def idxOkB (a i : PV) : Bool := isIntB i && decide (0 ≤ numOf i) && decide (numOf i < lenV a) && isStrB a
theorem idxOkB_ok {a i : PV} (H : idxOkB a i = true) : idxOk a i := by
  simp only [idxOkB, Bool.and_eq_true, decide_eq_true_eq] at H
  obtain ⟨⟨⟨h1, h2⟩, h3⟩, h4⟩ := H
  refine ⟨isIntB_ok h1, h2, h3, ?_⟩
  cases a <;> first | trivial | cases h4
def lenOkB (st : Bool) : PV → Bool
  | .str _ => st
  | .sl _ _ | .own _ _ _ | .nilsl => !st
  | _ => false
theorem lenOkB_ok {st : Bool} {p : PV} (H : lenOkB st p = true) : lenOk st p := by
  cases p <;> simp [lenOkB] at H <;> simp [lenOk, H]
def extOkB (i : Nat) : PV → Bool
  | .tup l => Nat.blt i l.length
  | _ => false
theorem extOkB_ok {i : Nat} {p : PV} (H : extOkB i p = true) : extOk i p := by
  cases p <;> simp [extOkB] at H
  exact H
def fitsB (n : Nat) (p : PV) : Bool := p.fits n
def fillOkB (e : Env) (n : Nat) : List (Nat × Nat × VA) → Bool
  | [] => true
  | (o, s, a) :: r => (a.ev e).fits s && Nat.ble (o + s) n && fillOkB e n r
theorem fillOkB_ok {e : Env} {n : Nat} : ∀ {l : List (Nat × Nat × VA)}, fillOkB e n l = true → fillOk e n l
  | [], _ => trivial
  | (o, s, a) :: r, h => by
    simp only [fillOkB, Bool.and_eq_true, Nat.ble_eq] at h
    exact ⟨h.1.1, h.1.2, fillOkB_ok h.2⟩
def elemsOkB (e : Env) (z n : Nat) : List (Nat × VA) → Bool
  | [] => true
  | (i, a) :: r => (a.ev e).fits z && Nat.blt i n && elemsOkB e z n r
theorem elemsOkB_ok {e : Env} {z n : Nat} : ∀ {l : List (Nat × VA)}, elemsOkB e z n l = true → elemsOk e z n l
  | [], _ => trivial
  | (i, a) :: r, h => by
    simp only [elemsOkB, Bool.and_eq_true] at h
    exact ⟨h.1.1, Nat.le_of_ble_eq_true h.1.2, elemsOkB_ok h.2⟩
def srcOkB (h : Heap) (str : Bool) (z : Nat) : PV → Bool
  | .sl z' _ => !str && Nat.beq z' z
  | .own id off len => !str && (match h.get id with
    | some (.arr _ z' es) => Nat.beq z' z && Nat.ble (off + len) es.length
    | _ => false)
  | .nilsl => !str
  | .str _ => str && Nat.beq z 1
  | _ => false
theorem srcOkB_ok {h : Heap} {str : Bool} {z : Nat} {p : PV} (H : srcOkB h str z p = true) : srcOk h str z p := by
  unfold srcOkB at H
  split at H
  · simpa [srcOk] using H
  · simp only [Bool.and_eq_true, Bool.not_eq_true'] at H
    refine ⟨H.1, ?_⟩
    have h6 := H.2
    split at h6
    · rename_i e; rw [e]; simpa using h6
    · cases h6
  · simpa [srcOk] using H
  · simpa [srcOk] using H
  · cases H
def oldOkB (h : Heap) (z : Nat) : PV → Bool
  | .nilsl => true
  | .own id off len => (match h.get id with
    | some (.arr fz z' es) => !fz && Nat.beq z' z && Nat.ble (off + len) es.length
    | _ => false)
  | _ => false
theorem oldOkB_ok {h : Heap} {z : Nat} {p : PV} (H : oldOkB h z p = true) : oldOk h z p := by
  unfold oldOkB at H
  split at H
  · trivial
  · split at H
    · rename_i e; simp only [oldOk, e]; simp only [Bool.and_eq_true, Bool.not_eq_true', Nat.ble_eq] at H; exact ⟨H.1.1, Nat.eq_of_beq_eq_true H.1.2, H.2⟩
    · cases H
  · cases H
def storeOkB (h : Heap) (s : Nat) (p v : PV) : Bool :=
  v.fits s && match p with
  | .loc id i off => (match h.get id with
    | some (.arr fz z es) => !fz && Nat.blt i es.length && Nat.ble (off + s) z
    | _ => false)
  | _ => false
theorem storeOkB_ok {h : Heap} {s : Nat} {p v : PV} (H : storeOkB h s p v = true) : storeOk h s p v := by
  simp only [storeOkB, Bool.and_eq_true] at H
  refine ⟨H.1, ?_⟩
  have h2 := H.2
  split at h2
  · split at h2
    · rename_i e; simp only [e]; simp only [Bool.and_eq_true, Bool.not_eq_true', Nat.ble_eq] at h2; exact ⟨h2.1.1, Nat.le_of_ble_eq_true h2.1.2, h2.2⟩
    · cases h2
  · cases h2

/-! ### operands in place -/
def VA.res (t : Tr) : VA → VA
  | .t n => .c (t.get n)
  | .c p => .c p
/-- The frame as the tree has it. -/
def Sim (t : Tr) (e : Env) : Prop := ∀ n, t.get n = e.get n
theorem Sim.ev {t : Tr} {e : Env} (h : Sim t e) (a : VA) : (a.res t).ev [] = a.ev e := by
  cases a with
  | t n => exact h n
  | c p => rfl
def VOp.res (t : Tr) : VOp → VOp
  | .mv a => .mv (a.res t)
  | .pick c a b => .pick (c.res t) (a.res t) (b.res t)
  | .alloc z => .alloc z
  | .box n a => .box n (a.res t)
  | .build z ps => .build z (ps.map fun p => (p.1, p.2.1, p.2.2.res t))
  | .bslice z n zr ps => .bslice z n zr (ps.map fun p => (p.1, p.2.res t))
  | .load g s a => .load g s (a.res t)
  | .store s a v => .store s (a.res t) (v.res t)
  | .bin op a b => .bin op (a.res t) (b.res t)
  | .binb op a b => .binb op (a.res t) (b.res t)
  | .strid a => .strid (a.res t)
  | .eqs n ks a b => .eqs n ks (a.res t) (b.res t)
  | .isnil n a => .isnil n (a.res t)
  | .un op a => .un op (a.res t)
  | .conv k a => .conv k (a.res t)
  | .b2s a => .b2s (a.res t)
  | .s2b a => .s2b (a.res t)
  | .mkfn f x y => .mkfn f (x.map (VA.res t)) (y.map (VA.res t))
  | .slice st z a lo hi => .slice st z (a.res t) (lo.map (VA.res t)) (hi.map (VA.res t))
  | .faddr o a => .faddr o (a.res t)
  | .fld g o s a => .fld g o s (a.res t)
  | .iaddr z a i => .iaddr z (a.res t) (i.res t)
  | .idx a i => .idx (a.res t) (i.res t)
  | .ext a i => .ext (a.res t) i
  | .len st a => .len st (a.res t)
  | .app z b zr st x y => .app z b zr st (x.res t) (y.res t)
  | .mm mx l => .mm mx (l.map (VA.res t))
  | .mkmap => .mkmap
  | .lookup kk z ok m k => .lookup kk z ok (m.res t) (k.res t)
  | .mapset kk m k v => .mapset kk (m.res t) (k.res t) (v.res t)
  | .mlen m => .mlen (m.res t)
  | .call f l => .call f (l.map (VA.res t))
  | .callv f l => .callv (f.res t) (l.map (VA.res t))
  | .px k l => .px k (l.map (VA.res t))
  | .fx k l => .fx k (l.map (VA.res t))
  | .nd neg a => .nd neg (a.res t)
  | .other o => .other o
section
variable {t : Tr} {e : Env} (hs : Sim t e)
include hs
theorem fill_res : ∀ (ps : List (Nat × Nat × VA)) (cs : List PV), fillV [] cs (ps.map fun p => (p.1, p.2.1, p.2.2.res t)) = fillV e cs ps
  | [], _ => rfl
  | (o, s, a) :: r, cs => by simp only [List.map_cons, fillV]; rw [hs.ev a, fill_res r]
theorem fillOk_res (n : Nat) : ∀ (ps : List (Nat × Nat × VA)), fillOk [] n (ps.map fun p => (p.1, p.2.1, p.2.2.res t)) = fillOk e n ps
  | [] => rfl
  | (o, s, a) :: r => by simp only [List.map_cons, fillOk]; rw [hs.ev a, fillOk_res n r]
theorem elems_res : ∀ (ps : List (Nat × VA)) (rows : List (List PV)), elemsV [] rows (ps.map fun p => (p.1, p.2.res t)) = elemsV e rows ps
  | [], _ => rfl
  | (i, a) :: r, rows => by simp only [List.map_cons, elemsV]; rw [hs.ev a, elems_res r]
theorem elemsOk_res (z n : Nat) : ∀ (ps : List (Nat × VA)), elemsOk [] z n (ps.map fun p => (p.1, p.2.res t)) = elemsOk e z n ps
  | [] => rfl
  | (i, a) :: r => by simp only [List.map_cons, elemsOk]; rw [hs.ev a, elemsOk_res z n r]
theorem opt_res (o : Option VA) : (o.map (VA.res t)).map (VA.ev []) = o.map (VA.ev e) := by
  cases o with
  | none => rfl
  | some a => simp [hs.ev a]
theorem map_res (l : List VA) : (l.map (VA.res t)).map (VA.ev []) = l.map (VA.ev e) := by
  rw [List.map_map]; exact List.map_congr_left fun a _ => hs.ev a
theorem pval_res (h : Heap) (op : VOp) : pval [] h (op.res t) = pval e h op := by
  cases op <;> simp only [VOp.res, pval, hs.ev, fill_res hs, opt_res hs, map_res hs]
  case mm mx l =>
    match l with
    | [] => rfl
    | [a] => rfl
    | [a, b] => simp only [List.map_cons, List.map_nil, hs.ev]
    | _ :: _ :: _ :: _ => rfl
theorem pok_res (h : Heap) (op : VOp) : pok [] h (op.res t) = pok e h op := by
  cases op <;> simp only [VOp.res, pok, hs.ev, fillOk_res hs, opt_res hs, map_res hs]
  case mm mx l =>
    match l with
    | [] => rfl
    | [a] => rfl
    | [a, b] => simp only [List.map_cons, List.map_nil, hs.ev]
    | _ :: _ :: _ :: _ => rfl
end
theorem res_pure (t : Tr) (op : VOp) : (op.res t).pure = op.pure := by cases op <;> rfl
theorem StepW_res {P : Program} {t : Tr} {e : Env} (hs : Sim t e) {h : Heap} {op : VOp} {K : PV → Heap → Prop} (H : StepW P [] h (op.res t) K) (ho : op.closed = true) : StepW P e h op K := by
  have h1 := pval_res hs h op
  have h2 := pok_res hs h op
  cases op <;> simp only [VOp.res, StepW, hs.ev, elems_res hs, elemsOk_res hs, map_res hs] at H h1 h2 ⊢ <;> first | exact H | (rw [← h1, ← h2]; exact H) | skip
  case other o => simp [VOp.closed] at ho
end Go.VM


namespace Go.VM
open Go

/-! ### what names no block -/
mutual
def PV.clB : PV → Bool
  | .any | .undef | .bool _ | .int _ _ | .str _ | .nilp | .nilsl | .nilmp | .nilfn | .nilif => true
  | .ro cs => PV.clsB cs
  | .sl _ es => PV.clssB es
  | .agg cs => PV.clsB cs
  | .tup cs => PV.clsB cs
  | .fn _ a b => PV.clsB a && PV.clsB b
  | .ifc _ v => PV.clB v
  | .rmp es => PV.clpB es
  | .loc _ _ _ | .own _ _ _ | .mp _ | .fnb _ _ => false
def PV.clsB : List PV → Bool
  | [] => true
  | p :: r => PV.clB p && PV.clsB r
def PV.clssB : List (List PV) → Bool
  | [] => true
  | p :: r => PV.clsB p && PV.clssB r
def PV.clpB : List (PV × PV) → Bool
  | [] => true
  | (a, b) :: r => PV.clB a && PV.clB b && PV.clpB r
end
theorem closed_fn {f : Fn} {a b : List PV} (h1 : ∀ x ∈ a, Closed x) (h2 : ∀ x ∈ b, Closed x) : Closed (.fn f a b) := by
  intro g v hv
  cases hv with
  | fn _ fs cs _ _ s1 s2 r1 r2 =>
    refine .fn f fs cs a b s1 s2 (fun j hj => h1 _ ?_ g _ (r1 j hj)) (fun j hj => h2 _ ?_ g _ (r2 j hj))
    · simp only [PV.nth, List.getD_eq_getElem?_getD, List.getElem?_eq_getElem hj, Option.getD_some]; exact List.getElem_mem hj
    · simp only [PV.nth, List.getD_eq_getElem?_getD, List.getElem?_eq_getElem hj, Option.getD_some]; exact List.getElem_mem hj
mutual
theorem PV.clB_ok : ∀ (p : PV), p.clB = true → Closed p
  | .any, _ => fun _ v _ => .any v
  | .undef, _ => fun _ v h => by cases h; exact .undef
  | .bool b, _ => cB b
  | .int k n, _ => Closed.of_scalar (scalar_int _ _)
  | .str s, _ => cS s
  | .nilp, _ => fun _ v h => by cases h; exact .nilp
  | .nilsl, _ => closed_nilsl
  | .nilmp, _ => fun _ v h => by cases h; exact .nilmp
  | .nilfn, _ => fun _ v h => by cases h; exact .nilfn
  | .nilif, _ => fun _ v h => by cases h; exact .nilif
  | .ro cs, h => closed_ro (PV.clsB_ok cs h)
  | .sl z es, h => closed_sl (PV.clssB_ok es h)
  | .agg cs, h => closed_agg (PV.clsB_ok cs h)
  | .tup cs, h => closed_tup (PV.clsB_ok cs h)
  | .fn f a b, h => by
    simp only [PV.clB, Bool.and_eq_true] at h
    exact closed_fn (PV.clsB_ok a h.1) (PV.clsB_ok b h.2)
  | .ifc t v, h => fun g x hx => by
    cases hx with
    | ifc _ y _ hy => exact .ifc t y v (PV.clB_ok v h g y hy)
  | .rmp es, h => closed_rmp (PV.clpB_ok es h)
  | .fnb _ _, h => by cases h
  | .loc _ _ _, h => by cases h
  | .own _ _ _, h => by cases h
  | .mp _, h => by cases h
theorem PV.clsB_ok : ∀ (l : List PV), PV.clsB l = true → ∀ x ∈ l, Closed x
  | [], _ => fun x hx => by cases hx
  | p :: r, h => by
    simp only [PV.clsB, Bool.and_eq_true] at h
    intro x hx
    rcases List.mem_cons.1 hx with hp | hx
    · rw [hp]; exact PV.clB_ok p h.1
    · exact PV.clsB_ok r h.2 x hx
theorem PV.clssB_ok : ∀ (l : List (List PV)), PV.clssB l = true → ∀ e ∈ l, ∀ x ∈ e, Closed x
  | [], _ => fun x hx => by cases hx
  | p :: r, h => by
    simp only [PV.clssB, Bool.and_eq_true] at h
    intro x hx
    rcases List.mem_cons.1 hx with hp | hx
    · rw [hp]; exact PV.clsB_ok p h.1
    · exact PV.clssB_ok r h.2 x hx
theorem PV.clpB_ok : ∀ (l : List (PV × PV)), PV.clpB l = true → ∀ e ∈ l, Closed e.1 ∧ Closed e.2
  | [], _ => fun x hx => by cases hx
  | (a, b) :: r, h => by
    simp only [PV.clpB, Bool.and_eq_true] at h
    intro x hx
    rcases List.mem_cons.1 hx with hp | hx
    · rw [hp]; exact ⟨PV.clB_ok a h.1.1, PV.clB_ok b h.1.2⟩
    · exact PV.clpB_ok r h.2 x hx
end
mutual
def PV.scB : PV → Bool
  | .any | .undef | .bool _ | .int _ _ | .str _ | .nilp | .nilsl | .nilmp | .nilfn | .nilif => true
  | .sl _ es => es.isEmpty
  | .agg cs => PV.scsB cs
  | .tup cs => PV.scsB cs
  | .ro _ | .fn _ _ _ | .ifc _ _ | .loc _ _ _ | .own _ _ _ | .mp _ | .rmp _ | .fnb _ _ => false
def PV.scsB : List PV → Bool
  | [] => true
  | p :: r => PV.scB p && PV.scsB r
end
mutual
theorem PV.scB_ok : ∀ (p : PV), p.scB = true → Scalar p
  | .any, _ => fun _ v _ _ => .any v
  | .undef, _ => fun _ v h _ => by cases h; exact .undef
  | .bool b, _ => scalar_bool _
  | .int k n, _ => scalar_int _ _
  | .str s, _ => scalar_str _
  | .nilp, _ => fun _ v h _ => by cases h; exact .nilp
  | .nilsl, _ => fun _ v h _ => by cases h; exact .nilsl
  | .nilmp, _ => fun _ v h _ => by cases h; exact .nilmp
  | .nilfn, _ => fun _ v h _ => by cases h; exact .nilfn
  | .nilif, _ => fun _ v h _ => by cases h; exact .nilif
  | .fnb _ _, h => by cases h
  | .ro cs, h => by cases h
  | .sl z es, h => by
    obtain rfl : es = [] := by simpa [PV.scB] using h
    intro g v hv g'
    cases hv with
    | slE => exact .slE _ _ _
    | sl b o len cap z a es vs ha hl hc hz hm hr => 
      obtain rfl : len = 0 := by simpa using hl.symm
      exact .slE _ _ _
  | .agg cs, h => scalar_agg (PV.scsB_ok cs h)
  | .tup cs, h => scalar_tup (PV.scsB_ok cs h)
  | .fn f a b, h => by cases h
  | .ifc t v, h => by cases h
  | .loc _ _ _, h => by cases h
  | .own _ _ _, h => by cases h
  | .mp _, h => by cases h
  | .rmp _, h => by cases h
theorem PV.scsB_ok : ∀ (l : List PV), PV.scsB l = true → ∀ x ∈ l, Scalar x
  | [], _ => fun x hx => by cases hx
  | p :: r, h => by
    simp only [PV.scsB, Bool.and_eq_true] at h
    intro x hx
    rcases List.mem_cons.1 hx with hp | hx
    · rw [hp]; exact PV.scB_ok p h.1
    · exact PV.scsB_ok r h.2 x hx
end

/-! ### a value seen once all is frozen, to the ground -/
def optL (f : PV → Option PV) : List PV → Option (List PV)
  | [] => some []
  | p :: r => match f p with
    | some q => match optL f r with
      | some s => some (q :: s)
      | none => none
    | none => none
def optLL (f : PV → Option PV) : List (List PV) → Option (List (List PV))
  | [] => some []
  | p :: r => match optL f p with
    | some q => match optLL f r with
      | some s => some (q :: s)
      | none => none
    | none => none
def optP (f : PV → Option PV) : List (PV × PV) → Option (List (PV × PV))
  | [] => some []
  | p :: r => match f p.1, f p.2 with
    | some a, some b => match optP f r with
      | some s => some ((a, b) :: s)
      | none => none
    | _, _ => none
theorem optP_ok {f : PV → Option PV} : ∀ {l q : List (PV × PV)}, optP f l = some q → l.length = q.length ∧ ∀ (i : Nat) (a b : PV × PV), l[i]? = some a → q[i]? = some b → f a.1 = some b.1 ∧ f a.2 = some b.2
  | [], q, h => by simp only [optP, Option.some.injEq] at h; subst h; exact ⟨rfl, fun i a b ha => by simp at ha⟩
  | p :: r, q, h => by
    simp only [optP] at h
    split at h
    · rename_i x y hx hy
      split at h
      · rename_i s hs
        simp only [Option.some.injEq] at h; subst h
        obtain ⟨h1, h2⟩ := optP_ok hs
        refine ⟨by simp [h1], fun i a b ha hb => ?_⟩
        cases i with
        | zero =>
          simp only [List.getElem?_cons_zero, Option.some.injEq] at ha hb
          subst ha; subst hb
          exact ⟨hx, hy⟩
        | succ i => exact h2 i a b (by simpa using ha) (by simpa using hb)
      · cases h
    · cases h
theorem optL_ok {f : PV → Option PV} : ∀ {l q : List PV}, optL f l = some q → l.length = q.length ∧ ∀ j, j < q.length → f (PV.nth l j) = some (PV.nth q j)
  | [], q, h => by simp only [optL, Option.some.injEq] at h; subst h; exact ⟨rfl, fun j hj => by simp at hj⟩
  | p :: r, q, h => by
    simp only [optL] at h
    split at h
    · rename_i x hx
      split at h
      · rename_i s hs
        simp only [Option.some.injEq] at h; subst h
        obtain ⟨h1, h2⟩ := optL_ok hs
        refine ⟨by simp [h1], fun j hj => ?_⟩
        cases j with
        | zero => exact hx
        | succ j => exact h2 j (by simpa using hj)
      · cases h
    · cases h
theorem optLL_ok {f : PV → Option PV} : ∀ {l q : List (List PV)}, optLL f l = some q → l.length = q.length ∧ ∀ i, i < q.length → (PV.row l i).length = (PV.row q i).length ∧ ∀ j, j < (PV.row q i).length → f (PV.nth (PV.row l i) j) = some (PV.nth (PV.row q i) j)
  | [], q, h => by simp only [optLL, Option.some.injEq] at h; subst h; exact ⟨rfl, fun j hj => by simp at hj⟩
  | p :: r, q, h => by
    simp only [optLL] at h
    split at h
    · rename_i x hx
      split at h
      · rename_i s hs
        simp only [Option.some.injEq] at h; subst h
        obtain ⟨h1, h2⟩ := optLL_ok hs
        refine ⟨by simp [h1], fun j hj => ?_⟩
        cases j with
        | zero => exact optL_ok hx
        | succ j => exact h2 j (by simpa using hj)
      · cases h
    · cases h
def viewD (h : Heap) : Nat → PV → Option PV
  | 0, _ => none
  | n + 1, p => bif p.clB then some p else match p with
    | .own id off len => (match h.get id with
      | some (.arr _ z es) => bif Nat.ble (off + len) es.length then (match optLL (viewD h n) ((es.drop off).take len) with
        | some q => some (.sl z q)
        | none => none) else none
      | _ => none)
    | .sl z es => (match optLL (viewD h n) es with
        | some q => some (.sl z q)
        | none => none)
    | .agg cs => (match optL (viewD h n) cs with
        | some q => some (.agg q)
        | none => none)
    | .tup cs => (match optL (viewD h n) cs with
        | some q => some (.tup q)
        | none => none)
    | .loc id i off => (match h.get id with
      | some (.arr _ _ es) => bif Nat.blt i es.length then (match optL (viewD h n) ((PV.row es i).drop off) with
        | some q => some (.ro q)
        | none => none) else none
      | _ => none)
    | .mp id => (match h.get id with
      | some (.map es) => (match optP (viewD h n) es with
        | some q => some (.rmp q)
        | none => none)
      | _ => none)
    | _ => none
theorem viewD_ok {h : Heap} : ∀ {n : Nat} {p q : PV}, viewD h n p = some q → View h p q
  | 0, _, _, e => by cases e
  | n + 1, p, q, e => by
    simp only [viewD] at e
    cases hc : p.clB with
    | true => rw [hc] at e; simp only [cond_true, Option.some.injEq] at e; subst e; exact View.refl _ _
    | false =>
      rw [hc] at e
      simp only [cond_false] at e
      split at e
      · rename_i id off len
        split at e
        case h_2 => cases e
        rename_i fz z es hg
        cases hb : Nat.ble (off + len) es.length with
        | false => rw [hb] at e; cases e
        | true =>
          rw [hb] at e
          simp only [cond_true] at e
          split at e
          case h_2 => cases e
          rename_i q' hq
          simp only [Option.some.injEq] at e; subst e
          have hle : off + len ≤ es.length := Nat.le_of_ble_eq_true hb
          obtain ⟨l1, l2⟩ := optLL_ok hq
          have hl : q'.length = len := by rw [← l1]; simp; omega
          intro g w v r hv
          cases hv with
          | ownE ao =>
            have : q' = [] := List.eq_nil_of_length_eq_zero hl
            subst this; exact .slE _ _ _
          | own _ _ _ cap b o n' z' a hb ha hc hn =>
            subst ha
            rcases r.blk id _ hg with ⟨hb0, _⟩ | ⟨b', o', n'', z'', hb', hlt, hlive, hok⟩
            · rw [hb] at hb0; cases hb0
            · rw [hb] at hb'
              simp only [Option.some.injEq, Prod.mk.injEq] at hb'
              obtain ⟨rfl, rfl, rfl, rfl⟩ := hb'
              obtain ⟨rfl, hz, hle', c, ty, h1, h2, h3⟩ := hok
              have hrow : ∀ i, i < len → PV.row ((es.drop off).take len) i = PV.row es (off + i) := fun i hi => by rw [row_take _ _ _ hi, row_drop]
              refine .sl b (o + off * z) len cap z _ _ (fun i j => c.getD (o + (off + i) * z + j) Go.undef) rfl hl hc (fun i hi => ?_) (fun i j hi hj => ?_) (fun i j hi hj => ?_)
              · rw [← (l2 i (by omega)).1, hrow i hi]; exact hz _ (by omega)
              · obtain ⟨e1, e2, e3⟩ := h3 (off + i) j (by omega) hj
                have e4 : o + off * z + i * z + j = o + (off + i) * z + j := by rw [Nat.add_mul]; omega
                rw [e4]
                cases fz
                · have hin : o + (off + i) * z + j < c.size := by
                    have := rows_bound (n := es.length) (z := z) (show off + i < es.length by omega) hj
                    omega
                  exact frzM_new ((hlive rfl).1 _) hg hb rfl (by simp [World.cell?, h1, hin, Array.getD]) e1
                · exact frzM_old (e3 rfl)
              · obtain ⟨e1, e2, e3⟩ := h3 (off + i) j (by omega) hj
                have hj' : j < (PV.row q' i).length := by rw [← (l2 i (by omega)).1, hrow i hi, hz _ (by omega)]; exact hj
                have hv := viewD_ok ((l2 i (by omega)).2 j hj')
                rw [hrow i hi] at hv
                exact hv g w _ r e2
      · rename_i z es
        split at e
        case h_2 => cases e
        rename_i q' hq
        simp only [Option.some.injEq] at e; subst e
        obtain ⟨l1, l2⟩ := optLL_ok hq
        intro g w v r hv
        cases hv with
        | slE ao =>
          have : q' = [] := List.eq_nil_of_length_eq_zero (by rw [← l1]; rfl)
          subst this; exact .slE _ _ _
        | sl b o len cap z a es vs ha hl hc hz hm hr =>
          refine .sl b o len cap z a _ vs ha (by omega) hc (fun i hi => ?_) (fun i j hi hj => frzM_old (hm i j hi hj)) (fun i j hi hj => ?_)
          · rw [← (l2 i (by omega)).1]; exact hz i hi
          · have hj' : j < (PV.row q' i).length := by rw [← (l2 i (by omega)).1, hz i hi]; exact hj
            exact viewD_ok ((l2 i (by omega)).2 j hj') g w _ r (hr i j hi hj)
      · rename_i cs
        split at e
        case h_2 => cases e
        rename_i q' hq
        simp only [Option.some.injEq] at e; subst e
        obtain ⟨l1, l2⟩ := optL_ok hq
        intro g w v r hv
        obtain ⟨vs, rfl, hs, ho, hr⟩ := hv.agg_inv
        exact .agg _ _ (by omega) (fun j hj => ho j (by omega)) (fun j hj => viewD_ok (l2 j hj) g w _ r (hr j (by omega)))
      · rename_i cs
        split at e
        case h_2 => cases e
        rename_i q' hq
        simp only [Option.some.injEq] at e; subst e
        obtain ⟨l1, l2⟩ := optL_ok hq
        intro g w v r hv
        obtain ⟨vs, rfl, hs, hr⟩ := hv.tup_inv
        exact .tup _ _ (by omega) (fun j hj => viewD_ok (l2 j hj) g w _ r (hr j (by omega)))
      · rename_i id i off
        split at e
        case h_2 => cases e
        rename_i fz z es hg
        cases hb : Nat.blt i es.length with
        | false => rw [hb] at e; cases e
        | true =>
          rw [hb] at e
          simp only [cond_true] at e
          split at e
          case h_2 => cases e
          rename_i q' hq
          simp only [Option.some.injEq] at e; subst e
          have hi : i < es.length := Nat.le_of_ble_eq_true hb
          obtain ⟨l1, l2⟩ := optL_ok hq
          intro g w v r hv
          cases hv with
          | loc _ _ _ b o n' z' a hb ha =>
            subst ha
            rcases r.blk id _ hg with ⟨hb0, _⟩ | ⟨b', o', n'', z'', hb', hlt, hlive, hok⟩
            · rw [hb] at hb0; cases hb0
            · rw [hb] at hb'
              simp only [Option.some.injEq, Prod.mk.injEq] at hb'
              obtain ⟨rfl, rfl, rfl, rfl⟩ := hb'
              obtain ⟨rfl, hz, hle', c, ty, h1, h2, h3⟩ := hok
              have hlen : q'.length = z - off := by rw [← l1, List.length_drop, hz i hi]
              have hnth : ∀ j, PV.nth ((PV.row es i).drop off) j = PV.nth (PV.row es i) (off + j) := fun j => by simp [PV.nth, List.getD_eq_getElem?_getD]
              refine .ro b (o + i * z + off) _ q' (fun j => c.getD (o + i * z + (off + j)) Go.undef) rfl (fun j hj => ?_) (fun j hj => ?_)
              · obtain ⟨e1, e2, e3⟩ := h3 i (off + j) hi (by omega)
                rw [Nat.add_assoc]
                cases fz
                · have hin : o + i * z + (off + j) < c.size := by
                    have := rows_bound (n := es.length) (z := z) hi (j := off + j) (by omega)
                    omega
                  exact frzM_new ((hlive rfl).1 _) hg hb rfl (by simp [World.cell?, h1, hin, Array.getD]) e1
                · exact frzM_old (e3 rfl)
              · obtain ⟨e1, e2, e3⟩ := h3 i (off + j) hi (by omega)
                have hv := viewD_ok (l2 j hj)
                rw [hnth] at hv
                exact hv g w _ r e2
      · rename_i id
        split at e
        case h_2 => cases e
        rename_i es hg
        split at e
        case h_2 => cases e
        rename_i q' hq
        simp only [Option.some.injEq] at e; subst e
        obtain ⟨l1, l2⟩ := optP_ok hq
        exact View.map hg l1 fun i a b ha hb => ⟨viewD_ok (l2 i a b ha hb).1, viewD_ok (l2 i a b ha hb).2⟩
      · cases e
theorem views_ok {h : Heap} {n : Nat} : ∀ {l q : List PV}, optL (viewD h n) l = some q → Views h l q
  | [], q, e => by simp only [optL, Option.some.injEq] at e; subst e; trivial
  | p :: r, q, e => by
    simp only [optL] at e
    split at e
    · rename_i x hx
      split at e
      · rename_i s hs
        simp only [Option.some.injEq] at e; subst e
        exact ⟨viewD_ok hx, views_ok hs⟩
      · cases e
    · cases e
end Go.VM


namespace Go.VM
open Go

/-! ### one step -/
def isByteB : List PV → Bool
  | [.int .u8 _] => true
  | _ => false
theorem isByteB_ok {r : List PV} (H : isByteB r = true) : isByte r := by
  unfold isByteB at H
  split at H
  · trivial
  · cases H
def bytesOkB (h : Heap) : PV → Bool
  | .nilsl => true
  | .sl z es => Nat.beq z 1 && es.all isByteB
  | .own id off len => (match h.get id with
    | some (.arr _ z es) => Nat.beq z 1 && Nat.ble (off + len) es.length && ((es.drop off).take len).all isByteB
    | _ => false)
  | _ => false
theorem bytesOkB_ok {h : Heap} {p : PV} (H : bytesOkB h p = true) : bytesOk h p := by
  unfold bytesOkB at H
  split at H
  · trivial
  · simp only [Bool.and_eq_true, List.all_eq_true] at H
    exact ⟨Nat.eq_of_beq_eq_true H.1, fun r hr => isByteB_ok (H.2 r hr)⟩
  · simp only [bytesOk]
    split at H
    · rename_i e
      simp only [e]
      simp only [Bool.and_eq_true, List.all_eq_true, Nat.ble_eq] at H
      exact ⟨Nat.eq_of_beq_eq_true H.1.1, H.1.2, fun r hr => isByteB_ok (H.2 r hr)⟩
    · cases H
  · cases H
def pxOkB (h : Heap) : PX → List PV → Bool
  | .b2s, [a] => bytesOkB h a
  | .nck, [a] => isPtr a
  | .unx, [a] => isIntB a
  | .isnil _, [a] => isNil a || notNil a
  | _, _ => false
theorem pxOkB_ok {h : Heap} {k : PX} {l : List PV} (H : pxOkB h k l = true) : pxOk h k l := by
  unfold pxOkB at H
  split at H
  · exact bytesOkB_ok H
  · exact H
  · exact isIntB_ok H
  · simpa [pxOk] using H
  · cases H
def fxOkB (h : Heap) : FX → List PV → Bool
  | .slice0 z, [a] => (match a with
    | .nilsl | .sl _ _ => true
    | .own _ _ _ => true
    | _ => false)
  | .mk0 _, [] => true
  | .clear z zr, [a] => (match a with
    | .nilsl => true
    | .own id off len => (match h.get id with
      | some (.arr fz z' es) => !fz && Nat.beq z' z && Nat.ble (off + len) es.length && Nat.beq zr.length z
      | _ => false)
    | _ => false)
  | _, _ => false
theorem fxOkB_ok {h : Heap} {k : FX} {l : List PV} (H : fxOkB h k l = true) : fxOk h k l := by
  unfold fxOkB at H
  split at H
  · simp only [fxOk]
    split at H <;> first | trivial | cases H
  · trivial
  · simp only [fxOk]
    split at H
    · trivial
    · split at H
      · rename_i e
        simp only [e]
        simp only [Bool.and_eq_true, Bool.not_eq_true', Nat.ble_eq] at H
        exact ⟨H.1.1.1, Nat.eq_of_beq_eq_true H.1.1.2, H.1.2, Nat.eq_of_beq_eq_true H.2⟩
      · cases H
    · cases H
  · cases H
theorem fxV_heap {h : Heap} (ok : HOk h) (k : FX) (l : List PV) : HOk (fxV h k l).2 ∧ h.top ≤ (fxV h k l).2.top := by
  unfold fxV
  split
  · exact ⟨ok.push _, Nat.le_succ _⟩
  · exact ⟨ok.push _, Nat.le_succ _⟩
  · simp only
    split
    · exact ⟨ok.set _ _, Nat.le_refl _⟩
    · exact ⟨ok, Nat.le_refl _⟩
  · exact ⟨ok, Nat.le_refl _⟩
def pokB (h : Heap) : VOp → Bool
  | .mv _ => true
  | .pick c _ _ => isBoolB (c.ev [])
  | .build zr ps => fillOkB [] zr.length ps
  | .load g s a => locOkB h (a.ev []) && Nat.ble s (locCells h (a.ev [])).length && (g || Nat.beq s 1)
  | .bin op a b => binOkB op (a.ev []) (b.ev [])
  | .binb op a b => binbOkB op (a.ev []) (b.ev [])
  | .strid a => isStrB (a.ev [])
  | .eqs _ ks a b => isAggB (a.ev []) && isAggB (b.ev []) && eqOkB ks (cellsOfAgg (a.ev [])) (cellsOfAgg (b.ev []))
  | .un op a => unOkB op (a.ev [])
  | .conv _ a => isIntB (a.ev [])
  | .mkfn _ _ _ => true
  | .slice st z a lo hi => sliceOkB st z h (a.ev []) (lo.map (VA.ev [])) (hi.map (VA.ev []))
  | .faddr _ a => isAddrB (a.ev [])
  | .fld g off s a => isAggB (a.ev []) && Nat.ble (off + s) (cellsOfAgg (a.ev [])).length && (g || Nat.beq s 1)
  | .iaddr z a i => iaddrOkB z h (a.ev []) (i.ev [])
  | .idx a i => idxOkB (a.ev []) (i.ev [])
  | .ext a i => extOkB i (a.ev [])
  | .len st a => lenOkB st (a.ev [])
  | .lookup kk _ _ m k => mapOkB h (m.ev []) && keysOkB kk (k.ev []) (mapRows h (m.ev []))
  | .mlen m => mapOkB h (m.ev [])
  | .mm _ [a, b] => isIntB (a.ev []) && isIntB (b.ev [])
  | .px k l => pxOkB h k (l.map (VA.ev []))
  | _ => false
theorem gs_ok {g : Bool} {s : Nat} (h : (g || Nat.beq s 1) = true) : g = false → s = 1 := by
  rintro rfl; exact Nat.eq_of_beq_eq_true (by simpa using h)
theorem pokB_ok {h : Heap} {op : VOp} (H : pokB h op = true) : pok [] h op := by
  cases op <;> simp only [pokB, Bool.false_eq_true] at H
  case mv a => trivial
  case pick c a b => exact isBoolB_ok H
  case build zr ps => exact fillOkB_ok H
  case load g s a =>
    simp only [Bool.and_eq_true] at H
    exact ⟨locOkB_ok H.1.1, Nat.le_of_ble_eq_true H.1.2, gs_ok H.2⟩
  case bin op a b => exact binOkB_ok H
  case binb op a b => exact binbOkB_ok H
  case strid a => exact isStrB_ok H
  case eqs n ks a b =>
    simp only [Bool.and_eq_true] at H
    exact ⟨isAggB_ok H.1.1, isAggB_ok H.1.2, eqOkB_ok H.2⟩
  case un op a => exact unOkB_ok H
  case conv k a => exact isIntB_ok H
  case mkfn f x y => trivial
  case slice st z a lo hi => exact sliceOkB_ok H
  case faddr o a => exact isAddrB_ok H
  case fld g off s a =>
    simp only [Bool.and_eq_true] at H
    exact ⟨isAggB_ok H.1.1, Nat.le_of_ble_eq_true H.1.2, gs_ok H.2⟩
  case iaddr z a i => exact iaddrOkB_ok H
  case idx a i => exact idxOkB_ok H
  case ext a i => exact extOkB_ok H
  case len st a => exact lenOkB_ok H
  case lookup kk zr ok m k =>
    simp only [Bool.and_eq_true] at H
    exact ⟨mapOkB_ok H.1, keysOkB_ok H.2⟩
  case mlen m => exact mapOkB_ok H
  case px k l => exact pxOkB_ok H
  case mm mx l =>
    match l, H with
    | [a, b], H =>
      simp only [Bool.and_eq_true] at H
      exact ⟨isIntB_ok H.1, isIntB_ok H.2⟩
abbrev RX := Option (PV × Heap)
def stepX (h : Heap) (op : VOp) : RX :=
  match op with
  | .alloc zr => some (.loc h.top 0 0, h.push (.arr false zr.length [zr]))
  | .box n a => bif (a.ev []).fits n then some (.loc h.top 0 0, h.push (.arr false n [(a.ev []).cells])) else none
  | .bslice z n zr ps => bif elemsOkB [] z n ps then some (.own h.top 0 n, h.push (.arr false z (elemsV [] (List.replicate n zr) ps))) else none
  | .store s a v => bif storeOkB h s (a.ev []) (v.ev []) then some (.undef, storeV h (a.ev []) (v.ev [])) else none
  | .app z bytes _ str a b => bif oldOkB h z (a.ev []) && srcOkB h str z (b.ev []) && Nat.ble ((oldRows h (a.ev [])).length + (srcRows h (b.ev [])).length) 4611686018427387904 &&
      Nat.ble (((oldRows h (a.ev [])).length + (srcRows h (b.ev [])).length) * bytes) 140737488355328 then
        some (.own h.top 0 ((oldRows h (a.ev [])).length + (srcRows h (b.ev [])).length), (killed h (oldId (a.ev []))).push (.arr false z (oldRows h (a.ev []) ++ srcRows h (b.ev []))))
      else none
  | .mkmap => some (.mp h.top, h.push (.map []))
  | .mapset kk m k v => bif mapHasB h (m.ev []) && keysOkB kk (k.ev []) (mapRows h (m.ev [])) then some (.undef, mapsetV h (m.ev []) (k.ev []) (v.ev [])) else none
  | .fx k l => bif fxOkB h k (l.map (VA.ev [])) then some (fxV h k (l.map (VA.ev []))) else none
  | .nd neg a => bif slLike (a.ev []) then (bif isNil (a.ev []) then some (.bool (true != neg), h) else bif notNil (a.ev []) then some (.bool (false != neg), h) else none) else none
  | .other _ | .call _ _ | .callv _ _ => none
  | op => bif pokB h op then some (pval [] h op, h) else none
theorem of_bif {b : Bool} {α : Type} {x : Option α} {y : α} (h : (bif b then x else none) = some y) : b = true ∧ x = some y := by
  cases b
  · cases h
  · exact ⟨rfl, h⟩
theorem storeV_ok {h : Heap} (ok : HOk h) (a v : PV) : HOk (storeV h a v) := by
  unfold storeV
  split
  · split
    · exact ok.set _ _
    · exact ok
  · exact ok
theorem storeV_top (h : Heap) (a v : PV) : (storeV h a v).top = h.top := by
  unfold storeV
  split
  · split <;> rfl
  · rfl
theorem mapsetV_ok {h : Heap} (ok : HOk h) (m k v : PV) : HOk (mapsetV h m k v) := by
  unfold mapsetV
  split
  · exact ok.set _ _
  · exact ok
theorem mapsetV_top (h : Heap) (m k v : PV) : (mapsetV h m k v).top = h.top := by
  unfold mapsetV
  split <;> rfl
theorem stepX_ok {P : Program} {h : Heap} {op : VOp} {v : PV} {h' : Heap} {K : PV → Heap → Prop} (H : stepX h op = some (v, h')) (ok : HOk h) : (K v h' → StepW P [] h op K) ∧ HOk h' ∧ h.top ≤ h'.top := by
  have pure : op.pure = true → (bif pokB h op then some (pval [] h op, h) else none) = some (v, h') → (K v h' → StepW P [] h op K) ∧ HOk h' ∧ h.top ≤ h'.top := by
    intro hp H
    obtain ⟨h1, h2⟩ := of_bif H
    simp only [Option.some.injEq, Prod.mk.injEq] at h2
    obtain ⟨rfl, rfl⟩ := h2
    refine ⟨fun hk => ?_, ok, Nat.le_refl _⟩
    have := pokB_ok h1
    cases op <;> first | exact ⟨this, hk⟩ | simp [VOp.pure] at hp
  cases op <;> simp only [stepX] at H <;> first | exact pure rfl H | (cases H; done) | skip
  case alloc zr =>
    simp only [Option.some.injEq, Prod.mk.injEq] at H
    obtain ⟨rfl, rfl⟩ := H
    exact ⟨fun hk => hk, ok.push _, Nat.le_succ _⟩
  case box n a =>
    obtain ⟨h1, h2⟩ := of_bif H
    simp only [Option.some.injEq, Prod.mk.injEq] at h2
    obtain ⟨rfl, rfl⟩ := h2
    exact ⟨fun hk => ⟨h1, hk⟩, ok.push _, Nat.le_succ _⟩
  case bslice z n zr ps =>
    obtain ⟨h1, h2⟩ := of_bif H
    simp only [Option.some.injEq, Prod.mk.injEq] at h2
    obtain ⟨rfl, rfl⟩ := h2
    exact ⟨fun hk => ⟨elemsOkB_ok h1, hk⟩, ok.push _, Nat.le_succ _⟩
  case store s a v' =>
    obtain ⟨h1, h2⟩ := of_bif H
    simp only [Option.some.injEq, Prod.mk.injEq] at h2
    obtain ⟨rfl, rfl⟩ := h2
    exact ⟨fun hk => ⟨storeOkB_ok h1, hk⟩, storeV_ok ok _ _, by rw [storeV_top]; exact Nat.le_refl _⟩
  case app z bytes zr str a b =>
    obtain ⟨h1, h2⟩ := of_bif H
    simp only [Option.some.injEq, Prod.mk.injEq] at h2
    obtain ⟨rfl, rfl⟩ := h2
    simp only [Bool.and_eq_true] at h1
    refine ⟨fun hk => ⟨oldOkB_ok h1.1.1.1, srcOkB_ok h1.1.1.2, Nat.le_of_ble_eq_true h1.1.2, Nat.le_of_ble_eq_true h1.2, hk⟩, (ok.killed _).push _, ?_⟩
    show h.top ≤ (killed h _).top + 1
    rw [killed_top]; omega
  case mkmap =>
    simp only [Option.some.injEq, Prod.mk.injEq] at H
    obtain ⟨rfl, rfl⟩ := H
    exact ⟨fun hk => hk, ok.push _, Nat.le_succ _⟩
  case fx k l =>
    obtain ⟨h1, h2⟩ := of_bif H
    simp only [Option.some.injEq] at h2
    have hh := fxV_heap ok k (l.map (VA.ev []))
    have e1 : (fxV h k (l.map (VA.ev []))).1 = v := by rw [h2]
    have e2 : (fxV h k (l.map (VA.ev []))).2 = h' := by rw [h2]
    rw [e2] at hh
    exact ⟨fun hk => ⟨fxOkB_ok h1, by rw [e1, e2]; exact hk⟩, hh⟩
  case nd neg a =>
    obtain ⟨h1, h2⟩ := of_bif H
    cases hn : isNil (a.ev []) with
    | true =>
      rw [hn] at h2
      simp only [cond_true, Option.some.injEq, Prod.mk.injEq] at h2
      obtain ⟨rfl, rfl⟩ := h2
      refine ⟨fun hk => ⟨h1, fun b b1 _ => ?_⟩, ok, Nat.le_refl _⟩
      rw [b1 hn]; exact hk
    | false =>
      rw [hn] at h2
      simp only [cond_false] at h2
      obtain ⟨h3, h2⟩ := of_bif h2
      simp only [Option.some.injEq, Prod.mk.injEq] at h2
      obtain ⟨rfl, rfl⟩ := h2
      refine ⟨fun hk => ⟨h1, fun b _ b2 => ?_⟩, ok, Nat.le_refl _⟩
      rw [b2 h3]; exact hk
  case mapset kk m k v' =>
    obtain ⟨h1, h2⟩ := of_bif H
    simp only [Option.some.injEq, Prod.mk.injEq] at h2
    obtain ⟨rfl, rfl⟩ := h2
    simp only [Bool.and_eq_true] at h1
    exact ⟨fun hk => ⟨mapHasB_ok h1.1, keysOkB_ok h1.2, hk⟩, mapsetV_ok ok _ _ _, by rw [mapsetV_top]; exact Nat.le_refl _⟩

/-! ### a region in its written order -/
abbrev CX := Nat → List PV → Heap → RX
def opX (call : CX) (h : Heap) (op : VOp) : RX :=
  match op with
  | .call f l => call f (l.map (VA.ev [])) h
  | .callv f l => (match f.ev [] with
    | .fn (.func f) a b => call f (a ++ l.map (VA.ev []) ++ b) h
    | _ => none)
  | op => stepX h op
def CallOk (P : Program) (call : CX) : Prop := ∀ f args h v h', call f args h = some (v, h') → HOk h → (∀ K : PV → Heap → Prop, K v h' → ACall P f args h K) ∧ HOk h' ∧ h.top ≤ h'.top
theorem opX_ok {P : Program} {call : CX} (hc : CallOk P call) {h : Heap} {op : VOp} {v : PV} {h' : Heap} {K : PV → Heap → Prop} (H : opX call h op = some (v, h')) (ok : HOk h) : (K v h' → StepW P [] h op K) ∧ HOk h' ∧ h.top ≤ h'.top := by
  cases op <;> simp only [opX] at H <;> first | exact stepX_ok H ok | skip
  case call f l =>
    obtain ⟨h1, h2⟩ := hc _ _ _ _ _ H ok
    exact ⟨fun hk => h1 K hk, h2⟩
  case callv f l =>
    split at H
    · rename_i f' a b hf
      obtain ⟨h1, h2⟩ := hc _ _ _ _ _ H ok
      exact ⟨fun hk => by simp only [StepW, hf]; exact h1 K hk, h2⟩
    · cases H
theorem opX_closed {call : CX} {h : Heap} {op : VOp} {r : PV × Heap} (H : opX call h op = some r) : op.closed = true := by
  cases op <;> first | rfl | (simp only [opX, stepX] at H; cases H)
theorem res_closed (t : Tr) (op : VOp) : (op.res t).closed = op.closed := by cases op <;> rfl
def putO (t : Tr) (d : Option Nat) (v : PV) : Tr := match d with | some d => Tr.put 10 t d v | none => t
def guardX (t : Tr) : Option (Nat × Bool) → Option Bool
  | none => some true
  | some (d, want) => guardOf want (t.get d)
def opsX (call : CX) : List VOper → Tr → Heap → Option (Tr × Heap)
  | [], t, h => some (t, h)
  | o :: r, t, h => match guardX t o.guard with
    | some true => (match opX call h (o.op.res t) with
      | some (v, h') => opsX call r (putO t o.dst v) h'
      | none => none)
    | some false => opsX call r (putO t o.dst .undef) h
    | none => none
def SimN (N : Nat) (t : Tr) (e : Env) : Prop := Sim t e ∧ ∀ k, N ≤ k → e.get k = .any
theorem SimN.put {N : Nat} (hN : N ≤ 1000) {t : Tr} {e : Env} (hs : SimN N t e) {d : Option Nat} (hd : ∀ k, d = some k → k < N) (v : PV) : SimN N (putO t d v) (e.put d v) := by
  cases d with
  | none => exact hs
  | some d =>
    have hlt := hd d rfl
    refine ⟨fun n => ?_, fun k hk => ?_⟩
    · simp only [putO, Env.put, Env.get]
      rw [Tr.get_put 10 t d n v (by have : (2 : Nat) ^ 10 = 1024 := by decide
                                    omega), hs.1 n]
    · simp only [Env.put, Env.get]
      rw [if_neg (by omega)]; exact hs.2 k hk
def DstOk (N : Nat) (q : List VOper) : Prop := ∀ o ∈ q, ∀ d, o.dst = some d → d < N
theorem opsX_ok {P : Program} {call : CX} (hc : CallOk P call) {N : Nat} (hN : N ≤ 1000) : ∀ {q : List VOper} {t : Tr} {e : Env} {h : Heap} {t' : Tr} {h' : Heap} {K : Env → Heap → Prop}, opsX call q t h = some (t', h') → DstOk N q → SimN N t e → HOk h →
    ((∀ e', SimN N t' e' → K e' h') → OpsW P q K e h) ∧ HOk h' ∧ h.top ≤ h'.top
  | [], t, e, h, t', h', K, H, _, hs, ok => by
    simp only [opsX, Option.some.injEq, Prod.mk.injEq] at H
    obtain ⟨rfl, rfl⟩ := H
    exact ⟨fun hk => hk e hs, ok, Nat.le_refl _⟩
  | ⟨dst, op, gd⟩ :: r, t, e, h, t', h', K, H, hd, hs, ok => by
    have hdst := hd _ (List.mem_cons_self ..)
    have hdr : DstOk N r := fun o ho => hd o (List.mem_cons_of_mem _ ho)
    have skip : opsX call r (putO t dst .undef) h = some (t', h') → ((∀ e', SimN N t' e' → K e' h') → OpsW P r K (e.put dst .undef) h) ∧ HOk h' ∧ h.top ≤ h'.top :=
      fun H => opsX_ok hc hN H hdr (hs.put hN hdst _) ok
    have run : ∀ v h1, opX call h (op.res t) = some (v, h1) → opsX call r (putO t dst v) h1 = some (t', h') →
        ((∀ e', SimN N t' e' → K e' h') → StepW P e h op (fun v h' => OpsW P r K (e.put dst v) h')) ∧ HOk h' ∧ h.top ≤ h'.top := by
      intro v h1 H1 H2
      have hcl := opX_closed H1
      rw [res_closed] at hcl
      obtain ⟨s1, s2, s3⟩ := opX_ok (K := fun v h' => OpsW P r K (e.put dst v) h') hc H1 ok
      obtain ⟨i1, i2, i3⟩ := opsX_ok (K := K) hc hN H2 hdr (hs.put hN hdst v) s2
      exact ⟨fun hk => StepW_res hs.1 (s1 (i1 hk)) hcl, i2, Nat.le_trans s3 i3⟩
    simp only [opsX] at H
    cases gd with
    | none =>
      simp only [guardX] at H
      split at H
      · rename_i v h1 H1
        obtain ⟨a, b⟩ := run v h1 H1 H
        exact ⟨fun hk => by rw [OpsW_n]; exact a hk, b⟩
      · cases H
    | some dw =>
      obtain ⟨d, want⟩ := dw
      simp only [guardX] at H
      rw [hs.1 d] at H
      cases hg : guardOf want (e.get d) with
      | none => rw [hg] at H; cases H
      | some c =>
        rw [hg] at H
        cases c with
        | false =>
          simp only at H
          obtain ⟨a, b⟩ := skip H
          exact ⟨fun hk => by simp only [OpsW, hg, GuardW_false]; exact a hk, b⟩
        | true =>
          simp only at H
          split at H
          · rename_i v h1 H1
            obtain ⟨a, b⟩ := run v h1 H1 H
            exact ⟨fun hk => by simp only [OpsW, hg, GuardW_true]; exact a hk, b⟩
          · cases H
theorem cCode_dst {P : Program} {N : Nat} {c : Code} {vc : VC} (hc : cCode P N c = some vc) : ∀ q, (∃ d, vc = .region q d) ∨ (∃ l, vc = .draw2 q l) → DstOk N q := by
  intro q hv
  have key : ∀ (ops : Array Oper), cOpers P N ops ops.toList = some q → DstOk N q := by
    intro ops h3 o ho d hd
    obtain ⟨hlen, hget⟩ := cOpers_get h3
    obtain ⟨i, hi, rfl⟩ := List.mem_iff_getElem.1 ho
    obtain ⟨vo, k1, _, k3, _, k5⟩ := hget i (ops.toList[i]'(by omega)) (by simp)
    rw [List.getElem?_eq_getElem hi] at k1
    simp only [Option.some.injEq] at k1; subst k1
    exact k5 d (by rw [← k3]; exact hd)
  cases c
  case region id ops draw =>
    obtain ⟨p, h3, h | h | h⟩ := cCode_region hc
    · obtain ⟨_, rfl⟩ := h
      rcases hv with ⟨d, h⟩ | ⟨l, h⟩
      · simp only [VC.region.injEq] at h; obtain ⟨rfl, _⟩ := h; exact key ops h3
      · cases h
    · obtain ⟨_, _, ⟨_, rfl⟩ | rfl⟩ := h
      · rcases hv with ⟨d, h⟩ | ⟨l, h⟩
        · simp only [VC.region.injEq] at h; obtain ⟨rfl, _⟩ := h; exact key ops h3
        · cases h
      · rcases hv with ⟨d, h⟩ | ⟨l, h⟩
        · cases h
        · simp only [VC.draw2.injEq] at h; obtain ⟨rfl, _⟩ := h; exact key ops h3
    · obtain ⟨c, rfl⟩ := h
      rcases hv with ⟨d, h⟩ | ⟨l, h⟩ <;> cases h
  all_goals
    exfalso
    rcases hv with ⟨d, rfl⟩ | ⟨l, rfl⟩ <;>
    · simp only [cCode, Option.map_eq_some_iff] at hc
      first
      | (simp at hc; done)
      | (split at hc <;> simp at hc)
theorem VW_regionX {P : Program} {N : Nat} {Q : Exit → Env → Heap → Prop} {e : Env} {h : Heap} {q : List VOper} (H : DstOk N q → OpsW P q (fun e' h' => Q .normal e' h') e h) : VW P N (.region q false) Q e h := by
  intro c hc
  have hdst := cCode_dst hc q (.inl ⟨_, rfl⟩)
  cases c
  case region id ops draw =>
    obtain ⟨p, h3, h' | h' | h'⟩ := cCode_region hc
    · obtain ⟨rfl, h'⟩ := h'
      simp only [VC.region.injEq, and_true] at h'
      subst h'
      intro g w a r he hd hs
      apply wp_region
      have := ops_sound (P := P) (N := N) (ops := ops) (Q := fun x a' w' => ∃ g' e' h', Q x e' h' ∧ Rel g' w' h' ∧ EnvRep g' a' e' ∧ a'.defers = [] ∧ a'.tmps.size = N ∧ Evo g w h g' w' h') (K := fun e' h' => Q .normal e' h') (g0 := g) (w0 := w) (h0 := h)
        (fun g' w' h' a' e' k1 k2 k3 k4 k5 k6 => ⟨g', _, h', k1, k2, k3, k4, k5, k6⟩) ops.toList q 0 e h (fun j => by simp) h3 (H hdst) g w a r he hd hs (Evo.refl _ _ _)
      simpa using this
    · rcases h'.2.2 with ⟨_, h'⟩ | h' <;> simp at h'
    · obtain ⟨c, h'⟩ := h'; cases h'
  all_goals
    simp only [cCode, Option.map_eq_some_iff] at hc
    first
    | (simp at hc; done)
    | (split at hc <;> simp at hc)
end Go.VM


namespace Go.VM
open Go

theorem VW_drawX {P : Program} {N : Nat} {Q : Exit → Env → Heap → Prop} {e : Env} {h : Heap} {q : List VOper} (hq : Heap) (hl : hq.le h)
    (H : DstOk N q → DrawW P hq q (fun e' h' => Q .normal (Env.keep (List.range N) e') h') e h) : VW P N (.region q true) Q e h :=
  fun c hc => VW_draw (List.range N) hq hl (H (cCode_dst hc q (.inl ⟨_, rfl⟩))) c hc
theorem VW_draw2X {P : Program} {N : Nat} {Q : Exit → Env → Heap → Prop} {e : Env} {h : Heap} {q : List VOper} {late : List Bool} (big mid small : Heap) (hl : big.le h) (hls : small.le h) (hm : Shp mid h)
    (H : DstOk N q → DrawG P (hq3 q late big mid small) (zed3 q big mid small) 0 q (fun e' h' => Q .normal (Env.keep (List.range N) e') h') e h) : VW P N (.draw2 q late) Q e h :=
  fun c hc => VW_draw2 (List.range N) big mid small hl hls hm (H (cCode_dst hc q (.inr ⟨_, rfl⟩))) c hc
theorem keep_mem (e : Env) : ∀ (l : List Nat) (t : Nat), (Env.keep l e).get t = if t ∈ l then e.get t else .any
  | [], t => by simp [Env.keep, Env.get]
  | k :: l, t => by
    simp only [Env.keep, Env.get, List.mem_cons]
    by_cases h : k = t
    · subst h; simp
    · rw [if_neg h, keep_mem e l t]
      have : ¬ t = k := fun h' => h h'.symm
      simp [this]
theorem SimN.keep {N : Nat} {t : Tr} {e : Env} (h : SimN N t e) : SimN N t (Env.keep (List.range N) e) := by
  refine ⟨fun n => ?_, fun k hk => ?_⟩
  · rw [keep_mem, h.1 n]
    by_cases hn : n < N
    · simp [hn]
    · rw [h.2 n (by omega)]; simp
  · rw [keep_mem, if_neg (by simpa using hk)]

/-! ### drawn regions -/
theorem HL.le_of : ∀ {l : List (Nat × AB)} {b : Nat} {f : Nat → Option AB}, HL.dec l b → (∀ t ab, HL.get l t = some ab → f t = some ab) → HL.le l f
  | [], _, _, _, _ => trivial
  | (k, v) :: r, b, f, h, hf => by
    refine ⟨hf k v (by simp [HL.get]), HL.le_of h.2 (fun t ab e => hf t ab ?_)⟩
    have hne : k ≠ t := by
      rintro rfl
      rw [HL.get_none h.2 (Nat.le_refl _)] at e; cases e
    simp only [HL.get, if_neg hne]; exact e
def effB (hq : Heap) (op : VOp) : Bool :=
  match op with
  | .store _ a _ => (match a.ev [] with | .loc id _ _ => (hq.get id).isNone | _ => false)
  | .mapset _ m _ _ => (match m.ev [] with | .mp id => (hq.get id).isNone | _ => false)
  | .app _ _ _ _ a _ => (match a.ev [] with | .own id _ _ => (hq.get id).isNone | .nilsl => true | _ => false)
  | .fx (.clear _ _) _ => false
  | _ => true
theorem le_push {hq h : Heap} (okq : HOk hq) (ok : HOk h) (hl : hq.le h) (x : AB) (ht : h.top + 1 ≤ hq.top) : hq.le (h.push x) := by
  refine ⟨ht, HL.le_of okq fun t ab e => ?_⟩
  have e1 := Heap.le_get hl t ab e
  rw [Heap.get_push, if_neg (by
    rintro rfl
    have : h.get h.top = none := HL.get_none ok (Nat.le_refl _)
    rw [this] at e1; cases e1)]
  exact e1
theorem le_set {hq h : Heap} (okq : HOk hq) (hl : hq.le h) (id : Nat) (x : AB) (hn : (hq.get id).isNone = true) : hq.le (h.set id x) := by
  refine ⟨hl.1, HL.le_of okq fun t ab e => ?_⟩
  have e1 := Heap.le_get hl t ab e
  rw [Heap.get_set, if_neg (by
    rintro rfl
    have e' : hq.get id = some ab := e
    rw [e'] at hn; cases hn)]
  exact e1
theorem le_del {hq h : Heap} (okq : HOk hq) (hl : hq.le h) (id : Nat) (hn : (hq.get id).isNone = true) : hq.le (h.del id) := by
  refine ⟨hl.1, HL.le_of okq fun t ab e => ?_⟩
  have e1 := Heap.le_get hl t ab e
  rw [Heap.get_del, if_neg (by
    rintro rfl
    have e' : hq.get id = some ab := e
    rw [e'] at hn; cases hn)]
  exact e1
theorem effB_ok {hq h : Heap} {op : VOp} {v : PV} {h' : Heap} (okq : HOk hq) (ok : HOk h) (hl : hq.le h) (hs : op.simple = true) (H : stepX h op = some (v, h')) (he : effB hq op = true) (ht : h'.top ≤ hq.top) : hq.le h' := by
  cases op <;> simp only [VOp.simple] at hs <;> simp only [stepX] at H <;> first | (cases hs; done) | skip
  case alloc zr =>
    simp only [Option.some.injEq, Prod.mk.injEq] at H
    obtain ⟨rfl, rfl⟩ := H
    exact le_push okq ok hl _ ht
  case box n a =>
    obtain ⟨h1, h2⟩ := of_bif H
    simp only [Option.some.injEq, Prod.mk.injEq] at h2
    obtain ⟨rfl, rfl⟩ := h2
    exact le_push okq ok hl _ ht
  case store s a v' =>
    obtain ⟨h1, h2⟩ := of_bif H
    simp only [Option.some.injEq, Prod.mk.injEq] at h2
    obtain ⟨rfl, rfl⟩ := h2
    simp only [effB] at he
    split at he
    · rename_i id i off hp
      rw [hp]
      simp only [storeV]
      split
      · exact le_set okq hl _ _ he
      · exact hl
    · cases he
  case app z bytes zr str a b =>
    obtain ⟨h1, h2⟩ := of_bif H
    simp only [Option.some.injEq, Prod.mk.injEq] at h2
    obtain ⟨rfl, rfl⟩ := h2
    simp only [effB] at he
    refine le_push okq (ok.killed _) ?_ _ ht
    split at he
    · rename_i id off len hp
      rw [hp]
      exact le_del okq hl _ he
    · rename_i hp
      rw [hp]; exact hl
    · cases he
  case mkmap =>
    simp only [Option.some.injEq, Prod.mk.injEq] at H
    obtain ⟨rfl, rfl⟩ := H
    exact le_push okq ok hl _ ht
  case fx k l =>
    obtain ⟨h1, h2⟩ := of_bif H
    simp only [Option.some.injEq] at h2
    have e2 : (fxV h k (l.map (VA.ev []))).2 = h' := by rw [h2]
    subst e2
    cases k with
    | slice0 z => exact le_push okq ok hl _ ht
    | mk0 z => exact le_push okq ok hl _ ht
    | clear z zr => cases he
  case nd neg a =>
    obtain ⟨h1, h2⟩ := of_bif H
    cases hn : isNil (a.ev []) with
    | true =>
      rw [hn] at h2
      simp only [cond_true, Option.some.injEq, Prod.mk.injEq] at h2
      rw [← h2.2]; exact hl
    | false =>
      rw [hn] at h2
      simp only [cond_false] at h2
      obtain ⟨h3, h2⟩ := of_bif h2
      simp only [Option.some.injEq, Prod.mk.injEq] at h2
      rw [← h2.2]; exact hl
  case mapset kk m k v' =>
    obtain ⟨h1, h2⟩ := of_bif H
    simp only [Option.some.injEq, Prod.mk.injEq] at h2
    obtain ⟨rfl, rfl⟩ := h2
    simp only [effB] at he
    split at he
    · rename_i id hp
      rw [hp]
      exact le_set okq hl _ _ he
    · cases he
def viewFin (h' : Heap) (r : PV) : Option PV :=
  match viewD h' 30 r with
  | some p => bif p.clB then some p else none
  | none => none
def pcallX (call : CX) (hq : Heap) (f : Nat) (args : List PV) : Option PV :=
  bif PV.clsB args then (match call f args Heap.nil with
    | some (r, h') => viewFin h' r
    | none => none)
  else match optL (viewD hq 30) args with
    | some q => bif PV.clsB q then (match call f q Heap.nil with
      | some (r, h') => (match viewFin h' r with
        | some p => bif p.scB then some p else none
        | none => none)
      | none => none) else none
    | none => none
theorem viewFin_ok {h' : Heap} {r p : PV} (H : viewFin h' r = some p) : View h' r p ∧ Closed p := by
  unfold viewFin at H
  split at H
  · rename_i p' hv
    obtain ⟨h1, h2⟩ := of_bif H
    simp only [Option.some.injEq] at h2; subst h2
    exact ⟨viewD_ok hv, PV.clB_ok _ h1⟩
  · cases H
theorem pcall_of {P : Program} {call : CX} (hc : CallOk P call) {f : Nat} {q : List PV} (hcl : PV.clsB q = true) {r p : PV} {h' : Heap} (H : call f q Heap.nil = some (r, h')) (hv : viewFin h' r = some p) : PCall P f q p := by
  obtain ⟨h1, _⟩ := hc _ _ _ _ _ H (show HOk Heap.nil from trivial)
  obtain ⟨v1, v2⟩ := viewFin_ok hv
  exact PCall_intro (h1 _ v1) v2 (PV.clsB_ok _ hcl)
theorem pcallX_ok {P : Program} {call : CX} (hc : CallOk P call) {hq : Heap} {f : Nat} {args : List PV} {p : PV} (H : pcallX call hq f args = some p) : PureCall P f args hq p := by
  unfold pcallX at H
  cases hcl : PV.clsB args with
  | true =>
    rw [hcl] at H
    simp only [cond_true] at H
    split at H
    · rename_i r h' hr
      exact .inl (pcall_of hc hcl hr H)
    · cases H
  | false =>
    rw [hcl] at H
    simp only [cond_false] at H
    split at H
    · rename_i q hq'
      obtain ⟨h1, h2⟩ := of_bif H
      split at h2
      · rename_i r h' hr
        split at h2
        · rename_i p' hp
          obtain ⟨h3, h4⟩ := of_bif h2
          simp only [Option.some.injEq] at h4; subst h4
          exact .inr ⟨q, views_ok hq', pcall_of hc h1 hr hp, PV.scB_ok _ h3⟩
        · cases h2
      · cases h2
    · cases H
def quietX (call : CX) (hq : Heap) (op : VOp) : Option PV :=
  match op with
  | .call f l => pcallX call hq f (l.map (VA.ev []))
  | .callv f l => (match f.ev [] with
    | .fn (.func f) a b => pcallX call hq f (a ++ l.map (VA.ev []) ++ b)
    | _ => none)
  | .bslice z n zr ps => bif elemsOkB [] z n ps then some (.sl z (elemsV [] (List.replicate n zr) ps)) else none
  | op => bif op.pure && pokB hq op then some (pval [] hq op) else none
theorem quietX_ok {P : Program} {call : CX} (hc : CallOk P call) {hq : Heap} {op : VOp} {v : PV} (H : quietX call hq op = some v) : QuietV P hq [] op v := by
  have pure : (bif op.pure && pokB hq op then some (pval [] hq op) else none) = some v → op.pure = true ∧ pok [] hq op ∧ v = pval [] hq op := by
    intro H
    obtain ⟨h1, h2⟩ := of_bif H
    simp only [Bool.and_eq_true] at h1
    simp only [Option.some.injEq] at h2
    exact ⟨h1.1, pokB_ok h1.2, h2.symm⟩
  cases op <;> simp only [quietX] at H <;> simp only [QuietV] <;> first | exact pure H | skip
  case bslice z n zr ps =>
    obtain ⟨h1, h2⟩ := of_bif H
    simp only [Option.some.injEq] at h2
    exact ⟨elemsOkB_ok h1, h2.symm⟩
  case call f l => exact pcallX_ok hc H
  case callv f l =>
    split at H
    · rename_i f' a b hf
      simp only [hf]; exact pcallX_ok hc H
    · cases H
def drawX (call : CX) (hq : Heap) : List VOper → Tr → Heap → Option (Tr × Heap)
  | [], t, h => some (t, h)
  | o :: r, t, h => match o.op.simple, o.guard with
    | true, none => bif effB hq (o.op.res t) then (match stepX h (o.op.res t) with
      | some (v, h') => bif Nat.ble h'.top hq.top then drawX call hq r (putO t o.dst v) h' else none
      | none => none) else none
    | true, some _ => none
    | false, g => match guardX t g with
      | some true => (match quietX call hq (o.op.res t) with
        | some v => drawX call hq r (putO t o.dst v) h
        | none => none)
      | some false => drawX call hq r (putO t o.dst .undef) h
      | none => none
theorem res_simple (t : Tr) (op : VOp) : (op.res t).simple = op.simple := by cases op <;> rfl
theorem QuietV_res {P : Program} {t : Tr} {e : Env} (hs : Sim t e) {hq : Heap} {op : VOp} {v : PV} (H : QuietV P hq [] (op.res t) v) : QuietV P hq e op v := by
  have h1 := pval_res hs hq op
  have h2 := pok_res hs hq op
  have h3 := res_pure t op
  cases op <;> simp only [VOp.res, QuietV, hs.ev, elems_res hs, elemsOk_res hs, map_res hs] at H h1 h2 h3 ⊢ <;> first | exact H | (rw [← h1, ← h2, ← h3]; exact H) | skip
theorem drawX_ok {P : Program} {call : CX} (hc : CallOk P call) {N : Nat} (hN : N ≤ 1000) {hq : Heap} (okq : HOk hq) : ∀ {q : List VOper} {t : Tr} {e : Env} {h : Heap} {t' : Tr} {h' : Heap} {K : Env → Heap → Prop}, drawX call hq q t h = some (t', h') → DstOk N q → SimN N t e → HOk h → hq.le h →
    ((∀ e', SimN N t' e' → K e' h') → DrawW P hq q K e h) ∧ HOk h' ∧ h.top ≤ h'.top
  | [], t, e, h, t', h', K, H, _, hs, ok, _ => by
    simp only [drawX, Option.some.injEq, Prod.mk.injEq] at H
    obtain ⟨rfl, rfl⟩ := H
    exact ⟨fun hk => hk e hs, ok, Nat.le_refl _⟩
  | ⟨dst, op, gd'⟩ :: r, t, e, h, t', h', K, H, hd, hs, ok, hl => by
    have hdst := hd _ (List.mem_cons_self ..)
    have hdr : DstOk N r := fun o ho => hd o (List.mem_cons_of_mem _ ho)
    simp only [drawX] at H
    cases hsi' : op.simple with
    | true =>
      rw [hsi'] at H
      cases gd' with
      | some dw => cases H
      | none =>
        simp only at H
        obtain ⟨h1, h2⟩ := of_bif H
        split at h2
        · rename_i v h1' H1
          obtain ⟨h3, h4⟩ := of_bif h2
          have ht : h1'.top ≤ hq.top := Nat.le_of_ble_eq_true h3
          have hcl : op.closed = true := by cases op <;> first | rfl | cases hsi'
          obtain ⟨s1, s2, s3⟩ := stepX_ok (P := P) (K := fun v h' => hq.le h' ∧ DrawW P hq r K (e.put dst v) h') H1 ok
          have hl' := effB_ok okq ok hl (by rw [res_simple]; exact hsi') H1 h1 ht
          obtain ⟨i1, i2, i3⟩ := drawX_ok (K := K) hc hN okq h4 hdr (hs.put hN hdst v) s2 hl'
          refine ⟨fun hk => ?_, i2, Nat.le_trans s3 i3⟩
          rw [DrawW_n, hsi']
          exact StepW_res hs.1 (s1 ⟨hl', i1 hk⟩) hcl
        · cases h2
    | false =>
      rw [hsi'] at H
      simp only at H
      have skip : drawX call hq r (putO t dst .undef) h = some (t', h') → ((∀ e', SimN N t' e' → K e' h') → DrawW P hq r K (e.put dst .undef) h) ∧ HOk h' ∧ h.top ≤ h'.top :=
        fun H => drawX_ok hc hN okq H hdr (hs.put hN hdst _) ok hl
      have run : ∀ v, quietX call hq (op.res t) = some v → drawX call hq r (putO t dst v) h = some (t', h') →
          ((∀ e', SimN N t' e' → K e' h') → QW P hq e op true (fun v => DrawW P hq r K (e.put dst v) h)) ∧ HOk h' ∧ h.top ≤ h'.top := by
        intro v H1 H2
        have hqv := QuietV_res hs.1 (quietX_ok hc H1)
        obtain ⟨i1, i2, i3⟩ := drawX_ok (K := K) hc hN okq H2 hdr (hs.put hN hdst v) ok hl
        refine ⟨fun hk => ?_, i2, i3⟩
        unfold QW
        split
        · rename_i hdet
          have hv := hqv.det hdet
          refine ⟨fun _ => ?_, ?_⟩
          · cases op <;> simp only [VOp.det, VOp.pure] at hdet <;> first | exact hqv.2.1 | exact hqv.1 | cases hdet
          · rw [← hv]; exact i1 hk
        · exact ⟨v, fun _ => hqv, i1 hk⟩
      cases gd' with
      | none =>
        simp only [guardX] at H
        split at H
        · rename_i v H1
          obtain ⟨a, b⟩ := run v H1 H
          refine ⟨fun hk => ?_, b⟩
          rw [DrawW_n, hsi']; exact a hk
        · cases H
      | some dw =>
        obtain ⟨d, want⟩ := dw
        simp only [guardX] at H
        rw [hs.1 d] at H
        cases hg : guardOf want (e.get d) with
        | none => rw [hg] at H; cases H
        | some c =>
          rw [hg] at H
          cases c with
          | false =>
            simp only at H
            obtain ⟨a, b⟩ := skip H
            refine ⟨fun hk => ?_, b⟩
            simp only [DrawW, hsi', hg, QW_false]; exact a hk
          | true =>
            simp only at H
            split at H
            · rename_i v H1
              obtain ⟨a, b⟩ := run v H1 H
              refine ⟨fun hk => ?_, b⟩
              simp only [DrawW, hsi', hg]; exact a hk
            · cases H

/-- The same where some write: what waits for no writer looks at all of the heap. -/
def midB (mid : Heap) (op : VOp) : Bool :=
  match op with
  | .app _ _ _ _ a _ => (match a.ev [] with | .own id _ _ => (mid.get id).isNone | _ => true)
  | _ => true
def draw2X (call : CX) (big mid small : Heap) (late : List Bool) : Nat → List VOper → Tr → Heap → Option (Tr × Heap)
  | _, [], t, h => some (t, h)
  | k, o :: r, t, h => match o.op.simple, o.guard with
    | true, none => bif effB small (o.op.res t) && midB mid (o.op.res t) then (match stepX h (o.op.res t) with
      | some (v, h') => bif Nat.ble h'.top small.top then draw2X call big mid small late (k + 1) r (putO t o.dst v) h' else none
      | none => none) else none
    | true, some _ => none
    | false, g => match guardX t g with
      | some true => (match quietX call (bif late.getD k false then big else bif o.op.isIaddr then mid else small) (o.op.res t) with
        | some v => draw2X call big mid small late (k + 1) r (putO t o.dst v) h
        | none => none)
      | some false => draw2X call big mid small late (k + 1) r (putO t o.dst .undef) h
      | none => none
theorem shp_push {mid h : Heap} (ok : HOk h) (hm : Shp mid h) (x : AB) : Shp mid (h.push x) := by
  intro id fz z es e
  obtain ⟨fz', es', e'⟩ := hm id fz z es e
  refine ⟨fz', es', ?_⟩
  rw [Heap.get_push, if_neg (by
    rintro rfl
    have : h.get h.top = none := HL.get_none ok (Nat.le_refl _)
    rw [this] at e'; cases e')]
  exact e'
theorem shp_set {mid h : Heap} (hm : Shp mid h) {id : Nat} {ab ab0 : AB} (hg : h.get id = some ab0) (ha : ∀ fz z es, ab0 = .arr fz z es → ∃ fz' es', ab = .arr fz' z es') : Shp mid (h.set id ab) := by
  intro i fz z es e
  obtain ⟨fz', es', e'⟩ := hm i fz z es e
  rw [Heap.get_set]
  by_cases hi : id = i
  · subst hi
    rw [if_pos rfl, hg]
    rw [hg] at e'
    simp only [Option.some.injEq] at e'
    obtain ⟨f2, e2, rfl⟩ := ha _ _ _ e'
    exact ⟨f2, e2, by simp⟩
  · rw [if_neg hi]; exact ⟨fz', es', e'⟩
theorem shp_step {mid h : Heap} {op : VOp} {v : PV} {h' : Heap} (ok : HOk h) (hm : Shp mid h) (hs : op.simple = true) (H : stepX h op = some (v, h')) (he : midB mid op = true) : Shp mid h' := by
  cases op <;> simp only [VOp.simple] at hs <;> simp only [stepX] at H <;> first | (cases hs; done) | skip
  case alloc zr =>
    simp only [Option.some.injEq, Prod.mk.injEq] at H
    obtain ⟨rfl, rfl⟩ := H
    exact shp_push ok hm _
  case box n a =>
    obtain ⟨h1, h2⟩ := of_bif H
    simp only [Option.some.injEq, Prod.mk.injEq] at h2
    obtain ⟨rfl, rfl⟩ := h2
    exact shp_push ok hm _
  case store s a v' =>
    obtain ⟨h1, h2⟩ := of_bif H
    simp only [Option.some.injEq, Prod.mk.injEq] at h2
    obtain ⟨rfl, rfl⟩ := h2
    unfold storeV
    split
    · split
      · rename_i id i off _ fz z es hg
        exact shp_set hm hg (fun fz' z' es' hh => by simp only [AB.arr.injEq] at hh; obtain ⟨_, rfl, _⟩ := hh; exact ⟨_, _, rfl⟩)
      · exact hm
    · exact hm
  case app z bytes zr str a b =>
    obtain ⟨h1, h2⟩ := of_bif H
    simp only [Option.some.injEq, Prod.mk.injEq] at h2
    obtain ⟨rfl, rfl⟩ := h2
    refine shp_push (ok.killed _) ?_ _
    simp only [midB] at he
    cases hp : a.ev [] <;> rw [hp] at he <;> simp only [oldId, killed] <;> try exact hm
    rename_i id off len
    intro i fz z' es e
    obtain ⟨fz', es', e'⟩ := hm i fz z' es e
    refine ⟨fz', es', ?_⟩
    rw [Heap.get_del, if_neg (by rintro rfl; simp only at he; rw [e] at he; cases he)]
    exact e'
  case mkmap =>
    simp only [Option.some.injEq, Prod.mk.injEq] at H
    obtain ⟨rfl, rfl⟩ := H
    exact shp_push ok hm _
  case mapset kk m k v' =>
    obtain ⟨h1, h2⟩ := of_bif H
    simp only [Option.some.injEq, Prod.mk.injEq] at h2
    obtain ⟨rfl, rfl⟩ := h2
    simp only [Bool.and_eq_true] at h1
    have hh := mapHasB_ok h1.1
    unfold mapsetV
    split
    · rename_i id hp
      rw [hp] at hh
      simp only [mapHas] at hh
      split at hh
      · rename_i es hg
        exact shp_set hm hg (fun fz z es' hh => by cases hh)
      · exact hh.elim
    · exact hm
  case fx k l =>
    obtain ⟨h1, h2⟩ := of_bif H
    simp only [Option.some.injEq] at h2
    have e2 : (fxV h k (l.map (VA.ev []))).2 = h' := by rw [h2]
    subst e2
    unfold fxV
    split
    · exact shp_push ok hm _
    · exact shp_push ok hm _
    · rename_i z zr id off len heq
      have hf := fxOkB_ok h1
      rw [heq] at hf
      simp only [fxOk] at hf
      simp only
      split
      · rename_i fz z' es hg
        rw [hg] at hf
        simp only at hf
        exact shp_set hm hg (fun fz' z'' es' hh => by simp only [AB.arr.injEq] at hh; obtain ⟨_, rfl, _⟩ := hh; exact ⟨_, _, by rw [hf.2.1]⟩)
      · exact hm
    · exact hm
  case nd neg a =>
    obtain ⟨h1, h2⟩ := of_bif H
    cases hn : isNil (a.ev []) with
    | true =>
      rw [hn] at h2
      simp only [cond_true, Option.some.injEq, Prod.mk.injEq] at h2
      rw [← h2.2]; exact hm
    | false =>
      rw [hn] at h2
      simp only [cond_false] at h2
      obtain ⟨h3, h2⟩ := of_bif h2
      simp only [Option.some.injEq, Prod.mk.injEq] at h2
      rw [← h2.2]; exact hm
theorem effB_nw {hq : Heap} {op : VOp} (h : op.writes = false) : effB hq op = true := by
  cases op <;> first | rfl | cases h
theorem res_writes (t : Tr) (op : VOp) : (op.res t).writes = op.writes := by cases op <;> rfl
theorem draw2X_ok {P : Program} {call : CX} (hc : CallOk P call) {N : Nat} (hN : N ≤ 1000) {q0 : List VOper} {big mid small : Heap} {late : List Bool} (okb : HOk big) (oks : HOk small) (htop : small.top = big.top) :
    ∀ {q : List VOper} {k : Nat} {t : Tr} {e : Env} {h : Heap} {t' : Tr} {h' : Heap} {K : Env → Heap → Prop}, draw2X call big mid small late k q t h = some (t', h') → (∀ j, q[j]? = q0[k + j]?) → DstOk N q → SimN N t e → HOk h → small.le h → Shp mid h →
    ((∀ e', SimN N t' e' → K e' h') → DrawG P (hq3 q0 late big mid small) (zed3 q0 big mid small) k q K e h) ∧ HOk h' ∧ h.top ≤ h'.top
  | [], k, t, e, h, t', h', K, H, _, _, hs, ok, _, _ => by
    simp only [draw2X, Option.some.injEq, Prod.mk.injEq] at H
    obtain ⟨rfl, rfl⟩ := H
    exact ⟨fun hk => hk e hs, ok, Nat.le_refl _⟩
  | ⟨dst, op, gd'⟩ :: r, k, t, e, h, t', h', K, H, hq0, hd, hs, ok, hl, hm => by
    have hdst := hd _ (List.mem_cons_self ..)
    have hdr : DstOk N r := fun o ho => hd o (List.mem_cons_of_mem _ ho)
    have h0 : q0[k]? = some ⟨dst, op, gd'⟩ := by simpa using (hq0 0).symm
    have hq1 : ∀ j, r[j]? = q0[(k + 1) + j]? := fun j => by have := hq0 (j + 1); simpa [Nat.add_assoc, Nat.add_comm 1 j] using this
    have hwk : writesAt q0 k = op.writes := by simp [writesAt, h0]
    simp only [draw2X] at H
    cases hsi' : op.simple with
    | true =>
      rw [hsi'] at H
      cases gd' with
      | some dw => cases H
      | none =>
        simp only at H
        obtain ⟨h1, h2⟩ := of_bif H
        simp only [Bool.and_eq_true] at h1
        split at h2
        · rename_i v h1' H1
          obtain ⟨h3, h4⟩ := of_bif h2
          have ht : h1'.top ≤ small.top := Nat.le_of_ble_eq_true h3
          have hcl : op.closed = true := by cases op <;> first | rfl | cases hsi'
          obtain ⟨s1, s2, s3⟩ := stepX_ok (P := P) (K := fun v h' => zed3 q0 big mid small k h h' ∧ DrawG P (hq3 q0 late big mid small) (zed3 q0 big mid small) (k + 1) r K (e.put dst v) h') H1 ok
          have hl' := effB_ok oks ok hl (by rw [res_simple]; exact hsi') H1 h1.1 ht
          have hm' := shp_step ok hm (by rw [res_simple]; exact hsi') H1 h1.2
          have hb' : writesAt q0 k = false → big.le h → big.le h1' := fun hw hb =>
            effB_ok okb ok hb (by rw [res_simple]; exact hsi') H1 (effB_nw (by rw [res_writes, ← hwk]; exact hw)) (by omega)
          obtain ⟨i1, i2, i3⟩ := draw2X_ok (K := K) hc hN okb oks htop h4 hq1 hdr (hs.put hN hdst v) s2 hl' hm'
          refine ⟨fun hk => ?_, i2, Nat.le_trans s3 i3⟩
          simp only [DrawG, hsi']
          exact StepW_res hs.1 (s1 ⟨⟨hl', hb', fun _ => hm'⟩, i1 hk⟩) hcl
        · cases h2
    | false =>
      rw [hsi'] at H
      simp only at H
      have hbif : (bif late.getD k false then big else bif op.isIaddr then mid else small) = hq3 q0 late big mid small k := by
        simp only [hq3, h0]
        cases late.getD k false <;> cases op.isIaddr <;> rfl
      rw [hbif] at H
      have skip : draw2X call big mid small late (k + 1) r (putO t dst .undef) h = some (t', h') → ((∀ e', SimN N t' e' → K e' h') → DrawG P (hq3 q0 late big mid small) (zed3 q0 big mid small) (k + 1) r K (e.put dst .undef) h) ∧ HOk h' ∧ h.top ≤ h'.top :=
        fun H => draw2X_ok hc hN okb oks htop H hq1 hdr (hs.put hN hdst _) ok hl hm
      have run : ∀ v, quietX call (hq3 q0 late big mid small k) (op.res t) = some v → draw2X call big mid small late (k + 1) r (putO t dst v) h = some (t', h') →
          ((∀ e', SimN N t' e' → K e' h') → QW P (hq3 q0 late big mid small k) e op true (fun v => DrawG P (hq3 q0 late big mid small) (zed3 q0 big mid small) (k + 1) r K (e.put dst v) h)) ∧ HOk h' ∧ h.top ≤ h'.top := by
        intro v H1 H2
        have hqv := QuietV_res hs.1 (quietX_ok hc H1)
        obtain ⟨i1, i2, i3⟩ := draw2X_ok (K := K) hc hN okb oks htop H2 hq1 hdr (hs.put hN hdst v) ok hl hm
        refine ⟨fun hk => ?_, i2, i3⟩
        unfold QW
        split
        · rename_i hdet
          have hv := hqv.det hdet
          refine ⟨fun _ => ?_, ?_⟩
          · cases op <;> simp only [VOp.det, VOp.pure] at hdet <;> first | exact hqv.2.1 | exact hqv.1 | cases hdet
          · rw [← hv]; exact i1 hk
        · exact ⟨v, fun _ => hqv, i1 hk⟩
      cases gd' with
      | none =>
        simp only [guardX] at H
        split at H
        · rename_i v H1
          obtain ⟨a, b⟩ := run v H1 H
          refine ⟨fun hk => ?_, b⟩
          simp only [DrawG, hsi']; exact a hk
        · cases H
      | some dw =>
        obtain ⟨d, want⟩ := dw
        simp only [guardX] at H
        rw [hs.1 d] at H
        cases hg : guardOf want (e.get d) with
        | none => rw [hg] at H; cases H
        | some c =>
          rw [hg] at H
          cases c with
          | false =>
            simp only at H
            obtain ⟨a, b⟩ := skip H
            refine ⟨fun hk => ?_, b⟩
            simp only [DrawG, hsi', hg, QW_false]; exact a hk
          | true =>
            simp only at H
            split at H
            · rename_i v H1
              obtain ⟨a, b⟩ := run v H1 H
              refine ⟨fun hk => ?_, b⟩
              simp only [DrawG, hsi', hg]; exact a hk
            · cases H

/-! ### loops -/
def VRounds (P : Program) (N : Nat) (x : VC) (Q : Exit → Env → Heap → Prop) : Nat → Env → Heap → Prop
  | 0 => fun _ _ => False
  | n + 1 => fun e h => VW P N x (thenQ (VRounds P N x Q n) Q) e h
theorem VW_rounds {P : Program} {N : Nat} {x : VC} {Q : Exit → Env → Heap → Prop} {e : Env} {h : Heap} (n : Nat) (H : VRounds P N x Q n e h) : VW P N (.loop x) Q e h := by
  intro c hc
  cases c <;> simp only [cCode, Option.map_eq_some_iff] at hc
  case loop a =>
    obtain ⟨p, h3, h4⟩ := hc
    simp only [VC.loop.injEq] at h4
    subst h4
    intro g w act r he hd hs
    refine wp_loop_rounds n ?_
    have key : ∀ n e1 h1 g1 w1 a1, VRounds P N p Q n e1 h1 → Rel g1 w1 h1 → EnvRep g1 a1 e1 → a1.defers = [] → a1.tmps.size = N → Evo g w h g1 w1 h1 →
        Code.rounds P a (fun x a' w' => ∃ g' e' h', Q x e' h' ∧ Rel g' w' h' ∧ EnvRep g' a' e' ∧ a'.defers = [] ∧ a'.tmps.size = N ∧ Evo g w h g' w' h') n a1 w1 := by
      intro n
      induction n with
      | zero => intro e1 h1 g1 w1 a1 H; exact H.elim
      | succ n ih =>
        intro e1 h1 g1 w1 a1 H r1 he1 hd1 hs1 ev
        rw [rounds_succ]
        refine wp_mono (H a h3 g1 w1 a1 r1 he1 hd1 hs1) fun ex a' w' ⟨g', e', h', k1, k2, k3, k4, k5, k6⟩ => ?_
        cases ex with
        | normal => exact ih e' h' g' w' a' k1 k2 k3 k4 k5 (ev.trans k6)
        | exit id => exact ⟨g', e', h', k1, k2, k3, k4, k5, ev.trans k6⟩
        | goto l => exact ⟨g', e', h', k1, k2, k3, k4, k5, ev.trans k6⟩
        | ret => exact ⟨g', e', h', k1, k2, k3, k4, k5, ev.trans k6⟩
        | panic ch => exact ⟨g', e', h', k1, k2, k3, k4, k5, ev.trans k6⟩
        | outgrown => exact ⟨g', e', h', k1, k2, k3, k4, k5, ev.trans k6⟩
    exact key n e h g w act H r he hd hs (Evo.refl _ _ _)
  case seq => split at hc <;> simp at hc
  case cond => split at hc <;> simp at hc
  case region => (repeat' (split at hc)) <;> simp at hc
  all_goals simp at hc
end Go.VM


namespace Go.VM
open Go

structure FnD where
  n : Nat
  rs : List RS
  vc : VC
abbrev EX := VC → Tr → Heap → Option (Exit × Tr × Heap)
def tgt : VOp → Option Nat
  | .store _ a _ => (match a.ev [] with | .loc id _ _ => some id | _ => none)
  | .mapset _ m _ _ => (match m.ev [] with | .mp id => some id | _ => none)
  | .app _ _ _ _ a _ => (match a.ev [] with | .own id _ _ => some id | _ => none)
  | _ => none
/-- The blocks that the region writes, by a first pass. -/
def touchX (call : CX) : List VOper → Tr → Heap → List Nat
  | [], _, _ => []
  | o :: r, t, h => match guardX t o.guard with
    | some true => (match opX call h (o.op.res t) with
      | some (v, h') => (match tgt (o.op.res t) with
        | some id => id :: touchX call r (putO t o.dst v) h'
        | none => touchX call r (putO t o.dst v) h')
      | none => [])
    | some false => touchX call r (putO t o.dst .undef) h
    | none => []
def quietHeap (q : List VOper) (h : Heap) : Heap := ⟨h.l, h.top + q.length⟩
/-- Blocks that an append may take away. -/
def goneX (call : CX) : List VOper → Tr → Heap → List Nat
  | [], _, _ => []
  | o :: r, t, h => match guardX t o.guard with
    | some true => (match opX call h (o.op.res t) with
      | some (v, h') => (match o.op.res t with
        | .app _ _ _ _ (.c (.own id _ _)) _ => id :: goneX call r (putO t o.dst v) h'
        | _ => goneX call r (putO t o.dst v) h')
      | none => [])
    | some false => goneX call r (putO t o.dst .undef) h
    | none => []
def midHeap (call : CX) (q : List VOper) (t : Tr) (h : Heap) : Heap :=
  bif q.any (fun o => match o.op with | .app .. => true | _ => false) then (match goneX call q t h with
    | ids => ⟨HL.only (fun k => !ids.any (Nat.beq k)) h.l, h.top⟩) else h
def smallHeap (call : CX) (q : List VOper) (t : Tr) (h : Heap) : Heap :=
  match touchX call q t h with
  | ids => ⟨HL.only (fun k => !ids.any (Nat.beq k)) h.l, h.top + q.length⟩
def stepVC (ex : EX) (call : CX) : EX
  | .skip, t, h => some (.normal, t, h)
  | .region q false, t, h => (match opsX call q t h with
    | some (t', h') => some (.normal, t', h')
    | none => none)
  | .region q true, t, h => (match drawX call (quietHeap q h) q t h with
    | some (t', h') => some (.normal, t', h')
    | none => none)
  | .draw2 q late, t, h => (match draw2X call (quietHeap q h) (midHeap call q t h) (smallHeap call q t h) late 0 q t h with
    | some (t', h') => some (.normal, t', h')
    | none => none)
  | .seq a b, t, h => (match ex a t h with
    | some (.normal, t', h') => ex b t' h'
    | r => r)
  | .cond c a b, t, h => (match (c.res t).ev [] with
    | .bool true => ex a t h
    | .bool false => ex b t h
    | _ => none)
  | .block id b, t, h => (match ex b t h with
    | some (.exit j, t', h') => some (bif Nat.beq j id then .normal else .exit j, t', h')
    | r => r)
  | .loop b, t, h => (match ex b t h with
    | some (.normal, t', h') => ex (.loop b) t' h'
    | r => r)
  | .scope b, t, h => (match ex b t h with
    | some (.goto _, _, _) => none
    | r => r)
  | .exit id, t, h => some (.exit id, t, h)
  | .ret, t, h => some (.ret, t, h)
  | .other _, _, _ => none
def argTr : Nat → List PV → Tr → Tr
  | _, [], t => t
  | k, a :: r, t => argTr (k + 1) r (Tr.put 10 t k a)
def rsV (t : Tr) (h : Heap) : RS → PV
  | .t n => t.get n
  | .c n g s => aggV g ((locCells h (t.get n)).take s)
def rsB (t : Tr) (h : Heap) : RS → Bool
  | .t _ => true
  | .c n g s => locOkB h (t.get n) && Nat.ble s (locCells h (t.get n)).length && (g || Nat.beq s 1)
def rssV (t : Tr) (h : Heap) : List RS → PV
  | [x] => rsV t h x
  | l => .tup (l.map (rsV t h))
/-- What the callee made is let go of, where neither its arguments nor its result name a block. -/
def letGo (h : Heap) (args : List PV) (v : PV) (h' : Heap) : Heap :=
  bif PV.clsB args && v.clB then ⟨HL.only (fun k => Nat.blt k h.top) h'.l, h'.top⟩ else h'
def callX (ex : EX) (T : Nat → Option FnD) : CX := fun f args h =>
  match T f with
  | some d => bif Nat.ble args.length d.n && Nat.ble d.n 1000 then (match ex d.vc (argTr 0 args .lf) h with
    | some (.normal, t', h') => bif d.rs.all (rsB t' h') then some (rssV t' h' d.rs, letGo h args (rssV t' h' d.rs) h') else none
    | some (.ret, t', h') => bif d.rs.all (rsB t' h') then some (rssV t' h' d.rs, letGo h args (rssV t' h' d.rs) h') else none
    | _ => none) else none
  | none => none
def exec (T : Nat → Option FnD) : Nat → EX
  | 0 => fun _ _ _ => none
  | n + 1 => stepVC (exec T n) (callX (exec T n) T)
/-- The functions are what the table says. -/
def FnOk (P : Program) (f : Nat) (d : FnD) : Prop := ∃ fn c, P.funcs[f]? = some fn ∧ fnOk P f = true ∧ fn.body = some c ∧ rsOf P fn.results.toList = some d.rs ∧ d.n = fn.ntmps ∧ cCode P fn.ntmps c = some d.vc
def TOk (P : Program) (T : Nat → Option FnD) : Prop := ∀ f d, T f = some d → FnOk P f d

def HExOk (ex : EX) : Prop := ∀ vc t h x t' h', ex vc t h = some (x, t', h') → HOk h → HOk h' ∧ h.top ≤ h'.top
def VExOk (P : Program) (ex : EX) : Prop := ∀ vc t h x t' h', ex vc t h = some (x, t', h') → ∀ N, N ≤ 1000 → ∀ e, SimN N t e → HOk h → ∀ Q : Exit → Env → Heap → Prop,
  (∀ e', SimN N t' e' → Q x e' h') → VW P N vc Q e h
def LExOk (P : Program) (ex : EX) : Prop := ∀ b t h x t' h', ex (.loop b) t h = some (x, t', h') → HOk h → ∃ n, ∀ N, N ≤ 1000 → ∀ e, SimN N t e → ∀ Q : Exit → Env → Heap → Prop,
  (∀ e', SimN N t' e' → Q x e' h') → VRounds P N b Q n e h
def HCallOk (call : CX) : Prop := ∀ f args h v h', call f args h = some (v, h') → HOk h → HOk h' ∧ h.top ≤ h'.top

theorem quietHeap_ok {q : List VOper} {h : Heap} (ok : HOk h) : HOk (quietHeap q h) ∧ (quietHeap q h).le h :=
  ⟨HL.dec_mono ok (Nat.le_add_right _ _), Nat.le_add_right _ _, HL.le_self ok fun _ _ => .inl rfl⟩
theorem midHeap_ok {call : CX} {q : List VOper} {t : Tr} {h : Heap} (ok : HOk h) : Shp (midHeap call q t h) h := by
  unfold midHeap
  cases q.any (fun o => match o.op with | .app .. => true | _ => false)
  · exact fun id fz z es e => ⟨fz, es, e⟩
  · intro id fz z es e
    have e' : HL.get (HL.only (fun k => !(goneX call q t h).any (Nat.beq k)) h.l) id = some (.arr fz z es) := e
    rw [HL.get_only _ ok] at e'
    split at e'
    · exact ⟨fz, es, e'⟩
    · cases e'
theorem smallHeap_ok {call : CX} {q : List VOper} {t : Tr} {h : Heap} (ok : HOk h) : HOk (smallHeap call q t h) ∧ (smallHeap call q t h).le h ∧ (smallHeap call q t h).le (quietHeap q h) ∧ (smallHeap call q t h).top = (quietHeap q h).top := by
  have h1 := HL.dec_only (fun k => !(touchX call q t h).any (Nat.beq k)) ok
  have hl : HL.le (HL.only (fun k => !(touchX call q t h).any (Nat.beq k)) h.l) h.get := HL.le_self h1 fun k _ => by
    show HL.get (HL.only _ h.l) k = HL.get h.l k ∨ _
    rw [HL.get_only _ ok]
    split
    · exact .inl rfl
    · exact .inr rfl
  exact ⟨HL.dec_mono h1 (Nat.le_add_right _ _), ⟨Nat.le_add_right _ _, hl⟩, ⟨Nat.le_refl _, hl⟩, rfl⟩
theorem opX_heap {call : CX} (hc : HCallOk call) {h : Heap} {op : VOp} {v : PV} {h' : Heap} (H : opX call h op = some (v, h')) (ok : HOk h) : HOk h' ∧ h.top ≤ h'.top := by
  cases op <;> simp only [opX] at H <;> first | exact (stepX_ok (P := default) (K := fun _ _ => True) H ok).2 | skip
  case call f l => exact hc _ _ _ _ _ H ok
  case callv f l =>
    split at H
    · exact hc _ _ _ _ _ H ok
    · cases H
theorem opsX_heap {call : CX} (hc : HCallOk call) : ∀ {q : List VOper} {t : Tr} {h : Heap} {t' : Tr} {h' : Heap}, opsX call q t h = some (t', h') → HOk h → HOk h' ∧ h.top ≤ h'.top := by
  intro q
  induction q with
  | nil =>
    intro t h t' h' H ok
    simp only [opsX, Option.some.injEq, Prod.mk.injEq] at H
    obtain ⟨_, rfl⟩ := H
    exact ⟨ok, Nat.le_refl _⟩
  | cons o r ih =>
    intro t h t' h' H ok
    simp only [opsX] at H
    split at H
    · split at H
      · rename_i v h1 H1
        obtain ⟨s2, s3⟩ := opX_heap hc H1 ok
        obtain ⟨i2, i3⟩ := ih H s2
        exact ⟨i2, Nat.le_trans s3 i3⟩
      · cases H
    · exact ih H ok
    · cases H
theorem drawX_heap {call : CX} {hq : Heap} : ∀ {q : List VOper} {t : Tr} {h : Heap} {t' : Tr} {h' : Heap}, drawX call hq q t h = some (t', h') → HOk h → HOk h' ∧ h.top ≤ h'.top := by
  intro q
  induction q with
  | nil =>
    intro t h t' h' H ok
    simp only [drawX, Option.some.injEq, Prod.mk.injEq] at H
    obtain ⟨_, rfl⟩ := H
    exact ⟨ok, Nat.le_refl _⟩
  | cons o r ih =>
    intro t h t' h' H ok
    simp only [drawX] at H
    split at H
    · obtain ⟨_, H⟩ := of_bif H
      split at H
      · rename_i v h1 H1
        obtain ⟨_, H⟩ := of_bif H
        obtain ⟨_, s2, s3⟩ := stepX_ok (P := default) (K := fun _ _ => True) H1 ok
        obtain ⟨i2, i3⟩ := ih H s2
        exact ⟨i2, Nat.le_trans s3 i3⟩
      · cases H
    · cases H
    · split at H
      · split at H
        · exact ih H ok
        · cases H
      · exact ih H ok
      · cases H
theorem draw2X_heap {call : CX} {big mid small : Heap} {late : List Bool} : ∀ {q : List VOper} {k : Nat} {t : Tr} {h : Heap} {t' : Tr} {h' : Heap}, draw2X call big mid small late k q t h = some (t', h') → HOk h → HOk h' ∧ h.top ≤ h'.top := by
  intro q
  induction q with
  | nil =>
    intro k t h t' h' H ok
    simp only [draw2X, Option.some.injEq, Prod.mk.injEq] at H
    obtain ⟨_, rfl⟩ := H
    exact ⟨ok, Nat.le_refl _⟩
  | cons o r ih =>
    intro k t h t' h' H ok
    simp only [draw2X] at H
    split at H
    · obtain ⟨_, H⟩ := of_bif H
      split at H
      · rename_i v h1 H1
        obtain ⟨_, H⟩ := of_bif H
        obtain ⟨_, s2, s3⟩ := stepX_ok (P := default) (K := fun _ _ => True) H1 ok
        obtain ⟨i2, i3⟩ := ih H s2
        exact ⟨i2, Nat.le_trans s3 i3⟩
      · cases H
    · cases H
    · split at H
      · split at H
        · exact ih H ok
        · cases H
      · exact ih H ok
      · cases H
theorem stepVC_heap {ex : EX} {call : CX} (he : HExOk ex) (hc : HCallOk call) : HExOk (stepVC ex call) := by
  intro vc t h x t' h' H ok
  have same : ∀ {y : Exit}, (some (y, t, h) : Option (Exit × Tr × Heap)) = some (x, t', h') → HOk h' ∧ h.top ≤ h'.top := by
    intro y H
    simp only [Option.some.injEq, Prod.mk.injEq] at H
    obtain ⟨_, _, rfl⟩ := H
    exact ⟨ok, Nat.le_refl _⟩
  cases vc with
  | skip => exact same H
  | exit id => exact same H
  | ret => exact same H
  | other c => cases H
  | region q d =>
    cases d with
    | false =>
      simp only [stepVC] at H
      split at H
      · rename_i t1 h1 H1
        simp only [Option.some.injEq, Prod.mk.injEq] at H
        obtain ⟨_, _, rfl⟩ := H
        exact opsX_heap hc H1 ok
      · cases H
    | true =>
      simp only [stepVC] at H
      split at H
      · rename_i t1 h1 H1
        simp only [Option.some.injEq, Prod.mk.injEq] at H
        obtain ⟨_, _, rfl⟩ := H
        exact drawX_heap H1 ok
      · cases H
  | draw2 q late =>
    simp only [stepVC] at H
    split at H
    · rename_i t1 h1 H1
      simp only [Option.some.injEq, Prod.mk.injEq] at H
      obtain ⟨_, _, rfl⟩ := H
      exact draw2X_heap H1 ok
    · cases H
  | seq a b =>
    simp only [stepVC] at H
    split at H
    · rename_i t1 h1 H1
      obtain ⟨b1, b2⟩ := he a t h .normal t1 h1 H1 ok
      obtain ⟨c1, c2⟩ := he b t1 h1 x t' h' H b1
      exact ⟨c1, Nat.le_trans b2 c2⟩
    · exact he a t h x t' h' H ok
  | cond c a b =>
    simp only [stepVC] at H
    split at H
    · exact he a t h x t' h' H ok
    · exact he b t h x t' h' H ok
    · cases H
  | block id b =>
    simp only [stepVC] at H
    split at H
    · rename_i j t1 h1 H1
      simp only [Option.some.injEq, Prod.mk.injEq] at H
      obtain ⟨_, _, rfl⟩ := H
      exact he b t h _ t1 h1 H1 ok
    · exact he b t h x t' h' H ok
  | scope b =>
    simp only [stepVC] at H
    split at H
    · cases H
    · exact he b t h x t' h' H ok
  | loop b =>
    simp only [stepVC] at H
    split at H
    · rename_i t1 h1 H1
      obtain ⟨b1, b2⟩ := he b t h .normal t1 h1 H1 ok
      obtain ⟨c1, c2⟩ := he (.loop b) t1 h1 x t' h' H b1
      exact ⟨c1, Nat.le_trans b2 c2⟩
    · exact he b t h x t' h' H ok
theorem CallOk.heap {P : Program} {call : CX} (h : CallOk P call) : HCallOk call := fun f args hh v h' H ok => (h f args hh v h' H ok).2
theorem stepVC_ok {P : Program} {ex : EX} {call : CX} (hh : HExOk ex) (he : VExOk P ex) (hl : LExOk P (stepVC ex call)) (hc : CallOk P call) : VExOk P (stepVC ex call) := by
  intro vc t h x t' h' H N hN e hs ok Q hk
  cases vc with
  | skip =>
    simp only [stepVC, Option.some.injEq, Prod.mk.injEq] at H
    obtain ⟨rfl, rfl, rfl⟩ := H
    exact VW_skip (hk e hs)
  | exit id =>
    simp only [stepVC, Option.some.injEq, Prod.mk.injEq] at H
    obtain ⟨rfl, rfl, rfl⟩ := H
    exact VW_exit (hk e hs)
  | ret =>
    simp only [stepVC, Option.some.injEq, Prod.mk.injEq] at H
    obtain ⟨rfl, rfl, rfl⟩ := H
    exact VW_ret (hk e hs)
  | other c => cases H
  | region q d =>
    cases d with
    | false =>
      simp only [stepVC] at H
      split at H
      · rename_i t1 h1 H1
        simp only [Option.some.injEq, Prod.mk.injEq] at H
        obtain ⟨rfl, rfl, rfl⟩ := H
        exact VW_regionX fun hd => (opsX_ok (K := fun e' h' => Q .normal e' h') hc hN H1 hd hs ok).1 fun e' hs' => hk e' hs'
      · cases H
    | true =>
      simp only [stepVC] at H
      split at H
      · rename_i t1 h1 H1
        simp only [Option.some.injEq, Prod.mk.injEq] at H
        obtain ⟨rfl, rfl, rfl⟩ := H
        obtain ⟨okq, hlq⟩ := quietHeap_ok (q := q) ok
        generalize quietHeap q h = hq at *
        exact VW_drawX hq hlq fun hd => (drawX_ok (K := fun e' h' => Q .normal (Env.keep (List.range N) e') h') hc hN okq H1 hd hs ok hlq).1 fun e' hs' => hk _ hs'.keep
      · cases H
  | draw2 q late =>
    simp only [stepVC] at H
    split at H
    · rename_i t1 h1 H1
      simp only [Option.some.injEq, Prod.mk.injEq] at H
      obtain ⟨rfl, rfl, rfl⟩ := H
      obtain ⟨okq, hlq⟩ := quietHeap_ok (q := q) ok
      obtain ⟨oks, hls, hsb, htop⟩ := smallHeap_ok (call := call) (q := q) (t := t) ok
      exact VW_draw2X _ _ _ hlq hls (midHeap_ok (call := call) (q := q) (t := t) ok) fun hd => (draw2X_ok (K := fun e' h' => Q .normal (Env.keep (List.range N) e') h') hc hN okq oks htop H1 (fun j => by simp) hd hs ok hls (midHeap_ok (call := call) (q := q) (t := t) ok)).1 fun e' hs' => hk _ hs'.keep
    · cases H
  | seq a b =>
    simp only [stepVC] at H
    split at H
    · rename_i t1 h1 H1
      have ok1 := (hh a t h .normal t1 h1 H1 ok).1
      exact VW_seq (he a t h .normal t1 h1 H1 N hN e hs ok (thenQ (VW P N b Q) Q) fun e' hs' => he b t1 h1 x t' h' H N hN e' hs' ok1 Q hk)
    · rename_i hne
      refine VW_seq (he a t h x t' h' H N hN e hs ok (thenQ (VW P N b Q) Q) fun e' hs' => ?_)
      cases x with
      | normal => exact absurd H (hne t' h')
      | exit id => exact hk e' hs'
      | goto l => exact hk e' hs'
      | ret => exact hk e' hs'
      | panic ch => exact hk e' hs'
      | outgrown => exact hk e' hs'
  | cond c a b =>
    simp only [stepVC] at H
    split at H
    · rename_i hb
      rw [hs.1.ev] at hb
      exact VW_cond hb (fun _ => he a t h x t' h' H N hN e hs ok Q hk) (fun h => by cases h)
    · rename_i hb
      rw [hs.1.ev] at hb
      exact VW_cond hb (fun h => by cases h) (fun _ => he b t h x t' h' H N hN e hs ok Q hk)
    · cases H
  | block id b =>
    simp only [stepVC] at H
    split at H
    · rename_i j t1 h1 H1
      simp only [Option.some.injEq, Prod.mk.injEq] at H
      obtain ⟨rfl, rfl, rfl⟩ := H
      refine VW_block (he b t h (.exit j) t1 h1 H1 N hN e hs ok (blockQ id Q) fun e' hs' => ?_)
      have := hk e' hs'
      simp only [blockQ]
      cases hj : Nat.beq j id with
      | true => rw [hj] at this; rw [if_pos (Nat.eq_of_beq_eq_true hj)]; exact this
      | false => rw [hj] at this; rw [if_neg (fun h => by rw [h] at hj; simp at hj)]; exact this
    · rename_i hne
      refine VW_block (he b t h x t' h' H N hN e hs ok (blockQ id Q) fun e' hs' => ?_)
      cases x with
      | exit j => exact absurd H (hne j t' h')
      | normal => exact hk e' hs'
      | goto l => exact hk e' hs'
      | ret => exact hk e' hs'
      | panic ch => exact hk e' hs'
      | outgrown => exact hk e' hs'
  | scope b =>
    simp only [stepVC] at H
    split at H
    · cases H
    · rename_i hne
      refine VW_scope (he b t h x t' h' H N hN e hs ok (scopeQ Q) fun e' hs' => ?_)
      cases x with
      | goto l => exact absurd H (hne l t' h')
      | exit j => exact hk e' hs'
      | normal => exact hk e' hs'
      | ret => exact hk e' hs'
      | panic ch => exact hk e' hs'
      | outgrown => exact hk e' hs'
  | loop b =>
    obtain ⟨n, hn⟩ := hl b t h x t' h' H ok
    exact VW_rounds n (hn N hN e hs Q hk)
theorem stepVC_loop {P : Program} {ex : EX} {call : CX} (hh : HExOk ex) (he : VExOk P ex) (hl : LExOk P ex) : LExOk P (stepVC ex call) := by
  intro b t h x t' h' H ok
  simp only [stepVC] at H
  split at H
  · rename_i t1 h1 H1
    have ok1 := (hh b t h .normal t1 h1 H1 ok).1
    obtain ⟨n, hn⟩ := hl b t1 h1 x t' h' H ok1
    exact ⟨n + 1, fun N hN e hs Q hk => he b t h .normal t1 h1 H1 N hN e hs ok (thenQ (VRounds P N b Q n) Q) fun e' hs' => hn N hN e' hs' Q hk⟩
  · rename_i hne
    refine ⟨1, fun N hN e hs Q hk => he b t h x t' h' H N hN e hs ok (thenQ (VRounds P N b Q 0) Q) fun e' hs' => ?_⟩
    cases x with
    | normal => exact absurd H (hne t' h')
    | exit id => exact hk e' hs'
    | goto l => exact hk e' hs'
    | ret => exact hk e' hs'
    | panic ch => exact hk e' hs'
    | outgrown => exact hk e' hs'

/-! ### calls -/
theorem argTr_sim {N : Nat} (hN : N ≤ 1000) : ∀ (l : List PV) (k : Nat) (t : Tr) (e : Env), SimN N t e → k + l.length ≤ N → (∀ i, k ≤ i → e.get i = .any) → Sim (argTr k l t) (argEnv k l ++ e)
  | [], k, t, e, hs, _, _ => hs.1
  | a :: r, k, t, e, hs, hk, hf => by
    simp only [argTr]
    intro n
    have hlen : k + 1 + r.length ≤ N := by simp at hk; omega
    have hput := SimN.put (d := some k) hN hs (fun j hj => by simp only [Option.some.injEq] at hj; omega) a
    have ih := argTr_sim hN r (k + 1) (Tr.put 10 t k a) (e.put (some k) a) hput hlen (fun i hi => by simp only [Env.put, Env.get]; rw [if_neg (by omega)]; exact hf i (by omega)) n
    rw [ih]
    have app : ∀ (l : List PV) (k : Nat) (e : Env) (n : Nat), Env.get (argEnv k l ++ e) n = if k ≤ n ∧ n < k + l.length then PV.nth l (n - k) else e.get n := by
      intro l
      induction l with
      | nil => intro k e n; simp [argEnv]; intro h1 h2; omega
      | cons b l ihl =>
        intro k e n
        simp only [argEnv, List.cons_append, Env.get, ihl]
        by_cases h1 : k = n
        · subst h1; simp [PV.nth]
        · rw [if_neg h1]
          by_cases h2 : k + 1 ≤ n ∧ n < k + 1 + l.length
          · rw [if_pos h2, if_pos ⟨by omega, by simp; omega⟩]
            have : n - k = (n - (k + 1)) + 1 := by omega
            rw [this]; simp [PV.nth]
          · rw [if_neg h2, if_neg (by simp; omega)]
    rw [app, app]
    by_cases h1 : n = k
    · subst h1
      rw [if_neg (by omega), if_pos (by simp)]
      simp [Env.put, Env.get, PV.nth]
    · by_cases h2 : k + 1 ≤ n ∧ n < k + 1 + r.length
      · rw [if_pos h2, if_pos ⟨by omega, by simp; omega⟩]
        have : n - k = (n - (k + 1)) + 1 := by omega
        rw [this]; simp [PV.nth]
      · rw [if_neg h2, if_neg (by simp; omega)]
        simp only [Env.put, Env.get]
        rw [if_neg (by omega)]
theorem argTr_simN {N : Nat} (hN : N ≤ 1000) (l : List PV) (hl : l.length ≤ N) : SimN N (argTr 0 l .lf) (argEnv 0 l) := by
  have h0 : SimN N .lf [] := ⟨fun n => rfl, fun k _ => rfl⟩
  have := argTr_sim hN l 0 .lf [] h0 (by omega) (fun _ _ => rfl)
  rw [List.append_nil] at this
  refine ⟨this, fun k hk => ?_⟩
  rw [argEnv_get, if_neg (by omega)]
theorem rsB_ok {N : Nat} {t : Tr} {e : Env} (hs : SimN N t e) (h : Heap) : ∀ {l : List RS}, l.all (rsB t h) = true → resOk e h l
  | [], _ => trivial
  | x :: r, H => by
    simp only [List.all_cons, Bool.and_eq_true] at H
    refine ⟨?_, rsB_ok hs h H.2⟩
    cases x with
    | t n => trivial
    | c n g s =>
      have h1 := H.1
      simp only [rsB, Bool.and_eq_true] at h1
      rw [hs.1 n] at h1
      exact ⟨locOkB_ok h1.1.1, Nat.le_of_ble_eq_true h1.1.2, gs_ok h1.2⟩
theorem rsV_eq {N : Nat} {t : Tr} {e : Env} (hs : SimN N t e) (h : Heap) (x : RS) : rsV t h x = x.ev e h := by
  cases x with
  | t n => exact hs.1 n
  | c n g s => simp only [rsV, RS.ev, hs.1 n]
theorem rssV_eq {N : Nat} {t : Tr} {e : Env} (hs : SimN N t e) (h : Heap) (l : List RS) : rssV t h l = resV e h l := by
  have hm : ∀ l : List RS, l.map (rsV t h) = l.map (RS.ev e h) := fun l => List.map_congr_left fun x _ => rsV_eq hs h x
  match l with
  | [] => rfl
  | [x] => exact rsV_eq hs h x
  | x :: y :: r => simp only [rssV, resV]; rw [hm]
theorem letGo_ok {h : Heap} {args : List PV} {v : PV} {h' : Heap} (ok : HOk h') : HOk (letGo h args v h') ∧ (letGo h args v h').top = h'.top ∧ (letGo h args v h').le h' := by
  unfold letGo
  cases PV.clsB args && v.clB
  · exact ⟨ok, rfl, ok.le_refl⟩
  · simp only [cond_true]
    have h1 := HL.dec_only (fun k => Nat.blt k h.top) ok
    refine ⟨h1, by trivial, Nat.le_refl _, HL.le_self h1 fun k _ => ?_⟩
    show HL.get (HL.only _ h'.l) k = HL.get h'.l k ∨ _
    rw [HL.get_only _ ok]
    split
    · exact .inl rfl
    · exact .inr rfl
theorem callX_ok {P : Program} {ex : EX} {T : Nat → Option FnD} (hT : TOk P T) (hh : HExOk ex) (he : VExOk P ex) : CallOk P (callX ex T) := by
  intro f args h v h' H ok
  unfold callX at H
  split at H
  case h_2 => cases H
  rename_i d hd
  obtain ⟨hb, H⟩ := of_bif H
  simp only [Bool.and_eq_true] at hb
  have hn : args.length ≤ d.n := Nat.le_of_ble_eq_true hb.1
  have hN : d.n ≤ 1000 := Nat.le_of_ble_eq_true hb.2
  obtain ⟨fn, c, f1, f2, f3, f4, f5, f6⟩ := hT f d hd
  have fin : ∀ (x : Exit) t' h1, (x = .normal ∨ x = .ret) → ex d.vc (argTr 0 args .lf) h = some (x, t', h1) → d.rs.all (rsB t' h1) = true → rssV t' h1 d.rs = v → letGo h args (rssV t' h1 d.rs) h1 = h' →
      (∀ K : PV → Heap → Prop, K v h' → ACall P f args h K) ∧ HOk h' ∧ h.top ≤ h'.top := by
    intro x t' h1 hx H1 H2 H3 H4
    subst H3
    obtain ⟨ok1, top1⟩ := hh _ _ _ _ _ _ H1 ok
    obtain ⟨l1, l2, l3⟩ := letGo_ok (h := h) (args := args) (v := rssV t' h1 d.rs) ok1
    rw [H4] at l1 l2 l3
    refine ⟨fun K hk => ?_, l1, by omega⟩
    refine ACall.drop (ACall_fn f1 f2 f3 f4 (by omega) f6 ?_)
    rw [← f5]
    refine he d.vc _ h x t' h1 H1 d.n hN _ (argTr_simN hN args hn) ok _ fun e' hs' => ?_
    have hr : resOk e' h1 d.rs ∧ ∃ h0, h0.le h1 ∧ K (resV e' h1 d.rs) h0 := ⟨rsB_ok hs' h1 H2, h', l3, by rw [← rssV_eq hs']; exact hk⟩
    rcases hx with rfl | rfl
    · exact hr
    · exact hr
  split at H
  · rename_i t' h1 H1
    obtain ⟨H2, H3⟩ := of_bif H
    simp only [Option.some.injEq, Prod.mk.injEq] at H3
    exact fin .normal t' h1 (.inl rfl) H1 H2 H3.1 H3.2
  · rename_i t' h1 H1
    obtain ⟨H2, H3⟩ := of_bif H
    simp only [Option.some.injEq, Prod.mk.injEq] at H3
    exact fin .ret t' h1 (.inr rfl) H1 H2 H3.1 H3.2
  · cases H
theorem exec_ok {P : Program} {T : Nat → Option FnD} (hT : TOk P T) : ∀ n, HExOk (exec T n) ∧ VExOk P (exec T n) ∧ LExOk P (exec T n)
  | 0 => ⟨fun _ _ _ _ _ _ H => (by cases H), fun _ _ _ _ _ _ H => (by cases H), fun _ _ _ _ _ _ H => (by cases H)⟩
  | n + 1 => by
    obtain ⟨i1, i2, i3⟩ := exec_ok hT n
    have hc := callX_ok hT i1 i2
    have hl : LExOk P (stepVC (exec T n) (callX (exec T n) T)) := stepVC_loop i1 i2 i3
    exact ⟨stepVC_heap i1 hc.heap, stepVC_ok i1 i2 hl hc, hl⟩
/-- WHAT A RUN GIVES: the call of f on arguments that name no block. -/
def runX (T : Nat → Option FnD) (n f : Nat) (args : List PV) : Option PV := pcallX (callX (exec T n) T) Heap.nil f args
theorem run_pcall {P : Program} {T : Nat → Option FnD} (hT : TOk P T) (n : Nat) {f : Nat} {args : List PV} {p : PV} (hcl : PV.clsB args = true) (H : runX T n f args = some p) : PCall P f args p := by
  obtain ⟨i1, i2, i3⟩ := exec_ok hT n
  unfold runX pcallX at H
  rw [hcl] at H
  simp only [cond_true] at H
  split at H
  · rename_i r h' hr
    exact pcall_of (callX_ok hT i1 i2) hcl hr H
  · cases H
/-- A table, row by row. -/
def tab : List (Nat × FnD) → Nat → Option FnD
  | [], _ => none
  | (k, d) :: r, f => bif Nat.beq f k then some d else tab r f
theorem tab_ok {P : Program} : ∀ {l : List (Nat × FnD)}, (∀ x ∈ l, FnOk P x.1 x.2) → TOk P (tab l)
  | [], _ => fun f d h => by cases h
  | (k, d) :: r, H => fun f d' h => by
    simp only [tab] at h
    cases hb : Nat.beq f k with
    | true =>
      rw [hb] at h
      simp only [cond_true, Option.some.injEq] at h
      obtain rfl := Nat.eq_of_beq_eq_true hb
      subst h
      exact H (f, d) (List.mem_cons_self ..)
    | false =>
      rw [hb] at h
      exact tab_ok (fun x hx => H x (List.mem_cons_of_mem _ hx)) f d' h
theorem TOk_nil {P : Program} : ∀ x ∈ ([] : List (Nat × FnD)), FnOk P x.1 x.2 := fun x hx => by cases hx
theorem TOk_cons {P : Program} {k : Nat} {d : FnD} {l : List (Nat × FnD)} (h : FnOk P k d) (hl : ∀ x ∈ l, FnOk P x.1 x.2) : ∀ x ∈ (k, d) :: l, FnOk P x.1 x.2 := by
  intro x hx
  rcases List.mem_cons.1 hx with rfl | hx
  · exact h
  · exact hl x hx
end Go.VM


namespace Go.VM
open Go
/-- The walk: what all writers wait for looks at the heap as it was, indexing too; the rest looks at nothing. -/
def DrawH (P : Program) (h0 : Heap) (late : List Bool) : Nat → List VOper → (Env → Heap → Prop) → Env → Heap → Prop
  | _, [], K, e, h => K e h
  | k, o :: r, K, e, h => match o.op with
    | .store s a v => o.guard = none ∧ StepW P e h (.store s a v) (fun v h' => DrawH P h0 late (k + 1) r K (e.put o.dst v) h')
    | .mapset kk m a v => o.guard = none ∧ StepW P e h (.mapset kk m a v) (fun v h' => DrawH P h0 late (k + 1) r K (e.put o.dst v) h')
    | op => match op.simple, o.guard with
      | true, _ => False
      | false, none => QW P (if late.getD k false then h0 else if op.isIaddr then h0 else ⟨[], h0.top⟩) e op true (fun v => DrawH P h0 late (k + 1) r K (e.put o.dst v) h)
      | false, some (d, want) => (match (generalizing := false) guardOf want (e.get d) with
        | some c => QW P (if late.getD k false then h0 else if op.isIaddr then h0 else ⟨[], h0.top⟩) e op c (fun v => DrawH P h0 late (k + 1) r K (e.put o.dst v) h)
        | none => False)
theorem QW.mono {P : Program} {hq : Heap} {e : Env} {op : VOp} {c : Bool} {K1 K2 : PV → Prop} (hk : ∀ v, K1 v → K2 v) (H : QW P hq e op c K1) : QW P hq e op c K2 := by
  unfold QW at H ⊢
  split at H
  · exact ⟨H.1, hk _ H.2⟩
  · obtain ⟨v, v1, v2⟩ := H
    exact ⟨v, v1, hk _ v2⟩
theorem shp_storeV {mid h : Heap} (hm : Shp mid h) (a v : PV) : Shp mid (storeV h a v) := by
  unfold storeV
  split
  · split
    · rename_i id i off _ fz z es hg
      exact shp_set hm hg (fun fz' z' es' hh => by simp only [AB.arr.injEq] at hh; obtain ⟨_, rfl, _⟩ := hh; exact ⟨_, _, rfl⟩)
    · exact hm
  · exact hm
theorem shp_mapsetV {mid h : Heap} {m : PV} (hm : Shp mid h) (hh : mapHas h m) (a v : PV) : Shp mid (mapsetV h m a v) := by
  unfold mapsetV
  split
  · rename_i id
    simp only [mapHas] at hh
    split at hh
    · rename_i es hg
      exact shp_set hm hg (fun fz z es' hh => by cases hh)
    · exact hh.elim
  · exact hm
theorem DrawH.quiet {P : Program} {h0 : Heap} {late : List Bool} {k : Nat} {r : List VOper} {K : Env → Heap → Prop} {e : Env} {h : Heap} {dst : Option Nat} {op : VOp} {gd' : Option (Nat × Bool)} {hqf : Nat → Heap} {Z : Nat → Heap → Heap → Prop}
    (hqk : hqf k = if late.getD k false then h0 else if op.isIaddr then h0 else ⟨[], h0.top⟩) (ih : ∀ e, DrawH P h0 late (k + 1) r K e h → DrawG P hqf Z (k + 1) r K e h)
    (hs : op.simple = false) (H : match (generalizing := false) op.simple, gd' with
      | true, _ => False
      | false, none => QW P (if late.getD k false then h0 else if op.isIaddr then h0 else ⟨[], h0.top⟩) e op true (fun v => DrawH P h0 late (k + 1) r K (e.put dst v) h)
      | false, some (d, want) => (match (generalizing := false) guardOf want (e.get d) with
        | some c => QW P (if late.getD k false then h0 else if op.isIaddr then h0 else ⟨[], h0.top⟩) e op c (fun v => DrawH P h0 late (k + 1) r K (e.put dst v) h)
        | none => False)) : DrawG P hqf Z k (⟨dst, op, gd'⟩ :: r) K e h := by
  rw [hs] at H
  simp only [DrawG, hs, hqk]
  cases gd' with
  | none => exact H.mono fun v hv => ih _ hv
  | some dw =>
    obtain ⟨d, want⟩ := dw
    simp only at H ⊢
    cases hg : guardOf want (e.get d) with
    | none => rw [hg] at H; exact H.elim
    | some c => rw [hg] at H; exact QW.mono (fun v hv => ih _ hv) H
theorem DrawH.toG {P : Program} {q0 : List VOper} {h0 : Heap} {late : List Bool} {K : Env → Heap → Prop} : ∀ {q : List VOper} {k : Nat} {e : Env} {h : Heap}, (∀ j, q[j]? = q0[k + j]?) → h.top ≤ h0.top → DrawH P h0 late k q K e h →
    DrawG P (hq3 q0 late h0 h0 ⟨[], h0.top⟩) (zed3 q0 h0 h0 ⟨[], h0.top⟩) k q K e h
  | [], _, _, _, _, _, H => H
  | ⟨dst, op, gd'⟩ :: r, k, e, h, hq, ht, H => by
    have h0' : q0[k]? = some ⟨dst, op, gd'⟩ := by simpa using (hq 0).symm
    have hq1 : ∀ j, r[j]? = q0[(k + 1) + j]? := fun j => by have := hq (j + 1); simpa [Nat.add_assoc, Nat.add_comm 1 j] using this
    have hwk : writesAt q0 k = op.writes := by simp [writesAt, h0']
    have hqk : hq3 q0 late h0 h0 ⟨[], h0.top⟩ k = if late.getD k false then h0 else if op.isIaddr then h0 else ⟨[], h0.top⟩ := by simp only [hq3, h0']
    cases op
    case store s a v =>
      obtain ⟨hg, hok, hk⟩ := H
      have hg' : gd' = none := hg
      subst hg'
      have htop : (storeV h (a.ev e) (v.ev e)).top ≤ h0.top := by rw [storeV_top]; exact ht
      exact ⟨hok, ⟨⟨htop, trivial⟩, (fun hw => by rw [hwk] at hw; cases hw), fun hm => shp_storeV hm _ _⟩, DrawH.toG hq1 htop hk⟩
    case mapset kk m a v =>
      obtain ⟨hg, hok, hok2, hk⟩ := H
      have hg' : gd' = none := hg
      subst hg'
      have htop : (mapsetV h (m.ev e) (a.ev e) (v.ev e)).top ≤ h0.top := by rw [mapsetV_top]; exact ht
      exact ⟨hok, hok2, ⟨⟨htop, trivial⟩, (fun hw => by rw [hwk] at hw; cases hw), fun hm => shp_mapsetV hm hok _ _⟩, DrawH.toG hq1 htop hk⟩
    case mv a => unfold DrawH at H; exact DrawH.quiet hqk (fun e H => DrawH.toG hq1 ht H) rfl H
    all_goals
      unfold DrawH at H
      first
      | exact DrawH.quiet hqk (fun e H => DrawH.toG hq1 ht H) rfl H
      | (exfalso; clear hqk hwk h0' hq; revert H; cases gd' <;> exact id)
theorem VW_draw2H {P : Program} {N : Nat} {Q : Exit → Env → Heap → Prop} {e : Env} {h : Heap} {q : List VOper} {late : List Bool} (l : List Nat) (hl : h.le h) (H : DrawH P h late 0 q (fun e' h' => Q .normal (Env.keep l e') h') e h) : VW P N (.draw2 q late) Q e h :=
  VW_draw2 l h h ⟨[], h.top⟩ hl ⟨Nat.le_refl _, trivial⟩ (fun id fz z es e => ⟨fz, es, e⟩) (H.toG (fun j => by simp) (Nat.le_refl _))
end Go.VM


namespace Go.VM
open Go
section
variable {P : Program} {f : FuncId} {args : List PV} {h : Heap} {K : PV → Heap → Prop}
theorem frz_evo {g : Gh} {w : World} {h : Heap} : Evo g w h (frz g w h) w ⟨[], h.top⟩ :=
  ⟨frz_le g w h, rfl, rfl, rfl, Nat.le_refl _, fun _ _ _ => rfl,
   fun b o v e => by rcases frzM_inv e with h1 | ⟨h1, _⟩
                     · exact .inl h1
                     · exact .inr (.inr h1),
   fun b e he => by rcases frzMM_inv he with h1 | ⟨h1, _⟩
                    · exact .inl h1
                    · exact .inr (.inr h1),
   fun b ⟨id, ab, x, h1, _⟩ => by simp [Heap.get, HL.get] at h1⟩
/-- The whole heap is frozen ahead of the call; what was made is handed on as a value. -/
theorem ACall_f (q : List PV) (hv : Views h args q) (H : ACall P f q ⟨[], h.top⟩ K) : ACall P f args h K := by
  refine ⟨H.1, fun g w vals r ha => (H.2 (frz g w h) w vals (frz_rel r) (hv.args r ha)).mono ?_⟩
  rintro x w' ⟨v, p, g', h', h1, h2, h3, h4, h5⟩
  exact ⟨v, p, g', h', h1, h2, h3, h4, frz_evo.trans h5⟩
theorem ACall.weakenL {h0 : Heap} (hl : h0.le h) (H : ACall P f args h0 K) : ACall P f args h K :=
  ⟨H.1, fun g w vals r ha => (H.2 g w vals (r.weaken hl) ha).mono fun x w' ⟨v, p, g', h', h1, h2, h3, h4, h5⟩ => ⟨v, p, g', h', h1, h2, h3, h4, h5.weakenL hl⟩⟩
end
end Go.VM


namespace Go.VM
open Go
theorem reach_sl {H : Type} {P : Program} {ts : List TypeId} {ds : List (DataW H)} (hz : (DataW.weightsEach P ts ds).all (· ≤ reachBytes) = true) (j : Nat) {t e : TypeId} {d : DataW H} (ht : ts[j]? = some t) (hd : ds[j]? = some d)
    (hu : P.underlying t = some (.slice e)) {n : Nat} (hn : P.bytesOf e = n) {W : World} {en : TypeId × Value → H} {base : Nat} {spare : Nat → Bool} {held : Bool} {v : Value} {ps : List MemPlace} (h : DataW.Trod en P W base spare held t v d ps)
    (hc : v.cells = #[v]) {g : Gh} {z : Nat} {es : List (List PV)} (hrep : Rep g v (.sl z es)) : es.length * n ≤ 140737488351232 := by
  obtain ⟨fuel, hx⟩ := h
  rw [hc] at hx
  rcases DataW.trod_slice hu hx with ⟨hcs, hxx⟩ | ⟨a, len, cap, elems, rest, m, hm, hcs, hxx, hb, hlc, hcap, hel, _⟩
  · have hv : v = .slice none 0 0 := by simpa using hcs
    subst hv
    cases hrep
    simp
  · have hv : v = .slice (some a) len cap := by simpa using hcs
    subst hv
    have hdd : d = .slice (elems.map (·.1)) (rest.map (·.1)) := congrArg Prod.fst hxx
    subst hdd
    have h1 := sized_slice hz ht hd hu
    rw [hn] at h1
    have h2 : es.length ≤ len := by
      cases hrep with
      | slE => simp
      | sl _ _ _ _ _ _ _ _ _ hl => omega
    have h3 : es.length * n ≤ (elems.length + rest.length) * n := Nat.mul_le_mul_right _ (by omega)
    have h4 : (elems.length + rest.length) * n ≤ reachBytes := by simpa using h1
    have h5 : reachBytes = 140737488351232 := rfl
    omega
/-! ### the whole heap frozen, in the midst of a walk -/
/-- Cell by cell: a pointer into the heap. -/
theorem View.locV {h : Heap} {id i off z : Nat} {fz : Bool} {es : List (List PV)} {q : List PV} (hg : h.get id = some (.arr fz z es)) (hi : i < es.length) (hl : q.length + off ≤ z) (hv : ∀ j, j < q.length → View h (PV.nth (PV.row es i) (off + j)) (PV.nth q j)) : View h (.loc id i off) (.ro q) := by
  intro g w v r hr
  cases hr with
  | loc _ _ _ b o n z' a hb ha =>
    subst ha
    rcases r.blk id _ hg with ⟨hb0, _⟩ | ⟨b', o', n', z'', hb', hlt, hlive, hok⟩
    · rw [hb] at hb0; cases hb0
    · rw [hb] at hb'
      simp only [Option.some.injEq, Prod.mk.injEq] at hb'
      obtain ⟨rfl, rfl, rfl, rfl⟩ := hb'
      obtain ⟨rfl, hz, hle', c, ty, h1, h2, h3⟩ := hok
      refine .ro b (o + i * z + off) _ _ (fun j => c.getD (o + i * z + (off + j)) Go.undef) rfl (fun j hj => ?_) (fun j hj => ?_)
      · obtain ⟨e1, e2, e3⟩ := h3 i (off + j) hi (by omega)
        rw [show o + i * z + off + j = o + i * z + (off + j) by omega]
        cases fz
        · have hin : o + i * z + (off + j) < c.size := by
            have := rows_bound (n := es.length) (z := z) hi (show off + j < z by omega)
            omega
          exact frzM_new ((hlive rfl).1 _) hg hb rfl (by simp [World.cell?, h1, hin, Array.getD]) e1
        · exact frzM_old (e3 rfl)
      · obtain ⟨e1, e2, e3⟩ := h3 i (off + j) hi (by omega)
        exact hv j hj g w _ r e2
theorem View.loc {h : Heap} {id i z : Nat} {fz : Bool} {es : List (List PV)} {q : List PV} (hg : h.get id = some (.arr fz z es)) (hi : i < es.length) (hq : PV.row es i = q) (hl : q.length ≤ z) : View h (.loc id i 0) (.ro q) :=
  View.locV hg hi (by omega) (fun j hj => by rw [hq, Nat.zero_add]; exact View.refl _ _)
/-- Cell by cell: a slice of the heap. -/
theorem View.ownV {h : Heap} {id off len z : Nat} {fz : Bool} {es q : List (List PV)} (hg : h.get id = some (.arr fz z es)) (hle : off + len ≤ es.length) (hq : q.length = len) (hqz : ∀ i, i < len → (PV.row q i).length = z)
    (hv : ∀ i j, i < len → j < z → View h (PV.nth (PV.row es (off + i)) j) (PV.nth (PV.row q i) j)) : View h (.own id off len) (.sl z q) := by
  intro g w v r hv'
  cases hv' with
  | ownE ao =>
    have : q = [] := List.eq_nil_of_length_eq_zero hq
    subst this; exact .slE _ _ _
  | own _ _ _ cap b o n z' a hb ha hc hn =>
    subst ha
    rcases r.blk id _ hg with ⟨hb0, _⟩ | ⟨b', o', n', z'', hb', hlt, hlive, hok⟩
    · rw [hb] at hb0; cases hb0
    · rw [hb] at hb'
      simp only [Option.some.injEq, Prod.mk.injEq] at hb'
      obtain ⟨rfl, rfl, rfl, rfl⟩ := hb'
      obtain ⟨rfl, hz, hle', c, ty, h1, h2, h3⟩ := hok
      refine .sl b (o + off * z) len cap z _ _ (fun i j => c.getD (o + (off + i) * z + j) Go.undef) rfl hq hc hqz (fun i j hi hj => ?_) (fun i j hi hj => ?_)
      · obtain ⟨e1, e2, e3⟩ := h3 (off + i) j (by omega) hj
        have e4 : o + off * z + i * z + j = o + (off + i) * z + j := by rw [Nat.add_mul]; omega
        rw [e4]
        cases fz
        · have hin : o + (off + i) * z + j < c.size := by
            have := rows_bound (n := es.length) (z := z) (show off + i < es.length by omega) hj
            omega
          exact frzM_new ((hlive rfl).1 _) hg hb rfl (by simp [World.cell?, h1, hin, Array.getD]) e1
        · exact frzM_old (e3 rfl)
      · obtain ⟨e1, e2, e3⟩ := h3 (off + i) j (by omega) hj
        exact hv i j hi hj g w _ r e2
theorem View.own_all {h : Heap} {id z n : Nat} {fz : Bool} {es : List (List PV)} (hg : h.get id = some (.arr fz z es)) (hn : n = es.length) : View h (.own id 0 n) (.sl z es) := by
  have hv := View.own (off := 0) (len := n) hg (by omega)
  rw [List.drop_zero, hn, List.take_length] at hv
  rw [hn]; exact hv
theorem View.fn {h : Heap} {f : Fn} {pf pc qf qc : List PV} (h1 : pf.length = qf.length) (h2 : pc.length = qc.length) (hf : ∀ j, j < qf.length → View h (PV.nth pf j) (PV.nth qf j)) (hc : ∀ j, j < qc.length → View h (PV.nth pc j) (PV.nth qc j)) : View h (.fn f pf pc) (.fn f qf qc) := by
  intro g w v r hr
  cases hr with
  | fn _ fs cs _ _ s1 s2 r1 r2 => exact .fn f fs cs qf qc (by omega) (by omega) (fun j hj => hf j hj g w _ r (r1 j (by omega))) (fun j hj => hc j hj g w _ r (r2 j (by omega)))
theorem View.agg {h : Heap} {l q : List PV} (hl : l.length = q.length) (hv : ∀ j, j < q.length → View h (PV.nth l j) (PV.nth q j)) : View h (.agg l) (.agg q) := by
  intro g w v r hr
  obtain ⟨vs, rfl, hs, h1, hrr⟩ := hr.agg_inv
  exact .agg _ _ (by omega) (fun j hj => h1 j (by omega)) (fun j hj => hv j hj g w _ r (hrr j (by omega)))
theorem View.any (h : Heap) (r : PV) : View h r .any := fun _ _ v _ _ => .any v
/-- Each slot of e', seen. -/
def EView (h : Heap) (e : Env) : Env → Prop
  | [] => True
  | (k, p) :: r => View h (e.get k) p ∧ EView h e r
theorem EView.rep {g : Gh} {w : World} {h : Heap} (r : Rel g w h) {a : Act} {e : Env} (he : EnvRep g a e) : ∀ {e' : Env}, EView h e e' → EnvRep (frz g w h) a e'
  | [], _ => fun _ => .any _
  | (k, p) :: q, hv => fun t => by
    by_cases e1 : k = t
    · subst e1
      simp only [Env.get, if_true]
      exact hv.1 g w _ r (he k)
    · simp only [Env.get, if_neg e1]
      exact EView.rep r he hv.2 t
section
variable {P : Program} {N : Nat} {Q : Exit → Env → Heap → Prop} {e : Env} {h : Heap}
/-- From here on all that was made is read only. -/
theorem VW_freeze {c : VC} (e' : Env) (hv : EView h e e') (H : VW P N c Q e' ⟨[], h.top⟩) : VW P N c Q e h := by
  intro x hx g w a r hr hd hs
  refine wp_mono (H x hx (frz g w h) w a (frz_rel r) (hv.rep r hr) hd hs) fun ex a' w' ⟨g', e1, h', k1, k2, k3, k4, k5, k6⟩ => ⟨g', e1, h', k1, k2, k3, k4, k5, frz_evo.trans k6⟩
end
end Go.VM


namespace Go.VM
open Go
theorem DrawG.monoZ {P : Program} {hqf hqf' : Nat → Heap} {Z Z' : Nat → Heap → Heap → Prop} (hh : hqf = hqf') (hZ : ∀ k h h', Z k h h' → Z' k h h') {K : Env → Heap → Prop} : ∀ {q : List VOper} {k : Nat} {e : Env} {h : Heap}, DrawG P hqf Z k q K e h → DrawG P hqf' Z' k q K e h
  | [], _, _, _, H => H
  | o :: r, k, e, h, H => by
    subst hh
    simp only [DrawG] at H ⊢
    split at H
    · exact H.mono fun v h' kk => ⟨hZ _ _ _ kk.1, DrawG.monoZ rfl hZ kk.2⟩
    · exact H.elim
    · exact QW.mono (fun v hv => DrawG.monoZ rfl hZ hv) H
    · split at H
      · exact QW.mono (fun v hv => DrawG.monoZ rfl hZ hv) H
      · exact H.elim
theorem VW_draw2E {P : Program} {N : Nat} {Q : Exit → Env → Heap → Prop} {e : Env} {h : Heap} {q : List VOper} {late : List Bool} (T : Nat) (l : List Nat) (hT : h.top ≤ T) (H : DrawW P ⟨[], T⟩ q (fun e' h' => Q .normal (Env.keep l e') h') e h) : VW P N (.draw2 q late) Q e h := by
  have hs : ∀ h', Shp ⟨[], T⟩ h' := fun h' id fz z es hg => by simp [Heap.get, HL.get] at hg
  refine VW_draw2 l ⟨[], T⟩ ⟨[], T⟩ ⟨[], T⟩ ⟨hT, trivial⟩ ⟨hT, trivial⟩ (hs h) (DrawG.monoZ (hqf := fun _ => ⟨[], T⟩) (funext fun i => ?_) (fun k h h' hz => ⟨hz, fun _ _ => hz, fun _ => hs h'⟩) H.toG)
  simp only [hq3]
  split <;> (try split) <;> (try split) <;> rfl
theorem VW_drawE {P : Program} {N : Nat} {Q : Exit → Env → Heap → Prop} {e : Env} {h : Heap} {q : List VOper} (T : Nat) (l : List Nat) (hT : h.top ≤ T) (H : DrawW P ⟨[], T⟩ q (fun e' h' => Q .normal (Env.keep l e') h') e h) : VW P N (.region q true) Q e h :=
  VW_draw l ⟨[], T⟩ ⟨hT, trivial⟩ H
/-- The ways through a branch brought together. -/
def midQ {σ : Type} (st : σ → Env × Heap) (Q : Exit → Env → Heap → Prop) : Exit → Env → Heap → Prop
  | .normal, e, h => ∃ s, (st s).1.le e ∧ (st s).2.le h
  | x, e, h => Q x e h
theorem VW_mid {P : Program} {N : Nat} {Q Q1 : Exit → Env → Heap → Prop} {e : Env} {h : Heap} {c y : VC} {σ : Type} (st : σ → Env × Heap) (H1 : VW P N c (midQ st Q) e h) (H2 : ∀ s, VW P N y Q1 (st s).1 (st s).2) : VW P N c (thenQ (VW P N y Q1) Q) e h :=
  H1.mono fun x e h hx => by
    cases x with
    | normal =>
      obtain ⟨s, a, b⟩ := hx
      exact VW.weaken a b (H2 s)
    | _ => exact hx
end Go.VM


namespace Go.VM
open Go
theorem memExt_below {g : Gh} {w w' : World} {h : Heap} (r : Rel g w h) (hb : RowKit.Below w.heap.size w w') : MemExt g w g.m w' := by
  have hin : ∀ {b : Nat} {x : Obj}, w.heap[b]? = some x → w'.heap[b]? = w.heap[b]? := fun {b x} e => hb.block b (by
    by_cases hlt : b < w.heap.size
    · exact hlt
    · rw [Array.getElem?_eq_none (by omega)] at e; cases e)
  refine ⟨fun _ _ _ e => e, fun b o v e => ?_, fun _ _ _ e => .inl e, fun _ _ e => e, fun b e he => ?_, fun _ _ e => .inl e⟩
  · obtain ⟨h1, h2⟩ := r.mem b o v e
    refine ⟨?_, h2⟩
    unfold World.cell? at h1 ⊢
    cases hh : w.heap[b]? with
    | none => rw [hh] at h1; cases h1
    | some x => rw [hin hh]; exact h1
  · have h1 := r.mmem b e he
    obtain ⟨o, h2⟩ := h1.there
    rw [hin h2]; exact h1
/-- A contract of the kit's, its result read off no memory. -/
theorem PCall_of {P : Program} {f : FuncId} {args : List PV} {p : PV} (hf : fnOk P f = true) (hc : ClosedL args)
    (H : ∀ (g : Gh) (w : World) (vals : Array Value), Rel g w Heap.nil → Args g vals args → Calls P f vals w fun e w' => ∃ v, e = .returned v ∧ (∀ g, Rep g v p) ∧ RowKit.Below w.heap.size w w') : PCall P f args p :=
  ⟨hf, hc, fun g w vals r ha => (H g w vals r ha).mono fun x w' ⟨v, h1, h2, h3⟩ => ⟨v, g.m, h1, h2 _, memExt_below r h3, h3⟩⟩
/-- A table of the program's, as the kit's contracts ask for it. -/
theorem var_known {P : Program} {g : Gh} {w : World} {h : Heap} (r : Rel g w h) {b : Nat} {l : List Value} (hl : known.lookup b = some l) {n : String} (hn : P.globalNamed n = some b) : w.var? P n = some l.toArray := by
  obtain ⟨t, fr, h1⟩ := r.mmem b _ (g.m.kn b l hl).1
  simp only [World.var?, hn, Option.bind_some, h1]
theorem args_1 {g : Gh} {vals : Array Value} {p : PV} (h : Args g vals [p]) : ∃ v, vals = #[v] ∧ Rep g v p := by
  obtain ⟨h1, h2⟩ := h
  have := h2 0 (by simp)
  refine ⟨vals[0]'(by simp [h1]), ?_, ?_⟩
  · apply Array.ext
    · simp [h1]
    · intro i hi hj
      have : i = 0 := by simp at hj; omega
      subst this; rfl
  · simpa [Array.getD_eq_getD_getElem?, h1, PV.nth] using this
theorem args_2 {g : Gh} {vals : Array Value} {p q : PV} (h : Args g vals [p, q]) : ∃ v u, vals = #[v, u] ∧ Rep g v p ∧ Rep g u q := by
  obtain ⟨h1, h2⟩ := h
  have a0 := h2 0 (by simp)
  have a1 := h2 1 (by simp)
  refine ⟨vals[0]'(by simp [h1]), vals[1]'(by simp [h1]), ?_, ?_, ?_⟩
  · apply Array.ext
    · simp [h1]
    · intro i hi hj
      have : i = 0 ∨ i = 1 := by simp at hj; omega
      rcases this with rfl | rfl <;> rfl
  · simpa [Array.getD_eq_getD_getElem?, h1, PV.nth] using a0
  · simpa [Array.getD_eq_getD_getElem?, h1, PV.nth] using a1
theorem str_eq {s : ByteArray} {l : List UInt8} (h : s.data.toList = l) : s = ⟨l.toArray⟩ := by
  subst h
  cases s; simp
/-- Strings in memory. -/
theorem strs_cells {g : Gh} {w : World} {h : Heap} (r : Rel g w h) {v : Value} {l : List Str} (hv : Rep g v (It.strs l)) :
    (∃ a cap, v = .slice a 0 cap ∧ l = []) ∨ ∃ b o cap, v = .slice (some ⟨b, o, none⟩) (l.map fun s => (⟨s.toArray⟩ : ByteArray)).length cap ∧ l.length ≤ cap ∧ b < w.heap.size ∧ ∀ (j : Nat) (x : ByteArray), (l.map fun s => (⟨s.toArray⟩ : ByteArray))[j]? = some x → w.cell? ⟨b, o + j, none⟩ = some (.string x) := by
  unfold It.strs at hv
  generalize hes : l.map (fun s => [PV.str s]) = es at hv
  cases hv with
  | slE a cap z => exact .inl ⟨a, cap, rfl, by simpa using hes⟩
  | sl b o len cap z a es vs ha hl hc hz hm hr =>
    subst hes
    subst ha
    have hlen : l.length = len := by simpa using hl
    by_cases h0 : l = []
    · subst h0
      simp at hlen
      subst hlen
      exact .inl ⟨_, _, rfl, rfl⟩
    right
    have cell : ∀ i (hi : i < l.length), w.cell? ⟨b, o + i, none⟩ = some (.string ⟨(l[i]).toArray⟩) := by
      intro i hi
      have h1 := r.mem _ _ _ (hm i 0 (by omega) (by omega))
      have h2 := hr i 0 (by omega) (by omega)
      have e : PV.nth (PV.row (l.map fun s => [PV.str s]) i) 0 = .str l[i] := by simp [PV.row, PV.nth, List.getD_eq_getElem?_getD, hi]
      rw [e] at h2
      obtain ⟨s, hs, hsl⟩ := h2.str_inv
      rw [hs, str_eq hsl] at h1
      simpa using h1.1
    refine ⟨b, o, cap, by simp [hlen], by omega, ?_, fun j x hx => ?_⟩
    · have hpos : 0 < l.length := List.length_pos_iff.2 h0
      have := cell 0 hpos
      unfold World.cell? at this
      by_cases hlt : b < w.heap.size
      · exact hlt
      · simp only [] at this
        rw [Array.getElem?_eq_none (by omega)] at this; cases this
    · rw [List.getElem?_map, Option.map_eq_some_iff] at hx
      obtain ⟨s, hs, rfl⟩ := hx
      obtain ⟨hj, rfl⟩ := List.getElem?_eq_some_iff.1 hs
      exact cell j hj
end Go.VM


namespace Go.VM
open Go
section
variable {P : Program} {N : Nat} {ops : Array Oper} {q : List VOper} {hqf : Nat → Heap} {Z : Nat → Heap → Heap → Prop}
/-- The lexical walk; the c-th operation may do what it likes. -/
def DrawC (P : Program) (hq : Heap) (c : Nat) : Nat → List VOper → (Env → Heap → Prop) → Env → Heap → Prop
  | _, [], K, e, h => K e h
  | k, o :: r, K, e, h => match k == c with
    | true => o.guard = none ∧ StepW P e h o.op (fun v h' => hq.le h' ∧ DrawC P hq c (k + 1) r K (e.put o.dst v) h')
    | false => match o.op.simple, o.guard with
      | true, none => StepW P e h o.op (fun v h' => hq.le h' ∧ DrawC P hq c (k + 1) r K (e.put o.dst v) h')
      | true, some _ => False
      | false, none => QW P hq e o.op true (fun v => DrawC P hq c (k + 1) r K (e.put o.dst v) h)
      | false, some (d, want) => (match guardOf want (e.get d) with
        | some b => QW P hq e o.op b (fun v => DrawC P hq c (k + 1) r K (e.put o.dst v) h)
        | none => False)
/-- All behind the c-th operation read what it gives. -/
def lastB (q : List VOper) (c : Nat) : Bool :=
  match q[c]? with
  | some x => !x.op.simple && !x.op.det && x.guard.isNone && (List.range q.length).all fun j => decide (j ≤ c) || (match q[j]? with | some y => !x.apart y | none => true)
  | none => false
theorem lex_soundC {hq : Heap} {c : Nat} (hlast : lastB q c = true) {K : Env → Heap → Prop} (hK : Inv K) (hlen : ops.size = q.length) : ∀ (l : List VOper) (k : Nat) (listed : Array Bool) (e : Env) (h : Heap), (∀ j, l[j]? = q[k + j]?) → (∀ j, j < k → listed.getD j true = true) →
    drawB ops q l.length k listed = true → (∀ o ∈ q, o.op.closed = true) → DrawC P hq c k l K e h → AAny P ops q (fun _ => hq) (fun _ _ h' => hq.le h') (c :: effIdx q) K l.length listed e h
  | [], _, listed, e, h, _, _, hB, _, H => ⟨by simpa [drawB] using hB, H⟩
  | o :: l, k, listed, e, h, hl, hli, hB, hc, H => by
    have h0 : q[k]? = some o := by simpa using (hl 0).symm
    have hkl : k < q.length := (List.getElem?_eq_some_iff.1 h0).1
    simp only [List.length_cons, drawB, Bool.and_eq_true] at hB
    obtain ⟨⟨⟨hr, hf⟩, _⟩, hB'⟩ := hB
    have hl' : ∀ j, l[j]? = q[(k + 1) + j]? := fun j => by have := hl (j + 1); simpa [Nat.add_assoc, Nat.add_comm 1 j] using this
    have hli' : ∀ j, j < k + 1 → (listed.setIfInBounds k true).getD j true = true := fun j hj => by
      by_cases hjk : k = j
      · subst hjk
        rcases Nat.lt_or_ge k listed.size with h' | h'
        · simp [h']
        · simp [Array.getD_eq_getD_getElem?, Array.getElem?_eq_none (show (listed.setIfInBounds k true).size ≤ k by simpa using h')]
      · rw [getD_set_ne true hjk]; exact hli j (by omega)
    have hEj : ∀ (j : Nat) (oj : VOper), q[j]? = some oj → (j ∈ effIdx q ↔ oj.op.simple = true) := by
      intro j oj hj
      have hjl : j < q.length := (List.getElem?_eq_some_iff.1 hj).1
      simp only [effIdx, List.mem_filter, List.mem_range, effAt, hj]
      exact ⟨fun h => h.2, fun h => ⟨hjl, h⟩⟩
    have hE := hEj k o h0
    -- the c-th
    unfold lastB at hlast
    cases hqc : q[c]? with
    | none => rw [hqc] at hlast; cases hlast
    | some oc =>
    rw [hqc] at hlast
    simp only [Bool.and_eq_true, Bool.not_eq_true', List.all_eq_true, List.mem_range, Bool.or_eq_true, decide_eq_true_eq] at hlast
    obtain ⟨⟨⟨c1, c2⟩, c3⟩, c4⟩ := hlast
    have hlast' : lastB q c = true := by
      unfold lastB
      rw [hqc]
      simp only [Bool.and_eq_true, Bool.not_eq_true', List.all_eq_true, List.mem_range, Bool.or_eq_true, decide_eq_true_eq]
      exact ⟨⟨⟨c1, c2⟩, c3⟩, c4⟩
    have ih : ∀ e' h', DrawC P hq c (k + 1) l K e' h' → AAny P ops q (fun _ => hq) (fun _ _ h' => hq.le h') (c :: effIdx q) K l.length (listed.setIfInBounds k true) e' h' :=
      fun e' h' H' => lex_soundC hlast' hK hlen l (k + 1) _ e' h' hl' hli' hB' hc H'
    refine AAny.first hK hc hlen h0 l.length listed e h ?_ (by simpa using hr) ?_
    · intro j oj goj hj hgj hjk hun hno
      have hjl : j < ops.size := (Array.getElem?_eq_some_iff.1 hgj).1
      have hkj : k < j := by
        rcases Nat.lt_or_ge k j with h' | h'
        · exact h'
        · have := hli j (by omega); rw [hun] at this; cases this
      simp only [freeB, List.all_eq_true, List.mem_range] at hf
      have hfj := hf j hjl
      rw [h0, hj, hun] at hfj
      simp only [hno, Bool.or_false, Bool.or_eq_true, beq_iff_eq, Bool.and_eq_true, Bool.not_eq_true', Bool.and_eq_false_iff] at hfj
      rcases hfj with hfj | hfj
      · exact absurd hfj hjk
      · obtain ⟨⟨g1, g2⟩, g3⟩ := hfj
        by_cases hkc : k = c
        · exfalso
          subst hkc
          rw [h0] at hqc
          simp only [Option.some.injEq] at hqc
          subst hqc
          rcases c4 j (by omega) with h' | h'
          · omega
          · rw [hj] at h'
            simp only [Bool.not_eq_true'] at h'
            rw [g1] at h'; cases h'
        · have kE : k ∈ c :: effIdx q ↔ o.op.simple = true := by simp [hkc, hE]
          refine ⟨g1, fun ⟨x1, x2⟩ => ?_, fun x1 => ?_⟩
          · have s1 := kE.1 x1
            rcases List.mem_cons.1 x2 with x2 | x2
            · subst x2
              rw [hj] at hqc
              simp only [Option.some.injEq] at hqc
              subst hqc
              rcases g3 with g3 | g3
              · rw [s1] at g3; cases g3
              · rw [c2] at g3; cases g3
            · rw [hEj j oj hj] at x2
              rcases g2 with g2 | g2
              · rw [s1] at g2; cases g2
              · rw [x2] at g2; cases g2
          · have x1' := kE.1 x1
            refine ⟨x1', ?_⟩
            rcases g3 with g3 | g3
            · rw [x1'] at g3; cases g3
            · exact g3
    · have hq2 : ∀ b, k ≠ c → gOf o e b → QW P hq e o.op b (fun v => DrawC P hq c (k + 1) l K (e.put o.dst v) h) → o.op.simple = false → AStep P (fun _ => hq) (fun _ _ h' => hq.le h') (c :: effIdx q) k o e h (AAny P ops q (fun _ => hq) (fun _ _ h' => hq.le h') (c :: effIdx q) K l.length (listed.setIfInBounds k true)) := by
        intro b hkc hg hQ hs
        have hnE : k ∉ c :: effIdx q := fun hh => by
          rcases List.mem_cons.1 hh with hh | hh
          · exact hkc hh
          · have := hE.1 hh; rw [hs] at this; cases this
        refine (AStep_q hnE).2 ⟨b, hg, ?_⟩
        unfold QW at hQ
        split at hQ
        · rename_i hd
          exact ⟨_, fun hh => det_quiet hd (hQ.1 hh), ih _ _ hQ.2⟩
        · obtain ⟨v, v1, v2⟩ := hQ
          exact ⟨v, v1, ih _ _ v2⟩
      simp only [DrawC] at H
      split at H
      · rename_i hkc
        exact (AStep_E (List.mem_cons.2 (.inl (by simpa using hkc)))).2 ⟨H.1, H.2.mono fun v h' kk => ⟨kk.1, ih _ _ kk.2⟩⟩
      · rename_i hkc
        have hkc' : k ≠ c := by simpa using hkc
        split at H
        · rename_i hs hg
          exact (AStep_E (List.mem_cons_of_mem _ (hE.2 hs))).2 ⟨hg, H.mono fun v h' kk => ⟨kk.1, ih _ _ kk.2⟩⟩
        · exact H.elim
        · rename_i hs hg
          exact hq2 true hkc' (by simp [gOf, hg]) H hs
        · rename_i hs hg
          split at H
          · rename_i b hgc
            exact hq2 b hkc' (by simp [gOf, hg, hgc]) H hs
          · exact H.elim
/-! One operation of the walk. -/
theorem DrawC_at {P : Program} {hq : Heap} {c : Nat} {dst : Option Nat} {op : VOp} {r : List VOper} {K : Env → Heap → Prop} {e : Env} {h : Heap} : DrawC P hq c c (⟨dst, op, none⟩ :: r) K e h = StepW P e h op (fun v h' => hq.le h' ∧ DrawC P hq c (c + 1) r K (e.put dst v) h') := by
  simp only [DrawC, beq_self_eq_true, true_and]
theorem DrawC_n {P : Program} {hq : Heap} {c k : Nat} {dst : Option Nat} {op : VOp} {r : List VOper} {K : Env → Heap → Prop} {e : Env} {h : Heap} (hk : (k == c) = false) : DrawC P hq c k (⟨dst, op, none⟩ :: r) K e h = (match op.simple with
    | true => StepW P e h op (fun v h' => hq.le h' ∧ DrawC P hq c (k + 1) r K (e.put dst v) h')
    | false => QW P hq e op true (fun v => DrawC P hq c (k + 1) r K (e.put dst v) h)) := by
  cases hs : op.simple <;> simp only [DrawC, hk, hs]
theorem DrawC_nil {P : Program} {hq : Heap} {c k : Nat} {K : Env → Heap → Prop} {e : Env} {h : Heap} : DrawC P hq c k [] K e h = K e h := rfl
theorem VW_draw2C {Q : Exit → Env → Heap → Prop} {e : Env} {h : Heap} {late : List Bool} (c : Nat) (T : Nat) (l : List Nat) (hlast : lastB q c = true) (hT : h.top ≤ T)
    (H : DrawC P ⟨[], T⟩ c 0 q (fun e' h' => Q .normal (Env.keep l e') h') e h) : VW P N (.draw2 q late) Q e h := by
  intro cc hc
  cases cc
  case region id ops draw =>
    obtain ⟨p, h3, h' | h' | h'⟩ := cCode_region hc
    · obtain ⟨_, h'⟩ := h'
      simp at h'
    · obtain ⟨hd, hB, h' | h'⟩ := h'
      · obtain ⟨_, h'⟩ := h'
        cases h'
      · simp only [VC.draw2.injEq] at h'
        obtain ⟨h', _⟩ := h'
        subst h'
        subst hd
        simp only [Bool.and_eq_true] at hB
        obtain ⟨hm, hB⟩ := hB
        obtain ⟨hlen, _⟩ := cOpers_get h3
        rw [Array.length_toList] at hlen
        have hcl : ∀ o ∈ q, o.op.closed = true := by
          cases q with
          | nil => intro o ho; cases ho
          | cons x xs =>
            rw [hlen] at hB
            simp only [List.length_cons, drawB, Bool.and_eq_true] at hB
            exact fun o ho => List.all_eq_true.1 hB.1.2 o ho
        intro g w a r he hd hs
        refine wp_region_any hm ?_
        have hany := lex_soundC (P := P) hlast (K := fun e' h' => Q .normal (Env.keep l e') h') (fun e1 e2 h1 hee hk => by have hk' : Q .normal (Env.keep l e1) h1 := hk; rw [keep_eqv hee l] at hk'; exact hk') hlen q 0 (Array.replicate ops.size false) e h (fun j => by simp) (fun j hj => absurd hj (Nat.not_lt_zero _)) (by rw [← hlen]; exact hB) hcl H
        rw [← hlen] at hany
        exact any_sound (N := N) h3 (fun _ h => Heap.le ⟨[], T⟩ h) (fun _ _ _ _ hi _ _ _ => .inl hi) (fun _ _ _ hi _ _ => hi) (fun _ _ _ _ _ _ _ hz => hz) (Q := fun x a' w' => ∃ g' e' h', Q x e' h' ∧ Rel g' w' h' ∧ EnvRep g' a' e' ∧ a'.defers = [] ∧ a'.tmps.size = N ∧ Evo g w h g' w' h') (g0 := g) (w0 := w) (h0 := h)
          (fun g' w' h' a' e' k1 k2 k3 k4 k5 k6 => ⟨g', _, h', k1, k2, k3.keep l, k4, k5, k6⟩) _ _ e h hany ⟨hT, trivial⟩ g _ a (r.drew _) he hd hs (Evo.drew _ _ _ _)
    · obtain ⟨c, h'⟩ := h'; cases h'
  all_goals
    simp only [cCode, Option.map_eq_some_iff] at hc
    first
    | (simp at hc; done)
    | (split at hc <;> simp at hc)
end
end Go.VM


namespace Go.VM
open Go
theorem HL.get_append (l m : List (Nat × AB)) (t : Nat) : HL.get (l ++ m) t = match HL.get l t with | some x => some x | none => HL.get m t := by
  induction l with
  | nil => rfl
  | cons x r ih =>
    obtain ⟨k, v⟩ := x
    simp only [List.cons_append, HL.get]
    split
    · rfl
    · exact ih
theorem HL.get_app_l {l m : List (Nat × AB)} {t : Nat} {x : AB} (h : HL.get l t = some x) : HL.get (l ++ m) t = some x := by rw [HL.get_append, h]
theorem HL.get_app_r {l m : List (Nat × AB)} {t : Nat} (h : HL.get l t = none) : HL.get (l ++ m) t = HL.get m t := by rw [HL.get_append, h]
/-- What is asked of the heap beside: names of its own, no block without cells. -/
structure Beside (l1 l2 : List (Nat × AB)) : Prop where
  apart : ∀ id ab, HL.get l2 id = some ab → HL.get l1 id = none
  cells : ∀ id fz z, HL.get l2 id ≠ some (.arr fz z [])
theorem frame_rel {g g' : Gh} {w w' : World} {l1 l2 : List (Nat × AB)} {t : Nat} {h' : Heap} (hb : Beside l1 l2) (r : Rel g w ⟨l1 ++ l2, t⟩) (r' : Rel g' w' h') (ev : Evo g w ⟨l1, t⟩ g' w' h')
    (ht : t ≤ h'.top) (hn : ∀ id, (HL.get l2 id).isSome = true → h'.get id = none) (hl : ∀ id ab, h'.get id = some ab → ab.live = true) :
    Rel g' w' ⟨h'.l ++ l2, h'.top⟩ ∧ Evo g w ⟨l1 ++ l2, t⟩ g' w' ⟨h'.l ++ l2, h'.top⟩ := by
  have hsub : ∀ b, Owned g ⟨l1, t⟩ b → Owned g ⟨l1 ++ l2, t⟩ b := fun b ⟨id, ab, x, e, k⟩ => ⟨id, ab, x, HL.get_app_l e, k⟩
  have old : ∀ id ab, HL.get l2 id = some ab → ∃ b o n z, g.β id = some (b, o, n, z) ∧ b < w.heap.size ∧ (ab.live = true → g.free b) ∧ ab.ok g w b o n z ∧ ¬ Owned g ⟨l1, t⟩ b := by
    intro id ab e
    have e1 : (⟨l1 ++ l2, t⟩ : Heap).get id = some ab := by
      show HL.get (l1 ++ l2) id = some ab
      rw [HL.get_app_r (hb.apart id ab e)]; exact e
    rcases r.blk id ab e1 with ⟨_, fz, z, h2⟩ | ⟨b, o, n, z, k1, k2, k3, k4⟩
    · subst h2; exact absurd e (hb.cells id fz z)
    · refine ⟨b, o, n, z, k1, k2, k3, k4, ?_⟩
      rintro ⟨id2, ab2, x2, f1, f2, f3, f4⟩
      have hne : id2 ≠ id := by
        intro h; subst h
        have := hb.apart _ _ e
        simp only [Heap.get] at f1
        rw [this] at f1; cases f1
      exact r.apart id2 id x2 _ ab2 ab hne (HL.get_app_l f1) e1 (by simp [f2]) f3 k1 f4
  have get2 : ∀ id ab, (⟨h'.l ++ l2, h'.top⟩ : Heap).get id = some ab → h'.get id = some ab ∨ (h'.get id = none ∧ HL.get l2 id = some ab) := by
    intro id ab e
    have e' : HL.get (h'.l ++ l2) id = some ab := e
    rw [HL.get_append] at e'
    cases hh : HL.get h'.l id with
    | some x => rw [hh] at e'; left; simp only [Heap.get, hh]; exact e'
    | none => rw [hh] at e'; right; exact ⟨hh, e'⟩
  refine ⟨⟨r'.mem, r'.mmem, fun id hid => ⟨(r'.fin id hid).1, ?_⟩, fun id ab e => ?_, fun id id2 x x2 ab ab2 hne e e2 hlv hx hx2 => ?_⟩, ⟨ev.le, ev.os, ev.tape, ev.output, ev.size, fun b hb' hno => ev.block b hb' (fun ho => hno (hsub b ho)), fun b o v e => (ev.mem b o v e).imp id (Or.imp id (hsub b)), fun b e he => (ev.mmem b e he).imp id (Or.imp id (hsub b)), fun b ho => ?_⟩⟩
  · show HL.get (h'.l ++ l2) id = none
    have e1 : HL.get h'.l id = none := (r'.fin id hid).2
    rw [HL.get_app_r e1]
    cases e2 : HL.get l2 id with
    | none => rfl
    | some ab =>
      have e3 : HL.get (l1 ++ l2) id = none := (r.fin id (Nat.le_trans ht hid)).2
      rw [HL.get_app_r (hb.apart id ab e2), e2] at e3; cases e3
  · rcases get2 id ab e with e1 | ⟨_, e1⟩
    · exact r'.blk id ab e1
    · obtain ⟨b, o, n, z, k1, k2, k3, k4, k5⟩ := old id ab e1
      right
      refine ⟨b, o, n, z, ev.le.2.1 _ _ k1, Nat.lt_of_lt_of_le k2 ev.size, fun hlv => ⟨fun x => ?_, ?_⟩, AB.ok_move k4 ev.le (ev.block b k2 k5)⟩
      · cases hm : g'.m b x with
        | none => rfl
        | some v =>
          rcases ev.mem b x v hm with h1 | h1 | h1
          · rw [(k3 hlv).1 x] at h1; cases h1
          · omega
          · exact absurd h1 k5
      · cases hm : g'.m.mm b with
        | none => rfl
        | some v =>
          rcases ev.mmem b v hm with h1 | h1 | h1
          · rw [(k3 hlv).2] at h1; cases h1
          · omega
          · exact absurd h1 k5
  · rcases get2 id ab e with e1 | ⟨n1, e1⟩ <;> rcases get2 id2 ab2 e2 with f1 | ⟨m1, f1⟩
    · exact r'.apart id id2 x x2 ab ab2 hne e1 f1 hlv hx hx2
    · obtain ⟨b, o, n, z, k1, k2, k3, k4, k5⟩ := old id2 ab2 f1
      have := ev.le.2.1 _ _ k1
      rw [hx2] at this; cases this
      intro he
      rcases ev.own x.1 ⟨id, ab, x, e1, hl id ab e1, hx, rfl⟩ with h1 | h1
      · rw [he] at h1; exact k5 h1
      · rw [he] at h1; simp only at h1; omega
    · obtain ⟨b, o, n, z, k1, k2, k3, k4, k5⟩ := old id ab e1
      have := ev.le.2.1 _ _ k1
      rw [hx] at this; cases this
      intro he
      rcases ev.own x2.1 ⟨id2, ab2, x2, f1, hl id2 ab2 f1, hx2, rfl⟩ with h1 | h1
      · rw [← he] at h1; exact k5 h1
      · rw [← he] at h1; simp only at h1; omega
    · obtain ⟨b, o, n, z, k1, k2, k3, k4, k5⟩ := old id ab e1
      obtain ⟨b2, o2, n2, z2, j1, j2, j3, j4, j5⟩ := old id2 ab2 f1
      have h1 := ev.le.2.1 _ _ k1
      rw [hx] at h1; cases h1
      have h2 := ev.le.2.1 _ _ j1
      rw [hx2] at h2; cases h2
      have e3 : (⟨l1 ++ l2, t⟩ : Heap).get id = some ab := by show HL.get (l1 ++ l2) id = some ab; rw [HL.get_app_r (hb.apart id ab e1)]; exact e1
      have e4 : (⟨l1 ++ l2, t⟩ : Heap).get id2 = some ab2 := by show HL.get (l1 ++ l2) id2 = some ab2; rw [HL.get_app_r (hb.apart id2 ab2 f1)]; exact f1
      exact r.apart id id2 _ _ ab ab2 hne e3 e4 hlv k1 j1
  · obtain ⟨id, ab, x, e, hlv, hx, rfl⟩ := ho
    rcases get2 id ab e with e1 | ⟨n1, e1⟩
    · exact (ev.own x.1 ⟨id, ab, x, e1, hlv, hx, rfl⟩).imp (hsub _) (fun h => h)
    · obtain ⟨b, o, n, z, k1, k2, k3, k4, k5⟩ := old id ab e1
      have h1 := ev.le.2.1 _ _ k1
      rw [hx] at h1; cases h1
      left
      refine ⟨id, ab, _, ?_, hlv, k1, rfl⟩
      show HL.get (l1 ++ l2) id = some ab
      rw [HL.get_app_r (hb.apart id ab e1)]; exact e1
/-- A call over a part of the heap. -/
theorem ACall.frame {P : Program} {f : FuncId} {args : List PV} {K : PV → Heap → Prop} {l1 l2 : List (Nat × AB)} {t : Nat} (hb : Beside l1 l2)
    (H : ACall P f args ⟨l1, t⟩ (fun p h' => t ≤ h'.top ∧ (∀ id, (HL.get l2 id).isSome = true → h'.get id = none) ∧ (∀ id ab, h'.get id = some ab → ab.live = true) ∧ K p ⟨h'.l ++ l2, h'.top⟩)) : ACall P f args ⟨l1 ++ l2, t⟩ K := by
  refine ⟨H.1, fun g w vals r ha => ?_⟩
  have r1 : Rel g w ⟨l1, t⟩ := ⟨r.mem, r.mmem, fun id hid => ⟨(r.fin id hid).1, by
      have := (r.fin id hid).2
      cases e : HL.get l1 id with
      | none => exact e
      | some ab => simp only [Heap.get, HL.get_app_l e] at this; cases this⟩,
    fun id ab e => r.blk id ab (HL.get_app_l e), fun id id' x x' ab ab' hne e e' => r.apart id id' x x' ab ab' hne (HL.get_app_l e) (HL.get_app_l e')⟩
  refine (H.2 g w vals r1 ha).mono ?_
  rintro x w' ⟨v, p, g', h', h1, ⟨k1, k2, k3, k4⟩, h3, h4, h5⟩
  obtain ⟨R, E⟩ := frame_rel hb r h4 h5 k1 k2 k3
  exact ⟨v, p, g', _, h1, k4, h3, R, E⟩
theorem HL.get_mem : ∀ {l : List (Nat × AB)} {id : Nat} {ab : AB}, HL.get l id = some ab → (id, ab) ∈ l
  | [], _, _, h => by simp [HL.get] at h
  | (k, v) :: r, id, ab, h => by
    by_cases e : k = id
    · subst e; simp only [HL.get, if_true, Option.some.injEq] at h; subst h; exact List.mem_cons_self
    · simp only [HL.get, if_neg e] at h; exact List.mem_cons_of_mem _ (HL.get_mem h)
theorem HL.get_no : ∀ {l : List (Nat × AB)} {id : Nat}, (∀ q ∈ l, id ≠ q.1) → HL.get l id = none := by
  intro l id h
  cases e : HL.get l id with
  | none => rfl
  | some ab => exact absurd rfl (h _ (HL.get_mem e))
/-- The same, names and cells by the lists. -/
theorem ACall.frameL {P : Program} {f : FuncId} {args : List PV} {K : PV → Heap → Prop} {l1 l2 : List (Nat × AB)} {t : Nat} (h1 : ∀ p ∈ l2, ∀ q ∈ l1, p.1 ≠ q.1) (hc : ∀ p ∈ l2, ∀ fz z, p.2 ≠ .arr fz z [])
    (H : ACall P f args ⟨l1, t⟩ (fun p h' => t ≤ h'.top ∧ (∀ p ∈ l2, ∀ q ∈ h'.l, p.1 ≠ q.1) ∧ (∀ q ∈ h'.l, q.2.live = true) ∧ K p ⟨h'.l ++ l2, h'.top⟩)) : ACall P f args ⟨l1 ++ l2, t⟩ K := by
  refine ACall.frame ⟨fun id ab e => HL.get_no (h1 _ (HL.get_mem e)), fun id fz z e => hc _ (HL.get_mem e) fz z rfl⟩ (H.mono ?_)
  rintro p h' ⟨k1, k2, k3, k4⟩
  refine ⟨k1, fun id hid => ?_, fun id ab e => k3 _ (HL.get_mem e), k4⟩
  cases e : HL.get l2 id with
  | none => rw [e] at hid; cases hid
  | some ab => exact HL.get_no (k2 _ (HL.get_mem e))
end Go.VM

