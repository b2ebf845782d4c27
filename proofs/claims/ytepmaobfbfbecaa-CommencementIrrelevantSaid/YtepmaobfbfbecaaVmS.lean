/-
  Heaps whose names fall: no name twice.
  The value machine, run: the walk of a call whose arguments are known is a computation.
  The value machine, run: the run itself, and that it is a walk.
  The value machine, run: code and calls.
-/
import Derived.Test.YtepmaobfbfbecaaVmD
import Derived.LoopN
set_option linter.all false
namespace Go.VM
open Go
def HL.dec : List (Nat × AB) → Nat → Prop
  | [], _ => True
  | (k, _) :: r, b => k < b ∧ HL.dec r k
def HOk (h : Heap) : Prop := HL.dec h.l h.top
theorem HL.dec_mono : ∀ {l : List (Nat × AB)} {b b' : Nat}, HL.dec l b → b ≤ b' → HL.dec l b'
  | [], _, _, _, _ => trivial
  | (k, _) :: r, b, b', h, hb => ⟨Nat.lt_of_lt_of_le h.1 hb, h.2⟩
theorem HL.get_none : ∀ {l : List (Nat × AB)} {b t : Nat}, HL.dec l b → b ≤ t → HL.get l t = none
  | [], _, _, _, _ => rfl
  | (k, v) :: r, b, t, h, hb => by
    have : k ≠ t := by have := h.1; omega
    simp only [HL.get, if_neg this]
    exact HL.get_none h.2 (by have := h.1; omega)
theorem HL.le_self : ∀ {l : List (Nat × AB)} {b : Nat} {f : Nat → Option AB}, HL.dec l b → (∀ t, t < b → HL.get l t = f t ∨ HL.get l t = none) → HL.le l f
  | [], _, _, _, _ => trivial
  | (k, v) :: r, b, f, h, hf => by
    refine ⟨?_, HL.le_self h.2 (fun t ht => ?_)⟩
    · have := hf k h.1
      simpa [HL.get, eq_comm] using this
    · have h1 := hf t (by have := h.1; omega)
      have : k ≠ t := by omega
      simpa [HL.get, this] using h1
theorem HOk.le_refl {h : Heap} (ok : HOk h) : h.le h := ⟨Nat.le_refl _, HL.le_self ok fun _ _ => .inl rfl⟩
theorem HOk.push {h : Heap} (ok : HOk h) (x : AB) : HOk (h.push x) := ⟨Nat.lt_succ_self _, ok⟩
theorem HL.dec_del : ∀ {l : List (Nat × AB)} {b : Nat} (k : Nat), HL.dec l b → HL.dec (HL.del l k) b
  | [], _, _, _ => trivial
  | (j, v) :: r, b, k, h => by
    simp only [HL.del]
    split
    · exact HL.dec_del k (HL.dec_mono h.2 (Nat.le_of_lt h.1))
    · exact ⟨h.1, HL.dec_del k h.2⟩
theorem HL.dec_set : ∀ {l : List (Nat × AB)} {b : Nat} (k : Nat) (x : AB), HL.dec l b → HL.dec (HL.set l k x) b
  | [], _, _, _, _ => trivial
  | (j, v) :: r, b, k, x, h => by
    simp only [HL.set]
    split
    · exact ⟨h.1, HL.dec_del k h.2⟩
    · exact ⟨h.1, HL.dec_set k x h.2⟩
theorem HOk.del {h : Heap} (ok : HOk h) (k : Nat) : HOk (h.del k) := HL.dec_del k ok
theorem HOk.set {h : Heap} (ok : HOk h) (k : Nat) (x : AB) : HOk (h.set k x) := HL.dec_set k x ok
theorem HOk.killed {h : Heap} (ok : HOk h) (k : Option Nat) : HOk (Go.VM.killed h k) := by cases k <;> first | exact ok | exact ok.del _
/-- Only some names. -/
def HL.only (p : Nat → Bool) : List (Nat × AB) → List (Nat × AB)
  | [] => []
  | (k, v) :: r => bif p k then (k, v) :: HL.only p r else HL.only p r
theorem HL.dec_only (p : Nat → Bool) : ∀ {l : List (Nat × AB)} {b : Nat}, HL.dec l b → HL.dec (HL.only p l) b
  | [], _, _ => trivial
  | (k, v) :: r, b, h => by
    simp only [HL.only]
    cases p k
    · exact HL.dec_only p (HL.dec_mono h.2 (Nat.le_of_lt h.1))
    · exact ⟨h.1, HL.dec_only p h.2⟩
theorem HL.get_only (p : Nat → Bool) : ∀ {l : List (Nat × AB)} {b : Nat}, HL.dec l b → ∀ t, HL.get (HL.only p l) t = if p t then HL.get l t else none
  | [], _, _, t => by simp [HL.only, HL.get]
  | (k, v) :: r, b, h, t => by
    have ih := HL.get_only p h.2 t
    by_cases hk : k = t
    · subst hk
      simp only [HL.only, HL.get, if_true]
      cases hp : p k
      · simp only [cond_false]; rw [ih]; simp [hp]
      · simp [HL.get]
    · simp only [HL.only, HL.get, if_neg hk]
      cases hp : p k
      · simp only [cond_false]; exact ih
      · simp only [cond_true, HL.get, if_neg hk]; exact ih
end Go.VM


namespace Go.VM
open Go

/-! ### frames as trees -/
inductive Tr where
  | lf
  | nd (l : Tr) (v : PV) (r : Tr)
  deriving Inhabited
def Tr.get : Tr → Nat → PV
  | .lf, _ => .any
  | .nd l v r, n => bif n == 0 then v else bif n % 2 == 1 then Tr.get l (n / 2) else Tr.get r (n / 2 - 1)
def Tr.put : Nat → Tr → Nat → PV → Tr
  | 0, t, _, _ => t
  | f + 1, .lf, n, x => bif n == 0 then .nd .lf x .lf else bif n % 2 == 1 then .nd (Tr.put f .lf (n / 2) x) .any .lf else .nd .lf .any (Tr.put f .lf (n / 2 - 1) x)
  | f + 1, .nd l v r, n, x => bif n == 0 then .nd l x r else bif n % 2 == 1 then .nd (Tr.put f l (n / 2) x) v r else .nd l v (Tr.put f r (n / 2 - 1) x)
theorem Tr.get_put : ∀ (f : Nat) (t : Tr) (n m : Nat) (x : PV), n + 1 < 2 ^ f → (Tr.put f t n x).get m = if n = m then x else t.get m := by
  intro f
  induction f with
  | zero => intro t n m x h; simp at h
  | succ f ih =>
    intro t n m x h
    have h2 : 2 ^ (f + 1) = 2 ^ f + 2 ^ f := by rw [Nat.pow_succ]; omega
    cases t with
    | lf =>
      by_cases h0 : n = 0
      · subst h0
        cases m with
        | zero => simp [Tr.put, Tr.get]
        | succ m =>
          simp only [Tr.put, Tr.get, beq_self_eq_true, cond_true, Nat.add_eq_zero_iff, Nat.succ_ne_zero, and_false, if_false]
          have : ¬ (0 = m + 1) := by omega
          simp [this]
      · have hb : (n == 0) = false := by simp [h0]
        by_cases h1 : n % 2 = 1
        · have hb1 : (n % 2 == 1) = true := by simp [h1]
          simp only [Tr.put, hb, hb1, cond_true, cond_false, Tr.get]
          by_cases m0 : m = 0
          · subst m0; simp [h0]
          · have mb : (m == 0) = false := by simp [m0]
            by_cases m1 : m % 2 = 1
            · have mb1 : (m % 2 == 1) = true := by simp [m1]
              simp only [mb, mb1, cond_true, cond_false]
              rw [ih .lf (n / 2) (m / 2) x (by omega)]
              by_cases e : n = m
              · subst e; simp
              · rw [if_neg e, if_neg (by omega)]; rfl
            · have mb1 : (m % 2 == 1) = false := by simp [m1]
              simp only [mb, mb1, cond_false]
              rw [if_neg (by rintro rfl; exact m1 h1)]
        · have hb1 : (n % 2 == 1) = false := by simp [h1]
          simp only [Tr.put, hb, hb1, cond_false, Tr.get]
          by_cases m0 : m = 0
          · subst m0; simp [h0]
          · have mb : (m == 0) = false := by simp [m0]
            by_cases m1 : m % 2 = 1
            · have mb1 : (m % 2 == 1) = true := by simp [m1]
              simp only [mb, mb1, cond_true, cond_false]
              rw [if_neg (by rintro rfl; exact h1 m1)]
            · have mb1 : (m % 2 == 1) = false := by simp [m1]
              simp only [mb, mb1, cond_false]
              rw [ih .lf (n / 2 - 1) (m / 2 - 1) x (by omega)]
              by_cases e : n = m
              · subst e; simp
              · rw [if_neg e, if_neg (by omega)]; rfl
    | nd l v r =>
      by_cases h0 : n = 0
      · subst h0
        cases m with
        | zero => simp [Tr.put, Tr.get]
        | succ m =>
          have : ¬ (0 = m + 1) := by omega
          simp [Tr.put, Tr.get, this]
      · have hb : (n == 0) = false := by simp [h0]
        by_cases h1 : n % 2 = 1
        · have hb1 : (n % 2 == 1) = true := by simp [h1]
          simp only [Tr.put, hb, hb1, cond_true, cond_false, Tr.get]
          by_cases m0 : m = 0
          · subst m0; simp [h0]
          · have mb : (m == 0) = false := by simp [m0]
            by_cases m1 : m % 2 = 1
            · have mb1 : (m % 2 == 1) = true := by simp [m1]
              simp only [mb, mb1, cond_true, cond_false]
              rw [ih l (n / 2) (m / 2) x (by omega)]
              by_cases e : n = m
              · subst e; simp
              · rw [if_neg e, if_neg (by omega)]
            · have mb1 : (m % 2 == 1) = false := by simp [m1]
              simp only [mb, mb1, cond_false]
              rw [if_neg (by rintro rfl; exact m1 h1)]
        · have hb1 : (n % 2 == 1) = false := by simp [h1]
          simp only [Tr.put, hb, hb1, cond_false, Tr.get]
          by_cases m0 : m = 0
          · subst m0; simp [h0]
          · have mb : (m == 0) = false := by simp [m0]
            by_cases m1 : m % 2 = 1
            · have mb1 : (m % 2 == 1) = true := by simp [m1]
              simp only [mb, mb1, cond_true, cond_false]
              rw [if_neg (by rintro rfl; exact h1 m1)]
            · have mb1 : (m % 2 == 1) = false := by simp [m1]
              simp only [mb, mb1, cond_false]
              rw [ih r (n / 2 - 1) (m / 2 - 1) x (by omega)]
              by_cases e : n = m
              · subst e; simp
              · rw [if_neg e, if_neg (by omega)]

/-! ### what is asked, as computations -/
def isBoolB : PV → Bool | .bool _ => true | _ => false
def isStrB : PV → Bool | .str _ => true | _ => false
def isIntB : PV → Bool | .int _ _ => true | _ => false
def isAggB : PV → Bool | .agg _ => true | _ => false
def isAddrB : PV → Bool | .loc _ _ _ | .ro _ => true | _ => false
theorem isBoolB_ok {p : PV} (h : isBoolB p = true) : isBool p := by cases p <;> first | trivial | cases h
theorem isStrB_ok {p : PV} (h : isStrB p = true) : isStr p := by cases p <;> first | trivial | cases h
theorem isIntB_ok {p : PV} (h : isIntB p = true) : isInt p := by cases p <;> first | trivial | cases h
theorem isAggB_ok {p : PV} (h : isAggB p = true) : isAggP p := by cases p <;> first | trivial | cases h
theorem isAddrB_ok {p : PV} (h : isAddrB p = true) : isAddr p := by cases p <;> first | trivial | cases h
def binbOkB (op : BinOp) : PV → PV → Bool
  | .bool _, .bool _ => (match op with | .eql | .neq => true | _ => false)
  | _, _ => false
theorem binbOkB_ok {op : BinOp} {a b : PV} (h : binbOkB op a b = true) : binbOk op a b := by
  unfold binbOkB at h
  split at h
  · unfold binbOk
    cases op <;> simp at h ⊢
  · cases h
def binOkB (op : BinOp) : PV → PV → Bool
  | .int k a, .int k' b => (match op with
    | .shl | .shr => decide (0 ≤ b)
    | .quo | .rem => decide (k = k') && !decide (b = 0)
    | _ => decide (k = k'))
  | .str a, .str b => (match op with
    | .add => Nat.ble (a.length + b.length) 9223372036854775807
    | .eql | .neq | .lss | .leq | .gtr | .geq => true
    | _ => false)
  | _, _ => false
theorem binOkB_ok {op : BinOp} {a b : PV} (h : binOkB op a b = true) : binOk op a b := by
  unfold binOkB at h
  split at h
  · unfold binOk
    cases op <;> simpa using h
  · unfold binOk
    cases op <;> first | trivial | (simp at h; done) | (simpa using h)
  · cases h
def ekOkB : EK → PV → PV → Bool
  | .i, .int k _, .int k' _ => decide (k = k')
  | .s, .str _, .str _ => true
  | .b, .bool _, .bool _ => true
  | _, _, _ => false
theorem ekOkB_ok {k : EK} {a b : PV} (h : ekOkB k a b = true) : ekOk k a b := by
  unfold ekOkB at h
  split at h
  · simpa [ekOk] using h
  · trivial
  · trivial
  · cases h
def eqOkB : List EK → List PV → List PV → Bool
  | k :: ks, x :: r, y :: q => ekOkB k x y && eqOkB ks r q
  | [], [], [] => true
  | _, _, _ => false
theorem eqOkB_ok : ∀ {ks : List EK} {a b : List PV}, eqOkB ks a b = true → eqOk ks a b := by
  intro ks
  induction ks with
  | nil => intro a b h; cases a <;> cases b <;> first | trivial | cases h
  | cons k ks ih =>
    intro a b h
    cases a <;> cases b <;> first | (cases h; done) | skip
    simp only [eqOkB, Bool.and_eq_true] at h
    exact ⟨ekOkB_ok h.1, ih h.2⟩
def keyOkB : KK → PV → PV → Bool
  | .one k, a, b => ekOkB k a b
  | .st ks, .agg a, .agg b => eqOkB ks a b
  | _, _, _ => false
theorem keyOkB_ok {kk : KK} {a b : PV} (h : keyOkB kk a b = true) : keyOk kk a b := by
  unfold keyOkB at h
  split at h
  · exact ekOkB_ok h
  · exact ⟨trivial, trivial, eqOkB_ok h⟩
  · cases h
def keysOkB (kk : KK) (k : PV) (es : List (PV × PV)) : Bool := keyOkB kk k k && es.all fun p => keyOkB kk k p.1
theorem keysOkB_ok {kk : KK} {k : PV} {es : List (PV × PV)} (h : keysOkB kk k es = true) : keysOk kk k es := by
  simp only [keysOkB, Bool.and_eq_true, List.all_eq_true] at h
  exact ⟨keyOkB_ok h.1, fun p hp => keyOkB_ok (h.2 p hp)⟩
def mapOkB (h : Heap) : PV → Bool
  | .mp id => (match h.get id with | some (.map _) => true | _ => false)
  | .rmp _ => true
  | .nilmp => true
  | _ => false
theorem mapOkB_ok {h : Heap} {p : PV} (H : mapOkB h p = true) : mapOk h p := by
  unfold mapOkB at H
  split at H
  · split at H
    · rename_i e; simp [mapOk, e]
    · cases H
  · trivial
  · trivial
  · cases H
def mapHasB (h : Heap) : PV → Bool
  | .mp id => (match h.get id with | some (.map _) => true | _ => false)
  | _ => false
theorem mapHasB_ok {h : Heap} {p : PV} (H : mapHasB h p = true) : mapHas h p := by
  unfold mapHasB at H
  split at H
  · split at H
    · rename_i e; simp [mapHas, e]
    · cases H
  · cases H
def unOkB (op : UnOp) : PV → Bool
  | .int _ _ => (match op with | .neg => true | _ => false)
  | .bool _ => (match op with | .not => true | _ => false)
  | _ => false
theorem unOkB_ok {op : UnOp} {p : PV} (h : unOkB op p = true) : unOk op p := by
  unfold unOkB at h
  split at h
  · unfold unOk; cases op <;> simp at h ⊢
  · unfold unOk; cases op <;> simp at h ⊢
  · cases h
def boundOkB : Option PV → Bool
  | some (.int _ n) => decide (0 ≤ n)
  | some _ => false
  | none => true
theorem boundOkB_ok {o : Option PV} (h : boundOkB o = true) : boundOk o := by
  unfold boundOkB at h
  split at h
  · simpa [boundOk] using h
  · cases h
  · trivial
def sliceOkB (st : Bool) (z : Nat) (h : Heap) (a : PV) (lo hi : Option PV) : Bool :=
  boundOkB lo && boundOkB hi && Nat.ble (loV lo) (hiV (lenV a) hi) && Nat.ble (hiV (lenV a) hi) (lenV a) &&
  match a with
  | .str _ => st
  | .sl z' _ => !st && Nat.beq z' z
  | .own id _ _ => !st && (match h.get id with | some (.arr _ z' _) => Nat.beq z' z | _ => false)
  | .nilsl => !st
  | _ => false
theorem sliceOkB_ok {st : Bool} {z : Nat} {h : Heap} {a : PV} {lo hi : Option PV} (H : sliceOkB st z h a lo hi = true) : sliceOk st z h a lo hi := by
  simp only [sliceOkB, Bool.and_eq_true, Nat.ble_eq] at H
  obtain ⟨⟨⟨⟨h1, h2⟩, h3⟩, h4⟩, h5⟩ := H
  refine ⟨boundOkB_ok h1, boundOkB_ok h2, h3, h4, ?_⟩
  split at h5
  · exact h5
  · simp only [Bool.and_eq_true, Bool.not_eq_true'] at h5; exact ⟨h5.1, Nat.eq_of_beq_eq_true h5.2⟩
  · simp only [Bool.and_eq_true, Bool.not_eq_true'] at h5
    refine ⟨h5.1, ?_⟩
    have h6 := h5.2
    split at h6
    · rename_i e; rw [e]; simpa using h6
    · cases h6
  · simpa using h5
  · cases h5
def locOkB (h : Heap) : PV → Bool
  | .loc id i _ => (match h.get id with | some (.arr _ _ es) => Nat.blt i es.length | _ => false)
  | .ro _ => true
  | _ => false
theorem locOkB_ok {h : Heap} {p : PV} (H : locOkB h p = true) : locOk h p := by
  unfold locOkB at H
  split at H
  · split at H
    · rename_i e; simp only [locOk, e]; exact Nat.le_of_ble_eq_true H
    · cases H
  · trivial
  · cases H
def iaddrOkB (z : Nat) (h : Heap) (a i : PV) : Bool :=
  isIntB i && decide (0 ≤ numOf i) && decide (numOf i < lenV a) &&
  match a with
  | .sl z' _ => Nat.beq z' z
  | .own id _ _ => (match h.get id with | some (.arr _ z' _) => Nat.beq z' z | _ => false)
  | _ => false
theorem iaddrOkB_ok {z : Nat} {h : Heap} {a i : PV} (H : iaddrOkB z h a i = true) : iaddrOk z h a i := by
  simp only [iaddrOkB, Bool.and_eq_true, decide_eq_true_eq] at H
  obtain ⟨⟨⟨h1, h2⟩, h3⟩, h4⟩ := H
  refine ⟨isIntB_ok h1, h2, h3, ?_⟩
  split at h4
  · simpa using h4
  · split at h4
    · rename_i e; simp only [e]; simpa using h4
    · cases h4
  · cases h4
def idxOkB (a i : PV) : Bool := isIntB i && decide (0 ≤ numOf i) && decide (numOf i < lenV a) && isStrB a
theorem idxOkB_ok {a i : PV} (H : idxOkB a i = true) : idxOk a i := by
  simp only [idxOkB, Bool.and_eq_true, decide_eq_true_eq] at H
  obtain ⟨⟨⟨h1, h2⟩, h3⟩, h4⟩ := H
  refine ⟨isIntB_ok h1, h2, h3, ?_⟩
  cases a <;> first | trivial | cases h4
def lenOkB (st : Bool) : PV → Bool
  | .str _ => st
  | .sl _ _ | .own _ _ _ | .nilsl => !st
  | _ => false
theorem lenOkB_ok {st : Bool} {p : PV} (H : lenOkB st p = true) : lenOk st p := by
  cases p <;> simp [lenOkB] at H <;> simp [lenOk, H]
def extOkB (i : Nat) : PV → Bool
  | .tup l => Nat.blt i l.length
  | _ => false
theorem extOkB_ok {i : Nat} {p : PV} (H : extOkB i p = true) : extOk i p := by
  cases p <;> simp [extOkB] at H
  exact H
def fitsB (n : Nat) (p : PV) : Bool := p.fits n
def fillOkB (e : Env) (n : Nat) : List (Nat × Nat × VA) → Bool
  | [] => true
  | (o, s, a) :: r => (a.ev e).fits s && Nat.ble (o + s) n && fillOkB e n r
theorem fillOkB_ok {e : Env} {n : Nat} : ∀ {l : List (Nat × Nat × VA)}, fillOkB e n l = true → fillOk e n l
  | [], _ => trivial
  | (o, s, a) :: r, h => by
    simp only [fillOkB, Bool.and_eq_true, Nat.ble_eq] at h
    exact ⟨h.1.1, h.1.2, fillOkB_ok h.2⟩
def elemsOkB (e : Env) (z n : Nat) : List (Nat × VA) → Bool
  | [] => true
  | (i, a) :: r => (a.ev e).fits z && Nat.blt i n && elemsOkB e z n r
theorem elemsOkB_ok {e : Env} {z n : Nat} : ∀ {l : List (Nat × VA)}, elemsOkB e z n l = true → elemsOk e z n l
  | [], _ => trivial
  | (i, a) :: r, h => by
    simp only [elemsOkB, Bool.and_eq_true] at h
    exact ⟨h.1.1, Nat.le_of_ble_eq_true h.1.2, elemsOkB_ok h.2⟩
def srcOkB (h : Heap) (str : Bool) (z : Nat) : PV → Bool
  | .sl z' _ => !str && Nat.beq z' z
  | .own id off len => !str && (match h.get id with
    | some (.arr _ z' es) => Nat.beq z' z && Nat.ble (off + len) es.length
    | _ => false)
  | .nilsl => !str
  | .str _ => str && Nat.beq z 1
  | _ => false
theorem srcOkB_ok {h : Heap} {str : Bool} {z : Nat} {p : PV} (H : srcOkB h str z p = true) : srcOk h str z p := by
  unfold srcOkB at H
  split at H
  · simpa [srcOk] using H
  · simp only [Bool.and_eq_true, Bool.not_eq_true'] at H
    refine ⟨H.1, ?_⟩
    have h6 := H.2
    split at h6
    · rename_i e; rw [e]; simpa using h6
    · cases h6
  · simpa [srcOk] using H
  · simpa [srcOk] using H
  · cases H
def oldOkB (h : Heap) (z : Nat) : PV → Bool
  | .nilsl => true
  | .own id off len => (match h.get id with
    | some (.arr fz z' es) => !fz && Nat.beq z' z && Nat.ble (off + len) es.length
    | _ => false)
  | _ => false
theorem oldOkB_ok {h : Heap} {z : Nat} {p : PV} (H : oldOkB h z p = true) : oldOk h z p := by
  unfold oldOkB at H
  split at H
  · trivial
  · split at H
    · rename_i e; simp only [oldOk, e]; simp only [Bool.and_eq_true, Bool.not_eq_true', Nat.ble_eq] at H; exact ⟨H.1.1, Nat.eq_of_beq_eq_true H.1.2, H.2⟩
    · cases H
  · cases H
def storeOkB (h : Heap) (s : Nat) (p v : PV) : Bool :=
  v.fits s && match p with
  | .loc id i off => (match h.get id with
    | some (.arr fz z es) => !fz && Nat.blt i es.length && Nat.ble (off + s) z
    | _ => false)
  | _ => false
theorem storeOkB_ok {h : Heap} {s : Nat} {p v : PV} (H : storeOkB h s p v = true) : storeOk h s p v := by
  simp only [storeOkB, Bool.and_eq_true] at H
  refine ⟨H.1, ?_⟩
  have h2 := H.2
  split at h2
  · split at h2
    · rename_i e; simp only [e]; simp only [Bool.and_eq_true, Bool.not_eq_true', Nat.ble_eq] at h2; exact ⟨h2.1.1, Nat.le_of_ble_eq_true h2.1.2, h2.2⟩
    · cases h2
  · cases h2

/-! ### operands in place -/
def VA.res (t : Tr) : VA → VA
  | .t n => .c (t.get n)
  | .c p => .c p
/-- The frame as the tree has it. -/
def Sim (t : Tr) (e : Env) : Prop := ∀ n, t.get n = e.get n
theorem Sim.ev {t : Tr} {e : Env} (h : Sim t e) (a : VA) : (a.res t).ev [] = a.ev e := by
  cases a with
  | t n => exact h n
  | c p => rfl
def VOp.res (t : Tr) : VOp → VOp
  | .mv a => .mv (a.res t)
  | .pick c a b => .pick (c.res t) (a.res t) (b.res t)
  | .alloc z => .alloc z
  | .box n a => .box n (a.res t)
  | .build z ps => .build z (ps.map fun p => (p.1, p.2.1, p.2.2.res t))
  | .bslice z n zr ps => .bslice z n zr (ps.map fun p => (p.1, p.2.res t))
  | .load g s a => .load g s (a.res t)
  | .store s a v => .store s (a.res t) (v.res t)
  | .bin op a b => .bin op (a.res t) (b.res t)
  | .binb op a b => .binb op (a.res t) (b.res t)
  | .strid a => .strid (a.res t)
  | .eqs n ks a b => .eqs n ks (a.res t) (b.res t)
  | .isnil n a => .isnil n (a.res t)
  | .un op a => .un op (a.res t)
  | .conv k a => .conv k (a.res t)
  | .b2s a => .b2s (a.res t)
  | .s2b a => .s2b (a.res t)
  | .mkfn f x y => .mkfn f (x.map (VA.res t)) (y.map (VA.res t))
  | .slice st z a lo hi => .slice st z (a.res t) (lo.map (VA.res t)) (hi.map (VA.res t))
  | .faddr o a => .faddr o (a.res t)
  | .fld g o s a => .fld g o s (a.res t)
  | .iaddr z a i => .iaddr z (a.res t) (i.res t)
  | .idx a i => .idx (a.res t) (i.res t)
  | .ext a i => .ext (a.res t) i
  | .len st a => .len st (a.res t)
  | .app z b zr st x y => .app z b zr st (x.res t) (y.res t)
  | .mm mx l => .mm mx (l.map (VA.res t))
  | .mkmap => .mkmap
  | .lookup kk z ok m k => .lookup kk z ok (m.res t) (k.res t)
  | .mapset kk m k v => .mapset kk (m.res t) (k.res t) (v.res t)
  | .mlen m => .mlen (m.res t)
  | .call f l => .call f (l.map (VA.res t))
  | .callv f l => .callv (f.res t) (l.map (VA.res t))
  | .px k l => .px k (l.map (VA.res t))
  | .fx k l => .fx k (l.map (VA.res t))
  | .nd neg a => .nd neg (a.res t)
  | .other o => .other o
section
variable {t : Tr} {e : Env} (hs : Sim t e)
include hs
theorem fill_res : ∀ (ps : List (Nat × Nat × VA)) (cs : List PV), fillV [] cs (ps.map fun p => (p.1, p.2.1, p.2.2.res t)) = fillV e cs ps
  | [], _ => rfl
  | (o, s, a) :: r, cs => by simp only [List.map_cons, fillV]; rw [hs.ev a, fill_res r]
theorem fillOk_res (n : Nat) : ∀ (ps : List (Nat × Nat × VA)), fillOk [] n (ps.map fun p => (p.1, p.2.1, p.2.2.res t)) = fillOk e n ps
  | [] => rfl
  | (o, s, a) :: r => by simp only [List.map_cons, fillOk]; rw [hs.ev a, fillOk_res n r]
theorem elems_res : ∀ (ps : List (Nat × VA)) (rows : List (List PV)), elemsV [] rows (ps.map fun p => (p.1, p.2.res t)) = elemsV e rows ps
  | [], _ => rfl
  | (i, a) :: r, rows => by simp only [List.map_cons, elemsV]; rw [hs.ev a, elems_res r]
theorem elemsOk_res (z n : Nat) : ∀ (ps : List (Nat × VA)), elemsOk [] z n (ps.map fun p => (p.1, p.2.res t)) = elemsOk e z n ps
  | [] => rfl
  | (i, a) :: r => by simp only [List.map_cons, elemsOk]; rw [hs.ev a, elemsOk_res z n r]
theorem opt_res (o : Option VA) : (o.map (VA.res t)).map (VA.ev []) = o.map (VA.ev e) := by
  cases o with
  | none => rfl
  | some a => simp [hs.ev a]
theorem map_res (l : List VA) : (l.map (VA.res t)).map (VA.ev []) = l.map (VA.ev e) := by
  rw [List.map_map]; exact List.map_congr_left fun a _ => hs.ev a
theorem pval_res (h : Heap) (op : VOp) : pval [] h (op.res t) = pval e h op := by
  cases op <;> simp only [VOp.res, pval, hs.ev, fill_res hs, opt_res hs, map_res hs]
  case mm mx l =>
    match l with
    | [] => rfl
    | [a] => rfl
    | [a, b] => simp only [List.map_cons, List.map_nil, hs.ev]
    | _ :: _ :: _ :: _ => rfl
theorem pok_res (h : Heap) (op : VOp) : pok [] h (op.res t) = pok e h op := by
  cases op <;> simp only [VOp.res, pok, hs.ev, fillOk_res hs, opt_res hs, map_res hs]
  case mm mx l =>
    match l with
    | [] => rfl
    | [a] => rfl
    | [a, b] => simp only [List.map_cons, List.map_nil, hs.ev]
    | _ :: _ :: _ :: _ => rfl
end
theorem res_pure (t : Tr) (op : VOp) : (op.res t).pure = op.pure := by cases op <;> rfl
theorem StepW_res {P : Program} {t : Tr} {e : Env} (hs : Sim t e) {h : Heap} {op : VOp} {K : PV → Heap → Prop} (H : StepW P [] h (op.res t) K) (ho : op.closed = true) : StepW P e h op K := by
  have h1 := pval_res hs h op
  have h2 := pok_res hs h op
  cases op <;> simp only [VOp.res, StepW, hs.ev, elems_res hs, elemsOk_res hs, map_res hs] at H h1 h2 ⊢ <;> first | exact H | (rw [← h1, ← h2]; exact H) | skip
  case other o => simp [VOp.closed] at ho
end Go.VM


namespace Go.VM
open Go

/-! ### what names no block -/
mutual
def PV.clB : PV → Bool
  | .any | .undef | .bool _ | .int _ _ | .str _ | .nilp | .nilsl | .nilmp | .nilfn | .nilif => true
  | .ro cs => PV.clsB cs
  | .sl _ es => PV.clssB es
  | .agg cs => PV.clsB cs
  | .tup cs => PV.clsB cs
  | .fn _ a b => PV.clsB a && PV.clsB b
  | .ifc _ v => PV.clB v
  | .rmp es => PV.clpB es
  | .loc _ _ _ | .own _ _ _ | .mp _ => false
def PV.clsB : List PV → Bool
  | [] => true
  | p :: r => PV.clB p && PV.clsB r
def PV.clssB : List (List PV) → Bool
  | [] => true
  | p :: r => PV.clsB p && PV.clssB r
def PV.clpB : List (PV × PV) → Bool
  | [] => true
  | (a, b) :: r => PV.clB a && PV.clB b && PV.clpB r
end
theorem closed_fn {f : Fn} {a b : List PV} (h1 : ∀ x ∈ a, Closed x) (h2 : ∀ x ∈ b, Closed x) : Closed (.fn f a b) := by
  intro g v hv
  cases hv with
  | fn _ fs cs _ _ s1 s2 r1 r2 =>
    refine .fn f fs cs a b s1 s2 (fun j hj => h1 _ ?_ g _ (r1 j hj)) (fun j hj => h2 _ ?_ g _ (r2 j hj))
    · simp only [PV.nth, List.getD_eq_getElem?_getD, List.getElem?_eq_getElem hj, Option.getD_some]; exact List.getElem_mem hj
    · simp only [PV.nth, List.getD_eq_getElem?_getD, List.getElem?_eq_getElem hj, Option.getD_some]; exact List.getElem_mem hj
mutual
theorem PV.clB_ok : ∀ (p : PV), p.clB = true → Closed p
  | .any, _ => fun _ v _ => .any v
  | .undef, _ => fun _ v h => by cases h; exact .undef
  | .bool b, _ => cB b
  | .int k n, _ => Closed.of_scalar (scalar_int _ _)
  | .str s, _ => cS s
  | .nilp, _ => fun _ v h => by cases h; exact .nilp
  | .nilsl, _ => closed_nilsl
  | .nilmp, _ => fun _ v h => by cases h; exact .nilmp
  | .nilfn, _ => fun _ v h => by cases h; exact .nilfn
  | .nilif, _ => fun _ v h => by cases h; exact .nilif
  | .ro cs, h => closed_ro (PV.clsB_ok cs h)
  | .sl z es, h => closed_sl (PV.clssB_ok es h)
  | .agg cs, h => closed_agg (PV.clsB_ok cs h)
  | .tup cs, h => closed_tup (PV.clsB_ok cs h)
  | .fn f a b, h => by
    simp only [PV.clB, Bool.and_eq_true] at h
    exact closed_fn (PV.clsB_ok a h.1) (PV.clsB_ok b h.2)
  | .ifc t v, h => fun g x hx => by
    cases hx with
    | ifc _ y _ hy => exact .ifc t y v (PV.clB_ok v h g y hy)
  | .rmp es, h => closed_rmp (PV.clpB_ok es h)
  | .loc _ _ _, h => by cases h
  | .own _ _ _, h => by cases h
  | .mp _, h => by cases h
theorem PV.clsB_ok : ∀ (l : List PV), PV.clsB l = true → ∀ x ∈ l, Closed x
  | [], _ => fun x hx => by cases hx
  | p :: r, h => by
    simp only [PV.clsB, Bool.and_eq_true] at h
    intro x hx
    rcases List.mem_cons.1 hx with hp | hx
    · rw [hp]; exact PV.clB_ok p h.1
    · exact PV.clsB_ok r h.2 x hx
theorem PV.clssB_ok : ∀ (l : List (List PV)), PV.clssB l = true → ∀ e ∈ l, ∀ x ∈ e, Closed x
  | [], _ => fun x hx => by cases hx
  | p :: r, h => by
    simp only [PV.clssB, Bool.and_eq_true] at h
    intro x hx
    rcases List.mem_cons.1 hx with hp | hx
    · rw [hp]; exact PV.clsB_ok p h.1
    · exact PV.clssB_ok r h.2 x hx
theorem PV.clpB_ok : ∀ (l : List (PV × PV)), PV.clpB l = true → ∀ e ∈ l, Closed e.1 ∧ Closed e.2
  | [], _ => fun x hx => by cases hx
  | (a, b) :: r, h => by
    simp only [PV.clpB, Bool.and_eq_true] at h
    intro x hx
    rcases List.mem_cons.1 hx with hp | hx
    · rw [hp]; exact ⟨PV.clB_ok a h.1.1, PV.clB_ok b h.1.2⟩
    · exact PV.clpB_ok r h.2 x hx
end
mutual
def PV.scB : PV → Bool
  | .any | .undef | .bool _ | .int _ _ | .str _ | .nilp | .nilsl | .nilmp | .nilfn | .nilif => true
  | .sl _ es => es.isEmpty
  | .agg cs => PV.scsB cs
  | .tup cs => PV.scsB cs
  | .ro _ | .fn _ _ _ | .ifc _ _ | .loc _ _ _ | .own _ _ _ | .mp _ | .rmp _ => false
def PV.scsB : List PV → Bool
  | [] => true
  | p :: r => PV.scB p && PV.scsB r
end
mutual
theorem PV.scB_ok : ∀ (p : PV), p.scB = true → Scalar p
  | .any, _ => fun _ v _ _ => .any v
  | .undef, _ => fun _ v h _ => by cases h; exact .undef
  | .bool b, _ => scalar_bool _
  | .int k n, _ => scalar_int _ _
  | .str s, _ => scalar_str _
  | .nilp, _ => fun _ v h _ => by cases h; exact .nilp
  | .nilsl, _ => fun _ v h _ => by cases h; exact .nilsl
  | .nilmp, _ => fun _ v h _ => by cases h; exact .nilmp
  | .nilfn, _ => fun _ v h _ => by cases h; exact .nilfn
  | .nilif, _ => fun _ v h _ => by cases h; exact .nilif
  | .ro cs, h => by cases h
  | .sl z es, h => by
    obtain rfl : es = [] := by simpa [PV.scB] using h
    intro g v hv g'
    cases hv with
    | slE => exact .slE _ _ _
    | sl b o len cap z a es vs ha hl hc hz hm hr => 
      obtain rfl : len = 0 := by simpa using hl.symm
      exact .slE _ _ _
  | .agg cs, h => scalar_agg (PV.scsB_ok cs h)
  | .tup cs, h => scalar_tup (PV.scsB_ok cs h)
  | .fn f a b, h => by cases h
  | .ifc t v, h => by cases h
  | .loc _ _ _, h => by cases h
  | .own _ _ _, h => by cases h
  | .mp _, h => by cases h
  | .rmp _, h => by cases h
theorem PV.scsB_ok : ∀ (l : List PV), PV.scsB l = true → ∀ x ∈ l, Scalar x
  | [], _ => fun x hx => by cases hx
  | p :: r, h => by
    simp only [PV.scsB, Bool.and_eq_true] at h
    intro x hx
    rcases List.mem_cons.1 hx with hp | hx
    · rw [hp]; exact PV.scB_ok p h.1
    · exact PV.scsB_ok r h.2 x hx
end

/-! ### a value seen once all is frozen, to the ground -/
def optL (f : PV → Option PV) : List PV → Option (List PV)
  | [] => some []
  | p :: r => match f p with
    | some q => match optL f r with
      | some s => some (q :: s)
      | none => none
    | none => none
def optLL (f : PV → Option PV) : List (List PV) → Option (List (List PV))
  | [] => some []
  | p :: r => match optL f p with
    | some q => match optLL f r with
      | some s => some (q :: s)
      | none => none
    | none => none
def optP (f : PV → Option PV) : List (PV × PV) → Option (List (PV × PV))
  | [] => some []
  | p :: r => match f p.1, f p.2 with
    | some a, some b => match optP f r with
      | some s => some ((a, b) :: s)
      | none => none
    | _, _ => none
theorem optP_ok {f : PV → Option PV} : ∀ {l q : List (PV × PV)}, optP f l = some q → l.length = q.length ∧ ∀ (i : Nat) (a b : PV × PV), l[i]? = some a → q[i]? = some b → f a.1 = some b.1 ∧ f a.2 = some b.2
  | [], q, h => by simp only [optP, Option.some.injEq] at h; subst h; exact ⟨rfl, fun i a b ha => by simp at ha⟩
  | p :: r, q, h => by
    simp only [optP] at h
    split at h
    · rename_i x y hx hy
      split at h
      · rename_i s hs
        simp only [Option.some.injEq] at h; subst h
        obtain ⟨h1, h2⟩ := optP_ok hs
        refine ⟨by simp [h1], fun i a b ha hb => ?_⟩
        cases i with
        | zero =>
          simp only [List.getElem?_cons_zero, Option.some.injEq] at ha hb
          subst ha; subst hb
          exact ⟨hx, hy⟩
        | succ i => exact h2 i a b (by simpa using ha) (by simpa using hb)
      · cases h
    · cases h
theorem optL_ok {f : PV → Option PV} : ∀ {l q : List PV}, optL f l = some q → l.length = q.length ∧ ∀ j, j < q.length → f (PV.nth l j) = some (PV.nth q j)
  | [], q, h => by simp only [optL, Option.some.injEq] at h; subst h; exact ⟨rfl, fun j hj => by simp at hj⟩
  | p :: r, q, h => by
    simp only [optL] at h
    split at h
    · rename_i x hx
      split at h
      · rename_i s hs
        simp only [Option.some.injEq] at h; subst h
        obtain ⟨h1, h2⟩ := optL_ok hs
        refine ⟨by simp [h1], fun j hj => ?_⟩
        cases j with
        | zero => exact hx
        | succ j => exact h2 j (by simpa using hj)
      · cases h
    · cases h
theorem optLL_ok {f : PV → Option PV} : ∀ {l q : List (List PV)}, optLL f l = some q → l.length = q.length ∧ ∀ i, i < q.length → (PV.row l i).length = (PV.row q i).length ∧ ∀ j, j < (PV.row q i).length → f (PV.nth (PV.row l i) j) = some (PV.nth (PV.row q i) j)
  | [], q, h => by simp only [optLL, Option.some.injEq] at h; subst h; exact ⟨rfl, fun j hj => by simp at hj⟩
  | p :: r, q, h => by
    simp only [optLL] at h
    split at h
    · rename_i x hx
      split at h
      · rename_i s hs
        simp only [Option.some.injEq] at h; subst h
        obtain ⟨h1, h2⟩ := optLL_ok hs
        refine ⟨by simp [h1], fun j hj => ?_⟩
        cases j with
        | zero => exact optL_ok hx
        | succ j => exact h2 j (by simpa using hj)
      · cases h
    · cases h
def viewD (h : Heap) : Nat → PV → Option PV
  | 0, _ => none
  | n + 1, p => bif p.clB then some p else match p with
    | .own id off len => (match h.get id with
      | some (.arr _ z es) => bif Nat.ble (off + len) es.length then (match optLL (viewD h n) ((es.drop off).take len) with
        | some q => some (.sl z q)
        | none => none) else none
      | _ => none)
    | .sl z es => (match optLL (viewD h n) es with
        | some q => some (.sl z q)
        | none => none)
    | .agg cs => (match optL (viewD h n) cs with
        | some q => some (.agg q)
        | none => none)
    | .tup cs => (match optL (viewD h n) cs with
        | some q => some (.tup q)
        | none => none)
    | .loc id i off => (match h.get id with
      | some (.arr _ _ es) => bif Nat.blt i es.length then (match optL (viewD h n) ((PV.row es i).drop off) with
        | some q => some (.ro q)
        | none => none) else none
      | _ => none)
    | .mp id => (match h.get id with
      | some (.map es) => (match optP (viewD h n) es with
        | some q => some (.rmp q)
        | none => none)
      | _ => none)
    | _ => none
theorem viewD_ok {h : Heap} : ∀ {n : Nat} {p q : PV}, viewD h n p = some q → View h p q
  | 0, _, _, e => by cases e
  | n + 1, p, q, e => by
    simp only [viewD] at e
    cases hc : p.clB with
    | true => rw [hc] at e; simp only [cond_true, Option.some.injEq] at e; subst e; exact View.refl _ _
    | false =>
      rw [hc] at e
      simp only [cond_false] at e
      split at e
      · rename_i id off len
        split at e
        case h_2 => cases e
        rename_i fz z es hg
        cases hb : Nat.ble (off + len) es.length with
        | false => rw [hb] at e; cases e
        | true =>
          rw [hb] at e
          simp only [cond_true] at e
          split at e
          case h_2 => cases e
          rename_i q' hq
          simp only [Option.some.injEq] at e; subst e
          have hle : off + len ≤ es.length := Nat.le_of_ble_eq_true hb
          obtain ⟨l1, l2⟩ := optLL_ok hq
          have hl : q'.length = len := by rw [← l1]; simp; omega
          intro g w v r hv
          cases hv with
          | ownE ao =>
            have : q' = [] := List.eq_nil_of_length_eq_zero hl
            subst this; exact .slE _ _ _
          | own _ _ _ cap b o n' z' a hb ha hc hn =>
            subst ha
            rcases r.blk id _ hg with ⟨hb0, _⟩ | ⟨b', o', n'', z'', hb', hlt, hlive, hok⟩
            · rw [hb] at hb0; cases hb0
            · rw [hb] at hb'
              simp only [Option.some.injEq, Prod.mk.injEq] at hb'
              obtain ⟨rfl, rfl, rfl, rfl⟩ := hb'
              obtain ⟨rfl, hz, hle', c, ty, h1, h2, h3⟩ := hok
              have hrow : ∀ i, i < len → PV.row ((es.drop off).take len) i = PV.row es (off + i) := fun i hi => by rw [row_take _ _ _ hi, row_drop]
              refine .sl b (o + off * z) len cap z _ _ (fun i j => c.getD (o + (off + i) * z + j) Go.undef) rfl hl hc (fun i hi => ?_) (fun i j hi hj => ?_) (fun i j hi hj => ?_)
              · rw [← (l2 i (by omega)).1, hrow i hi]; exact hz _ (by omega)
              · obtain ⟨e1, e2, e3⟩ := h3 (off + i) j (by omega) hj
                have e4 : o + off * z + i * z + j = o + (off + i) * z + j := by rw [Nat.add_mul]; omega
                rw [e4]
                cases fz
                · have hin : o + (off + i) * z + j < c.size := by
                    have := rows_bound (n := es.length) (z := z) (show off + i < es.length by omega) hj
                    omega
                  exact frzM_new ((hlive rfl).1 _) hg hb rfl (by simp [World.cell?, h1, hin, Array.getD]) e1
                · exact frzM_old (e3 rfl)
              · obtain ⟨e1, e2, e3⟩ := h3 (off + i) j (by omega) hj
                have hj' : j < (PV.row q' i).length := by rw [← (l2 i (by omega)).1, hrow i hi, hz _ (by omega)]; exact hj
                have hv := viewD_ok ((l2 i (by omega)).2 j hj')
                rw [hrow i hi] at hv
                exact hv g w _ r e2
      · rename_i z es
        split at e
        case h_2 => cases e
        rename_i q' hq
        simp only [Option.some.injEq] at e; subst e
        obtain ⟨l1, l2⟩ := optLL_ok hq
        intro g w v r hv
        cases hv with
        | slE ao =>
          have : q' = [] := List.eq_nil_of_length_eq_zero (by rw [← l1]; rfl)
          subst this; exact .slE _ _ _
        | sl b o len cap z a es vs ha hl hc hz hm hr =>
          refine .sl b o len cap z a _ vs ha (by omega) hc (fun i hi => ?_) (fun i j hi hj => frzM_old (hm i j hi hj)) (fun i j hi hj => ?_)
          · rw [← (l2 i (by omega)).1]; exact hz i hi
          · have hj' : j < (PV.row q' i).length := by rw [← (l2 i (by omega)).1, hz i hi]; exact hj
            exact viewD_ok ((l2 i (by omega)).2 j hj') g w _ r (hr i j hi hj)
      · rename_i cs
        split at e
        case h_2 => cases e
        rename_i q' hq
        simp only [Option.some.injEq] at e; subst e
        obtain ⟨l1, l2⟩ := optL_ok hq
        intro g w v r hv
        obtain ⟨vs, rfl, hs, ho, hr⟩ := hv.agg_inv
        exact .agg _ _ (by omega) (fun j hj => ho j (by omega)) (fun j hj => viewD_ok (l2 j hj) g w _ r (hr j (by omega)))
      · rename_i cs
        split at e
        case h_2 => cases e
        rename_i q' hq
        simp only [Option.some.injEq] at e; subst e
        obtain ⟨l1, l2⟩ := optL_ok hq
        intro g w v r hv
        obtain ⟨vs, rfl, hs, hr⟩ := hv.tup_inv
        exact .tup _ _ (by omega) (fun j hj => viewD_ok (l2 j hj) g w _ r (hr j (by omega)))
      · rename_i id i off
        split at e
        case h_2 => cases e
        rename_i fz z es hg
        cases hb : Nat.blt i es.length with
        | false => rw [hb] at e; cases e
        | true =>
          rw [hb] at e
          simp only [cond_true] at e
          split at e
          case h_2 => cases e
          rename_i q' hq
          simp only [Option.some.injEq] at e; subst e
          have hi : i < es.length := Nat.le_of_ble_eq_true hb
          obtain ⟨l1, l2⟩ := optL_ok hq
          intro g w v r hv
          cases hv with
          | loc _ _ _ b o n' z' a hb ha =>
            subst ha
            rcases r.blk id _ hg with ⟨hb0, _⟩ | ⟨b', o', n'', z'', hb', hlt, hlive, hok⟩
            · rw [hb] at hb0; cases hb0
            · rw [hb] at hb'
              simp only [Option.some.injEq, Prod.mk.injEq] at hb'
              obtain ⟨rfl, rfl, rfl, rfl⟩ := hb'
              obtain ⟨rfl, hz, hle', c, ty, h1, h2, h3⟩ := hok
              have hlen : q'.length = z - off := by rw [← l1, List.length_drop, hz i hi]
              have hnth : ∀ j, PV.nth ((PV.row es i).drop off) j = PV.nth (PV.row es i) (off + j) := fun j => by simp [PV.nth, List.getD_eq_getElem?_getD]
              refine .ro b (o + i * z + off) _ q' (fun j => c.getD (o + i * z + (off + j)) Go.undef) rfl (fun j hj => ?_) (fun j hj => ?_)
              · obtain ⟨e1, e2, e3⟩ := h3 i (off + j) hi (by omega)
                rw [Nat.add_assoc]
                cases fz
                · have hin : o + i * z + (off + j) < c.size := by
                    have := rows_bound (n := es.length) (z := z) hi (j := off + j) (by omega)
                    omega
                  exact frzM_new ((hlive rfl).1 _) hg hb rfl (by simp [World.cell?, h1, hin, Array.getD]) e1
                · exact frzM_old (e3 rfl)
              · obtain ⟨e1, e2, e3⟩ := h3 i (off + j) hi (by omega)
                have hv := viewD_ok (l2 j hj)
                rw [hnth] at hv
                exact hv g w _ r e2
      · rename_i id
        split at e
        case h_2 => cases e
        rename_i es hg
        split at e
        case h_2 => cases e
        rename_i q' hq
        simp only [Option.some.injEq] at e; subst e
        obtain ⟨l1, l2⟩ := optP_ok hq
        exact View.map hg l1 fun i a b ha hb => ⟨viewD_ok (l2 i a b ha hb).1, viewD_ok (l2 i a b ha hb).2⟩
      · cases e
theorem views_ok {h : Heap} {n : Nat} : ∀ {l q : List PV}, optL (viewD h n) l = some q → Views h l q
  | [], q, e => by simp only [optL, Option.some.injEq] at e; subst e; trivial
  | p :: r, q, e => by
    simp only [optL] at e
    split at e
    · rename_i x hx
      split at e
      · rename_i s hs
        simp only [Option.some.injEq] at e; subst e
        exact ⟨viewD_ok hx, views_ok hs⟩
      · cases e
    · cases e
end Go.VM


namespace Go.VM
open Go

/-! ### one step -/
def pxOkB (h : Heap) : PX → List PV → Bool
  | .nck, [a] => isPtr a
  | .unx, [a] => isIntB a
  | .isnil _, [a] => isNil a || notNil a
  | _, _ => false
theorem pxOkB_ok {h : Heap} {k : PX} {l : List PV} (H : pxOkB h k l = true) : pxOk h k l := by
  unfold pxOkB at H
  split at H
  · exact H
  · exact isIntB_ok H
  · simpa [pxOk] using H
  · cases H
def fxOkB (h : Heap) : FX → List PV → Bool
  | .slice0 z, [a] => (match a with
    | .nilsl | .sl _ _ => true
    | .own _ _ _ => true
    | _ => false)
  | .mk0 _, [] => true
  | .clear z zr, [a] => (match a with
    | .nilsl => true
    | .own id off len => (match h.get id with
      | some (.arr fz z' es) => !fz && Nat.beq z' z && Nat.ble (off + len) es.length && Nat.beq zr.length z
      | _ => false)
    | _ => false)
  | _, _ => false
theorem fxOkB_ok {h : Heap} {k : FX} {l : List PV} (H : fxOkB h k l = true) : fxOk h k l := by
  unfold fxOkB at H
  split at H
  · simp only [fxOk]
    split at H <;> first | trivial | cases H
  · trivial
  · simp only [fxOk]
    split at H
    · trivial
    · split at H
      · rename_i e
        simp only [e]
        simp only [Bool.and_eq_true, Bool.not_eq_true', Nat.ble_eq] at H
        exact ⟨H.1.1.1, Nat.eq_of_beq_eq_true H.1.1.2, H.1.2, Nat.eq_of_beq_eq_true H.2⟩
      · cases H
    · cases H
  · cases H
theorem fxV_heap {h : Heap} (ok : HOk h) (k : FX) (l : List PV) : HOk (fxV h k l).2 ∧ h.top ≤ (fxV h k l).2.top := by
  unfold fxV
  split
  · exact ⟨ok.push _, Nat.le_succ _⟩
  · exact ⟨ok.push _, Nat.le_succ _⟩
  · simp only
    split
    · exact ⟨ok.set _ _, Nat.le_refl _⟩
    · exact ⟨ok, Nat.le_refl _⟩
  · exact ⟨ok, Nat.le_refl _⟩
def pokB (h : Heap) : VOp → Bool
  | .mv _ => true
  | .pick c _ _ => isBoolB (c.ev [])
  | .build zr ps => fillOkB [] zr.length ps
  | .load g s a => locOkB h (a.ev []) && Nat.ble s (locCells h (a.ev [])).length && (g || Nat.beq s 1)
  | .bin op a b => binOkB op (a.ev []) (b.ev [])
  | .binb op a b => binbOkB op (a.ev []) (b.ev [])
  | .strid a => isStrB (a.ev [])
  | .eqs _ ks a b => isAggB (a.ev []) && isAggB (b.ev []) && eqOkB ks (cellsOfAgg (a.ev [])) (cellsOfAgg (b.ev []))
  | .un op a => unOkB op (a.ev [])
  | .conv _ a => isIntB (a.ev [])
  | .mkfn _ _ _ => true
  | .slice st z a lo hi => sliceOkB st z h (a.ev []) (lo.map (VA.ev [])) (hi.map (VA.ev []))
  | .faddr _ a => isAddrB (a.ev [])
  | .fld g off s a => isAggB (a.ev []) && Nat.ble (off + s) (cellsOfAgg (a.ev [])).length && (g || Nat.beq s 1)
  | .iaddr z a i => iaddrOkB z h (a.ev []) (i.ev [])
  | .idx a i => idxOkB (a.ev []) (i.ev [])
  | .ext a i => extOkB i (a.ev [])
  | .len st a => lenOkB st (a.ev [])
  | .lookup kk _ _ m k => mapOkB h (m.ev []) && keysOkB kk (k.ev []) (mapRows h (m.ev []))
  | .mlen m => mapOkB h (m.ev [])
  | .mm _ [a, b] => isIntB (a.ev []) && isIntB (b.ev [])
  | .px k l => pxOkB h k (l.map (VA.ev []))
  | _ => false
theorem gs_ok {g : Bool} {s : Nat} (h : (g || Nat.beq s 1) = true) : g = false → s = 1 := by
  rintro rfl; exact Nat.eq_of_beq_eq_true (by simpa using h)
theorem pokB_ok {h : Heap} {op : VOp} (H : pokB h op = true) : pok [] h op := by
  cases op <;> simp only [pokB, Bool.false_eq_true] at H
  case mv a => trivial
  case pick c a b => exact isBoolB_ok H
  case build zr ps => exact fillOkB_ok H
  case load g s a =>
    simp only [Bool.and_eq_true] at H
    exact ⟨locOkB_ok H.1.1, Nat.le_of_ble_eq_true H.1.2, gs_ok H.2⟩
  case bin op a b => exact binOkB_ok H
  case binb op a b => exact binbOkB_ok H
  case strid a => exact isStrB_ok H
  case eqs n ks a b =>
    simp only [Bool.and_eq_true] at H
    exact ⟨isAggB_ok H.1.1, isAggB_ok H.1.2, eqOkB_ok H.2⟩
  case un op a => exact unOkB_ok H
  case conv k a => exact isIntB_ok H
  case mkfn f x y => trivial
  case slice st z a lo hi => exact sliceOkB_ok H
  case faddr o a => exact isAddrB_ok H
  case fld g off s a =>
    simp only [Bool.and_eq_true] at H
    exact ⟨isAggB_ok H.1.1, Nat.le_of_ble_eq_true H.1.2, gs_ok H.2⟩
  case iaddr z a i => exact iaddrOkB_ok H
  case idx a i => exact idxOkB_ok H
  case ext a i => exact extOkB_ok H
  case len st a => exact lenOkB_ok H
  case lookup kk zr ok m k =>
    simp only [Bool.and_eq_true] at H
    exact ⟨mapOkB_ok H.1, keysOkB_ok H.2⟩
  case mlen m => exact mapOkB_ok H
  case px k l => exact pxOkB_ok H
  case mm mx l =>
    match l, H with
    | [a, b], H =>
      simp only [Bool.and_eq_true] at H
      exact ⟨isIntB_ok H.1, isIntB_ok H.2⟩
abbrev RX := Option (PV × Heap)
def stepX (h : Heap) (op : VOp) : RX :=
  match op with
  | .alloc zr => some (.loc h.top 0 0, h.push (.arr false zr.length [zr]))
  | .box n a => bif (a.ev []).fits n then some (.loc h.top 0 0, h.push (.arr false n [(a.ev []).cells])) else none
  | .bslice z n zr ps => bif elemsOkB [] z n ps then some (.own h.top 0 n, h.push (.arr false z (elemsV [] (List.replicate n zr) ps))) else none
  | .store s a v => bif storeOkB h s (a.ev []) (v.ev []) then some (.undef, storeV h (a.ev []) (v.ev [])) else none
  | .app z bytes _ str a b => bif oldOkB h z (a.ev []) && srcOkB h str z (b.ev []) && Nat.ble ((oldRows h (a.ev [])).length + (srcRows h (b.ev [])).length) 4611686018427387904 &&
      Nat.ble (((oldRows h (a.ev [])).length + (srcRows h (b.ev [])).length) * bytes) 140737488355328 then
        some (.own h.top 0 ((oldRows h (a.ev [])).length + (srcRows h (b.ev [])).length), (killed h (oldId (a.ev []))).push (.arr false z (oldRows h (a.ev []) ++ srcRows h (b.ev []))))
      else none
  | .mkmap => some (.mp h.top, h.push (.map []))
  | .mapset kk m k v => bif mapHasB h (m.ev []) && keysOkB kk (k.ev []) (mapRows h (m.ev [])) then some (.undef, mapsetV h (m.ev []) (k.ev []) (v.ev [])) else none
  | .fx k l => bif fxOkB h k (l.map (VA.ev [])) then some (fxV h k (l.map (VA.ev []))) else none
  | .nd neg a => bif slLike (a.ev []) then (bif isNil (a.ev []) then some (.bool (true != neg), h) else bif notNil (a.ev []) then some (.bool (false != neg), h) else none) else none
  | .other _ | .call _ _ | .callv _ _ => none
  | op => bif pokB h op then some (pval [] h op, h) else none
theorem of_bif {b : Bool} {α : Type} {x : Option α} {y : α} (h : (bif b then x else none) = some y) : b = true ∧ x = some y := by
  cases b
  · cases h
  · exact ⟨rfl, h⟩
theorem storeV_ok {h : Heap} (ok : HOk h) (a v : PV) : HOk (storeV h a v) := by
  unfold storeV
  split
  · split
    · exact ok.set _ _
    · exact ok
  · exact ok
theorem storeV_top (h : Heap) (a v : PV) : (storeV h a v).top = h.top := by
  unfold storeV
  split
  · split <;> rfl
  · rfl
theorem mapsetV_ok {h : Heap} (ok : HOk h) (m k v : PV) : HOk (mapsetV h m k v) := by
  unfold mapsetV
  split
  · exact ok.set _ _
  · exact ok
theorem mapsetV_top (h : Heap) (m k v : PV) : (mapsetV h m k v).top = h.top := by
  unfold mapsetV
  split <;> rfl
theorem stepX_ok {P : Program} {h : Heap} {op : VOp} {v : PV} {h' : Heap} {K : PV → Heap → Prop} (H : stepX h op = some (v, h')) (ok : HOk h) : (K v h' → StepW P [] h op K) ∧ HOk h' ∧ h.top ≤ h'.top := by
  have pure : op.pure = true → (bif pokB h op then some (pval [] h op, h) else none) = some (v, h') → (K v h' → StepW P [] h op K) ∧ HOk h' ∧ h.top ≤ h'.top := by
    intro hp H
    obtain ⟨h1, h2⟩ := of_bif H
    simp only [Option.some.injEq, Prod.mk.injEq] at h2
    obtain ⟨rfl, rfl⟩ := h2
    refine ⟨fun hk => ?_, ok, Nat.le_refl _⟩
    have := pokB_ok h1
    cases op <;> first | exact ⟨this, hk⟩ | simp [VOp.pure] at hp
  cases op <;> simp only [stepX] at H <;> first | exact pure rfl H | (cases H; done) | skip
  case alloc zr =>
    simp only [Option.some.injEq, Prod.mk.injEq] at H
    obtain ⟨rfl, rfl⟩ := H
    exact ⟨fun hk => hk, ok.push _, Nat.le_succ _⟩
  case box n a =>
    obtain ⟨h1, h2⟩ := of_bif H
    simp only [Option.some.injEq, Prod.mk.injEq] at h2
    obtain ⟨rfl, rfl⟩ := h2
    exact ⟨fun hk => ⟨h1, hk⟩, ok.push _, Nat.le_succ _⟩
  case bslice z n zr ps =>
    obtain ⟨h1, h2⟩ := of_bif H
    simp only [Option.some.injEq, Prod.mk.injEq] at h2
    obtain ⟨rfl, rfl⟩ := h2
    exact ⟨fun hk => ⟨elemsOkB_ok h1, hk⟩, ok.push _, Nat.le_succ _⟩
  case store s a v' =>
    obtain ⟨h1, h2⟩ := of_bif H
    simp only [Option.some.injEq, Prod.mk.injEq] at h2
    obtain ⟨rfl, rfl⟩ := h2
    exact ⟨fun hk => ⟨storeOkB_ok h1, hk⟩, storeV_ok ok _ _, by rw [storeV_top]; exact Nat.le_refl _⟩
  case app z bytes zr str a b =>
    obtain ⟨h1, h2⟩ := of_bif H
    simp only [Option.some.injEq, Prod.mk.injEq] at h2
    obtain ⟨rfl, rfl⟩ := h2
    simp only [Bool.and_eq_true] at h1
    refine ⟨fun hk => ⟨oldOkB_ok h1.1.1.1, srcOkB_ok h1.1.1.2, Nat.le_of_ble_eq_true h1.1.2, Nat.le_of_ble_eq_true h1.2, hk⟩, (ok.killed _).push _, ?_⟩
    show h.top ≤ (killed h _).top + 1
    rw [killed_top]; omega
  case mkmap =>
    simp only [Option.some.injEq, Prod.mk.injEq] at H
    obtain ⟨rfl, rfl⟩ := H
    exact ⟨fun hk => hk, ok.push _, Nat.le_succ _⟩
  case fx k l =>
    obtain ⟨h1, h2⟩ := of_bif H
    simp only [Option.some.injEq] at h2
    have hh := fxV_heap ok k (l.map (VA.ev []))
    have e1 : (fxV h k (l.map (VA.ev []))).1 = v := by rw [h2]
    have e2 : (fxV h k (l.map (VA.ev []))).2 = h' := by rw [h2]
    rw [e2] at hh
    exact ⟨fun hk => ⟨fxOkB_ok h1, by rw [e1, e2]; exact hk⟩, hh⟩
  case nd neg a =>
    obtain ⟨h1, h2⟩ := of_bif H
    cases hn : isNil (a.ev []) with
    | true =>
      rw [hn] at h2
      simp only [cond_true, Option.some.injEq, Prod.mk.injEq] at h2
      obtain ⟨rfl, rfl⟩ := h2
      refine ⟨fun hk => ⟨h1, fun b b1 _ => ?_⟩, ok, Nat.le_refl _⟩
      rw [b1 hn]; exact hk
    | false =>
      rw [hn] at h2
      simp only [cond_false] at h2
      obtain ⟨h3, h2⟩ := of_bif h2
      simp only [Option.some.injEq, Prod.mk.injEq] at h2
      obtain ⟨rfl, rfl⟩ := h2
      refine ⟨fun hk => ⟨h1, fun b _ b2 => ?_⟩, ok, Nat.le_refl _⟩
      rw [b2 h3]; exact hk
  case mapset kk m k v' =>
    obtain ⟨h1, h2⟩ := of_bif H
    simp only [Option.some.injEq, Prod.mk.injEq] at h2
    obtain ⟨rfl, rfl⟩ := h2
    simp only [Bool.and_eq_true] at h1
    exact ⟨fun hk => ⟨mapHasB_ok h1.1, keysOkB_ok h1.2, hk⟩, mapsetV_ok ok _ _ _, by rw [mapsetV_top]; exact Nat.le_refl _⟩

/-! ### a region in its written order -/
abbrev CX := Nat → List PV → Heap → RX
def opX (call : CX) (h : Heap) (op : VOp) : RX :=
  match op with
  | .call f l => call f (l.map (VA.ev [])) h
  | .callv f l => (match f.ev [] with
    | .fn (.func f) a b => call f (a ++ l.map (VA.ev []) ++ b) h
    | _ => none)
  | op => stepX h op
def CallOk (P : Program) (call : CX) : Prop := ∀ f args h v h', call f args h = some (v, h') → HOk h → (∀ K : PV → Heap → Prop, K v h' → ACall P f args h K) ∧ HOk h' ∧ h.top ≤ h'.top
theorem opX_ok {P : Program} {call : CX} (hc : CallOk P call) {h : Heap} {op : VOp} {v : PV} {h' : Heap} {K : PV → Heap → Prop} (H : opX call h op = some (v, h')) (ok : HOk h) : (K v h' → StepW P [] h op K) ∧ HOk h' ∧ h.top ≤ h'.top := by
  cases op <;> simp only [opX] at H <;> first | exact stepX_ok H ok | skip
  case call f l =>
    obtain ⟨h1, h2⟩ := hc _ _ _ _ _ H ok
    exact ⟨fun hk => h1 K hk, h2⟩
  case callv f l =>
    split at H
    · rename_i f' a b hf
      obtain ⟨h1, h2⟩ := hc _ _ _ _ _ H ok
      exact ⟨fun hk => by simp only [StepW, hf]; exact h1 K hk, h2⟩
    · cases H
theorem opX_closed {call : CX} {h : Heap} {op : VOp} {r : PV × Heap} (H : opX call h op = some r) : op.closed = true := by
  cases op <;> first | rfl | (simp only [opX, stepX] at H; cases H)
theorem res_closed (t : Tr) (op : VOp) : (op.res t).closed = op.closed := by cases op <;> rfl
def putO (t : Tr) (d : Option Nat) (v : PV) : Tr := match d with | some d => Tr.put 10 t d v | none => t
def guardX (t : Tr) : Option (Nat × Bool) → Option Bool
  | none => some true
  | some (d, want) => guardOf want (t.get d)
def opsX (call : CX) : List VOper → Tr → Heap → Option (Tr × Heap)
  | [], t, h => some (t, h)
  | o :: r, t, h => match guardX t o.guard with
    | some true => (match opX call h (o.op.res t) with
      | some (v, h') => opsX call r (putO t o.dst v) h'
      | none => none)
    | some false => opsX call r (putO t o.dst .undef) h
    | none => none
def SimN (N : Nat) (t : Tr) (e : Env) : Prop := Sim t e ∧ ∀ k, N ≤ k → e.get k = .any
theorem SimN.put {N : Nat} (hN : N ≤ 1000) {t : Tr} {e : Env} (hs : SimN N t e) {d : Option Nat} (hd : ∀ k, d = some k → k < N) (v : PV) : SimN N (putO t d v) (e.put d v) := by
  cases d with
  | none => exact hs
  | some d =>
    have hlt := hd d rfl
    refine ⟨fun n => ?_, fun k hk => ?_⟩
    · simp only [putO, Env.put, Env.get]
      rw [Tr.get_put 10 t d n v (by have : (2 : Nat) ^ 10 = 1024 := by decide
                                    omega), hs.1 n]
    · simp only [Env.put, Env.get]
      rw [if_neg (by omega)]; exact hs.2 k hk
def DstOk (N : Nat) (q : List VOper) : Prop := ∀ o ∈ q, ∀ d, o.dst = some d → d < N
theorem opsX_ok {P : Program} {call : CX} (hc : CallOk P call) {N : Nat} (hN : N ≤ 1000) : ∀ {q : List VOper} {t : Tr} {e : Env} {h : Heap} {t' : Tr} {h' : Heap} {K : Env → Heap → Prop}, opsX call q t h = some (t', h') → DstOk N q → SimN N t e → HOk h →
    ((∀ e', SimN N t' e' → K e' h') → OpsW P q K e h) ∧ HOk h' ∧ h.top ≤ h'.top
  | [], t, e, h, t', h', K, H, _, hs, ok => by
    simp only [opsX, Option.some.injEq, Prod.mk.injEq] at H
    obtain ⟨rfl, rfl⟩ := H
    exact ⟨fun hk => hk e hs, ok, Nat.le_refl _⟩
  | ⟨dst, op, gd⟩ :: r, t, e, h, t', h', K, H, hd, hs, ok => by
    have hdst := hd _ (List.mem_cons_self ..)
    have hdr : DstOk N r := fun o ho => hd o (List.mem_cons_of_mem _ ho)
    have skip : opsX call r (putO t dst .undef) h = some (t', h') → ((∀ e', SimN N t' e' → K e' h') → OpsW P r K (e.put dst .undef) h) ∧ HOk h' ∧ h.top ≤ h'.top :=
      fun H => opsX_ok hc hN H hdr (hs.put hN hdst _) ok
    have run : ∀ v h1, opX call h (op.res t) = some (v, h1) → opsX call r (putO t dst v) h1 = some (t', h') →
        ((∀ e', SimN N t' e' → K e' h') → StepW P e h op (fun v h' => OpsW P r K (e.put dst v) h')) ∧ HOk h' ∧ h.top ≤ h'.top := by
      intro v h1 H1 H2
      have hcl := opX_closed H1
      rw [res_closed] at hcl
      obtain ⟨s1, s2, s3⟩ := opX_ok (K := fun v h' => OpsW P r K (e.put dst v) h') hc H1 ok
      obtain ⟨i1, i2, i3⟩ := opsX_ok (K := K) hc hN H2 hdr (hs.put hN hdst v) s2
      exact ⟨fun hk => StepW_res hs.1 (s1 (i1 hk)) hcl, i2, Nat.le_trans s3 i3⟩
    simp only [opsX] at H
    cases gd with
    | none =>
      simp only [guardX] at H
      split at H
      · rename_i v h1 H1
        obtain ⟨a, b⟩ := run v h1 H1 H
        exact ⟨fun hk => by rw [OpsW_n]; exact a hk, b⟩
      · cases H
    | some dw =>
      obtain ⟨d, want⟩ := dw
      simp only [guardX] at H
      rw [hs.1 d] at H
      cases hg : guardOf want (e.get d) with
      | none => rw [hg] at H; cases H
      | some c =>
        rw [hg] at H
        cases c with
        | false =>
          simp only at H
          obtain ⟨a, b⟩ := skip H
          exact ⟨fun hk => by simp only [OpsW, hg, GuardW_false]; exact a hk, b⟩
        | true =>
          simp only at H
          split at H
          · rename_i v h1 H1
            obtain ⟨a, b⟩ := run v h1 H1 H
            exact ⟨fun hk => by simp only [OpsW, hg, GuardW_true]; exact a hk, b⟩
          · cases H
theorem cCode_dst {P : Program} {N : Nat} {c : Code} {vc : VC} (hc : cCode P N c = some vc) : ∀ q, (∃ d, vc = .region q d) ∨ (∃ l, vc = .draw2 q l) → DstOk N q := by
  intro q hv
  have key : ∀ (ops : Array Oper), cOpers P N ops ops.toList = some q → DstOk N q := by
    intro ops h3 o ho d hd
    obtain ⟨hlen, hget⟩ := cOpers_get h3
    obtain ⟨i, hi, rfl⟩ := List.mem_iff_getElem.1 ho
    obtain ⟨vo, k1, _, k3, _, k5⟩ := hget i (ops.toList[i]'(by omega)) (by simp)
    rw [List.getElem?_eq_getElem hi] at k1
    simp only [Option.some.injEq] at k1; subst k1
    exact k5 d (by rw [← k3]; exact hd)
  cases c
  case region id ops draw =>
    obtain ⟨p, h3, h | h | h⟩ := cCode_region hc
    · obtain ⟨_, rfl⟩ := h
      rcases hv with ⟨d, h⟩ | ⟨l, h⟩
      · simp only [VC.region.injEq] at h; obtain ⟨rfl, _⟩ := h; exact key ops h3
      · cases h
    · obtain ⟨_, _, ⟨_, rfl⟩ | rfl⟩ := h
      · rcases hv with ⟨d, h⟩ | ⟨l, h⟩
        · simp only [VC.region.injEq] at h; obtain ⟨rfl, _⟩ := h; exact key ops h3
        · cases h
      · rcases hv with ⟨d, h⟩ | ⟨l, h⟩
        · cases h
        · simp only [VC.draw2.injEq] at h; obtain ⟨rfl, _⟩ := h; exact key ops h3
    · obtain ⟨c, rfl⟩ := h
      rcases hv with ⟨d, h⟩ | ⟨l, h⟩ <;> cases h
  all_goals
    exfalso
    rcases hv with ⟨d, rfl⟩ | ⟨l, rfl⟩ <;>
    · simp only [cCode, Option.map_eq_some_iff] at hc
      first
      | (simp at hc; done)
      | (split at hc <;> simp at hc)
theorem VW_regionX {P : Program} {N : Nat} {Q : Exit → Env → Heap → Prop} {e : Env} {h : Heap} {q : List VOper} (H : DstOk N q → OpsW P q (fun e' h' => Q .normal e' h') e h) : VW P N (.region q false) Q e h := by
  intro c hc
  have hdst := cCode_dst hc q (.inl ⟨_, rfl⟩)
  cases c
  case region id ops draw =>
    obtain ⟨p, h3, h' | h' | h'⟩ := cCode_region hc
    · obtain ⟨rfl, h'⟩ := h'
      simp only [VC.region.injEq, and_true] at h'
      subst h'
      intro g w a r he hd hs
      apply wp_region
      have := ops_sound (P := P) (N := N) (ops := ops) (Q := fun x a' w' => ∃ g' e' h', Q x e' h' ∧ Rel g' w' h' ∧ EnvRep g' a' e' ∧ a'.defers = [] ∧ a'.tmps.size = N ∧ Evo g w h g' w' h') (K := fun e' h' => Q .normal e' h') (g0 := g) (w0 := w) (h0 := h)
        (fun g' w' h' a' e' k1 k2 k3 k4 k5 k6 => ⟨g', _, h', k1, k2, k3, k4, k5, k6⟩) ops.toList q 0 e h (fun j => by simp) h3 (H hdst) g w a r he hd hs (Evo.refl _ _ _)
      simpa using this
    · rcases h'.2.2 with ⟨_, h'⟩ | h' <;> simp at h'
    · obtain ⟨c, h'⟩ := h'; cases h'
  all_goals
    simp only [cCode, Option.map_eq_some_iff] at hc
    first
    | (simp at hc; done)
    | (split at hc <;> simp at hc)
end Go.VM

