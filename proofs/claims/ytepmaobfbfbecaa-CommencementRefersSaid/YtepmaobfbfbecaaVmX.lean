/-
  The value machine, run: the walk of a call whose arguments are known is a computation.
-/
import Derived.Test.YtepmaobfbfbecaaVmS
import Derived.LoopN
set_option linter.all false
namespace Go.VM
open Go

/-! ### frames as trees -/
inductive Tr where
  | lf
  | nd (l : Tr) (v : PV) (r : Tr)
  deriving Inhabited
def Tr.get : Tr → Nat → PV
  | .lf, _ => .any
  | .nd l v r, n => bif n == 0 then v else bif n % 2 == 1 then Tr.get l (n / 2) else Tr.get r (n / 2 - 1)
def Tr.put : Nat → Tr → Nat → PV → Tr
  | 0, t, _, _ => t
  | f + 1, .lf, n, x => bif n == 0 then .nd .lf x .lf else bif n % 2 == 1 then .nd (Tr.put f .lf (n / 2) x) .any .lf else .nd .lf .any (Tr.put f .lf (n / 2 - 1) x)
  | f + 1, .nd l v r, n, x => bif n == 0 then .nd l x r else bif n % 2 == 1 then .nd (Tr.put f l (n / 2) x) v r else .nd l v (Tr.put f r (n / 2 - 1) x)
theorem Tr.get_put : ∀ (f : Nat) (t : Tr) (n m : Nat) (x : PV), n + 1 < 2 ^ f → (Tr.put f t n x).get m = if n = m then x else t.get m := by
  intro f
  induction f with
  | zero => intro t n m x h; simp at h
  | succ f ih =>
    intro t n m x h
    have h2 : 2 ^ (f + 1) = 2 ^ f + 2 ^ f := by rw [Nat.pow_succ]; omega
    cases t with
    | lf =>
      by_cases h0 : n = 0
      · subst h0
        cases m with
        | zero => simp [Tr.put, Tr.get]
        | succ m =>
          simp only [Tr.put, Tr.get, beq_self_eq_true, cond_true, Nat.add_eq_zero_iff, Nat.succ_ne_zero, and_false, if_false]
          have : ¬ (0 = m + 1) := by omega
          simp [this]
      · have hb : (n == 0) = false := by simp [h0]
        by_cases h1 : n % 2 = 1
        · have hb1 : (n % 2 == 1) = true := by simp [h1]
          simp only [Tr.put, hb, hb1, cond_true, cond_false, Tr.get]
          by_cases m0 : m = 0
          · subst m0; simp [h0]
          · have mb : (m == 0) = false := by simp [m0]
            by_cases m1 : m % 2 = 1
            · have mb1 : (m % 2 == 1) = true := by simp [m1]
              simp only [mb, mb1, cond_true, cond_false]
              rw [ih .lf (n / 2) (m / 2) x (by omega)]
              by_cases e : n = m
              · subst e; simp
              · rw [if_neg e, if_neg (by omega)]; rfl
            · have mb1 : (m % 2 == 1) = false := by simp [m1]
              simp only [mb, mb1, cond_false]
              rw [if_neg (by rintro rfl; exact m1 h1)]
        · have hb1 : (n % 2 == 1) = false := by simp [h1]
          simp only [Tr.put, hb, hb1, cond_false, Tr.get]
          by_cases m0 : m = 0
          · subst m0; simp [h0]
          · have mb : (m == 0) = false := by simp [m0]
            by_cases m1 : m % 2 = 1
            · have mb1 : (m % 2 == 1) = true := by simp [m1]
              simp only [mb, mb1, cond_true, cond_false]
              rw [if_neg (by rintro rfl; exact h1 m1)]
            · have mb1 : (m % 2 == 1) = false := by simp [m1]
              simp only [mb, mb1, cond_false]
              rw [ih .lf (n / 2 - 1) (m / 2 - 1) x (by omega)]
              by_cases e : n = m
              · subst e; simp
              · rw [if_neg e, if_neg (by omega)]; rfl
    | nd l v r =>
      by_cases h0 : n = 0
      · subst h0
        cases m with
        | zero => simp [Tr.put, Tr.get]
        | succ m =>
          have : ¬ (0 = m + 1) := by omega
          simp [Tr.put, Tr.get, this]
      · have hb : (n == 0) = false := by simp [h0]
        by_cases h1 : n % 2 = 1
        · have hb1 : (n % 2 == 1) = true := by simp [h1]
          simp only [Tr.put, hb, hb1, cond_true, cond_false, Tr.get]
          by_cases m0 : m = 0
          · subst m0; simp [h0]
          · have mb : (m == 0) = false := by simp [m0]
            by_cases m1 : m % 2 = 1
            · have mb1 : (m % 2 == 1) = true := by simp [m1]
              simp only [mb, mb1, cond_true, cond_false]
              rw [ih l (n / 2) (m / 2) x (by omega)]
              by_cases e : n = m
              · subst e; simp
              · rw [if_neg e, if_neg (by omega)]
            · have mb1 : (m % 2 == 1) = false := by simp [m1]
              simp only [mb, mb1, cond_false]
              rw [if_neg (by rintro rfl; exact m1 h1)]
        · have hb1 : (n % 2 == 1) = false := by simp [h1]
          simp only [Tr.put, hb, hb1, cond_false, Tr.get]
          by_cases m0 : m = 0
          · subst m0; simp [h0]
          · have mb : (m == 0) = false := by simp [m0]
            by_cases m1 : m % 2 = 1
            · have mb1 : (m % 2 == 1) = true := by simp [m1]
              simp only [mb, mb1, cond_true, cond_false]
              rw [if_neg (by rintro rfl; exact h1 m1)]
            · have mb1 : (m % 2 == 1) = false := by simp [m1]
              simp only [mb, mb1, cond_false]
              rw [ih r (n / 2 - 1) (m / 2 - 1) x (by omega)]
              by_cases e : n = m
              · subst e; simp
              · rw [if_neg e, if_neg (by omega)]

/-! ### what is asked, as computations -/
def isBoolB : PV → Bool | .bool _ => true | _ => false
def isStrB : PV → Bool | .str _ => true | _ => false
def isIntB : PV → Bool | .int _ _ => true | _ => false
def isAggB : PV → Bool | .agg _ => true | _ => false
def isAddrB : PV → Bool | .loc _ _ _ | .ro _ => true | _ => false
theorem isBoolB_ok {p : PV} (h : isBoolB p = true) : isBool p := by cases p <;> first | trivial | cases h
theorem isStrB_ok {p : PV} (h : isStrB p = true) : isStr p := by cases p <;> first | trivial | cases h
theorem isIntB_ok {p : PV} (h : isIntB p = true) : isInt p := by cases p <;> first | trivial | cases h
theorem isAggB_ok {p : PV} (h : isAggB p = true) : isAggP p := by cases p <;> first | trivial | cases h
theorem isAddrB_ok {p : PV} (h : isAddrB p = true) : isAddr p := by cases p <;> first | trivial | cases h
def binbOkB (op : BinOp) : PV → PV → Bool
  | .bool _, .bool _ => (match op with | .eql | .neq => true | _ => false)
  | _, _ => false
theorem binbOkB_ok {op : BinOp} {a b : PV} (h : binbOkB op a b = true) : binbOk op a b := by
  unfold binbOkB at h
  split at h
  · unfold binbOk
    cases op <;> simp at h ⊢
  · cases h
def binOkB (op : BinOp) : PV → PV → Bool
  | .int k a, .int k' b => (match op with
    | .shl | .shr => decide (0 ≤ b)
    | .quo | .rem => decide (k = k') && !decide (b = 0)
    | _ => decide (k = k'))
  | .str a, .str b => (match op with
    | .add => Nat.ble (a.length + b.length) 9223372036854775807
    | .eql | .neq | .lss | .leq | .gtr | .geq => true
    | _ => false)
  | _, _ => false
theorem binOkB_ok {op : BinOp} {a b : PV} (h : binOkB op a b = true) : binOk op a b := by
  unfold binOkB at h
  split at h
  · unfold binOk
    cases op <;> simpa using h
  · unfold binOk
    cases op <;> first | trivial | (simp at h; done) | (simpa using h)
  · cases h
def ekOkB : EK → PV → PV → Bool
  | .i, .int k _, .int k' _ => decide (k = k')
  | .s, .str _, .str _ => true
  | .b, .bool _, .bool _ => true
  | _, _, _ => false
theorem ekOkB_ok {k : EK} {a b : PV} (h : ekOkB k a b = true) : ekOk k a b := by
  unfold ekOkB at h
  split at h
  · simpa [ekOk] using h
  · trivial
  · trivial
  · cases h
def eqOkB : List EK → List PV → List PV → Bool
  | k :: ks, x :: r, y :: q => ekOkB k x y && eqOkB ks r q
  | [], [], [] => true
  | _, _, _ => false
theorem eqOkB_ok : ∀ {ks : List EK} {a b : List PV}, eqOkB ks a b = true → eqOk ks a b := by
  intro ks
  induction ks with
  | nil => intro a b h; cases a <;> cases b <;> first | trivial | cases h
  | cons k ks ih =>
    intro a b h
    cases a <;> cases b <;> first | (cases h; done) | skip
    simp only [eqOkB, Bool.and_eq_true] at h
    exact ⟨ekOkB_ok h.1, ih h.2⟩
def keyOkB : KK → PV → PV → Bool
  | .one k, a, b => ekOkB k a b
  | .st ks, .agg a, .agg b => eqOkB ks a b
  | _, _, _ => false
theorem keyOkB_ok {kk : KK} {a b : PV} (h : keyOkB kk a b = true) : keyOk kk a b := by
  unfold keyOkB at h
  split at h
  · exact ekOkB_ok h
  · exact ⟨trivial, trivial, eqOkB_ok h⟩
  · cases h
def keysOkB (kk : KK) (k : PV) (es : List (PV × PV)) : Bool := keyOkB kk k k && es.all fun p => keyOkB kk k p.1
theorem keysOkB_ok {kk : KK} {k : PV} {es : List (PV × PV)} (h : keysOkB kk k es = true) : keysOk kk k es := by
  simp only [keysOkB, Bool.and_eq_true, List.all_eq_true] at h
  exact ⟨keyOkB_ok h.1, fun p hp => keyOkB_ok (h.2 p hp)⟩
def mapOkB (h : Heap) : PV → Bool
  | .mp id => (match h.get id with | some (.map _) => true | _ => false)
  | .rmp _ => true
  | .nilmp => true
  | _ => false
theorem mapOkB_ok {h : Heap} {p : PV} (H : mapOkB h p = true) : mapOk h p := by
  unfold mapOkB at H
  split at H
  · split at H
    · rename_i e; simp [mapOk, e]
    · cases H
  · trivial
  · trivial
  · cases H
def mapHasB (h : Heap) : PV → Bool
  | .mp id => (match h.get id with | some (.map _) => true | _ => false)
  | _ => false
theorem mapHasB_ok {h : Heap} {p : PV} (H : mapHasB h p = true) : mapHas h p := by
  unfold mapHasB at H
  split at H
  · split at H
    · rename_i e; simp [mapHas, e]
    · cases H
  · cases H
def unOkB (op : UnOp) : PV → Bool
  | .int _ _ => (match op with | .neg => true | _ => false)
  | .bool _ => (match op with | .not => true | _ => false)
  | _ => false
theorem unOkB_ok {op : UnOp} {p : PV} (h : unOkB op p = true) : unOk op p := by
  unfold unOkB at h
  split at h
  · unfold unOk; cases op <;> simp at h ⊢
  · unfold unOk; cases op <;> simp at h ⊢
  · cases h
def boundOkB : Option PV → Bool
  | some (.int _ n) => decide (0 ≤ n)
  | some _ => false
  | none => true
theorem boundOkB_ok {o : Option PV} (h : boundOkB o = true) : boundOk o := by
  unfold boundOkB at h
  split at h
  · simpa [boundOk] using h
  · cases h
  · trivial
def sliceOkB (st : Bool) (z : Nat) (h : Heap) (a : PV) (lo hi : Option PV) : Bool :=
  boundOkB lo && boundOkB hi && Nat.ble (loV lo) (hiV (lenV a) hi) && Nat.ble (hiV (lenV a) hi) (lenV a) &&
  match a with
  | .str _ => st
  | .sl z' _ => !st && Nat.beq z' z
  | .own id _ _ => !st && (match h.get id with | some (.arr _ z' _) => Nat.beq z' z | _ => false)
  | .nilsl => !st
  | _ => false
theorem sliceOkB_ok {st : Bool} {z : Nat} {h : Heap} {a : PV} {lo hi : Option PV} (H : sliceOkB st z h a lo hi = true) : sliceOk st z h a lo hi := by
  simp only [sliceOkB, Bool.and_eq_true, Nat.ble_eq] at H
  obtain ⟨⟨⟨⟨h1, h2⟩, h3⟩, h4⟩, h5⟩ := H
  refine ⟨boundOkB_ok h1, boundOkB_ok h2, h3, h4, ?_⟩
  split at h5
  · exact h5
  · simp only [Bool.and_eq_true, Bool.not_eq_true'] at h5; exact ⟨h5.1, Nat.eq_of_beq_eq_true h5.2⟩
  · simp only [Bool.and_eq_true, Bool.not_eq_true'] at h5
    refine ⟨h5.1, ?_⟩
    have h6 := h5.2
    split at h6
    · rename_i e; rw [e]; simpa using h6
    · cases h6
  · simpa using h5
  · cases h5
def locOkB (h : Heap) : PV → Bool
  | .loc id i _ => (match h.get id with | some (.arr _ _ es) => Nat.blt i es.length | _ => false)
  | .ro _ => true
  | _ => false
theorem locOkB_ok {h : Heap} {p : PV} (H : locOkB h p = true) : locOk h p := by
  unfold locOkB at H
  split at H
  · split at H
    · rename_i e; simp only [locOk, e]; exact Nat.le_of_ble_eq_true H
    · cases H
  · trivial
  · cases H
def iaddrOkB (z : Nat) (h : Heap) (a i : PV) : Bool :=
  isIntB i && decide (0 ≤ numOf i) && decide (numOf i < lenV a) &&
  match a with
  | .sl z' _ => Nat.beq z' z
  | .own id _ _ => (match h.get id with | some (.arr _ z' _) => Nat.beq z' z | _ => false)
  | _ => false
theorem iaddrOkB_ok {z : Nat} {h : Heap} {a i : PV} (H : iaddrOkB z h a i = true) : iaddrOk z h a i := by
  simp only [iaddrOkB, Bool.and_eq_true, decide_eq_true_eq] at H
  obtain ⟨⟨⟨h1, h2⟩, h3⟩, h4⟩ := H
  refine ⟨isIntB_ok h1, h2, h3, ?_⟩
  split at h4
  · simpa using h4
  · split at h4
    · rename_i e; simp only [e]; simpa using h4
    · cases h4
  · cases h4
def idxOkB (a i : PV) : Bool := isIntB i && decide (0 ≤ numOf i) && decide (numOf i < lenV a) && isStrB a
theorem idxOkB_ok {a i : PV} (H : idxOkB a i = true) : idxOk a i := by
  simp only [idxOkB, Bool.and_eq_true, decide_eq_true_eq] at H
  obtain ⟨⟨⟨h1, h2⟩, h3⟩, h4⟩ := H
  refine ⟨isIntB_ok h1, h2, h3, ?_⟩
  cases a <;> first | trivial | cases h4
def lenOkB (st : Bool) : PV → Bool
  | .str _ => st
  | .sl _ _ | .own _ _ _ | .nilsl => !st
  | _ => false
theorem lenOkB_ok {st : Bool} {p : PV} (H : lenOkB st p = true) : lenOk st p := by
  cases p <;> simp [lenOkB] at H <;> simp [lenOk, H]
def extOkB (i : Nat) : PV → Bool
  | .tup l => Nat.blt i l.length
  | _ => false
theorem extOkB_ok {i : Nat} {p : PV} (H : extOkB i p = true) : extOk i p := by
  cases p <;> simp [extOkB] at H
  exact H
def fitsB (n : Nat) (p : PV) : Bool := p.fits n
def fillOkB (e : Env) (n : Nat) : List (Nat × Nat × VA) → Bool
  | [] => true
  | (o, s, a) :: r => (a.ev e).fits s && Nat.ble (o + s) n && fillOkB e n r
theorem fillOkB_ok {e : Env} {n : Nat} : ∀ {l : List (Nat × Nat × VA)}, fillOkB e n l = true → fillOk e n l
  | [], _ => trivial
  | (o, s, a) :: r, h => by
    simp only [fillOkB, Bool.and_eq_true, Nat.ble_eq] at h
    exact ⟨h.1.1, h.1.2, fillOkB_ok h.2⟩
def elemsOkB (e : Env) (z n : Nat) : List (Nat × VA) → Bool
  | [] => true
  | (i, a) :: r => (a.ev e).fits z && Nat.blt i n && elemsOkB e z n r
theorem elemsOkB_ok {e : Env} {z n : Nat} : ∀ {l : List (Nat × VA)}, elemsOkB e z n l = true → elemsOk e z n l
  | [], _ => trivial
  | (i, a) :: r, h => by
    simp only [elemsOkB, Bool.and_eq_true] at h
    exact ⟨h.1.1, Nat.le_of_ble_eq_true h.1.2, elemsOkB_ok h.2⟩
def srcOkB (h : Heap) (str : Bool) (z : Nat) : PV → Bool
  | .sl z' _ => !str && Nat.beq z' z
  | .own id off len => !str && (match h.get id with
    | some (.arr _ z' es) => Nat.beq z' z && Nat.ble (off + len) es.length
    | _ => false)
  | .nilsl => !str
  | .str _ => str && Nat.beq z 1
  | _ => false
theorem srcOkB_ok {h : Heap} {str : Bool} {z : Nat} {p : PV} (H : srcOkB h str z p = true) : srcOk h str z p := by
  unfold srcOkB at H
  split at H
  · simpa [srcOk] using H
  · simp only [Bool.and_eq_true, Bool.not_eq_true'] at H
    refine ⟨H.1, ?_⟩
    have h6 := H.2
    split at h6
    · rename_i e; rw [e]; simpa using h6
    · cases h6
  · simpa [srcOk] using H
  · simpa [srcOk] using H
  · cases H
def oldOkB (h : Heap) (z : Nat) : PV → Bool
  | .nilsl => true
  | .own id off len => (match h.get id with
    | some (.arr fz z' es) => !fz && Nat.beq z' z && Nat.ble (off + len) es.length
    | _ => false)
  | _ => false
theorem oldOkB_ok {h : Heap} {z : Nat} {p : PV} (H : oldOkB h z p = true) : oldOk h z p := by
  unfold oldOkB at H
  split at H
  · trivial
  · split at H
    · rename_i e; simp only [oldOk, e]; simp only [Bool.and_eq_true, Bool.not_eq_true', Nat.ble_eq] at H; exact ⟨H.1.1, Nat.eq_of_beq_eq_true H.1.2, H.2⟩
    · cases H
  · cases H
def storeOkB (h : Heap) (s : Nat) (p v : PV) : Bool :=
  v.fits s && match p with
  | .loc id i off => (match h.get id with
    | some (.arr fz z es) => !fz && Nat.blt i es.length && Nat.ble (off + s) z
    | _ => false)
  | _ => false
theorem storeOkB_ok {h : Heap} {s : Nat} {p v : PV} (H : storeOkB h s p v = true) : storeOk h s p v := by
  simp only [storeOkB, Bool.and_eq_true] at H
  refine ⟨H.1, ?_⟩
  have h2 := H.2
  split at h2
  · split at h2
    · rename_i e; simp only [e]; simp only [Bool.and_eq_true, Bool.not_eq_true', Nat.ble_eq] at h2; exact ⟨h2.1.1, Nat.le_of_ble_eq_true h2.1.2, h2.2⟩
    · cases h2
  · cases h2

/-! ### operands in place -/
def VA.res (t : Tr) : VA → VA
  | .t n => .c (t.get n)
  | .c p => .c p
/-- The frame as the tree has it. -/
def Sim (t : Tr) (e : Env) : Prop := ∀ n, t.get n = e.get n
theorem Sim.ev {t : Tr} {e : Env} (h : Sim t e) (a : VA) : (a.res t).ev [] = a.ev e := by
  cases a with
  | t n => exact h n
  | c p => rfl
def VOp.res (t : Tr) : VOp → VOp
  | .mv a => .mv (a.res t)
  | .pick c a b => .pick (c.res t) (a.res t) (b.res t)
  | .alloc z => .alloc z
  | .box n a => .box n (a.res t)
  | .build z ps => .build z (ps.map fun p => (p.1, p.2.1, p.2.2.res t))
  | .bslice z n zr ps => .bslice z n zr (ps.map fun p => (p.1, p.2.res t))
  | .load g s a => .load g s (a.res t)
  | .store s a v => .store s (a.res t) (v.res t)
  | .bin op a b => .bin op (a.res t) (b.res t)
  | .binb op a b => .binb op (a.res t) (b.res t)
  | .strid a => .strid (a.res t)
  | .eqs n ks a b => .eqs n ks (a.res t) (b.res t)
  | .isnil n a => .isnil n (a.res t)
  | .un op a => .un op (a.res t)
  | .conv k a => .conv k (a.res t)
  | .b2s a => .b2s (a.res t)
  | .s2b a => .s2b (a.res t)
  | .mkfn f x y => .mkfn f (x.map (VA.res t)) (y.map (VA.res t))
  | .slice st z a lo hi => .slice st z (a.res t) (lo.map (VA.res t)) (hi.map (VA.res t))
  | .faddr o a => .faddr o (a.res t)
  | .fld g o s a => .fld g o s (a.res t)
  | .iaddr z a i => .iaddr z (a.res t) (i.res t)
  | .idx a i => .idx (a.res t) (i.res t)
  | .ext a i => .ext (a.res t) i
  | .len st a => .len st (a.res t)
  | .app z b zr st x y => .app z b zr st (x.res t) (y.res t)
  | .mm mx l => .mm mx (l.map (VA.res t))
  | .mkmap => .mkmap
  | .lookup kk z ok m k => .lookup kk z ok (m.res t) (k.res t)
  | .mapset kk m k v => .mapset kk (m.res t) (k.res t) (v.res t)
  | .mlen m => .mlen (m.res t)
  | .call f l => .call f (l.map (VA.res t))
  | .callv f l => .callv (f.res t) (l.map (VA.res t))
  | .px k l => .px k (l.map (VA.res t))
  | .fx k l => .fx k (l.map (VA.res t))
  | .nd neg a => .nd neg (a.res t)
  | .other o => .other o
section
variable {t : Tr} {e : Env} (hs : Sim t e)
include hs
theorem fill_res : ∀ (ps : List (Nat × Nat × VA)) (cs : List PV), fillV [] cs (ps.map fun p => (p.1, p.2.1, p.2.2.res t)) = fillV e cs ps
  | [], _ => rfl
  | (o, s, a) :: r, cs => by simp only [List.map_cons, fillV]; rw [hs.ev a, fill_res r]
theorem fillOk_res (n : Nat) : ∀ (ps : List (Nat × Nat × VA)), fillOk [] n (ps.map fun p => (p.1, p.2.1, p.2.2.res t)) = fillOk e n ps
  | [] => rfl
  | (o, s, a) :: r => by simp only [List.map_cons, fillOk]; rw [hs.ev a, fillOk_res n r]
theorem elems_res : ∀ (ps : List (Nat × VA)) (rows : List (List PV)), elemsV [] rows (ps.map fun p => (p.1, p.2.res t)) = elemsV e rows ps
  | [], _ => rfl
  | (i, a) :: r, rows => by simp only [List.map_cons, elemsV]; rw [hs.ev a, elems_res r]
theorem elemsOk_res (z n : Nat) : ∀ (ps : List (Nat × VA)), elemsOk [] z n (ps.map fun p => (p.1, p.2.res t)) = elemsOk e z n ps
  | [] => rfl
  | (i, a) :: r => by simp only [List.map_cons, elemsOk]; rw [hs.ev a, elemsOk_res z n r]
theorem opt_res (o : Option VA) : (o.map (VA.res t)).map (VA.ev []) = o.map (VA.ev e) := by
  cases o with
  | none => rfl
  | some a => simp [hs.ev a]
theorem map_res (l : List VA) : (l.map (VA.res t)).map (VA.ev []) = l.map (VA.ev e) := by
  rw [List.map_map]; exact List.map_congr_left fun a _ => hs.ev a
theorem pval_res (h : Heap) (op : VOp) : pval [] h (op.res t) = pval e h op := by
  cases op <;> simp only [VOp.res, pval, hs.ev, fill_res hs, opt_res hs, map_res hs]
  case mm mx l =>
    match l with
    | [] => rfl
    | [a] => rfl
    | [a, b] => simp only [List.map_cons, List.map_nil, hs.ev]
    | _ :: _ :: _ :: _ => rfl
theorem pok_res (h : Heap) (op : VOp) : pok [] h (op.res t) = pok e h op := by
  cases op <;> simp only [VOp.res, pok, hs.ev, fillOk_res hs, opt_res hs, map_res hs]
  case mm mx l =>
    match l with
    | [] => rfl
    | [a] => rfl
    | [a, b] => simp only [List.map_cons, List.map_nil, hs.ev]
    | _ :: _ :: _ :: _ => rfl
end
theorem res_pure (t : Tr) (op : VOp) : (op.res t).pure = op.pure := by cases op <;> rfl
theorem StepW_res {P : Program} {t : Tr} {e : Env} (hs : Sim t e) {h : Heap} {op : VOp} {K : PV → Heap → Prop} (H : StepW P [] h (op.res t) K) (ho : op.closed = true) : StepW P e h op K := by
  have h1 := pval_res hs h op
  have h2 := pok_res hs h op
  cases op <;> simp only [VOp.res, StepW, hs.ev, elems_res hs, elemsOk_res hs, map_res hs] at H h1 h2 ⊢ <;> first | exact H | (rw [← h1, ← h2]; exact H) | skip
  case other o => simp [VOp.closed] at ho
end Go.VM

