/-
  Sets of days: algebra, sizes, boundaries: plain laws, no program in sight.
-/
import Derived.Test.YtepmaobfbfbecaaDoorSo
set_option linter.all false
namespace Go.Proofs.YtepmaobfbfbecaaDoor.w
open Go Go.VM
def ctSub (x y : Bool) : Bool := x && !y
/-- Is the day in the set? -/
noncomputable def chi (l : List Sp) (d : Int) : Bool := memB (normS l) d
theorem chi_canon {l : List Sp} (h : Canon l) (d : Int) : chi l d = memB l d := by unfold chi; rw [norm_self h]
theorem chi_both (ct : Bool → Bool → Bool) (h0 : ct false false = false) (a b : List Sp) (d : Int) : chi (bothS ct a b) d = ct (chi a d) (chi b d) := by
  obtain ⟨h1, h2⟩ := both_spec ct h0 a b
  rw [chi_canon h1, Bool.eq_iff_iff, memB_iff, h2]; rfl
theorem canon_ext {l m : List Sp} (h1 : Canon l) (h2 : Canon m) (h : ∀ d, chi l d = chi m d) : l = m := by
  refine CanonF.unique h1 h2 fun d => ?_
  have := h d
  rw [chi_canon h1, chi_canon h2, Bool.eq_iff_iff, memB_iff, memB_iff] at this
  exact this
theorem both_canon (ct : Bool → Bool → Bool) (h0 : ct false false = false) (a b : List Sp) : Canon (bothS ct a b) := (both_spec ct h0 a b).1
theorem chi_norm (l : List Sp) (d : Int) : chi (normS l) d = chi l d := by
  rw [chi_canon (norm_spec l).1]; rfl
theorem chi_valid {l : List Sp} {d : Int} (h : chi l d = true) : validD d := (norm_spec l).1.valid ((memB_iff _ _).1 h)
theorem chi_trunc (l : List Sp) (day d : Int) : chi (truncS l day) d = (chi l d && decide (d < day)) := by
  obtain ⟨h1, h2⟩ := trunc_spec l day
  have hn := (norm_spec l).2 d
  rw [chi_canon h1, Bool.eq_iff_iff, memB_iff, h2, Bool.and_eq_true, decide_eq_true_eq]
  unfold chi
  rw [memB_iff, hn]
  exact ⟨fun h => ⟨⟨h.1, h.2.1⟩, h.2.2⟩, fun h => ⟨h.1.1, h.1.2, h.2⟩⟩
theorem chi_extend (l : List Sp) (day d : Int) : chi (extendS l day) d = ((decide (0 ≤ d) && decide (d ≤ 1048576)) && (decide (day ≤ d) || chi l d)) := by
  obtain ⟨h1, h2⟩ := extend_spec l day
  have hn := (norm_spec l).2 d
  rw [chi_canon h1, Bool.eq_iff_iff, memB_iff, h2]
  simp only [Bool.and_eq_true, Bool.or_eq_true, decide_eq_true_eq]
  unfold chi
  rw [memB_iff, hn]
  unfold validD forever
  constructor
  · rintro ⟨h, k | k⟩
    · exact ⟨⟨h.1, by omega⟩, .inr ⟨h, k⟩⟩
    · exact ⟨⟨h.1, by omega⟩, .inl k⟩
  · rintro ⟨h, k | k⟩
    · exact ⟨⟨h.1, by omega⟩, .inr k⟩
    · exact ⟨⟨h.1, by omega⟩, .inl k.2⟩
theorem canon_nil {l : List Sp} (h : Canon l) (hn : ∀ d, chi l d = false) : l = [] := by
  cases l with
  | nil => rfl
  | cons s r =>
    have := hn s.frm
    rw [chi_canon h] at this
    have h2 : memB (s :: r) s.frm = true := (memB_iff _ _).2 ((memS_cons s r s.frm).2 (.inl ⟨Int.le_refl _, h.2.1⟩))
    rw [h2] at this; cases this
theorem compact_len (zs : List Int) : (Lib.compact zs).length ≤ zs.length := by
  have h : ∀ (d : Array Int) (m : Nat), (Lib.compactUpTo d m).length ≤ m := by
    intro d m
    unfold Lib.compactUpTo
    rw [List.length_map]
    exact Nat.le_trans (List.length_filter_le ..) (by simp)
  have := h zs.toArray zs.length
  exact this
theorem both_len (ct : Bool → Bool → Bool) (a b : List Sp) : (bothS ct a b).length ≤ 2 * (a.length + b.length) := by
  unfold bothS
  have h1 := norm_len (segs (fun x => ct (memB (normS a) x) (memB (normS b) x)) (cutsS (normS a) (normS b)))
  have h2 := segs_len (fun x => ct (memB (normS a) x) (memB (normS b) x)) (cutsS (normS a) (normS b))
  have h3 : (cutsS (normS a) (normS b)).length ≤ 2 * ((normS a).length + (normS b).length) := by
    unfold cutsS
    have h4 := compact_len (sortI (endsS (normS a ++ normS b)))
    have h5 : (sortI (endsS (normS a ++ normS b))).length = 2 * ((normS a).length + (normS b).length) := by
      unfold sortI
      rw [List.length_mergeSort, ends_len, List.length_append]
    omega
  have h6 := norm_len a
  have h7 := norm_len b
  omega
/-! ### sizes -/
def sumS (l : List Sp) : Int := l.foldl (fun n s => n + (s.to - s.frm)) 0
theorem sumS_acc (l : List Sp) : ∀ n : Int, l.foldl (fun n s => n + (s.to - s.frm)) n = n + sumS l := by
  unfold sumS
  induction l with
  | nil => intro n; simp
  | cons s r ih =>
    intro n
    simp only [List.foldl_cons]
    rw [ih, ih (0 + (s.to - s.frm))]
    omega
theorem sumS_cons (s : Sp) (r : List Sp) : sumS (s :: r) = (s.to - s.frm) + sumS r := by
  have h := sumS_acc r (0 + (s.to - s.frm))
  have e : sumS (s :: r) = r.foldl (fun n s => n + (s.to - s.frm)) (0 + (s.to - s.frm)) := rfl
  rw [e, h]; omega
def days : List Nat := List.range 1048577
theorem days_len : days.length = 1048577 := List.length_range
def cnt (p : Int → Bool) : Nat := days.countP fun n : Nat => p (n : Int)
theorem countP_ie {α : Type} (p q : α → Bool) : ∀ l : List α, l.countP p + l.countP q = l.countP (fun x => p x || q x) + l.countP (fun x => p x && q x)
  | [] => rfl
  | x :: r => by
    have := countP_ie p q r
    simp only [List.countP_cons]
    cases p x <;> cases q x <;> simp <;> omega
theorem countP_sub {α : Type} (p q : α → Bool) : ∀ l : List α, l.countP (fun x => p x && !q x) + l.countP (fun x => p x && q x) = l.countP p
  | [] => rfl
  | x :: r => by
    have := countP_sub p q r
    simp only [List.countP_cons]
    cases p x <;> cases q x <;> simp <;> omega
theorem countP_range (N a b : Nat) (hab : a ≤ b) : (List.range N).countP (fun n => decide (a ≤ n) && decide (n < b)) = min N b - min N a := by
  induction N with
  | zero => simp
  | succ N ih =>
    rw [List.range_succ, List.countP_append, ih]
    simp only [List.countP_cons, List.countP_nil]
    by_cases h1 : a ≤ N <;> by_cases h2 : N < b <;> simp [h1, h2] <;> omega
theorem cnt_congr {p q : Int → Bool} (h : ∀ d : Int, p d = q d) : cnt p = cnt q := by
  have : p = q := funext h
  rw [this]
theorem cnt_ie (p q : Int → Bool) : cnt p + cnt q = cnt (fun d => p d || q d) + cnt (fun d => p d && q d) := countP_ie (fun n : Nat => p n) (fun n : Nat => q n) days
theorem cnt_sub (p q : Int → Bool) : cnt (fun d => p d && !q d) + cnt (fun d => p d && q d) = cnt p := countP_sub (fun n : Nat => p n) (fun n : Nat => q n) days
theorem cnt_zero {p : Int → Bool} (h : ∀ d : Int, p d = false) : cnt p = 0 := by
  have : p = fun _ => false := funext h
  rw [this]
  unfold cnt
  rw [List.countP_eq_zero]
  intro n _
  exact Bool.false_ne_true
theorem cnt_span {a b : Int} (h1 : 0 ≤ a) (h2 : a ≤ b) (h3 : b ≤ forever) : (cnt (fun d => decide (a ≤ d) && decide (d < b)) : Int) = b - a := by
  have h : days.countP (fun n : Nat => decide (a.toNat ≤ n) && decide (n < b.toNat)) = min 1048577 b.toNat - min 1048577 a.toNat := countP_range 1048577 a.toNat b.toNat (by omega)
  have e : (fun n : Nat => decide (a ≤ (n : Int)) && decide ((n : Int) < b)) = fun n : Nat => decide (a.toNat ≤ n) && decide (n < b.toNat) := by
    funext n
    have e1 : decide (a ≤ (n : Int)) = decide (a.toNat ≤ n) := by rw [decide_eq_decide]; omega
    have e2 : decide ((n : Int) < b) = decide (n < b.toNat) := by rw [decide_eq_decide]; omega
    rw [e1, e2]
  unfold cnt
  rw [e, h]
  simp only [forever] at h3
  omega
theorem memB_cons (s : Sp) (r : List Sp) (d : Int) : memB (s :: r) d = ((decide (s.frm ≤ d) && decide (d < s.to)) || memB r d) := rfl
theorem size_cnt : ∀ {l : List Sp} {b : Int}, -1 ≤ b → CanonF b l → sumS l = (cnt (memB l) : Int)
  | [], b, _, _ => by
    rw [cnt_zero (p := memB []) fun d => rfl]; rfl
  | s :: r, b, hb, h => by
    obtain ⟨h1, h2, h3, h4⟩ := h
    have ih := size_cnt (by omega) h4
    have e1 : cnt (memB (s :: r)) = cnt (fun d => (decide (s.frm ≤ d) && decide (d < s.to)) || memB r d) := cnt_congr fun d => memB_cons s r d
    have e2 : cnt (fun d => (decide (s.frm ≤ d) && decide (d < s.to)) && memB r d) = 0 := cnt_zero fun d => by
      cases hm : memB r d with
      | false => rw [Bool.and_false]
      | true =>
        have := h4.lower ((memB_iff _ _).1 hm)
        have : decide (d < s.to) = false := decide_eq_false (by omega)
        rw [this]; simp
    have e3 := cnt_ie (fun d => decide (s.frm ≤ d) && decide (d < s.to)) (memB r)
    have e4 := cnt_span (a := s.frm) (b := s.to) (by omega) (by omega) h3
    rw [sumS_cons, ih, e1]
    omega
noncomputable def sizeS (l : List Sp) : Int := sumS (normS l)
theorem sizeS_cnt (l : List Sp) : sizeS l = (cnt (chi l) : Int) := size_cnt (by omega) (norm_spec l).1
theorem cnt_le (p : Int → Bool) : cnt p ≤ 1048577 := by
  unfold cnt
  have := List.countP_le_length (p := fun n : Nat => p (n : Int)) (l := days)
  rw [days_len] at this
  exact this
theorem sizeS_bound (l : List Sp) : 0 ≤ sizeS l ∧ sizeS l ≤ 1048577 := by
  rw [sizeS_cnt]
  have := cnt_le (chi l)
  omega
theorem take_canon : ∀ {l : List Sp} {b : Int} (k : Nat), CanonF b l → CanonF b (l.take k)
  | [], _, k, _ => by simp [CanonF]
  | s :: r, b, 0, _ => trivial
  | s :: r, b, k + 1, h => ⟨h.1, h.2.1, h.2.2.1, take_canon k h.2.2.2⟩
theorem sum_take_bound {l : List Sp} (h : Canon l) (k : Nat) : 0 ≤ sumS (l.take k) ∧ sumS (l.take k) ≤ 1048577 := by
  rw [size_cnt (b := -1) (by omega) (take_canon k h)]
  have := cnt_le (memB (l.take k))
  omega
theorem sizes_join (a b : List Sp) : sizeS (bothS ctOr a b) + sizeS (bothS ctAnd a b) = sizeS a + sizeS b := by
  simp only [sizeS_cnt]
  have h1 : cnt (chi (bothS ctOr a b)) = cnt (fun d => chi a d || chi b d) := cnt_congr fun d => chi_both ctOr rfl a b d
  have h2 : cnt (chi (bothS ctAnd a b)) = cnt (fun d => chi a d && chi b d) := cnt_congr fun d => chi_both ctAnd rfl a b d
  have := cnt_ie (chi a) (chi b)
  rw [h1, h2]
  omega
theorem sizes_less (a b : List Sp) : sizeS (bothS ctSub a b) = sizeS a - sizeS (bothS ctAnd a b) := by
  simp only [sizeS_cnt]
  have h1 : cnt (chi (bothS ctSub a b)) = cnt (fun d => chi a d && !chi b d) := cnt_congr fun d => chi_both ctSub rfl a b d
  have h2 : cnt (chi (bothS ctAnd a b)) = cnt (fun d => chi a d && chi b d) := cnt_congr fun d => chi_both ctAnd rfl a b d
  have := cnt_sub (chi a) (chi b)
  rw [h1, h2]
  omega
/-- From a day on. -/
theorem chi_rest (a : List Sp) (day d : Int) : chi (bothS ctAnd a (extendS [] day)) d = (chi a d && !decide (d < day)) := by
  rw [chi_both ctAnd rfl, chi_extend, ctAnd]
  cases h : chi a d with
  | false => rfl
  | true =>
    have v := chi_valid h
    unfold validD forever at v
    have e : chi [] d = false := by
      cases hh : chi [] d with
      | false => rfl
      | true => exact (memS_nil d (((norm_spec []).2 d).1 ((memB_iff _ _).1 hh)).2).elim
    rw [e]
    rw [Bool.eq_iff_iff]; simp; omega
theorem sizes_split (a : List Sp) (day : Int) : sizeS (truncS a day) + sizeS (bothS ctAnd a (extendS [] day)) = sizeS a := by
  simp only [sizeS_cnt]
  have h1 : cnt (chi (truncS a day)) = cnt (fun d => chi a d && decide (d < day)) := cnt_congr fun d => chi_trunc a day d
  have h2 : cnt (chi (bothS ctAnd a (extendS [] day))) = cnt (fun d => chi a d && !decide (d < day)) := cnt_congr fun d => chi_rest a day d
  have := cnt_sub (chi a) (fun d => decide (d < day))
  rw [h1, h2]
  omega
theorem split_join (a : List Sp) (day : Int) : bothS ctOr (truncS a day) (bothS ctAnd a (extendS [] day)) = normS a := by
  refine canon_ext (both_canon ctOr rfl _ _) (norm_spec a).1 fun d => ?_
  rw [chi_both ctOr rfl, chi_trunc, chi_rest, chi_norm, ctOr]
  cases chi a d <;> cases decide (d < day) <;> rfl
theorem sizes_extend (a : List Sp) (day : Int) (h0 : 0 ≤ day) (h1 : day ≤ 1048576) : sizeS (extendS a day) = sizeS (truncS a day) + 1048576 + 1 - day := by
  simp only [sizeS_cnt]
  have e1 : cnt (chi (truncS a day)) = cnt (fun d => chi a d && decide (d < day)) := cnt_congr fun d => chi_trunc a day d
  have e2 : cnt (chi (extendS a day)) = cnt (fun d => (chi a d && decide (d < day)) || (decide (day ≤ d) && decide (d < 1048577))) := cnt_congr fun d => by
    rw [chi_extend]
    cases h : chi a d with
    | true =>
      have v := chi_valid h
      unfold validD forever at v
      rw [Bool.eq_iff_iff]; simp; omega
    | false => rw [Bool.eq_iff_iff]; simp; omega
  have e3 := cnt_ie (fun d => chi a d && decide (d < day)) (fun d => decide (day ≤ d) && decide (d < 1048577))
  have e4 : cnt (fun d => (chi a d && decide (d < day)) && (decide (day ≤ d) && decide (d < 1048577))) = 0 := cnt_zero fun d => by
    rw [Bool.eq_false_iff]
    simp only [ne_eq, Bool.and_eq_true, decide_eq_true_eq]
    omega
  have e5 := cnt_span (a := day) (b := 1048577) h0 (by omega) (by simp [forever])
  rw [e1, e2]
  omega
/-! ### boundaries -/
def edges (l : List Sp) : List Int := l.flatMap fun s => s.frm :: (if s.to < 1048577 then [s.to] else [])
theorem edges_cons (s : Sp) (r : List Sp) : edges (s :: r) = s.frm :: ((if s.to < 1048577 then [s.to] else []) ++ edges r) := by simp [edges]
theorem edges_low : ∀ {l : List Sp} {b : Int}, CanonF b l → ∀ x ∈ edges l, b < x
  | [], _, _, x, h => by simp [edges] at h
  | s :: r, b, h, x, hx => by
    rw [edges_cons] at hx
    have h1 := h.1; have h2 := h.2.1
    rcases List.mem_cons.1 hx with rfl | hx
    · exact h1
    · rcases List.mem_append.1 hx with hx | hx
      · split at hx
        · rw [List.mem_singleton] at hx; omega
        · cases hx
      · have := edges_low h.2.2.2 x hx; omega
theorem edges_sorted : ∀ {l : List Sp} {b : Int}, CanonF b l → (edges l).Pairwise (· < ·)
  | [], _, _ => by simp [edges]
  | s :: r, b, h => by
    have h2 := h.2.1
    have hl := edges_low h.2.2.2
    rw [edges_cons]
    refine List.pairwise_cons.2 ⟨fun x hx => ?_, ?_⟩
    · rcases List.mem_append.1 hx with hx | hx
      · split at hx
        · rw [List.mem_singleton] at hx; omega
        · cases hx
      · have := hl x hx; omega
    · rw [List.pairwise_append]
      refine ⟨by split <;> simp, edges_sorted h.2.2.2, fun x hx y hy => ?_⟩
      split at hx
      · rw [List.mem_singleton] at hx
        have := hl y hy; omega
      · cases hx
theorem edges_mem : ∀ {l : List Sp} {b : Int} (day : Int), CanonF b l → day < forever → (day ∈ edges l ↔ memB l day ≠ memB l (day - 1))
  | [], _, day, _, _ => by simp [edges, memB]
  | s :: r, b, day, h, hd => by
    obtain ⟨h1, h2, h3, h4⟩ := h
    have hl := edges_low h4
    rw [edges_cons, memB_cons, memB_cons]
    by_cases hc : s.to < day
    · have ih := edges_mem day h4 hd
      have e1 : decide (day < s.to) = false := decide_eq_false (by omega)
      have e2 : decide (day - 1 < s.to) = false := decide_eq_false (by omega)
      rw [e1, e2, Bool.and_false, Bool.and_false, Bool.false_or, Bool.false_or, ← ih]
      constructor
      · intro hx
        rcases List.mem_cons.1 hx with rfl | hx
        · omega
        · rcases List.mem_append.1 hx with hx | hx
          · split at hx
            · rw [List.mem_singleton] at hx; omega
            · cases hx
          · exact hx
      · exact fun hx => List.mem_cons_of_mem _ (List.mem_append_right _ hx)
    · have r1 : memB r day = false := by
        cases hm : memB r day with
        | false => rfl
        | true => have := h4.lower ((memB_iff _ _).1 hm); omega
      have r2 : memB r (day - 1) = false := by
        cases hm : memB r (day - 1) with
        | false => rfl
        | true => have := h4.lower ((memB_iff _ _).1 hm); omega
      rw [r1, r2, Bool.or_false, Bool.or_false]
      have key : day ∈ s.frm :: ((if s.to < 1048577 then [s.to] else []) ++ edges r) ↔ day = s.frm ∨ day = s.to := by
        constructor
        · intro hx
          rcases List.mem_cons.1 hx with rfl | hx
          · exact .inl rfl
          · rcases List.mem_append.1 hx with hx | hx
            · split at hx
              · rw [List.mem_singleton] at hx; exact .inr hx
              · cases hx
            · have := hl day hx; omega
        · rintro (rfl | rfl)
          · exact List.mem_cons_self ..
          · refine List.mem_cons_of_mem _ (List.mem_append_left _ ?_)
            simp only [forever] at hd
            rw [if_pos (by omega)]; exact List.mem_singleton.2 rfl
      rw [key]
      constructor
      · intro hx hh
        rw [Bool.eq_iff_iff] at hh
        simp only [Bool.and_eq_true, decide_eq_true_eq] at hh
        omega
      · intro hx
        have : ¬ ((s.frm ≤ day ∧ day < s.to) ↔ (s.frm ≤ day - 1 ∧ day - 1 < s.to)) := fun hh => hx (by rw [Bool.eq_iff_iff]; simp only [Bool.and_eq_true, decide_eq_true_eq]; exact hh)
        omega
end Go.Proofs.YtepmaobfbfbecaaDoor.w

