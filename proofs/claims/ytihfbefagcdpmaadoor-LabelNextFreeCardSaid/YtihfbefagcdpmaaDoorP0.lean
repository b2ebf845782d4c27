/-
  Labels in plain Lean: the digits ahead, the capitals behind, and how the two spell the label. No program in sight.
  Where the first rune stands that is no digit (no capital): in plain bytes; what a row of digits spells.
  The library's calls: strings.IndexFunc and ContainsFunc at the label's tests, strconv.Atoi and Itoa, strings.Repeat; the tests themselves.
  Successors of labels in plain Lean: the next suffix, the first label behind another one with so many letters.
  Labels in plain Lean: the exhaustive search finds what 'between' finds; the first free label; the sorted list is one.
  Labels in plain Lean: bytes of the digits and the capitals by their places; the spelling of a number, digit by digit.
  Walks of the reference: digits, May, Split, Compare, text.
-/
import Derived.Test.YtihfbefagcdpmaaDoorVmA
import Derived.Lib.ItoaNum
import Derived.Lib.Atoi
import Derived.Sort.Walk0
import Derived.Shelf.GgClosure.StringsIndexFunc
import Derived.Lib.Repeat
import Derived.Test.YtihfbefagcdpmaaDoorVmX
import Derived.Test.YtihfbefagcdpmaaDoorVmN
import Derived.Test.YtihfbefagcdpmaaDoorSh
import Derived.Lib.AppendIntMem
import Derived.Test.YtihfbefagcdpmaaDoorProg
import Derived.KernelRfl
set_option linter.all false
namespace Go.VM
open Go
def isD (b : UInt8) : Bool := decide (48 ≤ b.toNat) && decide (b.toNat ≤ 57)
def isU (b : UInt8) : Bool := decide (65 ≤ b.toNat) && decide (b.toNat ≤ 90)
def dgs (s : Str) : Str := s.takeWhile isD
def caps (s : Str) : Str := s.dropWhile isD
def val (l : Str) : Nat := l.foldl (fun n b => 10 * n + (b.toNat - 48)) 0
def may (s : Str) : Bool := decide (1 ≤ (dgs s).length) && decide ((dgs s).length ≤ 4) && (s.head? != some 48) && decide ((caps s).length ≤ 3) && (caps s).all isU
def num (s : Str) : Nat := val (dgs s)
def text (n : Nat) (c : Str) : Str := Lib.decDigits n ++ c

theorem dgs_caps (s : Str) : dgs s ++ caps s = s := List.takeWhile_append_dropWhile
theorem dgs_len (s : Str) : (dgs s).length + (caps s).length = s.length := by rw [← List.length_append, dgs_caps]
theorem caps_drop (s : Str) : caps s = s.drop (dgs s).length := by
  have h : (dgs s ++ caps s).drop (dgs s).length = caps s := List.drop_left
  rw [dgs_caps] at h; exact h.symm
theorem dgs_take (s : Str) : dgs s = s.take (dgs s).length := by
  have h : (dgs s ++ caps s).take (dgs s).length = dgs s := List.take_left
  rw [dgs_caps] at h; exact h.symm
theorem dgs_all (s : Str) : ∀ b ∈ dgs s, isD b = true := by
  unfold dgs
  induction s with
  | nil => simp
  | cons a r ih =>
    intro b hb
    rw [List.takeWhile_cons] at hb
    split at hb
    · rcases List.mem_cons.1 hb with rfl | h
      · assumption
      · exact ih b h
    · simp at hb
theorem isU_not (b : UInt8) (h : isU b = true) : isD b = false := by simp [isU, isD] at *; omega

theorem ofNat_toNat {k : Nat} (h : k < 256) : (UInt8.ofNat k).toNat = k := by simp [UInt8.toNat_ofNat']; omega
theorem isD_digit {d : Nat} (h : d < 10) : isD (UInt8.ofNat (48 + d)) = true := by
  simp only [isD]; rw [ofNat_toNat (by omega)]; simp; omega
theorem decDigits_all (n : Nat) : ∀ b ∈ Lib.decDigits n, isD b = true := by
  induction n using Nat.strongRecOn with
  | _ n ih =>
    intro b hb
    rw [Lib.decDigits] at hb
    split at hb
    · rw [List.mem_singleton] at hb; subst hb; exact isD_digit (by omega)
    · rw [List.mem_append, List.mem_singleton] at hb
      rcases hb with hb | rfl
      · exact ih (n / 10) (by omega) b hb
      · exact isD_digit (by omega)
theorem val_append (l m : Str) : val (l ++ m) = m.foldl (fun n b => 10 * n + (b.toNat - 48)) (val l) := by simp [val]
theorem val_snoc (l : Str) (b : UInt8) : val (l ++ [b]) = 10 * val l + (b.toNat - 48) := by rw [val_append]; rfl
theorem val_decDigits (n : Nat) : val (Lib.decDigits n) = n := by
  induction n using Nat.strongRecOn with
  | _ n ih =>
    rw [Lib.decDigits]
    split
    · show 10 * 0 + _ = _
      rw [ofNat_toNat (by omega)]; omega
    · rw [val_snoc, ih (n / 10) (by omega), ofNat_toNat (by omega)]; omega
theorem decDigits_ne (n : Nat) : Lib.decDigits n ≠ [] := by rw [Lib.decDigits]; split <;> simp
theorem decDigits_pos (n : Nat) : 1 ≤ (Lib.decDigits n).length := by
  have := decDigits_ne n
  cases h : Lib.decDigits n with
  | nil => exact absurd h this
  | cons => simp
theorem head_append {l m : Str} (h : l ≠ []) : (l ++ m).head? = l.head? := by cases l with | nil => exact absurd rfl h | cons => rfl
theorem decDigits_head (n : Nat) (h : 1 ≤ n) : (Lib.decDigits n).head? ≠ some 48 := by
  induction n using Nat.strongRecOn with
  | _ n ih =>
    rw [Lib.decDigits]
    split
    · intro e
      simp only [List.head?_cons, Option.some.injEq] at e
      have := congrArg UInt8.toNat e
      rw [ofNat_toNat (by omega)] at this
      have e2 : (48 : UInt8).toNat = 48 := rfl
      omega
    · rw [head_append (decDigits_ne _)]
      exact ih (n / 10) (by omega) (by omega)
theorem decDigits_four {n : Nat} (h : n ≤ 9999) : (Lib.decDigits n).length ≤ 4 := by
  rw [Lib.decDigits_length]
  by_cases h1 : n < 10
  · rw [Lib.nDigits_small h1]; omega
  · rw [Lib.nDigits_big h1]
    by_cases h2 : n / 10 < 10
    · rw [Lib.nDigits_small h2]; omega
    · rw [Lib.nDigits_big h2]
      by_cases h3 : n / 10 / 10 < 10
      · rw [Lib.nDigits_small h3]; omega
      · rw [Lib.nDigits_big h3, Lib.nDigits_small (by omega)]; omega
/-- Digits without a leading zero are spelled again by their value. -/
theorem decDigits_val (l : Str) (hd : ∀ b ∈ l, isD b = true) (h0 : l.head? ≠ some 48) (hne : l ≠ []) : 1 ≤ val l ∧ Lib.decDigits (val l) = l := by
  suffices H : ∀ (k : Nat) (l : Str), l.length = k → (∀ b ∈ l, isD b = true) → l.head? ≠ some 48 → l ≠ [] → 1 ≤ val l ∧ Lib.decDigits (val l) = l from H _ l rfl hd h0 hne
  intro k
  induction k with
  | zero => intro l hl _ _ hne; exact absurd (List.eq_nil_of_length_eq_zero hl) hne
  | succ k ih =>
    intro l hl hd h0 hne
    obtain ⟨m, b, rfl⟩ : ∃ m b, l = m ++ [b] := ⟨l.dropLast, l.getLast hne, (List.dropLast_concat_getLast hne).symm⟩
    have hb := hd b (by simp)
    simp only [isD, Bool.and_eq_true, decide_eq_true_eq] at hb
    rw [val_snoc]
    have hbb : UInt8.ofNat (48 + (b.toNat - 48)) = b := by rw [show 48 + (b.toNat - 48) = b.toNat by omega]; simp
    by_cases hm : m = []
    · subst hm
      have : b.toNat ≠ 48 := by
        intro e
        apply h0
        simp only [List.nil_append, List.head?_cons, Option.some.injEq]
        exact UInt8.toNat_inj.1 e
      refine ⟨by omega, ?_⟩
      rw [Lib.decDigits_one (by show 10 * 0 + _ < 10; omega)]
      show [UInt8.ofNat (48 + (10 * 0 + (b.toNat - 48)))] = _
      rw [show 10 * 0 + (b.toNat - 48) = b.toNat - 48 by omega, hbb]; rfl
    · obtain ⟨h1, h2⟩ := ih m (by simp at hl; omega) (fun x hx => hd x (by simp [hx])) (by rw [head_append hm] at h0; exact h0) hm
      refine ⟨by omega, ?_⟩
      rw [Lib.decDigits, dif_neg (by omega), show (10 * val m + (b.toNat - 48)) / 10 = val m by omega, h2, show (10 * val m + (b.toNat - 48)) % 10 = b.toNat - 48 by omega, hbb]
theorem takeWhile_text {n : Nat} {c : Str} (hc : ∀ b ∈ c, isU b = true) : dgs (text n c) = Lib.decDigits n ∧ caps (text n c) = c := by
  have h1 : (Lib.decDigits n ++ c).takeWhile isD = Lib.decDigits n ++ c.takeWhile isD := List.takeWhile_append_of_pos (decDigits_all n)
  have h2 : (Lib.decDigits n ++ c).dropWhile isD = c.dropWhile isD := List.dropWhile_append_of_pos (decDigits_all n)
  have h3 : c.takeWhile isD = [] ∧ c.dropWhile isD = c := by
    cases c with
    | nil => exact ⟨rfl, rfl⟩
    | cons a r => simp [List.takeWhile_cons, List.dropWhile_cons, isU_not a (hc a (by simp))]
  exact ⟨by unfold dgs text; rw [h1, h3.1, List.append_nil], by unfold caps text; rw [h2, h3.2]⟩
theorem may_iff {s : Str} : may s = true ↔ (1 ≤ (dgs s).length ∧ (dgs s).length ≤ 4 ∧ s.head? ≠ some 48 ∧ (caps s).length ≤ 3 ∧ ∀ b ∈ caps s, isU b = true) := by
  simp [may, and_assoc]
theorem may_text {n : Nat} {c : Str} (h1 : 1 ≤ n) (h2 : n ≤ 9999) (h3 : c.length ≤ 3) (hc : ∀ b ∈ c, isU b = true) : may (text n c) = true ∧ num (text n c) = n ∧ caps (text n c) = c := by
  obtain ⟨e1, e2⟩ := takeWhile_text (n := n) hc
  refine ⟨may_iff.2 ?_, by unfold num; rw [e1, val_decDigits], e2⟩
  rw [e1, e2]
  refine ⟨decDigits_pos n, decDigits_four h2, ?_, h3, hc⟩
  unfold text
  rw [head_append (decDigits_ne n)]
  exact decDigits_head n h1
theorem val_lt (l : Str) (hd : ∀ b ∈ l, isD b = true) : val l < 10 ^ l.length := by
  suffices H : ∀ (k : Nat) (l : Str), l.length = k → (∀ b ∈ l, isD b = true) → val l < 10 ^ k from H _ l rfl hd
  intro k
  induction k with
  | zero => intro l hl _; rw [List.eq_nil_of_length_eq_zero hl]; decide
  | succ k ih =>
    intro l hl hd
    have hne : l ≠ [] := by intro e; subst e; simp at hl
    obtain ⟨m, b, rfl⟩ : ∃ m b, l = m ++ [b] := ⟨l.dropLast, l.getLast hne, (List.dropLast_concat_getLast hne).symm⟩
    have := ih m (by simp at hl; omega) (fun x hx => hd x (by simp [hx]))
    have hb := hd b (by simp)
    simp only [isD, Bool.and_eq_true, decide_eq_true_eq] at hb
    rw [val_snoc, Nat.pow_succ]; omega
theorem text_may {s : Str} (h : may s = true) : s = text (num s) (caps s) ∧ 1 ≤ num s ∧ num s ≤ 9999 ∧ (caps s).length ≤ 3 ∧ ∀ b ∈ caps s, isU b = true := by
  obtain ⟨h1, h2, h3, h4, h5⟩ := may_iff.1 h
  have hne : dgs s ≠ [] := by intro e; rw [e] at h1; simp at h1
  have hh : (dgs s).head? ≠ some 48 := by
    have := head_append (m := caps s) hne
    rw [dgs_caps] at this
    rw [← this]; exact h3
  obtain ⟨k1, k2⟩ := decDigits_val (dgs s) (dgs_all s) hh hne
  refine ⟨?_, k1, ?_, h4, h5⟩
  · unfold text num; rw [k2, dgs_caps]
  · have := val_lt (dgs s) (dgs_all s)
    have : 10 ^ (dgs s).length ≤ 10 ^ 4 := Nat.pow_le_pow_right (by omega) h2
    unfold num; omega
theorem may_inj {s t : Str} (hs : may s = true) (ht : may t = true) (h1 : num s = num t) (h2 : caps s = caps t) : s = t := by
  rw [(text_may hs).1, (text_may ht).1, h1, h2]

/-! ### the order -/
def cmpS (a b : Str) : Int := if a < b then -1 else if a = b then 0 else 1
def cmpN (a b : Int) : Int := if a < b then -1 else if a = b then 0 else 1
def orI (a b : Int) : Int := if a = 0 then b else a
def cmpL (a b : Str) : Int :=
  if may a = true ∧ may b = true then orI (cmpN (num a) (num b)) (cmpS (caps a) (caps b))
  else if may a = true then -1 else if may b = true then 1 else cmpS a b
def ltL (a b : Str) : Prop :=
  if may a = true then (if may b = true then num a < num b ∨ (num a = num b ∧ caps a < caps b) else True) else (if may b = true then False else a < b)
theorem cmpS_lt {a b : Str} : cmpS a b < 0 ↔ a < b := by
  unfold cmpS; split
  · simp_all
  · rename_i h; split <;> simp [h]
theorem S_irrefl (a : Str) : ¬ a < a := List.lt_irrefl a
theorem S_trans {a b c : Str} (h : a < b) (k : b < c) : a < c := List.lt_trans h k
theorem S_tri (a b : Str) : a < b ∨ a = b ∨ b < a := by
  by_cases h : a < b
  · exact .inl h
  · by_cases k : b < a
    · exact .inr (.inr k)
    · exact .inr (.inl (List.le_antisymm (List.not_lt.1 k) (List.not_lt.1 h)))
theorem L_irrefl (a : Str) : ¬ ltL a a := by
  unfold ltL; split
  · rintro (h | ⟨_, h⟩)
    · omega
    · exact S_irrefl _ h
  · exact S_irrefl _
theorem L_trans {a b c : Str} (h : ltL a b) (k : ltL b c) : ltL a c := by
  unfold ltL at *
  by_cases ha : may a = true <;> by_cases hb : may b = true <;> by_cases hc : may c = true <;> simp only [ha, hb, hc, if_true, if_false, Bool.false_eq_true] at h k ⊢
  · rcases h with h | ⟨h, h'⟩ <;> rcases k with k | ⟨k, k'⟩
    · exact .inl (by omega)
    · exact .inl (by omega)
    · exact .inl (by omega)
    · exact .inr ⟨by omega, S_trans h' k'⟩
  · exact S_trans h k
theorem L_tri (a b : Str) : ltL a b ∨ a = b ∨ ltL b a := by
  unfold ltL
  by_cases ha : may a = true <;> by_cases hb : may b = true <;> simp only [ha, hb, if_true, if_false, Bool.false_eq_true, true_or, or_true, false_or]
  · rcases Nat.lt_trichotomy (num a) (num b) with h | h | h
    · exact .inl (.inl h)
    · rcases S_tri (caps a) (caps b) with k | k | k
      · exact .inl (.inr ⟨h, k⟩)
      · exact .inr (.inl (may_inj ha hb h k))
      · exact .inr (.inr (.inr ⟨h.symm, k⟩))
    · exact .inr (.inr (.inl h))
  · exact S_tri a b
theorem L_asymm {a b : Str} (h : ltL a b) (k : ltL b a) : False := L_irrefl a (L_trans h k)
/-- The order's number says which of the three. -/
theorem cmpL_eq (a b : Str) : cmpL a b = (open Classical in if ltL a b then -1 else if a = b then 0 else 1) := by
  classical
  unfold cmpL ltL
  by_cases ha : may a = true <;> by_cases hb : may b = true <;> simp only [ha, hb, if_true, if_false, Bool.false_eq_true, and_true, and_false, and_self]
  · unfold cmpN orI cmpS
    by_cases h : num a < num b
    · have : (num a : Int) < num b := by omega
      simp [h, this]
    · by_cases k : num a = num b
      · simp only [k, Nat.lt_irrefl, true_and, false_or, Int.lt_irrefl, if_false, if_true]
        by_cases m : caps a < caps b
        · simp [m]
        · by_cases q : caps a = caps b
          · have := may_inj ha hb k q
            subst this
            simp [m]
          · have : a ≠ b := fun e => q (by rw [e])
            simp [m, q, this]
      · have h1 : ¬ (num a : Int) < num b := by omega
        have h2 : ¬ (num a : Int) = num b := by omega
        have : a ≠ b := fun e => k (by rw [e])
        simp [h, k, h1, h2, this]
  · have : a ≠ b := fun e => by subst e; simp_all
    simp [this]
  · rfl
theorem cmpL_lt {a b : Str} : cmpL a b < 0 ↔ ltL a b := by
  rw [cmpL_eq]; split
  · simp_all
  · split <;> simp_all
theorem cmpL_zero {a b : Str} : cmpL a b = 0 ↔ a = b := by
  rw [cmpL_eq]; split
  · rename_i h
    simp only [Int.reduceNeg, Int.neg_eq_zero, Int.reduceEq, false_iff]
    intro e; subst e; exact L_irrefl _ h
  · split <;> simp_all
theorem cmpL_gt {a b : Str} : 0 < cmpL a b ↔ ltL b a := by
  rw [cmpL_eq]; split
  · rename_i h
    simp only [Int.reduceNeg, Int.reduceLT, false_iff]
    exact fun k => L_asymm h k
  · split
    · rename_i h k
      subst k
      simp only [Int.lt_irrefl, false_iff]; exact h
    · rename_i h k
      simp only [Int.reduceLT, true_iff]
      rcases L_tri a b with m | m | m
      · exact absurd m h
      · exact absurd m k
      · exact m
theorem cmpL_anti (a b : Str) : cmpL b a = - cmpL a b := by
  rcases L_tri a b with h | h | h
  · have h1 : cmpL a b = -1 := by rw [cmpL_eq, if_pos h]
    have h2 : ¬ ltL b a := fun k => L_asymm h k
    have h3 : b ≠ a := fun e => by subst e; exact L_irrefl _ h
    rw [h1, cmpL_eq, if_neg h2, if_neg h3]; rfl
  · subst h; rw [cmpL_zero.2 rfl]; rfl
  · have h1 : cmpL b a = -1 := by rw [cmpL_eq, if_pos h]
    have h2 : ¬ ltL a b := fun k => L_asymm h k
    have h3 : a ≠ b := fun e => by subst e; exact L_irrefl _ h
    rw [h1, cmpL_eq a b, if_neg h2, if_neg h3]
theorem cmpL_bnd (a b : Str) : cmpL a b = -1 ∨ cmpL a b = 0 ∨ cmpL a b = 1 := by
  rw [cmpL_eq]; split
  · exact .inl rfl
  · split
    · exact .inr (.inl rfl)
    · exact .inr (.inr rfl)
end Go.VM


namespace Go.VM
open Go
theorem decode_low (s : ByteArray) (i : Nat) (h : (s.get! i).toNat < 128) : Utf8.decode s i = ((s.get! i).toNat, 1) := by
  simp [Utf8.decode, h]
theorem decode_high (s : ByteArray) (i : Nat) (h : ¬ (s.get! i).toNat < 128) : 128 ≤ (Utf8.decode s i).1 := by
  have h' : ¬ (s.get! (i + 0)).toNat < 0x80 := h
  unfold Utf8.decode
  simp only [h', if_false, Utf8.runeError]
  repeat' split
  all_goals first | omega | (simp only []; omega) | (simp_all; omega) | skip
/-- A test of bytes below 128, asked of runes. -/
def onRune (q : UInt8 → Bool) (x : Nat) : Bool := decide (x < 128) && q (UInt8.ofNat x)
theorem get!_at (s : ByteArray) (i : Nat) (h : i < s.size) : s.get! i = s.data.toList[i]'(by simpa using h) := by
  have h2 : i < s.data.size := h
  have : s.get! i = s.data[i]! := rfl
  rw [this, getElem!_pos s.data i h2, Array.getElem_toList]
theorem idx_from (q : UInt8 → Bool) (hq : ∀ b, q b = true → b.toNat < 128) (s : ByteArray) : ∀ (f pos : Nat), s.size ≤ pos + f → pos ≤ s.size →
    Lib.idxFuncFrom (fun x => !(onRune q x)) true s f pos = (let k := pos + ((s.data.toList.drop pos).takeWhile q).length; if k < s.size then (k : Int) else -1)
  | f, pos, hf, hp => by
    by_cases hlt : pos < s.size
    · obtain ⟨f', rfl⟩ : ∃ f', f = f' + 1 := ⟨f - 1, by omega⟩
      have hl : pos < s.data.toList.length := by simpa using hlt
      rw [List.drop_eq_getElem_cons hl, List.takeWhile_cons]
      have hg := get!_at s pos hlt
      rw [← hg]
      simp only [Lib.idxFuncFrom, hlt, if_true]
      by_cases h1 : (s.get! pos).toNat < 128
      · rw [decode_low s pos h1]
        have e1 : onRune q (s.get! pos).toNat = q (s.get! pos) := by simp [onRune, h1]
        simp only [e1]
        by_cases h2 : q (s.get! pos) = true
        · rw [h2]
          simp only [Bool.not_true, Bool.false_eq_true, if_false, if_true]
          rw [idx_from q hq s f' (pos + 1) (by omega) (by omega)]
          simp only [List.length_cons]
          rw [show pos + 1 + ((s.data.toList.drop (pos + 1)).takeWhile q).length = pos + (((s.data.toList.drop (pos + 1)).takeWhile q).length + 1) by omega]
        · rw [Bool.not_eq_true] at h2
          rw [h2]
          simp [hlt]
      · have h2 := decode_high s pos h1
        have e1 : onRune q (Utf8.decode s pos).1 = false := by simp [onRune]; omega
        have e2 : q (s.get! pos) = false := by
          cases e : q (s.get! pos) with
          | false => rfl
          | true => exact absurd (hq _ e) h1
        simp [e1, e2, hlt]
    · have e1 : s.data.toList.drop pos = [] := List.drop_eq_nil_of_le (by simp; exact Nat.le_of_not_lt hlt)
      rw [Lib.idxFuncFrom_end _ _ _ _ _ hlt, e1]
      exact (if_neg (by simpa using hlt)).symm
theorem idx_bytes (q : UInt8 → Bool) (hq : ∀ b, q b = true → b.toNat < 128) (l : Str) : Lib.idxFunc (fun x => !(onRune q x)) true ⟨l.toArray⟩ = if (l.takeWhile q).length < l.length then ((l.takeWhile q).length : Int) else -1 := by
  have e0 : (⟨l.toArray⟩ : ByteArray).size = l.length := by show l.toArray.size = _; simp
  have := idx_from q hq ⟨l.toArray⟩ l.length 0 (by rw [e0]; omega) (by omega)
  unfold Lib.idxFunc
  rw [e0, this, e0]
  simp
theorem isD_low (b : UInt8) (h : isD b = true) : b.toNat < 128 := by simp [isD] at h; omega
theorem isU_low (b : UInt8) (h : isU b = true) : b.toNat < 128 := by simp [isU] at h; omega
theorem idx_digits (s : Str) : Lib.idxFunc (fun x => !(onRune isD x)) true ⟨s.toArray⟩ = if (dgs s).length < s.length then ((dgs s).length : Int) else -1 := idx_bytes isD isD_low s
theorem takeWhile_all {q : UInt8 → Bool} : ∀ {l : Str}, (l.takeWhile q).length < l.length ↔ l.all q = false
  | [] => by simp
  | a :: r => by
    rw [List.takeWhile_cons]
    by_cases h : q a = true
    · rw [if_pos h, List.length_cons, List.length_cons, Nat.succ_lt_succ_iff, takeWhile_all, List.all_cons, h, Bool.true_and]
    · rw [Bool.not_eq_true] at h; simp [h]
theorem idx_caps (s : Str) : decide (0 ≤ Lib.idxFunc (fun x => !(onRune isU x)) true ⟨s.toArray⟩) = !(s.all isU) := by
  rw [idx_bytes isU isU_low]
  by_cases h : (s.takeWhile isU).length < s.length
  · rw [if_pos h, takeWhile_all.1 h]; simp
  · rw [if_neg h]
    have : s.all isU = true := by
      cases e : s.all isU with
      | true => rfl
      | false => exact absurd (takeWhile_all.2 e) h
    rw [this]; simp
theorem decFrom_val : ∀ (l : Str) (acc : Nat), (∀ b ∈ l, isD b = true) → Lib.decFrom acc l = some (l.foldl (fun n b => 10 * n + (b.toNat - 48)) acc)
  | [], acc, _ => rfl
  | b :: r, acc, h => by
    have hb := h b (by simp)
    have hd : Lib.digitVal b = some (b.toNat - 48) := by
      simp only [isD, Bool.and_eq_true, decide_eq_true_eq] at hb
      simp [Lib.digitVal, hb]
    simp only [Lib.decFrom, hd, List.foldl_cons]
    rw [decFrom_val r _ (fun x hx => h x (by simp [hx])), Nat.mul_comm acc 10]
theorem atoi_val (l : Str) (h : ∀ b ∈ l, isD b = true) (hne : l ≠ []) : Lib.atoi l = some ((val l : Nat) : Int) := by
  cases l with
  | nil => exact absurd rfl hne
  | cons b r =>
    have hb := h b (by simp)
    simp only [isD, Bool.and_eq_true, decide_eq_true_eq] at hb
    have h45 : (b == 45) = false := by
      rw [beq_eq_false_iff_ne]; intro e; subst e; exact absurd hb.1 (by decide)
    have h43 : (b == 43) = false := by
      rw [beq_eq_false_iff_ne]; intro e; subst e; exact absurd hb.1 (by decide)
    simp only [Lib.atoi, h45, h43, Lib.decNat, List.isEmpty_cons, Bool.false_eq_true, if_false]
    rw [decFrom_val _ _ h]; rfl
theorem repeatL_one_byte (b : UInt8) : ∀ n, Lib.repeatL [b] n = List.replicate n b
  | 0 => rfl
  | n + 1 => by rw [Lib.repeatL, repeatL_one_byte b n, List.replicate_succ]; rfl
end Go.VM


namespace Go.Proofs.YtihfbefagcdpmaaDoor.w
open Go Go.VM
set_option maxRecDepth 20000
set_option maxHeartbeats 0
set_option pp.deepTerms false
def c_label_parted_1 : VC := (.seq (.region [⟨(some 2), (.mv (.c (.bool false))), none⟩] false) (.seq (.region [⟨(some 3), (.mv (.t 0)), none⟩, ⟨(some 4), (.bin .lss (.t 3) (.c (.int .i32 48))), none⟩, ⟨(some 5), (.mv (.t 4)), none⟩, ⟨(some 6), (.mv (.t 0)), (some (5, false))⟩, ⟨(some 7), (.bin .gtr (.t 6) (.c (.int .i32 57))), (some (5, false))⟩, ⟨(some 8), (.pick (.t 5) (.c (.bool true)) (.t 7)), none⟩, ⟨(some 2), (.mv (.t 8)), none⟩] false) .ret))
def c_label_Valid_1 : VC := (.seq (.region [⟨(some 2), (.mv (.c (.bool false))), none⟩] false) (.seq (.region [⟨(some 3), (.mv (.t 0)), none⟩, ⟨(some 4), (.bin .lss (.t 3) (.c (.int .i32 65))), none⟩, ⟨(some 5), (.mv (.t 4)), none⟩, ⟨(some 6), (.mv (.t 0)), (some (5, false))⟩, ⟨(some 7), (.bin .gtr (.t 6) (.c (.int .i32 90))), (some (5, false))⟩, ⟨(some 8), (.pick (.t 5) (.c (.bool true)) (.t 7)), none⟩, ⟨(some 2), (.mv (.t 8)), none⟩] false) .ret))
theorem onRune_D (x : Nat) : (!(onRune isD x)) = (decide ((x : Int) < 48) || decide ((57 : Int) < x)) := by
  by_cases h : x < 128
  · have : (UInt8.ofNat x).toNat = x := ofNat_toNat (by omega)
    simp only [onRune, isD, this, h, decide_true, Bool.true_and, Bool.not_and]
    by_cases h1 : 48 ≤ x <;> by_cases h2 : x ≤ 57 <;> simp [h1, h2] <;> omega
  · simp only [onRune, h, decide_false, Bool.false_and, Bool.not_false]
    symm; simp; omega
theorem onRune_U (x : Nat) : (!(onRune isU x)) = (decide ((x : Int) < 65) || decide ((90 : Int) < x)) := by
  by_cases h : x < 128
  · have : (UInt8.ofNat x).toNat = x := ofNat_toNat (by omega)
    simp only [onRune, isU, this, h, decide_true, Bool.true_and, Bool.not_and]
    by_cases h1 : 65 ≤ x <;> by_cases h2 : x ≤ 90 <;> simp [h1, h2] <;> omega
  · simp only [onRune, h, decide_false, Bool.false_and, Bool.not_false]
    symm; simp; omega
theorem sp_label_parted_1 (x : Nat) : PCall Tryd.prog 45 [.int .i32 x] (.bool (!(onRune isD x))) := by
  rw [onRune_D]
  refine PCall_intro ?_ (cB _) (by simp only [ClosedL, List.mem_cons, List.not_mem_nil, or_false, forall_eq_or_imp, forall_eq, false_implies, implies_true]; repeat' (first | exact cI _ | exact cS _ | exact cB _ | exact closed_fn0 _ | exact closed_nilsl | exact closed_agg (Un.closed _) | exact closed_agg (It.closed _) | exact closed_agg (EI.closed _) | exact closed_agg (Ac.closed _) | exact closed_agg (Wd.closed _) | exact closed_agg (St.closed _) | exact closed_agg (Sta.closed _) | exact closed_eis _ | exact closed_acs _ | exact closed_gzs _ | exact Closed.of_scalar (scalar_int _ _) | exact closed_ro (Ac.closed _) | exact closed_ro (Gz.closed _) | exact closed_agg (Gz.closed _) | exact closed_strs _ | exact closed_map (fun w _ => Wd.closed w) | exact closed_map (fun w _ => St.closed w) | exact closed_map (fun w _ => Un.closed w) | exact closed_map (fun w _ => It.closed w) | exact closed_sc _ | exact closed_sps _ | exact closed_agg (Sp.closed _) | exact closed_ro (EI.closed _) | exact closed_ro (Sta.closed _) | exact closed_ro (It.closed _) | exact closed_ro (by simp only [List.mem_cons, List.not_mem_nil, or_false, forall_eq]; first | exact cI _ | exact cS _ | exact closed_eis _) | refine And.intro ?_ ?_))
  refine ACall_fn (vc := c_label_parted_1) (ts := [.t 2]) Go.Proofs.Tryd.func45 (by kernel_rfl) rfl rfl (Nat.le_of_ble_eq_true rfl) (by kernel_rfl) ?_
  unfold c_label_parted_1
  refine VW_seq (VW_region [0] ?_)
  simp only [OpsW_nil, OpsW_n, StepW, pok, pval, VA.ev, Env.get, Env.put, Env.keep, argEnv, thenQ, Heap.nil, ite_true, ite_false, true_and, reduceCtorEq]
  refine VW_seq (VW_region [2] ?_)
  simp only [OpsW_n, StepW, pok, pval, VA.ev, Env.get, Env.put, Env.keep, thenQ, intV, binV, binOk, Nat.reduceEqDiff, ite_true, ite_false, true_and, reduceCtorEq]
  refine OpsW_split rfl (fun g => ?_) (fun g => ?_)
  · simp only [OpsW_nil, OpsW_n, OpsW_y, StepW, pok, pval, VA.ev, Env.get, Env.put, pickV, isBool, intV, binV, binOk, Nat.succ_ne_self, Nat.reduceEqDiff, Bool.false_eq_true, ite_true, ite_false, true_and, reduceCtorEq, g]
    refine VW_ret ?_
    try simp only [Env.get, retQ, resV, resOk, RS.ev, RS.ok, ite_true, true_and, and_true]
    rw [Bool.false_or]
    exact View.refl _ _
  · simp only [OpsW_nil, OpsW_n, OpsW_xf, StepW, pok, pval, VA.ev, Env.get, Env.put, pickV, isBool, Nat.succ_ne_self, Nat.reduceEqDiff, ite_true, ite_false, true_and, reduceCtorEq, Bool.not_false, g]
    refine VW_ret ?_
    try simp only [Env.get, retQ, resV, resOk, RS.ev, RS.ok, ite_true, true_and, and_true]
    rw [Bool.true_or]
    exact View.refl _ _
theorem sp_label_Valid_1 (x : Nat) : PCall Tryd.prog 31 [.int .i32 x] (.bool (!(onRune isU x))) := by
  rw [onRune_U]
  refine PCall_intro ?_ (cB _) (by simp only [ClosedL, List.mem_cons, List.not_mem_nil, or_false, forall_eq_or_imp, forall_eq, false_implies, implies_true]; repeat' (first | exact cI _ | exact cS _ | exact cB _ | exact closed_fn0 _ | exact closed_nilsl | exact closed_agg (Un.closed _) | exact closed_agg (It.closed _) | exact closed_agg (EI.closed _) | exact closed_agg (Ac.closed _) | exact closed_agg (Wd.closed _) | exact closed_agg (St.closed _) | exact closed_agg (Sta.closed _) | exact closed_eis _ | exact closed_acs _ | exact closed_gzs _ | exact Closed.of_scalar (scalar_int _ _) | exact closed_ro (Ac.closed _) | exact closed_ro (Gz.closed _) | exact closed_agg (Gz.closed _) | exact closed_strs _ | exact closed_map (fun w _ => Wd.closed w) | exact closed_map (fun w _ => St.closed w) | exact closed_map (fun w _ => Un.closed w) | exact closed_map (fun w _ => It.closed w) | exact closed_sc _ | exact closed_sps _ | exact closed_agg (Sp.closed _) | exact closed_ro (EI.closed _) | exact closed_ro (Sta.closed _) | exact closed_ro (It.closed _) | exact closed_ro (by simp only [List.mem_cons, List.not_mem_nil, or_false, forall_eq]; first | exact cI _ | exact cS _ | exact closed_eis _) | refine And.intro ?_ ?_))
  refine ACall_fn (vc := c_label_Valid_1) (ts := [.t 2]) Go.Proofs.Tryd.func31 (by kernel_rfl) rfl rfl (Nat.le_of_ble_eq_true rfl) (by kernel_rfl) ?_
  unfold c_label_Valid_1
  refine VW_seq (VW_region [0] ?_)
  simp only [OpsW_nil, OpsW_n, StepW, pok, pval, VA.ev, Env.get, Env.put, Env.keep, argEnv, thenQ, Heap.nil, ite_true, ite_false, true_and, reduceCtorEq]
  refine VW_seq (VW_region [2] ?_)
  simp only [OpsW_n, StepW, pok, pval, VA.ev, Env.get, Env.put, Env.keep, thenQ, intV, binV, binOk, Nat.reduceEqDiff, ite_true, ite_false, true_and, reduceCtorEq]
  refine OpsW_split rfl (fun g => ?_) (fun g => ?_)
  · simp only [OpsW_nil, OpsW_n, OpsW_y, StepW, pok, pval, VA.ev, Env.get, Env.put, pickV, isBool, intV, binV, binOk, Nat.succ_ne_self, Nat.reduceEqDiff, Bool.false_eq_true, ite_true, ite_false, true_and, reduceCtorEq, g]
    refine VW_ret ?_
    try simp only [Env.get, retQ, resV, resOk, RS.ev, RS.ok, ite_true, true_and, and_true]
    rw [Bool.false_or]
    exact View.refl _ _
  · simp only [OpsW_nil, OpsW_n, OpsW_xf, StepW, pok, pval, VA.ev, Env.get, Env.put, pickV, isBool, Nat.succ_ne_self, Nat.reduceEqDiff, ite_true, ite_false, true_and, reduceCtorEq, Bool.not_false, g]
    refine VW_ret ?_
    try simp only [Env.get, retQ, resV, resOk, RS.ev, RS.ok, ite_true, true_and, and_true]
    rw [Bool.true_or]
    exact View.refl _ _
/-- A closure that is a call of the value machine at every rune: what the kit's contracts ask of it. -/
theorem grows_of {P : Program} {f : FuncId} {p : Nat → Bool} (H : ∀ x : Nat, PCall P f [.int .i32 x] (.bool (p x))) {g : Gh} {w : World} (r : Rel g w Heap.nil) : PredGrows P f #[] p w := by
  intro W x _ hb
  obtain ⟨r', _⟩ := r.below (memExt_below r hb) hb
  refine ((H x).2.2 _ W (#[encR x] ++ #[]) r' ⟨rfl, fun j hj => ?_⟩).mono ?_
  · obtain rfl : j = 0 := by simp at hj; omega
    exact .int .i32 x
  · rintro e w' ⟨v, m', rfl, hv, _, hb'⟩
    obtain rfl := hv.bool_inv
    exact ⟨rfl, hb'⟩
theorem fn0_inv {g : Gh} {u : Value} {f : FuncId} (h : Rep g u (.fn (.func f) [] [])) : u = .func (.func f) #[] #[] := by
  obtain ⟨fs, cs, rfl, h1, h2⟩ := h.fn_inv
  have e1 : fs = #[] := Array.eq_empty_of_size_eq_zero h1.1
  have e2 : cs = #[] := Array.eq_empty_of_size_eq_zero h2.1
  rw [e1, e2]
theorem sp_IndexFunc (s : Str) : PCall Tryd.prog 44 [.str s, .fn (.func 45) [] []] (pI (if (dgs s).length < s.length then ((dgs s).length : Int) else -1)) := by
  refine PCall_of (by kernel_rfl) (by intro x hx; simp only [List.mem_cons, List.not_mem_nil, or_false] at hx; rcases hx with rfl | rfl; exact cS _; exact closed_fn0 _) fun g w vals r ha => ?_
  obtain ⟨v, u, rfl, hv, hu⟩ := args_2 ha
  obtain ⟨z, rfl, hs⟩ := hv.str_inv
  obtain rfl := fn0_inv hu
  rw [str_eq hs]
  refine (Any.strings_IndexFunc_grows Tryd.laysIndexFunc _ #[] (enters_of Tryd.func45 (by kernel_rfl) rfl) (fun x => !(onRune isD x)) _ w (grows_of sp_label_parted_1 r)).mono ?_
  rintro e w' ⟨rfl, hb⟩
  rw [idx_digits]
  exact ⟨_, rfl, fun g => .int _ _, hb⟩
theorem sp_ContainsFunc (s : Str) : PCall Tryd.prog 32 [.str s, .fn (.func 31) [] []] (.bool (!(s.all isU))) := by
  refine PCall_of (by kernel_rfl) (by intro x hx; simp only [List.mem_cons, List.not_mem_nil, or_false] at hx; rcases hx with rfl | rfl; exact cS _; exact closed_fn0 _) fun g w vals r ha => ?_
  obtain ⟨v, u, rfl, hv, hu⟩ := args_2 ha
  obtain ⟨z, rfl, hs⟩ := hv.str_inv
  obtain rfl := fn0_inv hu
  rw [str_eq hs]
  refine (Any.strings_ContainsFunc_grows Tryd.laysContainsFunc _ #[] (enters_of Tryd.func31 (by kernel_rfl) rfl) (fun x => !(onRune isU x)) _ w (grows_of sp_label_Valid_1 r)).mono ?_
  rintro e w' ⟨rfl, hb⟩
  rw [idx_caps]
  exact ⟨_, rfl, fun g => .bool _, hb⟩
theorem below_bytes (w : World) (t : TypeId) (s : ByteArray) : RowKit.Below w.heap.size w (Lib.bytesWorld w t s) := ⟨rfl, rfl, rfl, by rw [Lib.bytesWorld_size]; omega, fun j hj => Lib.bytesWorld_at_old w t s j hj⟩
theorem sp_Atoi (s : Str) (hd : ∀ b ∈ s, isD b = true) (hne : s ≠ []) (hl : s.length ≤ 18) : PCall Tryd.prog 29 [.str s] (.tup [pI (val s), .nilif]) := by
  refine PCall_of (by kernel_rfl) (by intro x hx; rw [List.mem_singleton] at hx; subst hx; exact cS _) fun g w vals r ha => ?_
  obtain ⟨v, rfl, hv⟩ := args_1 ha
  obtain ⟨z, rfl, hs⟩ := hv.str_inv
  rw [str_eq hs]
  refine (Any.strconv_Atoi Tryd.laysAtoi ⟨s.toArray⟩ (val s : Nat) (by show s.toArray.size ≤ 18; simpa using hl) (atoi_val s hd hne) w).mono ?_
  rintro e w' ⟨rfl, t, rfl⟩
  refine ⟨_, rfl, fun g => .tup _ _ rfl fun j hj => ?_, below_bytes _ _ _⟩
  match j with
  | 0 => exact .int _ _
  | 1 => exact .nilif
theorem extraR : Builder.Extra Tryd.prog Tryd.laysRepeat_ren where
  sizeBuilder := by kernel_rfl
  liesBuilder := by kernel_rfl
  t5 := Tryd.underlying5
  a5 := Tryd.isAgg5
  z5 := Tryd.sizeOf5
  v5 := Tryd.zeroValue5
  infoByte := by kernel_rfl
  cellsByte := by kernel_rfl
  sizeByte := by kernel_rfl
  neB5 := by decide
theorem sp_Repeat (b : UInt8) (n : Nat) (hn : n ≤ 1000000) : PCall Tryd.prog 51 [.str [b], pI n] (.str (List.replicate n b)) := by
  refine PCall_of (by kernel_rfl) (by intro x hx; simp only [List.mem_cons, List.not_mem_nil, or_false] at hx; rcases hx with rfl | rfl; exact cS _; exact cI _) fun g w vals r ha => ?_
  obtain ⟨v, u, rfl, hv, hu⟩ := args_2 ha
  obtain ⟨z, rfl, hs⟩ := hv.str_inv
  obtain rfl := hu.int_inv
  rw [str_eq hs]
  refine (Any.strings_Repeat Tryd.laysRepeat extraR ⟨[b].toArray⟩ n w (by omega) (by show [b].toArray.size * n ≤ _; simp; omega)).mono ?_
  rintro e w' ⟨rfl, hb⟩
  exact ⟨_, rfl, fun g => .str _ _ (by rw [← repeatL_one_byte]), hb⟩
theorem known_pow : known.lookup 2 = some (Lib.pow10Tab.map fun z => Value.int .u64 z) := by kernel_rfl
theorem sp_Itoa (n : Nat) (hn : n ≤ 9223372036854775807) : PCall Tryd.prog 50 [pI n] (.str (Lib.decDigits n)) := by
  refine PCall_of (by kernel_rfl) (by intro x hx; rw [List.mem_singleton] at hx; subst hx; exact cI _) fun g w vals r ha => ?_
  obtain ⟨v, rfl, hv⟩ := args_1 ha
  obtain rfl := hv.int_inv
  refine (Any.strconv_Itoa Tryd.laysItoa n (by omega) (by omega) w (var_known r known_pow (by kernel_rfl))).mono ?_
  rintro e w' ⟨rfl, k, os, rfl⟩
  refine ⟨_, rfl, fun g => .str _ _ ?_, ?_⟩
  · have : ¬ (n : Int) < 0 := by omega
    simp [Lib.itoa, this]
  · exact Lib.below_grow _ _ (Nat.le_refl _) _ _
end Go.Proofs.YtihfbefagcdpmaaDoor.w


namespace Go.VM
open Go
def Cap (s : Str) : Prop := ∀ b ∈ s, isU b = true
theorem cap_cons {b : UInt8} {r : Str} : Cap (b :: r) ↔ isU b = true ∧ Cap r := by simp [Cap]
theorem cap_nil : Cap [] := by simp [Cap]
theorem cap_app {l m : Str} : Cap (l ++ m) ↔ Cap l ∧ Cap m := by simp [Cap, or_imp, forall_and]
theorem cap_take {l : Str} (h : Cap l) (k : Nat) : Cap (l.take k) := fun b hb => h b (List.mem_of_mem_take hb)
theorem isU_iff {b : UInt8} : isU b = true ↔ 65 ≤ b.toNat ∧ b.toNat ≤ 90 := by simp [isU]
theorem cap_rep (k : Nat) : Cap (List.replicate k 65) := fun b hb => by rw [(List.mem_replicate.1 hb).2]; rfl
theorem cons_lt {a b : UInt8} {l m : Str} : (a :: l) < (b :: m) ↔ a.toNat < b.toNat ∨ (a = b ∧ l < m) := by
  rw [List.cons_lt_cons_iff]; rfl
theorem nil_lt {b : UInt8} {m : Str} : ([] : Str) < b :: m := List.nil_lt_cons _ _
theorem not_lt_nil {l : Str} : ¬ l < [] := List.not_lt_nil _
theorem u8_inj {a b : UInt8} (h : a.toNat = b.toNat) : a = b := UInt8.toNat_inj.1 h
theorem inc_nat {b : UInt8} (h : b.toNat < 255) : (b + 1).toNat = b.toNat + 1 := by
  rw [UInt8.toNat_add]; show (b.toNat + 1) % 256 = _; omega
theorem eq90 {b : UInt8} : b = 90 ↔ b.toNat = 90 := ⟨fun h => by rw [h]; rfl, fun h => u8_inj h⟩
theorem inc_U {b : UInt8} (h : isU b = true) (hn : b ≠ 90) : isU (b + 1) = true := by
  rw [isU_iff] at h ⊢
  have : b.toNat ≠ 90 := fun e => hn (eq90.2 e)
  rw [inc_nat (by omega)]; omega

/-- How many bytes stay when the Zs at the end go, of the first k. -/
def sgo (s : Str) : Nat → Nat
  | 0 => 0
  | k + 1 => if s.getD k 0 = 90 then sgo s k else k + 1
def up (s : Str) : Option Str :=
  match sgo s s.length with
  | 0 => none
  | k + 1 => some (s.take k ++ [s.getD k 0 + 1])
theorem sgo_le (s : Str) : ∀ k, sgo s k ≤ k
  | 0 => Nat.le_refl _
  | k + 1 => by unfold sgo; split; exact Nat.le_succ_of_le (sgo_le s k); exact Nat.le_refl _
theorem sgo_z (s : Str) : ∀ k j, sgo s k ≤ j → j < k → s.getD j 0 = 90
  | 0, j, _, h => by omega
  | k + 1, j, h1, h2 => by
    unfold sgo at h1
    split at h1
    · rename_i e
      by_cases hj : j = k
      · subst hj; exact e
      · exact sgo_z s k j h1 (by omega)
    · omega
theorem sgo_n (s : Str) : ∀ k m, sgo s k = m + 1 → s.getD m 0 ≠ 90
  | 0, m, h => by simp [sgo] at h
  | k + 1, m, h => by
    unfold sgo at h
    split at h
    · exact sgo_n s k m h
    · rename_i e; have : m = k := by omega
      subst this; exact e
/-- The next string of the same length. -/
def suc : Str → Option Str
  | [] => none
  | b :: r => match suc r with
    | some r' => some (b :: r')
    | none => if b = 90 then none else some ((b + 1) :: List.replicate r.length 65)
def le65 (d : Str) : Prop := ∀ b ∈ d, 65 ≤ b.toNat
theorem rep_min : ∀ (d : Str), Cap d → ¬ d < List.replicate d.length 65
  | [], _ => fun h => not_lt_nil h
  | b :: r, h => by
    rw [List.length_cons, List.replicate_succ, cons_lt]
    have h1 := (isU_iff.1 (cap_cons.1 h).1)
    have h65 : (65 : UInt8).toNat = 65 := rfl
    rintro (h2 | ⟨_, h2⟩)
    · omega
    · exact rep_min r (cap_cons.1 h).2 h2
theorem suc_spec : ∀ (p : Str), Cap p → (∀ e, suc p = some e → e.length = p.length ∧ Cap e ∧ p < e ∧ ∀ d, Cap d → d.length = p.length → p < d → ¬ d < e) ∧
    (suc p = none → ∀ d, Cap d → d.length = p.length → ¬ p < d)
  | [], _ => ⟨fun e h => (by cases h), fun _ d _ hl h => by rw [List.eq_nil_of_length_eq_zero hl] at h; exact not_lt_nil h⟩
  | b :: r, hp => by
    obtain ⟨hb, hr⟩ := cap_cons.1 hp
    obtain ⟨i1, i2⟩ := suc_spec r hr
    have hb' := isU_iff.1 hb
    unfold suc
    cases hs : suc r with
    | some r' =>
      obtain ⟨j1, j2, j3, j4⟩ := i1 r' hs
      refine ⟨fun e h => ?_, fun h => by cases h⟩
      cases h
      refine ⟨by simp [j1], cap_cons.2 ⟨hb, j2⟩, cons_lt.2 (.inr ⟨rfl, j3⟩), fun d hd hl h1 h2 => ?_⟩
      cases d with
      | nil => simp at hl
      | cons x q =>
        rw [cons_lt] at h1 h2
        simp only [List.length_cons, Nat.add_right_cancel_iff] at hl
        rcases h1 with h1 | ⟨rfl, h1⟩
        · rcases h2 with h2 | ⟨rfl, h2⟩ <;> omega
        · rcases h2 with h2 | ⟨_, h2⟩
          · omega
          · exact j4 q (cap_cons.1 hd).2 hl h1 h2
    | none =>
      have i2' := i2 hs
      simp only []
      by_cases h90 : b = 90
      · rw [if_pos h90]
        refine ⟨fun e h => (by cases h), fun _ d hd hl h1 => ?_⟩
        cases d with
        | nil => simp at hl
        | cons x q =>
          rw [cons_lt] at h1
          simp only [List.length_cons, Nat.add_right_cancel_iff] at hl
          have := isU_iff.1 (cap_cons.1 hd).1
          rw [eq90] at h90
          rcases h1 with h1 | ⟨_, h1⟩
          · omega
          · exact i2' q (cap_cons.1 hd).2 hl h1
      · rw [if_neg h90]
        refine ⟨fun e h => ?_, fun h => by cases h⟩
        cases h
        have e1 := inc_nat (b := b) (by omega)
        refine ⟨by simp, cap_cons.2 ⟨inc_U hb h90, cap_rep _⟩, cons_lt.2 (.inl (by omega)), fun d hd hl h1 h2 => ?_⟩
        cases d with
        | nil => simp at hl
        | cons x q =>
          rw [cons_lt] at h1 h2
          simp only [List.length_cons, Nat.add_right_cancel_iff] at hl
          rcases h1 with h1 | ⟨rfl, h1⟩
          · rcases h2 with h2 | ⟨rfl, h2⟩
            · omega
            · rw [← hl] at h2; exact rep_min q (cap_cons.1 hd).2 h2
          · exact i2' q (cap_cons.1 hd).2 hl h1
theorem suc_z : ∀ (m : Nat), suc (List.replicate m 90) = none
  | 0 => rfl
  | m + 1 => by rw [List.replicate_succ]; unfold suc; rw [suc_z m]; simp
theorem suc_q (x : UInt8) (hx : x ≠ 90) (m : Nat) : ∀ (q : Str), suc (q ++ x :: List.replicate m 90) = some (q ++ (x + 1) :: List.replicate m 65)
  | [] => by rw [List.nil_append]; unfold suc; rw [suc_z m]; simp [hx]
  | b :: q => by rw [List.cons_append]; unfold suc; rw [suc_q x hx m q]; rfl
theorem parts (s : Str) (k : Nat) (hk : k < s.length) (hz : ∀ j, k + 1 ≤ j → j < s.length → s.getD j 0 = 90) : s = s.take k ++ s.getD k 0 :: List.replicate (s.length - (k + 1)) 90 := by
  have h1 : s.drop (k + 1) = List.replicate (s.length - (k + 1)) 90 := by
    rw [List.eq_replicate_iff]
    refine ⟨by simp, fun b hb => ?_⟩
    obtain ⟨i, hi, rfl⟩ := List.mem_iff_getElem.1 hb
    rw [List.length_drop] at hi
    have := hz (k + 1 + i) (by omega) (by omega)
    rw [List.getElem_drop, ← this, List.getD_eq_getElem?_getD, List.getElem?_eq_getElem (by omega)]; rfl
  have h2 : s.getD k 0 = s[k] := by rw [List.getD_eq_getElem?_getD, List.getElem?_eq_getElem hk]; rfl
  rw [← h1, h2, List.getElem_cons_drop, List.take_append_drop]
theorem up_some {s t : Str} (h : up s = some t) : ∃ k, k < s.length ∧ s = s.take k ++ s.getD k 0 :: List.replicate (s.length - (k + 1)) 90 ∧ s.getD k 0 ≠ 90 ∧ t = s.take k ++ [s.getD k 0 + 1] := by
  unfold up at h
  have h1 := sgo_le s s.length
  have h2 := sgo_z s s.length
  split at h
  · cases h
  · rename_i k hk
    rw [hk] at h1 h2
    cases h
    exact ⟨k, h1, parts s k h1 h2, sgo_n s _ _ hk, rfl⟩
theorem up_none {s : Str} (h : up s = none) : s = List.replicate s.length 90 := by
  unfold up at h
  have h2 := sgo_z s s.length
  split at h
  · rename_i hk
    rw [hk] at h2
    rw [List.eq_replicate_iff]
    refine ⟨rfl, fun b hb => ?_⟩
    obtain ⟨i, hi, rfl⟩ := List.mem_iff_getElem.1 hb
    have := h2 i (by omega) hi
    rw [← this, List.getD_eq_getElem?_getD, List.getElem?_eq_getElem hi]; rfl
  · cases h
theorem up_suc (p : Str) : suc p = (up p).map fun t => t ++ List.replicate (p.length - t.length) 65 := by
  cases h : up p with
  | none => rw [up_none h, suc_z]; rfl
  | some t =>
    obtain ⟨k, hk, e1, e2, e3⟩ := up_some h
    have hl : t.length = k + 1 := by rw [e3]; simp; omega
    rw [Option.map_some, hl]
    generalize hm : p.length - (k + 1) = m at e1 ⊢
    generalize p.getD k 0 = x at e1 e2 e3
    generalize p.take k = q at e1 e3
    rw [e3, e1, suc_q x e2]
    simp
def made (n : Nat) (c : Str) : Option Str := if n > 9999 then none else some (text n c)
def nextS (s : Str) : Option Str :=
  if may s then (match up (caps s) with | some t => made (num s) t | none => made (num s + 1) []) else none
def behindS (s : Str) (k : Nat) : Option Str :=
  if (caps s).length < k then made (num s) (caps s ++ List.replicate (k - (caps s).length) 65)
  else match up ((caps s).take k) with
    | some t => made (num s) (t ++ List.replicate (k - t.length) 65)
    | none => made (num s + 1) (List.replicate k 65)
theorem pre_lt : ∀ (c : Str) (x : UInt8) (r : Str), c < c ++ x :: r
  | [], _, _ => nil_lt
  | b :: c, x, r => cons_lt.2 (.inr ⟨rfl, pre_lt c x r⟩)
theorem app_min : ∀ (c : Str) (m : Nat) (d : Str), Cap d → d.length = c.length + m → c < d → ¬ d < c ++ List.replicate m 65
  | [], m, d, hd, hl, _ => by
    have : m = d.length := by simp at hl; exact hl.symm
    subst this; exact rep_min d hd
  | b :: c, m, [], hd, hl, h => fun _ => not_lt_nil h
  | b :: c, m, x :: d, hd, hl, h => by
    rw [List.cons_append, cons_lt]
    rw [cons_lt] at h
    simp only [List.length_cons] at hl
    rcases h with h | ⟨rfl, h⟩
    · rintro (k | ⟨rfl, _⟩) <;> omega
    · rintro (k | ⟨_, k⟩)
      · omega
      · exact app_min c m d (cap_cons.1 hd).2 (by omega) h k
theorem lt_take : ∀ (c d : Str), d.length ≤ c.length → (c < d ↔ c.take d.length < d)
  | c, [], _ => by simp
  | [], x :: d, h => by simp at h
  | b :: c, x :: d, h => by
    rw [List.length_cons, List.take_succ_cons, cons_lt, cons_lt, lt_take c d (by simpa using h)]
/-- The order of labels, spelled by numbers and capitals. -/
theorem ltL_text {a b : Str} (ha : may a = true) (hb : may b = true) : ltL a b ↔ num a < num b ∨ (num a = num b ∧ caps a < caps b) := by
  unfold ltL; simp [ha, hb]
theorem made_some {n : Nat} {c t : Str} (h1 : 1 ≤ n) (hc : Cap c) (hl : c.length ≤ 3) (h : made n c = some t) : may t = true ∧ num t = n ∧ caps t = c := by
  unfold made at h
  split at h
  · cases h
  · cases h; exact may_text h1 (by omega) hl hc
theorem made_none {n : Nat} {c : Str} (h : made n c = none) : 9999 < n := by
  unfold made at h; split at h
  · assumption
  · cases h
theorem num_le {s : Str} (h : may s = true) : num s ≤ 9999 := (text_may h).2.2.1
theorem num_pos {s : Str} (h : may s = true) : 1 ≤ num s := (text_may h).2.1
theorem cap_caps {s : Str} (h : may s = true) : Cap (caps s) := (text_may h).2.2.2.2
theorem caps_len {s : Str} (h : may s = true) : (caps s).length ≤ 3 := (text_may h).2.2.2.1
/-- The first label behind another one among those with so many letters. -/
theorem behind_some {a t : Str} {k : Nat} (ha : may a = true) (hk : k ≤ 3) (h : behindS a k = some t) :
    may t = true ∧ (caps t).length = k ∧ ltL a t ∧ (num t = num a ∨ num t = num a + 1) ∧ ∀ s, may s = true → (caps s).length = k → ltL a s → s = t ∨ ltL t s := by
  have h1 := num_pos ha
  have hc := cap_caps ha
  have hl := caps_len ha
  -- it is enough that no label of this length lies between
  suffices H : may t = true ∧ (caps t).length = k ∧ ltL a t ∧ (num t = num a ∨ num t = num a + 1) ∧ ∀ s, may s = true → (caps s).length = k → ltL a s → ¬ ltL s t by
    obtain ⟨a1, a2, a3, a4, a5⟩ := H
    refine ⟨a1, a2, a3, a4, fun s hs hl h => ?_⟩
    rcases L_tri s t with h' | h' | h'
    · exact absurd h' (a5 s hs hl h)
    · exact .inl h'
    · exact .inr h'
  unfold behindS at h
  split at h
  · rename_i hlt
    obtain ⟨m1, m2, m3⟩ := made_some h1 (cap_app.2 ⟨hc, cap_rep _⟩) (by simp; omega) h
    refine ⟨m1, by rw [m3]; simp; omega, ?_, .inl m2, fun s hs hsl has hst => ?_⟩
    · rw [ltL_text ha m1, m2, m3]
      refine .inr ⟨rfl, ?_⟩
      obtain ⟨m, hm⟩ : ∃ m, k - (caps a).length = m + 1 := ⟨k - (caps a).length - 1, by omega⟩
      rw [hm, List.replicate_succ]; exact pre_lt _ _ _
    · rw [ltL_text ha hs] at has
      rw [ltL_text hs m1, m2, m3] at hst
      rcases has with has | ⟨e, has⟩
      · rcases hst with hst | ⟨e2, _⟩ <;> omega
      · rcases hst with hst | ⟨_, hst⟩
        · omega
        · exact app_min (caps a) (k - (caps a).length) (caps s) (cap_caps hs) (by omega) has hst
  · rename_i hge
    have hp : ((caps a).take k).length = k := by simp; omega
    obtain ⟨s1, s2⟩ := suc_spec ((caps a).take k) (cap_take hc k)
    rw [up_suc, hp] at s1 s2
    cases hu : up ((caps a).take k) with
    | some u =>
      rw [hu] at h s1
      obtain ⟨j1, j2, j3, j4⟩ := s1 _ rfl
      obtain ⟨m1, m2, m3⟩ := made_some h1 j2 (by omega) h
      refine ⟨m1, by rw [m3]; omega, ?_, .inl m2, fun s hs hsl has hst => ?_⟩
      · rw [ltL_text ha m1, m2, m3]
        refine .inr ⟨rfl, ?_⟩
        rw [lt_take _ _ (by omega), j1]; exact j3
      · rw [ltL_text ha hs] at has
        rw [ltL_text hs m1, m2, m3] at hst
        rcases has with has | ⟨e, has⟩
        · rcases hst with hst | ⟨e2, _⟩ <;> omega
        · rcases hst with hst | ⟨_, hst⟩
          · omega
          · rw [lt_take _ _ (by omega), hsl] at has
            exact j4 (caps s) (cap_caps hs) hsl has hst
    | none =>
      rw [hu] at h s2
      have s2' := s2 rfl
      obtain ⟨m1, m2, m3⟩ := made_some (by omega) (cap_rep k) (by simp; omega) h
      refine ⟨m1, by rw [m3]; simp, ?_, .inr m2, fun s hs hsl has hst => ?_⟩
      · rw [ltL_text ha m1, m2]; exact .inl (by omega)
      · rw [ltL_text ha hs] at has
        rw [ltL_text hs m1, m2, m3] at hst
        rcases has with has | ⟨e, has⟩
        · rcases hst with hst | ⟨_, hst⟩
          · omega
          · rw [← hsl] at hst; exact rep_min _ (cap_caps hs) hst
        · rw [lt_take _ _ (by omega), hsl] at has
          exact s2' (caps s) (cap_caps hs) hsl has
theorem behind_none {a : Str} {k : Nat} (ha : may a = true) (h : behindS a k = none) : ∀ s, may s = true → (caps s).length = k → ¬ ltL a s := by
  have hc := cap_caps ha
  have hn := num_le ha
  intro s hs hsl has
  have hns := num_le hs
  unfold behindS at h
  split at h
  · have := made_none h; omega
  · rename_i hge
    have hp : ((caps a).take k).length = k := by simp; omega
    obtain ⟨_, s2⟩ := suc_spec ((caps a).take k) (cap_take hc k)
    rw [up_suc, hp] at s2
    cases hu : up ((caps a).take k) with
    | some u => rw [hu] at h; have := made_none h; omega
    | none =>
      rw [hu] at h s2
      have h9 := made_none h
      rw [ltL_text ha hs] at has
      rcases has with has | ⟨e, has⟩
      · omega
      · rw [lt_take _ _ (by omega), hsl] at has
        exact s2 rfl (caps s) (cap_caps hs) hsl has
/-- The first of the four lengths with a label between. -/
noncomputable def betS (a b : Str) : Nat → Nat → Option Str
  | 0, _ => none
  | f + 1, k => match behindS a k with
    | some t => (if cmpL t b < 0 then some t else betS a b f (k + 1))
    | none => betS a b f (k + 1)
noncomputable def between (a b : Str) : Option Str := if may a = true ∧ may b = true then betS a b 4 0 else none
/-- There is a label of this length between. -/
def btw (a b s : Str) : Prop := may s = true ∧ ltL a s ∧ ltL s b
theorem bet_step {a b : Str} {k : Nat} (ha : may a = true) (hk : k ≤ 3) (hno : ¬ ∃ s, btw a b s ∧ (caps s).length = k) (f : Nat) : betS a b (f + 1) k = betS a b f (k + 1) := by
  simp only [betS]
  cases h : behindS a k with
  | none => rfl
  | some t =>
    obtain ⟨h1, h2, h3, _, _⟩ := behind_some ha hk h
    simp only []
    rw [if_neg]
    rw [cmpL_lt]
    exact fun hb => hno ⟨t, ⟨h1, h3, hb⟩, h2⟩
/-- What lies between, before all others of its length, is what is found. -/
theorem bet_hit {a b s : Str} {k : Nat} (ha : may a = true) (hk : k ≤ 3) (hs : btw a b s) (hl : (caps s).length = k) (hmin : ∀ t, btw a b t → (caps t).length = k → (num t = num a ∨ num t = num a + 1) → ¬ ltL t s) (f : Nat) : betS a b (f + 1) k = some s := by
  simp only [betS]
  cases h : behindS a k with
  | none => exact absurd hs.2.1 (behind_none ha h s hs.1 hl)
  | some t =>
    obtain ⟨h1, h2, h3, h4, h5⟩ := behind_some ha hk h
    have hst : s = t := by
      rcases h5 s hs.1 hl hs.2.1 with e | e
      · exact e
      · exact absurd e (hmin t ⟨h1, h3, L_trans e hs.2.2⟩ h2 h4)
    subst hst
    simp only []
    rw [if_pos (cmpL_lt.2 hs.2.2)]
theorem bet_sound {a b : Str} (ha : may a = true) : ∀ (f k : Nat) (s : Str), k + f ≤ 4 → betS a b f k = some s → ∃ j, k ≤ j ∧ j ≤ 3 ∧ behindS a j = some s ∧ ltL s b ∧ ∀ i, k ≤ i → i < j → ¬ ∃ t, btw a b t ∧ (caps t).length = i
  | 0, _, _, _, h => by cases h
  | f + 1, k, s, hkf, h => by
    simp only [betS] at h
    have rec1 : ∀ (_ : ¬ ∃ t, btw a b t ∧ (caps t).length = k), betS a b f (k + 1) = some s → ∃ j, k ≤ j ∧ j ≤ 3 ∧ behindS a j = some s ∧ ltL s b ∧ ∀ i, k ≤ i → i < j → ¬ ∃ t, btw a b t ∧ (caps t).length = i := by
      intro hno h
      obtain ⟨j, h1, h2, h3, h4, h5⟩ := bet_sound ha f (k + 1) s (by omega) h
      refine ⟨j, by omega, h2, h3, h4, fun i hi hj => ?_⟩
      by_cases e : i = k
      · subst e; exact hno
      · exact h5 i (by omega) hj
    cases hb : behindS a k with
    | none =>
      rw [hb] at h
      exact rec1 (fun ⟨t, ht, hl⟩ => behind_none ha hb t ht.1 hl ht.2.1) h
    | some t =>
      rw [hb] at h
      simp only [] at h
      obtain ⟨g1, g2, g3, g4, g5⟩ := behind_some ha (by omega) hb
      by_cases hc : cmpL t b < 0
      · rw [if_pos hc] at h
        cases h
        exact ⟨k, Nat.le_refl _, by omega, hb, cmpL_lt.1 hc, fun i h1 h2 => by omega⟩
      · rw [if_neg hc] at h
        rw [cmpL_lt] at hc
        refine rec1 (fun ⟨u, hu, hl⟩ => ?_) h
        rcases g5 u hu.1 hl hu.2.1 with e | e
        · subst e; exact hc hu.2.2
        · exact hc (L_trans e hu.2.2)
theorem bet_none {a b : Str} (ha : may a = true) : ∀ (f k : Nat), k + f ≤ 4 → betS a b f k = none → ∀ i, k ≤ i → i < k + f → ¬ ∃ t, btw a b t ∧ (caps t).length = i
  | 0, _, _, _ => fun i h1 h2 => by omega
  | f + 1, k, hkf, h => by
    simp only [betS] at h
    have rec1 : ∀ (_ : ¬ ∃ t, btw a b t ∧ (caps t).length = k), betS a b f (k + 1) = none → ∀ i, k ≤ i → i < k + (f + 1) → ¬ ∃ t, btw a b t ∧ (caps t).length = i := by
      intro hno h i h1 h2
      by_cases e : i = k
      · subst e; exact hno
      · exact bet_none ha f (k + 1) (by omega) h i (by omega) (by omega)
    cases hb : behindS a k with
    | none =>
      rw [hb] at h
      exact rec1 (fun ⟨t, ht, hl⟩ => behind_none ha hb t ht.1 hl ht.2.1) h
    | some t =>
      rw [hb] at h
      simp only [] at h
      obtain ⟨g1, g2, g3, g4, g5⟩ := behind_some ha (by omega) hb
      by_cases hc : cmpL t b < 0
      · rw [if_pos hc] at h; cases h
      · rw [if_neg hc] at h
        rw [cmpL_lt] at hc
        refine rec1 (fun ⟨u, hu, hl⟩ => ?_) h
        rcases g5 u hu.1 hl hu.2.1 with e | e
        · subst e; exact hc hu.2.2
        · exact hc (L_trans e hu.2.2)
/-- What 'between' finds lies between, and is the first of the shortest. -/
theorem between_some {a b s : Str} (h : between a b = some s) : may a = true ∧ may b = true ∧ btw a b s ∧ ∀ t, btw a b t → (caps s).length < (caps t).length ∨ ((caps s).length = (caps t).length ∧ (s = t ∨ ltL s t)) := by
  unfold between at h
  split at h
  · rename_i hab
    obtain ⟨ha, hb⟩ := hab
    obtain ⟨j, _, h2, h3, h4, h5⟩ := bet_sound ha 4 0 s (by omega) h
    obtain ⟨g1, g2, g3, g4, g5⟩ := behind_some ha h2 h3
    refine ⟨ha, hb, ⟨g1, g3, h4⟩, fun t ht => ?_⟩
    rcases Nat.lt_trichotomy (caps s).length (caps t).length with h | h | h
    · exact .inl h
    · right
      refine ⟨h, ?_⟩
      rcases g5 t ht.1 (by omega) ht.2.1 with e | e
      · exact .inl e.symm
      · exact .inr e
    · exact absurd ⟨t, ht, rfl⟩ (h5 (caps t).length (Nat.zero_le _) (by omega))
  · cases h
theorem between_none {a b : Str} (ha : may a = true) (hb : may b = true) (h : between a b = none) (t : Str) : ¬ btw a b t := by
  unfold between at h
  rw [if_pos ⟨ha, hb⟩] at h
  intro ht
  have := caps_len ht.1
  exact bet_none ha 4 0 (by omega) h (caps t).length (Nat.zero_le _) (by omega) ⟨t, ht, rfl⟩
/-! ### the next one -/
theorem rep90 : ∀ (m : Nat) (d : Str), Cap d → List.replicate m 90 < d → m < d.length
  | 0, d, _, h => by
    cases d with
    | nil => exact absurd h not_lt_nil
    | cons => simp
  | m + 1, [], _, h => absurd h not_lt_nil
  | m + 1, x :: d, hd, h => by
    rw [List.replicate_succ, cons_lt] at h
    have := isU_iff.1 (cap_cons.1 hd).1
    have e : (90 : UInt8).toNat = 90 := rfl
    rcases h with h | ⟨_, h⟩
    · omega
    · have := rep90 m d (cap_cons.1 hd).2 h; simpa using this
theorem gap (x : UInt8) (hx : isU x = true) (m : Nat) : ∀ (q d : Str), Cap d → q ++ x :: List.replicate m 90 < d → d < q ++ [x + 1] → q.length + 1 + m < d.length
  | [], [], _, h, _ => absurd h not_lt_nil
  | [], y :: d, hd, h1, h2 => by
    rw [List.nil_append, cons_lt] at h1 h2
    have hx' := isU_iff.1 hx
    have e := inc_nat (b := x) (by omega)
    rcases h2 with h2 | ⟨rfl, h2⟩
    · rcases h1 with h1 | ⟨rfl, h1⟩
      · omega
      · have := rep90 m d (cap_cons.1 hd).2 h1
        simp; omega
    · exact absurd h2 not_lt_nil
  | b :: q, [], _, h, _ => absurd h not_lt_nil
  | b :: q, y :: d, hd, h1, h2 => by
    rw [List.cons_append, cons_lt] at h1 h2
    rcases h1 with h1 | ⟨rfl, h1⟩
    · rcases h2 with h2 | ⟨rfl, h2⟩ <;> omega
    · rcases h2 with h2 | ⟨_, h2⟩
      · omega
      · have := gap x hx m q d (cap_cons.1 hd).2 h1 h2
        simp; omega
theorem next_some {s t : Str} (h : nextS s = some t) : may s = true ∧ may t = true ∧ ltL s t ∧ ∀ o, may o = true → ltL s o → ltL o t → (caps s).length < (caps o).length := by
  unfold nextS at h
  split at h
  · rename_i ha
    have hc := cap_caps ha
    have h1 := num_pos ha
    have hl := caps_len ha
    cases hu : up (caps s) with
    | some u =>
      rw [hu] at h
      obtain ⟨k, hk, e1, e2, e3⟩ := up_some hu
      have hx : isU ((caps s).getD k 0) = true := by
        refine hc _ ?_
        rw [List.getD_eq_getElem?_getD, List.getElem?_eq_getElem hk]; exact List.getElem_mem hk
      obtain ⟨m1, m2, m3⟩ := made_some h1 (c := u) (by rw [e3]; exact cap_app.2 ⟨cap_take hc k, cap_cons.2 ⟨inc_U hx e2, cap_nil⟩⟩) (by rw [e3]; simp; omega) h
      have hx' := isU_iff.1 hx
      have hinc := inc_nat (b := (caps s).getD k 0) (by omega)
      have hlt : ∀ (q : Str) (x : UInt8) (r : Str), (x + 1).toNat = x.toNat + 1 → q ++ x :: r < q ++ [x + 1] := by
        intro q x r hxx
        induction q with
        | nil => exact cons_lt.2 (.inl (by omega))
        | cons b q ih => exact cons_lt.2 (.inr ⟨rfl, ih⟩)
      refine ⟨ha, m1, ?_, fun o ho h2 h3 => ?_⟩
      · rw [ltL_text ha m1, m2, m3]
        refine .inr ⟨rfl, ?_⟩
        rw [e3]
        have := hlt ((caps s).take k) ((caps s).getD k 0) (List.replicate ((caps s).length - (k + 1)) 90) hinc
        rw [← e1] at this; exact this
      · rw [ltL_text ha ho] at h2
        rw [ltL_text ho m1, m2, m3] at h3
        rcases h2 with h2 | ⟨q2, h2⟩
        · rcases h3 with h3 | ⟨q3, _⟩ <;> omega
        · rcases h3 with h3 | ⟨_, h3⟩
          · omega
          · rw [e3] at h3
            have h2' : (caps s).take k ++ (caps s).getD k 0 :: List.replicate ((caps s).length - (k + 1)) 90 < caps o := by rw [← e1]; exact h2
            have := gap _ hx _ _ _ (cap_caps ho) h2' h3
            have e4 : ((caps s).take k).length = k := by simp; omega
            omega
    | none =>
      rw [hu] at h
      have hz := up_none hu
      obtain ⟨m1, m2, m3⟩ := made_some (by omega) cap_nil (by simp) h
      refine ⟨ha, m1, ?_, fun o ho h2 h3 => ?_⟩
      · rw [ltL_text ha m1, m2]; exact .inl (by omega)
      · rw [ltL_text ha ho] at h2
        rw [ltL_text ho m1, m2, m3] at h3
        rcases h3 with h3 | ⟨_, h3⟩
        · rcases h2 with h2 | ⟨_, h2⟩
          · omega
          · rw [hz] at h2; exact rep90 _ _ (cap_caps ho) h2
        · exact absurd h3 not_lt_nil
  · cases h
end Go.VM


namespace Go.VM
open Go
def ltr (i : Nat) : UInt8 := UInt8.ofNat (65 + i)
def rowS (r : Str) : List Str := (List.range 26).map fun i => r ++ [ltr i]
def allS : Nat → List Str
  | 0 => [[]]
  | k + 1 => (allS k).flatMap rowS
theorem ltr_nat {i : Nat} (h : i < 26) : (ltr i).toNat = 65 + i := by unfold ltr; exact ofNat_toNat (by omega)
theorem ltr_U {i : Nat} (h : i < 26) : isU (ltr i) = true := by rw [isU_iff, ltr_nat h]; omega
theorem U_ltr {b : UInt8} (h : isU b = true) : ∃ i, i < 26 ∧ b = ltr i := by
  rw [isU_iff] at h
  exact ⟨b.toNat - 65, by omega, u8_inj (by rw [ltr_nat (by omega)]; omega)⟩
theorem mem_all : ∀ (k : Nat) (d : Str), d ∈ allS k ↔ Cap d ∧ d.length = k
  | 0, d => by
    simp only [allS, List.mem_singleton]
    constructor
    · rintro rfl; exact ⟨cap_nil, rfl⟩
    · rintro ⟨_, h⟩; exact List.eq_nil_of_length_eq_zero h
  | k + 1, d => by
    simp only [allS, rowS, List.mem_flatMap, List.mem_map, List.mem_range]
    constructor
    · rintro ⟨r, hr, i, hi, rfl⟩
      obtain ⟨h1, h2⟩ := (mem_all k r).1 hr
      exact ⟨cap_app.2 ⟨h1, cap_cons.2 ⟨ltr_U hi, cap_nil⟩⟩, by simp [h2]⟩
    · rintro ⟨h1, h2⟩
      have hne : d ≠ [] := by intro e; subst e; simp at h2
      obtain ⟨m, b, rfl⟩ : ∃ m b, d = m ++ [b] := ⟨d.dropLast, d.getLast hne, (List.dropLast_concat_getLast hne).symm⟩
      rw [cap_app] at h1
      obtain ⟨i, hi, rfl⟩ := U_ltr (cap_cons.1 h1.2).1
      exact ⟨m, (mem_all k m).2 ⟨h1.1, by simpa using h2⟩, i, hi, rfl⟩
theorem snoc_lt : ∀ (l m : Str) (a b : UInt8), l.length = m.length → l < m → l ++ [a] < m ++ [b]
  | [], [], _, _, _, h => absurd h not_lt_nil
  | [], _ :: _, _, _, h, _ => by simp at h
  | _ :: _, [], _, _, h, _ => by simp at h
  | x :: l, y :: m, a, b, hl, h => by
    rw [List.cons_append, List.cons_append, cons_lt]
    rw [cons_lt] at h
    rcases h with h | ⟨e, h⟩
    · exact .inl h
    · exact .inr ⟨e, snoc_lt l m a b (by simpa using hl) h⟩
theorem snoc_lt2 : ∀ (l : Str) (a b : UInt8), a.toNat < b.toNat → l ++ [a] < l ++ [b]
  | [], _, _, h => cons_lt.2 (.inl h)
  | _ :: l, a, b, h => cons_lt.2 (.inr ⟨rfl, snoc_lt2 l a b h⟩)
theorem all_sorted : ∀ (k : Nat), (allS k).Pairwise (· < ·)
  | 0 => by simp [allS]
  | k + 1 => by
    simp only [allS]
    rw [List.pairwise_flatMap]
    refine ⟨fun r hr => ?_, (all_sorted k).imp_of_mem fun {x y} hx hy hxy => ?_⟩
    · unfold rowS
      rw [List.pairwise_map]
      exact (List.pairwise_lt_range (n := 26)).imp_of_mem fun {i j} hi hj hij => snoc_lt2 r _ _ (by rw [ltr_nat (List.mem_range.1 hi), ltr_nat (List.mem_range.1 hj)]; omega)
    · intro u hu v hv
      simp only [rowS, List.mem_map, List.mem_range] at hu hv
      obtain ⟨i, hi, rfl⟩ := hu
      obtain ⟨j, hj, rfl⟩ := hv
      exact snoc_lt _ _ _ _ (by rw [((mem_all k x).1 hx).2, ((mem_all k y).1 hy).2]) hxy
theorem all_len : ∀ (k : Nat), (allS k).length = 26 ^ k
  | 0 => rfl
  | k + 1 => by
    simp only [allS, List.length_flatMap]
    have : (allS k).map (fun a => (rowS a).length) = List.replicate (allS k).length 26 := by
      rw [List.eq_replicate_iff]
      refine ⟨by simp, fun b hb => ?_⟩
      obtain ⟨r, _, rfl⟩ := List.mem_map.1 hb
      simp [rowS]
    have hs : ∀ n : Nat, (List.replicate n 26).sum = n * 26 := fun n => by
      induction n with
      | zero => rfl
      | succ n ih => rw [List.replicate_succ, List.sum_cons, ih]; omega
    rw [this, hs, all_len k, Nat.pow_succ]
/-- What the search looks for. -/
def hits (a b s : Str) : Prop := cmpL a s < 0 ∧ cmpL s b < 0
theorem text_of {t : Str} (h : may t = true) : t = text (num t) (caps t) := (text_may h).1
theorem no_btw {a b : Str} {k : Nat} (ha : may a = true) (hk : k ≤ 3) (h : ∀ m, (m = num a ∨ m = num a + 1) → m ≤ 9999 → ∀ d ∈ allS k, ¬ hits a b (text m d)) : ¬ ∃ t, btw a b t ∧ (caps t).length = k := by
  rintro ⟨t, ht, hl⟩
  cases hb : behindS a k with
  | none => exact behind_none ha hb t ht.1 hl ht.2.1
  | some u =>
    obtain ⟨g1, g2, g3, g4, g5⟩ := behind_some ha hk hb
    have hub : ltL u b := by
      rcases g5 t ht.1 hl ht.2.1 with e | e
      · subst e; exact ht.2.2
      · exact L_trans e ht.2.2
    refine h (num u) g4 (num_le g1) (caps u) ((mem_all k _).2 ⟨cap_caps g1, g2⟩) ?_
    rw [← text_of g1]
    exact ⟨cmpL_lt.2 g3, cmpL_lt.2 hub⟩
theorem search_found {a b : Str} (ha : may a = true) (hb : may b = true) {k m i : Nat} (hk : k ≤ 3) (hm : m = num a ∨ m = num a + 1) (hm9 : m ≤ 9999) (hi : i < (allS k).length)
    (h1 : ∀ k', k' < k → ∀ m, (m = num a ∨ m = num a + 1) → m ≤ 9999 → ∀ d ∈ allS k', ¬ hits a b (text m d))
    (h2 : ∀ m', num a ≤ m' → m' < m → ∀ d ∈ allS k, ¬ hits a b (text m' d)) (h3 : ∀ (j : Nat) (hj : j < i), ¬ hits a b (text m ((allS k)[j]'(by omega)))) (hs : hits a b (text m (allS k)[i])) :
    between a b = some (text m (allS k)[i]) := by
  have hn := num_pos ha
  obtain ⟨q1, q2⟩ := (mem_all k (allS k)[i]).1 (List.getElem_mem hi)
  obtain ⟨r1, r2, r3⟩ := may_text (n := m) (c := (allS k)[i]) (by omega) hm9 (by omega) q1
  have hso := all_sorted k
  rw [List.pairwise_iff_getElem] at hso
  have hit : betS a b (3 - k + 1) k = some (text m (allS k)[i]) := by
    refine bet_hit ha hk ⟨r1, cmpL_lt.1 hs.1, cmpL_lt.1 hs.2⟩ (by rw [r3]; exact q2) (fun t ht hl hn hlt => ?_) _
    have hti : hits a b (text (num t) (caps t)) := by rw [← text_of ht.1]; exact ⟨cmpL_lt.2 ht.2.1, cmpL_lt.2 ht.2.2⟩
    have hmt : caps t ∈ allS k := (mem_all k _).2 ⟨cap_caps ht.1, hl⟩
    rw [ltL_text ht.1 r1, r2, r3] at hlt
    rcases hlt with hlt | ⟨e, hlt⟩
    · exact h2 (num t) (by omega) hlt (caps t) hmt hti
    · obtain ⟨j, hj, hje⟩ := List.mem_iff_getElem.1 hmt
      rw [← hje] at hlt hti
      rcases Nat.lt_trichotomy j i with h | h | h
      · rw [e] at hti; exact h3 j h hti
      · subst h; exact S_irrefl _ hlt
      · exact S_irrefl _ (S_trans hlt (hso i j hi hj h))
  have go : ∀ (d : Nat), d ≤ k → betS a b (4 - (k - d)) (k - d) = betS a b (4 - k) k := by
    intro d
    induction d with
    | zero => intro _; rfl
    | succ d ih =>
      intro hd
      rw [← ih (by omega), show 4 - (k - (d + 1)) = (4 - (k - d)) + 1 by omega, bet_step ha (by omega) (no_btw ha (by omega) (h1 (k - (d + 1)) (by omega))), show k - (d + 1) + 1 = k - d by omega]
  have := go k (Nat.le_refl _)
  unfold between
  rw [if_pos ⟨ha, hb⟩]
  rw [show k - k = 0 by omega] at this
  rw [show (4 : Nat) = 4 - 0 by rfl, this, show 4 - k = 3 - k + 1 by omega, hit]
theorem search_none {a b : Str} (ha : may a = true) (hb : may b = true) (h1 : ∀ k', k' < 4 → ∀ m, (m = num a ∨ m = num a + 1) → m ≤ 9999 → ∀ d ∈ allS k', ¬ hits a b (text m d)) : between a b = none := by
  cases h : between a b with
  | none => rfl
  | some s =>
    obtain ⟨_, _, h2, _⟩ := between_some h
    have := caps_len h2.1
    exact absurd ⟨s, h2, rfl⟩ (no_btw ha (by omega) (h1 (caps s).length (by omega)))
/-! ### the first free label -/
def cnt (l : List Str) (s : Str) : Nat := (l.filter fun x => decide (0 ≤ cmpL x s)).length
theorem filter_le {α : Type} {p q : α → Bool} (h : ∀ x, q x = true → p x = true) : ∀ (l : List α), (l.filter q).length ≤ (l.filter p).length
  | [] => Nat.le_refl _
  | a :: l => by
    have := filter_le h l
    simp only [List.filter_cons]
    cases hq : q a with
    | true => rw [h a hq]; simpa using this
    | false => cases hpa : p a <;> simp <;> omega
theorem filter_lt {α : Type} {p q : α → Bool} (h : ∀ x, q x = true → p x = true) {s : α} (hp : p s = true) (hq : q s = false) : ∀ (l : List α), s ∈ l → (l.filter q).length < (l.filter p).length
  | [], hs => by cases hs
  | a :: l, hs => by
    have h1 := filter_le h l
    simp only [List.filter_cons]
    rcases List.mem_cons.1 hs with rfl | hs
    · rw [hp, hq]; simp; omega
    · have := filter_lt h hp hq l hs
      cases hqa : q a with
      | true => rw [h a hqa]; simpa using this
      | false => cases hpa : p a <;> simp <;> omega
theorem cnt_lt {l : List Str} {s t : Str} (hs : s ∈ l) (h : nextS s = some t) : cnt l t < cnt l s := by
  obtain ⟨_, _, h3, _⟩ := next_some h
  refine filter_lt (fun x hx => ?_) (by rw [cmpL_zero.2 rfl]; rfl) ?_ l hs
  · simp only [decide_eq_true_eq] at hx ⊢
    rcases Int.lt_or_le 0 (cmpL x t) with h | h
    · exact Int.le_of_lt (cmpL_gt.2 (L_trans h3 (cmpL_gt.1 h)))
    · have := cmpL_zero.1 (show cmpL x t = 0 by omega)
      subst this; exact Int.le_of_lt (cmpL_gt.2 h3)
  · simp only [decide_eq_false_iff_not]
    have := cmpL_lt.2 h3; omega
def freeF (l : List Str) : Nat → Str → Option Str
  | 0, _ => none
  | f + 1, s => if s ∈ l then (nextS s).bind (freeF l f) else some s
def freeS (l : List Str) (s : Str) : Option Str := freeF l (cnt l s + 1) s
theorem freeF_more (l : List Str) : ∀ (f : Nat) (s : Str), cnt l s < f → freeF l f s = freeF l (f + 1) s
  | 0, s, h => by omega
  | f + 1, s, h => by
    simp only [freeF]
    by_cases hs : s ∈ l
    · rw [if_pos hs, if_pos hs]
      cases hn : nextS s with
      | none => rfl
      | some t =>
        have := cnt_lt hs hn
        exact freeF_more l f t (by omega)
    · rw [if_neg hs, if_neg hs]
theorem freeF_eq (l : List Str) (s : Str) : ∀ (d : Nat), freeF l (cnt l s + 1 + d) s = freeS l s
  | 0 => rfl
  | d + 1 => by rw [← freeF_eq l s d, show cnt l s + 1 + (d + 1) = (cnt l s + 1 + d) + 1 by omega]; exact (freeF_more l _ s (by omega)).symm
theorem free_in {l : List Str} {s : Str} (hs : s ∈ l) : freeS l s = (nextS s).bind (freeS l) := by
  unfold freeS
  simp only [freeF]
  rw [if_pos hs]
  cases hn : nextS s with
  | none => rfl
  | some t =>
    have := cnt_lt hs hn
    show freeF l (cnt l s) t = freeF l (cnt l t + 1) t
    have e := freeF_eq l t (cnt l s - (cnt l t + 1))
    rw [show cnt l t + 1 + (cnt l s - (cnt l t + 1)) = cnt l s by omega] at e
    exact e
theorem free_out {l : List Str} {s : Str} (hs : ¬ s ∈ l) : freeS l s = some s := by unfold freeS; simp only [freeF]; rw [if_neg hs]
theorem free_not {l : List Str} {t : Str} : ∀ (n : Nat) (s : Str), cnt l s ≤ n → freeS l s = some t → ¬ t ∈ l := by
  intro n
  induction n with
  | zero =>
    intro s hn h
    by_cases hs : s ∈ l
    · rw [free_in hs] at h
      cases hx : nextS s with
      | none => rw [hx] at h; cases h
      | some u => have := cnt_lt hs hx; omega
    · rw [free_out hs] at h; cases h; exact hs
  | succ n ih =>
    intro s hn h
    by_cases hs : s ∈ l
    · rw [free_in hs] at h
      cases hx : nextS s with
      | none => rw [hx] at h; cases h
      | some u =>
        rw [hx] at h
        have := cnt_lt hs hx
        exact ih u (by omega) h
    · rw [free_out hs] at h; cases h; exact hs
def nextFree (l : List Str) (s : Str) : Option Str := if may s = true then freeS l s else none
/-! ### the sorted list -/
def leL (a b : Str) : Prop := cmpL a b ≤ 0
theorem leL_iff {a b : Str} : leL a b ↔ ¬ ltL b a := by
  unfold leL; rw [← cmpL_gt]; omega
theorem leL_refl (a : Str) : leL a a := leL_iff.2 (L_irrefl a)
theorem leL_total (a b : Str) : leL a b ∨ leL b a := by
  unfold leL; rw [cmpL_anti a b]; omega
theorem leL_anti {a b : Str} (h : leL a b) (k : leL b a) : a = b := by
  unfold leL at h k; rw [cmpL_anti a b] at k; exact cmpL_zero.1 (by omega)
theorem leL_trans {a b c : Str} (h : leL a b) (k : leL b c) : leL a c := by
  rw [leL_iff] at *
  intro hc
  rcases L_tri a b with e | e | e
  · exact k (L_trans hc e)
  · subst e; exact k hc
  · exact h e
theorem sorted_eq {l m : List Str} (hp : l.Perm m) (hl : l.Pairwise leL) (hm : m.Pairwise leL) : l = m := hp.eq_of_pairwise (fun _ _ _ _ => leL_anti) hl hm
/-- Where the new one stands: behind all that are not greater. -/
def posL (l : List Str) (s : Str) : Nat := (l.takeWhile fun x => decide (cmpL x s ≤ 0)).length
def insL (l : List Str) (s : Str) : List Str := l.take (posL l s) ++ s :: l.drop (posL l s)
def sortL (l : List Str) : List Str := l.foldl insL []
theorem takeWhile_len {α : Type} {p : α → Bool} : ∀ {l : List α}, (l.takeWhile p).length ≤ l.length
  | [] => Nat.le_refl _
  | a :: l => by rw [List.takeWhile_cons]; split; simpa using takeWhile_len (p := p) (l := l); simp
theorem posL_le (l : List Str) (s : Str) : posL l s ≤ l.length := takeWhile_len
theorem takeWhile_eq_take {α : Type} {p : α → Bool} : ∀ (l : List α), l.takeWhile p = l.take (l.takeWhile p).length
  | [] => rfl
  | a :: l => by rw [List.takeWhile_cons]; split; rw [List.length_cons, List.take_succ_cons, ← takeWhile_eq_take l]; rfl
theorem drop_takeWhile {α : Type} {p : α → Bool} : ∀ (l : List α), l.drop (l.takeWhile p).length = l.dropWhile p
  | [] => rfl
  | a :: l => by rw [List.takeWhile_cons, List.dropWhile_cons]; split; rw [List.length_cons, List.drop_succ_cons, drop_takeWhile l]; rfl
theorem mem_takeWhile {α : Type} {p : α → Bool} : ∀ {l : List α} {a : α}, a ∈ l.takeWhile p → p a = true
  | [], _, h => by cases h
  | b :: l, a, h => by
    rw [List.takeWhile_cons] at h
    split at h
    · rcases List.mem_cons.1 h with rfl | h
      · assumption
      · exact mem_takeWhile h
    · cases h
theorem insL_perm (l : List Str) (s : Str) : (insL l s).Perm (s :: l) := by
  unfold insL
  refine List.perm_middle.trans ?_
  rw [List.take_append_drop]
theorem insL_sorted {l : List Str} (h : l.Pairwise leL) (s : Str) : (insL l s).Pairwise leL := by
  unfold insL posL
  rw [← takeWhile_eq_take, drop_takeWhile]
  generalize hp : (fun x => decide (cmpL x s ≤ 0)) = p
  have h0 : (l.takeWhile p ++ l.dropWhile p).Pairwise leL := by rw [List.takeWhile_append_dropWhile]; exact h
  obtain ⟨h1, h2, h3⟩ := List.pairwise_append.1 h0
  have hd : ∀ x ∈ l.dropWhile p, leL s x := by
    cases hq : l.dropWhile p with
    | nil => intro x hx; cases hx
    | cons y r =>
      have hy : p y = false := by
        have hh := List.head?_dropWhile_not p l
        rw [hq] at hh; simpa using hh
      have hsy : leL s y := by
        rw [← hp] at hy
        simp only [decide_eq_false_iff_not] at hy
        unfold leL; rw [cmpL_anti y s]; omega
      rw [hq] at h2
      intro x hx
      rcases List.mem_cons.1 hx with rfl | hx
      · exact hsy
      · exact leL_trans hsy ((List.pairwise_cons.1 h2).1 x hx)
  refine List.pairwise_append.2 ⟨h1, List.pairwise_cons.2 ⟨hd, h2⟩, fun a ha b hb => ?_⟩
  have has : leL a s := by
    have := mem_takeWhile ha
    rw [← hp] at this; simpa [leL] using this
  rcases List.mem_cons.1 hb with rfl | hb
  · exact has
  · exact leL_trans has (hd b hb)
theorem foldl_ins : ∀ (l out : List Str), out.Pairwise leL → (l.foldl insL out).Pairwise leL ∧ (l.foldl insL out).Perm (out ++ l)
  | [], out, h => ⟨h, by simp⟩
  | a :: l, out, h => by
    obtain ⟨h1, h2⟩ := foldl_ins l (insL out a) (insL_sorted h a)
    refine ⟨h1, h2.trans ?_⟩
    have h3 := (insL_perm out a).append_right l
    exact h3.trans (List.perm_middle (l₁ := out) (a := a) (l₂ := l)).symm
theorem sortL_ok (l : List Str) : (sortL l).Pairwise leL ∧ (sortL l).Perm l := by
  have := foldl_ins l [] .nil
  simpa [sortL] using this
theorem sortL_len (l : List Str) : (sortL l).length = l.length := (sortL_ok l).2.length_eq
theorem sortL_step (l : List Str) (k : Nat) (hk : k < l.length) : sortL (l.take (k + 1)) = insL (sortL (l.take k)) l[k] := by
  unfold sortL
  rw [List.take_add_one, List.getElem?_eq_getElem hk, Option.toList_some, List.foldl_append]; rfl
end Go.VM


namespace Go.VM
open Go
theorem tw_at {q : UInt8 → Bool} : ∀ {s : Str} {k : Nat}, k < (s.takeWhile q).length → q (s.getD k 0) = true
  | [], k, h => by simp at h
  | a :: r, k, h => by
    rw [List.takeWhile_cons] at h
    split at h
    · cases k with
      | zero => simpa
      | succ k => simpa using tw_at (s := r) (k := k) (by simpa using h)
    · simp at h
theorem tw_end {q : UInt8 → Bool} : ∀ {s : Str}, (s.takeWhile q).length < s.length → q (s.getD (s.takeWhile q).length 0) = false
  | [], h => by simp at h
  | a :: r, h => by
    rw [List.takeWhile_cons] at h ⊢
    split at h
    · rename_i e
      rw [if_pos e, List.length_cons, List.getD_cons_succ]
      exact tw_end (by simpa using h)
    · rename_i e; rw [if_neg e]; simpa using e
theorem dgs_at {s : Str} {k : Nat} (h : k < (dgs s).length) : 48 ≤ (s.getD k 0).toNat ∧ (s.getD k 0).toNat ≤ 57 := by
  have := tw_at (q := isD) h; simpa [isD] using this
theorem dgs_end {s : Str} (h : (dgs s).length < s.length) : ¬ (48 ≤ (s.getD (dgs s).length 0).toNat ∧ (s.getD (dgs s).length 0).toNat ≤ 57) := by
  have := tw_end (q := isD) h
  intro k
  have e : isD (s.getD (dgs s).length 0) = true := by unfold isD; rw [decide_eq_true k.1, decide_eq_true k.2]; rfl
  rw [show (s.takeWhile isD).length = (dgs s).length from rfl, e] at this; cases this
theorem dgs_le (s : Str) : (dgs s).length ≤ s.length := by rw [← dgs_len s]; omega
theorem getD_caps (s : Str) (i : Nat) : (caps s).getD i 0 = s.getD ((dgs s).length + i) 0 := by
  rw [caps_drop, List.getD_eq_getElem?_getD, List.getElem?_drop, ← List.getD_eq_getElem?_getD]
theorem all_at {l : Str} : l.all isU = true ↔ ∀ i, i < l.length → isU (l.getD i 0) = true := by
  rw [List.all_eq_true]
  constructor
  · intro h i hi
    rw [List.getD_eq_getElem?_getD, List.getElem?_eq_getElem hi]; exact h _ (List.getElem_mem hi)
  · intro h b hb
    obtain ⟨i, hi, rfl⟩ := List.mem_iff_getElem.1 hb
    have := h i hi
    rw [List.getD_eq_getElem?_getD, List.getElem?_eq_getElem hi] at this; exact this
theorem head_getD {s : Str} (h : s ≠ []) : (s.head? != some 48) = !decide ((s.getD 0 0).toNat = 48) := by
  cases s with
  | nil => exact absurd rfl h
  | cons b r =>
    simp only [List.head?_cons, List.getD_cons_zero]
    by_cases e : b = 48
    · subst e; rfl
    · have : b.toNat ≠ 48 := fun h => e (u8_inj h)
      simp [e, this]
theorem val_take (s : Str) (k : Nat) (h : k < (dgs s).length) : val (s.take (k + 1)) = 10 * val (s.take k) + ((s.getD k 0).toNat - 48) := by
  have hl := dgs_le s
  have e : s.take (k + 1) = s.take k ++ [s.getD k 0] := by
    rw [List.take_add_one, List.getElem?_eq_getElem (by omega), List.getD_eq_getElem?_getD, List.getElem?_eq_getElem (by omega)]; rfl
  rw [e, val_snoc]
theorem val_take_lt (s : Str) (k : Nat) (h : k ≤ (dgs s).length) : val (s.take k) < 10 ^ k := by
  have hl := dgs_le s
  have := val_lt (s.take k) (fun b hb => ?_)
  · rwa [List.length_take, Nat.min_eq_left (by omega)] at this
  · refine dgs_all s b ?_
    rw [dgs_take]
    exact List.mem_of_mem_take (i := k) (by rw [List.take_take, Nat.min_eq_left h]; exact hb)
/-- The digits of a number behind the first k steps. -/
def tail10 (n : Nat) : Nat → Str
  | 0 => [UInt8.ofNat (48 + n % 10)]
  | k + 1 => UInt8.ofNat (48 + n / 10 ^ (k + 1) % 10) :: tail10 n k
theorem dec_tail (n : Nat) : ∀ (k : Nat), 10 ^ k ≤ n ∨ k = 0 → n / 10 ^ k ≤ 9 → Lib.decDigits n = tail10 n k := by
  intro k h hn
  have gen : ∀ (k n : Nat), 10 ^ k ≤ n ∨ k = 0 → n / 10 ^ k ≤ 9 → Lib.decDigits n = tail10 n k := by
    intro k
    induction k with
    | zero =>
      intro n _ hn
      simp only [Nat.pow_zero, Nat.div_one] at hn
      rw [Lib.decDigits_one (by omega)]
      show _ = [UInt8.ofNat (48 + n % 10)]
      rw [Nat.mod_eq_of_lt (by omega)]
    | succ k ih =>
      intro n h hn
      have hp : 10 ^ (k + 1) ≤ n := by rcases h with h | h; exact h; cases h
      have h10 : 10 ≤ n := Nat.le_trans (by rw [Nat.pow_succ]; have := Nat.one_le_pow k 10 (by omega); omega) hp
      have e : n / 10 / 10 ^ k = n / 10 ^ (k + 1) := by rw [Nat.div_div_eq_div_mul, Nat.pow_succ, Nat.mul_comm]
      have ih' := ih (n / 10) (by
        left; rw [Nat.le_div_iff_mul_le (by omega)]; rw [Nat.pow_succ] at hp; exact hp) (by rw [e]; exact hn)
      rw [Lib.decDigits, dif_neg (by omega), ih']
      have : ∀ j, tail10 (n / 10) j ++ [UInt8.ofNat (48 + n % 10)] = tail10 n (j + 1) := by
        intro j
        induction j with
        | zero => simp [tail10]
        | succ j ihj =>
          show UInt8.ofNat (48 + n / 10 / 10 ^ (j + 1) % 10) :: tail10 (n / 10) j ++ _ = UInt8.ofNat (48 + n / 10 ^ (j + 2) % 10) :: tail10 n (j + 1)
          rw [List.cons_append, ihj, show n / 10 / 10 ^ (j + 1) = n / 10 ^ (j + 2) by rw [Nat.div_div_eq_div_mul, Nat.pow_succ 10 (j + 1), Nat.mul_comm]]
      exact this k
  exact gen k n h hn
end Go.VM


namespace Go.Proofs.YtihfbefagcdpmaaDoor.w
open Go Go.VM
set_option maxRecDepth 20000
set_option maxHeartbeats 0
set_option pp.deepTerms false
def c_pandectref03_digits : VC := (.seq (.region [⟨(some 2), (.mv (.c (.int .i64 0))), none⟩] false) (.seq (.region [⟨(some 3), (.mv (.c (.int .i64 0))), none⟩] false) (.seq (.block 0 (.loop (.seq (.seq (.region [⟨(some 4), (.mv (.t 3)), none⟩, ⟨(some 5), (.mv (.t 0)), none⟩, ⟨(some 6), (.len true (.t 5)), none⟩, ⟨(some 7), (.bin .lss (.t 4) (.t 6)), none⟩, ⟨(some 8), (.mv (.t 7)), none⟩, ⟨(some 9), (.mv (.t 0)), (some (8, true))⟩, ⟨(some 10), (.mv (.t 3)), (some (8, true))⟩, ⟨(some 11), (.idx (.t 9) (.t 10)), (some (8, true))⟩, ⟨(some 12), (.bin .geq (.t 11) (.c (.int .u8 48))), (some (8, true))⟩, ⟨(some 13), (.pick (.t 8) (.t 12) (.c (.bool false))), none⟩, ⟨(some 14), (.mv (.t 13)), none⟩, ⟨(some 15), (.mv (.t 0)), (some (14, true))⟩, ⟨(some 16), (.mv (.t 3)), (some (14, true))⟩, ⟨(some 17), (.idx (.t 15) (.t 16)), (some (14, true))⟩, ⟨(some 18), (.bin .leq (.t 17) (.c (.int .u8 57))), (some (14, true))⟩, ⟨(some 19), (.pick (.t 14) (.t 18) (.c (.bool false))), none⟩] false) (.cond (.t 19) .skip (.exit 0))) (.block 1 (.region [⟨(some 20), (.mv (.t 3)), none⟩, ⟨(some 21), (.bin .add (.t 20) (.c (.int .i64 1))), none⟩, ⟨(some 3), (.mv (.t 21)), none⟩] false))))) (.seq (.region [⟨(some 22), (.mv (.t 3)), none⟩, ⟨(some 2), (.mv (.t 22)), none⟩] false) .ret))))
def c_pandectref03_May : VC := (.seq (.region [⟨(some 2), (.mv (.c (.bool false))), none⟩] false) (.seq (.region [⟨(some 5), (.mv (.t 0)), none⟩, ⟨(some 6), (.call 30 [(.t 5)]), none⟩, ⟨(some 3), (.mv (.t 6)), none⟩] false) (.seq (.seq (.region [⟨(some 7), (.mv (.t 3)), none⟩, ⟨(some 8), (.bin .lss (.t 7) (.c (.int .i64 1))), none⟩, ⟨(some 9), (.mv (.t 8)), none⟩, ⟨(some 10), (.mv (.t 3)), (some (9, false))⟩, ⟨(some 11), (.bin .gtr (.t 10) (.c (.int .i64 4))), (some (9, false))⟩, ⟨(some 12), (.pick (.t 9) (.c (.bool true)) (.t 11)), none⟩, ⟨(some 13), (.mv (.t 12)), none⟩, ⟨(some 14), (.mv (.t 0)), (some (13, false))⟩, ⟨(some 15), (.idx (.t 14) (.c (.int .i64 0))), (some (13, false))⟩, ⟨(some 16), (.bin .eql (.t 15) (.c (.int .u8 48))), (some (13, false))⟩, ⟨(some 17), (.pick (.t 13) (.c (.bool true)) (.t 16)), none⟩, ⟨(some 18), (.mv (.t 17)), none⟩, ⟨(some 19), (.mv (.t 0)), (some (18, false))⟩, ⟨(some 20), (.len true (.t 19)), (some (18, false))⟩, ⟨(some 21), (.mv (.t 3)), (some (18, false))⟩, ⟨(some 22), (.bin .sub (.t 20) (.t 21)), (some (18, false))⟩, ⟨(some 23), (.bin .gtr (.t 22) (.c (.int .i64 3))), (some (18, false))⟩, ⟨(some 24), (.pick (.t 18) (.c (.bool true)) (.t 23)), none⟩] false) (.cond (.t 24) (.seq (.region [⟨(some 2), (.mv (.c (.bool false))), none⟩] false) .ret) .skip)) (.seq (.seq (.region [⟨(some 25), (.mv (.t 3)), none⟩, ⟨(some 4), (.mv (.t 25)), none⟩] false) (.block 0 (.loop (.seq (.seq (.region [⟨(some 26), (.mv (.t 4)), none⟩, ⟨(some 27), (.mv (.t 0)), none⟩, ⟨(some 28), (.len true (.t 27)), none⟩, ⟨(some 29), (.bin .lss (.t 26) (.t 28)), none⟩] false) (.cond (.t 29) .skip (.exit 0))) (.seq (.block 1 (.seq (.region [⟨(some 32), (.mv (.t 0)), none⟩, ⟨(some 33), (.mv (.t 4)), none⟩, ⟨(some 34), (.idx (.t 32) (.t 33)), none⟩, ⟨(some 35), (.bin .lss (.t 34) (.c (.int .u8 65))), none⟩, ⟨(some 36), (.mv (.t 35)), none⟩, ⟨(some 37), (.mv (.t 0)), (some (36, false))⟩, ⟨(some 38), (.mv (.t 4)), (some (36, false))⟩, ⟨(some 39), (.idx (.t 37) (.t 38)), (some (36, false))⟩, ⟨(some 40), (.bin .gtr (.t 39) (.c (.int .u8 90))), (some (36, false))⟩, ⟨(some 41), (.pick (.t 36) (.c (.bool true)) (.t 40)), none⟩] false) (.cond (.t 41) (.seq (.region [⟨(some 2), (.mv (.c (.bool false))), none⟩] false) .ret) .skip))) (.region [⟨(some 30), (.mv (.t 4)), none⟩, ⟨(some 31), (.bin .add (.t 30) (.c (.int .i64 1))), none⟩, ⟨(some 4), (.mv (.t 31)), none⟩] false)))))) (.seq (.region [⟨(some 2), (.mv (.c (.bool true))), none⟩] false) .ret)))))
def c_pandectref03_Split : VC := (.seq (.region [⟨(some 2), (.mv (.c (.int .i64 0))), none⟩, ⟨(some 3), (.mv (.c (.str []))), none⟩] false) (.seq (.seq (.region [⟨(some 7), (.mv (.t 0)), none⟩, ⟨(some 8), (.call 14 [(.t 7)]), none⟩, ⟨(some 9), (.un .not (.t 8)), none⟩] false) (.cond (.t 9) (.seq (.region [⟨(some 2), (.mv (.c (.int .i64 0))), none⟩, ⟨(some 3), (.mv (.c (.str []))), none⟩] false) .ret) .skip)) (.seq (.region [⟨(some 4), (.mv (.c (.int .i64 0))), none⟩] false) (.seq (.region [⟨(some 10), (.mv (.t 0)), none⟩, ⟨(some 11), (.call 30 [(.t 10)]), none⟩, ⟨(some 5), (.mv (.t 11)), none⟩] false) (.seq (.seq (.region [⟨(some 6), (.mv (.c (.int .i64 0))), none⟩] false) (.block 0 (.loop (.seq (.seq (.region [⟨(some 12), (.mv (.t 6)), none⟩, ⟨(some 13), (.mv (.t 5)), none⟩, ⟨(some 14), (.bin .lss (.t 12) (.t 13)), none⟩] false) (.cond (.t 14) .skip (.exit 0))) (.seq (.block 1 (.region [⟨(some 17), (.mv (.t 4)), none⟩, ⟨(some 18), (.bin .mul (.c (.int .i64 10)) (.t 17)), none⟩, ⟨(some 19), (.mv (.t 0)), none⟩, ⟨(some 20), (.mv (.t 6)), none⟩, ⟨(some 21), (.idx (.t 19) (.t 20)), none⟩, ⟨(some 22), (.bin .sub (.t 21) (.c (.int .u8 48))), none⟩, ⟨(some 23), (.conv .i64 (.t 22)), none⟩, ⟨(some 24), (.bin .add (.t 18) (.t 23)), none⟩, ⟨(some 4), (.mv (.t 24)), none⟩] false)) (.region [⟨(some 15), (.mv (.t 6)), none⟩, ⟨(some 16), (.bin .add (.t 15) (.c (.int .i64 1))), none⟩, ⟨(some 6), (.mv (.t 16)), none⟩] false)))))) (.seq (.region [⟨(some 25), (.mv (.t 4)), none⟩, ⟨(some 26), (.mv (.t 0)), none⟩, ⟨(some 27), (.mv (.t 5)), none⟩, ⟨(some 28), (.slice true 0 (.t 26) (some (.t 27)) none), none⟩, ⟨(some 2), (.mv (.t 25)), none⟩, ⟨(some 3), (.mv (.t 28)), none⟩] true) .ret))))))
def c_pandectref03_Compare : VC := (.seq (.region [⟨(some 4), (.mv (.c (.int .i64 0))), none⟩] false) (.seq (.seq (.region [⟨(some 10), (.mv (.t 0)), none⟩, ⟨(some 11), (.mv (.t 1)), none⟩, ⟨(some 12), (.bin .eql (.t 10) (.t 11)), none⟩] false) (.cond (.t 12) (.seq (.region [⟨(some 4), (.mv (.c (.int .i64 0))), none⟩] false) .ret) .skip)) (.seq (.region [⟨(some 13), (.mv (.t 0)), none⟩, ⟨(some 14), (.mv (.t 1)), none⟩, ⟨(some 15), (.bin .lss (.t 13) (.t 14)), none⟩, ⟨(some 5), (.mv (.t 15)), none⟩] false) (.seq (.seq (.region [⟨(some 16), (.mv (.t 0)), none⟩, ⟨(some 17), (.call 14 [(.t 16)]), none⟩, ⟨(some 18), (.mv (.t 17)), none⟩, ⟨(some 19), (.mv (.t 1)), (some (18, true))⟩, ⟨(some 20), (.call 14 [(.t 19)]), (some (18, true))⟩, ⟨(some 21), (.pick (.t 18) (.t 20) (.c (.bool false))), none⟩] false) (.cond (.t 21) (.seq (.region [⟨(some 23), (.mv (.t 0)), none⟩, ⟨(some 24), (.call 12 [(.t 23)]), none⟩, ⟨(some 22), (.mv (.t 24)), none⟩, ⟨(some 25), (.ext (.t 22) 0), none⟩, ⟨(some 26), (.ext (.t 22) 1), none⟩, ⟨(some 6), (.mv (.t 25)), none⟩, ⟨(some 7), (.mv (.t 26)), none⟩] false) (.seq (.region [⟨(some 28), (.mv (.t 1)), none⟩, ⟨(some 29), (.call 12 [(.t 28)]), none⟩, ⟨(some 27), (.mv (.t 29)), none⟩, ⟨(some 30), (.ext (.t 27) 0), none⟩, ⟨(some 31), (.ext (.t 27) 1), none⟩, ⟨(some 8), (.mv (.t 30)), none⟩, ⟨(some 9), (.mv (.t 31)), none⟩] false) (.region [⟨(some 32), (.mv (.t 6)), none⟩, ⟨(some 33), (.mv (.t 8)), none⟩, ⟨(some 34), (.bin .lss (.t 32) (.t 33)), none⟩, ⟨(some 35), (.mv (.t 34)), none⟩, ⟨(some 36), (.mv (.t 6)), (some (35, false))⟩, ⟨(some 37), (.mv (.t 8)), (some (35, false))⟩, ⟨(some 38), (.bin .eql (.t 36) (.t 37)), (some (35, false))⟩, ⟨(some 39), (.mv (.t 38)), (some (35, false))⟩, ⟨(some 40), (.mv (.t 7)), (some (39, true))⟩, ⟨(some 41), (.mv (.t 9)), (some (39, true))⟩, ⟨(some 42), (.bin .lss (.t 40) (.t 41)), (some (39, true))⟩, ⟨(some 43), (.pick (.t 39) (.t 42) (.c (.bool false))), (some (35, false))⟩, ⟨(some 44), (.pick (.t 35) (.c (.bool true)) (.t 43)), none⟩, ⟨(some 5), (.mv (.t 44)), none⟩] false))) (.seq (.region [⟨(some 45), (.mv (.t 0)), none⟩, ⟨(some 46), (.call 14 [(.t 45)]), none⟩, ⟨(some 47), (.mv (.t 1)), none⟩, ⟨(some 48), (.call 14 [(.t 47)]), none⟩, ⟨(some 49), (.binb .neq (.t 46) (.t 48)), none⟩] false) (.cond (.t 49) (.region [⟨(some 50), (.mv (.t 0)), none⟩, ⟨(some 51), (.call 14 [(.t 50)]), none⟩, ⟨(some 5), (.mv (.t 51)), none⟩] false) .skip)))) (.seq (.seq (.region [⟨(some 52), (.mv (.t 5)), none⟩] false) (.cond (.t 52) (.seq (.region [⟨(some 4), (.mv (.c (.int .i64 (-1)))), none⟩] false) .ret) .skip)) (.seq (.region [⟨(some 4), (.mv (.c (.int .i64 1))), none⟩] false) .ret))))))
def c_pandectref03_text : VC := (.seq (.region [⟨(some 4), (.mv (.c (.str []))), none⟩] false) (.seq (.region [⟨(some 6), (.mv (.t 0)), none⟩, ⟨(some 7), (.bin .rem (.t 6) (.c (.int .i64 10))), none⟩, ⟨(some 8), (.bin .add (.c (.int .i64 48)) (.t 7)), none⟩, ⟨(some 9), (.conv .u8 (.t 8)), none⟩, ⟨(some 10), (.bslice 1 1 [(.int .u8 0)] [(0, (.t 9))]), none⟩, ⟨(some 11), (.px .b2s [(.t 10)]), none⟩, ⟨(some 5), (.mv (.t 11)), none⟩] false) (.seq (.block 0 (.loop (.seq (.seq (.region [⟨(some 12), (.mv (.t 0)), none⟩, ⟨(some 13), (.bin .gtr (.t 12) (.c (.int .i64 9))), none⟩] false) (.cond (.t 13) .skip (.exit 0))) (.block 1 (.seq (.region [⟨(some 14), (.mv (.t 0)), none⟩, ⟨(some 15), (.bin .quo (.t 14) (.c (.int .i64 10))), none⟩, ⟨(some 0), (.mv (.t 15)), none⟩] false) (.region [⟨(some 16), (.mv (.t 0)), none⟩, ⟨(some 17), (.bin .rem (.t 16) (.c (.int .i64 10))), none⟩, ⟨(some 18), (.bin .add (.c (.int .i64 48)) (.t 17)), none⟩, ⟨(some 19), (.conv .u8 (.t 18)), none⟩, ⟨(some 20), (.bslice 1 1 [(.int .u8 0)] [(0, (.t 19))]), none⟩, ⟨(some 21), (.px .b2s [(.t 20)]), none⟩, ⟨(some 22), (.mv (.t 5)), none⟩, ⟨(some 23), (.bin .add (.t 21) (.t 22)), none⟩, ⟨(some 5), (.mv (.t 23)), none⟩] false)))))) (.seq (.region [⟨(some 24), (.mv (.t 5)), none⟩, ⟨(some 25), (.mv (.t 1)), none⟩, ⟨(some 26), (.bin .add (.t 24) (.t 25)), none⟩, ⟨(some 4), (.mv (.t 26)), none⟩] false) .ret))))
theorem sp_pandectref03_digits (s : Str) (hl : s.length ≤ 1000000) : PCall Tryd.prog 30 [.str s] (pI (dgs s).length) := by
  have hdl := dgs_le s
  refine PCall_intro ?_ (cI _) (by simp only [ClosedL, List.mem_cons, List.not_mem_nil, or_false, forall_eq_or_imp, forall_eq, false_implies, implies_true]; repeat' (first | exact cI _ | exact cS _ | exact cB _ | exact closed_fn0 _ | exact closed_nilsl | exact closed_agg (Un.closed _) | exact closed_agg (It.closed _) | exact closed_agg (EI.closed _) | exact closed_agg (Ac.closed _) | exact closed_agg (Wd.closed _) | exact closed_agg (St.closed _) | exact closed_agg (Sta.closed _) | exact closed_eis _ | exact closed_acs _ | exact closed_gzs _ | exact Closed.of_scalar (scalar_int _ _) | exact closed_ro (Ac.closed _) | exact closed_ro (Gz.closed _) | exact closed_agg (Gz.closed _) | exact closed_strs _ | exact closed_map (fun w _ => Wd.closed w) | exact closed_map (fun w _ => St.closed w) | exact closed_map (fun w _ => Un.closed w) | exact closed_map (fun w _ => It.closed w) | exact closed_sc _ | exact closed_sps _ | exact closed_agg (Sp.closed _) | exact closed_ro (EI.closed _) | exact closed_ro (Sta.closed _) | exact closed_ro (It.closed _) | exact closed_ro (by simp only [List.mem_cons, List.not_mem_nil, or_false, forall_eq]; first | exact cI _ | exact cS _ | exact closed_eis _) | refine And.intro ?_ ?_))
  refine ACall_fn (vc := c_pandectref03_digits) (ts := [.t 2]) Go.Proofs.Tryd.func30 (by kernel_rfl) rfl rfl (Nat.le_of_ble_eq_true rfl) (by kernel_rfl) ?_
  unfold c_pandectref03_digits
  refine VW_seq (VW_region [0] ?_)
  simp only [OpsW_nil, OpsW_n, StepW, pok, pval, VA.ev, Env.get, Env.put, Env.keep, argEnv, thenQ, Heap.nil, ite_true, ite_false, true_and, reduceCtorEq]
  refine VW_seq (VW_region [0, 3] ?_)
  simp only [OpsW_nil, OpsW_n, StepW, pok, pval, VA.ev, Env.get, Env.put, Env.keep, thenQ, ite_true, ite_false, true_and, reduceCtorEq]
  refine VW_seq ?_
  refine VW_block ?_
  refine VW_loop (σ := { k : Nat // k ≤ (dgs s).length }) (fun x => ([(0, .str s), (3, pI x.1)], ⟨[], 0⟩)) (fun x => s.length - x.1) ⟨0, Nat.zero_le _⟩ ?_ ?_ ?_
  · simp only [Env.get, Env.le, ite_true, ite_false, true_and, and_true, reduceCtorEq]
    rfl
  · simp only [Heap.le, HL.le, Nat.le_refl, and_true]
  rintro ⟨k, hk⟩
  simp only []
  refine VW_seq ?_
  refine VW_seqE (σ := { b : Bool // b = decide (k < (dgs s).length) }) [0, 3, 19] (fun b => [(0, .str s), (3, pI k), (19, .bool b.1)]) ?_ ?_
  · by_cases c1 : k < s.length
    · have e1 : decide ((k : Int) < (s.length : Int)) = true := by simp; omega
      by_cases c2 : 48 ≤ (s.getD k 0).toNat
      · have e2 : decide ((48 : Int) ≤ ((s.getD k 0).toNat : Int)) = true := by simp only [decide_eq_true_eq]; omega
        simp only [OpsW_nil, OpsW_n, OpsW_y, StepW, pok, pval, VA.ev, Env.get, Env.put, Env.keep, pickV, isBool, intV, binV, binOk, isInt, numOf, lenV, idxV, idxOk, lenOk, Nat.succ_ne_self, Env.le, Nat.reduceEqDiff, ite_true, ite_false, true_and, and_true, reduceCtorEq, Int.toNat_natCast, e1, e2]
        repeat (with_reducible refine And.intro ?_ ?_; first | omega | (with_reducible constructor <;> omega) | exact False.elim | exact True.intro)
        refine ⟨⟨decide (((s.getD k 0).toNat : Int) ≤ 57), ?_⟩, rfl⟩
        · by_cases c : k < (dgs s).length
          · have := dgs_at c
            rw [decide_eq_true c, decide_eq_true_eq]; omega
          · obtain rfl : k = (dgs s).length := by omega
            have := dgs_end c1
            rw [decide_eq_false c, decide_eq_false_iff_not]; omega
      · have e2 : decide ((48 : Int) ≤ ((s.getD k 0).toNat : Int)) = false := by simp only [decide_eq_false_iff_not]; omega
        have c : ¬ k < (dgs s).length := fun c => c2 (dgs_at c).1
        simp only [OpsW_nil, OpsW_n, OpsW_y, OpsW_xt, StepW, pok, pval, VA.ev, Env.get, Env.put, Env.keep, pickV, isBool, intV, binV, binOk, isInt, numOf, lenV, idxV, idxOk, lenOk, Nat.succ_ne_self, Env.le, Nat.reduceEqDiff, Bool.false_eq_true, ite_true, ite_false, true_and, and_true, reduceCtorEq, Int.toNat_natCast, e1, e2]
        repeat (with_reducible refine And.intro ?_ ?_; first | omega | (with_reducible constructor <;> omega) | exact False.elim | exact True.intro)
        exact ⟨⟨false, (decide_eq_false c).symm⟩, rfl⟩
    · have e1 : decide ((k : Int) < (s.length : Int)) = false := by simp; omega
      simp only [OpsW_nil, OpsW_n, OpsW_xt, StepW, pok, pval, VA.ev, Env.get, Env.put, Env.keep, pickV, isBool, intV, binV, binOk, lenV, lenOk, Nat.succ_ne_self, Env.le, Nat.reduceEqDiff, Bool.false_eq_true, ite_true, ite_false, true_and, and_true, reduceCtorEq, e1]
      exact ⟨⟨false, (decide_eq_false (by omega)).symm⟩, rfl⟩
  rintro ⟨b, hb⟩
  simp only []
  refine VW_cond rfl (fun h1 => ?_) (fun h1 => ?_)
  · have c : k < (dgs s).length := by rw [h1] at hb; exact of_decide_eq_true hb.symm
    refine VW_skip ?_
    try simp only [thenQ, Heap.le, HL.le, Env.le, and_true]
    refine VW_block ?_
    refine VW_region [0, 3] ?_
    simp only [OpsW_nil, OpsW_n, StepW, pok, pval, VA.ev, Env.get, Env.put, Env.keep, thenQ, blockQ, intV, binV, binOk, Nat.le_refl, Nat.reduceEqDiff, ite_true, ite_false, true_and, reduceCtorEq, w64 (n := (k : Int) + 1) (by omega) (by omega)]
    refine ⟨⟨k + 1, c⟩, ?_, ?_⟩
    · simp
    · simp only []; omega
  · have c : ¬ k < (dgs s).length := by rw [h1] at hb; exact of_decide_eq_false hb.symm
    obtain rfl : k = (dgs s).length := by omega
    refine VW_exit ?_
    try simp only [thenQ, blockQ, retQ, ite_true]
    refine VW_seq (VW_region [2] ?_)
    simp only [OpsW_nil, OpsW_n, StepW, pok, pval, VA.ev, Env.get, Env.put, Env.keep, thenQ, Nat.succ_ne_self, Nat.reduceEqDiff, ite_true, ite_false, true_and, reduceCtorEq]
    refine VW_ret ?_
    try simp only [Env.get, retQ, resV, resOk, RS.ev, RS.ok, ite_true, true_and, and_true]
    exact View.refl _ _
theorem caps_len' (s : Str) : (caps s).length = s.length - (dgs s).length := by have := dgs_len s; omega
/-- What 'May' asks ahead of the capitals. -/
def mayA (s : Str) : Bool := decide (1 ≤ (dgs s).length) && decide ((dgs s).length ≤ 4) && (s.head? != some 48) && decide ((caps s).length ≤ 3)
theorem may_A (s : Str) : may s = (mayA s && (caps s).all isU) := rfl
theorem sp_pandectref03_May (s : Str) (hl : s.length ≤ 1000000) : PCall Tryd.prog 14 [.str s] (.bool (may s)) := by
  have hdl := dgs_le s
  have hcl := caps_len' s
  refine PCall_intro ?_ (cB _) (by simp only [ClosedL, List.mem_cons, List.not_mem_nil, or_false, forall_eq_or_imp, forall_eq, false_implies, implies_true]; repeat' (first | exact cI _ | exact cS _ | exact cB _ | exact closed_fn0 _ | exact closed_nilsl | exact closed_agg (Un.closed _) | exact closed_agg (It.closed _) | exact closed_agg (EI.closed _) | exact closed_agg (Ac.closed _) | exact closed_agg (Wd.closed _) | exact closed_agg (St.closed _) | exact closed_agg (Sta.closed _) | exact closed_eis _ | exact closed_acs _ | exact closed_gzs _ | exact Closed.of_scalar (scalar_int _ _) | exact closed_ro (Ac.closed _) | exact closed_ro (Gz.closed _) | exact closed_agg (Gz.closed _) | exact closed_strs _ | exact closed_map (fun w _ => Wd.closed w) | exact closed_map (fun w _ => St.closed w) | exact closed_map (fun w _ => Un.closed w) | exact closed_map (fun w _ => It.closed w) | exact closed_sc _ | exact closed_sps _ | exact closed_agg (Sp.closed _) | exact closed_ro (EI.closed _) | exact closed_ro (Sta.closed _) | exact closed_ro (It.closed _) | exact closed_ro (by simp only [List.mem_cons, List.not_mem_nil, or_false, forall_eq]; first | exact cI _ | exact cS _ | exact closed_eis _) | refine And.intro ?_ ?_))
  refine ACall_fn (vc := c_pandectref03_May) (ts := [.t 2]) Go.Proofs.Tryd.func14 (by kernel_rfl) rfl rfl (Nat.le_of_ble_eq_true rfl) (by kernel_rfl) ?_
  unfold c_pandectref03_May
  refine VW_seq (VW_region [0] ?_)
  simp only [OpsW_nil, OpsW_n, StepW, pok, pval, VA.ev, Env.get, Env.put, Env.keep, argEnv, thenQ, Heap.nil, ite_true, ite_false, true_and, reduceCtorEq]
  refine VW_seq (VW_region [0, 3] ?_)
  simp only [OpsW_nil, OpsW_n, StepW, pok, pval, VA.ev, Env.get, Env.put, Env.keep, thenQ, List.map, Nat.reduceEqDiff, ite_true, ite_false, true_and, reduceCtorEq]
  refine ACall_p (sp_pandectref03_digits s hl) ?_
  skip
  refine VW_seq ?_
  refine VW_seqE (σ := { b : Bool // b = !(mayA s) }) [0, 3, 24] (fun b => [(0, .str s), (3, pI (dgs s).length), (24, .bool b.1)]) ?_ ?_
  · by_cases c1 : (dgs s).length < 1
    · have e1 : decide (((dgs s).length : Int) < 1) = true := by simp only [decide_eq_true_eq]; omega
      simp only [OpsW_nil, OpsW_n, OpsW_xf, StepW, pok, pval, VA.ev, Env.get, Env.put, Env.keep, pickV, isBool, intV, binV, binOk, Nat.succ_ne_self, Env.le, Nat.reduceEqDiff, ite_true, ite_false, true_and, and_true, reduceCtorEq, e1]
      exact ⟨⟨true, by unfold mayA; rw [decide_eq_false (show ¬ 1 ≤ (dgs s).length by omega)]; rfl⟩, rfl⟩
    have e1 : decide (((dgs s).length : Int) < 1) = false := by simp only [decide_eq_false_iff_not]; omega
    by_cases c2 : (dgs s).length > 4
    · have e2 : decide ((4 : Int) < ((dgs s).length : Int)) = true := by simp only [decide_eq_true_eq]; omega
      simp only [OpsW_nil, OpsW_n, OpsW_y, OpsW_xf, StepW, pok, pval, VA.ev, Env.get, Env.put, Env.keep, pickV, isBool, intV, binV, binOk, Nat.succ_ne_self, Env.le, Nat.reduceEqDiff, Bool.false_eq_true, ite_true, ite_false, true_and, and_true, reduceCtorEq, e1, e2]
      exact ⟨⟨true, by unfold mayA; rw [decide_eq_false (show ¬ (dgs s).length ≤ 4 by omega), Bool.and_false]; rfl⟩, rfl⟩
    have e2 : decide ((4 : Int) < ((dgs s).length : Int)) = false := by simp only [decide_eq_false_iff_not]; omega
    have hne : s ≠ [] := by intro e; subst e; exact c1 (by simp [dgs])
    have hh := head_getD hne
    have hp : 0 < s.length := by cases s with | nil => exact absurd rfl hne | cons => simp
    by_cases c3 : (s.getD 0 0).toNat = 48
    · have e3 : (((s.getD 0 0).toNat : Int) == 48) = true := by simp only [beq_iff_eq]; omega
      simp only [OpsW_nil, OpsW_n, OpsW_y, OpsW_xf, StepW, pok, pval, VA.ev, Env.get, Env.put, Env.keep, pickV, isBool, intV, binV, binOk, isInt, numOf, lenV, idxV, idxOk, Nat.succ_ne_self, Env.le, Nat.reduceEqDiff, Bool.false_eq_true, ite_true, ite_false, true_and, and_true, reduceCtorEq, e1, e2, e3, Int.toNat_zero]
      repeat (with_reducible refine And.intro ?_ ?_; first | omega | (with_reducible constructor <;> omega) | exact False.elim | exact True.intro)
      refine ⟨⟨true, ?_⟩, rfl⟩
      rw [decide_eq_true c3] at hh
      simp only [mayA, hh]; simp
    have e3 : (((s.getD 0 0).toNat : Int) == 48) = false := by rw [beq_eq_false_iff_ne]; omega
    simp only [OpsW_nil, OpsW_n, OpsW_y, StepW, pok, pval, VA.ev, Env.get, Env.put, Env.keep, pickV, isBool, intV, binV, binOk, isInt, numOf, lenV, idxV, idxOk, lenOk, Nat.succ_ne_self, Env.le, Nat.reduceEqDiff, Bool.false_eq_true, ite_true, ite_false, true_and, and_true, reduceCtorEq, e1, e2, e3, Int.toNat_zero, w64 (n := (s.length : Int) - (dgs s).length) (by omega) (by omega)]
    repeat (with_reducible refine And.intro ?_ ?_; first | omega | (with_reducible constructor <;> omega) | exact False.elim | exact True.intro)
    refine ⟨⟨decide ((3 : Int) < (s.length : Int) - (dgs s).length), ?_⟩, rfl⟩
    rw [decide_eq_false c3] at hh
    simp only [mayA, hh, hcl]
    rw [decide_eq_true (show 1 ≤ (dgs s).length by omega), decide_eq_true (show (dgs s).length ≤ 4 by omega)]
    simp only [Bool.true_and, Bool.not_false]
    by_cases c4 : s.length - (dgs s).length ≤ 3
    · rw [decide_eq_true c4]; simp only [Bool.not_true, decide_eq_false_iff_not]; omega
    · rw [decide_eq_false c4]; simp only [Bool.not_false, decide_eq_true_eq]; omega
  rintro ⟨b, hb⟩
  simp only []
  refine VW_cond rfl (fun h1 => ?_) (fun h1 => ?_)
  · rw [h1] at hb
    refine VW_seq (VW_region [2] ?_)
    simp only [OpsW_nil, OpsW_n, StepW, pok, pval, VA.ev, Env.get, Env.put, Env.keep, thenQ, Nat.succ_ne_self, Nat.reduceEqDiff, ite_true, ite_false, true_and, reduceCtorEq]
    refine VW_ret ?_
    try simp only [Env.get, thenQ, retQ, resV, resOk, RS.ev, RS.ok, ite_true, true_and, and_true]
    have e : may s = false := by rw [may_A, show mayA s = false by cases h : mayA s; rfl; rw [h] at hb; cases hb]; rfl
    rw [e]; exact View.refl _ _
  rw [h1] at hb
  have hA : mayA s = true := by cases h : mayA s; rw [h] at hb; cases hb; rfl
  refine VW_skip ?_
  try simp only [thenQ]
  refine VW_seq ?_
  refine VW_seq (VW_region [0, 4] ?_)
  simp only [OpsW_nil, OpsW_n, StepW, pok, pval, VA.ev, Env.get, Env.put, Env.keep, thenQ, Nat.reduceEqDiff, ite_true, ite_false, true_and, reduceCtorEq]
  refine VW_block ?_
  refine VW_loop (σ := { k : Nat // k ≤ (caps s).length ∧ ∀ j, j < k → isU ((caps s).getD j 0) = true }) (fun x => ([(0, .str s), (4, pI ((dgs s).length + x.1 : Nat))], ⟨[], 0⟩)) (fun x => (caps s).length - x.1) ⟨0, Nat.zero_le _, fun j h => by cases h⟩ ?_ ?_ ?_
  · simp only [Env.get, Env.le, ite_true, ite_false, and_true, reduceCtorEq, Nat.add_zero]
  · simp only [Heap.le, HL.le, Nat.le_refl, and_true]
  rintro ⟨k, hk, hall⟩
  simp only []
  have hgd := getD_caps s k
  refine VW_seq ?_
  refine VW_seq (VW_region [0, 4, 29] ?_)
  simp only [OpsW_nil, OpsW_n, StepW, pok, pval, VA.ev, Env.get, Env.put, Env.keep, thenQ, intV, binV, binOk, lenV, lenOk, Heap.le, HL.le, Nat.succ_ne_self, Env.le, Nat.reduceEqDiff, ite_true, ite_false, true_and, and_true, reduceCtorEq]
  refine VW_cond rfl (fun h2 => ?_) (fun h2 => ?_)
  · have hk' : k < (caps s).length := by simp only [decide_eq_true_eq] at h2; omega
    refine VW_skip ?_
    try simp only [thenQ]
    refine VW_seq ?_
    refine VW_block ?_
    have hsk : (dgs s).length + k < s.length := by omega
    refine VW_seqE (σ := { b : Bool // b = !(isU ((caps s).getD k 0)) }) [0, 4, 41] (fun b => [(0, .str s), (4, pI ((dgs s).length + k : Nat)), (41, .bool b.1)]) ?_ ?_
    · rw [hgd]
      by_cases c1 : (s.getD ((dgs s).length + k) 0).toNat < 65
      · have e1 : decide (((s.getD ((dgs s).length + k) 0).toNat : Int) < 65) = true := by simp only [decide_eq_true_eq]; omega
        simp only [OpsW_nil, OpsW_n, OpsW_xf, StepW, pok, pval, VA.ev, Env.get, Env.put, Env.keep, pickV, isBool, intV, binV, binOk, isInt, numOf, lenV, idxV, idxOk, Nat.succ_ne_self, Env.le, Nat.reduceEqDiff, ite_true, ite_false, true_and, and_true, reduceCtorEq, Int.toNat_natCast, e1]
        repeat (with_reducible refine And.intro ?_ ?_; first | omega | (with_reducible constructor <;> omega) | exact False.elim | exact True.intro)
        exact ⟨⟨true, by simp only [isU]; rw [decide_eq_false (show ¬ 65 ≤ (s.getD ((dgs s).length + k) 0).toNat by omega)]; rfl⟩, rfl⟩
      · have e1 : decide (((s.getD ((dgs s).length + k) 0).toNat : Int) < 65) = false := by simp only [decide_eq_false_iff_not]; omega
        simp only [OpsW_nil, OpsW_n, OpsW_y, StepW, pok, pval, VA.ev, Env.get, Env.put, Env.keep, pickV, isBool, intV, binV, binOk, isInt, numOf, lenV, idxV, idxOk, Nat.succ_ne_self, Env.le, Nat.reduceEqDiff, Bool.false_eq_true, ite_true, ite_false, true_and, and_true, reduceCtorEq, Int.toNat_natCast, e1]
        repeat (with_reducible refine And.intro ?_ ?_; first | omega | (with_reducible constructor <;> omega) | exact False.elim | exact True.intro)
        refine ⟨⟨decide ((90 : Int) < ((s.getD ((dgs s).length + k) 0).toNat : Int)), ?_⟩, rfl⟩
        simp only [isU]
        rw [decide_eq_true (show 65 ≤ (s.getD ((dgs s).length + k) 0).toNat by omega), Bool.true_and]
        by_cases c2 : (s.getD ((dgs s).length + k) 0).toNat ≤ 90
        · rw [decide_eq_true c2, decide_eq_false (by omega)]; rfl
        · rw [decide_eq_false c2, decide_eq_true (by omega)]; rfl
    rintro ⟨b, hb2⟩
    simp only []
    refine VW_cond rfl (fun h3 => ?_) (fun h3 => ?_)
    · rw [h3] at hb2
      refine VW_seq (VW_region [2] ?_)
      simp only [OpsW_nil, OpsW_n, StepW, pok, pval, VA.ev, Env.get, Env.put, Env.keep, thenQ, Nat.reduceEqDiff, ite_true, ite_false, true_and, reduceCtorEq]
      refine VW_ret ?_
      try simp only [Env.get, thenQ, blockQ, retQ, resV, resOk, RS.ev, RS.ok, ite_true, true_and, and_true]
      have e : may s = false := by
        rw [may_A, hA, Bool.true_and]
        cases h : (caps s).all isU with
        | false => rfl
        | true => rw [all_at.1 h k hk'] at hb2; cases hb2
      rw [e]; exact View.refl _ _
    rw [h3] at hb2
    refine VW_skip ?_
    try simp only [thenQ, blockQ]
    refine VW_region [0, 4] ?_
    simp only [OpsW_nil, OpsW_n, StepW, pok, pval, VA.ev, Env.get, Env.put, Env.keep, thenQ, intV, binV, binOk, Nat.le_refl, Nat.reduceEqDiff, ite_true, ite_false, true_and, reduceCtorEq, w64 (n := (((dgs s).length + k : Nat) : Int) + 1) (by omega) (by omega)]
    refine ⟨⟨k + 1, hk', fun j hj => ?_⟩, ?_, ?_⟩
    · by_cases e : j = k
      · subst e; cases h : isU ((caps s).getD j 0); rw [h] at hb2; cases hb2; rfl
      · exact hall j (by omega)
    · simp only [pI, PV.int.injEq, true_and]; omega
    · simp only []; omega
  · have hk' : k = (caps s).length := by simp only [decide_eq_false_iff_not] at h2; omega
    refine VW_exit ?_
    try simp only [thenQ, blockQ, retQ, ite_true]
    refine VW_seq (VW_region [2] ?_)
    simp only [OpsW_nil, OpsW_n, StepW, pok, pval, VA.ev, Env.get, Env.put, Env.keep, thenQ, Nat.reduceEqDiff, ite_true, ite_false, true_and, reduceCtorEq]
    refine VW_ret ?_
    try simp only [Env.get, retQ, resV, resOk, RS.ev, RS.ok, ite_true, true_and, and_true]
    have e : may s = true := by
      rw [may_A, hA, Bool.true_and, all_at]; rw [← hk']; exact hall
    rw [e]; exact View.refl _ _
theorem wrap8 {x : Nat} (h1 : 48 ≤ x) (h2 : x ≤ 57) : IntKind.u8.wrap ((x : Int) - 48) = ((x - 48 : Nat) : Int) := by
  simp [IntKind.wrap, IntKind.bits, IntKind.signed]; omega
def splitN (s : Str) : Int := if may s = true then (num s : Int) else 0
def splitC (s : Str) : Str := if may s = true then caps s else []
theorem closed_is (n : Int) (c : Str) : Closed (.tup [pI n, .str c]) := closed_tup (by simp only [List.mem_cons, List.not_mem_nil, or_false, forall_eq_or_imp, forall_eq]; exact ⟨cI _, cS _⟩)
theorem sp_pandectref03_Split (s : Str) (hl : s.length ≤ 1000000) : PCall Tryd.prog 12 [.str s] (.tup [pI (splitN s), .str (splitC s)]) := by
  have hdl := dgs_le s
  refine PCall_intro ?_ (closed_is _ _) (by simp only [ClosedL, List.mem_cons, List.not_mem_nil, or_false, forall_eq_or_imp, forall_eq, false_implies, implies_true]; repeat' (first | exact cI _ | exact cS _ | exact cB _ | exact closed_fn0 _ | exact closed_nilsl | exact closed_agg (Un.closed _) | exact closed_agg (It.closed _) | exact closed_agg (EI.closed _) | exact closed_agg (Ac.closed _) | exact closed_agg (Wd.closed _) | exact closed_agg (St.closed _) | exact closed_agg (Sta.closed _) | exact closed_eis _ | exact closed_acs _ | exact closed_gzs _ | exact Closed.of_scalar (scalar_int _ _) | exact closed_ro (Ac.closed _) | exact closed_ro (Gz.closed _) | exact closed_agg (Gz.closed _) | exact closed_strs _ | exact closed_map (fun w _ => Wd.closed w) | exact closed_map (fun w _ => St.closed w) | exact closed_map (fun w _ => Un.closed w) | exact closed_map (fun w _ => It.closed w) | exact closed_sc _ | exact closed_sps _ | exact closed_agg (Sp.closed _) | exact closed_ro (EI.closed _) | exact closed_ro (Sta.closed _) | exact closed_ro (It.closed _) | exact closed_ro (by simp only [List.mem_cons, List.not_mem_nil, or_false, forall_eq]; first | exact cI _ | exact cS _ | exact closed_eis _) | refine And.intro ?_ ?_))
  refine ACall_fn (vc := c_pandectref03_Split) (ts := [.t 2, .t 3]) Go.Proofs.Tryd.func12 (by kernel_rfl) rfl rfl (Nat.le_of_ble_eq_true rfl) (by kernel_rfl) ?_
  unfold c_pandectref03_Split
  refine VW_seq (VW_region [0] ?_)
  simp only [OpsW_nil, OpsW_n, StepW, pok, pval, VA.ev, Env.get, Env.put, Env.keep, argEnv, thenQ, Heap.nil, ite_true, ite_false, true_and, reduceCtorEq]
  refine VW_seq ?_
  refine VW_seq (VW_region [0, 9] ?_)
  simp only [OpsW_nil, OpsW_n, StepW, pok, pval, VA.ev, Env.get, Env.put, Env.keep, thenQ, unV, unOk, List.map, Nat.reduceEqDiff, ite_true, ite_false, true_and, reduceCtorEq]
  refine ACall_p (sp_pandectref03_May s hl) ?_
  try simp only [true_and]
  refine VW_cond rfl (fun h1 => ?_) (fun h1 => ?_)
  · refine VW_seq (VW_region [2, 3] ?_)
    simp only [OpsW_nil, OpsW_n, StepW, pok, pval, VA.ev, Env.get, Env.put, Env.keep, thenQ, Nat.succ_ne_self, Nat.reduceEqDiff, ite_true, ite_false, true_and, reduceCtorEq]
    refine VW_ret ?_
    try simp only [Env.get, thenQ, retQ, resV, resOk, RS.ev, RS.ok, Nat.succ_ne_self, List.map, Nat.reduceEqDiff, ite_true, ite_false, true_and, and_true]
    have e : may s = false := by cases h : may s; rfl; rw [h] at h1; cases h1
    simp only [splitN, splitC, e, Bool.false_eq_true, if_false]
    exact View.refl _ _
  have hm : may s = true := by cases h : may s; rw [h] at h1; cases h1; rfl
  have h4 := (may_iff.1 hm).2.1
  refine VW_skip ?_
  try simp only [thenQ]
  refine VW_seq (VW_region [0, 4] ?_)
  simp only [OpsW_nil, OpsW_n, StepW, pok, pval, VA.ev, Env.get, Env.put, Env.keep, thenQ, Nat.reduceEqDiff, ite_true, ite_false, true_and, reduceCtorEq]
  refine VW_seq (VW_region [0, 4, 5] ?_)
  simp only [OpsW_nil, OpsW_n, StepW, pok, pval, VA.ev, Env.get, Env.put, Env.keep, thenQ, Nat.succ_ne_self, List.map, Nat.reduceEqDiff, ite_true, ite_false, true_and, reduceCtorEq]
  refine ACall_p (sp_pandectref03_digits s hl) ?_
  skip
  refine VW_seq ?_
  refine VW_seq (VW_region [0, 4, 5, 6] ?_)
  simp only [OpsW_nil, OpsW_n, StepW, pok, pval, VA.ev, Env.get, Env.put, Env.keep, thenQ, Nat.succ_ne_self, Nat.reduceEqDiff, ite_true, ite_false, true_and, reduceCtorEq]
  refine VW_block ?_
  refine VW_loop (σ := { k : Nat // k ≤ (dgs s).length }) (fun x => ([(0, .str s), (4, pI (val (s.take x.1))), (5, pI (dgs s).length), (6, pI x.1)], ⟨[], 0⟩)) (fun x => (dgs s).length - x.1) ⟨0, Nat.zero_le _⟩ ?_ ?_ ?_
  · simp only [Env.get, Nat.succ_ne_self, Env.le, List.take, Nat.reduceEqDiff, ite_true, ite_false, true_and, and_true, reduceCtorEq]
    exact ⟨rfl, rfl⟩
  · simp only [Heap.le, HL.le, Nat.le_refl, and_true]
  rintro ⟨k, hk⟩
  simp only []
  refine VW_seq ?_
  refine VW_seq (VW_region [0, 4, 5, 6, 14] ?_)
  simp only [OpsW_nil, OpsW_n, StepW, pok, pval, VA.ev, Env.get, Env.put, Env.keep, thenQ, intV, binV, binOk, Heap.le, HL.le, Nat.succ_ne_self, Env.le, Nat.reduceEqDiff, ite_true, ite_false, true_and, and_true, reduceCtorEq]
  refine VW_cond rfl (fun h2 => ?_) (fun h2 => ?_)
  · have hk' : k < (dgs s).length := by simp only [decide_eq_true_eq] at h2; omega
    obtain ⟨d1, d2⟩ := dgs_at hk'
    have hv := val_take s k hk'
    have hvl := val_take_lt s k hk
    have hp : 10 ^ k ≤ 10 ^ 4 := Nat.pow_le_pow_right (by omega) (by omega)
    refine VW_skip ?_
    try simp only [thenQ]
    refine VW_seq ?_
    refine VW_block ?_
    have e1 : IntKind.u8.wrap (((s.getD k 0).toNat : Int) - 48) = (((s.getD k 0).toNat - 48 : Nat) : Int) := wrap8 d1 d2
    have e2 : IntKind.i64.wrap (10 * (val (s.take k) : Int)) = ((10 * val (s.take k) : Nat) : Int) := by rw [w64 (by omega) (by omega)]; omega
    have e3 : IntKind.i64.wrap (((10 * val (s.take k) : Nat) : Int) + (((s.getD k 0).toNat - 48 : Nat) : Int)) = (val (s.take (k + 1)) : Int) := by rw [w64 (by omega) (by omega)]; omega
    have e4 : IntKind.i64.wrap (((s.getD k 0).toNat - 48 : Nat) : Int) = (((s.getD k 0).toNat - 48 : Nat) : Int) := w64 (by omega) (by omega)
    refine VW_region [0, 4, 5, 6] ?_
    simp only [OpsW_nil, OpsW_n, StepW, pok, pval, VA.ev, Env.get, Env.put, Env.keep, thenQ, blockQ, intV, binV, binOk, convV, isInt, numOf, lenV, idxV, idxOk, Nat.succ_ne_self, Nat.reduceEqDiff, ite_true, ite_false, true_and, and_true, reduceCtorEq, Int.toNat_natCast, e1, e2, e4, e3]
    repeat (with_reducible refine And.intro ?_ ?_; first | omega | (with_reducible constructor <;> omega) | exact False.elim | exact True.intro)
    refine VW_region [0, 4, 5, 6] ?_
    simp only [OpsW_nil, OpsW_n, StepW, pok, pval, VA.ev, Env.get, Env.put, Env.keep, thenQ, intV, binV, binOk, Nat.le_refl, Nat.succ_ne_self, Nat.reduceEqDiff, ite_true, ite_false, true_and, reduceCtorEq, w64 (n := (k : Int) + 1) (by omega) (by omega)]
    refine ⟨⟨k + 1, hk'⟩, ?_, ?_⟩
    · simp
    · simp only []; omega
  · have hk' : k = (dgs s).length := by simp only [decide_eq_false_iff_not] at h2; omega
    subst hk'
    refine VW_exit ?_
    try simp only [thenQ, blockQ, retQ, ite_true]
    refine VW_seq (VW_drawS [2, 3] (by simp [Heap.le, Heap.get, HL.le, HL.get]) ?_)
    simp only [DrawW_nil, DrawW_n, QW, dok, dval, VOp.pure, VOp.simple, VOp.det, pok, pval, VA.ev, Env.get, Env.put, Env.keep, thenQ, gd, numOf, loV, hiV, lenV, boundOk, sliceV, sliceOk, Nat.le_refl, Nat.succ_ne_self, Option.map, Nat.reduceEqDiff, ite_true, ite_false, true_and, and_true, implies_true, forall_const, reduceCtorEq, Int.toNat_natCast]
    repeat (with_reducible refine And.intro ?_ ?_; first | omega | (with_reducible constructor <;> omega) | exact False.elim | exact True.intro)
    refine VW_ret ?_
    try simp only [Env.get, retQ, resV, resOk, RS.ev, RS.ok, Nat.succ_ne_self, List.map, Nat.reduceEqDiff, ite_true, ite_false, true_and, and_true]
    have e2 : List.take (s.length - (dgs s).length) (List.drop (dgs s).length s) = caps s := by
      rw [caps_drop, List.take_of_length_le (by simp)]
    rw [← dgs_take, e2]
    simp only [splitN, splitC, hm, if_true]
    exact View.refl _ _
theorem closed_i (n : Int) : Closed (pI n) := cI n
theorem S_eq (a b : Str) : (a == b) = decide (a = b) := by by_cases h : a = b <;> simp [h]
theorem sp_pandectref03_Compare (a b : Str) (ha : a.length ≤ 1000000) (hb : b.length ≤ 1000000) : PCall Tryd.prog 16 [.str a, .str b] (pI (cmpL a b)) := by
  have A := sp_pandectref03_May a ha
  have B := sp_pandectref03_May b hb
  have SA := sp_pandectref03_Split a ha
  have SB := sp_pandectref03_Split b hb
  refine PCall_intro ?_ (cI _) (by simp only [ClosedL, List.mem_cons, List.not_mem_nil, or_false, forall_eq_or_imp, forall_eq, false_implies, implies_true]; repeat' (first | exact cI _ | exact cS _ | exact cB _ | exact closed_fn0 _ | exact closed_nilsl | exact closed_agg (Un.closed _) | exact closed_agg (It.closed _) | exact closed_agg (EI.closed _) | exact closed_agg (Ac.closed _) | exact closed_agg (Wd.closed _) | exact closed_agg (St.closed _) | exact closed_agg (Sta.closed _) | exact closed_eis _ | exact closed_acs _ | exact closed_gzs _ | exact Closed.of_scalar (scalar_int _ _) | exact closed_ro (Ac.closed _) | exact closed_ro (Gz.closed _) | exact closed_agg (Gz.closed _) | exact closed_strs _ | exact closed_map (fun w _ => Wd.closed w) | exact closed_map (fun w _ => St.closed w) | exact closed_map (fun w _ => Un.closed w) | exact closed_map (fun w _ => It.closed w) | exact closed_sc _ | exact closed_sps _ | exact closed_agg (Sp.closed _) | exact closed_ro (EI.closed _) | exact closed_ro (Sta.closed _) | exact closed_ro (It.closed _) | exact closed_ro (by simp only [List.mem_cons, List.not_mem_nil, or_false, forall_eq]; first | exact cI _ | exact cS _ | exact closed_eis _) | refine And.intro ?_ ?_))
  refine ACall_fn (vc := c_pandectref03_Compare) (ts := [.t 4]) Go.Proofs.Tryd.func16 (by kernel_rfl) rfl rfl (Nat.le_of_ble_eq_true rfl) (by kernel_rfl) ?_
  unfold c_pandectref03_Compare
  refine VW_seq (VW_region [0, 1] ?_)
  simp only [OpsW_nil, OpsW_n, StepW, pok, pval, VA.ev, Env.get, Env.put, Env.keep, argEnv, thenQ, Heap.nil, Nat.succ_ne_self, Nat.reduceEqDiff, ite_true, ite_false, true_and, reduceCtorEq, Nat.zero_add]
  refine VW_seq ?_
  refine VW_seq (VW_region [0, 1, 12] ?_)
  simp only [OpsW_nil, OpsW_n, StepW, pok, pval, VA.ev, Env.get, Env.put, Env.keep, thenQ, binV, binOk, strV, Nat.succ_ne_self, Nat.reduceEqDiff, ite_true, ite_false, true_and, reduceCtorEq]
  refine VW_cond rfl (fun h1 => ?_) (fun h1 => ?_)
  · refine VW_seq (VW_region [4] ?_)
    simp only [OpsW_nil, OpsW_n, StepW, pok, pval, VA.ev, Env.get, Env.put, Env.keep, thenQ, Nat.reduceEqDiff, ite_true, ite_false, true_and, reduceCtorEq]
    refine VW_ret ?_
    try simp only [Env.get, thenQ, retQ, resV, resOk, RS.ev, RS.ok, ite_true, true_and, and_true]
    have e : a = b := by simpa using h1
    rw [cmpL_zero.2 e]
    exact View.refl _ _
  have hne : a ≠ b := by simpa using h1
  refine VW_skip ?_
  try simp only [thenQ]
  refine VW_seq (VW_region [0, 1, 5] ?_)
  simp only [OpsW_nil, OpsW_n, StepW, pok, pval, VA.ev, Env.get, Env.put, Env.keep, thenQ, binV, binOk, strV, Nat.succ_ne_self, Nat.reduceEqDiff, ite_true, ite_false, true_and, reduceCtorEq, bytesLess_eq]
  refine VW_seq ?_
  refine VW_mid (σ := { x : Bool // x = true ↔ ltL a b }) (fun x => ([(5, .bool x.1)], ⟨[], 0⟩)) ?_ ?_
  · refine VW_seq (VW_region [0, 1, 5, 21] ?_)
    cases hma : may a <;> cases hmb : may b <;> rw [hma] at A <;> rw [hmb] at B
    · simp only [OpsW_n, StepW, pok, pval, VA.ev, Env.get, Env.put, Env.keep, thenQ, Nat.succ_ne_self, List.map, Nat.reduceEqDiff, ite_true, ite_false, true_and, reduceCtorEq]
      refine ACall_p A ?_
      try simp only [OpsW_nil, OpsW_n, OpsW_xt, StepW, pok, pval, VA.ev, Env.get, Env.put, pickV, isBool, Nat.succ_ne_self, Nat.reduceEqDiff, Bool.false_eq_true, ite_true, ite_false, true_and, reduceCtorEq]
      refine VW_cond rfl (fun h2 => by cases h2) (fun _ => ?_)
      refine VW_seq (VW_region [0, 5, 49] ?_)
      simp only [OpsW_nil, OpsW_n, StepW, pok, pval, VA.ev, Env.get, Env.put, Env.keep, thenQ, binbV, boolV, binbOk, Nat.succ_ne_self, List.map, Nat.reduceEqDiff, ite_true, ite_false, true_and, reduceCtorEq]
      refine ACall_p A ?_
      skip
      refine ACall_p B ?_
      try simp only [true_and, bne_self_eq_false]
      refine VW_cond rfl (fun h2 => by cases h2) (fun _ => ?_)
      refine VW_skip ?_
      try simp only [midQ, Env.get, Heap.le, HL.le, Nat.le_refl, Env.le, Nat.reduceEqDiff, ite_true, ite_false, and_true, reduceCtorEq]
      refine ⟨⟨decide (a < b), ?_⟩, rfl⟩
      unfold ltL; simp [hma, hmb]
    · simp only [OpsW_n, StepW, pok, pval, VA.ev, Env.get, Env.put, Env.keep, thenQ, Nat.succ_ne_self, List.map, Nat.reduceEqDiff, ite_true, ite_false, true_and, reduceCtorEq]
      refine ACall_p A ?_
      try simp only [OpsW_nil, OpsW_n, OpsW_xt, StepW, pok, pval, VA.ev, Env.get, Env.put, pickV, isBool, Nat.succ_ne_self, Nat.reduceEqDiff, Bool.false_eq_true, ite_true, ite_false, true_and, reduceCtorEq]
      refine VW_cond rfl (fun h2 => by cases h2) (fun _ => ?_)
      refine VW_seq (VW_region [0, 5, 49] ?_)
      simp only [OpsW_nil, OpsW_n, StepW, pok, pval, VA.ev, Env.get, Env.put, Env.keep, thenQ, binbV, boolV, binbOk, Nat.succ_ne_self, List.map, Nat.reduceEqDiff, ite_true, ite_false, true_and, reduceCtorEq]
      refine ACall_p A ?_
      skip
      refine ACall_p B ?_
      try simp only [true_and]
      refine VW_cond (b := true) rfl (fun _ => ?_) (fun h2 => by cases h2)
      refine VW_region [5] ?_
      simp only [midQ, OpsW_nil, OpsW_n, StepW, pok, pval, VA.ev, Env.get, Env.put, Env.keep, Heap.le, HL.le, Env.le, List.map, Nat.reduceEqDiff, ite_true, ite_false, true_and, and_true, reduceCtorEq]
      refine ACall_p A ?_
      try simp only [Nat.le_refl, and_true]
      refine ⟨⟨false, ?_⟩, rfl⟩
      unfold ltL; simp [hma, hmb]
    · simp only [OpsW_n, StepW, pok, pval, VA.ev, Env.get, Env.put, Env.keep, thenQ, Nat.succ_ne_self, List.map, Nat.reduceEqDiff, ite_true, ite_false, true_and, reduceCtorEq]
      refine ACall_p A ?_
      try simp only [OpsW_nil, OpsW_n, OpsW_y, StepW, pok, pval, VA.ev, Env.get, Env.put, pickV, isBool, Nat.succ_ne_self, List.map, Nat.reduceEqDiff, ite_true, ite_false, true_and, reduceCtorEq]
      refine ACall_p B ?_
      skip
      refine VW_cond rfl (fun h2 => by cases h2) (fun _ => ?_)
      refine VW_seq (VW_region [0, 5, 49] ?_)
      simp only [OpsW_nil, OpsW_n, StepW, pok, pval, VA.ev, Env.get, Env.put, Env.keep, thenQ, binbV, boolV, binbOk, Nat.succ_ne_self, List.map, Nat.reduceEqDiff, ite_true, ite_false, true_and, reduceCtorEq]
      refine ACall_p A ?_
      skip
      refine ACall_p B ?_
      try simp only [true_and]
      refine VW_cond (b := true) rfl (fun _ => ?_) (fun h2 => by cases h2)
      refine VW_region [5] ?_
      simp only [midQ, OpsW_nil, OpsW_n, StepW, pok, pval, VA.ev, Env.get, Env.put, Env.keep, Heap.le, HL.le, Env.le, List.map, Nat.reduceEqDiff, ite_true, ite_false, true_and, and_true, reduceCtorEq]
      refine ACall_p A ?_
      try simp only [Nat.le_refl, and_true]
      refine ⟨⟨true, ?_⟩, rfl⟩
      unfold ltL; simp [hma, hmb]
    · have ena : splitN a = (num a : Int) := by simp [splitN, hma]
      have enb : splitN b = (num b : Int) := by simp [splitN, hmb]
      have eca : splitC a = caps a := by simp [splitC, hma]
      have ecb : splitC b = caps b := by simp [splitC, hmb]
      rw [ena, eca] at SA
      rw [enb, ecb] at SB
      simp only [OpsW_n, StepW, pok, pval, VA.ev, Env.get, Env.put, Env.keep, thenQ, Nat.succ_ne_self, List.map, Nat.reduceEqDiff, ite_true, ite_false, true_and, reduceCtorEq]
      refine ACall_p A ?_
      try simp only [OpsW_nil, OpsW_n, OpsW_y, StepW, pok, pval, VA.ev, Env.get, Env.put, pickV, isBool, Nat.succ_ne_self, List.map, Nat.reduceEqDiff, ite_true, ite_false, true_and, reduceCtorEq]
      refine ACall_p B ?_
      skip
      refine VW_cond rfl (fun _ => ?_) (fun h2 => by cases h2)
      refine VW_seq (VW_region [1, 6, 7] ?_)
      simp only [OpsW_nil, OpsW_n, StepW, pok, pval, VA.ev, Env.get, Env.put, Env.keep, thenQ, extV, extOk, PV.nth, Nat.succ_ne_self, List.map, Nat.reduceEqDiff, ite_true, ite_false, true_and, reduceCtorEq]
      refine ACall_p SA ?_
      try simp only [List.length, List.getD_cons_zero, List.getD_cons_succ, Nat.reduceAdd, Nat.reduceLT, true_and, Nat.zero_add]
      refine VW_seq (VW_region [6, 7, 8, 9] ?_)
      simp only [OpsW_nil, OpsW_n, StepW, pok, pval, VA.ev, Env.get, Env.put, Env.keep, thenQ, extV, extOk, PV.nth, Nat.succ_ne_self, List.map, Nat.reduceEqDiff, ite_true, ite_false, true_and]
      refine ACall_p SB ?_
      try simp only [List.length, List.getD_cons_zero, List.getD_cons_succ, Nat.reduceAdd, Nat.reduceLT, true_and, Nat.zero_add]
      refine VW_region [5] ?_
      rcases Nat.lt_trichotomy (num a) (num b) with c | c | c
      · have e1 : decide ((num a : Int) < (num b : Int)) = true := by simp only [decide_eq_true_eq]; omega
        simp only [midQ, OpsW_nil, OpsW_n, OpsW_xf, OpsW_u, StepW, pok, pval, VA.ev, Env.get, Env.put, Env.keep, pickV, isBool, intV, binV, binOk, Heap.le, HL.le, Nat.le_refl, Nat.succ_ne_self, Env.le, Nat.reduceEqDiff, ite_true, ite_false, true_and, and_true, e1]
        refine ⟨⟨true, ?_⟩, rfl⟩
        rw [ltL_text hma hmb]; simp [c]
      · have e1 : decide ((num a : Int) < (num b : Int)) = false := by simp only [decide_eq_false_iff_not]; omega
        have e2 : ((num a : Int) == (num b : Int)) = true := by rw [c]; exact BEq.rfl
        simp only [midQ, OpsW_nil, OpsW_n, OpsW_y, StepW, pok, pval, VA.ev, Env.get, Env.put, Env.keep, pickV, isBool, intV, binV, binOk, strV, Heap.le, HL.le, Nat.le_refl, Nat.succ_ne_self, Env.le, Nat.reduceEqDiff, Bool.false_eq_true, ite_true, ite_false, true_and, and_true, e1, e2, bytesLess_eq]
        refine ⟨⟨decide (caps a < caps b), ?_⟩, rfl⟩
        rw [ltL_text hma hmb]; simp [c]
      · have e1 : decide ((num a : Int) < (num b : Int)) = false := by simp only [decide_eq_false_iff_not]; omega
        have e2 : ((num a : Int) == (num b : Int)) = false := by rw [beq_eq_false_iff_ne]; omega
        simp only [midQ, OpsW_nil, OpsW_n, OpsW_y, OpsW_xt, StepW, pok, pval, VA.ev, Env.get, Env.put, Env.keep, pickV, isBool, intV, binV, binOk, Heap.le, HL.le, Nat.le_refl, Nat.succ_ne_self, Env.le, Nat.reduceEqDiff, Bool.false_eq_true, ite_true, ite_false, true_and, and_true, e1, e2]
        refine ⟨⟨false, ?_⟩, rfl⟩
        rw [ltL_text hma hmb]; simp; omega
  rintro ⟨x, hx⟩
  simp only []
  refine VW_seq ?_
  refine VW_seq (VW_region [52] ?_)
  simp only [OpsW_nil, OpsW_n, StepW, pok, pval, VA.ev, Env.get, Env.put, Env.keep, thenQ, Nat.reduceEqDiff, ite_true, ite_false, true_and]
  refine VW_cond rfl (fun h6 => ?_) (fun h6 => ?_)
  · refine VW_seq (VW_region [4] ?_)
    simp only [OpsW_nil, OpsW_n, StepW, pok, pval, VA.ev, Env.get, Env.put, Env.keep, thenQ, Nat.reduceEqDiff, ite_true, ite_false, true_and]
    refine VW_ret ?_
    try simp only [Env.get, thenQ, retQ, resV, resOk, RS.ev, RS.ok, ite_true, true_and, and_true]
    rw [cmpL_eq, if_pos (hx.1 h6)]
    exact View.refl _ _
  refine VW_skip ?_
  try simp only [thenQ]
  refine VW_seq (VW_region [4] ?_)
  simp only [OpsW_nil, OpsW_n, StepW, pok, pval, VA.ev, Env.get, Env.put, Env.keep, thenQ, Nat.reduceEqDiff, ite_true, ite_false, true_and]
  refine VW_ret ?_
  try simp only [Env.get, retQ, resV, resOk, RS.ev, RS.ok, ite_true, true_and, and_true]
  rw [cmpL_eq, if_neg (fun h => by rw [hx.2 h] at h6; cases h6), if_neg hne]
  exact View.refl _ _
theorem byte_digit (m : Nat) : UInt8.ofNat (Int.toNat (IntKind.u8.wrap (IntKind.i64.wrap (48 + ((m : Int).tmod 10))))) = UInt8.ofNat (48 + m % 10) := by
  have e : ((m : Int).tmod 10) = ((m % 10 : Nat) : Int) := by rw [Int.tmod_eq_emod_of_nonneg (by omega)]; omega
  rw [e]
  have : m % 10 < 10 := Nat.mod_lt _ (by omega)
  generalize m % 10 = x at this
  have e2 : IntKind.i64.wrap (48 + (x : Int)) = ((48 + x : Nat) : Int) := by rw [w64 (by omega) (by omega)]; omega
  have e3 : IntKind.u8.wrap ((48 + x : Nat) : Int) = ((48 + x : Nat) : Int) := by simp [IntKind.wrap, IntKind.bits, IntKind.signed]; omega
  rw [e2, e3, Int.toNat_natCast]
theorem byteOf_digit (m : Nat) : VM.byteOf [PV.int .u8 (IntKind.u8.wrap (IntKind.i64.wrap (48 + ((m : Int).tmod 10))))] = UInt8.ofNat (48 + m % 10) := byte_digit m
theorem sp_pandectref03_text (n : Nat) (c : Str) (hn : n ≤ 1000000000) (hc : c.length ≤ 1000000) : PCall Tryd.prog 38 [pI n, .str c] (.str (text n c)) := by
  have tl : ∀ k, (tail10 n k).length = k + 1 := fun k => by
    induction k with
    | zero => rfl
    | succ k ih => simp [tail10, ih]
  refine PCall_intro ?_ (cS _) (by simp only [ClosedL, List.mem_cons, List.not_mem_nil, or_false, forall_eq_or_imp, forall_eq, false_implies, implies_true]; repeat' (first | exact cI _ | exact cS _ | exact cB _ | exact closed_fn0 _ | exact closed_nilsl | exact closed_agg (Un.closed _) | exact closed_agg (It.closed _) | exact closed_agg (EI.closed _) | exact closed_agg (Ac.closed _) | exact closed_agg (Wd.closed _) | exact closed_agg (St.closed _) | exact closed_agg (Sta.closed _) | exact closed_eis _ | exact closed_acs _ | exact closed_gzs _ | exact Closed.of_scalar (scalar_int _ _) | exact closed_ro (Ac.closed _) | exact closed_ro (Gz.closed _) | exact closed_agg (Gz.closed _) | exact closed_strs _ | exact closed_map (fun w _ => Wd.closed w) | exact closed_map (fun w _ => St.closed w) | exact closed_map (fun w _ => Un.closed w) | exact closed_map (fun w _ => It.closed w) | exact closed_sc _ | exact closed_sps _ | exact closed_agg (Sp.closed _) | exact closed_ro (EI.closed _) | exact closed_ro (Sta.closed _) | exact closed_ro (It.closed _) | exact closed_ro (by simp only [List.mem_cons, List.not_mem_nil, or_false, forall_eq]; first | exact cI _ | exact cS _ | exact closed_eis _) | refine And.intro ?_ ?_))
  refine ACall_fn (vc := c_pandectref03_text) (ts := [.t 4]) Go.Proofs.Tryd.func38 (by kernel_rfl) rfl rfl (Nat.le_of_ble_eq_true rfl) (by kernel_rfl) ?_
  unfold c_pandectref03_text
  refine VW_seq (VW_region [0, 1] ?_)
  simp only [OpsW_nil, OpsW_n, StepW, pok, pval, VA.ev, Env.get, Env.put, Env.keep, argEnv, thenQ, Heap.nil, Nat.succ_ne_self, Nat.reduceEqDiff, ite_true, ite_false, true_and, reduceCtorEq, Nat.zero_add]
  refine VW_seq (VW_region [0, 1, 5] ?_)
  simp only [OpsW_nil, OpsW_n, StepW, pok, pval, VA.ev, Env.get, Env.put, Env.keep, thenQ, intV, binV, binOk, convV, isInt, PV.cells, PV.fits, Heap.get, HL.get, Heap.push, Nat.le_refl, Nat.succ_ne_self, elemsV, elemsOk, pxV, pxOk, List.map, List.set, List.replicate, List.length, List.take, List.drop, List.take_succ_cons, Nat.reduceEqDiff, Nat.reduceLT, ite_true, ite_false, true_and, and_true, ne_eq, reduceCtorEq, BEq.rfl, Nat.zero_add, bytesOk, isByte, byteRows, byteOf_digit]
  refine ⟨by omega, fun r hr => by rw [List.mem_singleton] at hr; subst hr; trivial, ?_⟩
  refine VW_seq ?_
  refine VW_block ?_
  refine VW_loop (σ := { x : Nat × Nat // (10 ^ x.1 ≤ n ∨ x.1 = 0) ∧ x.1 ≤ 10 }) (fun x => ([(0, pI (n / 10 ^ x.1.1 : Nat)), (1, .str c), (5, .str (tail10 n x.1.1))], ⟨[], x.1.2⟩)) (fun x => 10 - x.1.1) ⟨(0, 1), .inr rfl, by simp only []; omega⟩ ?_ ?_ ?_
  · simp only [Env.get, Nat.succ_ne_self, Env.le, Nat.reduceEqDiff, ite_true, ite_false, true_and, and_true, reduceCtorEq, Nat.pow_zero, Nat.div_one]
    rfl
  · simp only [Heap.le, HL.le, Nat.le_refl, and_true]
  rintro ⟨⟨k, t⟩, hk, hk10⟩
  simp only [] at hk hk10 ⊢
  refine VW_seq ?_
  refine VW_seq (VW_region [0, 1, 5, 13] ?_)
  simp only [OpsW_nil, OpsW_n, StepW, pok, pval, VA.ev, Env.get, Env.put, Env.keep, thenQ, intV, binV, binOk, Heap.le, HL.le, Nat.succ_ne_self, Env.le, Nat.reduceEqDiff, ite_true, ite_false, true_and, and_true, reduceCtorEq]
  refine VW_cond rfl (fun h1 => ?_) (fun h1 => ?_)
  · have hgt : 9 < n / 10 ^ k := by simp only [decide_eq_true_eq] at h1; omega
    have hp : 10 ^ (k + 1) ≤ n := by
      have := (Nat.le_div_iff_mul_le (Nat.pow_pos (by omega : 0 < 10))).1 (show 10 ≤ n / 10 ^ k by omega)
      rw [Nat.pow_succ, Nat.mul_comm]; exact this
    have h9 : k + 1 ≤ 9 := by
      rcases Nat.lt_or_ge k 9 with h | h
      · omega
      · have : 10 ^ 10 ≤ 10 ^ (k + 1) := Nat.pow_le_pow_right (by omega) (by omega)
        omega
    refine VW_skip ?_
    try simp only [thenQ]
    refine VW_block ?_
    have e1 : ((n / 10 ^ k : Nat) : Int).tdiv 10 = ((n / 10 ^ (k + 1) : Nat) : Int) := by
      rw [Int.tdiv_eq_ediv_of_nonneg (by omega), Nat.pow_succ, ← Nat.div_div_eq_div_mul]; omega
    have hb := Nat.div_le_self n (10 ^ (k + 1))
    have e5 : tail10 n (k + 1) = UInt8.ofNat (48 + n / 10 ^ (k + 1) % 10) :: tail10 n k := rfl
    obtain ⟨m, hm⟩ : ∃ m, m = n / 10 ^ (k + 1) := ⟨_, rfl⟩
    rw [← hm] at e1 hb e5
    refine VW_seq (VW_region [0, 1, 5] ?_)
    simp only [OpsW_nil, OpsW_n, StepW, pok, pval, VA.ev, Env.get, Env.put, Env.keep, thenQ, intV, binV, binOk, Nat.succ_ne_self, Nat.reduceEqDiff, ite_true, ite_false, true_and, ne_eq, reduceCtorEq, e1, w64 (n := (m : Int)) (by omega) (by omega)]
    repeat (with_reducible refine And.intro ?_ ?_; first | omega | (with_reducible constructor <;> omega) | exact False.elim | exact True.intro)
    refine VW_region [0, 1, 5] ?_
    simp only [OpsW_nil, OpsW_n, StepW, pok, pval, VA.ev, Env.get, Env.put, Env.keep, thenQ, blockQ, intV, binV, binOk, strV, convV, isInt, PV.cells, PV.fits, Heap.get, HL.get, Heap.push, Nat.le_refl, Nat.succ_ne_self, elemsV, elemsOk, pxV, pxOk, List.map, List.set, List.replicate, List.length, List.take, List.drop, List.take_succ_cons, List.cons_append, List.nil_append, Nat.reduceEqDiff, Nat.reduceLT, ite_true, ite_false, true_and, and_true, ne_eq, reduceCtorEq, BEq.rfl, Nat.zero_add, bytesOk, isByte, byteRows, byteOf_digit, tl]
    refine ⟨by omega, fun r hr => by rw [List.mem_singleton] at hr; subst hr; trivial, by omega, ?_⟩
    refine ⟨⟨(k + 1, t + 1), .inl hp, by simp only []; omega⟩, ?_, ?_⟩
    · rw [← hm, e5]; exact ⟨rfl, rfl⟩
    · exact ⟨by simp only []; omega, by simp only []; omega⟩
  · have hle : n / 10 ^ k ≤ 9 := by simp only [decide_eq_false_iff_not] at h1; omega
    refine VW_exit ?_
    try simp only [thenQ, blockQ, retQ, ite_true]
    refine VW_seq (VW_region [4] ?_)
    simp only [OpsW_nil, OpsW_n, StepW, pok, pval, VA.ev, Env.get, Env.put, Env.keep, thenQ, binV, binOk, strV, Nat.succ_ne_self, Nat.reduceEqDiff, ite_true, ite_false, true_and, reduceCtorEq, tl]
    repeat (with_reducible refine And.intro ?_ ?_; first | omega | (with_reducible constructor <;> omega) | exact False.elim | exact True.intro)
    refine VW_ret ?_
    try simp only [Env.get, retQ, resV, resOk, RS.ev, RS.ok, ite_true, true_and, and_true]
    have := dec_tail n k hk hle
    unfold text
    rw [this]
    exact View.refl _ _
end Go.Proofs.YtihfbefagcdpmaaDoor.w

