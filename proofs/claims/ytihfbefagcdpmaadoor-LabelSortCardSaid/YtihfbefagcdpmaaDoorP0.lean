import Derived.Test.YtihfbefagcdpmaaDoorVmA
import Derived.Lib.ItoaNum
import Derived.Lib.Atoi
import Derived.Sort.Walk0
import Derived.Shelf.SlSortCmp.NoneTotal
set_option linter.all false
namespace Go.VM
open Go
def isD (b:UInt8):Bool:=decide (48 ≤ b.toNat) && decide (b.toNat ≤ 57)
def isU (b:UInt8):Bool:=decide (65 ≤ b.toNat) && decide (b.toNat ≤ 90)
def dgs (s:Str):Str:=s.takeWhile isD
def caps (s:Str):Str:=s.dropWhile isD
def val (l:Str):Nat:=l.foldl (fun n b=>10 * n + (b.toNat - 48)) 0
def may (s:Str):Bool:=decide (1 ≤ (dgs s).length) && decide ((dgs s).length ≤ 4) && (s.head? != some 48) && decide ((caps s).length ≤ 3) && (caps s).all isU
def num (s:Str):Nat:=val (dgs s)
def text (n:Nat) (c:Str):Str:=Lib.decDigits n ++ c
theorem dgs_caps (s:Str):dgs s ++ caps s = s:=List.takeWhile_append_dropWhile
theorem dgs_len (s:Str):(dgs s).length + (caps s).length = s.length:=by rw [← List.length_append,dgs_caps]
theorem caps_drop (s:Str):caps s = s.drop (dgs s).length:=by
  have h:(dgs s ++ caps s).drop (dgs s).length = caps s:=List.drop_left
  rw [dgs_caps] at h; exact h.symm
theorem dgs_take (s:Str):dgs s = s.take (dgs s).length:=by
  have h:(dgs s ++ caps s).take (dgs s).length = dgs s:=List.take_left
  rw [dgs_caps] at h; exact h.symm
theorem dgs_all (s:Str):∀ b ∈ dgs s,isD b = true:=by
  unfold dgs
  induction s with
  | nil=>simp
  | cons a r ih =>
    intro b hb
    rw [List.takeWhile_cons] at hb
    split at hb
    · rcases List.mem_cons.1 hb with rfl | h
      · assumption
      · exact ih b h
    · simp at hb
theorem isU_not (b:UInt8) (h:isU b = true):isD b = false:=by simp [isU,isD] at *; omega
theorem ofNat_toNat {k:Nat} (h:k < 256):(UInt8.ofNat k).toNat = k:=by simp [UInt8.toNat_ofNat']; omega
theorem isD_digit {d:Nat} (h:d < 10):isD (UInt8.ofNat (48 + d)) = true:=by
  simp only [isD]; rw [ofNat_toNat (by omega)]; simp; omega
theorem decDigits_all (n:Nat):∀ b ∈ Lib.decDigits n,isD b = true:=by
  induction n using Nat.strongRecOn with
  | _ n ih =>
    intro b hb
    rw [Lib.decDigits] at hb
    split at hb
    · rw [List.mem_singleton] at hb; subst hb; exact isD_digit (by omega)
    · rw [List.mem_append,List.mem_singleton] at hb
      rcases hb with hb | rfl
      · exact ih (n / 10) (by omega) b hb
      · exact isD_digit (by omega)
theorem val_append (l m:Str):val (l ++ m) = m.foldl (fun n b=>10 * n + (b.toNat - 48)) (val l):=by simp [val]
theorem val_snoc (l:Str) (b:UInt8):val (l ++ [b]) = 10 * val l + (b.toNat - 48):=by rw [val_append]; rfl
theorem val_decDigits (n:Nat):val (Lib.decDigits n) = n:=by
  induction n using Nat.strongRecOn with
  | _ n ih =>
    rw [Lib.decDigits]
    split
    · show 10 * 0 + _ = _
      rw [ofNat_toNat (by omega)]; omega
    · rw [val_snoc,ih (n / 10) (by omega),ofNat_toNat (by omega)]; omega
theorem decDigits_ne (n:Nat):Lib.decDigits n ≠ []:=by rw [Lib.decDigits]; split <;> simp
theorem decDigits_pos (n:Nat):1 ≤ (Lib.decDigits n).length:=by
  have:=decDigits_ne n
  cases h:Lib.decDigits n with
  | nil=>exact absurd h this
  | cons=>simp
theorem head_append {l m:Str} (h:l ≠ []):(l ++ m).head? = l.head?:=by cases l with | nil=>exact absurd rfl h | cons=>rfl
theorem decDigits_head (n:Nat) (h:1 ≤ n):(Lib.decDigits n).head? ≠ some 48:=by
  induction n using Nat.strongRecOn with
  | _ n ih =>
    rw [Lib.decDigits]
    split
    · intro e
      simp only [List.head?_cons,Option.some.injEq] at e
      have:=congrArg UInt8.toNat e
      rw [ofNat_toNat (by omega)] at this
      have e2:(48:UInt8).toNat = 48:=rfl
      omega
    · rw [head_append (decDigits_ne _)]
      exact ih (n / 10) (by omega) (by omega)
theorem decDigits_four {n:Nat} (h:n ≤ 9999):(Lib.decDigits n).length ≤ 4:=by
  rw [Lib.decDigits_length]
  by_cases h1:n < 10
  · rw [Lib.nDigits_small h1]; omega
  · rw [Lib.nDigits_big h1]
    by_cases h2:n / 10 < 10
    · rw [Lib.nDigits_small h2]; omega
    · rw [Lib.nDigits_big h2]
      by_cases h3:n / 10 / 10 < 10
      · rw [Lib.nDigits_small h3]; omega
      · rw [Lib.nDigits_big h3,Lib.nDigits_small (by omega)]; omega
theorem decDigits_val (l:Str) (hd:∀ b ∈ l,isD b = true) (h0:l.head? ≠ some 48) (hne:l ≠ []):1 ≤ val l ∧ Lib.decDigits (val l) = l:=by
  suffices H:∀ (k:Nat) (l:Str),l.length = k → (∀ b ∈ l,isD b = true) → l.head? ≠ some 48 → l ≠ [] → 1 ≤ val l ∧ Lib.decDigits (val l) = l from H _ l rfl hd h0 hne
  intro k
  induction k with
  | zero=>intro l hl _ _ hne; exact absurd (List.eq_nil_of_length_eq_zero hl) hne
  | succ k ih =>
    intro l hl hd h0 hne
    obtain ⟨m,b,rfl⟩:∃ m b,l = m ++ [b]:=⟨l.dropLast,l.getLast hne,(List.dropLast_concat_getLast hne).symm⟩
    have hb:=hd b (by simp)
    simp only [isD,Bool.and_eq_true,decide_eq_true_eq] at hb
    rw [val_snoc]
    have hbb:UInt8.ofNat (48 + (b.toNat - 48)) = b:=by rw [show 48 + (b.toNat - 48) = b.toNat by omega]; simp
    by_cases hm:m = []
    · subst hm
      have:b.toNat ≠ 48:=by
        intro e
        apply h0
        simp only [List.nil_append,List.head?_cons,Option.some.injEq]
        exact UInt8.toNat_inj.1 e
      refine ⟨by omega,?_⟩
      rw [Lib.decDigits_one (by show 10 * 0 + _ < 10; omega)]
      show [UInt8.ofNat (48 + (10 * 0 + (b.toNat - 48)))] = _
      rw [show 10 * 0 + (b.toNat - 48) = b.toNat - 48 by omega,hbb]; rfl
    · obtain ⟨h1,h2⟩:=ih m (by simp at hl; omega) (fun x hx=>hd x (by simp [hx])) (by rw [head_append hm] at h0; exact h0) hm
      refine ⟨by omega,?_⟩
      rw [Lib.decDigits,dif_neg (by omega),show (10 * val m + (b.toNat - 48)) / 10 = val m by omega,h2,show (10 * val m + (b.toNat - 48)) % 10 = b.toNat - 48 by omega,hbb]
theorem takeWhile_text {n:Nat} {c:Str} (hc:∀ b ∈ c,isU b = true):dgs (text n c) = Lib.decDigits n ∧ caps (text n c) = c:=by
  have h1:(Lib.decDigits n ++ c).takeWhile isD = Lib.decDigits n ++ c.takeWhile isD:=List.takeWhile_append_of_pos (decDigits_all n)
  have h2:(Lib.decDigits n ++ c).dropWhile isD = c.dropWhile isD:=List.dropWhile_append_of_pos (decDigits_all n)
  have h3:c.takeWhile isD = [] ∧ c.dropWhile isD = c:=by
    cases c with
    | nil=>exact ⟨rfl,rfl⟩
    | cons a r=>simp [List.takeWhile_cons,List.dropWhile_cons,isU_not a (hc a (by simp))]
  exact ⟨by unfold dgs text; rw [h1,h3.1,List.append_nil],by unfold caps text; rw [h2,h3.2]⟩
theorem may_iff {s:Str}:may s = true ↔ (1 ≤ (dgs s).length ∧ (dgs s).length ≤ 4 ∧ s.head? ≠ some 48 ∧ (caps s).length ≤ 3 ∧ ∀ b ∈ caps s,isU b = true):=by
  simp [may,and_assoc]
theorem may_text {n:Nat} {c:Str} (h1:1 ≤ n) (h2:n ≤ 9999) (h3:c.length ≤ 3) (hc:∀ b ∈ c,isU b = true):may (text n c) = true ∧ num (text n c) = n ∧ caps (text n c) = c:=by
  obtain ⟨e1,e2⟩:=takeWhile_text (n:=n) hc
  refine ⟨may_iff.2 ?_,by unfold num; rw [e1,val_decDigits],e2⟩
  rw [e1,e2]
  refine ⟨decDigits_pos n,decDigits_four h2,?_,h3,hc⟩
  unfold text
  rw [head_append (decDigits_ne n)]
  exact decDigits_head n h1
theorem val_lt (l:Str) (hd:∀ b ∈ l,isD b = true):val l < 10 ^ l.length:=by
  suffices H:∀ (k:Nat) (l:Str),l.length = k → (∀ b ∈ l,isD b = true) → val l < 10 ^ k from H _ l rfl hd
  intro k
  induction k with
  | zero=>intro l hl _; rw [List.eq_nil_of_length_eq_zero hl]; decide
  | succ k ih =>
    intro l hl hd
    have hne:l ≠ []:=by intro e; subst e; simp at hl
    obtain ⟨m,b,rfl⟩:∃ m b,l = m ++ [b]:=⟨l.dropLast,l.getLast hne,(List.dropLast_concat_getLast hne).symm⟩
    have:=ih m (by simp at hl; omega) (fun x hx=>hd x (by simp [hx]))
    have hb:=hd b (by simp)
    simp only [isD,Bool.and_eq_true,decide_eq_true_eq] at hb
    rw [val_snoc,Nat.pow_succ]; omega
theorem text_may {s:Str} (h:may s = true):s = text (num s) (caps s) ∧ 1 ≤ num s ∧ num s ≤ 9999 ∧ (caps s).length ≤ 3 ∧ ∀ b ∈ caps s,isU b = true:=by
  obtain ⟨h1,h2,h3,h4,h5⟩:=may_iff.1 h
  have hne:dgs s ≠ []:=by intro e; rw [e] at h1; simp at h1
  have hh:(dgs s).head? ≠ some 48:=by
    have:=head_append (m:=caps s) hne
    rw [dgs_caps] at this
    rw [← this]; exact h3
  obtain ⟨k1,k2⟩:=decDigits_val (dgs s) (dgs_all s) hh hne
  refine ⟨?_,k1,?_,h4,h5⟩
  · unfold text num; rw [k2,dgs_caps]
  · have:=val_lt (dgs s) (dgs_all s)
    have:10 ^ (dgs s).length ≤ 10 ^ 4:=Nat.pow_le_pow_right (by omega) h2
    unfold num; omega
theorem may_inj {s t:Str} (hs:may s = true) (ht:may t = true) (h1:num s = num t) (h2:caps s = caps t):s = t:=by
  rw [(text_may hs).1,(text_may ht).1,h1,h2]
def cmpS (a b:Str):Int:=if a < b then -1 else if a = b then 0 else 1
def cmpN (a b:Int):Int:=if a < b then -1 else if a = b then 0 else 1
def orI (a b:Int):Int:=if a = 0 then b else a
def cmpL (a b:Str):Int :=
  if may a = true ∧ may b = true then orI (cmpN (num a) (num b)) (cmpS (caps a) (caps b))
  else if may a = true then -1 else if may b = true then 1 else cmpS a b
def ltL (a b:Str):Prop :=
  if may a = true then (if may b = true then num a < num b ∨ (num a = num b ∧ caps a < caps b) else True) else (if may b = true then False else a < b)
theorem S_irrefl (a:Str):¬ a < a:=List.lt_irrefl a
theorem S_trans {a b c:Str} (h:a < b) (k:b < c):a < c:=List.lt_trans h k
theorem S_tri (a b:Str):a < b ∨ a = b ∨ b < a:=by
  by_cases h:a < b
  · exact .inl h
  · by_cases k:b < a
    · exact .inr (.inr k)
    · exact .inr (.inl (List.le_antisymm (List.not_lt.1 k) (List.not_lt.1 h)))
theorem L_irrefl (a:Str):¬ ltL a a:=by
  unfold ltL; split
  · rintro (h | ⟨_,h⟩)
    · omega
    · exact S_irrefl _ h
  · exact S_irrefl _
theorem L_trans {a b c:Str} (h:ltL a b) (k:ltL b c):ltL a c:=by
  unfold ltL at *
  by_cases ha:may a = true <;> by_cases hb:may b = true <;> by_cases hc:may c = true <;> simp only [ha,hb,hc,if_true,if_false,Bool.false_eq_true] at h k ⊢
  · rcases h with h | ⟨h,h'⟩ <;> rcases k with k | ⟨k,k'⟩
    · exact .inl (by omega)
    · exact .inl (by omega)
    · exact .inl (by omega)
    · exact .inr ⟨by omega,S_trans h' k'⟩
  · exact S_trans h k
theorem L_tri (a b:Str):ltL a b ∨ a = b ∨ ltL b a:=by
  unfold ltL
  by_cases ha:may a = true <;> by_cases hb:may b = true <;> simp only [ha,hb,if_true,if_false,Bool.false_eq_true,true_or,or_true,false_or]
  · rcases Nat.lt_trichotomy (num a) (num b) with h | h | h
    · exact .inl (.inl h)
    · rcases S_tri (caps a) (caps b) with k | k | k
      · exact .inl (.inr ⟨h,k⟩)
      · exact .inr (.inl (may_inj ha hb h k))
      · exact .inr (.inr (.inr ⟨h.symm,k⟩))
    · exact .inr (.inr (.inl h))
  · exact S_tri a b
theorem L_asymm {a b:Str} (h:ltL a b) (k:ltL b a):False:=L_irrefl a (L_trans h k)
theorem cmpL_eq (a b:Str):cmpL a b = (open Classical in if ltL a b then -1 else if a = b then 0 else 1):=by
  classical
  unfold cmpL ltL
  by_cases ha:may a = true <;> by_cases hb:may b = true <;> simp only [ha,hb,if_true,if_false,Bool.false_eq_true,and_true,and_false,and_self]
  · unfold cmpN orI cmpS
    by_cases h:num a < num b
    · have:(num a:Int) < num b:=by omega
      simp [h,this]
    · by_cases k:num a = num b
      · simp only [k,Nat.lt_irrefl,true_and,false_or,Int.lt_irrefl,if_false,if_true]
        by_cases m:caps a < caps b
        · simp [m]
        · by_cases q:caps a = caps b
          · have:=may_inj ha hb k q
            subst this
            simp [m]
          · have:a ≠ b:=fun e=>q (by rw [e])
            simp [m,q,this]
      · have h1:¬ (num a:Int) < num b:=by omega
        have h2:¬ (num a:Int) = num b:=by omega
        have:a ≠ b:=fun e=>k (by rw [e])
        simp [h,k,h1,h2,this]
  · have:a ≠ b:=fun e=>by subst e; simp_all
    simp [this]
  · rfl
theorem cmpL_lt {a b:Str}:cmpL a b < 0 ↔ ltL a b:=by
  rw [cmpL_eq]; split
  · simp_all
  · split <;> simp_all
theorem cmpL_zero {a b:Str}:cmpL a b = 0 ↔ a = b:=by
  rw [cmpL_eq]; split
  · rename_i h
    simp only [Int.reduceNeg,Int.neg_eq_zero,Int.reduceEq,false_iff]
    intro e; subst e; exact L_irrefl _ h
  · split <;> simp_all
theorem cmpL_gt {a b:Str}:0 < cmpL a b ↔ ltL b a:=by
  rw [cmpL_eq]; split
  · rename_i h
    simp only [Int.reduceNeg,Int.reduceLT,false_iff]
    exact fun k=>L_asymm h k
  · split
    · rename_i h k
      subst k
      simp only [Int.lt_irrefl,false_iff]; exact h
    · rename_i h k
      simp only [Int.reduceLT,true_iff]
      rcases L_tri a b with m | m | m
      · exact absurd m h
      · exact absurd m k
      · exact m
theorem cmpL_anti (a b:Str):cmpL b a = - cmpL a b:=by
  rcases L_tri a b with h | h | h
  · have h1:cmpL a b = -1:=by rw [cmpL_eq,if_pos h]
    have h2:¬ ltL b a:=fun k=>L_asymm h k
    have h3:b ≠ a:=fun e=>by subst e; exact L_irrefl _ h
    rw [h1,cmpL_eq,if_neg h2,if_neg h3]; rfl
  · subst h; rw [cmpL_zero.2 rfl]; rfl
  · have h1:cmpL b a = -1:=by rw [cmpL_eq,if_pos h]
    have h2:¬ ltL a b:=fun k=>L_asymm h k
    have h3:a ≠ b:=fun e=>by subst e; exact L_irrefl _ h
    rw [h1,cmpL_eq a b,if_neg h2,if_neg h3]
end Go.VM
namespace Go.VM
open Go
def Cap (s:Str):Prop:=∀ b ∈ s,isU b = true
theorem cap_cons {b:UInt8} {r:Str}:Cap (b :: r) ↔ isU b = true ∧ Cap r:=by simp [Cap]
theorem cap_app {l m:Str}:Cap (l ++ m) ↔ Cap l ∧ Cap m:=by simp [Cap,or_imp,forall_and]
theorem cap_take {l:Str} (h:Cap l) (k:Nat):Cap (l.take k):=fun b hb=>h b (List.mem_of_mem_take hb)
theorem isU_iff {b:UInt8}:isU b = true ↔ 65 ≤ b.toNat ∧ b.toNat ≤ 90:=by simp [isU]
theorem cap_rep (k:Nat):Cap (List.replicate k 65):=fun b hb=>by rw [(List.mem_replicate.1 hb).2]; rfl
theorem cons_lt {a b:UInt8} {l m:Str}:(a :: l) < (b :: m) ↔ a.toNat < b.toNat ∨ (a = b ∧ l < m):=by
  rw [List.cons_lt_cons_iff]; rfl
theorem nil_lt {b:UInt8} {m:Str}:([]:Str) < b :: m:=List.nil_lt_cons _ _
theorem not_lt_nil {l:Str}:¬ l < []:=List.not_lt_nil _
theorem u8_inj {a b:UInt8} (h:a.toNat = b.toNat):a = b:=UInt8.toNat_inj.1 h
theorem inc_nat {b:UInt8} (h:b.toNat < 255):(b + 1).toNat = b.toNat + 1:=by
  rw [UInt8.toNat_add]; show (b.toNat + 1) % 256 = _; omega
theorem eq90 {b:UInt8}:b = 90 ↔ b.toNat = 90:=⟨fun h=>by rw [h]; rfl,fun h=>u8_inj h⟩
theorem inc_U {b:UInt8} (h:isU b = true) (hn:b ≠ 90):isU (b + 1) = true:=by
  rw [isU_iff] at h ⊢
  have:b.toNat ≠ 90:=fun e=>hn (eq90.2 e)
  rw [inc_nat (by omega)]; omega
def sgo (s:Str):Nat → Nat
  | 0=>0
  | k + 1=>if s.getD k 0 = 90 then sgo s k else k + 1
def up (s:Str):Option Str :=
  match sgo s s.length with
  | 0=>none
  | k + 1=>some (s.take k ++ [s.getD k 0 + 1])
theorem sgo_le (s:Str):∀ k,sgo s k ≤ k
  | 0=>Nat.le_refl _
  | k + 1=>by unfold sgo; split; exact Nat.le_succ_of_le (sgo_le s k); exact Nat.le_refl _
theorem sgo_z (s:Str):∀ k j,sgo s k ≤ j → j < k → s.getD j 0 = 90
  | 0,j,_,h=>by omega
  | k + 1,j,h1,h2=>by
    unfold sgo at h1
    split at h1
    · rename_i e
      by_cases hj:j = k
      · subst hj; exact e
      · exact sgo_z s k j h1 (by omega)
    · omega
theorem sgo_n (s:Str):∀ k m,sgo s k = m + 1 → s.getD m 0 ≠ 90
  | 0,m,h=>by simp [sgo] at h
  | k + 1,m,h=>by
    unfold sgo at h
    split at h
    · exact sgo_n s k m h
    · rename_i e; have:m = k:=by omega
      subst this; exact e
def suc:Str → Option Str
  | []=>none
  | b :: r=>match suc r with
    | some r'=>some (b :: r')
    | none=>if b = 90 then none else some ((b + 1) :: List.replicate r.length 65)
theorem rep_min:∀ (d:Str),Cap d → ¬ d < List.replicate d.length 65
  | [],_=>fun h=>not_lt_nil h
  | b :: r,h=>by
    rw [List.length_cons,List.replicate_succ,cons_lt]
    have h1:=(isU_iff.1 (cap_cons.1 h).1)
    have h65:(65:UInt8).toNat = 65:=rfl
    rintro (h2 | ⟨_,h2⟩)
    · omega
    · exact rep_min r (cap_cons.1 h).2 h2
theorem suc_spec : ∀ (p : Str), Cap p → (∀ e, suc p = some e → e.length = p.length ∧ Cap e ∧ p < e ∧ ∀ d, Cap d → d.length = p.length → p < d → ¬ d < e) ∧
    (suc p = none → ∀ d,Cap d → d.length = p.length → ¬ p < d)
  | [],_=>⟨fun e h=>(by cases h),fun _ d _ hl h=>by rw [List.eq_nil_of_length_eq_zero hl] at h; exact not_lt_nil h⟩
  | b :: r,hp=>by
    obtain ⟨hb,hr⟩:=cap_cons.1 hp
    obtain ⟨i1,i2⟩:=suc_spec r hr
    have hb':=isU_iff.1 hb
    unfold suc
    cases hs:suc r with
    | some r' =>
      obtain ⟨j1,j2,j3,j4⟩:=i1 r' hs
      refine ⟨fun e h=>?_,fun h=>by cases h⟩
      cases h
      refine ⟨by simp [j1],cap_cons.2 ⟨hb,j2⟩,cons_lt.2 (.inr ⟨rfl,j3⟩),fun d hd hl h1 h2=>?_⟩
      cases d with
      | nil=>simp at hl
      | cons x q =>
        rw [cons_lt] at h1 h2
        simp only [List.length_cons,Nat.add_right_cancel_iff] at hl
        rcases h1 with h1 | ⟨rfl,h1⟩
        · rcases h2 with h2 | ⟨rfl,h2⟩ <;> omega
        · rcases h2 with h2 | ⟨_,h2⟩
          · omega
          · exact j4 q (cap_cons.1 hd).2 hl h1 h2
    | none =>
      have i2':=i2 hs
      simp only []
      by_cases h90:b = 90
      · rw [if_pos h90]
        refine ⟨fun e h=>(by cases h),fun _ d hd hl h1=>?_⟩
        cases d with
        | nil=>simp at hl
        | cons x q =>
          rw [cons_lt] at h1
          simp only [List.length_cons,Nat.add_right_cancel_iff] at hl
          have:=isU_iff.1 (cap_cons.1 hd).1
          rw [eq90] at h90
          rcases h1 with h1 | ⟨_,h1⟩
          · omega
          · exact i2' q (cap_cons.1 hd).2 hl h1
      · rw [if_neg h90]
        refine ⟨fun e h=>?_,fun h=>by cases h⟩
        cases h
        have e1:=inc_nat (b:=b) (by omega)
        refine ⟨by simp,cap_cons.2 ⟨inc_U hb h90,cap_rep _⟩,cons_lt.2 (.inl (by omega)),fun d hd hl h1 h2=>?_⟩
        cases d with
        | nil=>simp at hl
        | cons x q =>
          rw [cons_lt] at h1 h2
          simp only [List.length_cons,Nat.add_right_cancel_iff] at hl
          rcases h1 with h1 | ⟨rfl,h1⟩
          · rcases h2 with h2 | ⟨rfl,h2⟩
            · omega
            · rw [← hl] at h2; exact rep_min q (cap_cons.1 hd).2 h2
          · exact i2' q (cap_cons.1 hd).2 hl h1
theorem suc_z:∀ (m:Nat),suc (List.replicate m 90) = none
  | 0=>rfl
  | m + 1=>by rw [List.replicate_succ]; unfold suc; rw [suc_z m]; simp
theorem suc_q (x:UInt8) (hx:x ≠ 90) (m:Nat):∀ (q:Str),suc (q ++ x :: List.replicate m 90) = some (q ++ (x + 1) :: List.replicate m 65)
  | []=>by rw [List.nil_append]; unfold suc; rw [suc_z m]; simp [hx]
  | b :: q=>by rw [List.cons_append]; unfold suc; rw [suc_q x hx m q]; rfl
theorem parts (s:Str) (k:Nat) (hk:k < s.length) (hz:∀ j,k + 1 ≤ j → j < s.length → s.getD j 0 = 90):s = s.take k ++ s.getD k 0 :: List.replicate (s.length - (k + 1)) 90:=by
  have h1:s.drop (k + 1) = List.replicate (s.length - (k + 1)) 90:=by
    rw [List.eq_replicate_iff]
    refine ⟨by simp,fun b hb=>?_⟩
    obtain ⟨i,hi,rfl⟩:=List.mem_iff_getElem.1 hb
    rw [List.length_drop] at hi
    have:=hz (k + 1 + i) (by omega) (by omega)
    rw [List.getElem_drop,← this,List.getD_eq_getElem?_getD,List.getElem?_eq_getElem (by omega)]; rfl
  have h2:s.getD k 0 = s[k]:=by rw [List.getD_eq_getElem?_getD,List.getElem?_eq_getElem hk]; rfl
  rw [← h1,h2,List.getElem_cons_drop,List.take_append_drop]
theorem up_some {s t:Str} (h:up s = some t):∃ k,k < s.length ∧ s = s.take k ++ s.getD k 0 :: List.replicate (s.length - (k + 1)) 90 ∧ s.getD k 0 ≠ 90 ∧ t = s.take k ++ [s.getD k 0 + 1]:=by
  unfold up at h
  have h1:=sgo_le s s.length
  have h2:=sgo_z s s.length
  split at h
  · cases h
  · rename_i k hk
    rw [hk] at h1 h2
    cases h
    exact ⟨k,h1,parts s k h1 h2,sgo_n s _ _ hk,rfl⟩
theorem up_none {s:Str} (h:up s = none):s = List.replicate s.length 90:=by
  unfold up at h
  have h2:=sgo_z s s.length
  split at h
  · rename_i hk
    rw [hk] at h2
    rw [List.eq_replicate_iff]
    refine ⟨rfl,fun b hb=>?_⟩
    obtain ⟨i,hi,rfl⟩:=List.mem_iff_getElem.1 hb
    have:=h2 i (by omega) hi
    rw [← this,List.getD_eq_getElem?_getD,List.getElem?_eq_getElem hi]; rfl
  · cases h
theorem up_suc (p:Str):suc p = (up p).map fun t=>t ++ List.replicate (p.length - t.length) 65:=by
  cases h:up p with
  | none=>rw [up_none h,suc_z]; rfl
  | some t =>
    obtain ⟨k,hk,e1,e2,e3⟩:=up_some h
    have hl:t.length = k + 1:=by rw [e3]; simp; omega
    rw [Option.map_some,hl]
    generalize hm:p.length - (k + 1) = m at e1 ⊢
    generalize p.getD k 0 = x at e1 e2 e3
    generalize p.take k = q at e1 e3
    rw [e3,e1,suc_q x e2]
    simp
def made (n:Nat) (c:Str):Option Str:=if n > 9999 then none else some (text n c)
def nextS (s:Str):Option Str :=
  if may s then (match up (caps s) with | some t=>made (num s) t | none=>made (num s + 1) []) else none
def Zaz (s:Str) (k:Nat):Option Str :=
  if (caps s).length < k then made (num s) (caps s ++ List.replicate (k - (caps s).length) 65)
  else match up ((caps s).take k) with
    | some t=>made (num s) (t ++ List.replicate (k - t.length) 65)
    | none=>made (num s + 1) (List.replicate k 65)
theorem pre_lt:∀ (c:Str) (x:UInt8) (r:Str),c < c ++ x :: r
  | [],_,_=>nil_lt
  | b :: c,x,r=>cons_lt.2 (.inr ⟨rfl,pre_lt c x r⟩)
theorem app_min:∀ (c:Str) (m:Nat) (d:Str),Cap d → d.length = c.length + m → c < d → ¬ d < c ++ List.replicate m 65
  | [],m,d,hd,hl,_=>by
    have:m = d.length:=by simp at hl; exact hl.symm
    subst this; exact rep_min d hd
  | b :: c,m,[],hd,hl,h=>fun _=>not_lt_nil h
  | b :: c,m,x :: d,hd,hl,h=>by
    rw [List.cons_append,cons_lt]
    rw [cons_lt] at h
    simp only [List.length_cons] at hl
    rcases h with h | ⟨rfl,h⟩
    · rintro (k | ⟨rfl,_⟩) <;> omega
    · rintro (k | ⟨_,k⟩)
      · omega
      · exact app_min c m d (cap_cons.1 hd).2 (by omega) h k
theorem lt_take:∀ (c d:Str),d.length ≤ c.length → (c < d ↔ c.take d.length < d)
  | c,[],_=>by simp
  | [],x :: d,h=>by simp at h
  | b :: c,x :: d,h=>by
    rw [List.length_cons,List.take_succ_cons,cons_lt,cons_lt,lt_take c d (by simpa using h)]
theorem Zbh {a b:Str} (ha:may a = true) (hb:may b = true):ltL a b ↔ num a < num b ∨ (num a = num b ∧ caps a < caps b):=by
  unfold ltL; simp [ha,hb]
theorem made_some {n:Nat} {c t:Str} (h1:1 ≤ n) (hc:Cap c) (hl:c.length ≤ 3) (h:made n c = some t):may t = true ∧ num t = n ∧ caps t = c:=by
  unfold made at h
  split at h
  · cases h
  · cases h; exact may_text h1 (by omega) hl hc
theorem num_le {s:Str} (h:may s = true):num s ≤ 9999:=(text_may h).2.2.1
theorem num_pos {s:Str} (h:may s = true):1 ≤ num s:=(text_may h).2.1
theorem cap_caps {s:Str} (h:may s = true):Cap (caps s):=(text_may h).2.2.2.2
theorem caps_len {s:Str} (h:may s = true):(caps s).length ≤ 3:=(text_may h).2.2.2.1
theorem behind_some {a t : Str} {k : Nat} (ha : may a = true) (hk : k ≤ 3) (h : Zaz a k = some t) :
    may t = true ∧ (caps t).length = k ∧ ltL a t ∧ (num t = num a ∨ num t = num a + 1) ∧ ∀ s,may s = true → (caps s).length = k → ltL a s → s = t ∨ ltL t s:=by
  have h1:=num_pos ha
  have hc:=cap_caps ha
  have hl:=caps_len ha
  suffices H:may t = true ∧ (caps t).length = k ∧ ltL a t ∧ (num t = num a ∨ num t = num a + 1) ∧ ∀ s,may s = true → (caps s).length = k → ltL a s → ¬ ltL s t by
    obtain ⟨a1,a2,a3,a4,a5⟩:=H
    refine ⟨a1,a2,a3,a4,fun s hs hl h=>?_⟩
    rcases L_tri s t with h' | h' | h'
    · exact absurd h' (a5 s hs hl h)
    · exact .inl h'
    · exact .inr h'
  unfold Zaz at h
  split at h
  · rename_i hlt
    obtain ⟨m1,m2,m3⟩:=made_some h1 (cap_app.2 ⟨hc,cap_rep _⟩) (by simp; omega) h
    refine ⟨m1,by rw [m3]; simp; omega,?_,.inl m2,fun s hs hsl has hst=>?_⟩
    · rw [Zbh ha m1,m2,m3]
      refine .inr ⟨rfl,?_⟩
      obtain ⟨m,hm⟩:∃ m,k - (caps a).length = m + 1:=⟨k - (caps a).length - 1,by omega⟩
      rw [hm,List.replicate_succ]; exact pre_lt _ _ _
    · rw [Zbh ha hs] at has
      rw [Zbh hs m1,m2,m3] at hst
      rcases has with has | ⟨e,has⟩
      · rcases hst with hst | ⟨e2,_⟩ <;> omega
      · rcases hst with hst | ⟨_,hst⟩
        · omega
        · exact app_min (caps a) (k - (caps a).length) (caps s) (cap_caps hs) (by omega) has hst
  · rename_i hge
    have hp:((caps a).take k).length = k:=by simp; omega
    obtain ⟨s1,s2⟩:=suc_spec ((caps a).take k) (cap_take hc k)
    rw [up_suc,hp] at s1 s2
    cases hu:up ((caps a).take k) with
    | some u =>
      rw [hu] at h s1
      obtain ⟨j1,j2,j3,j4⟩:=s1 _ rfl
      obtain ⟨m1,m2,m3⟩:=made_some h1 j2 (by omega) h
      refine ⟨m1,by rw [m3]; omega,?_,.inl m2,fun s hs hsl has hst=>?_⟩
      · rw [Zbh ha m1,m2,m3]
        refine .inr ⟨rfl,?_⟩
        rw [lt_take _ _ (by omega),j1]; exact j3
      · rw [Zbh ha hs] at has
        rw [Zbh hs m1,m2,m3] at hst
        rcases has with has | ⟨e,has⟩
        · rcases hst with hst | ⟨e2,_⟩ <;> omega
        · rcases hst with hst | ⟨_,hst⟩
          · omega
          · rw [lt_take _ _ (by omega),hsl] at has
            exact j4 (caps s) (cap_caps hs) hsl has hst
    | none =>
      rw [hu] at h s2
      have s2':=s2 rfl
      obtain ⟨m1,m2,m3⟩:=made_some (by omega) (cap_rep k) (by simp; omega) h
      refine ⟨m1,by rw [m3]; simp,?_,.inr m2,fun s hs hsl has hst=>?_⟩
      · rw [Zbh ha m1,m2]; exact .inl (by omega)
      · rw [Zbh ha hs] at has
        rw [Zbh hs m1,m2,m3] at hst
        rcases has with has | ⟨e,has⟩
        · rcases hst with hst | ⟨_,hst⟩
          · omega
          · rw [← hsl] at hst; exact rep_min _ (cap_caps hs) hst
        · rw [lt_take _ _ (by omega),hsl] at has
          exact s2' (caps s) (cap_caps hs) hsl has
noncomputable def betS (a b:Str):Nat → Nat → Option Str
  | 0,_=>none
  | f + 1,k=>match Zaz a k with
    | some t=>(if cmpL t b < 0 then some t else betS a b f (k + 1))
    | none=>betS a b f (k + 1)
noncomputable def between (a b:Str):Option Str:=if may a = true ∧ may b = true then betS a b 4 0 else none
end Go.VM
namespace Go.VM
open Go
theorem text_of {t:Str} (h:may t = true):t = text (num t) (caps t):=(text_may h).1
def leL (a b:Str):Prop:=cmpL a b ≤ 0
theorem leL_iff {a b:Str}:leL a b ↔ ¬ ltL b a:=by
  unfold leL; rw [← cmpL_gt]; omega
theorem leL_refl (a:Str):leL a a:=leL_iff.2 (L_irrefl a)
theorem leL_total (a b:Str):leL a b ∨ leL b a:=by
  unfold leL; rw [cmpL_anti a b]; omega
theorem leL_anti {a b:Str} (h:leL a b) (k:leL b a):a = b:=by
  unfold leL at h k; rw [cmpL_anti a b] at k; exact cmpL_zero.1 (by omega)
theorem leL_trans {a b c:Str} (h:leL a b) (k:leL b c):leL a c:=by
  rw [leL_iff] at *
  intro hc
  rcases L_tri a b with e | e | e
  · exact k (L_trans hc e)
  · subst e; exact k hc
  · exact h e
theorem sorted_eq {l m:List Str} (hp:l.Perm m) (hl:l.Pairwise leL) (hm:m.Pairwise leL):l = m:=hp.eq_of_pairwise (fun _ _ _ _=>leL_anti) hl hm
def posL (l:List Str) (s:Str):Nat:=(l.takeWhile fun x=>decide (cmpL x s ≤ 0)).length
def insL (l:List Str) (s:Str):List Str:=l.take (posL l s) ++ s :: l.drop (posL l s)
def sortL (l:List Str):List Str:=l.foldl insL []
theorem takeWhile_eq_take {α:Type} {p:α → Bool}:∀ (l:List α),l.takeWhile p = l.take (l.takeWhile p).length
  | []=>rfl
  | a :: l=>by rw [List.takeWhile_cons]; split; rw [List.length_cons,List.take_succ_cons,← takeWhile_eq_take l]; rfl
theorem drop_takeWhile {α:Type} {p:α → Bool}:∀ (l:List α),l.drop (l.takeWhile p).length = l.dropWhile p
  | []=>rfl
  | a :: l=>by rw [List.takeWhile_cons,List.dropWhile_cons]; split; rw [List.length_cons,List.drop_succ_cons,drop_takeWhile l]; rfl
theorem mem_takeWhile {α:Type} {p:α → Bool}:∀ {l:List α} {a:α},a ∈ l.takeWhile p → p a = true
  | [],_,h=>by cases h
  | b :: l,a,h=>by
    rw [List.takeWhile_cons] at h
    split at h
    · rcases List.mem_cons.1 h with rfl | h
      · assumption
      · exact mem_takeWhile h
    · cases h
theorem insL_perm (l:List Str) (s:Str):(insL l s).Perm (s :: l):=by
  unfold insL
  refine List.perm_middle.trans ?_
  rw [List.take_append_drop]
theorem insL_sorted {l:List Str} (h:l.Pairwise leL) (s:Str):(insL l s).Pairwise leL:=by
  unfold insL posL
  rw [← takeWhile_eq_take,drop_takeWhile]
  generalize hp:(fun x=>decide (cmpL x s ≤ 0)) = p
  have h0:(l.takeWhile p ++ l.dropWhile p).Pairwise leL:=by rw [List.takeWhile_append_dropWhile]; exact h
  obtain ⟨h1,h2,h3⟩:=List.pairwise_append.1 h0
  have hd:∀ x ∈ l.dropWhile p,leL s x:=by
    cases hq:l.dropWhile p with
    | nil=>intro x hx; cases hx
    | cons y r =>
      have hy:p y = false:=by
        have hh:=List.head?_dropWhile_not p l
        rw [hq] at hh; simpa using hh
      have hsy:leL s y:=by
        rw [← hp] at hy
        simp only [decide_eq_false_iff_not] at hy
        unfold leL; rw [cmpL_anti y s]; omega
      rw [hq] at h2
      intro x hx
      rcases List.mem_cons.1 hx with rfl | hx
      · exact hsy
      · exact leL_trans hsy ((List.pairwise_cons.1 h2).1 x hx)
  refine List.pairwise_append.2 ⟨h1,List.pairwise_cons.2 ⟨hd,h2⟩,fun a ha b hb=>?_⟩
  have has:leL a s:=by
    have:=mem_takeWhile ha
    rw [← hp] at this; simpa [leL] using this
  rcases List.mem_cons.1 hb with rfl | hb
  · exact has
  · exact leL_trans has (hd b hb)
theorem foldl_ins:∀ (l out:List Str),out.Pairwise leL → (l.foldl insL out).Pairwise leL ∧ (l.foldl insL out).Perm (out ++ l)
  | [],out,h=>⟨h,by simp⟩
  | a :: l,out,h=>by
    obtain ⟨h1,h2⟩:=foldl_ins l (insL out a) (insL_sorted h a)
    refine ⟨h1,h2.trans ?_⟩
    have h3:=(insL_perm out a).append_right l
    exact h3.trans (List.perm_middle (l₁:=out) (a:=a) (l₂:=l)).symm
theorem sortL_ok (l:List Str):(sortL l).Pairwise leL ∧ (sortL l).Perm l:=by
  have:=foldl_ins l [] .nil
  simpa [sortL] using this
theorem sortL_len (l:List Str):(sortL l).length = l.length:=(sortL_ok l).2.length_eq
theorem sortL_step (l:List Str) (k:Nat) (hk:k < l.length):sortL (l.take (k + 1)) = insL (sortL (l.take k)) l[k]:=by
  unfold sortL
  rw [List.take_add_one,List.getElem?_eq_getElem hk,Option.toList_some,List.foldl_append]; rfl
end Go.VM
namespace Go.VM
open Go Go.Sort
abbrev SmS:={s:Str // s.length ≤ 1000000}
instance : Inhabited SmS := ⟨⟨[], by simp⟩⟩
def cfS (x y:SmS):Int:=cmpL x.1 y.1
theorem ltS (x y:SmS):Go.Proofs.ltOf cfS x y = true ↔ ltL x.1 y.1:=by
  unfold Go.Proofs.ltOf cfS
  rw [decide_eq_true_iff]
  exact cmpL_lt
theorem ltS_no (x y:SmS):Go.Proofs.ltOf cfS x y = false ↔ leL y.1 x.1:=by
  rw [← Bool.not_eq_true,ltS,leL_iff]
theorem swoS:SWO (Go.Proofs.ltOf cfS) where
  irrefl x:=by rw [ltS_no]; exact leL_refl _
  trans x y z h1 h2:=by rw [ltS] at *; exact L_trans h1 h2
  ntrans x y z h1 h2:=by rw [ltS_no] at *; exact leL_trans h2 h1
theorem sepS (x y:SmS) (h1:Go.Proofs.ltOf cfS x y = false) (h2:Go.Proofs.ltOf cfS y x = false):x = y:=by
  rw [ltS_no] at h1 h2
  exact Subtype.ext (leL_anti h2 h1)
theorem sortS_eq (l:List SmS):(l.mergeSort fun x y=>!(Go.Proofs.ltOf cfS) y x).map (·.1) = sortL (l.map (·.1)):=by
  have hs:(l.mergeSort fun x y=>!(Go.Proofs.ltOf cfS) y x).Pairwise fun x y=>(!(Go.Proofs.ltOf cfS) y x) = true:=by
    refine List.pairwise_mergeSort (fun a b c h1 h2=>?_) (fun a b=>?_) l
    · rw [Bool.not_eq_true',ltS_no] at *
      exact leL_trans h1 h2
    · rw [Bool.or_eq_true,Bool.not_eq_true',Bool.not_eq_true',ltS_no,ltS_no]
      exact leL_total _ _
  refine sorted_eq (((List.mergeSort_perm _ _).map _).trans (sortL_ok _).2.symm) ?_ (sortL_ok _).1
  rw [List.pairwise_map]
  refine hs.imp fun {x y} h=>?_
  rw [Bool.not_eq_true',ltS_no] at h
  exact h
end Go.VM
