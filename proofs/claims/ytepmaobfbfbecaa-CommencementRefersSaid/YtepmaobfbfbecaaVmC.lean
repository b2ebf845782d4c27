/-
  The value machine, 12: a region that draws its order.
-/
import Derived.Test.YtepmaobfbfbecaaVmB
set_option linter.all false
namespace Go.VM
open Go

/-! ### what an operation reads -/
/-- e and e' agree on these. -/
def Agree (l : List VA) (e e' : Env) : Prop := ∀ a ∈ l, a.ev e = a.ev e'
theorem Agree.map {l : List VA} {e e' : Env} (h : Agree l e e') : l.map (VA.ev e) = l.map (VA.ev e') := List.map_congr_left h
theorem fill_congr {e e' : Env} : ∀ (ps : List (Nat × Nat × VA)) (cs : List PV), Agree (ps.map fun p => p.2.2) e e' → fillV e cs ps = fillV e' cs ps
  | [], _, _ => rfl
  | (o, s, a) :: r, cs, h => by
    simp only [fillV]
    rw [h a (by simp), fill_congr r _ (fun x hx => h x (by simp only [List.map_cons, List.mem_cons]; exact .inr hx))]
theorem fillOk_congr {e e' : Env} (n : Nat) : ∀ (ps : List (Nat × Nat × VA)), Agree (ps.map fun p => p.2.2) e e' → fillOk e n ps = fillOk e' n ps
  | [], _ => rfl
  | (o, s, a) :: r, h => by
    simp only [fillOk]
    rw [h a (by simp), fillOk_congr n r (fun x hx => h x (by simp only [List.map_cons, List.mem_cons]; exact .inr hx))]
theorem elems_congr {e e' : Env} : ∀ (ps : List (Nat × VA)) (rows : List (List PV)), Agree (ps.map fun p => p.2) e e' → elemsV e rows ps = elemsV e' rows ps
  | [], _, _ => rfl
  | (i, a) :: r, rows, h => by
    simp only [elemsV]
    rw [h a (by simp), elems_congr r _ (fun x hx => h x (by simp only [List.map_cons, List.mem_cons]; exact .inr hx))]
theorem elemsOk_congr {e e' : Env} (z n : Nat) : ∀ (ps : List (Nat × VA)), Agree (ps.map fun p => p.2) e e' → elemsOk e z n ps = elemsOk e' z n ps
  | [], _ => rfl
  | (i, a) :: r, h => by
    simp only [elemsOk]
    rw [h a (by simp), elemsOk_congr z n r (fun x hx => h x (by simp only [List.map_cons, List.mem_cons]; exact .inr hx))]
theorem opt_congr {e e' : Env} (o : Option VA) (h : ∀ a ∈ o.toList, a.ev e = a.ev e') : o.map (VA.ev e) = o.map (VA.ev e') := by
  cases o with
  | none => rfl
  | some a => simp [h a (by simp)]

theorem pval_congr {e e' : Env} {h : Heap} {op : VOp} (ha : Agree op.vas e e') : pval e h op = pval e' h op := by
  cases op <;> simp only [VOp.vas, Agree, List.mem_cons, List.not_mem_nil, or_false, forall_eq_or_imp, forall_eq] at ha <;> simp only [pval]
  case mv a => rw [ha]
  case un op a => rw [ha]
  case conv k a => rw [ha]
  case strid a => rw [ha]
  case faddr o a => rw [ha]
  case fld g o s a => rw [ha]
  case ext a i => rw [ha]
  case len st a => rw [ha]
  case mlen a => rw [ha]
  case lookup kk zr ok a b => rw [ha.1, ha.2]
  case load g s a => rw [ha]
  case pick a b c => rw [ha.1, ha.2.1, ha.2.2]
  case build zr ps => rw [fill_congr ps zr ha]
  case bin op a b => rw [ha.1, ha.2]
  case binb op a b => rw [ha.1, ha.2]
  case eqs n ks a b => rw [ha.1, ha.2]
  case iaddr z a b => rw [ha.1, ha.2]
  case idx a b => rw [ha.1, ha.2]
  case mkfn f x y =>
    rw [List.map_congr_left (fun a h => ha a (List.mem_append_left _ h)), List.map_congr_left (f := VA.ev e) (g := VA.ev e') (fun a h => ha a (List.mem_append_right _ h))]
  case slice st z a lo hi =>
    rw [ha.1, opt_congr lo (fun x hx => ha.2 x (List.mem_append_left _ hx)), opt_congr hi (fun x hx => ha.2 x (List.mem_append_right _ hx))]
  case px k l => rw [Agree.map (l := l) ha]
  case mm mx l =>
    match l, ha with
    | [], _ => rfl
    | [a], _ => rfl
    | [a, b], ha => simp only [List.mem_cons, List.not_mem_nil, or_false, forall_eq_or_imp, forall_eq] at ha; show mmV mx (a.ev e) (b.ev e) = mmV mx (a.ev e') (b.ev e'); rw [ha.1, ha.2]
    | _ :: _ :: _ :: _, _ => rfl
theorem pok_congr {e e' : Env} {h : Heap} {op : VOp} (ha : Agree op.vas e e') : pok e h op = pok e' h op := by
  cases op <;> simp only [VOp.vas, Agree, List.mem_cons, List.not_mem_nil, or_false, forall_eq_or_imp, forall_eq] at ha <;> simp only [pok]
  case un op a => rw [ha]
  case conv k a => rw [ha]
  case strid a => rw [ha]
  case faddr o a => rw [ha]
  case fld g o s a => rw [ha]
  case ext a i => rw [ha]
  case len st a => rw [ha]
  case mlen a => rw [ha]
  case lookup kk zr ok a b => rw [ha.1, ha.2]
  case load g s a => rw [ha]
  case pick a b c => rw [ha.1]
  case build zr ps => rw [fillOk_congr _ ps ha]
  case bin op a b => rw [ha.1, ha.2]
  case binb op a b => rw [ha.1, ha.2]
  case eqs n ks a b => rw [ha.1, ha.2]
  case iaddr z a b => rw [ha.1, ha.2]
  case idx a b => rw [ha.1, ha.2]
  case slice st z a lo hi =>
    rw [ha.1, opt_congr lo (fun x hx => ha.2 x (List.mem_append_left _ hx)), opt_congr hi (fun x hx => ha.2 x (List.mem_append_right _ hx))]
  case px k l => rw [Agree.map (l := l) ha]
  case mm mx l =>
    match l, ha with
    | [], _ => rfl
    | [a], _ => rfl
    | [a, b], ha => simp only [List.mem_cons, List.not_mem_nil, or_false, forall_eq_or_imp, forall_eq] at ha; show (isInt (a.ev e) ∧ isInt (b.ev e)) = (isInt (a.ev e') ∧ isInt (b.ev e')); rw [ha.1, ha.2]
    | _ :: _ :: _ :: _, _ => rfl
theorem StepW_congr {P : Program} {e e' : Env} {h : Heap} {op : VOp} {K : PV → Heap → Prop} (hc : op.closed = true) (ha : Agree op.vas e e') : StepW P e h op K = StepW P e' h op K := by
  have h1 := pval_congr (h := h) ha
  have h2 := pok_congr (h := h) ha
  cases op <;> simp only [VOp.vas, Agree, List.mem_cons, List.not_mem_nil, or_false, forall_eq_or_imp, forall_eq] at ha <;> simp only [StepW] <;> (try (rw [h1, h2]; done))
  case box n a => rw [ha]
  case bslice z n zr ps => rw [elemsOk_congr z n ps ha, elems_congr ps _ ha]
  case store s a b => rw [ha.1, ha.2]
  case mapset kk a b c => rw [ha.1, ha.2.1, ha.2.2]
  case app z b zr st x y => rw [ha.1, ha.2]
  case call f l => rw [Agree.map ha]
  case callv f l => rw [ha.1, Agree.map (l := l) ha.2]
  case fx k l => rw [Agree.map (l := l) ha]
  case nd neg a => rw [ha]
  case other o => simp [VOp.closed] at hc
theorem StepW.mono {P : Program} {e : Env} {h : Heap} {op : VOp} {K K' : PV → Heap → Prop} (hk : ∀ v h, K v h → K' v h) (H : StepW P e h op K) : StepW P e h op K' := by
  cases op <;> simp only [StepW] at H ⊢ <;> first
    | exact ⟨H.1, hk _ _ H.2⟩
    | exact ⟨H.1, fun b h1 h2 => hk _ _ (H.2 b h1 h2)⟩
    | exact hk _ _ H
    | exact ⟨H.1, H.2.1, hk _ _ H.2.2⟩
    | exact ⟨H.1, H.2.1, H.2.2.1, H.2.2.2.1, hk _ _ H.2.2.2.2⟩
    | exact ACall.mono H hk
    | (split at H <;> first | exact ACall.mono H hk | exact H)
    | exact fun g w a next Q r he hn => H g w a next Q r he (fun v pv g' w' h' k => hn v pv g' w' h' (hk _ _ k))
    | exact H

theorem notNil_isNil {p : PV} (h : notNil p = true) : isNil p = false := by
  cases p <;> first | rfl | (simp [notNil] at h)
/-- What stands outside such a step. -/
theorem StepW.out {P : Program} {e : Env} {h : Heap} {op : VOp} {K : PV → Heap → Prop} {A : Prop} (hs : op.simple = true) (H : StepW P e h op (fun v h' => A ∧ K v h')) : A := by
  cases op <;> simp only [VOp.simple] at hs <;> simp only [StepW] at H <;> first
    | exact H.1
    | exact H.2.1
    | exact H.2.2.1
    | exact H.2.2.2.2.1
    | exact (H.2 (isNil _) (fun h => h) (fun h => notNil_isNil h)).1
    | cases hs

/-! ### the quiet ones -/
def QuietV (P : Program) (hq : Heap) (e : Env) (op : VOp) (v : PV) : Prop :=
  match op with
  | .call f args => PureCall P f (args.map (VA.ev e)) hq v
  | .callv f args => (match f.ev e with
    | .fn (.func f) first cap => PureCall P f (first ++ args.map (VA.ev e) ++ cap) hq v
    | _ => False)
  | .bslice z n zr ps => elemsOk e z n ps ∧ v = .sl z (elemsV e (List.replicate n zr) ps)
  | op => op.pure = true ∧ pok e hq op ∧ v = pval e hq op
theorem QuietV_congr {P : Program} {hq : Heap} {e e' : Env} {op : VOp} {v : PV} (hc : op.closed = true) (ha : Agree op.vas e e') : QuietV P hq e op v = QuietV P hq e' op v := by
  have h1 := pval_congr (h := hq) ha
  have h2 := pok_congr (h := hq) ha
  cases op <;> simp only [VOp.vas, Agree, List.mem_cons, List.not_mem_nil, or_false, forall_eq_or_imp, forall_eq] at ha <;> simp only [QuietV] <;> (try (rw [h1, h2]; done))
  case bslice z n zr ps => rw [elemsOk_congr z n ps ha, elems_congr ps _ ha]
  case call f l => rw [Agree.map ha]
  case callv f l => rw [ha.1, Agree.map (l := l) ha.2]
def dval (e : Env) (hq : Heap) : VOp → PV
  | .bslice z n zr ps => .sl z (elemsV e (List.replicate n zr) ps)
  | op => pval e hq op
theorem QuietV.det {P : Program} {hq : Heap} {e : Env} {op : VOp} {v : PV} (hd : op.det = true) (h : QuietV P hq e op v) : v = dval e hq op := by
  cases op <;> simp only [VOp.det, VOp.pure] at hd <;> first | exact h.2.2 | exact h.2 | cases hd
theorem dval_congr {hq : Heap} {e e' : Env} {op : VOp} (ha : Agree op.vas e e') : dval e hq op = dval e' hq op := by
  have h1 := pval_congr (h := hq) ha
  cases op <;> first | exact h1 | skip
  rename_i z n zr ps
  simp only [dval]
  rw [elems_congr ps _ ha]

/-! ### one step, in whatever order -/
def gOf (o : VOper) (e : Env) (c : Bool) : Prop := match o.guard with | none => c = true | some (d, want) => guardOf want (e.get d) = some c
def AStep (P : Program) (hqf : Nat → Heap) (Z : Nat → Heap → Heap → Prop) (E : List Nat) (i : Nat) (o : VOper) (e : Env) (h : Heap) (K : Env → Heap → Prop) : Prop :=
  if i ∈ E then o.guard = none ∧ StepW P e h o.op (fun v h' => Z i h h' ∧ K (e.put o.dst v) h')
  else ∃ c, gOf o e c ∧ ∃ v, (c = true → QuietV P (hqf i) e o.op v) ∧ K (e.put o.dst (gd c v)) h
theorem agree_put {o : VOper} {e : Env} {d : Option Nat} {v : PV} (hd : ∀ t, d = some t → t ∉ o.reads) : Agree o.op.vas (e.put d v) e ∧ ∀ c, gOf o (e.put d v) c ↔ gOf o e c := by
  cases d with
  | none => exact ⟨fun _ _ => rfl, fun _ => Iff.rfl⟩
  | some t =>
    have ht := hd t rfl
    constructor
    · intro a ha
      cases a with
      | c p => rfl
      | t n =>
        have hne : t ≠ n := by
          rintro rfl
          exact ht (List.mem_append_left _ (List.mem_filterMap.2 ⟨_, ha, rfl⟩))
        simp [VA.ev, Env.put, Env.get, hne]
    · intro c
      unfold gOf
      cases hg : o.guard with
      | none => exact Iff.rfl
      | some dw =>
        obtain ⟨d, want⟩ := dw
        have hne : t ≠ d := by
          rintro rfl
          exact ht (List.mem_append_right _ (by rw [hg]; simp))
        simp [Env.put, Env.get, hne]
theorem apart_spec {x y : VOper} (h : x.apart y = true) : (∀ t, x.dst = some t → t ∉ y.reads) ∧ (∀ t, y.dst = some t → t ∉ x.reads) ∧ ∀ t, x.dst = some t → y.dst ≠ some t := by
  simp only [VOper.apart, Bool.and_eq_true] at h
  obtain ⟨h1, h2⟩ := h
  refine ⟨fun t ht => ?_, fun t ht => ?_, fun t ht => ?_⟩
  · rw [ht] at h1; simp at h1; exact h1.1
  · rw [ht] at h2; simpa using h2
  · rw [ht] at h1; simp at h1; exact h1.2
def Env.eqv (e e' : Env) : Prop := ∀ t, e.get t = e'.get t
theorem put_swap (e : Env) {x y : Option Nat} (u v : PV) (h : ∀ t, x = some t → y ≠ some t) : ((e.put x u).put y v).eqv ((e.put y v).put x u) := by
  intro t
  cases x with
  | none => rfl
  | some a =>
    cases y with
    | none => rfl
    | some b =>
      have hab : a ≠ b := fun hh => h a rfl (by rw [hh])
      simp only [Env.put, Env.get]
      by_cases h1 : b = t
      · subst h1; simp [hab]
      · simp [h1]
def Inv (K : Env → Heap → Prop) : Prop := ∀ e e' h, e.eqv e' → K e h → K e' h
theorem eqv_put {e e' : Env} (h : e.eqv e') (d : Option Nat) (v : PV) : (e.put d v).eqv (e'.put d v) := by
  intro t
  cases d with
  | none => exact h t
  | some a => simp only [Env.put, Env.get]; rw [h t]
theorem eqv_ev {e e' : Env} (h : e.eqv e') (a : VA) : a.ev e = a.ev e' := by
  cases a with
  | t n => exact h n
  | c p => rfl
theorem eqv_gOf {e e' : Env} (h : e.eqv e') (o : VOper) (c : Bool) : gOf o e c ↔ gOf o e' c := by
  unfold gOf
  split
  · exact Iff.rfl
  · rw [h]
section
variable {P : Program} {hqf : Nat → Heap} {Z : Nat → Heap → Heap → Prop} {E : List Nat}
theorem AStep.mono {i : Nat} {o : VOper} {e : Env} {h : Heap} {K K' : Env → Heap → Prop} (hk : ∀ e h, K e h → K' e h) (H : AStep P hqf Z E i o e h K) : AStep P hqf Z E i o e h K' := by
  unfold AStep at *
  split
  · rename_i hi
    rw [if_pos hi] at H
    exact ⟨H.1, H.2.mono fun v h' k => ⟨k.1, hk _ _ k.2⟩⟩
  · rename_i hi
    rw [if_neg hi] at H
    obtain ⟨c, h1, v, h2, h3⟩ := H
    exact ⟨c, h1, v, h2, hk _ _ h3⟩
theorem AStep.inv {i : Nat} {o : VOper} (hc : o.op.closed = true) {K : Env → Heap → Prop} (hK : Inv K) : Inv (fun e h => AStep P hqf Z E i o e h K) := by
  intro e e' h hee H
  unfold AStep at *
  have ha : Agree o.op.vas e e' := fun a _ => eqv_ev hee a
  split
  · rename_i hi
    rw [if_pos hi] at H
    refine ⟨H.1, ?_⟩
    rw [← StepW_congr hc ha]
    exact H.2.mono fun v h' k => ⟨k.1, hK _ _ _ (eqv_put hee _ _) k.2⟩
  · rename_i hi
    rw [if_neg hi] at H
    obtain ⟨c, h1, v, h2, h3⟩ := H
    refine ⟨c, (eqv_gOf hee o c).1 h1, v, fun hh => ?_, hK _ _ _ (eqv_put hee _ _) h3⟩
    rw [← QuietV_congr hc ha]; exact h2 hh

theorem AStep_E {i : Nat} (hi : i ∈ E) {o : VOper} {e : Env} {h : Heap} {K : Env → Heap → Prop} : AStep P hqf Z E i o e h K ↔ (o.guard = none ∧ StepW P e h o.op (fun v h' => Z i h h' ∧ K (e.put o.dst v) h')) := by
  unfold AStep; rw [if_pos hi]
theorem AStep_q {i : Nat} (hi : i ∉ E) {o : VOper} {e : Env} {h : Heap} {K : Env → Heap → Prop} : AStep P hqf Z E i o e h K ↔ ∃ c, gOf o e c ∧ ∃ v, (c = true → QuietV P (hqf i) e o.op v) ∧ K (e.put o.dst (gd c v)) h := by
  unfold AStep; rw [if_neg hi]
/-- Two that are apart may change places. -/
theorem AStep.swap {i j : Nat} {oi oj : VOper} {e : Env} {h : Heap} {K : Env → Heap → Prop} (hK : Inv K) (hap : oi.apart oj = true) (ci : oi.op.closed = true) (cj : oj.op.closed = true)
    (hE : ¬ (i ∈ E ∧ j ∈ E)) (hs : i ∈ E → oi.op.simple = true ∧ oj.op.det = true) (H : AStep P hqf Z E i oi e h (fun e1 h1 => AStep P hqf Z E j oj e1 h1 K)) :
    AStep P hqf Z E j oj e h (fun e1 h1 => AStep P hqf Z E i oi e1 h1 K) := by
  obtain ⟨a1, a2, a3⟩ := apart_spec hap
  have gi : ∀ v, Agree oi.op.vas (e.put oj.dst v) e ∧ ∀ c, gOf oi (e.put oj.dst v) c ↔ gOf oi e c := fun v => agree_put a2
  have gj : ∀ v, Agree oj.op.vas (e.put oi.dst v) e ∧ ∀ c, gOf oj (e.put oi.dst v) c ↔ gOf oj e c := fun v => agree_put a1
  by_cases hi : i ∈ E
  · have hj : j ∉ E := fun hj => hE ⟨hi, hj⟩
    obtain ⟨s1, s2⟩ := hs hi
    obtain ⟨h1, h2⟩ := (AStep_E hi).1 H
    have key : ∃ c, gOf oj e c ∧ (c = true → QuietV P (hqf j) e oj.op (dval e (hqf j) oj.op)) := by
      refine StepW.out (K := fun _ _ => True) s1 (h2.mono fun v h' k => ⟨?_, trivial⟩)
      obtain ⟨c, c1, v', c2, c3⟩ := (AStep_q hj).1 k.2
      refine ⟨c, ((gj v).2 c).1 c1, fun hh => ?_⟩
      have hv := c2 hh
      have e1 := hv.det s2
      rw [QuietV_congr cj (gj v).1] at hv
      rw [dval_congr (gj v).1] at e1
      rw [← e1]; exact hv
    obtain ⟨c, c1, c2⟩ := key
    refine (AStep_q hj).2 ⟨c, c1, dval e (hqf j) oj.op, c2, ?_⟩
    refine (AStep_E hi).2 ⟨h1, ?_⟩
    rw [StepW_congr ci (gi _).1]
    refine h2.mono fun v h' k => ⟨k.1, ?_⟩
    obtain ⟨c', d1, v', d2, d3⟩ := (AStep_q hj).1 k.2
    have hcc : c' = c := by
      have := ((gj v).2 c').1 d1
      unfold gOf at this c1
      cases hg : oj.guard with
      | none => rw [hg] at this c1; rw [this, c1]
      | some dw => rw [hg] at this c1; simp only at this c1; rw [this] at c1; exact Option.some.inj c1
    subst hcc
    have hgd : gd c' v' = gd c' (dval e (hqf j) oj.op) := by
      cases c'
      · rfl
      · have := (d2 rfl).det s2
        rw [dval_congr (gj v).1] at this
        simp [gd, this]
    rw [hgd] at d3
    exact hK _ _ _ (put_swap e _ _ a3) d3
  · obtain ⟨c, c1, v, c2, H⟩ := (AStep_q hi).1 H
    by_cases hj : j ∈ E
    · obtain ⟨h1, h2⟩ := (AStep_E hj).1 H
      refine (AStep_E hj).2 ⟨h1, ?_⟩
      rw [StepW_congr cj (gj _).1] at h2
      refine h2.mono fun u h' k => ⟨k.1, ?_⟩
      refine (AStep_q hi).2 ⟨c, ((gi u).2 c).2 c1, v, fun hh => ?_, hK _ _ _ (put_swap e _ _ a3) k.2⟩
      rw [QuietV_congr ci (gi u).1]; exact c2 hh
    · obtain ⟨c', d1, u, d2, d3⟩ := (AStep_q hj).1 H
      refine (AStep_q hj).2 ⟨c', ((gj _).2 c').1 d1, u, fun hh => ?_, ?_⟩
      · have := d2 hh
        rw [QuietV_congr cj (gj _).1] at this; exact this
      · refine (AStep_q hi).2 ⟨c, ((gi _).2 c).2 c1, v, fun hh => ?_, hK _ _ _ (put_swap e _ _ a3) d3⟩
        rw [QuietV_congr ci (gi _).1]; exact c2 hh
end
end Go.VM

