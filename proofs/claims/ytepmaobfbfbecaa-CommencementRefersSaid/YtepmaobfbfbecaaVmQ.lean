/-
  The value machine: small laws that the walks use.
-/
import Derived.Test.YtepmaobfbfbecaaVmK
set_option linter.all false
namespace Go.VM
open Go
theorem rowm {α : Type} {l : List α} {enc : α → List PV} {k : Nat} (h : k < l.length) : (l.map enc).getD k [] = enc l[k] := by
  simp [List.getD_eq_getElem?_getD, h]
theorem w64 {n : Int} (h1 : -9223372036854775808 ≤ n) (h2 : n ≤ 9223372036854775807) : IntKind.i64.wrap n = n := by
  simp only [IntKind.wrap, IntKind.signed, IntKind.bits]
  simp
  omega
theorem i64_iff {n : Int} : i64 n ↔ -9223372036854775808 ≤ n ∧ n ≤ 9223372036854775807 := by
  simp [i64, Lit.wf, IntKind.min, IntKind.max, IntKind.signed, IntKind.bits]
theorem neg64 {n : Int} (h1 : -9223372036854775807 ≤ n) (h2 : n ≤ 9223372036854775807) : IntKind.i64.wrap (0 - n) = -n := by
  rw [w64 (by omega) (by omega)]; omega
theorem natI_lt {a b : Nat} : ((a : Int) < (b : Int)) ↔ a < b := Int.ofNat_lt
noncomputable def eqB {α : Type} (a b : α) : Bool := @decide (a = b) (Classical.propDecidable _)
theorem eqB_t {α : Type} {a b : α} (h : a = b) : eqB a b = true := by simp [eqB, h]
theorem eqB_f {α : Type} {a b : α} (h : a ≠ b) : eqB a b = false := by simp [eqB, h]
theorem eqB_iff {α : Type} {a b : α} : eqB a b = true ↔ a = b := by simp [eqB]
theorem len_ne {α : Type} {a b : List α} (h : a.length ≠ b.length) : a ≠ b := fun e => h (by rw [e])
theorem take_step {α : Type} {a b : List α} {k : Nat} (h : a.take k = b.take k) (ha : k < a.length) (hb : k < b.length) (he : a[k] = b[k]) : a.take (k + 1) = b.take (k + 1) := by
  rw [List.take_add_one, List.take_add_one, h]; simp [ha, hb, he]
theorem get_ne {α : Type} {a b : List α} {k : Nat} (ha : k < a.length) (hb : k < b.length) (he : a[k] ≠ b[k]) : a ≠ b := by
  rintro rfl; exact he rfl
theorem take_all {α : Type} {a b : List α} (hl : a.length = b.length) (h : a.take a.length = b.take a.length) : a = b := by
  rw [List.take_length] at h
  rw [h, List.take_of_length_le (by omega)]
section
variable {P : Program} {f : FuncId} {args : List PV} {h : Heap} {K : PV → Heap → Prop}
end
section
variable {P : Program} {N : Nat} {Q : Exit → Env → Heap → Prop} {K : Env → Heap → Prop} {e : Env} {h : Heap} {dst : Option Nat} {op : VOp} {d : Nat} {w : Bool} {r : List VOper}
theorem OpsW_nil : OpsW P [] K e h = K e h := rfl
theorem OpsW_n : OpsW P (⟨dst, op, none⟩ :: r) K e h = StepW P e h op (fun v h' => OpsW P r K (e.put dst v) h') := rfl
theorem GuardW_true {K : PV → Heap → Prop} : GuardW P e h op true K = StepW P e h op K := by
  unfold GuardW
  cases hp : op.pure
  · simp
  · simp only [gd, if_true, true_implies]
    cases op <;> first | rfl | simp [VOp.pure] at hp
theorem GuardW_false {K : PV → Heap → Prop} : GuardW P e h op false K = K .undef h := by
  unfold GuardW
  cases hp : op.pure
  · simp
  · simp [gd]
theorem OpsW_y (hd : e.get d = .bool w) : OpsW P (⟨dst, op, some (d, w)⟩ :: r) K e h = StepW P e h op (fun v h' => OpsW P r K (e.put dst v) h') := by
  simp only [OpsW, hd, guardOf, beq_self_eq_true, GuardW_true]
theorem OpsW_x (hd : e.get d = .bool (!w)) : OpsW P (⟨dst, op, some (d, w)⟩ :: r) K e h = OpsW P r K (e.put dst .undef) h := by
  have : ((!w) == w) = false := by cases w <;> rfl
  simp only [OpsW, hd, guardOf, this, GuardW_false]
theorem OpsW_xt (hd : e.get d = .bool false) : OpsW P (⟨dst, op, some (d, true)⟩ :: r) K e h = OpsW P r K (e.put dst .undef) h := OpsW_x hd
theorem OpsW_xf (hd : e.get d = .bool true) : OpsW P (⟨dst, op, some (d, false)⟩ :: r) K e h = OpsW P r K (e.put dst .undef) h := OpsW_x hd
theorem OpsW_u (hd : e.get d = .undef) : OpsW P (⟨dst, op, some (d, w)⟩ :: r) K e h = OpsW P r K (e.put dst .undef) h := by
  simp only [OpsW, hd, guardOf, GuardW_false]
/-- A guard that is not known yet: both ways. -/
theorem OpsW_split {X : Bool} (hd : e.get d = .bool X) (H1 : X = w → StepW P e h op (fun v h' => OpsW P r K (e.put dst v) h')) (H0 : X = (!w) → OpsW P r K (e.put dst .undef) h) : OpsW P (⟨dst, op, some (d, w)⟩ :: r) K e h := by
  by_cases hx : X = w
  · subst hx; rw [OpsW_y hd]; exact H1 rfl
  · have hx' : X = (!w) := by cases X <;> cases w <;> simp_all
    subst hx'; rw [OpsW_x hd]; exact H0 rfl
theorem OpsW.mono {K' : Env → Heap → Prop} (hk : ∀ e h, K e h → K' e h) : ∀ {q : List VOper} {e : Env} {h : Heap}, OpsW P q K e h → OpsW P q K' e h
  | [], _, _, H => hk _ _ H
  | ⟨dst, op, none⟩ :: r, e, h, H => by
    rw [OpsW_n] at H ⊢
    exact StepW.mono (fun _ _ H' => OpsW.mono hk H') H
  | ⟨dst, op, some (d, w)⟩ :: r, e, h, H => by
    simp only [OpsW] at H ⊢
    split at H
    · rename_i c hc
      cases c
      · rw [GuardW_false] at H ⊢; exact OpsW.mono hk H
      · rw [GuardW_true] at H ⊢; exact StepW.mono (fun _ _ H' => OpsW.mono hk H') H
    · exact H.elim
theorem QW_false {hq : Heap} {K : PV → Prop} : QW P hq e op false K = K .undef := by
  unfold QW
  cases op.det
  · simp [gd]
  · simp [gd]
theorem DrawW_y {hq : Heap} (hd : e.get d = .bool w) : DrawW P hq (⟨dst, op, some (d, w)⟩ :: r) K e h = (match op.simple with
    | true => False
    | false => QW P hq e op true (fun v => DrawW P hq r K (e.put dst v) h)) := by
  cases hs : op.simple <;> simp only [DrawW, hs, hd, guardOf, beq_self_eq_true]
theorem DrawW_x {hq : Heap} (hd : e.get d = .bool (!w)) : DrawW P hq (⟨dst, op, some (d, w)⟩ :: r) K e h = (match op.simple with
    | true => False
    | false => DrawW P hq r K (e.put dst .undef) h) := by
  have : ((!w) == w) = false := by cases w <;> rfl
  cases hs : op.simple <;> simp only [DrawW, hs, hd, guardOf, this, QW_false]
theorem DrawW_u {hq : Heap} (hd : e.get d = .undef) : DrawW P hq (⟨dst, op, some (d, w)⟩ :: r) K e h = (match op.simple with
    | true => False
    | false => DrawW P hq r K (e.put dst .undef) h) := by
  cases hs : op.simple <;> simp only [DrawW, hs, hd, guardOf, QW_false]
theorem DrawW_xt {hq : Heap} (hd : e.get d = .bool false) : DrawW P hq (⟨dst, op, some (d, true)⟩ :: r) K e h = (match op.simple with
    | true => False
    | false => DrawW P hq r K (e.put dst .undef) h) := DrawW_x hd
theorem DrawW_xf {hq : Heap} (hd : e.get d = .bool true) : DrawW P hq (⟨dst, op, some (d, false)⟩ :: r) K e h = (match op.simple with
    | true => False
    | false => DrawW P hq r K (e.put dst .undef) h) := DrawW_x hd
theorem DrawW_nil {hq : Heap} : DrawW P hq [] K e h = K e h := rfl
theorem DrawW_n {hq : Heap} : DrawW P hq (⟨dst, op, none⟩ :: r) K e h = (match op.simple with
    | true => StepW P e h op (fun v h' => hq.le h' ∧ DrawW P hq r K (e.put dst v) h')
    | false => QW P hq e op true (fun v => DrawW P hq r K (e.put dst v) h)) := by
  cases hs : op.simple <;> simp only [DrawW, hs]
/-- A guard that is not known yet, where the order is drawn. -/
theorem DrawW_split {hq : Heap} {X : Bool} (hs : op.simple = false) (hd : e.get d = .bool X) (H1 : X = w → QW P hq e op true (fun v => DrawW P hq r K (e.put dst v) h)) (H0 : X = (!w) → DrawW P hq r K (e.put dst .undef) h) : DrawW P hq (⟨dst, op, some (d, w)⟩ :: r) K e h := by
  by_cases hx : X = w
  · subst hx; rw [DrawW_y hd, hs]; exact H1 rfl
  · have hx' : X = (!w) := by cases X <;> cases w <;> simp_all
    subst hx'; rw [DrawW_x hd, hs]; exact H0 rfl
/-- A region whose ends are brought together. -/
theorem VW_seqJ {q : List VOper} {y : VC} {σ : Type} (l : List Nat) (st : σ → Env × Heap) (h1 : OpsW P q (fun e' h' => ∃ s, (st s).1.le (Env.keep l e') ∧ (st s).2.le h') e h) (h2 : ∀ s, VW P N y Q (st s).1 (st s).2) : VW P N (.seq (.region q false) y) Q e h :=
  VW_seq (VW_region l (h1.mono fun _ _ ⟨s, a, b⟩ => VW.weaken a b (h2 s)))
theorem VW.weakenE {c : VC} {e' : Env} (he : e'.le e) (H : VW P N c Q e' h) : VW P N c Q e h := fun x hx g w a r er hd hs => H x hx g w a r (EnvRep.le he er) hd hs
/-- The same, the heap as it was. -/
theorem VW_seqE {q : List VOper} {y : VC} {σ : Type} (l : List Nat) (st : σ → Env) (h1 : OpsW P q (fun e' h' => ∃ s, (st s).le (Env.keep l e') ∧ h' = h) e h) (h2 : ∀ s, VW P N y Q (st s) h) : VW P N (.seq (.region q false) y) Q e h :=
  VW_seq (VW_region l (h1.mono fun _ _ ⟨s, a, b⟩ => by subst b; exact VW.weakenE a (h2 s)))
end
section
variable {P : Program} {N : Nat} {Q : Exit → Env → Heap → Prop} {e : Env} {h : Heap}
/-- A nil slice seen as an empty block of its own: so a list that is being made has one form from the start. -/
theorem VW_own0 {c : VC} (t z : Nat) (he : e.get t = .nilsl) (H : VW P N c Q (e.put (some t) (.own h.top 0 0)) (h.push (.arr false z []))) : VW P N c Q e h := by
  intro x hx g w a r hr hd hs
  obtain ⟨r1, r2⟩ := r.none none z w rfl rfl rfl rfl
  have hr' : EnvRep g a (e.put (some t) (.own h.top 0 0)) := by
    intro k
    simp only [Env.put, Env.get]
    split
    · rename_i hk; subst hk
      have := hr t
      rw [he] at this
      generalize a.tmps.getD t Go.undef = v at this
      cases this
      exact .ownE _ _ _
    · exact hr k
  refine wp_mono (H x hx g w a r1 hr' hd hs) fun ex a' w' ⟨g', e', h', k1, k2, k3, k4, k5, k6⟩ => ⟨g', e', h', k1, k2, k3, k4, k5, r2.trans k6⟩
end
section
variable {P : Program} {f : FuncId} {args : List PV} {h : Heap} {K : PV → Heap → Prop}
/-- Less may be said of the heap. -/
theorem ACall.drop (H : ACall P f args h (fun p h' => ∃ h0, h0.le h' ∧ K p h0)) : ACall P f args h K :=
  ⟨H.1, fun g w vals r ha => (H.2 g w vals r ha).mono fun x w' ⟨v, p, g', h', h1, ⟨h0, hl, hk⟩, h3, h4, h5⟩ => ⟨v, p, g', h0, h1, hk, h3, h4.weaken hl, h5.weakenR hl⟩⟩
end
end Go.VM

