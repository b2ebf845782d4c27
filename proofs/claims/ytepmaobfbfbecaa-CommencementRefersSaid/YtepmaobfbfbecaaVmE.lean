/-
  The value machine, run: drawn regions, loops, calls, the whole.
-/
import Derived.Test.YtepmaobfbfbecaaVmZ
set_option linter.all false
namespace Go.VM
open Go

theorem VW_drawX {P : Program} {N : Nat} {Q : Exit → Env → Heap → Prop} {e : Env} {h : Heap} {q : List VOper} (hq : Heap) (hl : hq.le h)
    (H : DstOk N q → DrawW P hq q (fun e' h' => Q .normal (Env.keep (List.range N) e') h') e h) : VW P N (.region q true) Q e h :=
  fun c hc => VW_draw (List.range N) hq hl (H (cCode_dst hc q (.inl ⟨_, rfl⟩))) c hc
theorem VW_draw2X {P : Program} {N : Nat} {Q : Exit → Env → Heap → Prop} {e : Env} {h : Heap} {q : List VOper} {late : List Bool} (big mid small : Heap) (hl : big.le h) (hls : small.le h) (hm : Shp mid h)
    (H : DstOk N q → DrawG P (hq3 q late big mid small) (zed3 q big mid small) 0 q (fun e' h' => Q .normal (Env.keep (List.range N) e') h') e h) : VW P N (.draw2 q late) Q e h :=
  fun c hc => VW_draw2 (List.range N) big mid small hl hls hm (H (cCode_dst hc q (.inr ⟨_, rfl⟩))) c hc
theorem keep_mem (e : Env) : ∀ (l : List Nat) (t : Nat), (Env.keep l e).get t = if t ∈ l then e.get t else .any
  | [], t => by simp [Env.keep, Env.get]
  | k :: l, t => by
    simp only [Env.keep, Env.get, List.mem_cons]
    by_cases h : k = t
    · subst h; simp
    · rw [if_neg h, keep_mem e l t]
      have : ¬ t = k := fun h' => h h'.symm
      simp [this]
theorem SimN.keep {N : Nat} {t : Tr} {e : Env} (h : SimN N t e) : SimN N t (Env.keep (List.range N) e) := by
  refine ⟨fun n => ?_, fun k hk => ?_⟩
  · rw [keep_mem, h.1 n]
    by_cases hn : n < N
    · simp [hn]
    · rw [h.2 n (by omega)]; simp
  · rw [keep_mem, if_neg (by simpa using hk)]

/-! ### drawn regions -/
theorem HL.le_of : ∀ {l : List (Nat × AB)} {b : Nat} {f : Nat → Option AB}, HL.dec l b → (∀ t ab, HL.get l t = some ab → f t = some ab) → HL.le l f
  | [], _, _, _, _ => trivial
  | (k, v) :: r, b, f, h, hf => by
    refine ⟨hf k v (by simp [HL.get]), HL.le_of h.2 (fun t ab e => hf t ab ?_)⟩
    have hne : k ≠ t := by
      rintro rfl
      rw [HL.get_none h.2 (Nat.le_refl _)] at e; cases e
    simp only [HL.get, if_neg hne]; exact e
def effB (hq : Heap) (op : VOp) : Bool :=
  match op with
  | .store _ a _ => (match a.ev [] with | .loc id _ _ => (hq.get id).isNone | _ => false)
  | .mapset _ m _ _ => (match m.ev [] with | .mp id => (hq.get id).isNone | _ => false)
  | .app _ _ _ _ a _ => (match a.ev [] with | .own id _ _ => (hq.get id).isNone | .nilsl => true | _ => false)
  | .fx (.clear _ _) _ => false
  | _ => true
theorem le_push {hq h : Heap} (okq : HOk hq) (ok : HOk h) (hl : hq.le h) (x : AB) (ht : h.top + 1 ≤ hq.top) : hq.le (h.push x) := by
  refine ⟨ht, HL.le_of okq fun t ab e => ?_⟩
  have e1 := Heap.le_get hl t ab e
  rw [Heap.get_push, if_neg (by
    rintro rfl
    have : h.get h.top = none := HL.get_none ok (Nat.le_refl _)
    rw [this] at e1; cases e1)]
  exact e1
theorem le_set {hq h : Heap} (okq : HOk hq) (hl : hq.le h) (id : Nat) (x : AB) (hn : (hq.get id).isNone = true) : hq.le (h.set id x) := by
  refine ⟨hl.1, HL.le_of okq fun t ab e => ?_⟩
  have e1 := Heap.le_get hl t ab e
  rw [Heap.get_set, if_neg (by
    rintro rfl
    have e' : hq.get id = some ab := e
    rw [e'] at hn; cases hn)]
  exact e1
theorem le_del {hq h : Heap} (okq : HOk hq) (hl : hq.le h) (id : Nat) (hn : (hq.get id).isNone = true) : hq.le (h.del id) := by
  refine ⟨hl.1, HL.le_of okq fun t ab e => ?_⟩
  have e1 := Heap.le_get hl t ab e
  rw [Heap.get_del, if_neg (by
    rintro rfl
    have e' : hq.get id = some ab := e
    rw [e'] at hn; cases hn)]
  exact e1
theorem effB_ok {hq h : Heap} {op : VOp} {v : PV} {h' : Heap} (okq : HOk hq) (ok : HOk h) (hl : hq.le h) (hs : op.simple = true) (H : stepX h op = some (v, h')) (he : effB hq op = true) (ht : h'.top ≤ hq.top) : hq.le h' := by
  cases op <;> simp only [VOp.simple] at hs <;> simp only [stepX] at H <;> first | (cases hs; done) | skip
  case alloc zr =>
    simp only [Option.some.injEq, Prod.mk.injEq] at H
    obtain ⟨rfl, rfl⟩ := H
    exact le_push okq ok hl _ ht
  case box n a =>
    obtain ⟨h1, h2⟩ := of_bif H
    simp only [Option.some.injEq, Prod.mk.injEq] at h2
    obtain ⟨rfl, rfl⟩ := h2
    exact le_push okq ok hl _ ht
  case store s a v' =>
    obtain ⟨h1, h2⟩ := of_bif H
    simp only [Option.some.injEq, Prod.mk.injEq] at h2
    obtain ⟨rfl, rfl⟩ := h2
    simp only [effB] at he
    split at he
    · rename_i id i off hp
      rw [hp]
      simp only [storeV]
      split
      · exact le_set okq hl _ _ he
      · exact hl
    · cases he
  case app z bytes zr str a b =>
    obtain ⟨h1, h2⟩ := of_bif H
    simp only [Option.some.injEq, Prod.mk.injEq] at h2
    obtain ⟨rfl, rfl⟩ := h2
    simp only [effB] at he
    refine le_push okq (ok.killed _) ?_ _ ht
    split at he
    · rename_i id off len hp
      rw [hp]
      exact le_del okq hl _ he
    · rename_i hp
      rw [hp]; exact hl
    · cases he
  case mkmap =>
    simp only [Option.some.injEq, Prod.mk.injEq] at H
    obtain ⟨rfl, rfl⟩ := H
    exact le_push okq ok hl _ ht
  case fx k l =>
    obtain ⟨h1, h2⟩ := of_bif H
    simp only [Option.some.injEq] at h2
    have e2 : (fxV h k (l.map (VA.ev []))).2 = h' := by rw [h2]
    subst e2
    cases k with
    | slice0 z => exact le_push okq ok hl _ ht
    | mk0 z => exact le_push okq ok hl _ ht
    | clear z zr => cases he
  case nd neg a =>
    obtain ⟨h1, h2⟩ := of_bif H
    cases hn : isNil (a.ev []) with
    | true =>
      rw [hn] at h2
      simp only [cond_true, Option.some.injEq, Prod.mk.injEq] at h2
      rw [← h2.2]; exact hl
    | false =>
      rw [hn] at h2
      simp only [cond_false] at h2
      obtain ⟨h3, h2⟩ := of_bif h2
      simp only [Option.some.injEq, Prod.mk.injEq] at h2
      rw [← h2.2]; exact hl
  case mapset kk m k v' =>
    obtain ⟨h1, h2⟩ := of_bif H
    simp only [Option.some.injEq, Prod.mk.injEq] at h2
    obtain ⟨rfl, rfl⟩ := h2
    simp only [effB] at he
    split at he
    · rename_i id hp
      rw [hp]
      exact le_set okq hl _ _ he
    · cases he
def viewFin (h' : Heap) (r : PV) : Option PV :=
  match viewD h' 30 r with
  | some p => bif p.clB then some p else none
  | none => none
def pcallX (call : CX) (hq : Heap) (f : Nat) (args : List PV) : Option PV :=
  bif PV.clsB args then (match call f args Heap.nil with
    | some (r, h') => viewFin h' r
    | none => none)
  else match optL (viewD hq 30) args with
    | some q => bif PV.clsB q then (match call f q Heap.nil with
      | some (r, h') => (match viewFin h' r with
        | some p => bif p.scB then some p else none
        | none => none)
      | none => none) else none
    | none => none
theorem viewFin_ok {h' : Heap} {r p : PV} (H : viewFin h' r = some p) : View h' r p ∧ Closed p := by
  unfold viewFin at H
  split at H
  · rename_i p' hv
    obtain ⟨h1, h2⟩ := of_bif H
    simp only [Option.some.injEq] at h2; subst h2
    exact ⟨viewD_ok hv, PV.clB_ok _ h1⟩
  · cases H
theorem pcall_of {P : Program} {call : CX} (hc : CallOk P call) {f : Nat} {q : List PV} (hcl : PV.clsB q = true) {r p : PV} {h' : Heap} (H : call f q Heap.nil = some (r, h')) (hv : viewFin h' r = some p) : PCall P f q p := by
  obtain ⟨h1, _⟩ := hc _ _ _ _ _ H (show HOk Heap.nil from trivial)
  obtain ⟨v1, v2⟩ := viewFin_ok hv
  exact PCall_intro (h1 _ v1) v2 (PV.clsB_ok _ hcl)
theorem pcallX_ok {P : Program} {call : CX} (hc : CallOk P call) {hq : Heap} {f : Nat} {args : List PV} {p : PV} (H : pcallX call hq f args = some p) : PureCall P f args hq p := by
  unfold pcallX at H
  cases hcl : PV.clsB args with
  | true =>
    rw [hcl] at H
    simp only [cond_true] at H
    split at H
    · rename_i r h' hr
      exact .inl (pcall_of hc hcl hr H)
    · cases H
  | false =>
    rw [hcl] at H
    simp only [cond_false] at H
    split at H
    · rename_i q hq'
      obtain ⟨h1, h2⟩ := of_bif H
      split at h2
      · rename_i r h' hr
        split at h2
        · rename_i p' hp
          obtain ⟨h3, h4⟩ := of_bif h2
          simp only [Option.some.injEq] at h4; subst h4
          exact .inr ⟨q, views_ok hq', pcall_of hc h1 hr hp, PV.scB_ok _ h3⟩
        · cases h2
      · cases h2
    · cases H
def quietX (call : CX) (hq : Heap) (op : VOp) : Option PV :=
  match op with
  | .call f l => pcallX call hq f (l.map (VA.ev []))
  | .callv f l => (match f.ev [] with
    | .fn (.func f) a b => pcallX call hq f (a ++ l.map (VA.ev []) ++ b)
    | _ => none)
  | .bslice z n zr ps => bif elemsOkB [] z n ps then some (.sl z (elemsV [] (List.replicate n zr) ps)) else none
  | op => bif op.pure && pokB hq op then some (pval [] hq op) else none
theorem quietX_ok {P : Program} {call : CX} (hc : CallOk P call) {hq : Heap} {op : VOp} {v : PV} (H : quietX call hq op = some v) : QuietV P hq [] op v := by
  have pure : (bif op.pure && pokB hq op then some (pval [] hq op) else none) = some v → op.pure = true ∧ pok [] hq op ∧ v = pval [] hq op := by
    intro H
    obtain ⟨h1, h2⟩ := of_bif H
    simp only [Bool.and_eq_true] at h1
    simp only [Option.some.injEq] at h2
    exact ⟨h1.1, pokB_ok h1.2, h2.symm⟩
  cases op <;> simp only [quietX] at H <;> simp only [QuietV] <;> first | exact pure H | skip
  case bslice z n zr ps =>
    obtain ⟨h1, h2⟩ := of_bif H
    simp only [Option.some.injEq] at h2
    exact ⟨elemsOkB_ok h1, h2.symm⟩
  case call f l => exact pcallX_ok hc H
  case callv f l =>
    split at H
    · rename_i f' a b hf
      simp only [hf]; exact pcallX_ok hc H
    · cases H
def drawX (call : CX) (hq : Heap) : List VOper → Tr → Heap → Option (Tr × Heap)
  | [], t, h => some (t, h)
  | o :: r, t, h => match o.op.simple, o.guard with
    | true, none => bif effB hq (o.op.res t) then (match stepX h (o.op.res t) with
      | some (v, h') => bif Nat.ble h'.top hq.top then drawX call hq r (putO t o.dst v) h' else none
      | none => none) else none
    | true, some _ => none
    | false, g => match guardX t g with
      | some true => (match quietX call hq (o.op.res t) with
        | some v => drawX call hq r (putO t o.dst v) h
        | none => none)
      | some false => drawX call hq r (putO t o.dst .undef) h
      | none => none
theorem res_simple (t : Tr) (op : VOp) : (op.res t).simple = op.simple := by cases op <;> rfl
theorem QuietV_res {P : Program} {t : Tr} {e : Env} (hs : Sim t e) {hq : Heap} {op : VOp} {v : PV} (H : QuietV P hq [] (op.res t) v) : QuietV P hq e op v := by
  have h1 := pval_res hs hq op
  have h2 := pok_res hs hq op
  have h3 := res_pure t op
  cases op <;> simp only [VOp.res, QuietV, hs.ev, elems_res hs, elemsOk_res hs, map_res hs] at H h1 h2 h3 ⊢ <;> first | exact H | (rw [← h1, ← h2, ← h3]; exact H) | skip
theorem drawX_ok {P : Program} {call : CX} (hc : CallOk P call) {N : Nat} (hN : N ≤ 1000) {hq : Heap} (okq : HOk hq) : ∀ {q : List VOper} {t : Tr} {e : Env} {h : Heap} {t' : Tr} {h' : Heap} {K : Env → Heap → Prop}, drawX call hq q t h = some (t', h') → DstOk N q → SimN N t e → HOk h → hq.le h →
    ((∀ e', SimN N t' e' → K e' h') → DrawW P hq q K e h) ∧ HOk h' ∧ h.top ≤ h'.top
  | [], t, e, h, t', h', K, H, _, hs, ok, _ => by
    simp only [drawX, Option.some.injEq, Prod.mk.injEq] at H
    obtain ⟨rfl, rfl⟩ := H
    exact ⟨fun hk => hk e hs, ok, Nat.le_refl _⟩
  | ⟨dst, op, gd'⟩ :: r, t, e, h, t', h', K, H, hd, hs, ok, hl => by
    have hdst := hd _ (List.mem_cons_self ..)
    have hdr : DstOk N r := fun o ho => hd o (List.mem_cons_of_mem _ ho)
    simp only [drawX] at H
    cases hsi' : op.simple with
    | true =>
      rw [hsi'] at H
      cases gd' with
      | some dw => cases H
      | none =>
        simp only at H
        obtain ⟨h1, h2⟩ := of_bif H
        split at h2
        · rename_i v h1' H1
          obtain ⟨h3, h4⟩ := of_bif h2
          have ht : h1'.top ≤ hq.top := Nat.le_of_ble_eq_true h3
          have hcl : op.closed = true := by cases op <;> first | rfl | cases hsi'
          obtain ⟨s1, s2, s3⟩ := stepX_ok (P := P) (K := fun v h' => hq.le h' ∧ DrawW P hq r K (e.put dst v) h') H1 ok
          have hl' := effB_ok okq ok hl (by rw [res_simple]; exact hsi') H1 h1 ht
          obtain ⟨i1, i2, i3⟩ := drawX_ok (K := K) hc hN okq h4 hdr (hs.put hN hdst v) s2 hl'
          refine ⟨fun hk => ?_, i2, Nat.le_trans s3 i3⟩
          rw [DrawW_n, hsi']
          exact StepW_res hs.1 (s1 ⟨hl', i1 hk⟩) hcl
        · cases h2
    | false =>
      rw [hsi'] at H
      simp only at H
      have skip : drawX call hq r (putO t dst .undef) h = some (t', h') → ((∀ e', SimN N t' e' → K e' h') → DrawW P hq r K (e.put dst .undef) h) ∧ HOk h' ∧ h.top ≤ h'.top :=
        fun H => drawX_ok hc hN okq H hdr (hs.put hN hdst _) ok hl
      have run : ∀ v, quietX call hq (op.res t) = some v → drawX call hq r (putO t dst v) h = some (t', h') →
          ((∀ e', SimN N t' e' → K e' h') → QW P hq e op true (fun v => DrawW P hq r K (e.put dst v) h)) ∧ HOk h' ∧ h.top ≤ h'.top := by
        intro v H1 H2
        have hqv := QuietV_res hs.1 (quietX_ok hc H1)
        obtain ⟨i1, i2, i3⟩ := drawX_ok (K := K) hc hN okq H2 hdr (hs.put hN hdst v) ok hl
        refine ⟨fun hk => ?_, i2, i3⟩
        unfold QW
        split
        · rename_i hdet
          have hv := hqv.det hdet
          refine ⟨fun _ => ?_, ?_⟩
          · cases op <;> simp only [VOp.det, VOp.pure] at hdet <;> first | exact hqv.2.1 | exact hqv.1 | cases hdet
          · rw [← hv]; exact i1 hk
        · exact ⟨v, fun _ => hqv, i1 hk⟩
      cases gd' with
      | none =>
        simp only [guardX] at H
        split at H
        · rename_i v H1
          obtain ⟨a, b⟩ := run v H1 H
          refine ⟨fun hk => ?_, b⟩
          rw [DrawW_n, hsi']; exact a hk
        · cases H
      | some dw =>
        obtain ⟨d, want⟩ := dw
        simp only [guardX] at H
        rw [hs.1 d] at H
        cases hg : guardOf want (e.get d) with
        | none => rw [hg] at H; cases H
        | some c =>
          rw [hg] at H
          cases c with
          | false =>
            simp only at H
            obtain ⟨a, b⟩ := skip H
            refine ⟨fun hk => ?_, b⟩
            simp only [DrawW, hsi', hg, QW_false]; exact a hk
          | true =>
            simp only at H
            split at H
            · rename_i v H1
              obtain ⟨a, b⟩ := run v H1 H
              refine ⟨fun hk => ?_, b⟩
              simp only [DrawW, hsi', hg]; exact a hk
            · cases H

/-- The same where some write: what waits for no writer looks at all of the heap. -/
def midB (mid : Heap) (op : VOp) : Bool :=
  match op with
  | .app _ _ _ _ a _ => (match a.ev [] with | .own id _ _ => (mid.get id).isNone | _ => true)
  | _ => true
def draw2X (call : CX) (big mid small : Heap) (late : List Bool) : Nat → List VOper → Tr → Heap → Option (Tr × Heap)
  | _, [], t, h => some (t, h)
  | k, o :: r, t, h => match o.op.simple, o.guard with
    | true, none => bif effB small (o.op.res t) && midB mid (o.op.res t) then (match stepX h (o.op.res t) with
      | some (v, h') => bif Nat.ble h'.top small.top then draw2X call big mid small late (k + 1) r (putO t o.dst v) h' else none
      | none => none) else none
    | true, some _ => none
    | false, g => match guardX t g with
      | some true => (match quietX call (bif late.getD k false then big else bif o.op.isIaddr then mid else small) (o.op.res t) with
        | some v => draw2X call big mid small late (k + 1) r (putO t o.dst v) h
        | none => none)
      | some false => draw2X call big mid small late (k + 1) r (putO t o.dst .undef) h
      | none => none
theorem shp_push {mid h : Heap} (ok : HOk h) (hm : Shp mid h) (x : AB) : Shp mid (h.push x) := by
  intro id fz z es e
  obtain ⟨fz', es', e'⟩ := hm id fz z es e
  refine ⟨fz', es', ?_⟩
  rw [Heap.get_push, if_neg (by
    rintro rfl
    have : h.get h.top = none := HL.get_none ok (Nat.le_refl _)
    rw [this] at e'; cases e')]
  exact e'
theorem shp_set {mid h : Heap} (hm : Shp mid h) {id : Nat} {ab ab0 : AB} (hg : h.get id = some ab0) (ha : ∀ fz z es, ab0 = .arr fz z es → ∃ fz' es', ab = .arr fz' z es') : Shp mid (h.set id ab) := by
  intro i fz z es e
  obtain ⟨fz', es', e'⟩ := hm i fz z es e
  rw [Heap.get_set]
  by_cases hi : id = i
  · subst hi
    rw [if_pos rfl, hg]
    rw [hg] at e'
    simp only [Option.some.injEq] at e'
    obtain ⟨f2, e2, rfl⟩ := ha _ _ _ e'
    exact ⟨f2, e2, by simp⟩
  · rw [if_neg hi]; exact ⟨fz', es', e'⟩
theorem shp_step {mid h : Heap} {op : VOp} {v : PV} {h' : Heap} (ok : HOk h) (hm : Shp mid h) (hs : op.simple = true) (H : stepX h op = some (v, h')) (he : midB mid op = true) : Shp mid h' := by
  cases op <;> simp only [VOp.simple] at hs <;> simp only [stepX] at H <;> first | (cases hs; done) | skip
  case alloc zr =>
    simp only [Option.some.injEq, Prod.mk.injEq] at H
    obtain ⟨rfl, rfl⟩ := H
    exact shp_push ok hm _
  case box n a =>
    obtain ⟨h1, h2⟩ := of_bif H
    simp only [Option.some.injEq, Prod.mk.injEq] at h2
    obtain ⟨rfl, rfl⟩ := h2
    exact shp_push ok hm _
  case store s a v' =>
    obtain ⟨h1, h2⟩ := of_bif H
    simp only [Option.some.injEq, Prod.mk.injEq] at h2
    obtain ⟨rfl, rfl⟩ := h2
    unfold storeV
    split
    · split
      · rename_i id i off _ fz z es hg
        exact shp_set hm hg (fun fz' z' es' hh => by simp only [AB.arr.injEq] at hh; obtain ⟨_, rfl, _⟩ := hh; exact ⟨_, _, rfl⟩)
      · exact hm
    · exact hm
  case app z bytes zr str a b =>
    obtain ⟨h1, h2⟩ := of_bif H
    simp only [Option.some.injEq, Prod.mk.injEq] at h2
    obtain ⟨rfl, rfl⟩ := h2
    refine shp_push (ok.killed _) ?_ _
    simp only [midB] at he
    cases hp : a.ev [] <;> rw [hp] at he <;> simp only [oldId, killed] <;> try exact hm
    rename_i id off len
    intro i fz z' es e
    obtain ⟨fz', es', e'⟩ := hm i fz z' es e
    refine ⟨fz', es', ?_⟩
    rw [Heap.get_del, if_neg (by rintro rfl; simp only at he; rw [e] at he; cases he)]
    exact e'
  case mkmap =>
    simp only [Option.some.injEq, Prod.mk.injEq] at H
    obtain ⟨rfl, rfl⟩ := H
    exact shp_push ok hm _
  case mapset kk m k v' =>
    obtain ⟨h1, h2⟩ := of_bif H
    simp only [Option.some.injEq, Prod.mk.injEq] at h2
    obtain ⟨rfl, rfl⟩ := h2
    simp only [Bool.and_eq_true] at h1
    have hh := mapHasB_ok h1.1
    unfold mapsetV
    split
    · rename_i id hp
      rw [hp] at hh
      simp only [mapHas] at hh
      split at hh
      · rename_i es hg
        exact shp_set hm hg (fun fz z es' hh => by cases hh)
      · exact hh.elim
    · exact hm
  case fx k l =>
    obtain ⟨h1, h2⟩ := of_bif H
    simp only [Option.some.injEq] at h2
    have e2 : (fxV h k (l.map (VA.ev []))).2 = h' := by rw [h2]
    subst e2
    unfold fxV
    split
    · exact shp_push ok hm _
    · exact shp_push ok hm _
    · rename_i z zr id off len heq
      have hf := fxOkB_ok h1
      rw [heq] at hf
      simp only [fxOk] at hf
      simp only
      split
      · rename_i fz z' es hg
        rw [hg] at hf
        simp only at hf
        exact shp_set hm hg (fun fz' z'' es' hh => by simp only [AB.arr.injEq] at hh; obtain ⟨_, rfl, _⟩ := hh; exact ⟨_, _, by rw [hf.2.1]⟩)
      · exact hm
    · exact hm
  case nd neg a =>
    obtain ⟨h1, h2⟩ := of_bif H
    cases hn : isNil (a.ev []) with
    | true =>
      rw [hn] at h2
      simp only [cond_true, Option.some.injEq, Prod.mk.injEq] at h2
      rw [← h2.2]; exact hm
    | false =>
      rw [hn] at h2
      simp only [cond_false] at h2
      obtain ⟨h3, h2⟩ := of_bif h2
      simp only [Option.some.injEq, Prod.mk.injEq] at h2
      rw [← h2.2]; exact hm
theorem effB_nw {hq : Heap} {op : VOp} (h : op.writes = false) : effB hq op = true := by
  cases op <;> first | rfl | cases h
theorem res_writes (t : Tr) (op : VOp) : (op.res t).writes = op.writes := by cases op <;> rfl
theorem draw2X_ok {P : Program} {call : CX} (hc : CallOk P call) {N : Nat} (hN : N ≤ 1000) {q0 : List VOper} {big mid small : Heap} {late : List Bool} (okb : HOk big) (oks : HOk small) (htop : small.top = big.top) :
    ∀ {q : List VOper} {k : Nat} {t : Tr} {e : Env} {h : Heap} {t' : Tr} {h' : Heap} {K : Env → Heap → Prop}, draw2X call big mid small late k q t h = some (t', h') → (∀ j, q[j]? = q0[k + j]?) → DstOk N q → SimN N t e → HOk h → small.le h → Shp mid h →
    ((∀ e', SimN N t' e' → K e' h') → DrawG P (hq3 q0 late big mid small) (zed3 q0 big mid small) k q K e h) ∧ HOk h' ∧ h.top ≤ h'.top
  | [], k, t, e, h, t', h', K, H, _, _, hs, ok, _, _ => by
    simp only [draw2X, Option.some.injEq, Prod.mk.injEq] at H
    obtain ⟨rfl, rfl⟩ := H
    exact ⟨fun hk => hk e hs, ok, Nat.le_refl _⟩
  | ⟨dst, op, gd'⟩ :: r, k, t, e, h, t', h', K, H, hq0, hd, hs, ok, hl, hm => by
    have hdst := hd _ (List.mem_cons_self ..)
    have hdr : DstOk N r := fun o ho => hd o (List.mem_cons_of_mem _ ho)
    have h0 : q0[k]? = some ⟨dst, op, gd'⟩ := by simpa using (hq0 0).symm
    have hq1 : ∀ j, r[j]? = q0[(k + 1) + j]? := fun j => by have := hq0 (j + 1); simpa [Nat.add_assoc, Nat.add_comm 1 j] using this
    have hwk : writesAt q0 k = op.writes := by simp [writesAt, h0]
    simp only [draw2X] at H
    cases hsi' : op.simple with
    | true =>
      rw [hsi'] at H
      cases gd' with
      | some dw => cases H
      | none =>
        simp only at H
        obtain ⟨h1, h2⟩ := of_bif H
        simp only [Bool.and_eq_true] at h1
        split at h2
        · rename_i v h1' H1
          obtain ⟨h3, h4⟩ := of_bif h2
          have ht : h1'.top ≤ small.top := Nat.le_of_ble_eq_true h3
          have hcl : op.closed = true := by cases op <;> first | rfl | cases hsi'
          obtain ⟨s1, s2, s3⟩ := stepX_ok (P := P) (K := fun v h' => zed3 q0 big mid small k h h' ∧ DrawG P (hq3 q0 late big mid small) (zed3 q0 big mid small) (k + 1) r K (e.put dst v) h') H1 ok
          have hl' := effB_ok oks ok hl (by rw [res_simple]; exact hsi') H1 h1.1 ht
          have hm' := shp_step ok hm (by rw [res_simple]; exact hsi') H1 h1.2
          have hb' : writesAt q0 k = false → big.le h → big.le h1' := fun hw hb =>
            effB_ok okb ok hb (by rw [res_simple]; exact hsi') H1 (effB_nw (by rw [res_writes, ← hwk]; exact hw)) (by omega)
          obtain ⟨i1, i2, i3⟩ := draw2X_ok (K := K) hc hN okb oks htop h4 hq1 hdr (hs.put hN hdst v) s2 hl' hm'
          refine ⟨fun hk => ?_, i2, Nat.le_trans s3 i3⟩
          simp only [DrawG, hsi']
          exact StepW_res hs.1 (s1 ⟨⟨hl', hb', fun _ => hm'⟩, i1 hk⟩) hcl
        · cases h2
    | false =>
      rw [hsi'] at H
      simp only at H
      have hbif : (bif late.getD k false then big else bif op.isIaddr then mid else small) = hq3 q0 late big mid small k := by
        simp only [hq3, h0]
        cases late.getD k false <;> cases op.isIaddr <;> rfl
      rw [hbif] at H
      have skip : draw2X call big mid small late (k + 1) r (putO t dst .undef) h = some (t', h') → ((∀ e', SimN N t' e' → K e' h') → DrawG P (hq3 q0 late big mid small) (zed3 q0 big mid small) (k + 1) r K (e.put dst .undef) h) ∧ HOk h' ∧ h.top ≤ h'.top :=
        fun H => draw2X_ok hc hN okb oks htop H hq1 hdr (hs.put hN hdst _) ok hl hm
      have run : ∀ v, quietX call (hq3 q0 late big mid small k) (op.res t) = some v → draw2X call big mid small late (k + 1) r (putO t dst v) h = some (t', h') →
          ((∀ e', SimN N t' e' → K e' h') → QW P (hq3 q0 late big mid small k) e op true (fun v => DrawG P (hq3 q0 late big mid small) (zed3 q0 big mid small) (k + 1) r K (e.put dst v) h)) ∧ HOk h' ∧ h.top ≤ h'.top := by
        intro v H1 H2
        have hqv := QuietV_res hs.1 (quietX_ok hc H1)
        obtain ⟨i1, i2, i3⟩ := draw2X_ok (K := K) hc hN okb oks htop H2 hq1 hdr (hs.put hN hdst v) ok hl hm
        refine ⟨fun hk => ?_, i2, i3⟩
        unfold QW
        split
        · rename_i hdet
          have hv := hqv.det hdet
          refine ⟨fun _ => ?_, ?_⟩
          · cases op <;> simp only [VOp.det, VOp.pure] at hdet <;> first | exact hqv.2.1 | exact hqv.1 | cases hdet
          · rw [← hv]; exact i1 hk
        · exact ⟨v, fun _ => hqv, i1 hk⟩
      cases gd' with
      | none =>
        simp only [guardX] at H
        split at H
        · rename_i v H1
          obtain ⟨a, b⟩ := run v H1 H
          refine ⟨fun hk => ?_, b⟩
          simp only [DrawG, hsi']; exact a hk
        · cases H
      | some dw =>
        obtain ⟨d, want⟩ := dw
        simp only [guardX] at H
        rw [hs.1 d] at H
        cases hg : guardOf want (e.get d) with
        | none => rw [hg] at H; cases H
        | some c =>
          rw [hg] at H
          cases c with
          | false =>
            simp only at H
            obtain ⟨a, b⟩ := skip H
            refine ⟨fun hk => ?_, b⟩
            simp only [DrawG, hsi', hg, QW_false]; exact a hk
          | true =>
            simp only at H
            split at H
            · rename_i v H1
              obtain ⟨a, b⟩ := run v H1 H
              refine ⟨fun hk => ?_, b⟩
              simp only [DrawG, hsi', hg]; exact a hk
            · cases H

/-! ### loops -/
def VRounds (P : Program) (N : Nat) (x : VC) (Q : Exit → Env → Heap → Prop) : Nat → Env → Heap → Prop
  | 0 => fun _ _ => False
  | n + 1 => fun e h => VW P N x (thenQ (VRounds P N x Q n) Q) e h
theorem VW_rounds {P : Program} {N : Nat} {x : VC} {Q : Exit → Env → Heap → Prop} {e : Env} {h : Heap} (n : Nat) (H : VRounds P N x Q n e h) : VW P N (.loop x) Q e h := by
  intro c hc
  cases c <;> simp only [cCode, Option.map_eq_some_iff] at hc
  case loop a =>
    obtain ⟨p, h3, h4⟩ := hc
    simp only [VC.loop.injEq] at h4
    subst h4
    intro g w act r he hd hs
    refine wp_loop_rounds n ?_
    have key : ∀ n e1 h1 g1 w1 a1, VRounds P N p Q n e1 h1 → Rel g1 w1 h1 → EnvRep g1 a1 e1 → a1.defers = [] → a1.tmps.size = N → Evo g w h g1 w1 h1 →
        Code.rounds P a (fun x a' w' => ∃ g' e' h', Q x e' h' ∧ Rel g' w' h' ∧ EnvRep g' a' e' ∧ a'.defers = [] ∧ a'.tmps.size = N ∧ Evo g w h g' w' h') n a1 w1 := by
      intro n
      induction n with
      | zero => intro e1 h1 g1 w1 a1 H; exact H.elim
      | succ n ih =>
        intro e1 h1 g1 w1 a1 H r1 he1 hd1 hs1 ev
        rw [rounds_succ]
        refine wp_mono (H a h3 g1 w1 a1 r1 he1 hd1 hs1) fun ex a' w' ⟨g', e', h', k1, k2, k3, k4, k5, k6⟩ => ?_
        cases ex with
        | normal => exact ih e' h' g' w' a' k1 k2 k3 k4 k5 (ev.trans k6)
        | exit id => exact ⟨g', e', h', k1, k2, k3, k4, k5, ev.trans k6⟩
        | goto l => exact ⟨g', e', h', k1, k2, k3, k4, k5, ev.trans k6⟩
        | ret => exact ⟨g', e', h', k1, k2, k3, k4, k5, ev.trans k6⟩
        | panic ch => exact ⟨g', e', h', k1, k2, k3, k4, k5, ev.trans k6⟩
        | outgrown => exact ⟨g', e', h', k1, k2, k3, k4, k5, ev.trans k6⟩
    exact key n e h g w act H r he hd hs (Evo.refl _ _ _)
  case seq => split at hc <;> simp at hc
  case cond => split at hc <;> simp at hc
  case region => (repeat' (split at hc)) <;> simp at hc
  all_goals simp at hc
end Go.VM

