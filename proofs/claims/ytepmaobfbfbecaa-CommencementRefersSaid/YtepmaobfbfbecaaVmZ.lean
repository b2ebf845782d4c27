/-
  The value machine, run: code and calls.
-/
import Derived.Test.YtepmaobfbfbecaaVmY
set_option linter.all false
namespace Go.VM
open Go

/-! ### one step -/
def pxOkB (h : Heap) : PX → List PV → Bool
  | .nck, [a] => isPtr a
  | .unx, [a] => isIntB a
  | .isnil _, [a] => isNil a || notNil a
  | _, _ => false
theorem pxOkB_ok {h : Heap} {k : PX} {l : List PV} (H : pxOkB h k l = true) : pxOk h k l := by
  unfold pxOkB at H
  split at H
  · exact H
  · exact isIntB_ok H
  · simpa [pxOk] using H
  · cases H
def fxOkB (h : Heap) : FX → List PV → Bool
  | .slice0 z, [a] => (match a with
    | .nilsl | .sl _ _ => true
    | .own _ _ _ => true
    | _ => false)
  | .mk0 _, [] => true
  | .clear z zr, [a] => (match a with
    | .nilsl => true
    | .own id off len => (match h.get id with
      | some (.arr fz z' es) => !fz && Nat.beq z' z && Nat.ble (off + len) es.length && Nat.beq zr.length z
      | _ => false)
    | _ => false)
  | _, _ => false
theorem fxOkB_ok {h : Heap} {k : FX} {l : List PV} (H : fxOkB h k l = true) : fxOk h k l := by
  unfold fxOkB at H
  split at H
  · simp only [fxOk]
    split at H <;> first | trivial | cases H
  · trivial
  · simp only [fxOk]
    split at H
    · trivial
    · split at H
      · rename_i e
        simp only [e]
        simp only [Bool.and_eq_true, Bool.not_eq_true', Nat.ble_eq] at H
        exact ⟨H.1.1.1, Nat.eq_of_beq_eq_true H.1.1.2, H.1.2, Nat.eq_of_beq_eq_true H.2⟩
      · cases H
    · cases H
  · cases H
theorem fxV_heap {h : Heap} (ok : HOk h) (k : FX) (l : List PV) : HOk (fxV h k l).2 ∧ h.top ≤ (fxV h k l).2.top := by
  unfold fxV
  split
  · exact ⟨ok.push _, Nat.le_succ _⟩
  · exact ⟨ok.push _, Nat.le_succ _⟩
  · simp only
    split
    · exact ⟨ok.set _ _, Nat.le_refl _⟩
    · exact ⟨ok, Nat.le_refl _⟩
  · exact ⟨ok, Nat.le_refl _⟩
def pokB (h : Heap) : VOp → Bool
  | .mv _ => true
  | .pick c _ _ => isBoolB (c.ev [])
  | .build zr ps => fillOkB [] zr.length ps
  | .load g s a => locOkB h (a.ev []) && Nat.ble s (locCells h (a.ev [])).length && (g || Nat.beq s 1)
  | .bin op a b => binOkB op (a.ev []) (b.ev [])
  | .binb op a b => binbOkB op (a.ev []) (b.ev [])
  | .strid a => isStrB (a.ev [])
  | .eqs _ ks a b => isAggB (a.ev []) && isAggB (b.ev []) && eqOkB ks (cellsOfAgg (a.ev [])) (cellsOfAgg (b.ev []))
  | .un op a => unOkB op (a.ev [])
  | .conv _ a => isIntB (a.ev [])
  | .mkfn _ _ _ => true
  | .slice st z a lo hi => sliceOkB st z h (a.ev []) (lo.map (VA.ev [])) (hi.map (VA.ev []))
  | .faddr _ a => isAddrB (a.ev [])
  | .fld g off s a => isAggB (a.ev []) && Nat.ble (off + s) (cellsOfAgg (a.ev [])).length && (g || Nat.beq s 1)
  | .iaddr z a i => iaddrOkB z h (a.ev []) (i.ev [])
  | .idx a i => idxOkB (a.ev []) (i.ev [])
  | .ext a i => extOkB i (a.ev [])
  | .len st a => lenOkB st (a.ev [])
  | .lookup kk _ _ m k => mapOkB h (m.ev []) && keysOkB kk (k.ev []) (mapRows h (m.ev []))
  | .mlen m => mapOkB h (m.ev [])
  | .mm _ [a, b] => isIntB (a.ev []) && isIntB (b.ev [])
  | .px k l => pxOkB h k (l.map (VA.ev []))
  | _ => false
theorem gs_ok {g : Bool} {s : Nat} (h : (g || Nat.beq s 1) = true) : g = false → s = 1 := by
  rintro rfl; exact Nat.eq_of_beq_eq_true (by simpa using h)
theorem pokB_ok {h : Heap} {op : VOp} (H : pokB h op = true) : pok [] h op := by
  cases op <;> simp only [pokB, Bool.false_eq_true] at H
  case mv a => trivial
  case pick c a b => exact isBoolB_ok H
  case build zr ps => exact fillOkB_ok H
  case load g s a =>
    simp only [Bool.and_eq_true] at H
    exact ⟨locOkB_ok H.1.1, Nat.le_of_ble_eq_true H.1.2, gs_ok H.2⟩
  case bin op a b => exact binOkB_ok H
  case binb op a b => exact binbOkB_ok H
  case strid a => exact isStrB_ok H
  case eqs n ks a b =>
    simp only [Bool.and_eq_true] at H
    exact ⟨isAggB_ok H.1.1, isAggB_ok H.1.2, eqOkB_ok H.2⟩
  case un op a => exact unOkB_ok H
  case conv k a => exact isIntB_ok H
  case mkfn f x y => trivial
  case slice st z a lo hi => exact sliceOkB_ok H
  case faddr o a => exact isAddrB_ok H
  case fld g off s a =>
    simp only [Bool.and_eq_true] at H
    exact ⟨isAggB_ok H.1.1, Nat.le_of_ble_eq_true H.1.2, gs_ok H.2⟩
  case iaddr z a i => exact iaddrOkB_ok H
  case idx a i => exact idxOkB_ok H
  case ext a i => exact extOkB_ok H
  case len st a => exact lenOkB_ok H
  case lookup kk zr ok m k =>
    simp only [Bool.and_eq_true] at H
    exact ⟨mapOkB_ok H.1, keysOkB_ok H.2⟩
  case mlen m => exact mapOkB_ok H
  case px k l => exact pxOkB_ok H
  case mm mx l =>
    match l, H with
    | [a, b], H =>
      simp only [Bool.and_eq_true] at H
      exact ⟨isIntB_ok H.1, isIntB_ok H.2⟩
abbrev RX := Option (PV × Heap)
def stepX (h : Heap) (op : VOp) : RX :=
  match op with
  | .alloc zr => some (.loc h.top 0 0, h.push (.arr false zr.length [zr]))
  | .box n a => bif (a.ev []).fits n then some (.loc h.top 0 0, h.push (.arr false n [(a.ev []).cells])) else none
  | .bslice z n zr ps => bif elemsOkB [] z n ps then some (.own h.top 0 n, h.push (.arr false z (elemsV [] (List.replicate n zr) ps))) else none
  | .store s a v => bif storeOkB h s (a.ev []) (v.ev []) then some (.undef, storeV h (a.ev []) (v.ev [])) else none
  | .app z bytes _ str a b => bif oldOkB h z (a.ev []) && srcOkB h str z (b.ev []) && Nat.ble ((oldRows h (a.ev [])).length + (srcRows h (b.ev [])).length) 4611686018427387904 &&
      Nat.ble (((oldRows h (a.ev [])).length + (srcRows h (b.ev [])).length) * bytes) 140737488355328 then
        some (.own h.top 0 ((oldRows h (a.ev [])).length + (srcRows h (b.ev [])).length), (killed h (oldId (a.ev []))).push (.arr false z (oldRows h (a.ev []) ++ srcRows h (b.ev []))))
      else none
  | .mkmap => some (.mp h.top, h.push (.map []))
  | .mapset kk m k v => bif mapHasB h (m.ev []) && keysOkB kk (k.ev []) (mapRows h (m.ev [])) then some (.undef, mapsetV h (m.ev []) (k.ev []) (v.ev [])) else none
  | .fx k l => bif fxOkB h k (l.map (VA.ev [])) then some (fxV h k (l.map (VA.ev []))) else none
  | .nd neg a => bif slLike (a.ev []) then (bif isNil (a.ev []) then some (.bool (true != neg), h) else bif notNil (a.ev []) then some (.bool (false != neg), h) else none) else none
  | .other _ | .call _ _ | .callv _ _ => none
  | op => bif pokB h op then some (pval [] h op, h) else none
theorem of_bif {b : Bool} {α : Type} {x : Option α} {y : α} (h : (bif b then x else none) = some y) : b = true ∧ x = some y := by
  cases b
  · cases h
  · exact ⟨rfl, h⟩
theorem storeV_ok {h : Heap} (ok : HOk h) (a v : PV) : HOk (storeV h a v) := by
  unfold storeV
  split
  · split
    · exact ok.set _ _
    · exact ok
  · exact ok
theorem storeV_top (h : Heap) (a v : PV) : (storeV h a v).top = h.top := by
  unfold storeV
  split
  · split <;> rfl
  · rfl
theorem mapsetV_ok {h : Heap} (ok : HOk h) (m k v : PV) : HOk (mapsetV h m k v) := by
  unfold mapsetV
  split
  · exact ok.set _ _
  · exact ok
theorem mapsetV_top (h : Heap) (m k v : PV) : (mapsetV h m k v).top = h.top := by
  unfold mapsetV
  split <;> rfl
theorem stepX_ok {P : Program} {h : Heap} {op : VOp} {v : PV} {h' : Heap} {K : PV → Heap → Prop} (H : stepX h op = some (v, h')) (ok : HOk h) : (K v h' → StepW P [] h op K) ∧ HOk h' ∧ h.top ≤ h'.top := by
  have pure : op.pure = true → (bif pokB h op then some (pval [] h op, h) else none) = some (v, h') → (K v h' → StepW P [] h op K) ∧ HOk h' ∧ h.top ≤ h'.top := by
    intro hp H
    obtain ⟨h1, h2⟩ := of_bif H
    simp only [Option.some.injEq, Prod.mk.injEq] at h2
    obtain ⟨rfl, rfl⟩ := h2
    refine ⟨fun hk => ?_, ok, Nat.le_refl _⟩
    have := pokB_ok h1
    cases op <;> first | exact ⟨this, hk⟩ | simp [VOp.pure] at hp
  cases op <;> simp only [stepX] at H <;> first | exact pure rfl H | (cases H; done) | skip
  case alloc zr =>
    simp only [Option.some.injEq, Prod.mk.injEq] at H
    obtain ⟨rfl, rfl⟩ := H
    exact ⟨fun hk => hk, ok.push _, Nat.le_succ _⟩
  case box n a =>
    obtain ⟨h1, h2⟩ := of_bif H
    simp only [Option.some.injEq, Prod.mk.injEq] at h2
    obtain ⟨rfl, rfl⟩ := h2
    exact ⟨fun hk => ⟨h1, hk⟩, ok.push _, Nat.le_succ _⟩
  case bslice z n zr ps =>
    obtain ⟨h1, h2⟩ := of_bif H
    simp only [Option.some.injEq, Prod.mk.injEq] at h2
    obtain ⟨rfl, rfl⟩ := h2
    exact ⟨fun hk => ⟨elemsOkB_ok h1, hk⟩, ok.push _, Nat.le_succ _⟩
  case store s a v' =>
    obtain ⟨h1, h2⟩ := of_bif H
    simp only [Option.some.injEq, Prod.mk.injEq] at h2
    obtain ⟨rfl, rfl⟩ := h2
    exact ⟨fun hk => ⟨storeOkB_ok h1, hk⟩, storeV_ok ok _ _, by rw [storeV_top]; exact Nat.le_refl _⟩
  case app z bytes zr str a b =>
    obtain ⟨h1, h2⟩ := of_bif H
    simp only [Option.some.injEq, Prod.mk.injEq] at h2
    obtain ⟨rfl, rfl⟩ := h2
    simp only [Bool.and_eq_true] at h1
    refine ⟨fun hk => ⟨oldOkB_ok h1.1.1.1, srcOkB_ok h1.1.1.2, Nat.le_of_ble_eq_true h1.1.2, Nat.le_of_ble_eq_true h1.2, hk⟩, (ok.killed _).push _, ?_⟩
    show h.top ≤ (killed h _).top + 1
    rw [killed_top]; omega
  case mkmap =>
    simp only [Option.some.injEq, Prod.mk.injEq] at H
    obtain ⟨rfl, rfl⟩ := H
    exact ⟨fun hk => hk, ok.push _, Nat.le_succ _⟩
  case fx k l =>
    obtain ⟨h1, h2⟩ := of_bif H
    simp only [Option.some.injEq] at h2
    have hh := fxV_heap ok k (l.map (VA.ev []))
    have e1 : (fxV h k (l.map (VA.ev []))).1 = v := by rw [h2]
    have e2 : (fxV h k (l.map (VA.ev []))).2 = h' := by rw [h2]
    rw [e2] at hh
    exact ⟨fun hk => ⟨fxOkB_ok h1, by rw [e1, e2]; exact hk⟩, hh⟩
  case nd neg a =>
    obtain ⟨h1, h2⟩ := of_bif H
    cases hn : isNil (a.ev []) with
    | true =>
      rw [hn] at h2
      simp only [cond_true, Option.some.injEq, Prod.mk.injEq] at h2
      obtain ⟨rfl, rfl⟩ := h2
      refine ⟨fun hk => ⟨h1, fun b b1 _ => ?_⟩, ok, Nat.le_refl _⟩
      rw [b1 hn]; exact hk
    | false =>
      rw [hn] at h2
      simp only [cond_false] at h2
      obtain ⟨h3, h2⟩ := of_bif h2
      simp only [Option.some.injEq, Prod.mk.injEq] at h2
      obtain ⟨rfl, rfl⟩ := h2
      refine ⟨fun hk => ⟨h1, fun b _ b2 => ?_⟩, ok, Nat.le_refl _⟩
      rw [b2 h3]; exact hk
  case mapset kk m k v' =>
    obtain ⟨h1, h2⟩ := of_bif H
    simp only [Option.some.injEq, Prod.mk.injEq] at h2
    obtain ⟨rfl, rfl⟩ := h2
    simp only [Bool.and_eq_true] at h1
    exact ⟨fun hk => ⟨mapHasB_ok h1.1, keysOkB_ok h1.2, hk⟩, mapsetV_ok ok _ _ _, by rw [mapsetV_top]; exact Nat.le_refl _⟩

/-! ### a region in its written order -/
abbrev CX := Nat → List PV → Heap → RX
def opX (call : CX) (h : Heap) (op : VOp) : RX :=
  match op with
  | .call f l => call f (l.map (VA.ev [])) h
  | .callv f l => (match f.ev [] with
    | .fn (.func f) a b => call f (a ++ l.map (VA.ev []) ++ b) h
    | _ => none)
  | op => stepX h op
def CallOk (P : Program) (call : CX) : Prop := ∀ f args h v h', call f args h = some (v, h') → HOk h → (∀ K : PV → Heap → Prop, K v h' → ACall P f args h K) ∧ HOk h' ∧ h.top ≤ h'.top
theorem opX_ok {P : Program} {call : CX} (hc : CallOk P call) {h : Heap} {op : VOp} {v : PV} {h' : Heap} {K : PV → Heap → Prop} (H : opX call h op = some (v, h')) (ok : HOk h) : (K v h' → StepW P [] h op K) ∧ HOk h' ∧ h.top ≤ h'.top := by
  cases op <;> simp only [opX] at H <;> first | exact stepX_ok H ok | skip
  case call f l =>
    obtain ⟨h1, h2⟩ := hc _ _ _ _ _ H ok
    exact ⟨fun hk => h1 K hk, h2⟩
  case callv f l =>
    split at H
    · rename_i f' a b hf
      obtain ⟨h1, h2⟩ := hc _ _ _ _ _ H ok
      exact ⟨fun hk => by simp only [StepW, hf]; exact h1 K hk, h2⟩
    · cases H
theorem opX_closed {call : CX} {h : Heap} {op : VOp} {r : PV × Heap} (H : opX call h op = some r) : op.closed = true := by
  cases op <;> first | rfl | (simp only [opX, stepX] at H; cases H)
theorem res_closed (t : Tr) (op : VOp) : (op.res t).closed = op.closed := by cases op <;> rfl
def putO (t : Tr) (d : Option Nat) (v : PV) : Tr := match d with | some d => Tr.put 10 t d v | none => t
def guardX (t : Tr) : Option (Nat × Bool) → Option Bool
  | none => some true
  | some (d, want) => guardOf want (t.get d)
def opsX (call : CX) : List VOper → Tr → Heap → Option (Tr × Heap)
  | [], t, h => some (t, h)
  | o :: r, t, h => match guardX t o.guard with
    | some true => (match opX call h (o.op.res t) with
      | some (v, h') => opsX call r (putO t o.dst v) h'
      | none => none)
    | some false => opsX call r (putO t o.dst .undef) h
    | none => none
def SimN (N : Nat) (t : Tr) (e : Env) : Prop := Sim t e ∧ ∀ k, N ≤ k → e.get k = .any
theorem SimN.put {N : Nat} (hN : N ≤ 1000) {t : Tr} {e : Env} (hs : SimN N t e) {d : Option Nat} (hd : ∀ k, d = some k → k < N) (v : PV) : SimN N (putO t d v) (e.put d v) := by
  cases d with
  | none => exact hs
  | some d =>
    have hlt := hd d rfl
    refine ⟨fun n => ?_, fun k hk => ?_⟩
    · simp only [putO, Env.put, Env.get]
      rw [Tr.get_put 10 t d n v (by have : (2 : Nat) ^ 10 = 1024 := by decide
                                    omega), hs.1 n]
    · simp only [Env.put, Env.get]
      rw [if_neg (by omega)]; exact hs.2 k hk
def DstOk (N : Nat) (q : List VOper) : Prop := ∀ o ∈ q, ∀ d, o.dst = some d → d < N
theorem opsX_ok {P : Program} {call : CX} (hc : CallOk P call) {N : Nat} (hN : N ≤ 1000) : ∀ {q : List VOper} {t : Tr} {e : Env} {h : Heap} {t' : Tr} {h' : Heap} {K : Env → Heap → Prop}, opsX call q t h = some (t', h') → DstOk N q → SimN N t e → HOk h →
    ((∀ e', SimN N t' e' → K e' h') → OpsW P q K e h) ∧ HOk h' ∧ h.top ≤ h'.top
  | [], t, e, h, t', h', K, H, _, hs, ok => by
    simp only [opsX, Option.some.injEq, Prod.mk.injEq] at H
    obtain ⟨rfl, rfl⟩ := H
    exact ⟨fun hk => hk e hs, ok, Nat.le_refl _⟩
  | ⟨dst, op, gd⟩ :: r, t, e, h, t', h', K, H, hd, hs, ok => by
    have hdst := hd _ (List.mem_cons_self ..)
    have hdr : DstOk N r := fun o ho => hd o (List.mem_cons_of_mem _ ho)
    have skip : opsX call r (putO t dst .undef) h = some (t', h') → ((∀ e', SimN N t' e' → K e' h') → OpsW P r K (e.put dst .undef) h) ∧ HOk h' ∧ h.top ≤ h'.top :=
      fun H => opsX_ok hc hN H hdr (hs.put hN hdst _) ok
    have run : ∀ v h1, opX call h (op.res t) = some (v, h1) → opsX call r (putO t dst v) h1 = some (t', h') →
        ((∀ e', SimN N t' e' → K e' h') → StepW P e h op (fun v h' => OpsW P r K (e.put dst v) h')) ∧ HOk h' ∧ h.top ≤ h'.top := by
      intro v h1 H1 H2
      have hcl := opX_closed H1
      rw [res_closed] at hcl
      obtain ⟨s1, s2, s3⟩ := opX_ok (K := fun v h' => OpsW P r K (e.put dst v) h') hc H1 ok
      obtain ⟨i1, i2, i3⟩ := opsX_ok (K := K) hc hN H2 hdr (hs.put hN hdst v) s2
      exact ⟨fun hk => StepW_res hs.1 (s1 (i1 hk)) hcl, i2, Nat.le_trans s3 i3⟩
    simp only [opsX] at H
    cases gd with
    | none =>
      simp only [guardX] at H
      split at H
      · rename_i v h1 H1
        obtain ⟨a, b⟩ := run v h1 H1 H
        exact ⟨fun hk => by rw [OpsW_n]; exact a hk, b⟩
      · cases H
    | some dw =>
      obtain ⟨d, want⟩ := dw
      simp only [guardX] at H
      rw [hs.1 d] at H
      cases hg : guardOf want (e.get d) with
      | none => rw [hg] at H; cases H
      | some c =>
        rw [hg] at H
        cases c with
        | false =>
          simp only at H
          obtain ⟨a, b⟩ := skip H
          exact ⟨fun hk => by simp only [OpsW, hg, GuardW_false]; exact a hk, b⟩
        | true =>
          simp only at H
          split at H
          · rename_i v h1 H1
            obtain ⟨a, b⟩ := run v h1 H1 H
            exact ⟨fun hk => by simp only [OpsW, hg, GuardW_true]; exact a hk, b⟩
          · cases H
theorem cCode_dst {P : Program} {N : Nat} {c : Code} {vc : VC} (hc : cCode P N c = some vc) : ∀ q, (∃ d, vc = .region q d) ∨ (∃ l, vc = .draw2 q l) → DstOk N q := by
  intro q hv
  have key : ∀ (ops : Array Oper), cOpers P N ops ops.toList = some q → DstOk N q := by
    intro ops h3 o ho d hd
    obtain ⟨hlen, hget⟩ := cOpers_get h3
    obtain ⟨i, hi, rfl⟩ := List.mem_iff_getElem.1 ho
    obtain ⟨vo, k1, _, k3, _, k5⟩ := hget i (ops.toList[i]'(by omega)) (by simp)
    rw [List.getElem?_eq_getElem hi] at k1
    simp only [Option.some.injEq] at k1; subst k1
    exact k5 d (by rw [← k3]; exact hd)
  cases c
  case region id ops draw =>
    obtain ⟨p, h3, h | h | h⟩ := cCode_region hc
    · obtain ⟨_, rfl⟩ := h
      rcases hv with ⟨d, h⟩ | ⟨l, h⟩
      · simp only [VC.region.injEq] at h; obtain ⟨rfl, _⟩ := h; exact key ops h3
      · cases h
    · obtain ⟨_, _, ⟨_, rfl⟩ | rfl⟩ := h
      · rcases hv with ⟨d, h⟩ | ⟨l, h⟩
        · simp only [VC.region.injEq] at h; obtain ⟨rfl, _⟩ := h; exact key ops h3
        · cases h
      · rcases hv with ⟨d, h⟩ | ⟨l, h⟩
        · cases h
        · simp only [VC.draw2.injEq] at h; obtain ⟨rfl, _⟩ := h; exact key ops h3
    · obtain ⟨c, rfl⟩ := h
      rcases hv with ⟨d, h⟩ | ⟨l, h⟩ <;> cases h
  all_goals
    exfalso
    rcases hv with ⟨d, rfl⟩ | ⟨l, rfl⟩ <;>
    · simp only [cCode, Option.map_eq_some_iff] at hc
      first
      | (simp at hc; done)
      | (split at hc <;> simp at hc)
theorem VW_regionX {P : Program} {N : Nat} {Q : Exit → Env → Heap → Prop} {e : Env} {h : Heap} {q : List VOper} (H : DstOk N q → OpsW P q (fun e' h' => Q .normal e' h') e h) : VW P N (.region q false) Q e h := by
  intro c hc
  have hdst := cCode_dst hc q (.inl ⟨_, rfl⟩)
  cases c
  case region id ops draw =>
    obtain ⟨p, h3, h' | h' | h'⟩ := cCode_region hc
    · obtain ⟨rfl, h'⟩ := h'
      simp only [VC.region.injEq, and_true] at h'
      subst h'
      intro g w a r he hd hs
      apply wp_region
      have := ops_sound (P := P) (N := N) (ops := ops) (Q := fun x a' w' => ∃ g' e' h', Q x e' h' ∧ Rel g' w' h' ∧ EnvRep g' a' e' ∧ a'.defers = [] ∧ a'.tmps.size = N ∧ Evo g w h g' w' h') (K := fun e' h' => Q .normal e' h') (g0 := g) (w0 := w) (h0 := h)
        (fun g' w' h' a' e' k1 k2 k3 k4 k5 k6 => ⟨g', _, h', k1, k2, k3, k4, k5, k6⟩) ops.toList q 0 e h (fun j => by simp) h3 (H hdst) g w a r he hd hs (Evo.refl _ _ _)
      simpa using this
    · rcases h'.2.2 with ⟨_, h'⟩ | h' <;> simp at h'
    · obtain ⟨c, h'⟩ := h'; cases h'
  all_goals
    simp only [cCode, Option.map_eq_some_iff] at hc
    first
    | (simp at hc; done)
    | (split at hc <;> simp at hc)
end Go.VM

