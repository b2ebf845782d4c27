/-
  The value machine, run: the whole, and what a run gives.
-/
import Derived.Test.YtepmaobfbfbecaaVmE
set_option linter.all false
namespace Go.VM
open Go

structure FnD where
  n : Nat
  rs : List RS
  vc : VC
abbrev EX := VC → Tr → Heap → Option (Exit × Tr × Heap)
def tgt : VOp → Option Nat
  | .store _ a _ => (match a.ev [] with | .loc id _ _ => some id | _ => none)
  | .mapset _ m _ _ => (match m.ev [] with | .mp id => some id | _ => none)
  | .app _ _ _ _ a _ => (match a.ev [] with | .own id _ _ => some id | _ => none)
  | _ => none
/-- The blocks that the region writes, by a first pass. -/
def touchX (call : CX) : List VOper → Tr → Heap → List Nat
  | [], _, _ => []
  | o :: r, t, h => match guardX t o.guard with
    | some true => (match opX call h (o.op.res t) with
      | some (v, h') => (match tgt (o.op.res t) with
        | some id => id :: touchX call r (putO t o.dst v) h'
        | none => touchX call r (putO t o.dst v) h')
      | none => [])
    | some false => touchX call r (putO t o.dst .undef) h
    | none => []
def quietHeap (q : List VOper) (h : Heap) : Heap := ⟨h.l, h.top + q.length⟩
/-- Blocks that an append may take away. -/
def goneX (call : CX) : List VOper → Tr → Heap → List Nat
  | [], _, _ => []
  | o :: r, t, h => match guardX t o.guard with
    | some true => (match opX call h (o.op.res t) with
      | some (v, h') => (match o.op.res t with
        | .app _ _ _ _ (.c (.own id _ _)) _ => id :: goneX call r (putO t o.dst v) h'
        | _ => goneX call r (putO t o.dst v) h')
      | none => [])
    | some false => goneX call r (putO t o.dst .undef) h
    | none => []
def midHeap (call : CX) (q : List VOper) (t : Tr) (h : Heap) : Heap :=
  bif q.any (fun o => match o.op with | .app .. => true | _ => false) then (match goneX call q t h with
    | ids => ⟨HL.only (fun k => !ids.any (Nat.beq k)) h.l, h.top⟩) else h
def smallHeap (call : CX) (q : List VOper) (t : Tr) (h : Heap) : Heap :=
  match touchX call q t h with
  | ids => ⟨HL.only (fun k => !ids.any (Nat.beq k)) h.l, h.top + q.length⟩
def stepVC (ex : EX) (call : CX) : EX
  | .skip, t, h => some (.normal, t, h)
  | .region q false, t, h => (match opsX call q t h with
    | some (t', h') => some (.normal, t', h')
    | none => none)
  | .region q true, t, h => (match drawX call (quietHeap q h) q t h with
    | some (t', h') => some (.normal, t', h')
    | none => none)
  | .draw2 q late, t, h => (match draw2X call (quietHeap q h) (midHeap call q t h) (smallHeap call q t h) late 0 q t h with
    | some (t', h') => some (.normal, t', h')
    | none => none)
  | .seq a b, t, h => (match ex a t h with
    | some (.normal, t', h') => ex b t' h'
    | r => r)
  | .cond c a b, t, h => (match (c.res t).ev [] with
    | .bool true => ex a t h
    | .bool false => ex b t h
    | _ => none)
  | .block id b, t, h => (match ex b t h with
    | some (.exit j, t', h') => some (bif Nat.beq j id then .normal else .exit j, t', h')
    | r => r)
  | .loop b, t, h => (match ex b t h with
    | some (.normal, t', h') => ex (.loop b) t' h'
    | r => r)
  | .exit id, t, h => some (.exit id, t, h)
  | .ret, t, h => some (.ret, t, h)
  | .other _, _, _ => none
def argTr : Nat → List PV → Tr → Tr
  | _, [], t => t
  | k, a :: r, t => argTr (k + 1) r (Tr.put 10 t k a)
def rsV (t : Tr) (h : Heap) : RS → PV
  | .t n => t.get n
  | .c n g s => aggV g ((locCells h (t.get n)).take s)
def rsB (t : Tr) (h : Heap) : RS → Bool
  | .t _ => true
  | .c n g s => locOkB h (t.get n) && Nat.ble s (locCells h (t.get n)).length && (g || Nat.beq s 1)
def rssV (t : Tr) (h : Heap) : List RS → PV
  | [x] => rsV t h x
  | l => .tup (l.map (rsV t h))
/-- What the callee made is let go of, where neither its arguments nor its result name a block. -/
def letGo (h : Heap) (args : List PV) (v : PV) (h' : Heap) : Heap :=
  bif PV.clsB args && v.clB then ⟨HL.only (fun k => Nat.blt k h.top) h'.l, h'.top⟩ else h'
def callX (ex : EX) (T : Nat → Option FnD) : CX := fun f args h =>
  match T f with
  | some d => bif Nat.ble args.length d.n && Nat.ble d.n 1000 then (match ex d.vc (argTr 0 args .lf) h with
    | some (.normal, t', h') => bif d.rs.all (rsB t' h') then some (rssV t' h' d.rs, letGo h args (rssV t' h' d.rs) h') else none
    | some (.ret, t', h') => bif d.rs.all (rsB t' h') then some (rssV t' h' d.rs, letGo h args (rssV t' h' d.rs) h') else none
    | _ => none) else none
  | none => none
def exec (T : Nat → Option FnD) : Nat → EX
  | 0 => fun _ _ _ => none
  | n + 1 => stepVC (exec T n) (callX (exec T n) T)
/-- The functions are what the table says. -/
def FnOk (P : Program) (f : Nat) (d : FnD) : Prop := ∃ fn c, P.funcs[f]? = some fn ∧ fnOk P f = true ∧ fn.body = some c ∧ rsOf P fn.results.toList = some d.rs ∧ d.n = fn.ntmps ∧ cCode P fn.ntmps c = some d.vc
def TOk (P : Program) (T : Nat → Option FnD) : Prop := ∀ f d, T f = some d → FnOk P f d

def HExOk (ex : EX) : Prop := ∀ vc t h x t' h', ex vc t h = some (x, t', h') → HOk h → HOk h' ∧ h.top ≤ h'.top
def VExOk (P : Program) (ex : EX) : Prop := ∀ vc t h x t' h', ex vc t h = some (x, t', h') → ∀ N, N ≤ 1000 → ∀ e, SimN N t e → HOk h → ∀ Q : Exit → Env → Heap → Prop,
  (∀ e', SimN N t' e' → Q x e' h') → VW P N vc Q e h
def LExOk (P : Program) (ex : EX) : Prop := ∀ b t h x t' h', ex (.loop b) t h = some (x, t', h') → HOk h → ∃ n, ∀ N, N ≤ 1000 → ∀ e, SimN N t e → ∀ Q : Exit → Env → Heap → Prop,
  (∀ e', SimN N t' e' → Q x e' h') → VRounds P N b Q n e h
def HCallOk (call : CX) : Prop := ∀ f args h v h', call f args h = some (v, h') → HOk h → HOk h' ∧ h.top ≤ h'.top

theorem quietHeap_ok {q : List VOper} {h : Heap} (ok : HOk h) : HOk (quietHeap q h) ∧ (quietHeap q h).le h :=
  ⟨HL.dec_mono ok (Nat.le_add_right _ _), Nat.le_add_right _ _, HL.le_self ok fun _ _ => .inl rfl⟩
theorem midHeap_ok {call : CX} {q : List VOper} {t : Tr} {h : Heap} (ok : HOk h) : Shp (midHeap call q t h) h := by
  unfold midHeap
  cases q.any (fun o => match o.op with | .app .. => true | _ => false)
  · exact fun id fz z es e => ⟨fz, es, e⟩
  · intro id fz z es e
    have e' : HL.get (HL.only (fun k => !(goneX call q t h).any (Nat.beq k)) h.l) id = some (.arr fz z es) := e
    rw [HL.get_only _ ok] at e'
    split at e'
    · exact ⟨fz, es, e'⟩
    · cases e'
theorem smallHeap_ok {call : CX} {q : List VOper} {t : Tr} {h : Heap} (ok : HOk h) : HOk (smallHeap call q t h) ∧ (smallHeap call q t h).le h ∧ (smallHeap call q t h).le (quietHeap q h) ∧ (smallHeap call q t h).top = (quietHeap q h).top := by
  have h1 := HL.dec_only (fun k => !(touchX call q t h).any (Nat.beq k)) ok
  have hl : HL.le (HL.only (fun k => !(touchX call q t h).any (Nat.beq k)) h.l) h.get := HL.le_self h1 fun k _ => by
    show HL.get (HL.only _ h.l) k = HL.get h.l k ∨ _
    rw [HL.get_only _ ok]
    split
    · exact .inl rfl
    · exact .inr rfl
  exact ⟨HL.dec_mono h1 (Nat.le_add_right _ _), ⟨Nat.le_add_right _ _, hl⟩, ⟨Nat.le_refl _, hl⟩, rfl⟩
theorem opX_heap {call : CX} (hc : HCallOk call) {h : Heap} {op : VOp} {v : PV} {h' : Heap} (H : opX call h op = some (v, h')) (ok : HOk h) : HOk h' ∧ h.top ≤ h'.top := by
  cases op <;> simp only [opX] at H <;> first | exact (stepX_ok (P := default) (K := fun _ _ => True) H ok).2 | skip
  case call f l => exact hc _ _ _ _ _ H ok
  case callv f l =>
    split at H
    · exact hc _ _ _ _ _ H ok
    · cases H
theorem opsX_heap {call : CX} (hc : HCallOk call) : ∀ {q : List VOper} {t : Tr} {h : Heap} {t' : Tr} {h' : Heap}, opsX call q t h = some (t', h') → HOk h → HOk h' ∧ h.top ≤ h'.top := by
  intro q
  induction q with
  | nil =>
    intro t h t' h' H ok
    simp only [opsX, Option.some.injEq, Prod.mk.injEq] at H
    obtain ⟨_, rfl⟩ := H
    exact ⟨ok, Nat.le_refl _⟩
  | cons o r ih =>
    intro t h t' h' H ok
    simp only [opsX] at H
    split at H
    · split at H
      · rename_i v h1 H1
        obtain ⟨s2, s3⟩ := opX_heap hc H1 ok
        obtain ⟨i2, i3⟩ := ih H s2
        exact ⟨i2, Nat.le_trans s3 i3⟩
      · cases H
    · exact ih H ok
    · cases H
theorem drawX_heap {call : CX} {hq : Heap} : ∀ {q : List VOper} {t : Tr} {h : Heap} {t' : Tr} {h' : Heap}, drawX call hq q t h = some (t', h') → HOk h → HOk h' ∧ h.top ≤ h'.top := by
  intro q
  induction q with
  | nil =>
    intro t h t' h' H ok
    simp only [drawX, Option.some.injEq, Prod.mk.injEq] at H
    obtain ⟨_, rfl⟩ := H
    exact ⟨ok, Nat.le_refl _⟩
  | cons o r ih =>
    intro t h t' h' H ok
    simp only [drawX] at H
    split at H
    · obtain ⟨_, H⟩ := of_bif H
      split at H
      · rename_i v h1 H1
        obtain ⟨_, H⟩ := of_bif H
        obtain ⟨_, s2, s3⟩ := stepX_ok (P := default) (K := fun _ _ => True) H1 ok
        obtain ⟨i2, i3⟩ := ih H s2
        exact ⟨i2, Nat.le_trans s3 i3⟩
      · cases H
    · cases H
    · split at H
      · split at H
        · exact ih H ok
        · cases H
      · exact ih H ok
      · cases H
theorem draw2X_heap {call : CX} {big mid small : Heap} {late : List Bool} : ∀ {q : List VOper} {k : Nat} {t : Tr} {h : Heap} {t' : Tr} {h' : Heap}, draw2X call big mid small late k q t h = some (t', h') → HOk h → HOk h' ∧ h.top ≤ h'.top := by
  intro q
  induction q with
  | nil =>
    intro k t h t' h' H ok
    simp only [draw2X, Option.some.injEq, Prod.mk.injEq] at H
    obtain ⟨_, rfl⟩ := H
    exact ⟨ok, Nat.le_refl _⟩
  | cons o r ih =>
    intro k t h t' h' H ok
    simp only [draw2X] at H
    split at H
    · obtain ⟨_, H⟩ := of_bif H
      split at H
      · rename_i v h1 H1
        obtain ⟨_, H⟩ := of_bif H
        obtain ⟨_, s2, s3⟩ := stepX_ok (P := default) (K := fun _ _ => True) H1 ok
        obtain ⟨i2, i3⟩ := ih H s2
        exact ⟨i2, Nat.le_trans s3 i3⟩
      · cases H
    · cases H
    · split at H
      · split at H
        · exact ih H ok
        · cases H
      · exact ih H ok
      · cases H
theorem stepVC_heap {ex : EX} {call : CX} (he : HExOk ex) (hc : HCallOk call) : HExOk (stepVC ex call) := by
  intro vc t h x t' h' H ok
  have same : ∀ {y : Exit}, (some (y, t, h) : Option (Exit × Tr × Heap)) = some (x, t', h') → HOk h' ∧ h.top ≤ h'.top := by
    intro y H
    simp only [Option.some.injEq, Prod.mk.injEq] at H
    obtain ⟨_, _, rfl⟩ := H
    exact ⟨ok, Nat.le_refl _⟩
  cases vc with
  | skip => exact same H
  | exit id => exact same H
  | ret => exact same H
  | other c => cases H
  | region q d =>
    cases d with
    | false =>
      simp only [stepVC] at H
      split at H
      · rename_i t1 h1 H1
        simp only [Option.some.injEq, Prod.mk.injEq] at H
        obtain ⟨_, _, rfl⟩ := H
        exact opsX_heap hc H1 ok
      · cases H
    | true =>
      simp only [stepVC] at H
      split at H
      · rename_i t1 h1 H1
        simp only [Option.some.injEq, Prod.mk.injEq] at H
        obtain ⟨_, _, rfl⟩ := H
        exact drawX_heap H1 ok
      · cases H
  | draw2 q late =>
    simp only [stepVC] at H
    split at H
    · rename_i t1 h1 H1
      simp only [Option.some.injEq, Prod.mk.injEq] at H
      obtain ⟨_, _, rfl⟩ := H
      exact draw2X_heap H1 ok
    · cases H
  | seq a b =>
    simp only [stepVC] at H
    split at H
    · rename_i t1 h1 H1
      obtain ⟨b1, b2⟩ := he a t h .normal t1 h1 H1 ok
      obtain ⟨c1, c2⟩ := he b t1 h1 x t' h' H b1
      exact ⟨c1, Nat.le_trans b2 c2⟩
    · exact he a t h x t' h' H ok
  | cond c a b =>
    simp only [stepVC] at H
    split at H
    · exact he a t h x t' h' H ok
    · exact he b t h x t' h' H ok
    · cases H
  | block id b =>
    simp only [stepVC] at H
    split at H
    · rename_i j t1 h1 H1
      simp only [Option.some.injEq, Prod.mk.injEq] at H
      obtain ⟨_, _, rfl⟩ := H
      exact he b t h _ t1 h1 H1 ok
    · exact he b t h x t' h' H ok
  | loop b =>
    simp only [stepVC] at H
    split at H
    · rename_i t1 h1 H1
      obtain ⟨b1, b2⟩ := he b t h .normal t1 h1 H1 ok
      obtain ⟨c1, c2⟩ := he (.loop b) t1 h1 x t' h' H b1
      exact ⟨c1, Nat.le_trans b2 c2⟩
    · exact he b t h x t' h' H ok
theorem CallOk.heap {P : Program} {call : CX} (h : CallOk P call) : HCallOk call := fun f args hh v h' H ok => (h f args hh v h' H ok).2
theorem stepVC_ok {P : Program} {ex : EX} {call : CX} (hh : HExOk ex) (he : VExOk P ex) (hl : LExOk P (stepVC ex call)) (hc : CallOk P call) : VExOk P (stepVC ex call) := by
  intro vc t h x t' h' H N hN e hs ok Q hk
  cases vc with
  | skip =>
    simp only [stepVC, Option.some.injEq, Prod.mk.injEq] at H
    obtain ⟨rfl, rfl, rfl⟩ := H
    exact VW_skip (hk e hs)
  | exit id =>
    simp only [stepVC, Option.some.injEq, Prod.mk.injEq] at H
    obtain ⟨rfl, rfl, rfl⟩ := H
    exact VW_exit (hk e hs)
  | ret =>
    simp only [stepVC, Option.some.injEq, Prod.mk.injEq] at H
    obtain ⟨rfl, rfl, rfl⟩ := H
    exact VW_ret (hk e hs)
  | other c => cases H
  | region q d =>
    cases d with
    | false =>
      simp only [stepVC] at H
      split at H
      · rename_i t1 h1 H1
        simp only [Option.some.injEq, Prod.mk.injEq] at H
        obtain ⟨rfl, rfl, rfl⟩ := H
        exact VW_regionX fun hd => (opsX_ok (K := fun e' h' => Q .normal e' h') hc hN H1 hd hs ok).1 fun e' hs' => hk e' hs'
      · cases H
    | true =>
      simp only [stepVC] at H
      split at H
      · rename_i t1 h1 H1
        simp only [Option.some.injEq, Prod.mk.injEq] at H
        obtain ⟨rfl, rfl, rfl⟩ := H
        obtain ⟨okq, hlq⟩ := quietHeap_ok (q := q) ok
        generalize quietHeap q h = hq at *
        exact VW_drawX hq hlq fun hd => (drawX_ok (K := fun e' h' => Q .normal (Env.keep (List.range N) e') h') hc hN okq H1 hd hs ok hlq).1 fun e' hs' => hk _ hs'.keep
      · cases H
  | draw2 q late =>
    simp only [stepVC] at H
    split at H
    · rename_i t1 h1 H1
      simp only [Option.some.injEq, Prod.mk.injEq] at H
      obtain ⟨rfl, rfl, rfl⟩ := H
      obtain ⟨okq, hlq⟩ := quietHeap_ok (q := q) ok
      obtain ⟨oks, hls, hsb, htop⟩ := smallHeap_ok (call := call) (q := q) (t := t) ok
      exact VW_draw2X _ _ _ hlq hls (midHeap_ok (call := call) (q := q) (t := t) ok) fun hd => (draw2X_ok (K := fun e' h' => Q .normal (Env.keep (List.range N) e') h') hc hN okq oks htop H1 (fun j => by simp) hd hs ok hls (midHeap_ok (call := call) (q := q) (t := t) ok)).1 fun e' hs' => hk _ hs'.keep
    · cases H
  | seq a b =>
    simp only [stepVC] at H
    split at H
    · rename_i t1 h1 H1
      have ok1 := (hh a t h .normal t1 h1 H1 ok).1
      exact VW_seq (he a t h .normal t1 h1 H1 N hN e hs ok (thenQ (VW P N b Q) Q) fun e' hs' => he b t1 h1 x t' h' H N hN e' hs' ok1 Q hk)
    · rename_i hne
      refine VW_seq (he a t h x t' h' H N hN e hs ok (thenQ (VW P N b Q) Q) fun e' hs' => ?_)
      cases x with
      | normal => exact absurd H (hne t' h')
      | exit id => exact hk e' hs'
      | goto l => exact hk e' hs'
      | ret => exact hk e' hs'
      | panic ch => exact hk e' hs'
      | outgrown => exact hk e' hs'
  | cond c a b =>
    simp only [stepVC] at H
    split at H
    · rename_i hb
      rw [hs.1.ev] at hb
      exact VW_cond hb (fun _ => he a t h x t' h' H N hN e hs ok Q hk) (fun h => by cases h)
    · rename_i hb
      rw [hs.1.ev] at hb
      exact VW_cond hb (fun h => by cases h) (fun _ => he b t h x t' h' H N hN e hs ok Q hk)
    · cases H
  | block id b =>
    simp only [stepVC] at H
    split at H
    · rename_i j t1 h1 H1
      simp only [Option.some.injEq, Prod.mk.injEq] at H
      obtain ⟨rfl, rfl, rfl⟩ := H
      refine VW_block (he b t h (.exit j) t1 h1 H1 N hN e hs ok (blockQ id Q) fun e' hs' => ?_)
      have := hk e' hs'
      simp only [blockQ]
      cases hj : Nat.beq j id with
      | true => rw [hj] at this; rw [if_pos (Nat.eq_of_beq_eq_true hj)]; exact this
      | false => rw [hj] at this; rw [if_neg (fun h => by rw [h] at hj; simp at hj)]; exact this
    · rename_i hne
      refine VW_block (he b t h x t' h' H N hN e hs ok (blockQ id Q) fun e' hs' => ?_)
      cases x with
      | exit j => exact absurd H (hne j t' h')
      | normal => exact hk e' hs'
      | goto l => exact hk e' hs'
      | ret => exact hk e' hs'
      | panic ch => exact hk e' hs'
      | outgrown => exact hk e' hs'
  | loop b =>
    obtain ⟨n, hn⟩ := hl b t h x t' h' H ok
    exact VW_rounds n (hn N hN e hs Q hk)
theorem stepVC_loop {P : Program} {ex : EX} {call : CX} (hh : HExOk ex) (he : VExOk P ex) (hl : LExOk P ex) : LExOk P (stepVC ex call) := by
  intro b t h x t' h' H ok
  simp only [stepVC] at H
  split at H
  · rename_i t1 h1 H1
    have ok1 := (hh b t h .normal t1 h1 H1 ok).1
    obtain ⟨n, hn⟩ := hl b t1 h1 x t' h' H ok1
    exact ⟨n + 1, fun N hN e hs Q hk => he b t h .normal t1 h1 H1 N hN e hs ok (thenQ (VRounds P N b Q n) Q) fun e' hs' => hn N hN e' hs' Q hk⟩
  · rename_i hne
    refine ⟨1, fun N hN e hs Q hk => he b t h x t' h' H N hN e hs ok (thenQ (VRounds P N b Q 0) Q) fun e' hs' => ?_⟩
    cases x with
    | normal => exact absurd H (hne t' h')
    | exit id => exact hk e' hs'
    | goto l => exact hk e' hs'
    | ret => exact hk e' hs'
    | panic ch => exact hk e' hs'
    | outgrown => exact hk e' hs'

/-! ### calls -/
theorem argTr_sim {N : Nat} (hN : N ≤ 1000) : ∀ (l : List PV) (k : Nat) (t : Tr) (e : Env), SimN N t e → k + l.length ≤ N → (∀ i, k ≤ i → e.get i = .any) → Sim (argTr k l t) (argEnv k l ++ e)
  | [], k, t, e, hs, _, _ => hs.1
  | a :: r, k, t, e, hs, hk, hf => by
    simp only [argTr]
    intro n
    have hlen : k + 1 + r.length ≤ N := by simp at hk; omega
    have hput := SimN.put (d := some k) hN hs (fun j hj => by simp only [Option.some.injEq] at hj; omega) a
    have ih := argTr_sim hN r (k + 1) (Tr.put 10 t k a) (e.put (some k) a) hput hlen (fun i hi => by simp only [Env.put, Env.get]; rw [if_neg (by omega)]; exact hf i (by omega)) n
    rw [ih]
    have app : ∀ (l : List PV) (k : Nat) (e : Env) (n : Nat), Env.get (argEnv k l ++ e) n = if k ≤ n ∧ n < k + l.length then PV.nth l (n - k) else e.get n := by
      intro l
      induction l with
      | nil => intro k e n; simp [argEnv]; intro h1 h2; omega
      | cons b l ihl =>
        intro k e n
        simp only [argEnv, List.cons_append, Env.get, ihl]
        by_cases h1 : k = n
        · subst h1; simp [PV.nth]
        · rw [if_neg h1]
          by_cases h2 : k + 1 ≤ n ∧ n < k + 1 + l.length
          · rw [if_pos h2, if_pos ⟨by omega, by simp; omega⟩]
            have : n - k = (n - (k + 1)) + 1 := by omega
            rw [this]; simp [PV.nth]
          · rw [if_neg h2, if_neg (by simp; omega)]
    rw [app, app]
    by_cases h1 : n = k
    · subst h1
      rw [if_neg (by omega), if_pos (by simp)]
      simp [Env.put, Env.get, PV.nth]
    · by_cases h2 : k + 1 ≤ n ∧ n < k + 1 + r.length
      · rw [if_pos h2, if_pos ⟨by omega, by simp; omega⟩]
        have : n - k = (n - (k + 1)) + 1 := by omega
        rw [this]; simp [PV.nth]
      · rw [if_neg h2, if_neg (by simp; omega)]
        simp only [Env.put, Env.get]
        rw [if_neg (by omega)]
theorem argTr_simN {N : Nat} (hN : N ≤ 1000) (l : List PV) (hl : l.length ≤ N) : SimN N (argTr 0 l .lf) (argEnv 0 l) := by
  have h0 : SimN N .lf [] := ⟨fun n => rfl, fun k _ => rfl⟩
  have := argTr_sim hN l 0 .lf [] h0 (by omega) (fun _ _ => rfl)
  rw [List.append_nil] at this
  refine ⟨this, fun k hk => ?_⟩
  rw [argEnv_get, if_neg (by omega)]
theorem rsB_ok {N : Nat} {t : Tr} {e : Env} (hs : SimN N t e) (h : Heap) : ∀ {l : List RS}, l.all (rsB t h) = true → resOk e h l
  | [], _ => trivial
  | x :: r, H => by
    simp only [List.all_cons, Bool.and_eq_true] at H
    refine ⟨?_, rsB_ok hs h H.2⟩
    cases x with
    | t n => trivial
    | c n g s =>
      have h1 := H.1
      simp only [rsB, Bool.and_eq_true] at h1
      rw [hs.1 n] at h1
      exact ⟨locOkB_ok h1.1.1, Nat.le_of_ble_eq_true h1.1.2, gs_ok h1.2⟩
theorem rsV_eq {N : Nat} {t : Tr} {e : Env} (hs : SimN N t e) (h : Heap) (x : RS) : rsV t h x = x.ev e h := by
  cases x with
  | t n => exact hs.1 n
  | c n g s => simp only [rsV, RS.ev, hs.1 n]
theorem rssV_eq {N : Nat} {t : Tr} {e : Env} (hs : SimN N t e) (h : Heap) (l : List RS) : rssV t h l = resV e h l := by
  have hm : ∀ l : List RS, l.map (rsV t h) = l.map (RS.ev e h) := fun l => List.map_congr_left fun x _ => rsV_eq hs h x
  match l with
  | [] => rfl
  | [x] => exact rsV_eq hs h x
  | x :: y :: r => simp only [rssV, resV]; rw [hm]
theorem letGo_ok {h : Heap} {args : List PV} {v : PV} {h' : Heap} (ok : HOk h') : HOk (letGo h args v h') ∧ (letGo h args v h').top = h'.top ∧ (letGo h args v h').le h' := by
  unfold letGo
  cases PV.clsB args && v.clB
  · exact ⟨ok, rfl, ok.le_refl⟩
  · simp only [cond_true]
    have h1 := HL.dec_only (fun k => Nat.blt k h.top) ok
    refine ⟨h1, by trivial, Nat.le_refl _, HL.le_self h1 fun k _ => ?_⟩
    show HL.get (HL.only _ h'.l) k = HL.get h'.l k ∨ _
    rw [HL.get_only _ ok]
    split
    · exact .inl rfl
    · exact .inr rfl
theorem callX_ok {P : Program} {ex : EX} {T : Nat → Option FnD} (hT : TOk P T) (hh : HExOk ex) (he : VExOk P ex) : CallOk P (callX ex T) := by
  intro f args h v h' H ok
  unfold callX at H
  split at H
  case h_2 => cases H
  rename_i d hd
  obtain ⟨hb, H⟩ := of_bif H
  simp only [Bool.and_eq_true] at hb
  have hn : args.length ≤ d.n := Nat.le_of_ble_eq_true hb.1
  have hN : d.n ≤ 1000 := Nat.le_of_ble_eq_true hb.2
  obtain ⟨fn, c, f1, f2, f3, f4, f5, f6⟩ := hT f d hd
  have fin : ∀ (x : Exit) t' h1, (x = .normal ∨ x = .ret) → ex d.vc (argTr 0 args .lf) h = some (x, t', h1) → d.rs.all (rsB t' h1) = true → rssV t' h1 d.rs = v → letGo h args (rssV t' h1 d.rs) h1 = h' →
      (∀ K : PV → Heap → Prop, K v h' → ACall P f args h K) ∧ HOk h' ∧ h.top ≤ h'.top := by
    intro x t' h1 hx H1 H2 H3 H4
    subst H3
    obtain ⟨ok1, top1⟩ := hh _ _ _ _ _ _ H1 ok
    obtain ⟨l1, l2, l3⟩ := letGo_ok (h := h) (args := args) (v := rssV t' h1 d.rs) ok1
    rw [H4] at l1 l2 l3
    refine ⟨fun K hk => ?_, l1, by omega⟩
    refine ACall.drop (ACall_fn f1 f2 f3 f4 (by omega) f6 ?_)
    rw [← f5]
    refine he d.vc _ h x t' h1 H1 d.n hN _ (argTr_simN hN args hn) ok _ fun e' hs' => ?_
    have hr : resOk e' h1 d.rs ∧ ∃ h0, h0.le h1 ∧ K (resV e' h1 d.rs) h0 := ⟨rsB_ok hs' h1 H2, h', l3, by rw [← rssV_eq hs']; exact hk⟩
    rcases hx with rfl | rfl
    · exact hr
    · exact hr
  split at H
  · rename_i t' h1 H1
    obtain ⟨H2, H3⟩ := of_bif H
    simp only [Option.some.injEq, Prod.mk.injEq] at H3
    exact fin .normal t' h1 (.inl rfl) H1 H2 H3.1 H3.2
  · rename_i t' h1 H1
    obtain ⟨H2, H3⟩ := of_bif H
    simp only [Option.some.injEq, Prod.mk.injEq] at H3
    exact fin .ret t' h1 (.inr rfl) H1 H2 H3.1 H3.2
  · cases H
theorem exec_ok {P : Program} {T : Nat → Option FnD} (hT : TOk P T) : ∀ n, HExOk (exec T n) ∧ VExOk P (exec T n) ∧ LExOk P (exec T n)
  | 0 => ⟨fun _ _ _ _ _ _ H => (by cases H), fun _ _ _ _ _ _ H => (by cases H), fun _ _ _ _ _ _ H => (by cases H)⟩
  | n + 1 => by
    obtain ⟨i1, i2, i3⟩ := exec_ok hT n
    have hc := callX_ok hT i1 i2
    have hl : LExOk P (stepVC (exec T n) (callX (exec T n) T)) := stepVC_loop i1 i2 i3
    exact ⟨stepVC_heap i1 hc.heap, stepVC_ok i1 i2 hl hc, hl⟩
/-- WHAT A RUN GIVES: the call of f on arguments that name no block. -/
def runX (T : Nat → Option FnD) (n f : Nat) (args : List PV) : Option PV := pcallX (callX (exec T n) T) Heap.nil f args
theorem run_pcall {P : Program} {T : Nat → Option FnD} (hT : TOk P T) (n : Nat) {f : Nat} {args : List PV} {p : PV} (hcl : PV.clsB args = true) (H : runX T n f args = some p) : PCall P f args p := by
  obtain ⟨i1, i2, i3⟩ := exec_ok hT n
  unfold runX pcallX at H
  rw [hcl] at H
  simp only [cond_true] at H
  split at H
  · rename_i r h' hr
    exact pcall_of (callX_ok hT i1 i2) hcl hr H
  · cases H
/-- A table, row by row. -/
def tab : List (Nat × FnD) → Nat → Option FnD
  | [], _ => none
  | (k, d) :: r, f => bif Nat.beq f k then some d else tab r f
theorem tab_ok {P : Program} : ∀ {l : List (Nat × FnD)}, (∀ x ∈ l, FnOk P x.1 x.2) → TOk P (tab l)
  | [], _ => fun f d h => by cases h
  | (k, d) :: r, H => fun f d' h => by
    simp only [tab] at h
    cases hb : Nat.beq f k with
    | true =>
      rw [hb] at h
      simp only [cond_true, Option.some.injEq] at h
      obtain rfl := Nat.eq_of_beq_eq_true hb
      subst h
      exact H (f, d) (List.mem_cons_self ..)
    | false =>
      rw [hb] at h
      exact tab_ok (fun x hx => H x (List.mem_cons_of_mem _ hx)) f d' h
theorem TOk_nil {P : Program} : ∀ x ∈ ([] : List (Nat × FnD)), FnOk P x.1 x.2 := fun x hx => by cases hx
theorem TOk_cons {P : Program} {k : Nat} {d : FnD} {l : List (Nat × FnD)} (h : FnOk P k d) (hl : ∀ x ∈ l, FnOk P x.1 x.2) : ∀ x ∈ (k, d) :: l, FnOk P x.1 x.2 := by
  intro x hx
  rcases List.mem_cons.1 hx with rfl | hx
  · exact h
  · exact hl x hx
end Go.VM

