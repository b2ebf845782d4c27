/-
  The value machine, 10: regions, code, functions.
  The value machine, 11: calls that touch nothing of the caller's ('PCall'), arguments seen as they stand, results frozen.
  The value machine, 12: a region that draws its order.
-/
import Derived.Test.YtepmaobfbfbecaaVm8
import Derived.Deep.LoopGhost
set_option linter.all false
namespace Go.VM
open Go

structure VOper where
  dst : Option Nat
  op : VOp
  guard : Option (Nat × Bool)
  deriving Inhabited

/-- Code as data, with what is kept of the frame behind each region. -/
inductive VC where
  | skip
  | region (ops : List VOper) (draw : Bool)
  | draw2 (ops : List VOper) (late : List Bool)
  | seq (a b : VC)
  | cond (c : VA) (thn els : VC)
  | block (id : Nat) (body : VC)
  | loop (body : VC)
  | exit (id : Nat)
  | ret
  | other (c : Code)
  deriving Inhabited

def cGuard (ops : Array Oper) : Option (Nat × Bool) → Option (Option (Nat × Bool))
  | none => some none
  | some (j, want) => match (ops[j]?).bind (·.dst) with
    | some d => some (some (d, want))
    | none => none
def dstB (N : Nat) : Option Nat → Bool
  | some d => decide (d < N)
  | none => true
def cOpers (P : Program) (N : Nat) (ops : Array Oper) : List Oper → Option (List VOper)
  | [] => some []
  | o :: r => match cOp P o, cGuard ops o.guard, cOpers P N ops r with
    | some op, some gd, some q => if dstB N o.dst then some (⟨o.dst, op, gd⟩ :: q) else none
    | _, _, _ => none
/-! ### regions that draw their order: what may change places (used in part 13) -/
def VOp.vas : VOp → List VA
  | .mv a | .un _ a | .conv _ a | .strid a | .b2s a | .s2b a | .faddr _ a | .fld _ _ _ a | .ext a _ | .len _ a | .box _ a | .load _ _ a | .isnil _ a => [a]
  | .pick a b c => [a, b, c]
  | .alloc _ | .mkmap => []
  | .build _ ps => ps.map fun p => p.2.2
  | .bslice _ _ _ ps => ps.map fun p => p.2
  | .store _ a b | .bin _ a b | .binb _ a b | .eqs _ _ a b | .iaddr _ a b | .idx a b | .app _ _ _ _ a b => [a, b]
  | .mkfn _ x y => x ++ y
  | .slice _ _ a lo hi => a :: (lo.toList ++ hi.toList)
  | .mm _ l => l
  | .lookup _ _ _ a b => [a, b]
  | .mlen a => [a]
  | .mapset _ a b c => [a, b, c]
  | .call _ l => l
  | .callv f l => f :: l
  | .px _ l => l
  | .fx _ l => l
  | .nd _ a => [a]
  | .other _ => []
def VOp.closed : VOp → Bool
  | .other _ => false
  | _ => true
/-- The operations that make or write memory, whose result is one of the heap's own. -/
def VOp.simple : VOp → Bool
  | .alloc _ | .box .. | .store .. | .app .. | .mapset .. | .mkmap | .fx .. | .nd .. => true
  | _ => false
def VOp.det : VOp → Bool
  | .bslice .. => true
  | op => op.pure
def VOper.reads (o : VOper) : List Nat :=
  (o.op.vas.filterMap fun | .t n => some n | _ => none) ++ (match o.guard with | some (d, _) => [d] | none => [])
/-- Neither looks at what the other writes. -/
def VOper.apart (x y : VOper) : Bool :=
  (match x.dst with | some d => !y.reads.contains d && y.dst != some d | none => true) && (match y.dst with | some d => !x.reads.contains d | none => true)
def effAt (q : List VOper) (k : Nat) : Bool := match q[k]? with | some o => o.op.simple | none => false
/-- Does j wait for k, straight or through others that are not listed yet? -/
def behindB (ops : Array Oper) (listed : Array Bool) : Nat → Nat → Nat → Bool
  | 0, _, _ => false
  | f + 1, k, j => match ops[j]? with
    | some o => o.after.any fun e => Region.binds .any e && (e.on == k || (!(listed.getD e.on true) && behindB ops listed f k e.on))
    | none => false
def freeB (ops : Array Oper) (q : List VOper) (listed : Array Bool) (k : Nat) : Bool :=
  (List.range ops.size).all fun j => j == k || listed.getD j true ||
    behindB ops listed ops.size k j ||
    (match q[k]?, q[j]? with
    | some x, some y => x.apart y && !(x.op.simple && y.op.simple) && (!x.op.simple || y.op.det)
    | _, _ => false)
def drawB (ops : Array Oper) (q : List VOper) : Nat → Nat → Array Bool → Bool
  | 0, _, listed => (Region.ready .any ops listed).isEmpty
  | n + 1, k, listed => (Region.ready .any ops listed).contains k && freeB ops q listed k && q.all (fun o => o.op.closed) && drawB ops q n (k + 1) (listed.setIfInBounds k true)
/-- Does it write a block that may be there already? -/
def VOp.writes : VOp → Bool
  | .store .. | .mapset .. | .app .. | .fx .. => true
  | _ => false
def writesAt (q : List VOper) (k : Nat) : Bool := match q[k]? with | some o => o.op.writes | none => false
/-- Do all writers wait for it? -/
def lateB (ops : Array Oper) (q : List VOper) (i : Nat) : Bool := (List.range ops.size).all fun j => !(writesAt q j) || behindB ops (Array.replicate ops.size false) ops.size i j
def lateL (ops : Array Oper) (q : List VOper) : List Bool := (List.range ops.size).map (lateB ops q)
def cCode (P : Program) (N : Nat) : Code → Option VC
  | .skip => some .skip
  | .region id ops draw => match cOpers P N ops ops.toList with
    | some q => if draw then (if P.follows .mixedOrders && drawB ops q ops.size 0 (Array.replicate ops.size false) then (if q.any (fun o => o.op.writes) then some (.draw2 q (lateL ops q)) else some (.region q true)) else some (.other (.region id ops draw))) else some (.region q false)
    | none => none
  | .seq a b => match cCode P N a, cCode P N b with
    | some x, some y => some (.seq x y)
    | _, _ => none
  | .cond c a b => match cA c, cCode P N a, cCode P N b with
    | some v, some x, some y => some (.cond v x y)
    | _, _, _ => none
  | .block id c => (cCode P N c).map (.block id)
  | .loop c => (cCode P N c).map .loop
  | .exit id => some (.exit id)
  | .ret => some .ret
  | c => some (.other c)

/-- Does the guard let the operation run? -/
def guardOf (want : Bool) : PV → Option Bool
  | .bool b => some (b == want)
  | .undef => some false
  | _ => none

/-- One operation under its guard. -/
def GuardW (P : Program) (e : Env) (h : Heap) (op : VOp) (c : Bool) (K : PV → Heap → Prop) : Prop :=
  match op.pure with
  | true => (c = true → pok e h op) ∧ K (gd c (pval e h op)) h
  | false => (c = true → StepW P e h op K) ∧ (c = false → K .undef h)

def OpsW (P : Program) : List VOper → (Env → Heap → Prop) → Env → Heap → Prop
  | [], K, e, h => K e h
  | o :: r, K, e, h => match o.guard with
    | none => StepW P e h o.op (fun v h' => OpsW P r K (e.put o.dst v) h')
    | some (d, want) => match guardOf want (e.get d) with
      | some c => GuardW P e h o.op c (fun v h' => OpsW P r K (e.put o.dst v) h')
      | none => False

/-- The code, over abstract states. -/
def AW (P : Program) (N : Nat) (c : Code) (Q : Exit → Env → Heap → Prop) (e : Env) (h : Heap) : Prop :=
  ∀ g w a, Rel g w h → EnvRep g a e → a.defers = [] → a.tmps.size = N →
    c.wp P (fun x a' w' => ∃ g' e' h', Q x e' h' ∧ Rel g' w' h' ∧ EnvRep g' a' e' ∧ a'.defers = [] ∧ a'.tmps.size = N ∧ Evo g w h g' w' h') a w

theorem put_size (a : Act) (d : Option Nat) (v : Value) : (a.put d v).tmps.size = a.tmps.size ∧ (a.put d v).defers = a.defers := by
  cases d <;> simp [Act.put]

theorem yielded_of {g : Gh} {a : Act} {e : Env} (he : EnvRep g a e) {ops : Array Oper} {j : Nat} {want : Bool} {d : Nat} (hd : (ops[j]?).bind (·.dst) = some d) {c : Bool} (hc : guardOf want (e.get d) = some c) :
    (yielded ops a.tmps j == some want) = c := by
  have hv := he d
  unfold yielded
  rw [hd]
  simp only [Option.bind_some]
  cases hp : e.get d <;> simp only [hp, guardOf, Option.some.injEq] at hc <;> try (cases hc; done)
  case undef =>
    subst hc
    rw [hp] at hv
    by_cases hlt : d < a.tmps.size
    · have e1 : a.tmps.getD d Go.undef = a.tmps[d] := by simp [Array.getD, hlt]
      rw [e1] at hv
      rw [Array.getElem?_eq_getElem hlt]
      generalize a.tmps[d] = v at hv
      cases hv
      rfl
    · rw [Array.getElem?_eq_none (by omega)]; rfl
  case bool b =>
    subst hc
    rw [hp] at hv
    by_cases hlt : d < a.tmps.size
    · have e1 : a.tmps.getD d Go.undef = a.tmps[d] := by simp [Array.getD, hlt]
      rw [e1] at hv
      rw [Array.getElem?_eq_getElem hlt, hv.bool_inv]
      cases b <;> cases want <;> rfl
    · have e1 : a.tmps.getD d Go.undef = Go.undef := by simp [Array.getD, hlt]
      rw [e1] at hv
      cases hv

theorem ops_sound {P : Program} {N : Nat} {ops : Array Oper} {Q : Exit → Act → World → Prop} {K : Env → Heap → Prop} {g0 : Gh} {w0 : World} {h0 : Heap}
    (hQ : ∀ g w h a e, K e h → Rel g w h → EnvRep g a e → a.defers = [] → a.tmps.size = N → Evo g0 w0 h0 g w h → Q .normal a w) :
    ∀ (l : List Oper) (q : List VOper) (k : Nat) (e : Env) (h : Heap), (∀ j, l[j]? = ops[k + j]?) → cOpers P N ops l = some q → OpsW P q K e h →
      ∀ g w a, Rel g w h → EnvRep g a e → a.defers = [] → a.tmps.size = N → Evo g0 w0 h0 g w h → wpOps P ops Q ((List.range l.length).map (k + ·)) a w
  | [], q, k, e, h, _, hc, hw, g, w, a, r, he, hd, hs, hev => by
    simp only [cOpers, Option.some.injEq] at hc; subst hc
    exact hQ g w h a e hw r he hd hs hev
  | o :: l, q, k, e, h, hl, hc, hw, g, w, a, r, he, hd, hs, hev => by
    have h0 : ops[k]? = some o := by simpa using (hl 0).symm
    have hl' : ∀ j, l[j]? = ops[(k + 1) + j]? := fun j => by have := hl (j + 1); simpa [Nat.add_assoc, Nat.add_comm 1 j] using this
    simp only [cOpers] at hc
    split at hc
    case h_2 => cases hc
    rename_i op gu qs h1 h2 h3
    have hdst : dstB N o.dst = true := by
      by_cases hh : dstB N o.dst = true
      · exact hh
      · rw [if_neg hh] at hc; cases hc
    rw [if_pos hdst] at hc
    simp only [Option.some.injEq] at hc; subst hc
    have hdlt : ∀ t, o.dst = some t → t < a.tmps.size := by
      intro t ht
      rw [ht] at hdst
      rw [hs]; simpa [dstB] using hdst
    have hlist : (List.range (o :: l).length).map (k + ·) = k :: (List.range l.length).map ((k + 1) + ·) := by
      simp only [List.length_cons, List.range_succ_eq_map, List.map_cons, Nat.add_zero, List.map_map]
      congr 1
      apply List.map_congr_left
      intro x _
      simp only [Function.comp]
      omega
    rw [hlist, wpOps_cons]
    unfold wpOp
    simp only [h0]
    have next : ∀ (v : Value) (pv : PV) (g' : Gh) (w' : World) (h' : Heap), OpsW P qs K (e.put o.dst pv) h' → Rep g' v pv → Rel g' w' h' → Evo g w h g' w' h' →
        wpOps P ops Q ((List.range l.length).map ((k + 1) + ·)) (a.put o.dst v) w' := by
      intro v pv g' w' h' hk hv hr hev'
      exact ops_sound hQ l qs (k + 1) _ _ hl' h3 hk g' w' _ hr ((he.mono hev'.le).put hv hdlt) (by rw [(put_size a o.dst v).2]; exact hd) (by rw [(put_size a o.dst v).1]; exact hs) (hev.trans hev')
    have skip : OpsW P qs K (e.put o.dst .undef) h → wpOps P ops Q ((List.range l.length).map ((k + 1) + ·)) (a.put o.dst Go.undef) w :=
      fun hk => next Go.undef .undef g w h hk .undef r (Evo.refl _ _ _)
    have run : StepW P e h op (fun v h' => OpsW P qs K (e.put o.dst v) h') → o.wp P a w (wpOps P ops Q ((List.range l.length).map ((k + 1) + ·))) Q :=
      fun hsw => stepW_sound h1 hsw g w a _ Q r he next
    simp only [OpsW] at hw
    unfold Region.wanted
    cases hog : o.guard with
    | none =>
      rw [hog] at h2
      simp only [cGuard, Option.some.injEq] at h2; subst h2
      simp only [if_true]
      exact .inl (run hw)
    | some jw =>
      obtain ⟨j, want⟩ := jw
      rw [hog] at h2
      simp only [cGuard] at h2
      split at h2
      case h_2 => cases h2
      rename_i d hdd
      simp only [Option.some.injEq] at h2; subst h2
      simp only at hw
      split at hw
      case h_2 => exact hw.elim
      rename_i c hcg
      have hy := yielded_of he hdd hcg
      simp only [hy]
      simp only [GuardW] at hw
      cases c
      · simp only [Bool.false_eq_true, if_false]
        apply skip
        split at hw
        · have := hw.2; simpa [gd] using this
        · exact hw.2 rfl
      · simp only [if_true]
        left
        apply run
        split at hw
        · rename_i hpure
          have h2' := hw.2
          simp only [gd, if_true] at h2'
          have h1' := hw.1 rfl
          cases op <;> first | exact ⟨h1', h2'⟩ | simp [VOp.pure] at hpure
        · exact hw.1 rfl

theorem AW_region {P : Program} {N : Nat} {id : Nat} {ops : Array Oper} {q : List VOper} {Q : Exit → Env → Heap → Prop} {e : Env} {h : Heap} (l : List Nat) (hc : cOpers P N ops ops.toList = some q) (hw : OpsW P q (fun e' h' => Q .normal (Env.keep l e') h') e h) :
    AW P N (.region id ops false) Q e h := by
  intro g w a r he hd hs
  apply wp_region
  have := ops_sound (P := P) (N := N) (ops := ops) (Q := fun x a' w' => ∃ g' e' h', Q x e' h' ∧ Rel g' w' h' ∧ EnvRep g' a' e' ∧ a'.defers = [] ∧ a'.tmps.size = N ∧ Evo g w h g' w' h') (K := fun e' h' => Q .normal (Env.keep l e') h') (g0 := g) (w0 := w) (h0 := h)
    (fun g' w' h' a' e' k1 k2 k3 k4 k5 k6 => ⟨g', _, h', k1, k2, k3.keep l, k4, k5, k6⟩) ops.toList q 0 e h (fun j => by simp) hc hw g w a r he hd hs (Evo.refl _ _ _)
  simpa using this

section rules
variable {P : Program} {N : Nat} {Q : Exit → Env → Heap → Prop} {e : Env} {h : Heap}

theorem AW.mono {c : Code} {Q' : Exit → Env → Heap → Prop} (H : AW P N c Q e h) (hq : ∀ x e h, Q x e h → Q' x e h) : AW P N c Q' e h :=
  fun g w a r he hd hs => wp_mono (H g w a r he hd hs) fun _ _ _ ⟨g', e', h', k1, k⟩ => ⟨g', e', h', hq _ _ _ k1, k⟩
theorem AW.weaken {c : Code} {e' : Env} {h' : Heap} (he : e'.le e) (hh : h'.le h) (H : AW P N c Q e' h') : AW P N c Q e h :=
  fun g w a r er hd hs => wp_mono (H g w a (r.weaken hh) (er.le he) hd hs) fun _ _ _ ⟨g', e2, h2, k1, k2, k3, k4, k5, k6⟩ => ⟨g', e2, h2, k1, k2, k3, k4, k5, k6.weakenL hh⟩
theorem AW.keep {c : Code} (l : List Nat) (H : AW P N c Q (Env.keep l e) h) : AW P N c Q e h :=
  fun g w a r er hd hs => H g w a r (er.keep l) hd hs
theorem AW_skip (H : Q .normal e h) : AW P N .skip Q e h := fun g w a r he hd hs => wp_skip ⟨g, e, h, H, r, he, hd, hs, Evo.refl _ _ _⟩
theorem AW_exit {id : Nat} (H : Q (.exit id) e h) : AW P N (.exit id) Q e h := fun g w a r he hd hs => wp_exit ⟨g, e, h, H, r, he, hd, hs, Evo.refl _ _ _⟩
theorem AW_ret (H : Q .ret e h) : AW P N .ret Q e h := fun g w a r he hd hs => wp_ret ⟨g, e, h, H, r, he, hd, hs, Evo.refl _ _ _⟩
def thenQ (K : Env → Heap → Prop) (Q : Exit → Env → Heap → Prop) : Exit → Env → Heap → Prop
  | .normal, e, h => K e h
  | x, e, h => Q x e h
theorem AW_seq {x y : Code} (H : AW P N x (thenQ (AW P N y Q) Q) e h) : AW P N (.seq x y) Q e h := by
  intro g w a r he hd hs
  apply wp_seq
  refine wp_mono (H g w a r he hd hs) fun ex a' w' ⟨g', e', h', k1, k2, k3, k4, k5, k6⟩ => ?_
  cases ex with
  | normal => exact wp_mono (k1 g' w' a' k2 k3 k4 k5) fun _ _ _ ⟨g2, e2, h2, m1, m2, m3, m4, m5, m6⟩ => ⟨g2, e2, h2, m1, m2, m3, m4, m5, k6.trans m6⟩
  | exit id => exact ⟨g', e', h', k1, k2, k3, k4, k5, k6⟩
  | goto l => exact ⟨g', e', h', k1, k2, k3, k4, k5, k6⟩
  | ret => exact ⟨g', e', h', k1, k2, k3, k4, k5, k6⟩
  | panic ch => exact ⟨g', e', h', k1, k2, k3, k4, k5, k6⟩
  | outgrown => exact ⟨g', e', h', k1, k2, k3, k4, k5, k6⟩
theorem AW_cond {c : Operand} {v : VA} {x y : Code} {b : Bool} (hc : cA c = some v) (hb : v.ev e = .bool b) (ht : b = true → AW P N x Q e h) (hf : b = false → AW P N y Q e h) : AW P N (.cond c x y) Q e h := by
  intro g w a r he hd hs
  have := cA_rep he hc
  rw [hb] at this
  exact wp_cond_split this.bool_inv (fun hh => ht hh g w a r he hd hs) (fun hh => hf hh g w a r he hd hs)
def blockQ (id : Nat) (Q : Exit → Env → Heap → Prop) : Exit → Env → Heap → Prop
  | .exit id', e, h => if id' = id then Q .normal e h else Q (.exit id') e h
  | x, e, h => Q x e h
theorem AW_block {id : Nat} {c : Code} (H : AW P N c (blockQ id Q) e h) : AW P N (.block id c) Q e h := by
  intro g w a r he hd hs
  apply wp_block
  refine wp_mono (H g w a r he hd hs) fun ex a' w' ⟨g', e', h', k1, k⟩ => ?_
  cases ex with
  | exit id' =>
    simp only [blockQ] at k1
    simp only [Exit.inBlock]
    split at k1
    · rename_i hid; rw [if_pos hid]; exact ⟨g', e', h', k1, k⟩
    · rename_i hid; rw [if_neg hid]; exact ⟨g', e', h', k1, k⟩
  | normal => exact ⟨g', e', h', k1, k⟩
  | goto l => exact ⟨g', e', h', k1, k⟩
  | ret => exact ⟨g', e', h', k1, k⟩
  | panic ch => exact ⟨g', e', h', k1, k⟩
  | outgrown => exact ⟨g', e', h', k1, k⟩
/-- A LOOP: states s, each with what is known of the frame and the heap; every round lowers the measure. -/
theorem AW_loop {c : Code} {σ : Type} (st : σ → Env × Heap) (μ : σ → Nat) (s0 : σ) (h1 : (st s0).1.le e) (h2 : (st s0).2.le h)
    (round : ∀ s, AW P N c (thenQ (fun e' h' => ∃ s', (st s').1.le e' ∧ (st s').2.le h' ∧ μ s' < μ s) Q) (st s).1 (st s).2) : AW P N (.loop c) Q e h := by
  intro g w a r he hd hs
  refine wp_loop_ghost (fun n a' w' => ∃ s g', μ s = n ∧ Rel g' w' (st s).2 ∧ EnvRep g' a' (st s).1 ∧ a'.defers = [] ∧ a'.tmps.size = N ∧ Evo g w h g' w' (st s).2) (μ s0)
    ⟨s0, g, rfl, r.weaken h2, he.le h1, hd, hs, (Evo.refl g w h).weakenR h2⟩ ?_
  rintro n a' w' ⟨s, g', rfl, r', he', hd', hs', hev⟩
  refine wp_mono (round s g' w' a' r' he' hd' hs') fun ex a2 w2 ⟨g2, e2, hh2, k1, k2, k3, k4, k5, k6⟩ => ?_
  cases ex with
  | normal =>
    obtain ⟨s', l1, l2, l3⟩ := k1
    exact ⟨μ s', l3, s', g2, rfl, k2.weaken l2, k3.le l1, k4, k5, (hev.trans k6).weakenR l2⟩
  | exit id => exact ⟨g2, e2, hh2, k1, k2, k3, k4, k5, hev.trans k6⟩
  | goto l => exact ⟨g2, e2, hh2, k1, k2, k3, k4, k5, hev.trans k6⟩
  | ret => exact ⟨g2, e2, hh2, k1, k2, k3, k4, k5, hev.trans k6⟩
  | panic ch => exact ⟨g2, e2, hh2, k1, k2, k3, k4, k5, hev.trans k6⟩
  | outgrown => exact ⟨g2, e2, hh2, k1, k2, k3, k4, k5, hev.trans k6⟩
end rules

/-! ### code as data -/
def VW (P : Program) (N : Nat) (vc : VC) (Q : Exit → Env → Heap → Prop) (e : Env) (h : Heap) : Prop := ∀ c, cCode P N c = some vc → AW P N c Q e h
section vrules
variable {P : Program} {N : Nat} {Q : Exit → Env → Heap → Prop} {e : Env} {h : Heap}
theorem VW.mono {c : VC} {Q' : Exit → Env → Heap → Prop} (H : VW P N c Q e h) (hq : ∀ x e h, Q x e h → Q' x e h) : VW P N c Q' e h := fun x hx => (H x hx).mono hq
theorem VW.weaken {c : VC} {e' : Env} {h' : Heap} (he : e'.le e) (hh : h'.le h) (H : VW P N c Q e' h') : VW P N c Q e h := fun x hx => (H x hx).weaken he hh
theorem VW_skip (H : Q .normal e h) : VW P N .skip Q e h := by
  intro c hc
  cases c <;> simp only [cCode, Option.map_eq_some_iff] at hc
  case skip => exact AW_skip H
  case seq => split at hc <;> simp at hc
  case cond => split at hc <;> simp at hc
  case region => (repeat' (split at hc)) <;> simp at hc
  all_goals simp at hc
theorem VW_exit {id : Nat} (H : Q (.exit id) e h) : VW P N (.exit id) Q e h := by
  intro c hc
  cases c <;> simp only [cCode, Option.map_eq_some_iff] at hc
  case exit id' => simp only [Option.some.injEq, VC.exit.injEq] at hc; subst hc; exact AW_exit H
  case seq => split at hc <;> simp at hc
  case cond => split at hc <;> simp at hc
  case region => (repeat' (split at hc)) <;> simp at hc
  all_goals simp at hc
theorem VW_ret (H : Q .ret e h) : VW P N .ret Q e h := by
  intro c hc
  cases c <;> simp only [cCode, Option.map_eq_some_iff] at hc
  case ret => exact AW_ret H
  case seq => split at hc <;> simp at hc
  case cond => split at hc <;> simp at hc
  case region => (repeat' (split at hc)) <;> simp at hc
  all_goals simp at hc
theorem VW_seq {x y : VC} (H : VW P N x (thenQ (VW P N y Q) Q) e h) : VW P N (.seq x y) Q e h := by
  intro c hc
  cases c <;> simp only [cCode, Option.map_eq_some_iff] at hc
  case seq a b =>
    split at hc
    · rename_i p q h1 h2
      simp only [Option.some.injEq, VC.seq.injEq] at hc
      obtain ⟨rfl, rfl⟩ := hc
      refine AW_seq ((H a h1).mono fun ex e' h' hk => ?_)
      cases ex with
      | normal => exact hk b h2
      | exit id => exact hk
      | goto l => exact hk
      | ret => exact hk
      | panic ch => exact hk
      | outgrown => exact hk
    · cases hc
  case cond => split at hc <;> simp at hc
  case region => (repeat' (split at hc)) <;> simp at hc
  all_goals simp at hc
theorem VW_cond {v : VA} {x y : VC} {b : Bool} (hb : v.ev e = .bool b) (ht : b = true → VW P N x Q e h) (hf : b = false → VW P N y Q e h) : VW P N (.cond v x y) Q e h := by
  intro c hc
  cases c <;> simp only [cCode, Option.map_eq_some_iff] at hc
  case cond op a b' =>
    split at hc
    · rename_i p q s h1 h2 h3
      simp only [Option.some.injEq, VC.cond.injEq] at hc
      obtain ⟨rfl, rfl, rfl⟩ := hc
      exact AW_cond h1 hb (fun hh => ht hh a h2) (fun hh => hf hh b' h3)
    · cases hc
  case seq => split at hc <;> simp at hc
  case region => (repeat' (split at hc)) <;> simp at hc
  all_goals simp at hc
theorem VW_block {id : Nat} {x : VC} (H : VW P N x (blockQ id Q) e h) : VW P N (.block id x) Q e h := by
  intro c hc
  cases c <;> simp only [cCode, Option.map_eq_some_iff] at hc
  case block id' a =>
    obtain ⟨p, h1, h2⟩ := hc
    simp only [VC.block.injEq] at h2
    obtain ⟨rfl, rfl⟩ := h2
    exact AW_block (H a h1)
  case seq => split at hc <;> simp at hc
  case cond => split at hc <;> simp at hc
  case region => (repeat' (split at hc)) <;> simp at hc
  all_goals simp at hc
theorem VW_loop {x : VC} {σ : Type} (st : σ → Env × Heap) (μ : σ → Nat) (s0 : σ) (h1 : (st s0).1.le e) (h2 : (st s0).2.le h)
    (round : ∀ s, VW P N x (thenQ (fun e' h' => ∃ s', (st s').1.le e' ∧ (st s').2.le h' ∧ μ s' < μ s) Q) (st s).1 (st s).2) : VW P N (.loop x) Q e h := by
  intro c hc
  cases c <;> simp only [cCode, Option.map_eq_some_iff] at hc
  case loop a =>
    obtain ⟨p, h3, h4⟩ := hc
    simp only [VC.loop.injEq] at h4
    subst h4
    exact AW_loop st μ s0 h1 h2 fun s => round s a h3
  case seq => split at hc <;> simp at hc
  case cond => split at hc <;> simp at hc
  case region => (repeat' (split at hc)) <;> simp at hc
  all_goals simp at hc
theorem cCode_region {id : Nat} {ops : Array Oper} {draw : Bool} {vc : VC} (hc : cCode P N (.region id ops draw) = some vc) : ∃ q, cOpers P N ops ops.toList = some q ∧
    (draw = false ∧ vc = .region q false ∨ draw = true ∧ (P.follows .mixedOrders && drawB ops q ops.size 0 (Array.replicate ops.size false)) = true ∧ (q.any (fun o => o.op.writes) = false ∧ vc = .region q true ∨ vc = .draw2 q (lateL ops q)) ∨ ∃ c, vc = .other c) := by
  simp only [cCode] at hc
  split at hc
  · rename_i q h3
    refine ⟨q, h3, ?_⟩
    split at hc
    · rename_i hd
      split at hc
      · rename_i hB
        split at hc
        · simp only [Option.some.injEq] at hc
          exact .inr (.inl ⟨hd, hB, .inr hc.symm⟩)
        · rename_i hw
          simp only [Option.some.injEq] at hc
          exact .inr (.inl ⟨hd, hB, .inl ⟨by simpa using hw, hc.symm⟩⟩)
      · simp only [Option.some.injEq] at hc
        exact .inr (.inr ⟨_, hc.symm⟩)
    · rename_i hd
      simp only [Option.some.injEq] at hc
      exact .inl ⟨by simpa using hd, hc.symm⟩
  · cases hc
theorem VW_region {q : List VOper} (l : List Nat) (H : OpsW P q (fun e' h' => Q .normal (Env.keep l e') h') e h) : VW P N (.region q false) Q e h := by
  intro c hc
  cases c
  case region id ops draw =>
    obtain ⟨p, h3, h | h | h⟩ := cCode_region hc
    · obtain ⟨rfl, h⟩ := h
      simp only [VC.region.injEq, and_true] at h
      subst h
      exact AW_region l h3 H
    · rcases h.2.2 with ⟨_, h⟩ | h <;> simp at h
    · obtain ⟨c, h⟩ := h; cases h
  all_goals
    simp only [cCode, Option.map_eq_some_iff] at hc
    first
    | (simp at hc; done)
    | (split at hc <;> simp at hc)

/-! ### functions -/
def argEnv : Nat → List PV → Env
  | _, [] => []
  | k, a :: r => (k, a) :: argEnv (k + 1) r
theorem argEnv_get : ∀ (l : List PV) (k t : Nat), (argEnv k l).get t = if k ≤ t ∧ t < k + l.length then PV.nth l (t - k) else .any
  | [], k, t => by simp [argEnv, Env.get]; intro h1 h2; omega
  | a :: r, k, t => by
    simp only [argEnv, Env.get, argEnv_get r]
    by_cases h1 : k = t
    · subst h1; simp [PV.nth]
    · rw [if_neg h1]
      by_cases h2 : k + 1 ≤ t ∧ t < k + 1 + r.length
      · rw [if_pos h2, if_pos ⟨by omega, by simp; omega⟩]
        have : t - k = (t - (k + 1)) + 1 := by omega
        rw [this]; simp [PV.nth]
      · rw [if_neg h2, if_neg (by simp; omega)]
/-- Where a result lies. -/
inductive RS where
  | t (n : Nat)
  | c (n : Nat) (agg : Bool) (s : Nat)
  deriving Inhabited
def RS.ev (e : Env) (h : Heap) : RS → PV
  | .t n => e.get n
  | .c n g s => aggV g ((locCells h (e.get n)).take s)
def RS.ok (e : Env) (h : Heap) : RS → Prop
  | .t _ => True
  | .c n g s => locOk h (e.get n) ∧ s ≤ (locCells h (e.get n)).length ∧ (g = false → s = 1)
def resOk (e : Env) (h : Heap) : List RS → Prop
  | [] => True
  | x :: r => x.ok e h ∧ resOk e h r
def resV (e : Env) (h : Heap) : List RS → PV
  | [t] => t.ev e h
  | ts => .tup (ts.map (RS.ev e h))
def retQ (rs : List RS) (K : PV → Heap → Prop) : Exit → Env → Heap → Prop
  | .normal, e, h => resOk e h rs ∧ K (resV e h rs) h
  | .ret, e, h => resOk e h rs ∧ K (resV e h rs) h
  | _, _, _ => False
def rsOf (P : Program) : List ResultVar → Option (List RS)
  | [] => some []
  | .tmp t :: r => (rsOf P r).map (.t t :: ·)
  | .cell a t :: r => match aggOf P t, szOf P t, rsOf P r with
    | some g, some s, some q => some (.c a g s :: q)
    | _, _, _ => none
theorem rs_run {P : Program} {g : Gh} {w : World} {h : Heap} {e : Env} {a : Act} (hr : Rel g w h) (he : EnvRep g a e) (F : ResultVar → Sem Value) (hF : ∀ t, F (.tmp t) = pure (a.tmps.getD t Go.undef)) (hG : ∀ c t, F (.cell c t) = (do loadVar t (← asAddr (a.tmps.getD c Go.undef)))) :
    ∀ {l : List ResultVar} {ts : List RS}, rsOf P l = some ts → resOk e h ts →
    ∃ vs : List Value, (l.mapM F).run P w = .ok vs w ∧ vs.length = ts.length ∧ ∀ j, j < ts.length → Rep g (vs.getD j Go.undef) (PV.nth (ts.map (RS.ev e h)) j)
  | [], ts, hs, _ => by simp only [rsOf, Option.some.injEq] at hs; subst hs; exact ⟨[], rfl, rfl, fun j hj => by simp at hj⟩
  | .tmp t :: r, ts, hs, ok => by
    simp only [rsOf, Option.map_eq_some_iff] at hs
    obtain ⟨q, hq, rfl⟩ := hs
    obtain ⟨vs, e1, e2, e3⟩ := rs_run hr he F hF hG hq ok.2
    refine ⟨a.tmps.getD t Go.undef :: vs, by simp only [List.mapM_cons, hF, Sem.run_bind, Sem.run_pure, Result.andThen_ok, e1], by simp [e2], fun j hj => ?_⟩
    cases j with
    | zero => simpa [PV.nth, RS.ev] using he t
    | succ j => simpa [PV.nth] using e3 j (by simpa using hj)
  | .cell c t :: r, ts, hs, ok => by
    simp only [rsOf] at hs
    split at hs
    case h_2 => cases hs
    rename_i b s q hb hsz hq
    simp only [Option.some.injEq] at hs; subst hs
    obtain ⟨⟨o1, o2, o3⟩, ok'⟩ := ok
    obtain ⟨vs, e1, e2, e3⟩ := rs_run hr he F hF hG hq ok'
    obtain ⟨v, hv, hrep⟩ := load_sound (P := P) (w := w) (h := h) (a := a) (e := e) (x := .tmp c) (va := .t c) hr he rfl hb hsz ⟨o1, o2, o3⟩
    obtain ⟨bl, o, us, hval, _⟩ := loc_cells hr (he c) o1
    have hrun : (F (.cell c t)).run P w = .ok v w := by
      rw [hG]
      have e5 : a.eval (.tmp c) = a.tmps.getD c Go.undef := rfl
      rw [e5, hval] at hv
      rw [hval]
      simpa [Instr.loadAt, Instr.sureAddr, asAddr] using hv
    refine ⟨v :: vs, by simp only [List.mapM_cons, Sem.run_bind, hrun, Sem.run_pure, Result.andThen_ok, e1], by simp [e2], fun j hj => ?_⟩
    cases j with
    | zero => simpa [PV.nth, RS.ev, pval, VA.ev] using hrep
    | succ j => simpa [PV.nth] using e3 j (by simpa using hj)
theorem results_run {P : Program} {w : World} {fn : Func} {ts : List RS} {h : Heap} (hs : rsOf P fn.results.toList = some ts) {g : Gh} {a : Act} {e : Env} (hr : Rel g w h) (he : EnvRep g a e) (hok : resOk e h ts) :
    ∃ v, (results fn a.tmps).run P w = .ok v w ∧ Rep g v (resV e h ts) := by
  unfold results
  obtain ⟨vs, e1, e2, e3⟩ := rs_run (P := P) hr he (fun
    | .tmp t => pure (a.tmps.getD t Go.undef)
    | .cell c t => do loadVar t (← asAddr (a.tmps.getD c Go.undef))) (fun t => rfl) (fun c t => rfl) hs hok
  rw [Sem.run_bind, Array.mapM_eq_mapM_toList, Sem.run_map]
  generalize hX : Sem.run P (List.mapM _ fn.results.toList) w = X
  have hX' : X = .ok vs w := hX.symm.trans e1
  rw [hX']
  simp only [Result.andThen_ok, Sem.run_pure]
  refine ⟨_, rfl, ?_⟩
  match ts, vs, e2 with
  | [t], [v], _ => simpa [resV, PV.nth] using e3 0 (by simp)
  | [], [], _ => exact .tup _ _ rfl (fun j hj => by simp at hj)
  | t :: u :: r, v :: x :: vs, e2 =>
    have hne : ¬ (v :: x :: vs).toArray.size = 1 := by simp
    rw [dif_neg hne]
    refine .tup _ _ (by simpa using e2) (fun j hj => ?_)
    have := e3 j (by simpa using hj)
    simpa [Array.getD_eq_getD_getElem?] using this

theorem ACall_fn {f : FuncId} {fn : Func} {c : Code} {vc : VC} {ts : List RS} {args : List PV} {K : PV → Heap → Prop} (hf : P.funcs[f]? = some fn) (hok : fnOk P f = true) (hb : fn.body = some c) (hr : rsOf P fn.results.toList = some ts)
    (hn : args.length ≤ fn.ntmps) (hc : cCode P fn.ntmps c = some vc) (H : VW P fn.ntmps vc (retQ ts K) (argEnv 0 args) h) : ACall P f args h K := by
  refine ⟨hok, fun g w vals r ha => ?_⟩
  refine calls_of_wp hf hb ?_
  have he : EnvRep g { tmps := vals ++ Array.replicate (fn.ntmps - vals.size) Go.undef, defers := [] } (argEnv 0 args) := by
    intro t
    rw [argEnv_get]
    by_cases h1 : 0 ≤ t ∧ t < 0 + args.length
    · rw [if_pos h1]
      have hlt : t < vals.size := by rw [ha.1]; omega
      have e1 : (vals ++ Array.replicate (fn.ntmps - vals.size) Go.undef).getD t Go.undef = vals.getD t Go.undef := by
        simp [Array.getD_eq_getD_getElem?, Array.getElem?_append_left hlt]
      show Rep g ((vals ++ Array.replicate (fn.ntmps - vals.size) Go.undef).getD t Go.undef) _
      rw [e1]
      exact ha.2 t (by omega)
    · rw [if_neg h1]; exact .any _
  refine wp_mono (H c hc g w _ r he rfl (by simp [ha.1]; omega)) fun x a' w' ⟨g', e', h', k1, k2, k3, k4, k5, k6⟩ => ?_
  have fin : resOk e' h' ts ∧ K (resV e' h' ts) h' → bodyPost P fn (fun x w' => ∃ v p g' h', x = .returned v ∧ K p h' ∧ Rep g' v p ∧ Rel g' w' h' ∧ Evo g w h g' w' h') .ret a' w' := by
    rintro ⟨ho, hk⟩
    obtain ⟨v, hv, hrep⟩ := results_run (P := P) (w := w') hr k2 k3 ho
    exact ⟨k4, v, hv, v, _, g', h', rfl, hk, hrep, k2, k6⟩
  cases x with
  | normal => exact fin k1
  | ret => exact fin k1
  | exit id => exact k1.elim
  | goto l => exact k1.elim
  | panic ch => exact k1.elim
  | outgrown => exact k1.elim
end vrules
end Go.VM


namespace Go.VM
open Go

/-- Everything that the heap still writes, frozen. -/
noncomputable def frzM (g : Gh) (w : World) (h : Heap) (b o : Nat) : Option Value := by
  classical
  exact match g.m b o with
    | some v => some v
    | none => if ∃ id z es x, h.get id = some (.arr false z es) ∧ g.β id = some x ∧ x.1 = b then
        (match w.cell? ⟨b, o, none⟩ with
        | some v => if v.oneCell' = true then some v else none
        | none => none)
      else none
noncomputable def frzMM (g : Gh) (w : World) (h : Heap) (b : Nat) : Option (Array MapEntry) := by
  classical
  exact match g.m.mm b with
    | some e => some e
    | none => if ∃ id es x, h.get id = some (.map es) ∧ g.β id = some x ∧ x.1 = b then
        (match w.heap[b]? with
        | some (.map ents _) => some ents
        | _ => none)
      else none
noncomputable def frz (g : Gh) (w : World) (h : Heap) : Gh := ⟨⟨frzM g w h, frzMM g w h⟩, g.β⟩
theorem frzMM_old {g : Gh} {w : World} {h : Heap} {b : Nat} {e : Array MapEntry} (hm : g.m.mm b = some e) : frzMM g w h b = some e := by
  unfold frzMM; simp [hm]
theorem frzMM_new {g : Gh} {w : World} {h : Heap} {b clock : Nat} {e : Array MapEntry} (hm : g.m.mm b = none) {id : Nat} {es : List (PV × PV)} {x : Nat × Nat × Nat × Nat} (h1 : h.get id = some (.map es)) (h2 : g.β id = some x) (h3 : x.1 = b)
    (hc : w.heap[b]? = some (.map e clock)) : frzMM g w h b = some e := by
  unfold frzMM
  rw [hm]
  simp only
  rw [if_pos ⟨id, es, x, h1, h2, h3⟩, hc]
theorem frzMM_inv {g : Gh} {w : World} {h : Heap} {b : Nat} {e : Array MapEntry} (hm : frzMM g w h b = some e) : g.m.mm b = some e ∨ (Owned g h b ∧ ∃ clock, w.heap[b]? = some (.map e clock)) := by
  unfold frzMM at hm
  split at hm
  · rename_i v' hv; simp only [Option.some.injEq] at hm; subst hm; exact .inl hv
  · split at hm
    · rename_i hex
      obtain ⟨id, es, x, h1, h2, h3⟩ := hex
      split at hm
      · rename_i ents clock hc; simp only [Option.some.injEq] at hm; subst hm; exact .inr ⟨⟨id, _, x, h1, rfl, h2, h3⟩, clock, hc⟩
      · cases hm
    · cases hm

theorem frzM_old {g : Gh} {w : World} {h : Heap} {b o : Nat} {v : Value} (hm : g.m b o = some v) : frzM g w h b o = some v := by
  unfold frzM; simp [hm]
theorem frzM_new {g : Gh} {w : World} {h : Heap} {b o : Nat} {v : Value} (hm : g.m b o = none) {id z : Nat} {es : List (List PV)} {x : Nat × Nat × Nat × Nat} (h1 : h.get id = some (.arr false z es)) (h2 : g.β id = some x) (h3 : x.1 = b)
    (hc : w.cell? ⟨b, o, none⟩ = some v) (ho : v.oneCell' = true) : frzM g w h b o = some v := by
  unfold frzM
  rw [hm]
  simp only
  rw [if_pos ⟨id, z, es, x, h1, h2, h3⟩, hc]
  simp [ho]
theorem frzM_inv {g : Gh} {w : World} {h : Heap} {b o : Nat} {v : Value} (hm : frzM g w h b o = some v) : g.m b o = some v ∨ (Owned g h b ∧ w.cell? ⟨b, o, none⟩ = some v ∧ v.oneCell' = true) := by
  unfold frzM at hm
  split at hm
  · rename_i v' hv; simp only [Option.some.injEq] at hm; subst hm; exact .inl hv
  · split at hm
    · rename_i hex
      obtain ⟨id, z, es, x, h1, h2, h3⟩ := hex
      split at hm
      · split at hm
        · rename_i v' hv ho; simp only [Option.some.injEq] at hm; subst hm; exact .inr ⟨⟨id, _, x, h1, rfl, h2, h3⟩, hv, ho⟩
        · cases hm
      · cases hm
    · cases hm
theorem frz_le (g : Gh) (w : World) (h : Heap) : g.le (frz g w h) := ⟨fun _ _ _ e => frzM_old e, fun _ _ e => e, fun _ _ e => frzMM_old e⟩
theorem frz_rel {g : Gh} {w : World} {h : Heap} (r : Rel g w h) : Rel (frz g w h) w ⟨[], h.top⟩ :=
  ⟨fun b o v e => by rcases frzM_inv e with h1 | ⟨_, h1, h2⟩
                     · exact r.mem b o v h1
                     · exact ⟨h1, h2⟩,
   fun b e he => by rcases frzMM_inv he with h1 | ⟨_, h1⟩
                    · exact r.mmem b e h1
                    · exact h1,
   fun id hid => ⟨(r.fin id hid).1, rfl⟩, fun id ab e => by simp [Heap.get, HL.get] at e, fun id id' x x' ab ab' _ e => by simp [Heap.get, HL.get] at e⟩
/-- No names. -/
def Gh.bare (g : Gh) : Gh := ⟨g.m, fun _ => none⟩
theorem Rel.bare {g : Gh} {w : World} {h : Heap} (r : Rel g w h) : Rel g.bare w Heap.nil :=
  ⟨r.mem, r.mmem, fun id _ => ⟨rfl, rfl⟩, fun id ab e => by simp [Heap.get, HL.get, Heap.nil] at e, fun id id' x x' ab ab' _ e => by simp [Heap.get, HL.get, Heap.nil] at e⟩
def ClosedL (l : List PV) : Prop := ∀ x ∈ l, Closed x
theorem ClosedL.args {g : Gh} {vals : Array Value} {l : List PV} (hc : ClosedL l) (ha : Args g vals l) : Args g.bare vals l :=
  ⟨ha.1, fun j hj => by
    refine hc _ ?_ g _ (ha.2 j hj)
    simp only [PV.nth, List.getD_eq_getElem?_getD, List.getElem?_eq_getElem hj, Option.getD_some]
    exact List.getElem_mem hj⟩

/-- p says of v, once all is frozen, what r says of it now. -/
def View (h : Heap) (r p : PV) : Prop := ∀ g w v, Rel g w h → Rep g v r → Rep (frz g w h) v p
theorem View.refl (h : Heap) (r : PV) : View h r r := fun g w v _ hv => hv.mono (frz_le g w h)
theorem View.nil (h : Heap) (z : Nat) : View h .nilsl (.sl z []) := fun g w v _ hv => by cases hv; exact .slE _ _ _
theorem View.own {h : Heap} {id off len z : Nat} {fz : Bool} {es : List (List PV)} (hg : h.get id = some (.arr fz z es)) (hle : off + len ≤ es.length) : View h (.own id off len) (.sl z ((es.drop off).take len)) := by
  intro g w v r hv
  cases hv with
  | ownE ao => simp only [List.take_zero]; exact .slE _ _ _
  | own _ _ _ cap b o n z' a hb ha hc hn =>
    subst ha
    rcases r.blk id _ hg with ⟨hb0, _⟩ | ⟨b', o', n', z'', hb', hlt, hlive, hok⟩
    · rw [hb] at hb0; cases hb0
    · rw [hb] at hb'
      simp only [Option.some.injEq, Prod.mk.injEq] at hb'
      obtain ⟨rfl, rfl, rfl, rfl⟩ := hb'
      obtain ⟨rfl, hz, hle', c, ty, h1, h2, h3⟩ := hok
      refine .sl b (o + off * z) len cap z _ _ (fun i j => c.getD (o + (off + i) * z + j) Go.undef) rfl (by simp; omega) hc (fun i hi => ?_) (fun i j hi hj => ?_) (fun i j hi hj => ?_)
      · rw [row_take _ _ _ hi, row_drop]; exact hz _ (by omega)
      · obtain ⟨e1, e2, e3⟩ := h3 (off + i) j (by omega) hj
        have e4 : o + off * z + i * z + j = o + (off + i) * z + j := by rw [Nat.add_mul]; omega
        rw [e4]
        cases fz
        · have hin : o + (off + i) * z + j < c.size := by
            have := rows_bound (n := es.length) (z := z) (show off + i < es.length by omega) hj
            omega
          exact frzM_new ((hlive rfl).1 _) hg hb rfl (by simp [World.cell?, h1, hin, Array.getD]) e1
        · exact frzM_old (e3 rfl)
      · obtain ⟨e1, e2, e3⟩ := h3 (off + i) j (by omega) hj
        rw [row_take _ _ _ hi, row_drop]
        exact e2.mono (frz_le g w h)
theorem View.map {h : Heap} {id : Nat} {es q : List (PV × PV)} (hg : h.get id = some (.map es)) (hl : es.length = q.length) (hv : ∀ (i : Nat) (a b : PV × PV), es[i]? = some a → q[i]? = some b → View h a.1 b.1 ∧ View h a.2 b.2) : View h (.mp id) (.rmp q) := by
  intro g w v r hr
  cases hr with
  | mp _ b o n z hb =>
    rcases r.blk id _ hg with ⟨_, fz, zz, hh⟩ | ⟨b', o', n', z', hb', hlt, hlive, hok⟩
    · cases hh
    · rw [hb] at hb'
      simp only [Option.some.injEq, Prod.mk.injEq] at hb'
      obtain ⟨rfl, rfl, rfl, rfl⟩ := hb'
      obtain ⟨ents, clock, e1, e2, e3⟩ := hok
      have pick : ∀ (i : Nat) (p : PV × PV), q[i]? = some p → ∃ a, es[i]? = some a := by
        intro i p hp
        have := (List.getElem?_eq_some_iff.1 hp).1
        exact ⟨es[i], List.getElem?_eq_getElem (by omega)⟩
      refine .rmp b ents q (frzMM_new (hlive rfl).2 hg hb rfl e1) (by omega) (fun i e p he hp => ?_) (fun i e p he hp => ?_)
      · obtain ⟨a, ha⟩ := pick i p hp
        exact (hv i a p ha hp).1 g w _ r (e3 i e a he ha).1
      · obtain ⟨a, ha⟩ := pick i p hp
        exact (hv i a p ha hp).2 g w _ r (e3 i e a he ha).2
theorem closed_rmp {es : List (PV × PV)} (h : ∀ e ∈ es, Closed e.1 ∧ Closed e.2) : Closed (.rmp es) := by
  intro g v hv
  cases hv with
  | rmp b ents es hm hl hk hv =>
    exact .rmp b ents es hm hl (fun i e p he hp => (h p (List.mem_of_getElem? hp)).1 g _ (hk i e p he hp)) (fun i e p he hp => (h p (List.mem_of_getElem? hp)).2 g _ (hv i e p he hp))
theorem View.tup {h : Heap} {l q : List PV} (hl : l.length = q.length) (hv : ∀ j, j < q.length → View h (PV.nth l j) (PV.nth q j)) : View h (.tup l) (.tup q) := by
  intro g w v r hr
  obtain ⟨vs, rfl, hs, hrr⟩ := hr.tup_inv
  exact .tup _ _ (by omega) (fun j hj => hv j hj g w _ r (hrr j (by omega)))
theorem View.tup2 {h : Heap} {a b c d : PV} (h1 : View h a c) (h2 : View h b d) : View h (.tup [a, b]) (.tup [c, d]) :=
  View.tup rfl (fun j hj => by
    match j, hj with
    | 0, _ => exact h1
    | 1, _ => exact h2)
/-- Arguments, one by one. -/
def Views (h : Heap) : List PV → List PV → Prop
  | [], [] => True
  | a :: r, b :: q => View h a b ∧ Views h r q
  | _, _ => False
theorem Views.args {g : Gh} {w : World} {h : Heap} (r : Rel g w h) {vals : Array Value} {l q : List PV} (hv : Views h l q) (ha : Args g vals l) : Args (frz g w h) vals q := by
  have key : ∀ (l q : List PV), Views h l q → l.length = q.length ∧ ∀ j, j < q.length → View h (PV.nth l j) (PV.nth q j) := by
    intro l
    induction l with
    | nil => intro q hv; cases q with
      | nil => exact ⟨rfl, fun j hj => by simp at hj⟩
      | cons b q => exact hv.elim
    | cons a l ih => intro q hv; cases q with
      | nil => exact hv.elim
      | cons b q =>
        obtain ⟨h1, h2⟩ := hv
        obtain ⟨i1, i2⟩ := ih q h2
        refine ⟨by simp [i1], fun j hj => ?_⟩
        cases j with
        | zero => exact h1
        | succ j => exact i2 j (by simpa using hj)
  obtain ⟨k1, k2⟩ := key l q hv
  exact ⟨by rw [ha.1, k1], fun j hj => k2 j hj g w _ r (ha.2 j (by omega))⟩

/-! ### closed, scalar -/
theorem Closed.of_scalar {p : PV} (h : Scalar p) : Closed p := fun g v hv => h g v hv _
theorem scalar_int (k : IntKind) (n : Int) : Scalar (.int k n) := fun g v hv g' => by cases hv; exact .int _ _
theorem scalar_bool (b : Bool) : Scalar (.bool b) := fun g v hv g' => by cases hv; exact .bool _
theorem scalar_str (s : List UInt8) : Scalar (.str s) := fun g v hv g' => by cases hv; exact .str _ _ ‹_›
theorem scalar_nilif : Scalar .nilif := fun g v hv g' => by cases hv; exact .nilif
theorem scalar_tup {l : List PV} (h : ∀ x ∈ l, Scalar x) : Scalar (.tup l) := by
  intro g v hv g'
  obtain ⟨vs, rfl, hs, hr⟩ := hv.tup_inv
  refine .tup _ _ hs (fun j hj => ?_)
  refine h _ ?_ g _ (hr j hj) g'
  simp only [PV.nth, List.getD_eq_getElem?_getD, List.getElem?_eq_getElem hj, Option.getD_some]
  exact List.getElem_mem hj
theorem scalar_agg {l : List PV} (h : ∀ x ∈ l, Scalar x) : Scalar (.agg l) := by
  intro g v hv g'
  obtain ⟨vs, rfl, hs, ho, hr⟩ := hv.agg_inv
  refine .agg _ _ hs ho (fun j hj => ?_)
  refine h _ ?_ g _ (hr j hj) g'
  simp only [PV.nth, List.getD_eq_getElem?_getD, List.getElem?_eq_getElem hj, Option.getD_some]
  exact List.getElem_mem hj
theorem closed_nilsl : Closed .nilsl := fun g v hv => by cases hv; exact .nilsl
theorem closed_tup {l : List PV} (h : ∀ x ∈ l, Closed x) : Closed (.tup l) := by
  intro g v hv
  obtain ⟨vs, rfl, hs, hr⟩ := hv.tup_inv
  refine .tup _ _ hs (fun j hj => ?_)
  refine h _ ?_ g _ (hr j hj)
  simp only [PV.nth, List.getD_eq_getElem?_getD, List.getElem?_eq_getElem hj, Option.getD_some]
  exact List.getElem_mem hj
theorem closed_agg {l : List PV} (h : ∀ x ∈ l, Closed x) : Closed (.agg l) := by
  intro g v hv
  obtain ⟨vs, rfl, hs, ho, hr⟩ := hv.agg_inv
  refine .agg _ _ hs ho (fun j hj => ?_)
  refine h _ ?_ g _ (hr j hj)
  simp only [PV.nth, List.getD_eq_getElem?_getD, List.getElem?_eq_getElem hj, Option.getD_some]
  exact List.getElem_mem hj
theorem closed_sl {z : Nat} {es : List (List PV)} (h : ∀ e ∈ es, ∀ x ∈ e, Closed x) : Closed (.sl z es) := by
  intro g v hv
  cases hv with
  | slE => exact .slE _ _ _
  | sl b o len cap z a es vs ha hl hc hz hm hr =>
    refine .sl b o len cap z a es vs ha hl hc hz hm (fun i j hi hj => ?_)
    have hi' : i < es.length := by omega
    have hz' := hz i hi
    refine h (PV.row es i) ?_ _ ?_ g _ (hr i j hi hj)
    · simp only [PV.row, List.getD_eq_getElem?_getD, List.getElem?_eq_getElem hi', Option.getD_some]
      exact List.getElem_mem hi'
    · have hj' : j < (PV.row es i).length := by omega
      simp only [PV.nth, List.getD_eq_getElem?_getD, List.getElem?_eq_getElem hj', Option.getD_some]
      exact List.getElem_mem hj'
theorem closed_ro {cs : List PV} (h : ∀ x ∈ cs, Closed x) : Closed (.ro cs) := by
  intro g v hv
  cases hv with
  | ro b o a cs vs ha hm hr =>
    refine .ro b o a cs vs ha hm (fun j hj => ?_)
    refine h _ ?_ g _ (hr j hj)
    simp only [PV.nth, List.getD_eq_getElem?_getD, List.getElem?_eq_getElem hj, Option.getD_some]
    exact List.getElem_mem hj

/-! ### calls that touch nothing -/
structure MemExt (g : Gh) (w : World) (m' : Mem) (w' : World) : Prop where
  old : ∀ b o v, g.m b o = some v → m' b o = some v
  ok : ∀ b o v, m' b o = some v → w'.cell? ⟨b, o, none⟩ = some v ∧ v.oneCell' = true
  new : ∀ b o v, m' b o = some v → g.m b o = some v ∨ w.heap.size ≤ b
  oldM : ∀ b e, g.m.mm b = some e → m'.mm b = some e
  okM : ∀ b e, m'.mm b = some e → ∃ clock, w'.heap[b]? = some (.map e clock)
  newM : ∀ b e, m'.mm b = some e → g.m.mm b = some e ∨ w.heap.size ≤ b
def PCall (P : Program) (f : FuncId) (args : List PV) (p : PV) : Prop :=
  fnOk P f = true ∧ ClosedL args ∧ ∀ g w (vals : Array Value), Rel g w Heap.nil → Args g vals args →
    Calls P f vals w fun x w' => ∃ v m', x = .returned v ∧ Rep ⟨m', fun _ => none⟩ v p ∧ MemExt g w m' w' ∧ RowKit.Below w.heap.size w w'

theorem PCall_intro {P : Program} {f : FuncId} {args : List PV} {p : PV} (H : ACall P f args Heap.nil (fun r h' => View h' r p)) (hp : Closed p) (hargs : ClosedL args) : PCall P f args p := by
  refine ⟨H.1, hargs, fun g w vals r ha => (H.2 g w vals r ha).mono ?_⟩
  rintro x w' ⟨v, q, g', h', rfl, h1, h2, h3, h4⟩
  have hno : ∀ b, ¬ Owned g Heap.nil b := by rintro b ⟨id, ab, x, e, _⟩; simp [Heap.get, HL.get, Heap.nil] at e
  refine ⟨v, ⟨frzM g' w' h', frzMM g' w' h'⟩, rfl, hp _ _ (h1 g' w' v h3 h2), ⟨fun b o v e => frzM_old (h4.le.1 _ _ _ e), fun b o v e => ?_, fun b o v e => ?_, fun b e he => frzMM_old (h4.le.2.2 _ _ he), fun b e he => (frz_rel h3).mmem b e he, fun b e he => ?_⟩, ⟨h4.os, h4.tape, h4.output, h4.size, fun k hk => h4.block k hk (hno k)⟩⟩
  · exact (frz_rel h3).mem b o v e
  · rcases frzM_inv e with e1 | ⟨e1, _⟩
    · rcases h4.mem b o v e1 with e2 | e2 | e2
      · exact .inl e2
      · exact .inr e2
      · exact (hno _ e2).elim
    · rcases h4.own b e1 with e2 | e2
      · exact (hno _ e2).elim
      · exact .inr e2
  · rcases frzMM_inv he with e1 | ⟨e1, _⟩
    · rcases h4.mmem b e e1 with e2 | e2 | e2
      · exact .inl e2
      · exact .inr e2
      · exact (hno _ e2).elim
    · rcases h4.own b e1 with e2 | e2
      · exact (hno _ e2).elim
      · exact .inr e2

section
variable {P : Program} {f : FuncId} {args : List PV} {p : PV} {h : Heap}
theorem Rel.below {g : Gh} {w w' : World} (r : Rel g w h) {m' : Mem} (hm : MemExt g w m' w') (hb : RowKit.Below w.heap.size w w') : Rel ⟨m', g.β⟩ w' h ∧ Evo g w h ⟨m', g.β⟩ w' h := by
  have hle : g.le ⟨m', g.β⟩ := ⟨hm.old, fun _ _ e => e, hm.oldM⟩
  refine ⟨⟨hm.ok, hm.okM, r.fin, fun id ab e => ?_, r.apart⟩, ⟨hle, hb.os, hb.tape, hb.output, hb.size, fun b h1 _ => hb.block b h1, fun b o v e => (hm.new b o v e).imp id .inl, fun b e he => (hm.newM b e he).imp id .inl, fun b ho => .inl ho⟩⟩
  rcases r.blk id ab e with h1 | ⟨b, o, n, z, h1, h2, h3, h4⟩
  · exact .inl h1
  · refine .inr ⟨b, o, n, z, h1, Nat.lt_of_lt_of_le h2 hb.size, fun hl => ⟨fun x => ?_, ?_⟩, AB.ok_move h4 hle (hb.block b h2)⟩
    · show m' b x = Option.none
      cases hx : m' b x with
      | none => rfl
      | some v =>
        rcases hm.new b x v hx with h5 | h5
        · rw [(h3 hl).1 x] at h5; cases h5
        · omega
    · show m'.mm b = Option.none
      cases hx : m'.mm b with
      | none => rfl
      | some e =>
        rcases hm.newM b e hx with h5 | h5
        · rw [(h3 hl).2] at h5; cases h5
        · omega
/-- A call on this heap that leaves it alone. -/
def PureCall (P : Program) (f : FuncId) (args : List PV) (h : Heap) (p : PV) : Prop :=
  PCall P f args p ∨ ∃ q, Views h args q ∧ PCall P f q p ∧ Scalar p
theorem PureCall.run (H : PureCall P f args h p) {g : Gh} {w : World} {vals : Array Value} (r : Rel g w h) (ha : Args g vals args) :
    Calls P f vals w fun x w' => ∃ v g', x = .returned v ∧ Rep g' v p ∧ Rel g' w' h ∧ Evo g w h g' w' h := by
  rcases H with H | ⟨q, hv, H, hs⟩
  · refine (H.2.2 g.bare w vals r.bare (H.2.1.args ha)).mono ?_
    rintro x w' ⟨v, m', rfl, h1, h2, h3⟩
    obtain ⟨R, E⟩ := r.below (m' := m') (w' := w') ⟨h2.old, h2.ok, h2.new, h2.oldM, h2.okM, h2.newM⟩ h3
    have hle : Gh.le ⟨m', fun _ => none⟩ ⟨m', g.β⟩ := ⟨fun _ _ _ e => e, (fun _ _ e => by cases e), fun _ _ e => e⟩
    exact ⟨v, ⟨m', g.β⟩, rfl, h1.mono hle, R, E⟩
  · refine (H.2.2 (frz g w h).bare w vals (frz_rel r).bare (H.2.1.args (hv.args r ha))).mono ?_
    rintro x w' ⟨v, m', rfl, h1, h2, h3⟩
    obtain ⟨R, E⟩ := r.below (m' := g.m) (w' := w') ⟨fun _ _ _ e => e, fun b o v e => h2.ok b o v (h2.old b o v (frzM_old e)), fun _ _ _ e => .inl e, fun _ _ e => e, fun b e he => h2.okM b e (h2.oldM b e (frzMM_old he)), fun _ _ e => .inl e⟩ h3
    exact ⟨v, _, rfl, hs _ _ h1 _, R, E⟩
theorem PureCall.fn (H : PureCall P f args h p) : fnOk P f = true := by
  rcases H with H | ⟨q, hv, H, hs⟩ <;> exact H.1
theorem PureCall.call {K : PV → Heap → Prop} (H : PureCall P f args h p) (hk : K p h) : ACall P f args h K := by
  refine ⟨H.fn, fun g w vals r ha => (H.run r ha).mono ?_⟩
  rintro x w' ⟨v, g', rfl, h1, h2, h3⟩
  exact ⟨v, p, g', h, rfl, hk, h1, h2, h3⟩
/-- As they stand. -/
theorem ACall_p {K : PV → Heap → Prop} (H : PCall P f args p) (hk : K p h) : ACall P f args h K := PureCall.call (.inl H) hk
/-- Seen, for a result that is read off no memory. -/
theorem ACall_v {K : PV → Heap → Prop} (q : List PV) (hv : Views h args q) (H : PCall P f q p) (hs : Scalar p) (hk : K p h) : ACall P f args h K := PureCall.call (.inr ⟨q, hv, H, hs⟩) hk
theorem ACall.mono {K K' : PV → Heap → Prop} (H : ACall P f args h K) (hk : ∀ p h, K p h → K' p h) : ACall P f args h K' :=
  ⟨H.1, fun g w vals r ha => (H.2 g w vals r ha).mono fun x w' ⟨v, p, g', h', h1, h2, h3⟩ => ⟨v, p, g', h', h1, hk _ _ h2, h3⟩⟩
end

/-- Freezing a block: from here on it is read only. -/
def frzH (h : Heap) (id : Nat) : Heap :=
  match h.get id with
  | some (.arr _ z es) => h.set id (.arr true z es)
  | _ => h
end Go.VM


namespace Go.VM
open Go

/-! ### what an operation reads -/
/-- e and e' agree on these. -/
def Agree (l : List VA) (e e' : Env) : Prop := ∀ a ∈ l, a.ev e = a.ev e'
theorem Agree.map {l : List VA} {e e' : Env} (h : Agree l e e') : l.map (VA.ev e) = l.map (VA.ev e') := List.map_congr_left h
theorem fill_congr {e e' : Env} : ∀ (ps : List (Nat × Nat × VA)) (cs : List PV), Agree (ps.map fun p => p.2.2) e e' → fillV e cs ps = fillV e' cs ps
  | [], _, _ => rfl
  | (o, s, a) :: r, cs, h => by
    simp only [fillV]
    rw [h a (by simp), fill_congr r _ (fun x hx => h x (by simp only [List.map_cons, List.mem_cons]; exact .inr hx))]
theorem fillOk_congr {e e' : Env} (n : Nat) : ∀ (ps : List (Nat × Nat × VA)), Agree (ps.map fun p => p.2.2) e e' → fillOk e n ps = fillOk e' n ps
  | [], _ => rfl
  | (o, s, a) :: r, h => by
    simp only [fillOk]
    rw [h a (by simp), fillOk_congr n r (fun x hx => h x (by simp only [List.map_cons, List.mem_cons]; exact .inr hx))]
theorem elems_congr {e e' : Env} : ∀ (ps : List (Nat × VA)) (rows : List (List PV)), Agree (ps.map fun p => p.2) e e' → elemsV e rows ps = elemsV e' rows ps
  | [], _, _ => rfl
  | (i, a) :: r, rows, h => by
    simp only [elemsV]
    rw [h a (by simp), elems_congr r _ (fun x hx => h x (by simp only [List.map_cons, List.mem_cons]; exact .inr hx))]
theorem elemsOk_congr {e e' : Env} (z n : Nat) : ∀ (ps : List (Nat × VA)), Agree (ps.map fun p => p.2) e e' → elemsOk e z n ps = elemsOk e' z n ps
  | [], _ => rfl
  | (i, a) :: r, h => by
    simp only [elemsOk]
    rw [h a (by simp), elemsOk_congr z n r (fun x hx => h x (by simp only [List.map_cons, List.mem_cons]; exact .inr hx))]
theorem opt_congr {e e' : Env} (o : Option VA) (h : ∀ a ∈ o.toList, a.ev e = a.ev e') : o.map (VA.ev e) = o.map (VA.ev e') := by
  cases o with
  | none => rfl
  | some a => simp [h a (by simp)]

theorem pval_congr {e e' : Env} {h : Heap} {op : VOp} (ha : Agree op.vas e e') : pval e h op = pval e' h op := by
  cases op <;> simp only [VOp.vas, Agree, List.mem_cons, List.not_mem_nil, or_false, forall_eq_or_imp, forall_eq] at ha <;> simp only [pval]
  case mv a => rw [ha]
  case un op a => rw [ha]
  case conv k a => rw [ha]
  case strid a => rw [ha]
  case faddr o a => rw [ha]
  case fld g o s a => rw [ha]
  case ext a i => rw [ha]
  case len st a => rw [ha]
  case mlen a => rw [ha]
  case lookup kk zr ok a b => rw [ha.1, ha.2]
  case load g s a => rw [ha]
  case pick a b c => rw [ha.1, ha.2.1, ha.2.2]
  case build zr ps => rw [fill_congr ps zr ha]
  case bin op a b => rw [ha.1, ha.2]
  case binb op a b => rw [ha.1, ha.2]
  case eqs n ks a b => rw [ha.1, ha.2]
  case iaddr z a b => rw [ha.1, ha.2]
  case idx a b => rw [ha.1, ha.2]
  case mkfn f x y =>
    rw [List.map_congr_left (fun a h => ha a (List.mem_append_left _ h)), List.map_congr_left (f := VA.ev e) (g := VA.ev e') (fun a h => ha a (List.mem_append_right _ h))]
  case slice st z a lo hi =>
    rw [ha.1, opt_congr lo (fun x hx => ha.2 x (List.mem_append_left _ hx)), opt_congr hi (fun x hx => ha.2 x (List.mem_append_right _ hx))]
  case px k l => rw [Agree.map (l := l) ha]
  case mm mx l =>
    match l, ha with
    | [], _ => rfl
    | [a], _ => rfl
    | [a, b], ha => simp only [List.mem_cons, List.not_mem_nil, or_false, forall_eq_or_imp, forall_eq] at ha; show mmV mx (a.ev e) (b.ev e) = mmV mx (a.ev e') (b.ev e'); rw [ha.1, ha.2]
    | _ :: _ :: _ :: _, _ => rfl
theorem pok_congr {e e' : Env} {h : Heap} {op : VOp} (ha : Agree op.vas e e') : pok e h op = pok e' h op := by
  cases op <;> simp only [VOp.vas, Agree, List.mem_cons, List.not_mem_nil, or_false, forall_eq_or_imp, forall_eq] at ha <;> simp only [pok]
  case un op a => rw [ha]
  case conv k a => rw [ha]
  case strid a => rw [ha]
  case faddr o a => rw [ha]
  case fld g o s a => rw [ha]
  case ext a i => rw [ha]
  case len st a => rw [ha]
  case mlen a => rw [ha]
  case lookup kk zr ok a b => rw [ha.1, ha.2]
  case load g s a => rw [ha]
  case pick a b c => rw [ha.1]
  case build zr ps => rw [fillOk_congr _ ps ha]
  case bin op a b => rw [ha.1, ha.2]
  case binb op a b => rw [ha.1, ha.2]
  case eqs n ks a b => rw [ha.1, ha.2]
  case iaddr z a b => rw [ha.1, ha.2]
  case idx a b => rw [ha.1, ha.2]
  case slice st z a lo hi =>
    rw [ha.1, opt_congr lo (fun x hx => ha.2 x (List.mem_append_left _ hx)), opt_congr hi (fun x hx => ha.2 x (List.mem_append_right _ hx))]
  case px k l => rw [Agree.map (l := l) ha]
  case mm mx l =>
    match l, ha with
    | [], _ => rfl
    | [a], _ => rfl
    | [a, b], ha => simp only [List.mem_cons, List.not_mem_nil, or_false, forall_eq_or_imp, forall_eq] at ha; show (isInt (a.ev e) ∧ isInt (b.ev e)) = (isInt (a.ev e') ∧ isInt (b.ev e')); rw [ha.1, ha.2]
    | _ :: _ :: _ :: _, _ => rfl
theorem StepW_congr {P : Program} {e e' : Env} {h : Heap} {op : VOp} {K : PV → Heap → Prop} (hc : op.closed = true) (ha : Agree op.vas e e') : StepW P e h op K = StepW P e' h op K := by
  have h1 := pval_congr (h := h) ha
  have h2 := pok_congr (h := h) ha
  cases op <;> simp only [VOp.vas, Agree, List.mem_cons, List.not_mem_nil, or_false, forall_eq_or_imp, forall_eq] at ha <;> simp only [StepW] <;> (try (rw [h1, h2]; done))
  case box n a => rw [ha]
  case bslice z n zr ps => rw [elemsOk_congr z n ps ha, elems_congr ps _ ha]
  case store s a b => rw [ha.1, ha.2]
  case mapset kk a b c => rw [ha.1, ha.2.1, ha.2.2]
  case app z b zr st x y => rw [ha.1, ha.2]
  case call f l => rw [Agree.map ha]
  case callv f l => rw [ha.1, Agree.map (l := l) ha.2]
  case fx k l => rw [Agree.map (l := l) ha]
  case nd neg a => rw [ha]
  case other o => simp [VOp.closed] at hc
theorem StepW.mono {P : Program} {e : Env} {h : Heap} {op : VOp} {K K' : PV → Heap → Prop} (hk : ∀ v h, K v h → K' v h) (H : StepW P e h op K) : StepW P e h op K' := by
  cases op <;> simp only [StepW] at H ⊢ <;> first
    | exact ⟨H.1, hk _ _ H.2⟩
    | exact ⟨H.1, fun b h1 h2 => hk _ _ (H.2 b h1 h2)⟩
    | exact hk _ _ H
    | exact ⟨H.1, H.2.1, hk _ _ H.2.2⟩
    | exact ⟨H.1, H.2.1, H.2.2.1, H.2.2.2.1, hk _ _ H.2.2.2.2⟩
    | exact ACall.mono H hk
    | (split at H <;> first | exact ACall.mono H hk | exact H)
    | exact fun g w a next Q r he hn => H g w a next Q r he (fun v pv g' w' h' k => hn v pv g' w' h' (hk _ _ k))
    | exact H

theorem notNil_isNil {p : PV} (h : notNil p = true) : isNil p = false := by
  cases p <;> first | rfl | (simp [notNil] at h)
/-- What stands outside such a step. -/
theorem StepW.out {P : Program} {e : Env} {h : Heap} {op : VOp} {K : PV → Heap → Prop} {A : Prop} (hs : op.simple = true) (H : StepW P e h op (fun v h' => A ∧ K v h')) : A := by
  cases op <;> simp only [VOp.simple] at hs <;> simp only [StepW] at H <;> first
    | exact H.1
    | exact H.2.1
    | exact H.2.2.1
    | exact H.2.2.2.2.1
    | exact (H.2 (isNil _) (fun h => h) (fun h => notNil_isNil h)).1
    | cases hs

/-! ### the quiet ones -/
def QuietV (P : Program) (hq : Heap) (e : Env) (op : VOp) (v : PV) : Prop :=
  match op with
  | .call f args => PureCall P f (args.map (VA.ev e)) hq v
  | .callv f args => (match f.ev e with
    | .fn (.func f) first cap => PureCall P f (first ++ args.map (VA.ev e) ++ cap) hq v
    | _ => False)
  | .bslice z n zr ps => elemsOk e z n ps ∧ v = .sl z (elemsV e (List.replicate n zr) ps)
  | op => op.pure = true ∧ pok e hq op ∧ v = pval e hq op
theorem QuietV_congr {P : Program} {hq : Heap} {e e' : Env} {op : VOp} {v : PV} (hc : op.closed = true) (ha : Agree op.vas e e') : QuietV P hq e op v = QuietV P hq e' op v := by
  have h1 := pval_congr (h := hq) ha
  have h2 := pok_congr (h := hq) ha
  cases op <;> simp only [VOp.vas, Agree, List.mem_cons, List.not_mem_nil, or_false, forall_eq_or_imp, forall_eq] at ha <;> simp only [QuietV] <;> (try (rw [h1, h2]; done))
  case bslice z n zr ps => rw [elemsOk_congr z n ps ha, elems_congr ps _ ha]
  case call f l => rw [Agree.map ha]
  case callv f l => rw [ha.1, Agree.map (l := l) ha.2]
def dval (e : Env) (hq : Heap) : VOp → PV
  | .bslice z n zr ps => .sl z (elemsV e (List.replicate n zr) ps)
  | op => pval e hq op
theorem QuietV.det {P : Program} {hq : Heap} {e : Env} {op : VOp} {v : PV} (hd : op.det = true) (h : QuietV P hq e op v) : v = dval e hq op := by
  cases op <;> simp only [VOp.det, VOp.pure] at hd <;> first | exact h.2.2 | exact h.2 | cases hd
theorem dval_congr {hq : Heap} {e e' : Env} {op : VOp} (ha : Agree op.vas e e') : dval e hq op = dval e' hq op := by
  have h1 := pval_congr (h := hq) ha
  cases op <;> first | exact h1 | skip
  rename_i z n zr ps
  simp only [dval]
  rw [elems_congr ps _ ha]

/-! ### one step, in whatever order -/
def gOf (o : VOper) (e : Env) (c : Bool) : Prop := match o.guard with | none => c = true | some (d, want) => guardOf want (e.get d) = some c
def AStep (P : Program) (hqf : Nat → Heap) (Z : Nat → Heap → Heap → Prop) (E : List Nat) (i : Nat) (o : VOper) (e : Env) (h : Heap) (K : Env → Heap → Prop) : Prop :=
  if i ∈ E then o.guard = none ∧ StepW P e h o.op (fun v h' => Z i h h' ∧ K (e.put o.dst v) h')
  else ∃ c, gOf o e c ∧ ∃ v, (c = true → QuietV P (hqf i) e o.op v) ∧ K (e.put o.dst (gd c v)) h
theorem agree_put {o : VOper} {e : Env} {d : Option Nat} {v : PV} (hd : ∀ t, d = some t → t ∉ o.reads) : Agree o.op.vas (e.put d v) e ∧ ∀ c, gOf o (e.put d v) c ↔ gOf o e c := by
  cases d with
  | none => exact ⟨fun _ _ => rfl, fun _ => Iff.rfl⟩
  | some t =>
    have ht := hd t rfl
    constructor
    · intro a ha
      cases a with
      | c p => rfl
      | t n =>
        have hne : t ≠ n := by
          rintro rfl
          exact ht (List.mem_append_left _ (List.mem_filterMap.2 ⟨_, ha, rfl⟩))
        simp [VA.ev, Env.put, Env.get, hne]
    · intro c
      unfold gOf
      cases hg : o.guard with
      | none => exact Iff.rfl
      | some dw =>
        obtain ⟨d, want⟩ := dw
        have hne : t ≠ d := by
          rintro rfl
          exact ht (List.mem_append_right _ (by rw [hg]; simp))
        simp [Env.put, Env.get, hne]
theorem apart_spec {x y : VOper} (h : x.apart y = true) : (∀ t, x.dst = some t → t ∉ y.reads) ∧ (∀ t, y.dst = some t → t ∉ x.reads) ∧ ∀ t, x.dst = some t → y.dst ≠ some t := by
  simp only [VOper.apart, Bool.and_eq_true] at h
  obtain ⟨h1, h2⟩ := h
  refine ⟨fun t ht => ?_, fun t ht => ?_, fun t ht => ?_⟩
  · rw [ht] at h1; simp at h1; exact h1.1
  · rw [ht] at h2; simpa using h2
  · rw [ht] at h1; simp at h1; exact h1.2
def Env.eqv (e e' : Env) : Prop := ∀ t, e.get t = e'.get t
theorem put_swap (e : Env) {x y : Option Nat} (u v : PV) (h : ∀ t, x = some t → y ≠ some t) : ((e.put x u).put y v).eqv ((e.put y v).put x u) := by
  intro t
  cases x with
  | none => rfl
  | some a =>
    cases y with
    | none => rfl
    | some b =>
      have hab : a ≠ b := fun hh => h a rfl (by rw [hh])
      simp only [Env.put, Env.get]
      by_cases h1 : b = t
      · subst h1; simp [hab]
      · simp [h1]
def Inv (K : Env → Heap → Prop) : Prop := ∀ e e' h, e.eqv e' → K e h → K e' h
theorem eqv_put {e e' : Env} (h : e.eqv e') (d : Option Nat) (v : PV) : (e.put d v).eqv (e'.put d v) := by
  intro t
  cases d with
  | none => exact h t
  | some a => simp only [Env.put, Env.get]; rw [h t]
theorem eqv_ev {e e' : Env} (h : e.eqv e') (a : VA) : a.ev e = a.ev e' := by
  cases a with
  | t n => exact h n
  | c p => rfl
theorem eqv_gOf {e e' : Env} (h : e.eqv e') (o : VOper) (c : Bool) : gOf o e c ↔ gOf o e' c := by
  unfold gOf
  split
  · exact Iff.rfl
  · rw [h]
section
variable {P : Program} {hqf : Nat → Heap} {Z : Nat → Heap → Heap → Prop} {E : List Nat}
theorem AStep.mono {i : Nat} {o : VOper} {e : Env} {h : Heap} {K K' : Env → Heap → Prop} (hk : ∀ e h, K e h → K' e h) (H : AStep P hqf Z E i o e h K) : AStep P hqf Z E i o e h K' := by
  unfold AStep at *
  split
  · rename_i hi
    rw [if_pos hi] at H
    exact ⟨H.1, H.2.mono fun v h' k => ⟨k.1, hk _ _ k.2⟩⟩
  · rename_i hi
    rw [if_neg hi] at H
    obtain ⟨c, h1, v, h2, h3⟩ := H
    exact ⟨c, h1, v, h2, hk _ _ h3⟩
theorem AStep.inv {i : Nat} {o : VOper} (hc : o.op.closed = true) {K : Env → Heap → Prop} (hK : Inv K) : Inv (fun e h => AStep P hqf Z E i o e h K) := by
  intro e e' h hee H
  unfold AStep at *
  have ha : Agree o.op.vas e e' := fun a _ => eqv_ev hee a
  split
  · rename_i hi
    rw [if_pos hi] at H
    refine ⟨H.1, ?_⟩
    rw [← StepW_congr hc ha]
    exact H.2.mono fun v h' k => ⟨k.1, hK _ _ _ (eqv_put hee _ _) k.2⟩
  · rename_i hi
    rw [if_neg hi] at H
    obtain ⟨c, h1, v, h2, h3⟩ := H
    refine ⟨c, (eqv_gOf hee o c).1 h1, v, fun hh => ?_, hK _ _ _ (eqv_put hee _ _) h3⟩
    rw [← QuietV_congr hc ha]; exact h2 hh

theorem AStep_E {i : Nat} (hi : i ∈ E) {o : VOper} {e : Env} {h : Heap} {K : Env → Heap → Prop} : AStep P hqf Z E i o e h K ↔ (o.guard = none ∧ StepW P e h o.op (fun v h' => Z i h h' ∧ K (e.put o.dst v) h')) := by
  unfold AStep; rw [if_pos hi]
theorem AStep_q {i : Nat} (hi : i ∉ E) {o : VOper} {e : Env} {h : Heap} {K : Env → Heap → Prop} : AStep P hqf Z E i o e h K ↔ ∃ c, gOf o e c ∧ ∃ v, (c = true → QuietV P (hqf i) e o.op v) ∧ K (e.put o.dst (gd c v)) h := by
  unfold AStep; rw [if_neg hi]
/-- Two that are apart may change places. -/
theorem AStep.swap {i j : Nat} {oi oj : VOper} {e : Env} {h : Heap} {K : Env → Heap → Prop} (hK : Inv K) (hap : oi.apart oj = true) (ci : oi.op.closed = true) (cj : oj.op.closed = true)
    (hE : ¬ (i ∈ E ∧ j ∈ E)) (hs : i ∈ E → oi.op.simple = true ∧ oj.op.det = true) (H : AStep P hqf Z E i oi e h (fun e1 h1 => AStep P hqf Z E j oj e1 h1 K)) :
    AStep P hqf Z E j oj e h (fun e1 h1 => AStep P hqf Z E i oi e1 h1 K) := by
  obtain ⟨a1, a2, a3⟩ := apart_spec hap
  have gi : ∀ v, Agree oi.op.vas (e.put oj.dst v) e ∧ ∀ c, gOf oi (e.put oj.dst v) c ↔ gOf oi e c := fun v => agree_put a2
  have gj : ∀ v, Agree oj.op.vas (e.put oi.dst v) e ∧ ∀ c, gOf oj (e.put oi.dst v) c ↔ gOf oj e c := fun v => agree_put a1
  by_cases hi : i ∈ E
  · have hj : j ∉ E := fun hj => hE ⟨hi, hj⟩
    obtain ⟨s1, s2⟩ := hs hi
    obtain ⟨h1, h2⟩ := (AStep_E hi).1 H
    have key : ∃ c, gOf oj e c ∧ (c = true → QuietV P (hqf j) e oj.op (dval e (hqf j) oj.op)) := by
      refine StepW.out (K := fun _ _ => True) s1 (h2.mono fun v h' k => ⟨?_, trivial⟩)
      obtain ⟨c, c1, v', c2, c3⟩ := (AStep_q hj).1 k.2
      refine ⟨c, ((gj v).2 c).1 c1, fun hh => ?_⟩
      have hv := c2 hh
      have e1 := hv.det s2
      rw [QuietV_congr cj (gj v).1] at hv
      rw [dval_congr (gj v).1] at e1
      rw [← e1]; exact hv
    obtain ⟨c, c1, c2⟩ := key
    refine (AStep_q hj).2 ⟨c, c1, dval e (hqf j) oj.op, c2, ?_⟩
    refine (AStep_E hi).2 ⟨h1, ?_⟩
    rw [StepW_congr ci (gi _).1]
    refine h2.mono fun v h' k => ⟨k.1, ?_⟩
    obtain ⟨c', d1, v', d2, d3⟩ := (AStep_q hj).1 k.2
    have hcc : c' = c := by
      have := ((gj v).2 c').1 d1
      unfold gOf at this c1
      cases hg : oj.guard with
      | none => rw [hg] at this c1; rw [this, c1]
      | some dw => rw [hg] at this c1; simp only at this c1; rw [this] at c1; exact Option.some.inj c1
    subst hcc
    have hgd : gd c' v' = gd c' (dval e (hqf j) oj.op) := by
      cases c'
      · rfl
      · have := (d2 rfl).det s2
        rw [dval_congr (gj v).1] at this
        simp [gd, this]
    rw [hgd] at d3
    exact hK _ _ _ (put_swap e _ _ a3) d3
  · obtain ⟨c, c1, v, c2, H⟩ := (AStep_q hi).1 H
    by_cases hj : j ∈ E
    · obtain ⟨h1, h2⟩ := (AStep_E hj).1 H
      refine (AStep_E hj).2 ⟨h1, ?_⟩
      rw [StepW_congr cj (gj _).1] at h2
      refine h2.mono fun u h' k => ⟨k.1, ?_⟩
      refine (AStep_q hi).2 ⟨c, ((gi u).2 c).2 c1, v, fun hh => ?_, hK _ _ _ (put_swap e _ _ a3) k.2⟩
      rw [QuietV_congr ci (gi u).1]; exact c2 hh
    · obtain ⟨c', d1, u, d2, d3⟩ := (AStep_q hj).1 H
      refine (AStep_q hj).2 ⟨c', ((gj _).2 c').1 d1, u, fun hh => ?_, ?_⟩
      · have := d2 hh
        rw [QuietV_congr cj (gj _).1] at this; exact this
      · refine (AStep_q hi).2 ⟨c, ((gi _).2 c).2 c1, v, fun hh => ?_, hK _ _ _ (put_swap e _ _ a3) d3⟩
        rw [QuietV_congr ci (gi _).1]; exact c2 hh
end
end Go.VM

