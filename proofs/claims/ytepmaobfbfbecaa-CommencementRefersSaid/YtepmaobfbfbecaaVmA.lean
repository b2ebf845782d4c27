/-
  The value machine, 10: regions, code, functions.
-/
import Derived.Test.YtepmaobfbfbecaaVm9
import Derived.Deep.LoopGhost
set_option linter.all false
namespace Go.VM
open Go

structure VOper where
  dst : Option Nat
  op : VOp
  guard : Option (Nat × Bool)
  deriving Inhabited

/-- Code as data, with what is kept of the frame behind each region. -/
inductive VC where
  | skip
  | region (ops : List VOper) (draw : Bool)
  | draw2 (ops : List VOper) (late : List Bool)
  | seq (a b : VC)
  | cond (c : VA) (thn els : VC)
  | block (id : Nat) (body : VC)
  | loop (body : VC)
  | exit (id : Nat)
  | ret
  | other (c : Code)
  deriving Inhabited

def cGuard (ops : Array Oper) : Option (Nat × Bool) → Option (Option (Nat × Bool))
  | none => some none
  | some (j, want) => match (ops[j]?).bind (·.dst) with
    | some d => some (some (d, want))
    | none => none
def dstB (N : Nat) : Option Nat → Bool
  | some d => decide (d < N)
  | none => true
def cOpers (P : Program) (N : Nat) (ops : Array Oper) : List Oper → Option (List VOper)
  | [] => some []
  | o :: r => match cOp P o, cGuard ops o.guard, cOpers P N ops r with
    | some op, some gd, some q => if dstB N o.dst then some (⟨o.dst, op, gd⟩ :: q) else none
    | _, _, _ => none
/-! ### regions that draw their order: what may change places (used in part 13) -/
def VOp.vas : VOp → List VA
  | .mv a | .un _ a | .conv _ a | .strid a | .b2s a | .s2b a | .faddr _ a | .fld _ _ _ a | .ext a _ | .len _ a | .box _ a | .load _ _ a | .isnil _ a => [a]
  | .pick a b c => [a, b, c]
  | .alloc _ | .mkmap => []
  | .build _ ps => ps.map fun p => p.2.2
  | .bslice _ _ _ ps => ps.map fun p => p.2
  | .store _ a b | .bin _ a b | .binb _ a b | .eqs _ _ a b | .iaddr _ a b | .idx a b | .app _ _ _ _ a b => [a, b]
  | .mkfn _ x y => x ++ y
  | .slice _ _ a lo hi => a :: (lo.toList ++ hi.toList)
  | .mm _ l => l
  | .lookup _ _ _ a b => [a, b]
  | .mlen a => [a]
  | .mapset _ a b c => [a, b, c]
  | .call _ l => l
  | .callv f l => f :: l
  | .px _ l => l
  | .fx _ l => l
  | .nd _ a => [a]
  | .other _ => []
def VOp.closed : VOp → Bool
  | .other _ => false
  | _ => true
/-- The operations that make or write memory, whose result is one of the heap's own. -/
def VOp.simple : VOp → Bool
  | .alloc _ | .box .. | .store .. | .app .. | .mapset .. | .mkmap | .fx .. | .nd .. => true
  | _ => false
def VOp.det : VOp → Bool
  | .bslice .. => true
  | op => op.pure
def VOper.reads (o : VOper) : List Nat :=
  (o.op.vas.filterMap fun | .t n => some n | _ => none) ++ (match o.guard with | some (d, _) => [d] | none => [])
/-- Neither looks at what the other writes. -/
def VOper.apart (x y : VOper) : Bool :=
  (match x.dst with | some d => !y.reads.contains d && y.dst != some d | none => true) && (match y.dst with | some d => !x.reads.contains d | none => true)
def effAt (q : List VOper) (k : Nat) : Bool := match q[k]? with | some o => o.op.simple | none => false
/-- Does j wait for k, straight or through others that are not listed yet? -/
def behindB (ops : Array Oper) (listed : Array Bool) : Nat → Nat → Nat → Bool
  | 0, _, _ => false
  | f + 1, k, j => match ops[j]? with
    | some o => o.after.any fun e => Region.binds .any e && (e.on == k || (!(listed.getD e.on true) && behindB ops listed f k e.on))
    | none => false
def freeB (ops : Array Oper) (q : List VOper) (listed : Array Bool) (k : Nat) : Bool :=
  (List.range ops.size).all fun j => j == k || listed.getD j true ||
    behindB ops listed ops.size k j ||
    (match q[k]?, q[j]? with
    | some x, some y => x.apart y && !(x.op.simple && y.op.simple) && (!x.op.simple || y.op.det)
    | _, _ => false)
def drawB (ops : Array Oper) (q : List VOper) : Nat → Nat → Array Bool → Bool
  | 0, _, listed => (Region.ready .any ops listed).isEmpty
  | n + 1, k, listed => (Region.ready .any ops listed).contains k && freeB ops q listed k && q.all (fun o => o.op.closed) && drawB ops q n (k + 1) (listed.setIfInBounds k true)
/-- Does it write a block that may be there already? -/
def VOp.writes : VOp → Bool
  | .store .. | .mapset .. | .app .. | .fx .. => true
  | _ => false
def writesAt (q : List VOper) (k : Nat) : Bool := match q[k]? with | some o => o.op.writes | none => false
/-- Do all writers wait for it? -/
def lateB (ops : Array Oper) (q : List VOper) (i : Nat) : Bool := (List.range ops.size).all fun j => !(writesAt q j) || behindB ops (Array.replicate ops.size false) ops.size i j
def lateL (ops : Array Oper) (q : List VOper) : List Bool := (List.range ops.size).map (lateB ops q)
def cCode (P : Program) (N : Nat) : Code → Option VC
  | .skip => some .skip
  | .region id ops draw => match cOpers P N ops ops.toList with
    | some q => if draw then (if P.follows .mixedOrders && drawB ops q ops.size 0 (Array.replicate ops.size false) then (if q.any (fun o => o.op.writes) then some (.draw2 q (lateL ops q)) else some (.region q true)) else some (.other (.region id ops draw))) else some (.region q false)
    | none => none
  | .seq a b => match cCode P N a, cCode P N b with
    | some x, some y => some (.seq x y)
    | _, _ => none
  | .cond c a b => match cA c, cCode P N a, cCode P N b with
    | some v, some x, some y => some (.cond v x y)
    | _, _, _ => none
  | .block id c => (cCode P N c).map (.block id)
  | .loop c => (cCode P N c).map .loop
  | .exit id => some (.exit id)
  | .ret => some .ret
  | c => some (.other c)

/-- Does the guard let the operation run? -/
def guardOf (want : Bool) : PV → Option Bool
  | .bool b => some (b == want)
  | .undef => some false
  | _ => none

/-- One operation under its guard. -/
def GuardW (P : Program) (e : Env) (h : Heap) (op : VOp) (c : Bool) (K : PV → Heap → Prop) : Prop :=
  match op.pure with
  | true => (c = true → pok e h op) ∧ K (gd c (pval e h op)) h
  | false => (c = true → StepW P e h op K) ∧ (c = false → K .undef h)

def OpsW (P : Program) : List VOper → (Env → Heap → Prop) → Env → Heap → Prop
  | [], K, e, h => K e h
  | o :: r, K, e, h => match o.guard with
    | none => StepW P e h o.op (fun v h' => OpsW P r K (e.put o.dst v) h')
    | some (d, want) => match guardOf want (e.get d) with
      | some c => GuardW P e h o.op c (fun v h' => OpsW P r K (e.put o.dst v) h')
      | none => False

/-- The code, over abstract states. -/
def AW (P : Program) (N : Nat) (c : Code) (Q : Exit → Env → Heap → Prop) (e : Env) (h : Heap) : Prop :=
  ∀ g w a, Rel g w h → EnvRep g a e → a.defers = [] → a.tmps.size = N →
    c.wp P (fun x a' w' => ∃ g' e' h', Q x e' h' ∧ Rel g' w' h' ∧ EnvRep g' a' e' ∧ a'.defers = [] ∧ a'.tmps.size = N ∧ Evo g w h g' w' h') a w

theorem put_size (a : Act) (d : Option Nat) (v : Value) : (a.put d v).tmps.size = a.tmps.size ∧ (a.put d v).defers = a.defers := by
  cases d <;> simp [Act.put]

theorem yielded_of {g : Gh} {a : Act} {e : Env} (he : EnvRep g a e) {ops : Array Oper} {j : Nat} {want : Bool} {d : Nat} (hd : (ops[j]?).bind (·.dst) = some d) {c : Bool} (hc : guardOf want (e.get d) = some c) :
    (yielded ops a.tmps j == some want) = c := by
  have hv := he d
  unfold yielded
  rw [hd]
  simp only [Option.bind_some]
  cases hp : e.get d <;> simp only [hp, guardOf, Option.some.injEq] at hc <;> try (cases hc; done)
  case undef =>
    subst hc
    rw [hp] at hv
    by_cases hlt : d < a.tmps.size
    · have e1 : a.tmps.getD d Go.undef = a.tmps[d] := by simp [Array.getD, hlt]
      rw [e1] at hv
      rw [Array.getElem?_eq_getElem hlt]
      generalize a.tmps[d] = v at hv
      cases hv
      rfl
    · rw [Array.getElem?_eq_none (by omega)]; rfl
  case bool b =>
    subst hc
    rw [hp] at hv
    by_cases hlt : d < a.tmps.size
    · have e1 : a.tmps.getD d Go.undef = a.tmps[d] := by simp [Array.getD, hlt]
      rw [e1] at hv
      rw [Array.getElem?_eq_getElem hlt, hv.bool_inv]
      cases b <;> cases want <;> rfl
    · have e1 : a.tmps.getD d Go.undef = Go.undef := by simp [Array.getD, hlt]
      rw [e1] at hv
      cases hv

theorem ops_sound {P : Program} {N : Nat} {ops : Array Oper} {Q : Exit → Act → World → Prop} {K : Env → Heap → Prop} {g0 : Gh} {w0 : World} {h0 : Heap}
    (hQ : ∀ g w h a e, K e h → Rel g w h → EnvRep g a e → a.defers = [] → a.tmps.size = N → Evo g0 w0 h0 g w h → Q .normal a w) :
    ∀ (l : List Oper) (q : List VOper) (k : Nat) (e : Env) (h : Heap), (∀ j, l[j]? = ops[k + j]?) → cOpers P N ops l = some q → OpsW P q K e h →
      ∀ g w a, Rel g w h → EnvRep g a e → a.defers = [] → a.tmps.size = N → Evo g0 w0 h0 g w h → wpOps P ops Q ((List.range l.length).map (k + ·)) a w
  | [], q, k, e, h, _, hc, hw, g, w, a, r, he, hd, hs, hev => by
    simp only [cOpers, Option.some.injEq] at hc; subst hc
    exact hQ g w h a e hw r he hd hs hev
  | o :: l, q, k, e, h, hl, hc, hw, g, w, a, r, he, hd, hs, hev => by
    have h0 : ops[k]? = some o := by simpa using (hl 0).symm
    have hl' : ∀ j, l[j]? = ops[(k + 1) + j]? := fun j => by have := hl (j + 1); simpa [Nat.add_assoc, Nat.add_comm 1 j] using this
    simp only [cOpers] at hc
    split at hc
    case h_2 => cases hc
    rename_i op gu qs h1 h2 h3
    have hdst : dstB N o.dst = true := by
      by_cases hh : dstB N o.dst = true
      · exact hh
      · rw [if_neg hh] at hc; cases hc
    rw [if_pos hdst] at hc
    simp only [Option.some.injEq] at hc; subst hc
    have hdlt : ∀ t, o.dst = some t → t < a.tmps.size := by
      intro t ht
      rw [ht] at hdst
      rw [hs]; simpa [dstB] using hdst
    have hlist : (List.range (o :: l).length).map (k + ·) = k :: (List.range l.length).map ((k + 1) + ·) := by
      simp only [List.length_cons, List.range_succ_eq_map, List.map_cons, Nat.add_zero, List.map_map]
      congr 1
      apply List.map_congr_left
      intro x _
      simp only [Function.comp]
      omega
    rw [hlist, wpOps_cons]
    unfold wpOp
    simp only [h0]
    have next : ∀ (v : Value) (pv : PV) (g' : Gh) (w' : World) (h' : Heap), OpsW P qs K (e.put o.dst pv) h' → Rep g' v pv → Rel g' w' h' → Evo g w h g' w' h' →
        wpOps P ops Q ((List.range l.length).map ((k + 1) + ·)) (a.put o.dst v) w' := by
      intro v pv g' w' h' hk hv hr hev'
      exact ops_sound hQ l qs (k + 1) _ _ hl' h3 hk g' w' _ hr ((he.mono hev'.le).put hv hdlt) (by rw [(put_size a o.dst v).2]; exact hd) (by rw [(put_size a o.dst v).1]; exact hs) (hev.trans hev')
    have skip : OpsW P qs K (e.put o.dst .undef) h → wpOps P ops Q ((List.range l.length).map ((k + 1) + ·)) (a.put o.dst Go.undef) w :=
      fun hk => next Go.undef .undef g w h hk .undef r (Evo.refl _ _ _)
    have run : StepW P e h op (fun v h' => OpsW P qs K (e.put o.dst v) h') → o.wp P a w (wpOps P ops Q ((List.range l.length).map ((k + 1) + ·))) Q :=
      fun hsw => stepW_sound h1 hsw g w a _ Q r he next
    simp only [OpsW] at hw
    unfold Region.wanted
    cases hog : o.guard with
    | none =>
      rw [hog] at h2
      simp only [cGuard, Option.some.injEq] at h2; subst h2
      simp only [if_true]
      exact .inl (run hw)
    | some jw =>
      obtain ⟨j, want⟩ := jw
      rw [hog] at h2
      simp only [cGuard] at h2
      split at h2
      case h_2 => cases h2
      rename_i d hdd
      simp only [Option.some.injEq] at h2; subst h2
      simp only at hw
      split at hw
      case h_2 => exact hw.elim
      rename_i c hcg
      have hy := yielded_of he hdd hcg
      simp only [hy]
      simp only [GuardW] at hw
      cases c
      · simp only [Bool.false_eq_true, if_false]
        apply skip
        split at hw
        · have := hw.2; simpa [gd] using this
        · exact hw.2 rfl
      · simp only [if_true]
        left
        apply run
        split at hw
        · rename_i hpure
          have h2' := hw.2
          simp only [gd, if_true] at h2'
          have h1' := hw.1 rfl
          cases op <;> first | exact ⟨h1', h2'⟩ | simp [VOp.pure] at hpure
        · exact hw.1 rfl

theorem AW_region {P : Program} {N : Nat} {id : Nat} {ops : Array Oper} {q : List VOper} {Q : Exit → Env → Heap → Prop} {e : Env} {h : Heap} (l : List Nat) (hc : cOpers P N ops ops.toList = some q) (hw : OpsW P q (fun e' h' => Q .normal (Env.keep l e') h') e h) :
    AW P N (.region id ops false) Q e h := by
  intro g w a r he hd hs
  apply wp_region
  have := ops_sound (P := P) (N := N) (ops := ops) (Q := fun x a' w' => ∃ g' e' h', Q x e' h' ∧ Rel g' w' h' ∧ EnvRep g' a' e' ∧ a'.defers = [] ∧ a'.tmps.size = N ∧ Evo g w h g' w' h') (K := fun e' h' => Q .normal (Env.keep l e') h') (g0 := g) (w0 := w) (h0 := h)
    (fun g' w' h' a' e' k1 k2 k3 k4 k5 k6 => ⟨g', _, h', k1, k2, k3.keep l, k4, k5, k6⟩) ops.toList q 0 e h (fun j => by simp) hc hw g w a r he hd hs (Evo.refl _ _ _)
  simpa using this

section rules
variable {P : Program} {N : Nat} {Q : Exit → Env → Heap → Prop} {e : Env} {h : Heap}

theorem AW.mono {c : Code} {Q' : Exit → Env → Heap → Prop} (H : AW P N c Q e h) (hq : ∀ x e h, Q x e h → Q' x e h) : AW P N c Q' e h :=
  fun g w a r he hd hs => wp_mono (H g w a r he hd hs) fun _ _ _ ⟨g', e', h', k1, k⟩ => ⟨g', e', h', hq _ _ _ k1, k⟩
theorem AW.weaken {c : Code} {e' : Env} {h' : Heap} (he : e'.le e) (hh : h'.le h) (H : AW P N c Q e' h') : AW P N c Q e h :=
  fun g w a r er hd hs => wp_mono (H g w a (r.weaken hh) (er.le he) hd hs) fun _ _ _ ⟨g', e2, h2, k1, k2, k3, k4, k5, k6⟩ => ⟨g', e2, h2, k1, k2, k3, k4, k5, k6.weakenL hh⟩
theorem AW.keep {c : Code} (l : List Nat) (H : AW P N c Q (Env.keep l e) h) : AW P N c Q e h :=
  fun g w a r er hd hs => H g w a r (er.keep l) hd hs
theorem AW_skip (H : Q .normal e h) : AW P N .skip Q e h := fun g w a r he hd hs => wp_skip ⟨g, e, h, H, r, he, hd, hs, Evo.refl _ _ _⟩
theorem AW_exit {id : Nat} (H : Q (.exit id) e h) : AW P N (.exit id) Q e h := fun g w a r he hd hs => wp_exit ⟨g, e, h, H, r, he, hd, hs, Evo.refl _ _ _⟩
theorem AW_ret (H : Q .ret e h) : AW P N .ret Q e h := fun g w a r he hd hs => wp_ret ⟨g, e, h, H, r, he, hd, hs, Evo.refl _ _ _⟩
def thenQ (K : Env → Heap → Prop) (Q : Exit → Env → Heap → Prop) : Exit → Env → Heap → Prop
  | .normal, e, h => K e h
  | x, e, h => Q x e h
theorem AW_seq {x y : Code} (H : AW P N x (thenQ (AW P N y Q) Q) e h) : AW P N (.seq x y) Q e h := by
  intro g w a r he hd hs
  apply wp_seq
  refine wp_mono (H g w a r he hd hs) fun ex a' w' ⟨g', e', h', k1, k2, k3, k4, k5, k6⟩ => ?_
  cases ex with
  | normal => exact wp_mono (k1 g' w' a' k2 k3 k4 k5) fun _ _ _ ⟨g2, e2, h2, m1, m2, m3, m4, m5, m6⟩ => ⟨g2, e2, h2, m1, m2, m3, m4, m5, k6.trans m6⟩
  | exit id => exact ⟨g', e', h', k1, k2, k3, k4, k5, k6⟩
  | goto l => exact ⟨g', e', h', k1, k2, k3, k4, k5, k6⟩
  | ret => exact ⟨g', e', h', k1, k2, k3, k4, k5, k6⟩
  | panic ch => exact ⟨g', e', h', k1, k2, k3, k4, k5, k6⟩
  | outgrown => exact ⟨g', e', h', k1, k2, k3, k4, k5, k6⟩
theorem AW_cond {c : Operand} {v : VA} {x y : Code} {b : Bool} (hc : cA c = some v) (hb : v.ev e = .bool b) (ht : b = true → AW P N x Q e h) (hf : b = false → AW P N y Q e h) : AW P N (.cond c x y) Q e h := by
  intro g w a r he hd hs
  have := cA_rep he hc
  rw [hb] at this
  exact wp_cond_split this.bool_inv (fun hh => ht hh g w a r he hd hs) (fun hh => hf hh g w a r he hd hs)
def blockQ (id : Nat) (Q : Exit → Env → Heap → Prop) : Exit → Env → Heap → Prop
  | .exit id', e, h => if id' = id then Q .normal e h else Q (.exit id') e h
  | x, e, h => Q x e h
theorem AW_block {id : Nat} {c : Code} (H : AW P N c (blockQ id Q) e h) : AW P N (.block id c) Q e h := by
  intro g w a r he hd hs
  apply wp_block
  refine wp_mono (H g w a r he hd hs) fun ex a' w' ⟨g', e', h', k1, k⟩ => ?_
  cases ex with
  | exit id' =>
    simp only [blockQ] at k1
    simp only [Exit.inBlock]
    split at k1
    · rename_i hid; rw [if_pos hid]; exact ⟨g', e', h', k1, k⟩
    · rename_i hid; rw [if_neg hid]; exact ⟨g', e', h', k1, k⟩
  | normal => exact ⟨g', e', h', k1, k⟩
  | goto l => exact ⟨g', e', h', k1, k⟩
  | ret => exact ⟨g', e', h', k1, k⟩
  | panic ch => exact ⟨g', e', h', k1, k⟩
  | outgrown => exact ⟨g', e', h', k1, k⟩
/-- A LOOP: states s, each with what is known of the frame and the heap; every round lowers the measure. -/
theorem AW_loop {c : Code} {σ : Type} (st : σ → Env × Heap) (μ : σ → Nat) (s0 : σ) (h1 : (st s0).1.le e) (h2 : (st s0).2.le h)
    (round : ∀ s, AW P N c (thenQ (fun e' h' => ∃ s', (st s').1.le e' ∧ (st s').2.le h' ∧ μ s' < μ s) Q) (st s).1 (st s).2) : AW P N (.loop c) Q e h := by
  intro g w a r he hd hs
  refine wp_loop_ghost (fun n a' w' => ∃ s g', μ s = n ∧ Rel g' w' (st s).2 ∧ EnvRep g' a' (st s).1 ∧ a'.defers = [] ∧ a'.tmps.size = N ∧ Evo g w h g' w' (st s).2) (μ s0)
    ⟨s0, g, rfl, r.weaken h2, he.le h1, hd, hs, (Evo.refl g w h).weakenR h2⟩ ?_
  rintro n a' w' ⟨s, g', rfl, r', he', hd', hs', hev⟩
  refine wp_mono (round s g' w' a' r' he' hd' hs') fun ex a2 w2 ⟨g2, e2, hh2, k1, k2, k3, k4, k5, k6⟩ => ?_
  cases ex with
  | normal =>
    obtain ⟨s', l1, l2, l3⟩ := k1
    exact ⟨μ s', l3, s', g2, rfl, k2.weaken l2, k3.le l1, k4, k5, (hev.trans k6).weakenR l2⟩
  | exit id => exact ⟨g2, e2, hh2, k1, k2, k3, k4, k5, hev.trans k6⟩
  | goto l => exact ⟨g2, e2, hh2, k1, k2, k3, k4, k5, hev.trans k6⟩
  | ret => exact ⟨g2, e2, hh2, k1, k2, k3, k4, k5, hev.trans k6⟩
  | panic ch => exact ⟨g2, e2, hh2, k1, k2, k3, k4, k5, hev.trans k6⟩
  | outgrown => exact ⟨g2, e2, hh2, k1, k2, k3, k4, k5, hev.trans k6⟩
end rules

/-! ### code as data -/
def VW (P : Program) (N : Nat) (vc : VC) (Q : Exit → Env → Heap → Prop) (e : Env) (h : Heap) : Prop := ∀ c, cCode P N c = some vc → AW P N c Q e h
section vrules
variable {P : Program} {N : Nat} {Q : Exit → Env → Heap → Prop} {e : Env} {h : Heap}
theorem VW.mono {c : VC} {Q' : Exit → Env → Heap → Prop} (H : VW P N c Q e h) (hq : ∀ x e h, Q x e h → Q' x e h) : VW P N c Q' e h := fun x hx => (H x hx).mono hq
theorem VW.weaken {c : VC} {e' : Env} {h' : Heap} (he : e'.le e) (hh : h'.le h) (H : VW P N c Q e' h') : VW P N c Q e h := fun x hx => (H x hx).weaken he hh
theorem VW_skip (H : Q .normal e h) : VW P N .skip Q e h := by
  intro c hc
  cases c <;> simp only [cCode, Option.map_eq_some_iff] at hc
  case skip => exact AW_skip H
  case seq => split at hc <;> simp at hc
  case cond => split at hc <;> simp at hc
  case region => (repeat' (split at hc)) <;> simp at hc
  all_goals simp at hc
theorem VW_exit {id : Nat} (H : Q (.exit id) e h) : VW P N (.exit id) Q e h := by
  intro c hc
  cases c <;> simp only [cCode, Option.map_eq_some_iff] at hc
  case exit id' => simp only [Option.some.injEq, VC.exit.injEq] at hc; subst hc; exact AW_exit H
  case seq => split at hc <;> simp at hc
  case cond => split at hc <;> simp at hc
  case region => (repeat' (split at hc)) <;> simp at hc
  all_goals simp at hc
theorem VW_ret (H : Q .ret e h) : VW P N .ret Q e h := by
  intro c hc
  cases c <;> simp only [cCode, Option.map_eq_some_iff] at hc
  case ret => exact AW_ret H
  case seq => split at hc <;> simp at hc
  case cond => split at hc <;> simp at hc
  case region => (repeat' (split at hc)) <;> simp at hc
  all_goals simp at hc
theorem VW_seq {x y : VC} (H : VW P N x (thenQ (VW P N y Q) Q) e h) : VW P N (.seq x y) Q e h := by
  intro c hc
  cases c <;> simp only [cCode, Option.map_eq_some_iff] at hc
  case seq a b =>
    split at hc
    · rename_i p q h1 h2
      simp only [Option.some.injEq, VC.seq.injEq] at hc
      obtain ⟨rfl, rfl⟩ := hc
      refine AW_seq ((H a h1).mono fun ex e' h' hk => ?_)
      cases ex with
      | normal => exact hk b h2
      | exit id => exact hk
      | goto l => exact hk
      | ret => exact hk
      | panic ch => exact hk
      | outgrown => exact hk
    · cases hc
  case cond => split at hc <;> simp at hc
  case region => (repeat' (split at hc)) <;> simp at hc
  all_goals simp at hc
theorem VW_cond {v : VA} {x y : VC} {b : Bool} (hb : v.ev e = .bool b) (ht : b = true → VW P N x Q e h) (hf : b = false → VW P N y Q e h) : VW P N (.cond v x y) Q e h := by
  intro c hc
  cases c <;> simp only [cCode, Option.map_eq_some_iff] at hc
  case cond op a b' =>
    split at hc
    · rename_i p q s h1 h2 h3
      simp only [Option.some.injEq, VC.cond.injEq] at hc
      obtain ⟨rfl, rfl, rfl⟩ := hc
      exact AW_cond h1 hb (fun hh => ht hh a h2) (fun hh => hf hh b' h3)
    · cases hc
  case seq => split at hc <;> simp at hc
  case region => (repeat' (split at hc)) <;> simp at hc
  all_goals simp at hc
theorem VW_block {id : Nat} {x : VC} (H : VW P N x (blockQ id Q) e h) : VW P N (.block id x) Q e h := by
  intro c hc
  cases c <;> simp only [cCode, Option.map_eq_some_iff] at hc
  case block id' a =>
    obtain ⟨p, h1, h2⟩ := hc
    simp only [VC.block.injEq] at h2
    obtain ⟨rfl, rfl⟩ := h2
    exact AW_block (H a h1)
  case seq => split at hc <;> simp at hc
  case cond => split at hc <;> simp at hc
  case region => (repeat' (split at hc)) <;> simp at hc
  all_goals simp at hc
theorem VW_loop {x : VC} {σ : Type} (st : σ → Env × Heap) (μ : σ → Nat) (s0 : σ) (h1 : (st s0).1.le e) (h2 : (st s0).2.le h)
    (round : ∀ s, VW P N x (thenQ (fun e' h' => ∃ s', (st s').1.le e' ∧ (st s').2.le h' ∧ μ s' < μ s) Q) (st s).1 (st s).2) : VW P N (.loop x) Q e h := by
  intro c hc
  cases c <;> simp only [cCode, Option.map_eq_some_iff] at hc
  case loop a =>
    obtain ⟨p, h3, h4⟩ := hc
    simp only [VC.loop.injEq] at h4
    subst h4
    exact AW_loop st μ s0 h1 h2 fun s => round s a h3
  case seq => split at hc <;> simp at hc
  case cond => split at hc <;> simp at hc
  case region => (repeat' (split at hc)) <;> simp at hc
  all_goals simp at hc
theorem cCode_region {id : Nat} {ops : Array Oper} {draw : Bool} {vc : VC} (hc : cCode P N (.region id ops draw) = some vc) : ∃ q, cOpers P N ops ops.toList = some q ∧
    (draw = false ∧ vc = .region q false ∨ draw = true ∧ (P.follows .mixedOrders && drawB ops q ops.size 0 (Array.replicate ops.size false)) = true ∧ (q.any (fun o => o.op.writes) = false ∧ vc = .region q true ∨ vc = .draw2 q (lateL ops q)) ∨ ∃ c, vc = .other c) := by
  simp only [cCode] at hc
  split at hc
  · rename_i q h3
    refine ⟨q, h3, ?_⟩
    split at hc
    · rename_i hd
      split at hc
      · rename_i hB
        split at hc
        · simp only [Option.some.injEq] at hc
          exact .inr (.inl ⟨hd, hB, .inr hc.symm⟩)
        · rename_i hw
          simp only [Option.some.injEq] at hc
          exact .inr (.inl ⟨hd, hB, .inl ⟨by simpa using hw, hc.symm⟩⟩)
      · simp only [Option.some.injEq] at hc
        exact .inr (.inr ⟨_, hc.symm⟩)
    · rename_i hd
      simp only [Option.some.injEq] at hc
      exact .inl ⟨by simpa using hd, hc.symm⟩
  · cases hc
theorem VW_region {q : List VOper} (l : List Nat) (H : OpsW P q (fun e' h' => Q .normal (Env.keep l e') h') e h) : VW P N (.region q false) Q e h := by
  intro c hc
  cases c
  case region id ops draw =>
    obtain ⟨p, h3, h | h | h⟩ := cCode_region hc
    · obtain ⟨rfl, h⟩ := h
      simp only [VC.region.injEq, and_true] at h
      subst h
      exact AW_region l h3 H
    · rcases h.2.2 with ⟨_, h⟩ | h <;> simp at h
    · obtain ⟨c, h⟩ := h; cases h
  all_goals
    simp only [cCode, Option.map_eq_some_iff] at hc
    first
    | (simp at hc; done)
    | (split at hc <;> simp at hc)

/-! ### functions -/
def argEnv : Nat → List PV → Env
  | _, [] => []
  | k, a :: r => (k, a) :: argEnv (k + 1) r
theorem argEnv_get : ∀ (l : List PV) (k t : Nat), (argEnv k l).get t = if k ≤ t ∧ t < k + l.length then PV.nth l (t - k) else .any
  | [], k, t => by simp [argEnv, Env.get]; intro h1 h2; omega
  | a :: r, k, t => by
    simp only [argEnv, Env.get, argEnv_get r]
    by_cases h1 : k = t
    · subst h1; simp [PV.nth]
    · rw [if_neg h1]
      by_cases h2 : k + 1 ≤ t ∧ t < k + 1 + r.length
      · rw [if_pos h2, if_pos ⟨by omega, by simp; omega⟩]
        have : t - k = (t - (k + 1)) + 1 := by omega
        rw [this]; simp [PV.nth]
      · rw [if_neg h2, if_neg (by simp; omega)]
/-- Where a result lies. -/
inductive RS where
  | t (n : Nat)
  | c (n : Nat) (agg : Bool) (s : Nat)
  deriving Inhabited
def RS.ev (e : Env) (h : Heap) : RS → PV
  | .t n => e.get n
  | .c n g s => aggV g ((locCells h (e.get n)).take s)
def RS.ok (e : Env) (h : Heap) : RS → Prop
  | .t _ => True
  | .c n g s => locOk h (e.get n) ∧ s ≤ (locCells h (e.get n)).length ∧ (g = false → s = 1)
def resOk (e : Env) (h : Heap) : List RS → Prop
  | [] => True
  | x :: r => x.ok e h ∧ resOk e h r
def resV (e : Env) (h : Heap) : List RS → PV
  | [t] => t.ev e h
  | ts => .tup (ts.map (RS.ev e h))
def retQ (rs : List RS) (K : PV → Heap → Prop) : Exit → Env → Heap → Prop
  | .normal, e, h => resOk e h rs ∧ K (resV e h rs) h
  | .ret, e, h => resOk e h rs ∧ K (resV e h rs) h
  | _, _, _ => False
def rsOf (P : Program) : List ResultVar → Option (List RS)
  | [] => some []
  | .tmp t :: r => (rsOf P r).map (.t t :: ·)
  | .cell a t :: r => match aggOf P t, szOf P t, rsOf P r with
    | some g, some s, some q => some (.c a g s :: q)
    | _, _, _ => none
theorem rs_run {P : Program} {g : Gh} {w : World} {h : Heap} {e : Env} {a : Act} (hr : Rel g w h) (he : EnvRep g a e) (F : ResultVar → Sem Value) (hF : ∀ t, F (.tmp t) = pure (a.tmps.getD t Go.undef)) (hG : ∀ c t, F (.cell c t) = (do loadVar t (← asAddr (a.tmps.getD c Go.undef)))) :
    ∀ {l : List ResultVar} {ts : List RS}, rsOf P l = some ts → resOk e h ts →
    ∃ vs : List Value, (l.mapM F).run P w = .ok vs w ∧ vs.length = ts.length ∧ ∀ j, j < ts.length → Rep g (vs.getD j Go.undef) (PV.nth (ts.map (RS.ev e h)) j)
  | [], ts, hs, _ => by simp only [rsOf, Option.some.injEq] at hs; subst hs; exact ⟨[], rfl, rfl, fun j hj => by simp at hj⟩
  | .tmp t :: r, ts, hs, ok => by
    simp only [rsOf, Option.map_eq_some_iff] at hs
    obtain ⟨q, hq, rfl⟩ := hs
    obtain ⟨vs, e1, e2, e3⟩ := rs_run hr he F hF hG hq ok.2
    refine ⟨a.tmps.getD t Go.undef :: vs, by simp only [List.mapM_cons, hF, Sem.run_bind, Sem.run_pure, Result.andThen_ok, e1], by simp [e2], fun j hj => ?_⟩
    cases j with
    | zero => simpa [PV.nth, RS.ev] using he t
    | succ j => simpa [PV.nth] using e3 j (by simpa using hj)
  | .cell c t :: r, ts, hs, ok => by
    simp only [rsOf] at hs
    split at hs
    case h_2 => cases hs
    rename_i b s q hb hsz hq
    simp only [Option.some.injEq] at hs; subst hs
    obtain ⟨⟨o1, o2, o3⟩, ok'⟩ := ok
    obtain ⟨vs, e1, e2, e3⟩ := rs_run hr he F hF hG hq ok'
    obtain ⟨v, hv, hrep⟩ := load_sound (P := P) (w := w) (h := h) (a := a) (e := e) (x := .tmp c) (va := .t c) hr he rfl hb hsz ⟨o1, o2, o3⟩
    obtain ⟨bl, o, us, hval, _⟩ := loc_cells hr (he c) o1
    have hrun : (F (.cell c t)).run P w = .ok v w := by
      rw [hG]
      have e5 : a.eval (.tmp c) = a.tmps.getD c Go.undef := rfl
      rw [e5, hval] at hv
      rw [hval]
      simpa [Instr.loadAt, Instr.sureAddr, asAddr] using hv
    refine ⟨v :: vs, by simp only [List.mapM_cons, Sem.run_bind, hrun, Sem.run_pure, Result.andThen_ok, e1], by simp [e2], fun j hj => ?_⟩
    cases j with
    | zero => simpa [PV.nth, RS.ev, pval, VA.ev] using hrep
    | succ j => simpa [PV.nth] using e3 j (by simpa using hj)
theorem results_run {P : Program} {w : World} {fn : Func} {ts : List RS} {h : Heap} (hs : rsOf P fn.results.toList = some ts) {g : Gh} {a : Act} {e : Env} (hr : Rel g w h) (he : EnvRep g a e) (hok : resOk e h ts) :
    ∃ v, (results fn a.tmps).run P w = .ok v w ∧ Rep g v (resV e h ts) := by
  unfold results
  obtain ⟨vs, e1, e2, e3⟩ := rs_run (P := P) hr he (fun
    | .tmp t => pure (a.tmps.getD t Go.undef)
    | .cell c t => do loadVar t (← asAddr (a.tmps.getD c Go.undef))) (fun t => rfl) (fun c t => rfl) hs hok
  rw [Sem.run_bind, Array.mapM_eq_mapM_toList, Sem.run_map]
  generalize hX : Sem.run P (List.mapM _ fn.results.toList) w = X
  have hX' : X = .ok vs w := hX.symm.trans e1
  rw [hX']
  simp only [Result.andThen_ok, Sem.run_pure]
  refine ⟨_, rfl, ?_⟩
  match ts, vs, e2 with
  | [t], [v], _ => simpa [resV, PV.nth] using e3 0 (by simp)
  | [], [], _ => exact .tup _ _ rfl (fun j hj => by simp at hj)
  | t :: u :: r, v :: x :: vs, e2 =>
    have hne : ¬ (v :: x :: vs).toArray.size = 1 := by simp
    rw [dif_neg hne]
    refine .tup _ _ (by simpa using e2) (fun j hj => ?_)
    have := e3 j (by simpa using hj)
    simpa [Array.getD_eq_getD_getElem?] using this

theorem ACall_fn {f : FuncId} {fn : Func} {c : Code} {vc : VC} {ts : List RS} {args : List PV} {K : PV → Heap → Prop} (hf : P.funcs[f]? = some fn) (hok : fnOk P f = true) (hb : fn.body = some c) (hr : rsOf P fn.results.toList = some ts)
    (hn : args.length ≤ fn.ntmps) (hc : cCode P fn.ntmps c = some vc) (H : VW P fn.ntmps vc (retQ ts K) (argEnv 0 args) h) : ACall P f args h K := by
  refine ⟨hok, fun g w vals r ha => ?_⟩
  refine calls_of_wp hf hb ?_
  have he : EnvRep g { tmps := vals ++ Array.replicate (fn.ntmps - vals.size) Go.undef, defers := [] } (argEnv 0 args) := by
    intro t
    rw [argEnv_get]
    by_cases h1 : 0 ≤ t ∧ t < 0 + args.length
    · rw [if_pos h1]
      have hlt : t < vals.size := by rw [ha.1]; omega
      have e1 : (vals ++ Array.replicate (fn.ntmps - vals.size) Go.undef).getD t Go.undef = vals.getD t Go.undef := by
        simp [Array.getD_eq_getD_getElem?, Array.getElem?_append_left hlt]
      show Rep g ((vals ++ Array.replicate (fn.ntmps - vals.size) Go.undef).getD t Go.undef) _
      rw [e1]
      exact ha.2 t (by omega)
    · rw [if_neg h1]; exact .any _
  refine wp_mono (H c hc g w _ r he rfl (by simp [ha.1]; omega)) fun x a' w' ⟨g', e', h', k1, k2, k3, k4, k5, k6⟩ => ?_
  have fin : resOk e' h' ts ∧ K (resV e' h' ts) h' → bodyPost P fn (fun x w' => ∃ v p g' h', x = .returned v ∧ K p h' ∧ Rep g' v p ∧ Rel g' w' h' ∧ Evo g w h g' w' h') .ret a' w' := by
    rintro ⟨ho, hk⟩
    obtain ⟨v, hv, hrep⟩ := results_run (P := P) (w := w') hr k2 k3 ho
    exact ⟨k4, v, hv, v, _, g', h', rfl, hk, hrep, k2, k6⟩
  cases x with
  | normal => exact fin k1
  | ret => exact fin k1
  | exit id => exact k1.elim
  | goto l => exact k1.elim
  | panic ch => exact k1.elim
  | outgrown => exact k1.elim
end vrules
end Go.VM

