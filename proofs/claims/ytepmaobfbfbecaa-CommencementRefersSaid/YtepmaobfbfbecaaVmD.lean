/-
  The value machine, 13: a region that draws its order: one walk of the lexical order serves every order.
-/
import Derived.Test.YtepmaobfbfbecaaVmC
set_option linter.all false
namespace Go.VM
open Go

theorem cOpers_get {P : Program} {N : Nat} {ops : Array Oper} : ∀ {l : List Oper} {q : List VOper}, cOpers P N ops l = some q → l.length = q.length ∧
    ∀ (i : Nat) (o : Oper), l[i]? = some o → ∃ vo, q[i]? = some vo ∧ cOp P o = some vo.op ∧ vo.dst = o.dst ∧ cGuard ops o.guard = some vo.guard ∧ ∀ d, o.dst = some d → d < N
  | [], q, h => by simp only [cOpers, Option.some.injEq] at h; subst h; exact ⟨rfl, fun i o ho => by simp at ho⟩
  | o :: r, q, h => by
    simp only [cOpers] at h
    split at h
    case h_2 => cases h
    rename_i op gu qs h1 h2 h3
    have hdst : dstB N o.dst = true := by
      by_cases hh : dstB N o.dst = true
      · exact hh
      · rw [if_neg hh] at h; cases h
    rw [if_pos hdst] at h
    simp only [Option.some.injEq] at h; subst h
    obtain ⟨i1, i2⟩ := cOpers_get h3
    refine ⟨by simp [i1], fun i o' ho => ?_⟩
    cases i with
    | zero =>
      simp only [List.getElem?_cons_zero, Option.some.injEq] at ho; subst ho
      exact ⟨_, rfl, h1, rfl, h2, fun d hd => by rw [hd] at hdst; simpa [dstB] using hdst⟩
    | succ i => exact i2 i o' (by simpa using ho)

theorem View.weaken {h h' : Heap} {p q : PV} (hl : h.le h') (v : View h p q) : View h' p q := by
  intro g w x r hx
  have hle : (frz g w h).le (frz g w h') := by
    refine ⟨fun b o y e => ?_, fun _ _ e => e, fun b o e => ?_⟩
    rotate_left
    · have e' : frzMM g w h b = some o := e
      show frzMM g w h' b = some o
      rcases frzMM_inv e' with h1 | ⟨_, c5, k5⟩
      · exact frzMM_old h1
      · cases hm : g.m.mm b with
        | some v' =>
          obtain ⟨cl, this⟩ := r.mmem b v' hm
          rw [k5] at this; simp only [Option.some.injEq, Obj.map.injEq] at this; rw [this.1]
          exact frzMM_old hm
        | none =>
          unfold frzMM at e'
          rw [hm] at e'
          simp only at e'
          split at e'
          · rename_i hex
            obtain ⟨id, es, x, j1, j2, j3⟩ := hex
            exact frzMM_new hm (Heap.le_get hl _ _ j1) j2 j3 k5
          · cases e'
    show frzM g w h' b o = some y
    have e' : frzM g w h b o = some y := e
    rcases frzM_inv e' with h1 | ⟨_, k5, k6⟩
    · exact frzM_old h1
    · cases hm : g.m b o with
      | some v' =>
        have := (r.mem b o v' hm).1
        rw [k5] at this; simp only [Option.some.injEq] at this; subst this
        exact frzM_old hm
      | none =>
        unfold frzM at e'
        rw [hm] at e'
        simp only at e'
        split at e'
        · rename_i hex
          obtain ⟨id, z, es, x, j1, j2, j3⟩ := hex
          exact frzM_new hm (Heap.le_get hl _ _ j1) j2 j3 k5 k6
        · cases e'
  exact (v g w x (r.weaken hl) hx).mono hle
theorem Views.weaken {h h' : Heap} (hl : h.le h') : ∀ {l q : List PV}, Views h l q → Views h' l q
  | [], [], _ => trivial
  | a :: r, b :: q, ⟨h1, h2⟩ => ⟨h1.weaken hl, Views.weaken hl h2⟩
  | [], _ :: _, h => h.elim
  | _ :: _, [], h => h.elim
theorem PureCall.weaken {P : Program} {f : FuncId} {args : List PV} {h h' : Heap} {p : PV} (hl : h.le h') (H : PureCall P f args h p) : PureCall P f args h' p :=
  H.imp id fun ⟨q, h1, h2⟩ => ⟨q, h1.weaken hl, h2⟩

section
variable {P : Program} {N : Nat} {ops : Array Oper} {q : List VOper} {hq : Heap} {hqf : Nat → Heap} {Z : Nat → Heap → Heap → Prop} {E : List Nat}

theorem cOp_bslice {o : Oper} {z n : Nat} {zr : List PV} {ps : List (Nat × VA)} (hc : cOp P o = some (.bslice z n zr ps)) :
    ∃ t ty parts, o.op = .buildSlice t n parts ∧ P.underlying t = some (.slice ty) ∧ szOf P ty = some z ∧ zeroOf P ty = some zr ∧ cElems parts.toList = some ps ∧ n * z ≤ 2 ^ 20 ∧ zr.length = z ∧ z ≠ 0 := by
  unfold cOp at hc
  split at hc
  · rename_i vo hx
    simp only [Option.some.injEq] at hc; subst hc
    exact (cX_ext hx).elim
  rename_i hn0
  clear hn0
  obtain ⟨dst, oper, type, pos, after, guard⟩ := o
  cases oper
  case buildSlice t n' parts =>
    simp only [cOp0] at hc
    split at hc
    · rename_i ty hu
      split at hc
      · rename_i z' zr' ps' h1 h2 h3
        split at hc
        · rename_i hcond
          simp only [Option.some.injEq, VOp.bslice.injEq] at hc
          obtain ⟨rfl, rfl, rfl, rfl⟩ := hc
          simp only [Bool.and_eq_true, decide_eq_true_eq, beq_iff_eq, bne_iff_ne, ne_eq] at hcond
          exact ⟨t, ty, parts, rfl, hu, h1, h2, h3, hcond.1.1, hcond.1.2, hcond.2⟩
        · cases hc
      · cases hc
    · cases hc
  case call c =>
    exfalso
    simp only [cOp0, cCall] at hc
    (repeat' (split at hc)) <;> simp at hc
  case makeMap t r =>
    exfalso
    cases r <;> simp [cOp0] at hc
  case slice t x lo hi mx =>
    exfalso
    cases mx with
    | some m => simp [cOp0] at hc
    | none =>
      simp only [cOp0] at hc
      (repeat' (split at hc)) <;> first | (simp at hc; done) | (obtain ⟨x, _, hx⟩ := Option.map_eq_some_iff.1 hc; cases hx)
  all_goals
    exfalso
    simp only [cOp0] at hc
    first
    | (simp at hc; done)
    | ((repeat' (split at hc)) <;> first | (simp at hc; done) | (cases hc; done) | (obtain ⟨x, _, hx⟩ := Option.map_eq_some_iff.1 hc; cases hx))

theorem quiet_run {o : Oper} {op : VOp} {e : Env} {h : Heap} {v : PV} (hc : cOp P o = some op) (hl : hq.le h) (H : QuietV P hq e op v) : OpS P o e h (fun v' h' => v' = v ∧ h' = h) := by
  by_cases hp : op.pure = true
  · have H' : pok e hq op ∧ v = pval e hq op := by
      cases op <;> first | exact H.2 | simp [VOp.pure] at hp
    refine OpS.of_value fun g w a r he => ?_
    obtain ⟨x, e1, e2⟩ := pure_sound hc hp H'.1 (r.weaken hl) he
    exact ⟨x, v, g, w, h, e1, ⟨rfl, rfl⟩, by rw [H'.2]; exact e2, r, Evo.refl _ _ _⟩
  · cases op <;> simp only [VOp.pure, not_true_eq_false] at hp <;> simp only [QuietV] at H <;> try (exact (Bool.false_ne_true H.1).elim)
    case bslice z n zr ps =>
      obtain ⟨hok, rfl⟩ := H
      obtain ⟨t, ty, parts, ho, hu, h1, h2, h3, h4, h5, h6⟩ := cOp_bslice hc
      exact bslice_frozen ho hu h1 h2 h3 h4 h5 h6 hok ⟨rfl, rfl⟩
    case call f args =>
      have : StepW P e h (.call f args) (fun v' h' => v' = v ∧ h' = h) := PureCall.call (H.weaken hl) ⟨rfl, rfl⟩
      exact stepW_sound hc this
    case callv f args =>
      have : StepW P e h (.callv f args) (fun v' h' => v' = v ∧ h' = h) := by
        simp only [StepW]
        split at H
        · rename_i hpv
          rw [hpv]
          exact PureCall.call (K := fun v' h' => v' = v ∧ h' = h) (PureCall.weaken hl H) ⟨rfl, rfl⟩
        · exact H.elim
      exact stepW_sound hc this

/-- Every row of h0 is there, with cells as many as before to an element. -/
def Shp (h0 h : Heap) : Prop := ∀ id fz z es, h0.get id = some (.arr fz z es) → ∃ fz' es', h.get id = some (.arr fz' z es')
def VOp.isIaddr : VOp → Bool
  | .iaddr .. => true
  | _ => false
/-- What the operation asks of the heap that it looks at. -/
def QOk (op : VOp) (h0 h : Heap) : Prop := h0.le h ∨ (op.isIaddr = true ∧ Shp h0 h)
theorem quiet_run2 {o : Oper} {op : VOp} {e : Env} {h : Heap} {v : PV} (hc : cOp P o = some op) (hl : QOk op hq h) (H : QuietV P hq e op v) : OpS P o e h (fun v' h' => v' = v ∧ h' = h) := by
  rcases hl with hl | ⟨hi, hl⟩
  · exact quiet_run hc hl H
  · cases op <;> simp only [VOp.isIaddr, Bool.false_eq_true] at hi
    rename_i z a i
    obtain ⟨_, hok, hv⟩ := H
    have hok' : pok e h (.iaddr z a i) := by
      obtain ⟨k1, k2, k3, k4⟩ := hok
      refine ⟨k1, k2, k3, ?_⟩
      split at k4
      · exact k4
      · rename_i id off len hp
        split at k4
        · rename_i fz z' es hg
          obtain ⟨fz', es', hg'⟩ := hl id fz z' es hg
          simp only [hg']; exact k4
        · exact k4.elim
      · exact k4.elim
    refine OpS.of_value fun g w act r he => ?_
    obtain ⟨x, e1, e2⟩ := pure_sound hc rfl hok' r he
    exact ⟨x, v, g, w, h, e1, ⟨rfl, rfl⟩, by rw [hv]; exact e2, r, Evo.refl _ _ _⟩
/-- Whatever order is picked from here on. -/
def AAny (P : Program) (ops : Array Oper) (q : List VOper) (hqf : Nat → Heap) (Z : Nat → Heap → Heap → Prop) (E : List Nat) (K : Env → Heap → Prop) : Nat → Array Bool → Env → Heap → Prop
  | 0, listed, e, h => Region.ready .any ops listed = [] ∧ K e h
  | n + 1, listed, e, h => (Region.ready .any ops listed = [] → K e h) ∧ ∀ i ∈ Region.ready .any ops listed, ∀ o, q[i]? = some o → AStep P hqf Z E i o e h (AAny P ops q hqf Z E K n (listed.setIfInBounds i true))
theorem AAny.inv {K : Env → Heap → Prop} (hK : Inv K) (hc : ∀ o ∈ q, o.op.closed = true) : ∀ (n : Nat) (listed : Array Bool), Inv (AAny P ops q hqf Z E K n listed)
  | 0, listed => fun e e' h hee H => ⟨H.1, hK _ _ _ hee H.2⟩
  | n + 1, listed => fun e e' h hee H => ⟨fun h0 => hK _ _ _ hee (H.1 h0), fun i hi o ho => AStep.inv (hc o (List.mem_of_getElem? ho)) (AAny.inv hK hc n _) e e' h hee (H.2 i hi o ho)⟩

theorem behind_ready {listed : Array Bool} {i j : Nat} (hj : j ∈ Region.ready .any ops listed) (hi : listed.getD i true = false) : ∀ f, behindB ops listed f i j = false
  | 0 => rfl
  | f + 1 => by
    obtain ⟨_, goj, hgoj, hall⟩ := mem_ready.1 hj
    simp only [behindB, hgoj]
    rw [Bool.eq_false_iff]
    intro hh
    rw [Array.any_eq_true'] at hh
    obtain ⟨x, hx, hxx⟩ := hh
    simp only [Bool.and_eq_true, Bool.or_eq_true, beq_iff_eq, Bool.not_eq_true'] at hxx
    have h1 := hall x hx hxx.1
    have h2 : listed.getD x.on true = true := by
      rcases Nat.lt_or_ge x.on listed.size with h' | h'
      · simp [h'] at h1; simp [h', h1]
      · simp [Array.getElem?_eq_none h'] at h1
    rcases hxx.2 with h3 | ⟨h3, _⟩
    · rw [h3] at h2; rw [h2] at hi; cases hi
    · rw [h2] at h3; cases h3
theorem behind_mono {listed : Array Bool} {i j : Nat} (hj : ∀ f, behindB ops listed f i j = false) : ∀ (f k : Nat), behindB ops listed f i k = true → behindB ops (listed.setIfInBounds j true) f i k = true
  | 0, k, h => by cases h
  | f + 1, k, h => by
    simp only [behindB] at h ⊢
    split at h
    · rw [Array.any_eq_true'] at h ⊢
      obtain ⟨x, hx, hxx⟩ := h
      refine ⟨x, hx, ?_⟩
      simp only [Bool.and_eq_true, Bool.or_eq_true, beq_iff_eq, Bool.not_eq_true'] at hxx ⊢
      refine ⟨hxx.1, ?_⟩
      rcases hxx.2 with h3 | ⟨h3, h4⟩
      · exact .inl h3
      · right
        have hne : j ≠ x.on := by rintro rfl; rw [hj f] at h4; cases h4
        exact ⟨by rw [getD_set_ne true hne]; exact h3, behind_mono hj f x.on h4⟩
    · cases h

theorem AAny.first {K : Env → Heap → Prop} (hK : Inv K) (hc : ∀ o ∈ q, o.op.closed = true) (hlen : ops.size = q.length) {i : Nat} {oi : VOper} (hi : q[i]? = some oi) :
    ∀ (fuel : Nat) (listed : Array Bool) (e : Env) (h : Heap),
      (∀ (j : Nat) (oj : VOper) (goj : Oper), q[j]? = some oj → ops[j]? = some goj → j ≠ i → listed.getD j true = false → behindB ops listed ops.size i j = false →
        oi.apart oj = true ∧ ¬ (i ∈ E ∧ j ∈ E) ∧ (i ∈ E → oi.op.simple = true ∧ oj.op.det = true)) →
      i ∈ Region.ready .any ops listed → AStep P hqf Z E i oi e h (AAny P ops q hqf Z E K fuel (listed.setIfInBounds i true)) → AAny P ops q hqf Z E K (fuel + 1) listed e h := by
  intro fuel
  induction fuel with
  | zero =>
    intro listed e h hfree hr H
    refine ⟨fun h0 => (by rw [h0] at hr; cases hr), fun j hj o ho => ?_⟩
    by_cases hji : j = i
    · subst hji; rw [hi] at ho; simp only [Option.some.injEq] at ho; subst ho; exact H
    · exfalso
      -- the step's continuation says that nothing is ready; but j still is
      have hnr : Region.ready .any ops (listed.setIfInBounds i true) ≠ [] := by
        intro h0
        have := ready_mono hj hji
        rw [h0] at this; cases this
      obtain ⟨hjun, goj, hgoj, hall⟩ := mem_ready.1 hj
      have hbr := behind_ready hj (mem_ready.1 hr).1
      have hnot := hbr ops.size
      obtain ⟨f1, f2, f3⟩ := hfree j o goj ho hgoj hji hjun hnot
      apply hnr
      by_cases hiE : i ∈ E
      · exact StepW.out (K := fun _ _ => True) (f3 hiE).1 (((AStep_E hiE).1 H).2.mono fun v h' k => ⟨k.2.1, trivial⟩)
      · obtain ⟨c, _, v, _, k⟩ := (AStep_q hiE).1 H
        exact k.1
  | succ fuel ih =>
    intro listed e h hfree hr H
    refine ⟨fun h0 => (by rw [h0] at hr; cases hr), fun j hj oj hoj => ?_⟩
    by_cases hji : j = i
    · subst hji; rw [hi] at hoj; simp only [Option.some.injEq] at hoj; subst hoj; exact H
    · obtain ⟨hjun, goj, hgoj, hall⟩ := mem_ready.1 hj
      have hbr := behind_ready hj (mem_ready.1 hr).1
      have hnot := hbr ops.size
      obtain ⟨f1, f2, f3⟩ := hfree j oj goj hoj hgoj hji hjun hnot
      have H2 : AStep P hqf Z E i oi e h (fun e1 h1 => AStep P hqf Z E j oj e1 h1 (AAny P ops q hqf Z E K fuel ((listed.setIfInBounds i true).setIfInBounds j true))) :=
        H.mono fun e1 h1 k => k.2 j (ready_mono hj hji) oj hoj
      have H3 := AStep.swap (AAny.inv hK hc fuel _) f1 (hc oi (List.mem_of_getElem? hi)) (hc oj (List.mem_of_getElem? hoj)) f2 f3 H2
      have hfree' : ∀ (k : Nat) (ok : VOper) (gok : Oper), q[k]? = some ok → ops[k]? = some gok → k ≠ i → (listed.setIfInBounds j true).getD k true = false → behindB ops (listed.setIfInBounds j true) ops.size i k = false →
          oi.apart ok = true ∧ ¬ (i ∈ E ∧ k ∈ E) ∧ (i ∈ E → oi.op.simple = true ∧ ok.op.det = true) := fun k ok gok hk hgk hki hun hno => by
        have hno' : behindB ops listed ops.size i k = false := by
          cases hb : behindB ops listed ops.size i k with
          | false => rfl
          | true => rw [behind_mono hbr _ _ hb] at hno; cases hno
        refine hfree k ok gok hk hgk hki ?_ hno'
        by_cases hjk : j = k
        · subst hjk; exact hjun
        · rw [getD_set_ne true hjk] at hun; exact hun
      refine AStep.mono (fun e1 h1 k => ?_) H3
      refine ih (listed.setIfInBounds j true) e1 h1 hfree' (ready_mono hr (Ne.symm hji)) ?_
      rw [Array.setIfInBounds_comm _ _ hji]
      exact k

/-- Where the abstract states of every order are right, so is every order. -/
theorem any_sound {K : Env → Heap → Prop} {Q : Exit → Act → World → Prop} {g0 : Gh} {w0 : World} {h0 : Heap} (hcq : cOpers P N ops ops.toList = some q) (I : Array Bool → Heap → Prop)
    (I1 : ∀ listed h i vo, I listed h → i ∈ Region.ready .any ops listed → i ∉ E → q[i]? = some vo → QOk vo.op (hqf i) h) (I2 : ∀ listed h i, I listed h → i ∈ Region.ready .any ops listed → i ∉ E → I (listed.setIfInBounds i true) h)
    (I3 : ∀ listed h i h', I listed h → i ∈ Region.ready .any ops listed → i ∈ E → Z i h h' → I (listed.setIfInBounds i true) h')
    (hQ : ∀ g w h a e, K e h → Rel g w h → EnvRep g a e → a.defers = [] → a.tmps.size = N → Evo g0 w0 h0 g w h → Q .normal a w) :
    ∀ (n : Nat) (listed : Array Bool) (e : Env) (h : Heap), AAny P ops q hqf Z E K n listed e h → I listed h →
      ∀ g w a, Rel g w h → EnvRep g a e → a.defers = [] → a.tmps.size = N → Evo g0 w0 h0 g w h → wpAny P .any ops Q n listed a w
  | 0, listed, e, h, H, hl, g, w, a, r, he, hd, hs, hev => ⟨H.1, hQ g w h a e H.2 r he hd hs hev⟩
  | n + 1, listed, e, h, H, hl, g, w, a, r, he, hd, hs, hev => by
    refine ⟨fun h0 => hQ g w h a e (H.1 h0) r he hd hs hev, fun i hi => ?_⟩
    obtain ⟨_, o, ho, _⟩ := mem_ready.1 hi
    obtain ⟨vo, h1, h2, h3, h4, h5⟩ := (cOpers_get hcq).2 i o (by simpa using ho)
    have H1 := H.2 i hi vo h1
    unfold wpOp
    rw [ho]
    simp only
    have hdlt : ∀ t, o.dst = some t → t < a.tmps.size := fun t ht => by rw [hs]; exact h5 t ht
    have next : ∀ (v : Value) (pv : PV) (g' : Gh) (w' : World) (h' : Heap), AAny P ops q hqf Z E K n (listed.setIfInBounds i true) (e.put o.dst pv) h' → I (listed.setIfInBounds i true) h' → Rep g' v pv → Rel g' w' h' → Evo g w h g' w' h' →
        wpAny P .any ops Q n (listed.setIfInBounds i true) (a.put o.dst v) w' := by
      intro v pv g' w' h' hk hl' hv hr hev'
      exact any_sound hcq I I1 I2 I3 hQ n _ _ _ hk hl' g' w' _ hr ((he.mono hev'.le).put hv hdlt) (by rw [(put_size a o.dst v).2]; exact hd) (by rw [(put_size a o.dst v).1]; exact hs) (hev.trans hev')
    by_cases hiE : i ∈ E
    · obtain ⟨k1, k2⟩ := (AStep_E hiE).1 H1
      rw [k1] at h4
      have hog : o.guard = none := by
        cases hg : o.guard with
        | none => rfl
        | some jw =>
          obtain ⟨j, want⟩ := jw
          rw [hg] at h4
          simp only [cGuard] at h4
          split at h4 <;> simp at h4
      simp only [Region.wanted, hog, if_true]
      left
      refine stepW_sound h2 k2 g w a _ Q r he ?_
      rintro v pv g' w' h' ⟨m1, m2⟩ m3 m4 m5
      rw [h3] at m2
      exact next v pv g' w' h' m2 (I3 listed h i h' hl hi hiE m1) m3 m4 m5
    · obtain ⟨c, k1, v, k2, k3⟩ := (AStep_q hiE).1 H1
      rw [h3] at k3
      have hw : Region.wanted o (yielded ops a.tmps) = c := by
        unfold gOf at k1
        cases hg : o.guard with
        | none =>
          rw [hg] at h4
          simp only [cGuard, Option.some.injEq] at h4
          rw [← h4] at k1
          simp only at k1
          simp [Region.wanted, hg, k1]
        | some jw =>
          obtain ⟨j, want⟩ := jw
          rw [hg] at h4
          simp only [cGuard] at h4
          split at h4
          · rename_i d hdd
            simp only [Option.some.injEq] at h4
            rw [← h4] at k1
            simp only at k1
            simp only [Region.wanted, hg]
            exact yielded_of he hdd k1
          · cases h4
      rw [hw]
      cases c
      · simp only [Bool.false_eq_true, if_false]
        exact next Go.undef .undef g w h (by simpa [gd] using k3) (I2 listed h i hl hi hiE) .undef r (Evo.refl _ _ _)
      · simp only [if_true]
        left
        refine quiet_run2 h2 (I1 listed h i vo hl hi hiE h1) (k2 rfl) g w a _ Q r he ?_
        rintro v' pv g' w' h' ⟨rfl, rfl⟩ m3 m4 m5
        exact next v' pv g' w' h' (by simpa [gd] using k3) (I2 listed h' i hl hi hiE) m3 m4 m5

/-- THE LEXICAL WALK. -/
def dok (e : Env) (hq : Heap) : VOp → Prop
  | .bslice z n _ ps => elemsOk e z n ps
  | op => pok e hq op
def QW (P : Program) (hq : Heap) (e : Env) (op : VOp) (c : Bool) (K : PV → Prop) : Prop :=
  match op.det with
  | true => (c = true → dok e hq op) ∧ K (gd c (dval e hq op))
  | false => ∃ v, (c = true → QuietV P hq e op v) ∧ K (gd c v)
def DrawW (P : Program) (hq : Heap) : List VOper → (Env → Heap → Prop) → Env → Heap → Prop
  | [], K, e, h => K e h
  | o :: r, K, e, h => match o.op.simple, o.guard with
    | true, none => StepW P e h o.op (fun v h' => hq.le h' ∧ DrawW P hq r K (e.put o.dst v) h')
    | true, some _ => False
    | false, none => QW P hq e o.op true (fun v => DrawW P hq r K (e.put o.dst v) h)
    | false, some (d, want) => (match guardOf want (e.get d) with
      | some c => QW P hq e o.op c (fun v => DrawW P hq r K (e.put o.dst v) h)
      | none => False)
theorem det_quiet {e : Env} {op : VOp} (hd : op.det = true) (h : dok e hq op) : QuietV P hq e op (dval e hq op) := by
  cases op <;> simp only [VOp.det, VOp.pure] at hd <;> first | exact ⟨rfl, h, rfl⟩ | exact ⟨h, rfl⟩ | cases hd

/-- The same, where each operation has the heap that it looks at. -/
def DrawG (P : Program) (hqf : Nat → Heap) (Z : Nat → Heap → Heap → Prop) : Nat → List VOper → (Env → Heap → Prop) → Env → Heap → Prop
  | _, [], K, e, h => K e h
  | k, o :: r, K, e, h => match o.op.simple, o.guard with
    | true, none => StepW P e h o.op (fun v h' => Z k h h' ∧ DrawG P hqf Z (k + 1) r K (e.put o.dst v) h')
    | true, some _ => False
    | false, none => QW P (hqf k) e o.op true (fun v => DrawG P hqf Z (k + 1) r K (e.put o.dst v) h)
    | false, some (d, want) => (match guardOf want (e.get d) with
      | some c => QW P (hqf k) e o.op c (fun v => DrawG P hqf Z (k + 1) r K (e.put o.dst v) h)
      | none => False)
theorem DrawW.toG {P : Program} {hq : Heap} {K : Env → Heap → Prop} : ∀ {q : List VOper} {k : Nat} {e : Env} {h : Heap}, DrawW P hq q K e h → DrawG P (fun _ => hq) (fun _ _ h' => hq.le h') k q K e h
  | [], _, _, _, H => H
  | o :: r, k, e, h, H => by
    have qm : ∀ {c : Bool} {K1 K2 : PV → Prop}, (∀ v, K1 v → K2 v) → QW P hq e o.op c K1 → QW P hq e o.op c K2 := by
      intro c K1 K2 hk H
      unfold QW at H ⊢
      split at H
      · exact ⟨H.1, hk _ H.2⟩
      · obtain ⟨v, v1, v2⟩ := H
        exact ⟨v, v1, hk _ v2⟩
    simp only [DrawW] at H
    simp only [DrawG]
    split at H
    · exact H.mono fun v h' kk => ⟨kk.1, DrawW.toG kk.2⟩
    · exact H.elim
    · exact qm (fun v hv => DrawW.toG hv) H
    · split at H
      · exact qm (fun v hv => DrawW.toG hv) H
      · exact H.elim
def effIdx (q : List VOper) : List Nat := (List.range q.length).filter (effAt q)
theorem lex_sound {K : Env → Heap → Prop} (hK : Inv K) (hlen : ops.size = q.length) : ∀ (l : List VOper) (k : Nat) (listed : Array Bool) (e : Env) (h : Heap), (∀ j, l[j]? = q[k + j]?) →
    drawB ops q l.length k listed = true → (∀ o ∈ q, o.op.closed = true) → DrawG P hqf Z k l K e h → AAny P ops q hqf Z (effIdx q) K l.length listed e h
  | [], _, listed, e, h, _, hB, _, H => ⟨by simpa [drawB] using hB, H⟩
  | o :: l, k, listed, e, h, hl, hB, hc, H => by
    have h0 : q[k]? = some o := by simpa using (hl 0).symm
    have hkl : k < q.length := (List.getElem?_eq_some_iff.1 h0).1
    simp only [List.length_cons, drawB, Bool.and_eq_true] at hB
    obtain ⟨⟨⟨hr, hf⟩, _⟩, hB'⟩ := hB
    have hl' : ∀ j, l[j]? = q[(k + 1) + j]? := fun j => by have := hl (j + 1); simpa [Nat.add_assoc, Nat.add_comm 1 j] using this
    have hE : k ∈ effIdx q ↔ o.op.simple = true := by
      simp only [effIdx, List.mem_filter, List.mem_range, effAt, h0]
      exact ⟨fun h => h.2, fun h => ⟨hkl, h⟩⟩
    have hEj : ∀ (j : Nat) (oj : VOper), q[j]? = some oj → (j ∈ effIdx q ↔ oj.op.simple = true) := by
      intro j oj hj
      have hjl : j < q.length := (List.getElem?_eq_some_iff.1 hj).1
      simp only [effIdx, List.mem_filter, List.mem_range, effAt, hj]
      exact ⟨fun h => h.2, fun h => ⟨hjl, h⟩⟩
    refine AAny.first hK hc hlen h0 l.length listed e h ?_ (by simpa using hr) ?_
    · intro j oj goj hj hgj hjk hun hno
      have hjl : j < ops.size := (Array.getElem?_eq_some_iff.1 hgj).1
      simp only [freeB, List.all_eq_true, List.mem_range] at hf
      have hfj := hf j hjl
      rw [h0, hj, hun] at hfj
      simp only [hno, Bool.or_false, Bool.or_eq_true, beq_iff_eq, Bool.and_eq_true, Bool.not_eq_true', Bool.and_eq_false_iff] at hfj
      rcases hfj with hfj | hfj
      · exact absurd hfj hjk
      · obtain ⟨⟨g1, g2⟩, g3⟩ := hfj
        refine ⟨g1, fun ⟨x1, x2⟩ => ?_, fun x1 => ?_⟩
        · rw [hE] at x1; rw [hEj j oj hj] at x2
          rcases g2 with g2 | g2
          · rw [x1] at g2; cases g2
          · rw [x2] at g2; cases g2
        · have x1' := hE.1 x1
          refine ⟨x1', ?_⟩
          rcases g3 with g3 | g3
          · rw [x1'] at g3; cases g3
          · exact g3
    · have ih : ∀ e' h', DrawG P hqf Z (k + 1) l K e' h' → AAny P ops q hqf Z (effIdx q) K l.length (listed.setIfInBounds k true) e' h' :=
        fun e' h' H' => lex_sound hK hlen l (k + 1) _ e' h' hl' hB' hc H'
      have hq2 : ∀ c, gOf o e c → QW P (hqf k) e o.op c (fun v => DrawG P hqf Z (k + 1) l K (e.put o.dst v) h) → o.op.simple = false → AStep P hqf Z (effIdx q) k o e h (AAny P ops q hqf Z (effIdx q) K l.length (listed.setIfInBounds k true)) := by
        intro c hg hQ hs
        have hnE : k ∉ effIdx q := fun hh => by have := hE.1 hh; rw [hs] at this; cases this
        refine (AStep_q hnE).2 ⟨c, hg, ?_⟩
        unfold QW at hQ
        split at hQ
        · rename_i hd
          exact ⟨_, fun hh => det_quiet hd (hQ.1 hh), ih _ _ hQ.2⟩
        · obtain ⟨v, v1, v2⟩ := hQ
          exact ⟨v, v1, ih _ _ v2⟩
      simp only [DrawG] at H
      split at H
      · rename_i hs hg
        exact (AStep_E (hE.2 hs)).2 ⟨hg, H.mono fun v h' kk => ⟨kk.1, ih _ _ kk.2⟩⟩
      · exact H.elim
      · rename_i hs hg
        exact hq2 true (by simp [gOf, hg]) H hs
      · rename_i hs hg
        split at H
        · rename_i c hgc
          exact hq2 c (by simp [gOf, hg, hgc]) H hs
        · exact H.elim

theorem keep_eqv {e e' : Env} (h : e.eqv e') : ∀ (l : List Nat), Env.keep l e = Env.keep l e'
  | [] => rfl
  | t :: l => by simp only [Env.keep]; rw [h t, keep_eqv h l]

theorem VW_draw {Q : Exit → Env → Heap → Prop} {e : Env} {h : Heap} (l : List Nat) (hq : Heap) (hl : hq.le h) (H : DrawW P hq q (fun e' h' => Q .normal (Env.keep l e') h') e h) : VW P N (.region q true) Q e h := by
  intro c hc
  cases c
  case region id ops draw =>
    obtain ⟨p, h3, h' | h' | h'⟩ := cCode_region hc
    · obtain ⟨_, h'⟩ := h'
      simp at h'
    · obtain ⟨hd, hB, h' | h'⟩ := h'
      · obtain ⟨_, h'⟩ := h'
        simp only [VC.region.injEq, and_true] at h'
        subst h'
        subst hd
        simp only [Bool.and_eq_true] at hB
        obtain ⟨hm, hB⟩ := hB
        obtain ⟨hlen, _⟩ := cOpers_get h3
        rw [Array.length_toList] at hlen
        have hcl : ∀ o ∈ q, o.op.closed = true := by
          cases q with
          | nil => intro o ho; cases ho
          | cons x xs =>
            rw [hlen] at hB
            simp only [List.length_cons, drawB, Bool.and_eq_true] at hB
            exact fun o ho => List.all_eq_true.1 hB.1.2 o ho
        intro g w a r he hd hs
        refine wp_region_any hm ?_
        have hany := lex_sound (P := P) (K := fun e' h' => Q .normal (Env.keep l e') h') (fun e1 e2 h1 hee hk => by have hk' : Q .normal (Env.keep l e1) h1 := hk; rw [keep_eqv hee l] at hk'; exact hk') hlen q 0 (Array.replicate ops.size false) e h (fun j => by simp) (by rw [← hlen]; exact hB) hcl H.toG
        rw [← hlen] at hany
        exact any_sound (N := N) h3 (fun _ h => hq.le h) (fun _ _ _ _ hi _ _ _ => .inl hi) (fun _ _ _ hi _ _ => hi) (fun _ _ _ _ _ _ _ hz => hz) (Q := fun x a' w' => ∃ g' e' h', Q x e' h' ∧ Rel g' w' h' ∧ EnvRep g' a' e' ∧ a'.defers = [] ∧ a'.tmps.size = N ∧ Evo g w h g' w' h') (g0 := g) (w0 := w) (h0 := h)
          (fun g' w' h' a' e' k1 k2 k3 k4 k5 k6 => ⟨g', _, h', k1, k2, k3.keep l, k4, k5, k6⟩) _ _ e h hany hl g _ a (r.drew _) he hd hs (Evo.drew _ _ _ _)
      · cases h'
    · obtain ⟨c, h'⟩ := h'; cases h'
  all_goals
    simp only [cCode, Option.map_eq_some_iff] at hc
    first
    | (simp at hc; done)
    | (split at hc <;> simp at hc)
/-- Some operations write blocks that are there; what waits for no writer may look at all of the heap. -/
theorem behind_listed {listed : Array Bool} (hdown : ∀ (j : Nat) (o : Oper), listed[j]? = some true → ops[j]? = some o → ∀ x ∈ o.after, Region.binds .any x = true → listed[x.on]? = some true) {i : Nat} :
    ∀ (f j : Nat), behindB ops (Array.replicate ops.size false) f i j = true → listed[j]? = some true → listed[i]? = some true
  | 0, _, h, _ => by cases h
  | f + 1, j, h, hj => by
    simp only [behindB] at h
    split at h
    · rename_i o ho
      rw [Array.any_eq_true'] at h
      obtain ⟨x, hx, hxx⟩ := h
      simp only [Bool.and_eq_true, Bool.or_eq_true, beq_iff_eq] at hxx
      have h1 := hdown j o hj ho x hx hxx.1
      rcases hxx.2 with h3 | ⟨_, h4⟩
      · rw [← h3]; exact h1
      · exact behind_listed hdown f x.on h4 h1
    · cases h
/-- The heap that the i-th operation looks at; what the i-th operation keeps. -/
def hq3 (q : List VOper) (late : List Bool) (big mid small : Heap) (i : Nat) : Heap :=
  if late.getD i false then big else if (match q[i]? with | some o => o.op.isIaddr | none => false) then mid else small
def zed3 (q : List VOper) (big mid small : Heap) (i : Nat) (h h' : Heap) : Prop := small.le h' ∧ (writesAt q i = false → big.le h → big.le h') ∧ (Shp mid h → Shp mid h')
theorem VW_draw2 {Q : Exit → Env → Heap → Prop} {e : Env} {h : Heap} {late : List Bool} (l : List Nat) (big mid small : Heap) (hl : big.le h) (hls : small.le h) (hm : Shp mid h)
    (H : DrawG P (hq3 q late big mid small) (zed3 q big mid small) 0 q (fun e' h' => Q .normal (Env.keep l e') h') e h) : VW P N (.draw2 q late) Q e h := by
  intro c hc
  cases c
  case region id ops draw =>
    obtain ⟨p, h3, h' | h' | h'⟩ := cCode_region hc
    · obtain ⟨_, h'⟩ := h'
      cases h'
    · obtain ⟨hd, hB, h' | h'⟩ := h'
      · obtain ⟨_, h'⟩ := h'
        cases h'
      · simp only [VC.draw2.injEq] at h'
        obtain ⟨h5, h6⟩ := h'
        subst h5
        subst hd
        simp only [Bool.and_eq_true] at hB
        obtain ⟨hmm, hB⟩ := hB
        have hm0 := hm
        obtain ⟨hlen, _⟩ := cOpers_get h3
        rw [Array.length_toList] at hlen
        have hcl : ∀ o ∈ q, o.op.closed = true := by
          cases q with
          | nil => intro o ho; cases ho
          | cons x xs =>
            rw [hlen] at hB
            simp only [List.length_cons, drawB, Bool.and_eq_true] at hB
            exact fun o ho => List.all_eq_true.1 hB.1.2 o ho
        have hlate : ∀ i, late.getD i false = true → ∀ j, writesAt q j = true → behindB ops (Array.replicate ops.size false) ops.size i j = true := by
          intro i hi j hj
          have hjl : j < ops.size := by
            unfold writesAt at hj
            split at hj
            · rename_i o ho; have := (List.getElem?_eq_some_iff.1 ho).1; omega
            · cases hj
          rw [h6] at hi
          simp only [lateL, List.getD_eq_getElem?_getD, List.getElem?_map] at hi
          cases hr : (List.range ops.size)[i]? with
          | none => rw [hr] at hi; simp at hi
          | some k =>
            rw [hr] at hi
            have hk : k = i := by
              obtain ⟨_, h9⟩ := List.getElem?_eq_some_iff.1 hr
              simpa using h9.symm
            subst hk
            simp only [Option.map_some, Option.getD_some, lateB, List.all_eq_true, List.mem_range] at hi
            have := hi j hjl
            simpa [hj] using this
        intro g w a r he hd hs
        refine wp_region_any hmm ?_
        have hany := lex_sound (P := P) (K := fun e' h' => Q .normal (Env.keep l e') h') (fun e1 e2 h1 hee hk => by have hk' : Q .normal (Env.keep l e1) h1 := hk; rw [keep_eqv hee l] at hk'; exact hk') hlen q 0 (Array.replicate ops.size false) e h (fun j => by simp) (by rw [← hlen]; exact hB) hcl H
        rw [← hlen] at hany
        have hset : ∀ (listed : Array Bool) (i j : Nat), (listed.setIfInBounds i true).getD j true = false → listed.getD j true = false ∧ i ≠ j := by
          intro listed i j hj
          by_cases hij : i = j
          · subst hij
            rcases Nat.lt_or_ge i listed.size with h' | h'
            · simp [Array.getD, h'] at hj
            · simp [Array.getD, Nat.not_lt.2 h'] at hj
          · rw [getD_set_ne true hij] at hj; exact ⟨hj, hij⟩
        have hdown : ∀ (listed : Array Bool) (i : Nat), i ∈ Region.ready .any ops listed → (∀ (j : Nat) (o : Oper), listed[j]? = some true → ops[j]? = some o → ∀ x ∈ o.after, Region.binds .any x = true → listed[x.on]? = some true) →
            ∀ (j : Nat) (o : Oper), (listed.setIfInBounds i true)[j]? = some true → ops[j]? = some o → ∀ x ∈ o.after, Region.binds .any x = true → (listed.setIfInBounds i true)[x.on]? = some true := by
          intro listed i hi i2 j o hj ho x hx hb
          have keep : ∀ (k : Nat), listed[k]? = some true → (listed.setIfInBounds i true)[k]? = some true := by
            intro k hk
            rw [Array.getElem?_setIfInBounds]
            split
            · rename_i hik; subst hik
              have := (Array.getElem?_eq_some_iff.1 hk).1
              simp [this]
            · exact hk
          by_cases hij : i = j
          · subst hij
            obtain ⟨_, o', ho', hall⟩ := mem_ready.1 hi
            rw [ho] at ho'; simp only [Option.some.injEq] at ho'; subst ho'
            refine keep _ ?_
            have h8 := hall x hx hb
            rcases Nat.lt_or_ge x.on listed.size with h7 | h7
            · simp [Array.getD, h7] at h8; simp [h7, h8]
            · simp [Array.getD, Nat.not_lt.2 h7] at h8
          · rw [Array.getElem?_setIfInBounds_ne hij] at hj
            exact keep _ (i2 j o hj ho x hx hb)
        refine any_sound (N := N) h3 (fun listed h => (small.le h ∧ listed.size = ops.size) ∧ (∀ (j : Nat) (o : Oper), listed[j]? = some true → ops[j]? = some o → ∀ x ∈ o.after, Region.binds .any x = true → listed[x.on]? = some true) ∧ ((∀ j, writesAt q j = true → listed.getD j true = false) → big.le h) ∧ Shp mid h) ?_ ?_ ?_ (Q := fun x a' w' => ∃ g' e' h', Q x e' h' ∧ Rel g' w' h' ∧ EnvRep g' a' e' ∧ a'.defers = [] ∧ a'.tmps.size = N ∧ Evo g w h g' w' h') (g0 := g) (w0 := w) (h0 := h)
          (fun g' w' h' a' e' k1 k2 k3 k4 k5 k6 => ⟨g', _, h', k1, k2, k3.keep l, k4, k5, k6⟩) _ _ e h hany ⟨⟨hls, by simp⟩, fun j o hj => by (simp [Array.getElem?_replicate] at hj), fun _ => hl, hm0⟩ g _ a (r.drew _) he hd hs (Evo.drew _ _ _ _)
        · rintro listed h' i vo ⟨⟨i1, i0⟩, i2, i3, i4⟩ hi _ hvo
          simp only [hq3, hvo]
          split
          · rename_i hli
            refine .inl (i3 fun j hj => ?_)
            have hb := hlate i hli j hj
            have hi0 := (mem_ready.1 hi).1
            have hjl' : j < ops.size := by
              unfold writesAt at hj
              split at hj
              · rename_i o ho; have := (List.getElem?_eq_some_iff.1 ho).1; omega
              · cases hj
            cases hjl : listed.getD j true with
            | false => rfl
            | true =>
              exfalso
              have hjs : listed[j]? = some true := by
                have h7 : j < listed.size := by omega
                simp [Array.getD, h7] at hjl; simp [h7, hjl]
              have := behind_listed i2 ops.size j hb hjs
              rcases Nat.lt_or_ge i listed.size with h7 | h7
              · simp [Array.getD, h7] at hi0; simp [h7, hi0] at this
              · simp [Array.getElem?_eq_none h7] at this
          · split
            · rename_i hia
              exact .inr ⟨hia, i4⟩
            · exact .inl i1
        · rintro listed h' i ⟨⟨i1, i0⟩, i2, i3, i4⟩ hi _
          exact ⟨⟨i1, by simpa using i0⟩, hdown listed i hi i2, (fun hw => i3 fun j hj => (hset listed i j (hw j hj)).1), i4⟩
        · rintro listed h' i h'' ⟨⟨i1, i0⟩, i2, i3, i4⟩ hi _ ⟨z1, z2, z3⟩
          refine ⟨⟨z1, by simpa using i0⟩, hdown listed i hi i2, (fun hw => ?_), z3 i4⟩
          refine z2 ?_ (i3 fun j hj => (hset listed i j (hw j hj)).1)
          cases hwi : writesAt q i with
          | false => rfl
          | true => exact absurd rfl (hset listed i i (hw i hwi)).2
    · obtain ⟨c, h'⟩ := h'; cases h'
  all_goals
    simp only [cCode, Option.map_eq_some_iff] at hc
    first
    | (simp at hc; done)
    | (split at hc <;> simp at hc)
/-- Nothing of the heap changes in the region: all of it may be looked at. -/
theorem VW_drawS {Q : Exit → Env → Heap → Prop} {e : Env} {h : Heap} (l : List Nat) (hl : h.le h) (H : DrawW P h q (fun e' h' => Q .normal (Env.keep l e') h') e h) : VW P N (.region q true) Q e h := VW_draw l h hl H
end
end Go.VM

