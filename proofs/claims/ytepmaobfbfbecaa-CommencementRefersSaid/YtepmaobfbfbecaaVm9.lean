/-
  The value machine, 9: one step is sound; regions; code; functions.
-/
import Derived.Test.YtepmaobfbfbecaaVm8
set_option linter.all false
namespace Go.VM
open Go

section
variable {P : Program} {o : Oper} {e : Env} {h : Heap} {K : PV → Heap → Prop}

theorem Rep.fn_inv {g : Gh} {v : Value} {f : Fn} {pf pc : List PV} (h : Rep g v (.fn f pf pc)) : ∃ fs cs, v = .func f fs cs ∧ Args g fs pf ∧ Args g cs pc := by
  cases h with
  | fn _ fs cs _ _ s1 s2 r1 r2 => exact ⟨fs, cs, rfl, ⟨s1, r1⟩, ⟨s2, r2⟩⟩
theorem Args.append {g : Gh} {x y : Array Value} {a b : List PV} (ha : Args g x a) (hb : Args g y b) : Args g (x ++ y) (a ++ b) := by
  refine ⟨by simp [ha.1, hb.1], fun j hj => ?_⟩
  by_cases hlt : j < a.length
  · have e1 : (x ++ y).getD j Go.undef = x.getD j Go.undef := by
      simp [Array.getD_eq_getD_getElem?, Array.getElem?_append_left (show j < x.size by rw [ha.1]; exact hlt)]
    have e2 : PV.nth (a ++ b) j = PV.nth a j := by simp [PV.nth, List.getD_eq_getElem?_getD, List.getElem?_append_left hlt]
    rw [e1, e2]; exact ha.2 j hlt
  · have e1 : (x ++ y).getD j Go.undef = y.getD (j - a.length) Go.undef := by
      rw [Array.getD_eq_getD_getElem?, Array.getElem?_append_right (by rw [ha.1]; omega), ha.1, Array.getD_eq_getD_getElem?]
    have e2 : PV.nth (a ++ b) j = PV.nth b (j - a.length) := by
      simp only [PV.nth, List.getD_eq_getElem?_getD]
      rw [List.getElem?_append_right (by omega)]
    rw [e1, e2]; exact hb.2 _ (by simp at hj; omega)
theorem src_rows {g : Gh} {w : World} (r : Rel g w h) {str : Bool} {z : Nat} {p : PV} {v : Value} (hv : Rep g v p) (hok : srcOk h str z p) : ∀ x ∈ srcRows h p, x.length = z := by
  intro x hx
  cases p <;> simp only [srcOk] at hok <;> simp only [srcRows, List.not_mem_nil] at hx
  case str s =>
    obtain ⟨_, rfl⟩ := hok
    simp only [List.mem_map] at hx
    obtain ⟨c, _, rfl⟩ := hx
    rfl
  case sl z' es =>
    obtain ⟨_, rfl⟩ := hok
    cases hv with
    | slE => cases hx
    | sl b o len cap z a es vs ha hl hc hz hm hr =>
      obtain ⟨k, hk, rfl⟩ := List.mem_iff_getElem.1 hx
      have := hz k (by omega)
      simpa [PV.row, List.getD_eq_getElem?_getD, hk] using this
  case own id off len =>
    obtain ⟨_, hok⟩ := hok
    split at hok
    case h_2 => exact hok.elim
    rename_i fz z' es hg
    obtain ⟨rfl, hle⟩ := hok
    simp only [hg] at hx
    have hx' : x ∈ es := List.mem_of_mem_drop (List.mem_of_mem_take hx)
    obtain ⟨k, hk, rfl⟩ := List.mem_iff_getElem.1 hx'
    rcases r.blk id _ hg with ⟨_, fz', z'', he⟩ | ⟨b, o, n, z'', _, _, _, hokk⟩
    · simp only [AB.arr.injEq] at he; obtain ⟨_, _, rfl⟩ := he; simp at hk
    · obtain ⟨rfl, hz, _⟩ := hokk
      have := hz k hk
      simpa [PV.row, List.getD_eq_getElem?_getD, hk] using this

theorem app_step {t u ty : TypeId} {i : TypeInfo} {d : TypeDesc} {zr : List PV} {str : Bool} {x y : Operand} {va vb : VA} (o : Oper) (type : TypeId) (hrunop : ∀ ρ : Operand → Value, execOp ρ o = (do pure (.value (← Builtin.append_ #[t, u] type #[ρ x, ρ y])) : Sem Next))
    (hx : cA x = some va) (hy : cA y = some vb) (ht : P.underlying t = some (.slice ty)) (hu : P.underlying u = some d) (hd : ∀ k, d ≠ .int k) (hi : P.info? ty = some i) (hzo : zeroOf P ty = some zr) (hzl : zr.length = i.size)
    (hs : StepW P e h (.app i.size i.bytes zr str va vb) K) : OpS P o e h K := by
  obtain ⟨h1, h2, h3, h4, h5⟩ := hs
  refine OpS.of_value fun g w a r he => ?_
  have hp := cA_rep he hx
  have hq := cA_rep he hy
  obtain ⟨v, w', g', e1, e3, e4, e5⟩ := app_sound (ty := type) ht hu hd hi hzo hzl r hp hq h1 h2 (src_rows r hq h2) h3 h4
  exact ⟨v, _, g', w', _, by rw [hrunop]; simp [e1], h5, e3, e4, e5⟩

theorem stepW_sound0 {vop : VOp} (hc : cOp0 P o = some vop) (hs : StepW P e h vop K) : OpS P o e h K := by
  by_cases hp : vop.pure = true
  · have hs' : pok e h vop ∧ K (pval e h vop) h := by
      cases vop <;> first | exact hs | simp [VOp.pure] at hp
    refine OpS.of_value fun g w a r he => ?_
    obtain ⟨v, e1, e2⟩ := pure_sound0 hc hp hs'.1 r he
    exact ⟨v, _, g, w, h, e1, hs'.2, e2, r, Evo.refl _ _ _⟩
  obtain ⟨dst, op, type, pos, after, guard⟩ := o
  cases op <;> simp only [cOp0] at hc
  case move x => obtain ⟨va, hx, rfl⟩ := map_some2 hc; simp [VOp.pure] at hp
  case assign x => obtain ⟨va, hx, rfl⟩ := map_some2 hc; simp [VOp.pure] at hp
  case pick c x y => split at hc <;> simp at hc; subst hc; simp [VOp.pure] at hp
  case alloc t =>
    obtain ⟨z, hz, rfl⟩ := map_some2 hc
    exact alloc_sound rfl hz hs
  case box t x =>
    split at hc
    · rename_i va n h1 h2
      simp only [Option.some.injEq] at hc; subst hc
      exact box_sound rfl h1 hs.1 hs.2
    · cases hc
  case build t parts =>
    split at hc
    · split at hc
      · simp only [Option.some.injEq] at hc; subst hc; simp [VOp.pure] at hp
      · cases hc
    · cases hc
  case buildSlice t n parts =>
    split at hc
    · rename_i ty hu
      split at hc
      · rename_i z zr ps h1 h2 h3
        split at hc
        · rename_i hcond
          simp only [Option.some.injEq] at hc; subst hc
          simp only [Bool.and_eq_true, decide_eq_true_eq, beq_iff_eq, bne_iff_ne, ne_eq] at hcond
          exact bslice_sound rfl hu h1 h2 h3 hcond.1.1 hcond.1.2 hcond.2 hs.1 hs.2
        · cases hc
      · cases hc
    · cases hc
  case load t x => split at hc <;> simp at hc; subst hc; simp [VOp.pure] at hp
  case store t x y =>
    split at hc
    · rename_i va vb s h1 h2 h3
      simp only [Option.some.injEq] at hc; subst hc
      exact store_sound rfl h1 h2 h3 hs.1 hs.2
    · cases hc
  case binOp op t x y yt =>
    split at hc
    · simp only [Option.some.injEq] at hc; subst hc; simp [VOp.pure] at hp
    · simp only [Option.some.injEq] at hc; subst hc; simp [VOp.pure] at hp
    · simp only [Option.some.injEq] at hc; subst hc; simp [VOp.pure] at hp
    · split at hc
      · split at hc
        · split at hc
          · simp only [Option.some.injEq] at hc; subst hc; simp [VOp.pure] at hp
          · cases hc
        · cases hc
      · split at hc
        · split at hc
          · simp only [Option.some.injEq] at hc; subst hc; simp [VOp.pure] at hp
          · cases hc
        · cases hc
      · cases hc
    · simp only [Option.some.injEq] at hc; subst hc; exact hs
  case unOp op t x => obtain ⟨va, hx, rfl⟩ := map_some2 hc; simp [VOp.pure] at hp
  case convert s d x =>
    split at hc
    · simp only [Option.some.injEq] at hc; subst hc; simp [VOp.pure] at hp
    · simp only [Option.some.injEq] at hc; subst hc; simp [VOp.pure] at hp
    · simp only [Option.some.injEq] at hc; subst hc; exact hs
  case makeFunc f x y => split at hc <;> simp at hc; subst hc; simp [VOp.pure] at hp
  case slice t x lo hi mx =>
    cases mx with
    | some m => simp at hc; subst hc; exact hs
    | none =>
      simp only at hc
      split at hc
      · simp only [Option.some.injEq] at hc; subst hc; simp [VOp.pure] at hp
      · obtain ⟨z, hz, rfl⟩ := map_some2 hc; simp [VOp.pure] at hp
      · cases hc
  case fieldAddr t x f =>
    split at hc
    · split at hc
      · split at hc
        · cases hc
        · simp only [Option.some.injEq] at hc; subst hc; simp [VOp.pure] at hp
      · cases hc
    · cases hc
  case field t x f =>
    split at hc
    · split at hc
      · simp only [Option.some.injEq] at hc; subst hc; simp [VOp.pure] at hp
      · cases hc
    · cases hc
  case indexAddr t x i =>
    split at hc
    · obtain ⟨z, hz, rfl⟩ := map_some2 hc; simp [VOp.pure] at hp
    · cases hc
  case index t x i => split at hc <;> simp at hc; subst hc; simp [VOp.pure] at hp
  case extract x i => obtain ⟨va, hx, rfl⟩ := map_some2 hc; simp [VOp.pure] at hp
  case call c =>
    obtain ⟨callee, args, argTypes⟩ := c
    have args2 : ∀ {x y : Operand}, args.toList = [x, y] → args = #[x, y] := fun hh => by rw [← Array.toArray_toList (xs := args), hh]
    have types2 : ∀ {x y : TypeId}, argTypes.toList = [x, y] → argTypes = #[x, y] := fun hh => by rw [← Array.toArray_toList (xs := argTypes), hh]
    unfold cCall at hc
    simp only at hc
    split at hc
    · split at hc
      · split at hc
        · simp only [Option.some.injEq] at hc; subst hc; simp [VOp.pure] at hp
        · simp only [Option.some.injEq] at hc; subst hc; simp [VOp.pure] at hp
        · simp only [Option.some.injEq] at hc; subst hc; simp [VOp.pure] at hp
        · cases hc
      · cases hc
    · split at hc
      case h_2 => cases hc
      rename_i x y t u hxy htu
      obtain rfl := args2 hxy
      obtain rfl := types2 htu
      split at hc
      · rename_i va vb ty ty' h1 h2 h3 h4
        split at hc
        · rename_i z zr hz hzr
          split at hc
          · rename_i hcond
            simp only [Bool.and_eq_true, beq_iff_eq] at hcond
            obtain ⟨i, hi, rfl⟩ := map_some2 hc
            have hzi : z = i.size := by simpa [szOf, hi] using hz.symm
            subst hzi
            exact app_step (d := .slice ty') _ type (fun ρ => by simp [execOp, resolve, invoke, builtin]) h1 h2 h3 h4 (fun k hk => by cases hk) hi hzr hcond.2 hs
          · cases hc
        · cases hc
      · rename_i va vb ty h1 h2 h3 h4
        split at hc
        · rename_i z zr hz hzr
          split at hc
          · rename_i hcond
            simp only [Bool.and_eq_true, beq_iff_eq] at hcond
            obtain ⟨i, hi, rfl⟩ := map_some2 hc
            have hzi : z = i.size := by simpa [szOf, hi] using hz.symm
            subst hzi
            exact app_step (d := .string) _ type (fun ρ => by simp [execOp, resolve, invoke, builtin]) h1 h2 h3 h4 (fun k hk => by cases hk) hi hzr hcond.2 hs
          · cases hc
        · cases hc
      · cases hc
    · obtain ⟨q, _, rfl⟩ := map_some2 hc; simp [VOp.pure] at hp
    · obtain ⟨q, _, rfl⟩ := map_some2 hc; simp [VOp.pure] at hp
    · split at hc
      · rename_i f hf
        obtain ⟨q, hq, rfl⟩ := map_some2 hc
        intro g w a next Q r he hn
        have ha := args_of he hq
        refine call_upon hs r ha ?_ hn
        simp [execOp, resolve, invoke, Act.eval, Deferred.ofValue, enter_run hf]
      · cases hc
    · split at hc
      · rename_i f hf
        obtain ⟨q, hq, rfl⟩ := map_some2 hc
        intro g w a next Q r he hn
        have ha := args_of he hq
        refine call_upon hs r ha ?_ hn
        simp [execOp, resolve, invoke, Act.eval, Deferred.ofValue, enter_run hf]
      · cases hc
    · split at hc
      · rename_i va q h1 hq
        simp only [Option.some.injEq] at hc; subst hc
        intro g w a next Q r he hn
        simp only [StepW] at hs
        have hf := cA_rep he h1
        split at hs
        case h_2 => exact hs.elim
        rename_i f first cap hpv
        rw [hpv] at hf
        have ha := args_of he hq
        obtain ⟨fs, cs, hv, a1, a2⟩ := hf.fn_inv
        have hargs := (a1.append ha).append a2
        refine call_upon hs r hargs ?_ hn
        simp only [execOp, resolve, hv, Deferred.ofValue, Sem.run_bind, Sem.run_pure, Result.andThen_ok, invoke]
        exact enter_run hs.1 _ _
      · cases hc
    · simp only [Option.some.injEq] at hc; subst hc; exact hs
  case makeMap t r =>
    cases r <;> simp only [Option.some.injEq] at hc <;> subst hc
    · exact mkmap_sound rfl hs
    · exact hs
  case lookup t m k ok =>
    split at hc
    · split at hc
      · simp only [Option.some.injEq] at hc; subst hc; simp [VOp.pure] at hp
      · simp only [Option.some.injEq] at hc; subst hc; exact hs
    · simp only [Option.some.injEq] at hc; subst hc; exact hs
  case mapUpdate t m k v =>
    split at hc
    · rename_i kt et va vb vc hu h1 h2 h3
      split at hc
      · rename_i kk h4
        simp only [Option.some.injEq] at hc; subst hc
        exact mapset_sound (.inl rfl) hu h4 h1 h2 h3 hs.1 hs.2.1 hs.2.2
      · simp only [Option.some.injEq] at hc; subst hc; exact hs
    · simp only [Option.some.injEq] at hc; subst hc; exact hs
  all_goals (simp only [Option.some.injEq] at hc; subst hc; exact hs)
theorem stepW_sound {vop : VOp} (hc : cOp P o = some vop) (hs : StepW P e h vop K) : OpS P o e h K := by
  unfold cOp at hc
  split at hc
  · rename_i vo hx
    simp only [Option.some.injEq] at hc; subst hc
    have hk := cX_ext hx
    cases vo <;> simp only [VOp.isX] at hk
    case px k l =>
      refine OpS.of_value fun g w a r he => ?_
      obtain ⟨v, e1, e2⟩ := px_sound (h := h) hx hs.1 he
      exact ⟨v, _, g, w, h, e1, hs.2, e2, r, Evo.refl _ _ _⟩
    case fx k l => exact fx_sound hx hs.1 hs.2
    case nd neg a => exact nd_sound hx hs
    case mapset kk m k v =>
      obtain ⟨dst, op, type, pos, after, guard⟩ := o
      cases op
      case insert t mm kk' vv =>
        simp only [cX] at hx
        split at hx
        · rename_i kt et va vb vc hu h1 h2 h3
          obtain ⟨kk0, h4, hq⟩ := map_some2 hx
          simp only [VOp.mapset.injEq] at hq
          obtain ⟨rfl, rfl, rfl, rfl⟩ := hq
          exact mapset_sound (.inr rfl) hu h4 h1 h2 h3 hs.1 hs.2.1 hs.2.2
        · cases hx
      case nilCheck x => simp only [cX] at hx; obtain ⟨z, _, hq⟩ := map_some2 hx; cases hq
      case unOp uop t x => cases uop <;> simp only [cX] at hx <;> first | (cases hx; done) | (obtain ⟨z, _, hq⟩ := map_some2 hx; cases hq)
      case slice t x lo hi mx =>
        cases lo <;> cases hi <;> cases mx <;> simp only [cX] at hx <;> first
          | (cases hx; done)
          | ((repeat' (split at hx)) <;> first | (cases hx; done) | (obtain ⟨z, _, hq⟩ := map_some2 hx; cases hq))
      case binOp op t x y yt =>
        exfalso
        cases op <;> simp only [cX] at hx <;> first
          | (cases hx; done)
          | (split at hx <;> first | (cases hx; done) | (obtain ⟨z, _, hq⟩ := map_some2 hx; cases hq))
      case buildSlice t n parts =>
        exfalso
        simp only [cX] at hx
        (repeat' (split at hx)) <;> simp at hx
      case call c =>
        exfalso
        simp only [cX, cCallX] at hx
        (repeat' (split at hx)) <;> simp at hx
      all_goals (simp only [cX] at hx; cases hx)
  · exact stepW_sound0 hc hs
end
end Go.VM

