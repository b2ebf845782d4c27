import Derived.Test.YthkbdabfjfffjaaGreatDoorVmE
import Derived.SizedLaws
set_option linter.all false
namespace Go.VM
open Go
theorem reach_sl {H : Type} {P : Program} {ts : List TypeId} {ds : List (DataW H)} (hz : (DataW.weightsEach P ts ds).all (· ≤ reachBytes) = true) (j : Nat) {t e : TypeId} {d : DataW H} (ht : ts[j]? = some t) (hd : ds[j]? = some d)
    (hu:P.underlying t = some (.slice e)) {n:Nat} (hn:P.bytesOf e = n) {W:World} {en:TypeId × Value → H} {base:Nat} {spare:Nat → Bool} {held:Bool} {v:Value} {ps:List MemPlace} (h:DataW.Trod en P W base spare held t v d ps)
    (hc:v.cells = #[v]) {g:Gh} {z:Nat} {es:List (List PV)} (hrep:Rep g v (.sl z es)):es.length * n ≤ 140737488351232:=by
  obtain ⟨fuel,hx⟩:=h
  rw [hc] at hx
  rcases DataW.trod_slice hu hx with ⟨hcs,hxx⟩ | ⟨a,len,cap,elems,rest,m,hm,hcs,hxx,hb,hlc,hcap,hel,_⟩
  · have hv:v = .slice none 0 0:=by simpa using hcs
    subst hv
    cases hrep
    simp
  · have hv:v = .slice (some a) len cap:=by simpa using hcs
    subst hv
    have hdd:d = .slice (elems.map (·.1)) (rest.map (·.1)):=congrArg Prod.fst hxx
    subst hdd
    have h1:=sized_slice hz ht hd hu
    rw [hn] at h1
    have h2:es.length ≤ len:=by
      cases hrep with
      | slE=>simp
      | sl _ _ _ _ _ _ _ _ _ hl=>omega
    have h3:es.length * n ≤ (elems.length + rest.length) * n:=Nat.mul_le_mul_right _ (by omega)
    have h4:(elems.length + rest.length) * n ≤ reachBytes:=by simpa using h1
    have h5:reachBytes = 140737488351232:=rfl
    omega
theorem View.locV {h:Heap} {id i off z:Nat} {fz:Bool} {es:List (List PV)} {q:List PV} (hg:h.get id = some (.arr fz z es)) (hi:i < es.length) (hl:q.length + off ≤ z) (hv:∀ j,j < q.length → View h (PV.nth (PV.row es i) (off + j)) (PV.nth q j)):View h (.loc id i off) (.ro q):=by
  intro g w v r hr
  cases hr with
  | loc _ _ _ b o n z' a hb ha =>
    subst ha
    rcases r.blk id _ hg with ⟨hb0,_⟩ | ⟨b',o',n',z'',hb',hlt,hlive,hok⟩
    · rw [hb] at hb0; cases hb0
    · rw [hb] at hb'
      simp only [Option.some.injEq,Prod.mk.injEq] at hb'
      obtain ⟨rfl,rfl,rfl,rfl⟩:=hb'
      obtain ⟨rfl,hz,hle',c,ty,h1,h2,h3⟩:=hok
      refine .ro b (o + i * z + off) _ _ (fun j=>c.getD (o + i * z + (off + j)) Go.undef) rfl (fun j hj=>?_) (fun j hj=>?_)
      · obtain ⟨e1,e2,e3⟩:=h3 i (off + j) hi (by omega)
        rw [show o + i * z + off + j = o + i * z + (off + j) by omega]
        cases fz
        · have hin : o + i * z + (off + j) < c.size := by
            have:=Zcl (n:=es.length) (z:=z) hi (show off + j < z by omega)
            omega
          exact frzM_new ((hlive rfl).1 _) hg hb rfl (by simp [World.cell?,h1,hin,Array.getD]) e1
        · exact frzM_old (e3 rfl)
      · obtain ⟨e1,e2,e3⟩:=h3 i (off + j) hi (by omega)
        exact hv j hj g w _ r e2
theorem View.loc {h:Heap} {id i z:Nat} {fz:Bool} {es:List (List PV)} {q:List PV} (hg:h.get id = some (.arr fz z es)) (hi:i < es.length) (hq:PV.row es i = q) (hl:q.length ≤ z):View h (.loc id i 0) (.ro q) :=
  View.locV hg hi (by omega) (fun j hj=>by rw [hq,Nat.zero_add]; exact View.refl _ _)
theorem View.own_all {h:Heap} {id z n:Nat} {fz:Bool} {es:List (List PV)} (hg:h.get id = some (.arr fz z es)) (hn:n = es.length):View h (.own id 0 n) (.sl z es):=by
  have hv:=View.own (off:=0) (len:=n) hg (by omega)
  rw [List.drop_zero,hn,List.take_length] at hv
  rw [hn]; exact hv
theorem View.fn {h:Heap} {f:Fn} {pf pc qf qc:List PV} (h1:pf.length = qf.length) (h2:pc.length = qc.length) (hf:∀ j,j < qf.length → View h (PV.nth pf j) (PV.nth qf j)) (hc:∀ j,j < qc.length → View h (PV.nth pc j) (PV.nth qc j)):View h (.fn f pf pc) (.fn f qf qc):=by
  intro g w v r hr
  cases hr with
  | fn _ fs cs _ _ s1 s2 r1 r2=>exact .fn f fs cs qf qc (by omega) (by omega) (fun j hj=>hf j hj g w _ r (r1 j (by omega))) (fun j hj=>hc j hj g w _ r (r2 j (by omega)))
theorem View.agg {h:Heap} {l q:List PV} (hl:l.length = q.length) (hv:∀ j,j < q.length → View h (PV.nth l j) (PV.nth q j)):View h (.agg l) (.agg q):=by
  intro g w v r hr
  obtain ⟨vs,rfl,hs,h1,hrr⟩:=hr.agg_inv
  exact .agg _ _ (by omega) (fun j hj=>h1 j (by omega)) (fun j hj=>hv j hj g w _ r (hrr j (by omega)))
theorem View.any (h:Heap) (r:PV):View h r .any:=fun _ _ v _ _=>.any v
def EView (h:Heap) (e:Env):Env → Prop
  | []=>True
  | (k,p) :: r=>View h (e.get k) p ∧ EView h e r
theorem EView.rep {g:Gh} {w:World} {h:Heap} (r:Rel g w h) {a:Act} {e:Env} (he:Zcf g a e):∀ {e':Env},EView h e e' → Zcf (frz g w h) a e'
  | [],_=>fun _=>.any _
  | (k,p) :: q,hv=>fun t=>by
    by_cases e1:k = t
    · subst e1
      simp only [Env.get,if_true]
      exact hv.1 g w _ r (he k)
    · simp only [Env.get,if_neg e1]
      exact EView.rep r he hv.2 t
section
variable {P : Program} {N : Nat} {Q : Exit → Env → Heap → Prop} {e : Env} {h : Heap}
theorem VW_freeze {c:VC} (e':Env) (hv:EView h e e') (H:VW P N c Q e' ⟨[],h.top⟩):VW P N c Q e h:=by
  intro x hx g w a r hr hd hs
  refine wp_mono (H x hx (frz g w h) w a (frz_rel r) (hv.rep r hr) hd hs) fun ex a' w' ⟨g',e1,h',k1,k2,k3,k4,k5,k6⟩=>⟨g',e1,h',k1,k2,k3,k4,k5,frz_evo.trans k6⟩
end
end Go.VM
namespace Go.VM
open Go
theorem DrawG.monoZ {P:Program} {hqf hqf':Nat → Heap} {Z Z':Nat → Heap → Heap → Prop} (hh:hqf = hqf') (hZ:∀ k h h',Z k h h' → Z' k h h') {K:Env → Heap → Prop}:∀ {q:List VOper} {k:Nat} {e:Env} {h:Heap},DrawG P hqf Z k q K e h → DrawG P hqf' Z' k q K e h
  | [],_,_,_,H=>H
  | o :: r,k,e,h,H=>by
    subst hh
    simp only [DrawG] at H ⊢
    split at H
    · exact H.mono fun v h' kk=>⟨hZ _ _ _ kk.1,DrawG.monoZ rfl hZ kk.2⟩
    · exact H.elim
    · exact QW.mono (fun v hv=>DrawG.monoZ rfl hZ hv) H
    · split at H
      · exact QW.mono (fun v hv=>DrawG.monoZ rfl hZ hv) H
      · exact H.elim
theorem VW_draw2E {P:Program} {N:Nat} {Q:Exit → Env → Heap → Prop} {e:Env} {h:Heap} {q:List VOper} {late:List Bool} (T:Nat) (l:List Nat) (hT:h.top ≤ T) (H:Zdc P ⟨[],T⟩ q (fun e' h'=>Q .normal (Env.keep l e') h') e h):VW P N (.draw2 q late) Q e h:=by
  have hs:∀ h',Shp ⟨[],T⟩ h':=fun h' id fz z es hg=>by simp [Heap.get,HL.get] at hg
  refine VW_draw2 l ⟨[],T⟩ ⟨[],T⟩ ⟨[],T⟩ ⟨hT,trivial⟩ ⟨hT,trivial⟩ (hs h) (DrawG.monoZ (hqf:=fun _=>⟨[],T⟩) (funext fun i=>?_) (fun k h h' hz=>⟨hz,fun _ _=>hz,fun _=>hs h'⟩) H.toG)
  simp only [hq3]
  split <;> (try split) <;> (try split) <;> rfl
def midQ {σ:Type} (st:σ → Env × Heap) (Q:Exit → Env → Heap → Prop):Exit → Env → Heap → Prop
  | .normal,e,h=>∃ s,(st s).1.le e ∧ (st s).2.le h
  | x,e,h=>Q x e h
theorem VW_mid {P:Program} {N:Nat} {Q Q1:Exit → Env → Heap → Prop} {e:Env} {h:Heap} {c y:VC} {σ:Type} (st:σ → Env × Heap) (H1:VW P N c (midQ st Q) e h) (H2:∀ s,VW P N y Q1 (st s).1 (st s).2):VW P N c (Za6 (VW P N y Q1) Q) e h :=
  H1.mono fun x e h hx=>by
    cases x with
    | normal =>
      obtain ⟨s,a,b⟩:=hx
      exact VW.weaken a b (H2 s)
    | _=>exact hx
end Go.VM
