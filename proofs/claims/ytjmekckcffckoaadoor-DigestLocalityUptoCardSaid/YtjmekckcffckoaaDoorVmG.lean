import Derived.Test.YtjmekckcffckoaaDoorVmQ
import Derived.SizedLaws
import Derived.Test.YtjmekckcffckoaaDoorVmD
import Derived.Test.YtjmekckcffckoaaDoorVm8
import Derived.Laws.Entries
import Derived.Laws.Slices
set_option linter.all false
namespace Go.VM
open Go
theorem View.locV {h:Heap} {id i off z:Nat} {fz:Bool} {es:List (List PV)} {q:List PV} (hg:h.get id = some (.arr fz z es)) (hi:i < es.length) (hl:q.length + off ≤ z) (hv:∀ j,j < q.length → View h (PV.nth (PV.row es i) (off + j)) (PV.nth q j)):View h (.loc id i off) (.ro q):=by
  intro g w v r hr
  cases hr with
  | loc _ _ _ b o n z' a hb ha =>
    subst ha
    rcases r.blk id _ hg with ⟨hb0,_⟩ | ⟨b',o',n',z'',hb',hlt,hlive,hok⟩
    · rw [hb] at hb0; cases hb0
    · rw [hb] at hb'
      simp only [Option.some.injEq,Prod.mk.injEq] at hb'
      obtain ⟨rfl,rfl,rfl,rfl⟩:=hb'
      obtain ⟨rfl,hz,hle',c,ty,h1,h2,h3⟩:=hok
      refine .ro b (o + i * z + off) _ _ (fun j=>c.getD (o + i * z + (off + j)) Go.undef) rfl (fun j hj=>?_) (fun j hj=>?_)
      · obtain ⟨e1,e2,e3⟩:=h3 i (off + j) hi (by omega)
        rw [show o + i * z + off + j = o + i * z + (off + j) by omega]
        cases fz
        · have hin : o + i * z + (off + j) < c.size := by
            have:=Za4 (n:=es.length) (z:=z) hi (show off + j < z by omega)
            omega
          exact frzM_new ((hlive rfl).1 _) hg hb rfl (by simp [World.cell?,h1,hin,Array.getD]) e1
        · exact frzM_old (e3 rfl)
      · obtain ⟨e1,e2,e3⟩:=h3 i (off + j) hi (by omega)
        exact hv j hj g w _ r e2
theorem View.loc {h:Heap} {id i z:Nat} {fz:Bool} {es:List (List PV)} {q:List PV} (hg:h.get id = some (.arr fz z es)) (hi:i < es.length) (hq:PV.row es i = q) (hl:q.length ≤ z):View h (.loc id i 0) (.ro q) :=
  View.locV hg hi (by omega) (fun j hj=>by rw [hq,Nat.zero_add]; exact View.refl _ _)
theorem View.ownV {h : Heap} {id off len z : Nat} {fz : Bool} {es q : List (List PV)} (hg : h.get id = some (.arr fz z es)) (hle : off + len ≤ es.length) (hq : q.length = len) (hqz : ∀ i, i < len → (PV.row q i).length = z)
    (hv:∀ i j,i < len → j < z → View h (PV.nth (PV.row es (off + i)) j) (PV.nth (PV.row q i) j)):View h (.own id off len) (.sl z q):=by
  intro g w v r hv'
  cases hv' with
  | ownE ao =>
    have:q = []:=List.eq_nil_of_length_eq_zero hq
    subst this; exact .slE _ _ _
  | own _ _ _ cap b o n z' a hb ha hc hn =>
    subst ha
    rcases r.blk id _ hg with ⟨hb0,_⟩ | ⟨b',o',n',z'',hb',hlt,hlive,hok⟩
    · rw [hb] at hb0; cases hb0
    · rw [hb] at hb'
      simp only [Option.some.injEq,Prod.mk.injEq] at hb'
      obtain ⟨rfl,rfl,rfl,rfl⟩:=hb'
      obtain ⟨rfl,hz,hle',c,ty,h1,h2,h3⟩:=hok
      refine .sl b (o + off * z) len cap z _ _ (fun i j=>c.getD (o + (off + i) * z + j) Go.undef) rfl hq hc hqz (fun i j hi hj=>?_) (fun i j hi hj=>?_)
      · obtain ⟨e1,e2,e3⟩:=h3 (off + i) j (by omega) hj
        have e4:o + off * z + i * z + j = o + (off + i) * z + j:=by rw [Nat.add_mul]; omega
        rw [e4]
        cases fz
        · have hin : o + (off + i) * z + j < c.size := by
            have:=Za4 (n:=es.length) (z:=z) (show off + i < es.length by omega) hj
            omega
          exact frzM_new ((hlive rfl).1 _) hg hb rfl (by simp [World.cell?,h1,hin,Array.getD]) e1
        · exact frzM_old (e3 rfl)
      · obtain ⟨e1,e2,e3⟩:=h3 (off + i) j (by omega) hj
        exact hv i j hi hj g w _ r e2
theorem View.own_all {h:Heap} {id z n:Nat} {fz:Bool} {es:List (List PV)} (hg:h.get id = some (.arr fz z es)) (hn:n = es.length):View h (.own id 0 n) (.sl z es):=by
  have hv:=View.own (off:=0) (len:=n) hg (by omega)
  rw [List.drop_zero,hn,List.take_length] at hv
  rw [hn]; exact hv
theorem View.fn {h:Heap} {f:Fn} {pf pc qf qc:List PV} (h1:pf.length = qf.length) (h2:pc.length = qc.length) (hf:∀ j,j < qf.length → View h (PV.nth pf j) (PV.nth qf j)) (hc:∀ j,j < qc.length → View h (PV.nth pc j) (PV.nth qc j)):View h (.fn f pf pc) (.fn f qf qc):=by
  intro g w v r hr
  cases hr with
  | fn _ fs cs _ _ s1 s2 r1 r2=>exact .fn f fs cs qf qc (by omega) (by omega) (fun j hj=>hf j hj g w _ r (r1 j (by omega))) (fun j hj=>hc j hj g w _ r (r2 j (by omega)))
theorem View.agg {h:Heap} {l q:List PV} (hl:l.length = q.length) (hv:∀ j,j < q.length → View h (PV.nth l j) (PV.nth q j)):View h (.agg l) (.agg q):=by
  intro g w v r hr
  obtain ⟨vs,rfl,hs,h1,hrr⟩:=hr.agg_inv
  exact .agg _ _ (by omega) (fun j hj=>h1 j (by omega)) (fun j hj=>hv j hj g w _ r (hrr j (by omega)))
theorem View.any (h:Heap) (r:PV):View h r .any:=fun _ _ v _ _=>.any v
def EView (h:Heap) (e:Env):Env → Prop
  | []=>True
  | (k,p) :: r=>View h (e.get k) p ∧ EView h e r
theorem EView.rep {g:Gh} {w:World} {h:Heap} (r:Rel g w h) {a:Act} {e:Env} (he:Zar g a e):∀ {e':Env},EView h e e' → Zar (frz g w h) a e'
  | [],_=>fun _=>.any _
  | (k,p) :: q,hv=>fun t=>by
    by_cases e1:k = t
    · subst e1
      simp only [Env.get,if_true]
      exact hv.1 g w _ r (he k)
    · simp only [Env.get,if_neg e1]
      exact EView.rep r he hv.2 t
section
variable {P : Program} {N : Nat} {Q : Exit → Env → Heap → Prop} {e : Env} {h : Heap}
theorem Zbu {c:VC} (e':Env) (hv:EView h e e') (H:VW P N c Q e' ⟨[],h.top⟩):VW P N c Q e h:=by
  intro x hx g w a r hr hd hs
  refine wp_mono (H x hx (frz g w h) w a (frz_rel r) (hv.rep r hr) hd hs) fun ex a' w' ⟨g',e1,h',k1,k2,k3,k4,k5,k6⟩=>⟨g',e1,h',k1,k2,k3,k4,k5,frz_evo.trans k6⟩
end
end Go.VM
namespace Go.VM
open Go
theorem DrawG.monoZ {P:Program} {hqf hqf':Nat → Heap} {Z Z':Nat → Heap → Heap → Prop} (hh:hqf = hqf') (hZ:∀ k h h',Z k h h' → Z' k h h') {K:Env → Heap → Prop}:∀ {q:List VOper} {k:Nat} {e:Env} {h:Heap},DrawG P hqf Z k q K e h → DrawG P hqf' Z' k q K e h
  | [],_,_,_,H=>H
  | o :: r,k,e,h,H=>by
    subst hh
    simp only [DrawG] at H ⊢
    split at H
    · exact H.mono fun v h' kk=>⟨hZ _ _ _ kk.1,DrawG.monoZ rfl hZ kk.2⟩
    · exact H.elim
    · exact QW.mono (fun v hv=>DrawG.monoZ rfl hZ hv) H
    · split at H
      · exact QW.mono (fun v hv=>DrawG.monoZ rfl hZ hv) H
      · exact H.elim
def midQ {σ:Type} (st:σ → Env × Heap) (Q:Exit → Env → Heap → Prop):Exit → Env → Heap → Prop
  | .normal,e,h=>∃ s,(st s).1.le e ∧ (st s).2.le h
  | x,e,h=>Q x e h
theorem VW_mid {P:Program} {N:Nat} {Q Q1:Exit → Env → Heap → Prop} {e:Env} {h:Heap} {c y:VC} {σ:Type} (st:σ → Env × Heap) (H1:VW P N c (midQ st Q) e h) (H2:∀ s,VW P N y Q1 (st s).1 (st s).2):VW P N c (Zae (VW P N y Q1) Q) e h :=
  H1.mono fun x e h hx=>by
    cases x with
    | normal =>
      obtain ⟨s,a,b⟩:=hx
      exact VW.weaken a b (H2 s)
    | _=>exact hx
end Go.VM
namespace Go.VM
open Go
def DrawA (P:Program) (h0:Heap) (late:List Bool):Nat → List VOper → (Env → Heap → Prop) → Env → Heap → Prop
  | _,[],K,e,h=>K e h
  | k,o :: r,K,e,h=>match o.op.simple,o.guard with
    | true,none=>Zaf P e h o.op (fun v h'=>h'.top ≤ h0.top ∧ (o.op.writes = false → h0.le h → h0.le h') ∧ DrawA P h0 late (k + 1) r K (e.put o.dst v) h')
    | true,some _=>False
    | false,none=>QW P (if late.getD k false then h0 else ⟨[],h0.top⟩) e o.op true (fun v=>DrawA P h0 late (k + 1) r K (e.put o.dst v) h)
    | false,some (d,want)=>(match guardOf want (e.get d) with
      | some c=>QW P (if late.getD k false then h0 else ⟨[],h0.top⟩) e o.op c (fun v=>DrawA P h0 late (k + 1) r K (e.put o.dst v) h)
      | none=>False)
theorem DrawA.toG {P : Program} {q0 : List VOper} {h0 : Heap} {late : List Bool} {K : Env → Heap → Prop} : ∀ {q : List VOper} {k : Nat} {e : Env} {h : Heap}, (∀ j, q[j]? = q0[k + j]?) → DrawA P h0 late k q K e h →
    DrawG P (fun i=>if late.getD i false then h0 else ⟨[],h0.top⟩) (fun i h h'=>(⟨[],h0.top⟩:Heap).le h' ∧ (Zcg q0 i = false → h0.le h → h0.le h')) k q K e h
  | [],_,_,_,_,H=>H
  | o :: r,k,e,h,hq,H=>by
    have h0':q0[k]? = some o:=by simpa using (hq 0).symm
    have hq1:∀ j,r[j]? = q0[(k + 1) + j]?:=fun j=>by have:=hq (j + 1); simpa [Nat.add_assoc,Nat.add_comm 1 j] using this
    have hwk:Zcg q0 k = o.op.writes:=by simp [Zcg,h0']
    obtain ⟨dst,op,gu⟩:=o
    simp only [DrawA] at H
    simp only [DrawG]
    cases hs:op.simple with
    | true =>
      cases gu with
      | none =>
        simp only [hs] at H ⊢
        exact Zaf.mono (fun v h' kk=>⟨⟨⟨kk.1,trivial⟩,fun hw=>kk.2.1 (by rw [← hwk]; exact hw)⟩,DrawA.toG hq1 kk.2.2⟩) H
      | some d=>simp only [hs] at H
    | false =>
      cases gu with
      | none =>
        simp only [hs] at H ⊢
        exact QW.mono (fun v hv=>DrawA.toG hq1 hv) H
      | some dw =>
        obtain ⟨d,want⟩:=dw
        simp only [hs] at H ⊢
        cases hg:guardOf want (e.get d) with
        | none=>rw [hg] at H; exact H.elim
        | some c=>rw [hg] at H; exact QW.mono (fun v hv=>DrawA.toG hq1 hv) H
theorem VW_draw2Q {P:Program} {N:Nat} {Q:Exit → Env → Heap → Prop} {e:Env} {h:Heap} {q:List VOper} {late:List Bool} (l:List Nat) (hq:Heap) (hl:hq.le h) (H:DrawW P hq q (fun e' h'=>Q .normal (Env.keep l e') h') e h):VW P N (.draw2 q late) Q e h:=by
  have hs:∀ h',hq.le h' → Shp hq h':=fun h' hh id fz z es hg=>⟨fz,es,Heap.le_get hh _ _ hg⟩
  refine VW_draw2 l hq hq hq hl hl (hs h hl) (DrawG.monoZ (hqf:=fun _=>hq) (funext fun i=>?_) (fun k h1 h' hz=>⟨hz,fun _ _=>hz,fun _=>hs h' hz⟩) H.toG)
  simp only [hq3]
  split <;> (try split) <;> (try split) <;> rfl
end Go.VM
namespace Go.VM
open Go
def Light {H:Type} (P:Program) (t:TypeId) (d:DataW H):Prop:=∀ n ∈ d.weights P t,n ≤ reachBytes
structure ReadsZ (P : Program) (W : World) (n : Nat) (t : TypeId) {α : Type} (ok : α → Prop) (enc : α → List PV) : Prop where
  run : ∀ (_ : Zck W) (H : Type) (en : TypeId × Value → H) (base : Nat) (spare : Nat → Bool) (held : Bool) (cs : List Value) (x : DataW H × List MemPlace), DataW.trod en P W base spare held n t cs = some x → Light P t x.1 → ∃ a, ok a ∧ CRep (g0 W) cs (enc a)
section
variable {P : Program} {W : World} {n : Nat} {t : TypeId}
theorem Reads.z {α:Type} {ok:α → Prop} {enc:α → List PV} (h:Reads P W n t ok enc):ReadsZ P W n t ok enc:=⟨fun hk H en base spare held cs x hx _=>h.run hk H en base spare held cs x hx⟩
theorem ReadsZ.map {α β:Type} {ok:α → Prop} {enc:α → List PV} {ok':β → Prop} {enc':β → List PV} (f:α → β) (h:ReadsZ P W n t ok enc) (ho:∀ a,ok a → ok' (f a)) (he:∀ a,enc' (f a) = enc a):ReadsZ P W n t ok' enc' :=
  ⟨fun hk H en base spare held cs x hx hz=>by
    obtain ⟨a,a1,a2⟩:=h.run hk H en base spare held cs x hx hz
    exact ⟨f a,ho a a1,by rw [he]; exact a2⟩⟩
structure FReadsZ (P : Program) (W : World) (n : Nat) (fs : List Field) (o : Nat) {α : Type} (ok : α → Prop) (enc : α → List PV) : Prop where
  run : ∀ (_ : Zck W) (H : Type) (en : TypeId × Value → H) (base : Nat) (spare : Nat → Bool) (held : Bool) (cs : List Value),
    (∀ f ∈ fs, ∃ x, DataW.trod en P W base spare held n f.type ((cs.drop f.offset).take (P.cellsOf f.type)) = some x ∧ Light P f.type x.1) → ∃ a, ok a ∧ CRep (g0 W) ((cs.drop o).take (enc a).length) (enc a)
theorem ReadsZ.one (hk : Zck W) {α : Type} {ok : α → Prop} {enc : α → PV} {H : Type} {en : TypeId × Value → H} {base : Nat} {spare : Nat → Bool} {held : Bool} {v : Value} {d : DataW H} {ps : List MemPlace}
    (h:∀ n,ReadsZ P W n t ok (fun a=>[enc a])) (hv:v.cells = #[v]) (hd:DataW.Trod en P W base spare held t v d ps) (hw:Light P t d):∃ a,ok a ∧ Rep (g0 W) v (enc a):=by
  obtain ⟨fuel,hx⟩:=hd
  obtain ⟨a,a1,a2,a3⟩:=(h fuel).run hk H en base spare held _ _ hx hw
  rw [hv] at a3
  exact ⟨a,a1,(a3 0 (by simp)).2⟩
theorem ReadsZ.agg (hk : Zck W) {α : Type} {ok : α → Prop} {enc : α → List PV} {H : Type} {en : TypeId × Value → H} {base : Nat} {spare : Nat → Bool} {held : Bool} {vs : Array Value} {d : DataW H} {ps : List MemPlace}
    (h:∀ n,ReadsZ P W n t ok enc) (hd:DataW.Trod en P W base spare held t (.agg vs) d ps) (hw:Light P t d):∃ a,ok a ∧ Rep (g0 W) (.agg vs) (.agg (enc a)):=by
  obtain ⟨fuel,hx⟩:=hd
  obtain ⟨a,a1,a2,a3⟩:=(h fuel).run hk H en base spare held _ _ hx hw
  simp only [Value.cells] at a2 a3
  refine ⟨a,a1,.agg _ _ (by simpa using a2) (fun j hj=>?_) (fun j hj=>?_)⟩
  · have:=(a3 j hj).1; simpa [Array.getD_eq_getD_getElem?] using this
  · have:=(a3 j hj).2; simpa [Array.getD_eq_getD_getElem?] using this
end
end Go.VM
namespace Go.VM
open Go
theorem memExt_below {g:Gh} {w w':World} {h:Heap} (r:Rel g w h) (hb:RowKit.Below w.heap.size w w'):MemExt g w g.m w':=by
  have hin:∀ {b:Nat} {x:Obj},w.heap[b]? = some x → w'.heap[b]? = w.heap[b]?:=fun {b x} e=>hb.block b (by
    by_cases hlt:b < w.heap.size
    · exact hlt
    · rw [Array.getElem?_eq_none (by omega)] at e; cases e)
  refine ⟨fun _ _ _ e=>e,fun b o v e=>?_,fun _ _ _ e=>.inl e,fun _ _ e=>e,fun b e he=>?_,fun _ _ e=>.inl e⟩
  · obtain ⟨h1,h2⟩:=r.mem b o v e
    refine ⟨?_,h2⟩
    unfold World.cell? at h1 ⊢
    cases hh:w.heap[b]? with
    | none=>rw [hh] at h1; cases h1
    | some x=>rw [hin hh]; exact h1
  · have h1:=r.mmem b e he
    obtain ⟨o,h2⟩:=h1.there
    rw [hin h2]; exact h1
theorem PCall_of {P : Program} {f : FuncId} {args : List PV} {p : PV} (hf : fnOk P f = true) (hc : Zax args)
    (H:∀ (g:Gh) (w:World) (vals:Array Value),Rel g w Heap.nil → Args g vals args → Calls P f vals w fun e w'=>∃ v,e = .returned v ∧ (∀ g,Rep g v p) ∧ RowKit.Below w.heap.size w w'):Za8 P f args p :=
  ⟨hf,hc,fun g w vals r ha=>(H g w vals r ha).mono fun x w' ⟨v,h1,h2,h3⟩=>⟨v,g.m,h1,h2 _,memExt_below r h3,h3⟩⟩
theorem var_known {P:Program} {g:Gh} {w:World} {h:Heap} (r:Rel g w h) {b:Nat} {l:List Value} (hl:known.lookup b = some l) {n:String} (hn:P.globalNamed n = some b):w.var? P n = some l.toArray:=by
  obtain ⟨t,fr,h1⟩:=r.mmem b _ (g.m.kn b l hl).1
  simp only [World.var?,hn,Option.bind_some,h1]
theorem args_1 {g:Gh} {vals:Array Value} {p:PV} (h:Args g vals [p]):∃ v,vals = #[v] ∧ Rep g v p:=by
  obtain ⟨h1,h2⟩:=h
  have:=h2 0 (by simp)
  refine ⟨vals[0]'(by simp [h1]),?_,?_⟩
  · apply Array.ext
    · simp [h1]
    · intro i hi hj
      have:i = 0:=by simp at hj; omega
      subst this; rfl
  · simpa [Array.getD_eq_getD_getElem?,h1,PV.nth] using this
theorem args_2 {g:Gh} {vals:Array Value} {p q:PV} (h:Args g vals [p,q]):∃ v u,vals = #[v,u] ∧ Rep g v p ∧ Rep g u q:=by
  obtain ⟨h1,h2⟩:=h
  have a0:=h2 0 (by simp)
  have a1:=h2 1 (by simp)
  refine ⟨vals[0]'(by simp [h1]),vals[1]'(by simp [h1]),?_,?_,?_⟩
  · apply Array.ext
    · simp [h1]
    · intro i hi hj
      have:i = 0 ∨ i = 1:=by simp at hj; omega
      rcases this with rfl | rfl <;> rfl
  · simpa [Array.getD_eq_getD_getElem?,h1,PV.nth] using a0
  · simpa [Array.getD_eq_getD_getElem?,h1,PV.nth] using a1
theorem str_eq {s:ByteArray} {l:List UInt8} (h:s.data.toList = l):s = ⟨l.toArray⟩:=by
  subst h
  cases s; simp
theorem strs_cells {g : Gh} {w : World} {h : Heap} (r : Rel g w h) {v : Value} {l : List Str} (hv : Rep g v (It.strs l)) :
    (∃ a cap,v = .slice a 0 cap ∧ l = []) ∨ ∃ b o cap,v = .slice (some ⟨b,o,none⟩) (l.map fun s=>(⟨s.toArray⟩:ByteArray)).length cap ∧ l.length ≤ cap ∧ b < w.heap.size ∧ ∀ (j:Nat) (x:ByteArray),(l.map fun s=>(⟨s.toArray⟩:ByteArray))[j]? = some x → w.cell? ⟨b,o + j,none⟩ = some (.string x):=by
  unfold It.strs at hv
  generalize hes:l.map (fun s=>[PV.str s]) = es at hv
  cases hv with
  | slE a cap z=>exact .inl ⟨a,cap,rfl,by simpa using hes⟩
  | sl b o len cap z a es vs ha hl hc hz hm hr =>
    subst hes
    subst ha
    have hlen:l.length = len:=by simpa using hl
    by_cases h0:l = []
    · subst h0
      simp at hlen
      subst hlen
      exact .inl ⟨_,_,rfl,rfl⟩
    right
    have cell:∀ i (hi:i < l.length),w.cell? ⟨b,o + i,none⟩ = some (.string ⟨(l[i]).toArray⟩):=by
      intro i hi
      have h1:=r.mem _ _ _ (hm i 0 (by omega) (by omega))
      have h2:=hr i 0 (by omega) (by omega)
      have e:PV.nth (PV.row (l.map fun s=>[PV.str s]) i) 0 = .str l[i]:=by simp [PV.row,PV.nth,List.getD_eq_getElem?_getD,hi]
      rw [e] at h2
      obtain ⟨s,hs,hsl⟩:=h2.str_inv
      rw [hs,str_eq hsl] at h1
      simpa using h1.1
    refine ⟨b,o,cap,by simp [hlen],by omega,?_,fun j x hx=>?_⟩
    · have hpos:0 < l.length:=List.length_pos_iff.2 h0
      have:=cell 0 hpos
      unfold World.cell? at this
      by_cases hlt:b < w.heap.size
      · exact hlt
      · simp only [] at this
        rw [Array.getElem?_eq_none (by omega)] at this; cases this
    · rw [List.getElem?_map,Option.map_eq_some_iff] at hx
      obtain ⟨s,hs,rfl⟩:=hx
      obtain ⟨hj,rfl⟩:=List.getElem?_eq_some_iff.1 hs
      exact cell j hj
end Go.VM
namespace Go.VM
open Go
theorem row_result {g : Gh} {w w' : World} {h : Heap} (r : Rel g w h) (hb : RowKit.Below w.heap.size w w') (vs : List Value) (ps : List PV) (hl : ps.length = vs.length)
    (hr:∀ j,j < vs.length → ∀ g:Gh,Rep g (vs.getD j Go.undef) (PV.nth ps j)) (h1:∀ j,j < vs.length → (vs.getD j Go.undef).oneCell' = true)
    {gb cap:Nat} {cur:Array Value} {t:TypeId} {fr:Nat × Nat} (hbase:w.heap.size ≤ gb) (hgb:w'.heap[gb]? = some (.cells cur t fr)) (hcap:vs.length ≤ cap) (hcur:∀ j,j < vs.length → cur[j]? = some (vs.getD j Go.undef)) :
    ∃ m':Mem,Rep ⟨m',fun _=>none⟩ (.slice (some ⟨gb,0,none⟩) vs.length cap) (.sl 1 (ps.map fun p=>[p])) ∧ MemExt g w m' w':=by
  let m':Mem:=⟨fun bb oo=>if bb = gb then (if oo < vs.length then some (vs.getD oo Go.undef) else none) else g.m bb oo,g.m.mm,fun bb l hp=>⟨(g.m.kn bb l hp).1,fun j hj=>by rw [if_neg (fun e=>by have:=(r.mmem _ _ (g.m.kn bb l hp).1).lt; omega)]; exact (g.m.kn bb l hp).2 j hj⟩⟩
  have hlg:∀ bb oo v,g.m bb oo = some v → bb ≠ gb:=by
    rintro bb oo v e rfl
    have:=(r.mem _ _ _ e).1
    rw [World.cell?,Array.getElem?_eq_none (by omega)] at this
    cases this
  have base:=memExt_below r hb
  refine ⟨m',?_,?_⟩
  · refine .sl gb 0 vs.length cap 1 _ _ (fun i _=>vs.getD i Go.undef) rfl (by simp [hl]) hcap (fun i hi=>?_) (fun i j hi hj=>?_) (fun i j hi hj=>?_)
    · have hi':i < ps.length:=by omega
      simp [PV.row,List.getD_eq_getElem?_getD,hi']
    · obtain rfl:j = 0:=by omega
      show (if gb = gb then (if 0 + i * 1 + 0 < vs.length then some (vs.getD (0 + i * 1 + 0) Go.undef) else none) else _) = _
      rw [if_pos rfl,if_pos (by omega)]
      simp
    · obtain rfl:j = 0:=by omega
      have hi':i < ps.length:=by omega
      have e:PV.nth (PV.row (ps.map fun p=>[p]) i) 0 = PV.nth ps i:=by simp [PV.row,PV.nth,List.getD_eq_getElem?_getD,hi']
      rw [e]
      exact hr i hi _
  · refine ⟨fun bb oo v e=>?_,fun bb oo v e=>?_,fun bb oo v e=>?_,base.oldM,base.okM,base.newM⟩
    · show (if bb = gb then _ else _) = _
      rw [if_neg (hlg bb oo v e)]; exact e
    · have e':(if bb = gb then (if oo < vs.length then some (vs.getD oo Go.undef) else none) else g.m bb oo) = some v:=e
      by_cases h2:bb = gb
      · subst h2
        rw [if_pos rfl] at e'
        by_cases h3:oo < vs.length
        · rw [if_pos h3] at e'
          simp only [Option.some.injEq] at e'
          subst e'
          refine ⟨?_,h1 oo h3⟩
          have:=hcur oo h3
          simp [World.cell?,hgb,this]
        · rw [if_neg h3] at e'; cases e'
      · rw [if_neg h2] at e'; exact base.ok bb oo v e'
    · have e':(if bb = gb then (if oo < vs.length then some (vs.getD oo Go.undef) else none) else g.m bb oo) = some v:=e
      by_cases h2:bb = gb
      · subst h2; exact .inr hbase
      · rw [if_neg h2] at e'; exact .inl e'
end Go.VM
namespace Go.VM
open Go
variable {P : Program} {o : Oper} {e : Env} {h : Heap} {K : PV → Heap → Prop}
theorem OpS_iaddrA {t : TypeId} {x ix : Operand} {va vi : VA} {id i off k : Nat} {kk : IntKind} (ho : o.op = .indexAddr t x ix) (ht : P.underlying t = some (.array (P.arrayLen t) (P.elem t))) (hs : szOf P (P.elem t) = some 1)
    (hx:cA x = some va) (hi:cA ix = some vi) (hv:va.ev e = .loc id i off) (hn:vi.ev e = .int kk k) (hk:k < P.arrayLen t) (H:K (.loc id i (off + k)) h):OpS P o e h K:=by
  refine OpS.of_value fun g w a r he=>?_
  have h1:=Zak he hx
  have h2:=Zak he hi
  rw [hv] at h1
  rw [hn] at h2
  generalize hax:a.eval x = ax at h1
  generalize hai:a.eval ix = ai at h2
  cases h2
  cases h1 with
  | loc _ _ _ b oo n z ad hb ha =>
    refine ⟨.pointer (some ⟨b,oo + i * z + (off + k),none⟩),_,g,w,h,?_,H,.loc id i (off + k) b oo n z _ hb rfl,r,Evo.refl _ _ _⟩
    have hr:=run_indexAt_array (P:=P) (w:=w) t ad kk k ht
    rw [if_pos ⟨by omega,by omega⟩,run_sz hs] at hr
    simp only [execOp,ho,hax,hai]
    subst ha
    simp only [Sem.run_bind,hr,Result.andThen_ok]
    simp [Addr.add,Nat.add_assoc]
theorem OpS_sliceA {t : TypeId} {x lo : Operand} {va vl : VA} {cs : List PV} {k : Nat} (ho : o.op = .slice t x (some lo) none none) (ht : P.underlying t = some (.array (P.arrayLen t) (P.elem t))) (hs : szOf P (P.elem t) = some 1)
    (hx:cA x = some va) (hl:cA lo = some vl) (hv:va.ev e = .ro cs) (hn:vl.ev e = .int .i64 k) (hk:k ≤ P.arrayLen t) (hc:cs.length = P.arrayLen t) (H:K (.sl 1 ((cs.drop k).map fun c=>[c])) h):OpS P o e h K:=by
  refine OpS.of_value fun g w a r he=>?_
  have h1:=Zak he hx
  have h2:=Zak he hl
  rw [hv] at h1
  rw [hn] at h2
  generalize hax:a.eval x = ax at h1
  generalize hal:a.eval lo = al at h2
  cases h2
  cases h1 with
  | ro b oo ad _ vs ha hm hr =>
    have hrun:=run_sliceAt_array_l (P:=P) (w:=w) t ad ht .i64 k (by omega) (by omega)
    rw [run_sz hs] at hrun
    have hl2:((cs.drop k).map fun c=>[c]).length = P.arrayLen t - k:=by simp [hc]
    subst ha
    refine ⟨slicedAt ⟨b,oo,none⟩ (k:Int).toNat (P.arrayLen t) (P.arrayLen t) 1,_,g,w,h,?_,H,?_,r,Evo.refl _ _ _⟩
    · simp [execOp,ho,hax,hal,hrun]
    · simp only [slicedAt,Int.toNat_natCast]
      by_cases hkk:P.arrayLen t = k
      · have e0:(cs.drop k).map (fun c=>[c]) = []:=by rw [List.drop_eq_nil_of_le (by omega)]; rfl
        rw [e0,hkk,Nat.sub_self]
        exact .slE _ _ _
      · rw [if_neg hkk]
        refine .sl b (oo + k) (P.arrayLen t - k) (P.arrayLen t - k) 1 _ _ (fun i _=>vs (k + i)) (by simp [Addr.add]) hl2 (Nat.le_refl _) (fun i hi=>?_) (fun i j hi hj=>?_) (fun i j hi hj=>?_)
        · have hi2:i < (cs.drop k).length:=by rw [List.length_drop]; omega
          simp [PV.row,List.getD_eq_getElem?_getD,List.getElem?_map,List.getElem?_drop,List.getElem?_eq_getElem (show k + i < cs.length by omega)]
        · obtain rfl:j = 0:=by omega
          have:=hm (k + i) (by omega)
          rw [← this]
          congr 1
          omega
        · obtain rfl:j = 0:=by omega
          have hi2:i < (cs.drop k).length:=by rw [List.length_drop]; omega
          have e1:PV.nth (PV.row ((cs.drop k).map fun c=>[c]) i) 0 = PV.nth cs (k + i):=by
            simp [PV.row,PV.nth,List.getD_eq_getElem?_getD,List.getElem?_map,List.getElem?_drop,List.getElem?_eq_getElem (show k + i < cs.length by omega)]
          rw [e1]
          exact hr (k + i) (by omega)
end Go.VM
namespace Go.VM
open Go
variable {P : Program} {o : Oper} {e : Env} {h : Heap} {K : PV → Heap → Prop}
theorem OpS_iaddrG {t : TypeId} {ix : Operand} {vi : VA} {gb k : Nat} {kk ke : IntKind} {n : Int} {l : List Value} (ho : o.op = .indexAddr t (.global gb) ix) (ht : P.underlying t = some (.array (P.arrayLen t) (P.elem t))) (hs : szOf P (P.elem t) = some 1)
    (hi:cA ix = some vi) (hn:vi.ev e = .int kk k) (hk:k < P.arrayLen t) (hl:known.lookup gb = some l) (hkl:k < l.length) (hv:l.getD k Go.undef = .int ke n) (H:K (.ro [.int ke n]) h):OpS P o e h K:=by
  refine OpS.of_value fun g w a r he=>?_
  have h2:=Zak he hi
  rw [hn] at h2
  generalize hai:a.eval ix = ai at h2
  cases h2
  have hg:a.eval (.global gb) = .pointer (some ⟨gb,0,none⟩):=by simp [Act.eval]
  refine ⟨.pointer (some ⟨gb,k,none⟩),_,g,w,h,?_,H,.ro gb k _ _ (fun _=>.int ke n) rfl (fun j hj=>?_) (fun j hj=>?_),r,Evo.refl _ _ _⟩
  · have hr:=run_indexAt_array (P:=P) (w:=w) t ⟨gb,0,none⟩ kk k ht
    rw [if_pos ⟨by omega,by omega⟩,run_sz hs] at hr
    simp only [execOp,ho,hg,hai]
    simp only [Sem.run_bind,hr,Result.andThen_ok]
    simp [Addr.add] <;> omega
  · obtain rfl:j = 0:=by simp at hj; omega
    have:=(g.m.kn gb l hl).2 k hkl
    rw [hv] at this
    exact this
  · obtain rfl:j = 0:=by simp at hj; omega
    exact .int _ _
end Go.VM
namespace Go.VM
open Go
theorem behind_one {ops:Array Oper} {listed:Array Bool} {k j:Nat} (h:Za7 ops listed 1 k j = true):Za7 ops listed ops.size k j = true:=by
  have hs:0 < ops.size:=by
    simp only [Za7] at h
    cases e:ops[j]? with
    | none=>rw [e] at h; cases h
    | some o =>
      have:=(Array.getElem?_eq_some_iff.1 e).1
      omega
  obtain ⟨n,hn⟩:∃ n,ops.size = n + 1:=⟨ops.size - 1,by omega⟩
  rw [hn]
  simp only [Za7] at h ⊢
  cases e:ops[j]? with
  | none=>rw [e] at h; cases h
  | some o =>
    rw [e] at h
    simp only [Bool.and_false,Bool.or_false,Array.any_eq_true,Bool.and_eq_true] at h ⊢
    obtain ⟨i,hi,h1,h2⟩:=h
    exact ⟨i,hi,h1,by rw [h2]; rfl⟩
def freeQ (ops:Array Oper) (q:List VOper) (listed:Array Bool) (k:Nat):Bool :=
  (List.range ops.size).all fun j=>j == k || listed.getD j true ||
    ((match q[k]?,q[j]? with
    | some x,some y=>x.apart y && !(x.op.simple && y.op.simple) && (!x.op.simple || y.op.det)
    | _,_=>false) || (Za7 ops listed 1 k j || Za7 ops listed ops.size k j))
theorem freeQ_eq (ops:Array Oper) (q:List VOper) (listed:Array Bool) (k:Nat):freeQ ops q listed k = freeB ops q listed k:=by
  unfold freeQ freeB
  congr 1
  funext j
  have h:=@behind_one ops listed k j
  generalize Za7 ops listed 1 k j = d at h ⊢
  generalize Za7 ops listed ops.size k j = B at h ⊢
  generalize (j == k) = x
  generalize listed.getD j true = y
  generalize q[k]? = o1
  generalize q[j]? = o2
  rcases o1 with _ | o1 <;> rcases o2 with _ | o2
  · cases d <;> cases B <;> simp_all
  · cases d <;> cases B <;> simp_all
  · cases d <;> cases B <;> simp_all
  · simp only []
    generalize (o1.apart o2 && !(o1.op.simple && o2.op.simple) && (!o1.op.simple || o2.op.det)) = m
    cases m <;> cases d <;> cases B <;> simp_all
def drawQ (ops:Array Oper) (q:List VOper):Nat → Nat → Array Bool → Bool
  | 0,_,listed=>(Region.ready .any ops listed).isEmpty
  | n + 1,k,listed=>(Region.ready .any ops listed).contains k && freeQ ops q listed k && q.all (fun o=>o.op.closed) && drawQ ops q n (k + 1) (listed.setIfInBounds k true)
theorem drawQ_eq (ops:Array Oper) (q:List VOper):∀ (n k:Nat) (listed:Array Bool),drawQ ops q n k listed = drawB ops q n k listed
  | 0,_,_=>rfl
  | n + 1,k,listed=>by simp only [drawQ,drawB,freeQ_eq,drawQ_eq ops q n]
def cCodeQ (P:Program) (N:Nat):Code → Option VC
  | .skip=>some .skip
  | .region id ops draw=>match cOpers P N ops ops.toList with
    | some q=>if draw then (if P.follows .mixedOrders && drawQ ops q ops.size 0 (Array.replicate ops.size false) then (if q.any (fun o=>o.op.writes) then some (.draw2 q (lateL ops q)) else some (.region q true)) else some (.other (.region id ops draw))) else some (.region q false)
    | none=>none
  | .seq a b=>match cCodeQ P N a,cCodeQ P N b with
    | some x,some y=>some (.seq x y)
    | _,_=>none
  | .cond c a b=>match cA c,cCodeQ P N a,cCodeQ P N b with
    | some v,some x,some y=>some (.cond v x y)
    | _,_,_=>none
  | .block id c=>(cCodeQ P N c).map (.block id)
  | .loop c=>(cCodeQ P N c).map .loop
  | .scope c=>(cCodeQ P N c).map .scope
  | .exit id=>some (.exit id)
  | .ret=>some .ret
  | .label _=>some .skip
  | c=>some (.other c)
theorem cCodeQ_eq (P:Program) (N:Nat) (c:Code):cCodeQ P N c = cCode P N c:=by
  induction c using cCodeQ.induct P N <;> (try unfold cCodeQ cCode) <;> simp_all [drawQ_eq]
theorem ACall_fnQ {P : Program} {h : Heap} {f : FuncId} {fn : Func} {c : Code} {vc : VC} {ts : List RS} {args : List PV} {K : PV → Heap → Prop} (hf : P.funcs[f]? = some fn) (hok : fnOk P f = true) (hb : fn.body = some c) (hr : rsOf P fn.results.toList = some ts)
    (hn:args.length ≤ fn.ntmps) (hc:cCodeQ P fn.ntmps c = some vc) (H:VW P fn.ntmps vc (retQ ts K) (Za3 0 args) h):Zbb P f args h K :=
  Zan hf hok hb hr hn (by rw [← cCodeQ_eq]; exact hc) H
end Go.VM
