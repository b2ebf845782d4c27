import Derived.Test.YtihfbefagcdpmaaDoorVmU
import Derived.SizedLaws
import Derived.Shelf.SlSortCmp.NoneTotal
import Derived.Shelf.SlSortCmp.Kit1
set_option linter.all false
namespace Go.VM
open Go
theorem reach_sl {H : Type} {P : Program} {ts : List TypeId} {ds : List (DataW H)} (hz : (DataW.weightsEach P ts ds).all (· ≤ reachBytes) = true) (j : Nat) {t e : TypeId} {d : DataW H} (ht : ts[j]? = some t) (hd : ds[j]? = some d)
    (hu:P.underlying t = some (.slice e)) {n:Nat} (hn:P.bytesOf e = n) {W:World} {en:TypeId × Value → H} {base:Nat} {spare:Nat → Bool} {held:Bool} {v:Value} {ps:List MemPlace} (h:DataW.Trod en P W base spare held t v d ps)
    (hc:v.cells = #[v]) {g:Gh} {z:Nat} {es:List (List PV)} (hrep:Rep g v (.sl z es)):es.length * n ≤ 140737488351232:=by
  obtain ⟨fuel,hx⟩:=h
  rw [hc] at hx
  rcases DataW.trod_slice hu hx with ⟨hcs,hxx⟩ | ⟨a,len,cap,elems,rest,m,hm,hcs,hxx,hb,hlc,hcap,hel,_⟩
  · have hv:v = .slice none 0 0:=by simpa using hcs
    subst hv
    cases hrep
    simp
  · have hv:v = .slice (some a) len cap:=by simpa using hcs
    subst hv
    have hdd:d = .slice (elems.map (·.1)) (rest.map (·.1)):=congrArg Prod.fst hxx
    subst hdd
    have h1:=sized_slice hz ht hd hu
    rw [hn] at h1
    have h2:es.length ≤ len:=by
      cases hrep with
      | slE=>simp
      | sl _ _ _ _ _ _ _ _ _ hl=>omega
    have h3:es.length * n ≤ (elems.length + rest.length) * n:=Nat.mul_le_mul_right _ (by omega)
    have h4:(elems.length + rest.length) * n ≤ reachBytes:=by simpa using h1
    have h5:reachBytes = 140737488351232:=rfl
    omega
theorem View.locV {h:Heap} {id i off z:Nat} {fz:Bool} {es:List (List PV)} {q:List PV} (hg:h.get id = some (.arr fz z es)) (hi:i < es.length) (hl:q.length + off ≤ z) (hv:∀ j,j < q.length → View h (PV.nth (PV.row es i) (off + j)) (PV.nth q j)):View h (.loc id i off) (.ro q):=by
  intro g w v r hr
  cases hr with
  | loc _ _ _ b o n z' a hb ha =>
    subst ha
    rcases r.blk id _ hg with ⟨hb0,_⟩ | ⟨b',o',n',z'',hb',hlt,hlive,hok⟩
    · rw [hb] at hb0; cases hb0
    · rw [hb] at hb'
      simp only [Option.some.injEq,Prod.mk.injEq] at hb'
      obtain ⟨rfl,rfl,rfl,rfl⟩:=hb'
      obtain ⟨rfl,hz,hle',c,ty,h1,h2,h3⟩:=hok
      refine .ro b (o + i * z + off) _ _ (fun j=>c.getD (o + i * z + (off + j)) Go.undef) rfl (fun j hj=>?_) (fun j hj=>?_)
      · obtain ⟨e1,e2,e3⟩:=h3 i (off + j) hi (by omega)
        rw [show o + i * z + off + j = o + i * z + (off + j) by omega]
        cases fz
        · have hin : o + i * z + (off + j) < c.size := by
            have:=Zax (n:=es.length) (z:=z) hi (show off + j < z by omega)
            omega
          exact frzM_new ((hlive rfl).1 _) hg hb rfl (by simp [World.cell?,h1,hin,Array.getD]) e1
        · exact frzM_old (e3 rfl)
      · obtain ⟨e1,e2,e3⟩:=h3 i (off + j) hi (by omega)
        exact hv j hj g w _ r e2
theorem View.loc {h:Heap} {id i z:Nat} {fz:Bool} {es:List (List PV)} {q:List PV} (hg:h.get id = some (.arr fz z es)) (hi:i < es.length) (hq:PV.row es i = q) (hl:q.length ≤ z):View h (.loc id i 0) (.ro q) :=
  View.locV hg hi (by omega) (fun j hj=>by rw [hq,Nat.zero_add]; exact View.refl _ _)
theorem View.own_all {h:Heap} {id z n:Nat} {fz:Bool} {es:List (List PV)} (hg:h.get id = some (.arr fz z es)) (hn:n = es.length):View h (.own id 0 n) (.sl z es):=by
  have hv:=View.own (off:=0) (len:=n) hg (by omega)
  rw [List.drop_zero,hn,List.take_length] at hv
  rw [hn]; exact hv
theorem View.fn {h:Heap} {f:Fn} {pf pc qf qc:List PV} (h1:pf.length = qf.length) (h2:pc.length = qc.length) (hf:∀ j,j < qf.length → View h (PV.nth pf j) (PV.nth qf j)) (hc:∀ j,j < qc.length → View h (PV.nth pc j) (PV.nth qc j)):View h (.fn f pf pc) (.fn f qf qc):=by
  intro g w v r hr
  cases hr with
  | fn _ fs cs _ _ s1 s2 r1 r2=>exact .fn f fs cs qf qc (by omega) (by omega) (fun j hj=>hf j hj g w _ r (r1 j (by omega))) (fun j hj=>hc j hj g w _ r (r2 j (by omega)))
theorem View.agg {h:Heap} {l q:List PV} (hl:l.length = q.length) (hv:∀ j,j < q.length → View h (PV.nth l j) (PV.nth q j)):View h (.agg l) (.agg q):=by
  intro g w v r hr
  obtain ⟨vs,rfl,hs,h1,hrr⟩:=hr.agg_inv
  exact .agg _ _ (by omega) (fun j hj=>h1 j (by omega)) (fun j hj=>hv j hj g w _ r (hrr j (by omega)))
theorem View.any (h:Heap) (r:PV):View h r .any:=fun _ _ v _ _=>.any v
def EView (h:Heap) (e:Env):Env → Prop
  | []=>True
  | (k,p) :: r=>View h (e.get k) p ∧ EView h e r
theorem EView.rep {g:Gh} {w:World} {h:Heap} (r:Rel g w h) {a:Act} {e:Env} (he:Zao g a e):∀ {e':Env},EView h e e' → Zao (frz g w h) a e'
  | [],_=>fun _=>.any _
  | (k,p) :: q,hv=>fun t=>by
    by_cases e1:k = t
    · subst e1
      simp only [Env.get,if_true]
      exact hv.1 g w _ r (he k)
    · simp only [Env.get,if_neg e1]
      exact EView.rep r he hv.2 t
section
variable {P : Program} {N : Nat} {Q : Exit → Env → Heap → Prop} {e : Env} {h : Heap}
theorem VW_freeze {c:VC} (e':Env) (hv:EView h e e') (H:VW P N c Q e' ⟨[],h.top⟩):VW P N c Q e h:=by
  intro x hx g w a r hr hd hs
  refine wp_mono (H x hx (frz g w h) w a (frz_rel r) (hv.rep r hr) hd hs) fun ex a' w' ⟨g',e1,h',k1,k2,k3,k4,k5,k6⟩=>⟨g',e1,h',k1,k2,k3,k4,k5,frz_evo.trans k6⟩
end
end Go.VM
namespace Go.VM
open Go
theorem DrawG.monoZ {P:Program} {hqf hqf':Nat → Heap} {Z Z':Nat → Heap → Heap → Prop} (hh:hqf = hqf') (hZ:∀ k h h',Z k h h' → Z' k h h') {K:Env → Heap → Prop}:∀ {q:List VOper} {k:Nat} {e:Env} {h:Heap},DrawG P hqf Z k q K e h → DrawG P hqf' Z' k q K e h
  | [],_,_,_,H=>H
  | o :: r,k,e,h,H=>by
    subst hh
    simp only [DrawG] at H ⊢
    split at H
    · exact H.mono fun v h' kk=>⟨hZ _ _ _ kk.1,DrawG.monoZ rfl hZ kk.2⟩
    · exact H.elim
    · exact QW.mono (fun v hv=>DrawG.monoZ rfl hZ hv) H
    · split at H
      · exact QW.mono (fun v hv=>DrawG.monoZ rfl hZ hv) H
      · exact H.elim
def midQ {σ:Type} (st:σ → Env × Heap) (Q:Exit → Env → Heap → Prop):Exit → Env → Heap → Prop
  | .normal,e,h=>∃ s,(st s).1.le e ∧ (st s).2.le h
  | x,e,h=>Q x e h
theorem VW_mid {P:Program} {N:Nat} {Q Q1:Exit → Env → Heap → Prop} {e:Env} {h:Heap} {c y:VC} {σ:Type} (st:σ → Env × Heap) (H1:VW P N c (midQ st Q) e h) (H2:∀ s,VW P N y Q1 (st s).1 (st s).2):VW P N c (Zae (VW P N y Q1) Q) e h :=
  H1.mono fun x e h hx=>by
    cases x with
    | normal =>
      obtain ⟨s,a,b⟩:=hx
      exact VW.weaken a b (H2 s)
    | _=>exact hx
end Go.VM
namespace Go.VM
open Go
theorem memExt_below {g:Gh} {w w':World} {h:Heap} (r:Rel g w h) (hb:RowKit.Below w.heap.size w w'):MemExt g w g.m w':=by
  have hin:∀ {b:Nat} {x:Obj},w.heap[b]? = some x → w'.heap[b]? = w.heap[b]?:=fun {b x} e=>hb.block b (by
    by_cases hlt:b < w.heap.size
    · exact hlt
    · rw [Array.getElem?_eq_none (by omega)] at e; cases e)
  refine ⟨fun _ _ _ e=>e,fun b o v e=>?_,fun _ _ _ e=>.inl e,fun _ _ e=>e,fun b e he=>?_,fun _ _ e=>.inl e⟩
  · obtain ⟨h1,h2⟩:=r.mem b o v e
    refine ⟨?_,h2⟩
    unfold World.cell? at h1 ⊢
    cases hh:w.heap[b]? with
    | none=>rw [hh] at h1; cases h1
    | some x=>rw [hin hh]; exact h1
  · have h1:=r.mmem b e he
    obtain ⟨o,h2⟩:=h1.there
    rw [hin h2]; exact h1
theorem PCall_of {P : Program} {f : FuncId} {args : List PV} {p : PV} (hf : fnOk P f = true) (hc : Zat args)
    (H:∀ (g:Gh) (w:World) (vals:Array Value),Rel g w Heap.nil → Args g vals args → Calls P f vals w fun e w'=>∃ v,e = .returned v ∧ (∀ g,Rep g v p) ∧ RowKit.Below w.heap.size w w'):Za8 P f args p :=
  ⟨hf,hc,fun g w vals r ha=>(H g w vals r ha).mono fun x w' ⟨v,h1,h2,h3⟩=>⟨v,g.m,h1,h2 _,memExt_below r h3,h3⟩⟩
theorem var_known {P:Program} {g:Gh} {w:World} {h:Heap} (r:Rel g w h) {b:Nat} {l:List Value} (hl:known.lookup b = some l) {n:String} (hn:P.globalNamed n = some b):w.var? P n = some l.toArray:=by
  obtain ⟨t,fr,h1⟩:=r.mmem b _ (g.m.kn b l hl).1
  simp only [World.var?,hn,Option.bind_some,h1]
theorem args_1 {g:Gh} {vals:Array Value} {p:PV} (h:Args g vals [p]):∃ v,vals = #[v] ∧ Rep g v p:=by
  obtain ⟨h1,h2⟩:=h
  have:=h2 0 (by simp)
  refine ⟨vals[0]'(by simp [h1]),?_,?_⟩
  · apply Array.ext
    · simp [h1]
    · intro i hi hj
      have:i = 0:=by simp at hj; omega
      subst this; rfl
  · simpa [Array.getD_eq_getD_getElem?,h1,PV.nth] using this
theorem args_2 {g:Gh} {vals:Array Value} {p q:PV} (h:Args g vals [p,q]):∃ v u,vals = #[v,u] ∧ Rep g v p ∧ Rep g u q:=by
  obtain ⟨h1,h2⟩:=h
  have a0:=h2 0 (by simp)
  have a1:=h2 1 (by simp)
  refine ⟨vals[0]'(by simp [h1]),vals[1]'(by simp [h1]),?_,?_,?_⟩
  · apply Array.ext
    · simp [h1]
    · intro i hi hj
      have:i = 0 ∨ i = 1:=by simp at hj; omega
      rcases this with rfl | rfl <;> rfl
  · simpa [Array.getD_eq_getD_getElem?,h1,PV.nth] using a0
  · simpa [Array.getD_eq_getD_getElem?,h1,PV.nth] using a1
theorem str_eq {s:ByteArray} {l:List UInt8} (h:s.data.toList = l):s = ⟨l.toArray⟩:=by
  subst h
  cases s; simp
end Go.VM
namespace Go.VM
open Go
end Go.VM
namespace Go.VM
open Go Go.Sort Go.RowKit
theorem below_grow {w w':World} (h:Below w.heap.size w w') (hd:w.drawn ≤ w'.drawn):∃ q os,w' = grow (w.drewN q) os:=by
  refine ⟨w'.drawn - w.drawn,w'.heap.extract w.heap.size w'.heap.size,?_⟩
  obtain ⟨hp,tape,drawn,os,output⟩:=w
  obtain ⟨hp',tape',drawn',os',output'⟩:=w'
  obtain ⟨h1,h2,h3,h4,h5⟩:=h
  simp only at h1 h2 h3 h4 h5 hd
  subst h1; subst h2; subst h3
  unfold grow World.drewN
  simp only [World.mk.injEq,and_true,true_and]
  refine ⟨?_,by omega⟩
  apply Array.ext_getElem?
  intro i
  by_cases hi:i < hp.size
  · rw [Array.getElem?_append_left hi,h5 i hi]
  · rw [Array.getElem?_append_right (by omega)]
    by_cases hi2:i < hp'.size
    · rw [Array.getElem?_extract]
      simp only [Nat.min_self]
      rw [if_pos (by omega)]
      congr 1; omega
    · rw [Array.getElem?_eq_none (by omega),Array.getElem?_eq_none (by simp; omega)]
theorem pcall_grow {P : Program} {f : FuncId} {args : List PV} {p : PV} (A : Za8 P f args p) {g : Gh} {w : World} {vals : Array Value} (r : Rel g w Heap.nil) (ha : Args g vals args) :
    Calls P f vals w fun e w'=>∃ v m',e = .returned v ∧ Rep ⟨m',fun _=>none⟩ v p ∧ ∃ q os,w' = grow (w.drewN q) os:=by
  refine (calls_drawn (A.2.2 g w vals r ha)).mono ?_
  rintro e w' ⟨⟨v,m',rfl,h1,_,h3⟩,h4⟩
  rcases h4 with h4 | h4
  · cases h4
  · exact ⟨v,m',rfl,h1,below_grow h3 h4⟩
theorem rel_sortK {α : Type} [Inhabited α] {g : Gh} {w W : World} {h : Heap} (r : Rel g w h) (enc : α → List Value) (k blk off m : Nat) (dk : Array α) (os : Array Obj) (hW : ∀ b, b < w.heap.size → b ≠ blk → W.heap[b]? = w.heap[b]?) (hs : w.heap.size ≤ W.heap.size)
    (hf:w.heap.size ≤ blk ∨ g.free blk):Rel ⟨g.m,fun _=>none⟩ (Go.Proofs.sortWorldK enc k W blk off m dk os) Heap.nil:=by
  have hsame:∀ b,b < w.heap.size → b ≠ blk → (Go.Proofs.sortWorldK enc k W blk off m dk os).heap[b]? = w.heap[b]?:=fun b hb hne=>by
    show ((Sort.putRowK enc k (Sort.ahead W m) blk off dk).heap ++ os)[b]? = _
    have h1:(Sort.putRowK enc k (Sort.ahead W m) blk off dk).heap = W.heap.modify blk (onCells (putCells (fun v:Value=>v) off (Sort.flatK enc k dk))):=rfl
    rw [h1,Array.getElem?_append_left (by simp; omega),Array.getElem?_modify,if_neg (Ne.symm hne),hW b hb hne]
  refine ⟨fun b o v e=>?_,fun b e he=>?_,fun id _=>⟨rfl,rfl⟩,fun id ab e=>by simp [Heap.nil,Heap.get,HL.get] at e,fun id id' x x' ab ab' _ e=>by simp [Heap.nil,Heap.get,HL.get] at e⟩
  · obtain ⟨h1,h2⟩:=r.mem b o v e
    have hlt:b < w.heap.size:=by
      rcases Nat.lt_or_ge b w.heap.size with h | h
      · exact h
      · simp [World.cell?,Array.getElem?_eq_none h] at h1
    have hne:b ≠ blk:=by
      rintro rfl
      rcases hf with h | h
      · omega
      · rw [h.1] at e; cases e
    refine ⟨?_,h2⟩
    simp only [World.cell?] at h1 ⊢
    rw [hsame b hlt hne]; exact h1
  · have h1:=r.mmem b e he
    have hlt:b < w.heap.size:=h1.lt
    have hne:b ≠ blk:=by
      rintro rfl
      rcases hf with h | h
      · omega
      · rw [h.2] at he; cases he
    rw [hsame b hlt hne]; exact h1
theorem args_two_of {g:Gh} {u v:Value} {p q:PV} (h1:Rep g u p) (h2:Rep g v q):Args g #[u,v] [p,q]:=⟨rfl,fun j hj=>by
  match j,hj with
  | 0,_=>exact h1
  | 1,_=>exact h2⟩
section
variable {α : Type} [Inhabited α] {k : Nat} {enc : α → List Value} {encP : α → List PV}
end
end Go.VM
namespace Go.VM
open Go Go.Sort Go.RowKit
variable {α : Type} [Inhabited α]
theorem flatK_one (enc:α → Value) (d:Array α):Sort.flatK (fun x=>[enc x]) 1 d = d.map enc:=by
  apply Array.ext
  · simp
  · intro i h1 h2
    have hi:i < d.size:=by simpa using h2
    simp [Sort.flatK,Nat.mod_one,hi]
theorem putCells_one (enc:α → Value) (off:Nat) (d:Array α) (c:Array Value):putCells enc off d c = putCells (fun v:Value=>v) off (d.map enc) c:=by
  unfold putCells
  congr 1
  funext k x
  simp only [Array.size_map]
  split
  · rename_i h
    have:k - off < d.size:=by omega
    rw [getElem!_pos d _ this,getElem!_pos (d.map enc) _ (by simpa using this)]
    simp
  · rfl
theorem putRow_one (enc:α → Value) (w:World) (b o:Nat) (d:Array α):putRow enc w b o d = putRowK (fun x=>[enc x]) 1 w b o d:=by
  unfold putRowK putRow
  rw [flatK_one]
  congr 1
  funext c
  exact putCells_one enc o d c
theorem holds_cell1 {enc:α → Value} {w:World} {b o:Nat} {d:Array α} (h:HoldsK (fun x=>[enc x]) 1 w b o d):Holds enc w b o d:=by
  unfold HoldsK at h
  rw [flatK_one] at h
  intro j hj
  have:=h j (by simpa using hj)
  rw [getElem!_pos (d.map enc) j (by simpa using hj)] at this
  rw [getElem!_pos d j hj]
  simpa using this
theorem sortWorld_one (enc:α → Value) (w:World) (blk off m:Nat) (d:Array α) (os:Array Obj):Go.Proofs.sortWorld enc w blk off m d os = Go.Proofs.sortWorldK (fun x=>[enc x]) 1 w blk off m d os:=by
  unfold Go.Proofs.sortWorld Go.Proofs.sortWorldK
  rw [putRow_one]
theorem cmpLays1_of {P : Program} {f : FuncId} {enc : α → Value} {encP : α → PV} (hr : ∀ g x, Rep g (enc x) (encP x)) {cf : α → α → Int} (A : ∀ x y, Za8 P f [encP x, encP y] (.int .i64 (cf x y)))
    {g:Gh} {w W:World} {h:Heap} (r:Rel g w h) (blk off size:Nat) (hW:∀ b,b < w.heap.size → b ≠ blk → W.heap[b]? = w.heap[b]?) (hs:w.heap.size ≤ W.heap.size) (hf:w.heap.size ≤ blk ∨ g.free blk) :
    Go.Proofs.CmpLays1 P f #[] enc cf blk off size W:=by
  intro m os dk _ x y
  rw [sortWorld_one]
  have R:=rel_sortK r (fun x=>[enc x]) 1 blk off m dk os hW hs hf
  refine (pcall_grow (A x y) R (args_two_of (hr _ x) (hr _ y))).mono ?_
  rintro e w' ⟨v,m',rfl,h1,h2⟩
  cases h1
  exact ⟨rfl,h2⟩
end Go.VM
