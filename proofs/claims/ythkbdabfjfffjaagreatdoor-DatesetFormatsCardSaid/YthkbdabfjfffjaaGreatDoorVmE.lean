import Derived.Test.YthkbdabfjfffjaaGreatDoorVmD
import Derived.Sort.Grow
import Derived.Shelf.GgSortFunc.RowK
set_option linter.all false
namespace Go.VM
open Go
theorem keep_mem (e:Env):∀ (l:List Nat) (t:Nat),(Env.keep l e).get t = if t ∈ l then e.get t else .any
  | [],t=>by simp [Env.keep,Env.get]
  | k :: l,t=>by
    simp only [Env.keep,Env.get,List.mem_cons]
    by_cases h:k = t
    · subst h; simp
    · rw [if_neg h,keep_mem e l t]
      have:¬ t = k:=fun h'=>h h'.symm
      simp [this]
theorem SimN.keep {N:Nat} {t:Tr} {e:Env} (h:SimN N t e):SimN N t (Env.keep (List.range N) e):=by
  refine ⟨fun n=>?_,fun k hk=>?_⟩
  · rw [keep_mem,h.1 n]
    by_cases hn:n < N
    · simp [hn]
    · rw [h.2 n (by omega)]; simp
  · rw [keep_mem,if_neg (by simpa using hk)]
theorem shp_set {mid h:Heap} (hm:Shp mid h) {id:Nat} {ab ab0:AB} (hg:h.get id = some ab0) (ha:∀ fz z es,ab0 = .arr fz z es → ∃ fz' es',ab = .arr fz' z es'):Shp mid (h.set id ab):=by
  intro i fz z es e
  obtain ⟨fz',es',e'⟩:=hm i fz z es e
  rw [Heap.get_set]
  by_cases hi:id = i
  · subst hi
    rw [if_pos rfl,hg]
    rw [hg] at e'
    simp only [Option.some.injEq] at e'
    obtain ⟨f2,e2,rfl⟩:=ha _ _ _ e'
    exact ⟨f2,e2,by simp⟩
  · rw [if_neg hi]; exact ⟨fz',es',e'⟩
end Go.VM
namespace Go.VM
open Go
structure FnD where
  n : Nat
  rs : List RS
  vc : VC
def HCallOk (call:CX):Prop:=∀ f args h v h',call f args h = some (v,h') → HOk h → HOk h' ∧ h.top ≤ h'.top
theorem CallOk.heap {P:Program} {call:CX} (h:CallOk P call):HCallOk call:=fun f args hh v h' H ok=>(h f args hh v h' H ok).2
def tab:List (Nat × FnD) → Nat → Option FnD
  | [],_=>none
  | (k,d) :: r,f=>bif Nat.beq f k then some d else tab r f
end Go.VM
namespace Go.VM
open Go
def Zbo (P:Program) (h0:Heap) (late:List Bool):Nat → List VOper → (Env → Heap → Prop) → Env → Heap → Prop
  | _,[],K,e,h=>K e h
  | k,o :: r,K,e,h=>match o.op with
    | .store s a v=>o.guard = none ∧ Za5 P e h (.store s a v) (fun v h'=>Zbo P h0 late (k + 1) r K (e.put o.dst v) h')
    | .mapset kk m a v=>o.guard = none ∧ Za5 P e h (.mapset kk m a v) (fun v h'=>Zbo P h0 late (k + 1) r K (e.put o.dst v) h')
    | op=>match op.simple,o.guard with
      | true,_=>False
      | false,none=>QW P (if late.getD k false then h0 else if op.isIaddr then h0 else ⟨[],h0.top⟩) e op true (fun v=>Zbo P h0 late (k + 1) r K (e.put o.dst v) h)
      | false,some (d,want)=>(match (generalizing:=false) guardOf want (e.get d) with
        | some c=>QW P (if late.getD k false then h0 else if op.isIaddr then h0 else ⟨[],h0.top⟩) e op c (fun v=>Zbo P h0 late (k + 1) r K (e.put o.dst v) h)
        | none=>False)
theorem QW.mono {P:Program} {hq:Heap} {e:Env} {op:VOp} {c:Bool} {K1 K2:PV → Prop} (hk:∀ v,K1 v → K2 v) (H:QW P hq e op c K1):QW P hq e op c K2:=by
  unfold QW at H ⊢
  split at H
  · exact ⟨H.1,hk _ H.2⟩
  · obtain ⟨v,v1,v2⟩:=H
    exact ⟨v,v1,hk _ v2⟩
theorem shp_storeV {mid h:Heap} (hm:Shp mid h) (a v:PV):Shp mid (Zba h a v):=by
  unfold Zba
  split
  · split
    · rename_i id i off _ fz z es hg
      exact shp_set hm hg (fun fz' z' es' hh=>by simp only [AB.arr.injEq] at hh; obtain ⟨_,rfl,_⟩:=hh; exact ⟨_,_,rfl⟩)
    · exact hm
  · exact hm
theorem shp_mapsetV {mid h:Heap} {m:PV} (hm:Shp mid h) (hh:Zbg h m) (a v:PV):Shp mid (Zas h m a v):=by
  unfold Zas
  split
  · rename_i id
    simp only [Zbg] at hh
    split at hh
    · rename_i es hg
      exact shp_set hm hg (fun fz z es' hh=>by cases hh)
    · exact hh.elim
  · exact hm
theorem Zbo.quiet {P : Program} {h0 : Heap} {late : List Bool} {k : Nat} {r : List VOper} {K : Env → Heap → Prop} {e : Env} {h : Heap} {dst : Option Nat} {op : VOp} {gd' : Option (Nat × Bool)} {hqf : Nat → Heap} {Z : Nat → Heap → Heap → Prop}
    (hqk:hqf k = if late.getD k false then h0 else if op.isIaddr then h0 else ⟨[],h0.top⟩) (ih:∀ e,Zbo P h0 late (k + 1) r K e h → DrawG P hqf Z (k + 1) r K e h)
    (hs:op.simple = false) (H:match (generalizing:=false) op.simple,gd' with
      | true,_=>False
      | false,none=>QW P (if late.getD k false then h0 else if op.isIaddr then h0 else ⟨[],h0.top⟩) e op true (fun v=>Zbo P h0 late (k + 1) r K (e.put dst v) h)
      | false,some (d,want)=>(match (generalizing:=false) guardOf want (e.get d) with
        | some c=>QW P (if late.getD k false then h0 else if op.isIaddr then h0 else ⟨[],h0.top⟩) e op c (fun v=>Zbo P h0 late (k + 1) r K (e.put dst v) h)
        | none=>False)):DrawG P hqf Z k (⟨dst,op,gd'⟩ :: r) K e h:=by
  rw [hs] at H
  simp only [DrawG,hs,hqk]
  cases gd' with
  | none=>exact H.mono fun v hv=>ih _ hv
  | some dw =>
    obtain ⟨d,want⟩:=dw
    simp only at H ⊢
    cases hg:guardOf want (e.get d) with
    | none=>rw [hg] at H; exact H.elim
    | some c=>rw [hg] at H; exact QW.mono (fun v hv=>ih _ hv) H
theorem Zbo.toG {P : Program} {q0 : List VOper} {h0 : Heap} {late : List Bool} {K : Env → Heap → Prop} : ∀ {q : List VOper} {k : Nat} {e : Env} {h : Heap}, (∀ j, q[j]? = q0[k + j]?) → h.top ≤ h0.top → Zbo P h0 late k q K e h →
    DrawG P (hq3 q0 late h0 h0 ⟨[],h0.top⟩) (zed3 q0 h0 h0 ⟨[],h0.top⟩) k q K e h
  | [],_,_,_,_,_,H=>H
  | ⟨dst,op,gd'⟩ :: r,k,e,h,hq,ht,H=>by
    have h0':q0[k]? = some ⟨dst,op,gd'⟩:=by simpa using (hq 0).symm
    have hq1:∀ j,r[j]? = q0[(k + 1) + j]?:=fun j=>by have:=hq (j + 1); simpa [Nat.add_assoc,Nat.add_comm 1 j] using this
    have hwk:writesAt q0 k = op.writes:=by simp [writesAt,h0']
    have hqk:hq3 q0 late h0 h0 ⟨[],h0.top⟩ k = if late.getD k false then h0 else if op.isIaddr then h0 else ⟨[],h0.top⟩:=by simp only [hq3,h0']
    cases op
    case store s a v =>
      obtain ⟨hg,hok,hk⟩:=H
      have hg':gd' = none:=hg
      subst hg'
      have htop:(Zba h (a.ev e) (v.ev e)).top ≤ h0.top:=by rw [storeV_top]; exact ht
      exact ⟨hok,⟨⟨htop,trivial⟩,(fun hw=>by rw [hwk] at hw; cases hw),fun hm=>shp_storeV hm _ _⟩,Zbo.toG hq1 htop hk⟩
    case mapset kk m a v =>
      obtain ⟨hg,hok,hok2,hk⟩:=H
      have hg':gd' = none:=hg
      subst hg'
      have htop:(Zas h (m.ev e) (a.ev e) (v.ev e)).top ≤ h0.top:=by rw [mapsetV_top]; exact ht
      exact ⟨hok,hok2,⟨⟨htop,trivial⟩,(fun hw=>by rw [hwk] at hw; cases hw),fun hm=>shp_mapsetV hm hok _ _⟩,Zbo.toG hq1 htop hk⟩
    case mv a=>unfold Zbo at H; exact Zbo.quiet hqk (fun e H=>Zbo.toG hq1 ht H) rfl H
    all_goals
      unfold Zbo at H
      first
      | exact Zbo.quiet hqk (fun e H=>Zbo.toG hq1 ht H) rfl H
      | (exfalso; clear hqk hwk h0' hq; revert H; cases gd' <;> exact id)
theorem VW_draw2H {P:Program} {N:Nat} {Q:Exit → Env → Heap → Prop} {e:Env} {h:Heap} {q:List VOper} {late:List Bool} (l:List Nat) (hl:h.le h) (H:Zbo P h late 0 q (fun e' h'=>Q .normal (Env.keep l e') h') e h):VW P N (.draw2 q late) Q e h :=
  VW_draw2 l h h ⟨[],h.top⟩ hl ⟨Nat.le_refl _,trivial⟩ (fun id fz z es e=>⟨fz,es,e⟩) (H.toG (fun j=>by simp) (Nat.le_refl _))
end Go.VM
namespace Go.VM
open Go
section
variable {P : Program} {f : FuncId} {args : List PV} {h : Heap} {K : PV → Heap → Prop}
theorem frz_evo {g:Gh} {w:World} {h:Heap}:Evo g w h (frz g w h) w ⟨[],h.top⟩ :=
  ⟨frz_le g w h,rfl,rfl,rfl,Nat.le_refl _,fun _ _ _=>rfl,
   fun b o v e => by rcases frzM_inv e with h1 | ⟨h1, _⟩
                     · exact .inl h1
                     · exact .inr (.inr h1),
   fun b e he => by rcases frzMM_inv he with h1 | ⟨h1, _⟩
                    · exact .inl h1
                    · exact .inr (.inr h1),
   fun b ⟨id,ab,x,h1,_⟩=>by simp [Heap.get,HL.get] at h1⟩
theorem ACall_f (q:List PV) (hv:Views h args q) (H:Zc2 P f q ⟨[],h.top⟩ K):Zc2 P f args h K:=by
  refine ⟨H.1,fun g w vals r ha=>(H.2 (frz g w h) w vals (frz_rel r) (hv.args r ha)).mono ?_⟩
  rintro x w' ⟨v,p,g',h',h1,h2,h3,h4,h5⟩
  exact ⟨v,p,g',h',h1,h2,h3,h4,frz_evo.trans h5⟩
theorem Zc2.weakenL {h0:Heap} (hl:h0.le h) (H:Zc2 P f args h0 K):Zc2 P f args h K :=
  ⟨H.1,fun g w vals r ha=>(H.2 g w vals (r.weaken hl) ha).mono fun x w' ⟨v,p,g',h',h1,h2,h3,h4,h5⟩=>⟨v,p,g',h',h1,h2,h3,h4,h5.weakenL hl⟩⟩
end
end Go.VM
namespace Go.VM
open Go
def PCallS (P:Program) (f:FuncId) (args:List PV) (S:PV → Prop):Prop :=
  fnOk P f = true ∧ Zce args ∧ ∀ g w (vals:Array Value),Rel g w Heap.nil → Args g vals args →
    Calls P f vals w fun x w'=>∃ v p m',x = .returned v ∧ S p ∧ Rep ⟨m',fun _=>none⟩ v p ∧ MemExt g w m' w' ∧ RowKit.Below w.heap.size w w'
theorem PCallS.mono {P:Program} {f:FuncId} {args:List PV} {S S':PV → Prop} (H:PCallS P f args S) (hs:∀ p,S p → S' p):PCallS P f args S' :=
  ⟨H.1,H.2.1,fun g w vals r ha=>(H.2.2 g w vals r ha).mono fun x w' ⟨v,p,m',h1,h2,h3⟩=>⟨v,p,m',h1,hs p h2,h3⟩⟩
end Go.VM
namespace Go.VM
open Go Go.Sort
structure Plain (α : Type) (k : Nat) (enc : α → List Value) (encP : α → List PV) : Prop where
  len : ∀ x, (enc x).length = k
  lenP : ∀ x, (encP x).length = k
  one : ∀ x, ∀ v ∈ enc x, v.oneCell' = true
  rep : ∀ g x j, j < k → Rep g ((enc x).getD j Go.undef) (PV.nth (encP x) j)
  inv : ∀ g v x j, j < k → Rep g v (PV.nth (encP x) j) → v = (enc x).getD j Go.undef
section
variable {α : Type} [Inhabited α] {k : Nat} {enc : α → List Value} {encP : α → List PV} {g : Gh} {w : World} {h : Heap}
theorem flat_get (hp:Plain α k enc encP) (d:Array α) (i j:Nat) (hi:i < d.size) (hj:j < k):(Sort.flatK enc k d).getD (i * k + j) Go.undef = (enc d[i]!).getD j Go.undef:=by
  have hlt:i * k + j < d.size * k:=Zcl hi hj
  have h1:=Sort.get_flatK enc k d (i * k + j) hlt
  have e1:(i * k + j) / k = i:=by
    rw [Nat.mul_comm,Nat.mul_add_div (by omega),Nat.div_eq_of_lt hj,Nat.add_zero]
  have e2:(i * k + j) % k = j:=by rw [Nat.add_comm,Nat.add_mul_mod_self_right,Nat.mod_eq_of_lt hj]
  rw [e1,e2] at h1
  have hs:i * k + j < (Sort.flatK enc k d).size:=by simp; exact hlt
  rw [getElem!_pos (Sort.flatK enc k d) (i * k + j) hs] at h1
  have hl:j < (enc d[i]!).length:=by rw [hp.len]; exact hj
  rw [getElem!_pos (enc d[i]!) j hl] at h1
  rw [Array.getD_eq_getD_getElem?,Array.getElem?_eq_getElem hs,Option.getD_some,h1,List.getD_eq_getElem?_getD,List.getElem?_eq_getElem hl,Option.getD_some]
theorem rows_in (hp:Plain α k enc encP) (d:Array α):RowsIn g (Sort.flatK enc k d).toList k (d.toList.map encP):=by
  refine ⟨by simp,fun i j hi hj=>?_⟩
  simp only [List.length_map,Array.length_toList] at hi
  have e1:(Sort.flatK enc k d).toList.getD (i * k + j) Go.undef = (Sort.flatK enc k d).getD (i * k + j) Go.undef:=by simp [Array.getD_eq_getD_getElem?]
  have e2:PV.row (d.toList.map encP) i = encP d[i]!:=by simp [PV.row,List.getD_eq_getElem?_getD,hi]
  rw [e1,e2,flat_get hp d i j hi hj]
  refine ⟨hp.one d[i]! _ ?_,hp.rep g _ j hj⟩
  have hl:j < (enc d[i]!).length:=by rw [hp.len]; exact hj
  simp [List.getD_eq_getElem?_getD,hl]
theorem holds_own (hp : Plain α k enc encP) (hk : k ≠ 0) (r : Rel g w h) {id off len : Nat} {es : List (List PV)} {v : Value} (hv : Rep g v (.own id off len)) (hg : h.get id = some (.arr false k es)) (hle : off + len ≤ es.length) (d : Array α) (hd : (es.drop off).take len = d.toList.map encP) :
    (len = 0 ∧ ∃ ao cap,v = .slice ao 0 cap) ∨ ∃ cap b o n c tt,v = .slice (some ⟨b,o + off * k,none⟩) len cap ∧ d.size = len ∧ g.β id = some (b,o,n,k) ∧ b < w.heap.size ∧ w.heap[b]? = some (.cells c tt (0,0)) ∧ o + off * k + len * k ≤ c.size ∧
      HoldsK enc k w b (o + off * k) d:=by
  have hsz:d.size = len:=by
    have:=congrArg List.length hd
    simp at this
    omega
  rcases own_seen r hv hg hle with ⟨h0,ao,rfl⟩ | ⟨cap,b,o,n,c,tt,rfl,hb,hc,hn,hlt,h1,h2,hra⟩
  · exact .inl ⟨h0,ao,0,rfl⟩
  · have hck:len * k ≤ cap * k:=Nat.mul_le_mul_right _ hc
    refine .inr ⟨cap,b,o,n,c,tt,rfl,hsz,hb,hlt,h1,by omega,fun t ht=>?_⟩
    simp only [Sort.size_flatK] at ht
    obtain ⟨s1,s2,s3⟩:=rows_split ht
    obtain ⟨v,e1,e2,e3⟩:=hra (t / k) (t % k) (by rw [hd]; simpa using s1) s2
    have hrow:PV.row ((es.drop off).take len) (t / k) = encP d[t / k]!:=by rw [hd]; simp [PV.row,List.getD_eq_getElem?_getD,s1]
    rw [hrow] at e3
    have hv:=hp.inv g v d[t / k]! (t % k) s2 e3
    have hadd:o + off * k + t / k * k + t % k = o + off * k + t:=by omega
    rw [hadd] at e1
    refine ⟨?_,by simp [World.frozen?,h1]⟩
    rw [e1]
    have hg:=flat_get hp d (t / k) (t % k) s1 s2
    rw [s3] at hg
    have hs:t < (Sort.flatK enc k d).size:=by simp; exact ht
    rw [getElem!_pos (Sort.flatK enc k d) t hs]
    show some v = some (Sort.flatK enc k d)[t]
    rw [hv,← hg,Array.getD_eq_getD_getElem?,Array.getElem?_eq_getElem hs,Option.getD_some]
theorem sorted_back (hp : Plain α k enc encP) (r : Rel g w h) {id off len b o n : Nat} {c : Array Value} {tt : TypeId} {es : List (List PV)} (hg : h.get id = some (.arr false k es)) (hle : off + len ≤ es.length) (hβ : g.β id = some (b, o, n, k)) (hc : w.heap[b]? = some (.cells c tt (0, 0)))
    (hfit:o + off * k + len * k ≤ c.size) (d':Array α) (hd:d'.size = len) (m:Nat) (os:Array Obj) :
    Rel g (grow (putRowK enc k (Sort.ahead w m) b (o + off * k) d') os) (h.set id (.arr false k (es.take off ++ d'.toList.map encP ++ es.drop (off + len)))) ∧
      Evo g w h g (grow (putRowK enc k (Sort.ahead w m) b (o + off * k) d') os) (h.set id (.arr false k (es.take off ++ d'.toList.map encP ++ es.drop (off + len)))):=by
  have hblk:b < w.heap.size:=(Array.getElem?_eq_some_iff.1 hc).1
  have hheap:(grow (putRowK enc k (Sort.ahead w m) b (o + off * k) d') os).heap[b]? = some (.cells (putCells (fun v:Value=>v) (o + off * k) (Sort.flatK enc k d') c) tt (0,0)):=by
    show ((Sort.putRowK enc k (Sort.ahead w m) b (o + off * k) d').heap ++ os)[b]? = _
    have h1:(Sort.putRowK enc k (Sort.ahead w m) b (o + off * k) d').heap = w.heap.modify b (onCells (putCells (fun v:Value=>v) (o + off * k) (Sort.flatK enc k d'))):=rfl
    rw [h1,Array.getElem?_append_left (by simpa using hblk),Array.getElem?_modify,if_pos rfl,hc]
    rfl
  have hsame:∀ j,j < w.heap.size → j ≠ b → (grow (putRowK enc k (Sort.ahead w m) b (o + off * k) d') os).heap[j]? = w.heap[j]?:=by
    intro j hj hne
    show ((Sort.putRowK enc k (Sort.ahead w m) b (o + off * k) d').heap ++ os)[j]? = _
    have h1:(Sort.putRowK enc k (Sort.ahead w m) b (o + off * k) d').heap = w.heap.modify b (onCells (putCells (fun v:Value=>v) (o + off * k) (Sort.flatK enc k d'))):=rfl
    rw [h1,Array.getElem?_append_left (by simpa using hj),Array.getElem?_modify,if_neg (Ne.symm hne)]
  have hlen:(d'.toList.map encP).length = len:=by simp [hd]
  have:=rows_write r (off:=off) (news:=d'.toList.map encP) (cs:=(Sort.flatK enc k d').toList) hg hβ (rows_in hp d') (fun i hi=>by simp at hi; simp [PV.row,List.getD_eq_getElem?_getD,hi,hp.lenP]) (by rw [hlen]; exact hle) (grow (putRowK enc k (Sort.ahead w m) b (o + off * k) d') os) c (putCells (fun v:Value=>v) (o + off * k) (Sort.flatK enc k d') c) tt hc hheap
    (by simp [putCells]) (fun t ht=>by
      simp only [Array.length_toList,Sort.size_flatK,hd] at ht
      have hlt:o + off * k + t < c.size:=by omega
      have hfl:t < (Sort.flatK enc k d').size:=by simp [hd]; exact ht
      have hcond:o + off * k ≤ o + off * k + t ∧ o + off * k + t < o + off * k + (Sort.flatK enc k d').size:=⟨by omega,by omega⟩
      have hsub:o + off * k + t - (o + off * k) = t:=by omega
      simp only [putCells,Array.getD_eq_getD_getElem?,Array.getElem?_mapIdx,Array.getElem?_eq_getElem hlt,Option.map_some,if_pos hcond,hsub,Option.getD_some]
      rw [getElem!_pos (Sort.flatK enc k d') t hfl]
      rw [List.getD_eq_getElem?_getD,Array.getElem?_toList,Array.getElem?_eq_getElem hfl,Option.getD_some]) (fun t ht=>by
      simp only [Array.length_toList,Sort.size_flatK,hd] at ht
      have hcond:¬ (o + off * k ≤ t ∧ t < o + off * k + (Sort.flatK enc k d').size):=by simp [hd]; omega
      simp only [putCells,Array.getD_eq_getD_getElem?,Array.getElem?_mapIdx,if_neg hcond]
      cases c[t]? <;> rfl) hsame (by
      show w.heap.size ≤ ((Sort.putRowK enc k (Sort.ahead w m) b (o + off * k) d').heap ++ os).size
      have h1:(Sort.putRowK enc k (Sort.ahead w m) b (o + off * k) d').heap = w.heap.modify b (onCells (putCells (fun v:Value=>v) (o + off * k) (Sort.flatK enc k d'))):=rfl
      rw [h1]; simp) rfl rfl rfl
  rw [hlen] at this
  exact this
end
end Go.VM
