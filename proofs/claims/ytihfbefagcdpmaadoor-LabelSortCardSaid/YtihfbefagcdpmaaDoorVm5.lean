import Derived.Test.YtihfbefagcdpmaaDoorVm1
import Derived.Laws.CopyRow
import Derived.Laws.Cover3
set_option linter.all false
namespace Go.VM
open Go
theorem AB.ok_move {g g':Gh} {w w':World} {b o n z:Nat} {ab:AB} (h:ab.ok g w b o n z) (hg:g.le g') (hw:w'.heap[b]? = w.heap[b]?):ab.ok g' w' b o n z:=by
  cases ab with
  | arr fz z' es =>
    obtain ⟨h1,h2,h3,c,e,h4,h5,h6⟩:=h
    exact ⟨h1,h2,h3,c,e,by rw [hw]; exact h4,h5,fun i j hi hj=>⟨(h6 i j hi hj).1,(h6 i j hi hj).2.1.mono hg,fun hf=>hg.1 _ _ _ ((h6 i j hi hj).2.2 hf)⟩⟩
  | map es =>
    obtain ⟨ents,clock,h1,h2,h3,h4⟩:=h
    exact ⟨ents,clock,by rw [hw]; exact h1,h2,fun i e p he hp=>⟨(h3 i e p he hp).1.mono hg,(h3 i e p he hp).2.mono hg⟩,h4⟩
  | miter es seen =>
    obtain ⟨h0,m,ents,clock,stamps,h1,h2,h3,h4,h5⟩:=h
    exact ⟨h0,m,ents,clock,stamps,by rw [hw]; exact h1,hg.2.2 _ _ h2,h3,fun i e p he hp=>⟨(h4 i e p he hp).1.mono hg,(h4 i e p he hp).2.mono hg⟩,h5⟩
  | bld T k bf =>
    obtain ⟨h0,p,v,h1,h2,h3⟩:=h
    refine ⟨h0,p,v,by rw [hw]; exact h1,h2,?_⟩
    cases bf with
    | none=>exact h3
    | some id2 =>
      obtain ⟨gb,cap,k1,k2⟩:=h3
      exact ⟨gb,cap,hg.2.1 _ _ k1,k2⟩
  | buf e s =>
    obtain ⟨h0,h1,h2,cur,h3,h4⟩:=h
    exact ⟨h0,h1,h2,cur,by rw [hw]; exact h3,h4⟩
def Zba (h:Heap):Option Nat → Heap
  | none=>h
  | some i=>h.del i
theorem killed_top (h:Heap) (k:Option Nat):(Zba h k).top = h.top:=by cases k <;> rfl
theorem killed_le {h:Heap} {k:Option Nat} {id:Nat} {ab:AB} (e:(Zba h k).get id = some ab):h.get id = some ab ∧ k ≠ some id:=by
  cases k with
  | none=>exact ⟨e,by simp⟩
  | some i =>
    simp only [Zba,Heap.get_del] at e
    split at e
    · cases e
    · rename_i hne; exact ⟨e,by simp [hne]⟩
theorem Rel.cell_move {g : Gh} {w w' : World} {h : Heap} (r : Rel g w h) {b0 : Nat} (hb0 : w.heap.size ≤ b0 ∨ g.free b0) (hw : ∀ k, k < w.heap.size → k ≠ b0 → w'.heap[k]? = w.heap[k]?)
    (b o:Nat) (v:Value) (hm:g.m b o = some v):w'.cell? ⟨b,o,none⟩ = some v ∧ v.oneCell' = true:=by
  obtain ⟨h1,h2⟩:=r.mem b o v hm
  refine ⟨?_,h2⟩
  have hlt:b < w.heap.size:=by
    rcases Nat.lt_or_ge b w.heap.size with h | h
    · exact h
    · simp [World.cell?,Array.getElem?_eq_none h] at h1
  have hne:b ≠ b0:=by
    rintro rfl
    rcases hb0 with h | h
    · omega
    · rw [h.1] at hm; cases hm
  have:=hw b hlt hne
  simpa [World.cell?,this] using h1
theorem Rel.map_move {g : Gh} {w w' : World} {h : Heap} (r : Rel g w h) {b0 : Nat} (hb0 : w.heap.size ≤ b0 ∨ g.free b0) (hw : ∀ k, k < w.heap.size → k ≠ b0 → w'.heap[k]? = w.heap[k]?)
    (b:Nat) (e:MK) (hm:g.m.mm b = some e):e.At w'.heap[b]?:=by
  have h1:=r.mmem b e hm
  have hlt:b < w.heap.size:=h1.lt
  have hne:b ≠ b0:=by
    rintro rfl
    rcases hb0 with h | h
    · omega
    · rw [h.2] at hm; cases hm
  rw [hw b hlt hne]; exact h1
theorem Rel.put {g : Gh} {w : World} {h : Heap} (r : Rel g w h) (kill : Option Nat) (b0 o n z : Nat) (ab : AB) (w' : World)
    (hb0:w.heap.size ≤ b0 ∨ ∃ ia abx y,kill = some ia ∧ h.get ia = some abx ∧ abx.live = true ∧ g.β ia = some y ∧ y.1 = b0)
    (hw:∀ k,k < w.heap.size → k ≠ b0 → w'.heap[k]? = w.heap[k]?) (hsz:w.heap.size ≤ w'.heap.size) (hlt:b0 < w'.heap.size) (ho:w'.os = w.os) (ht:w'.tape = w.tape) (hout:w'.output = w.output)
    (hlive:ab.live = true) (hok:∀ g',g.le g' → ab.ok g' w' b0 o n z) :
    ∃ g',g.le g' ∧ g'.m = g.m ∧ g'.β h.top = some (b0,o,n,z) ∧ Rel g' w' ((Zba h kill).push ab) ∧ Evo g w h g' w' ((Zba h kill).push ab):=by
  have hkt:=killed_top h kill
  generalize hid:h.top = id at *
  have hid0:g.β id = none:=(r.fin id (by omega)).1
  have hfr:h.get id = none:=(r.fin id (by omega)).2
  let g':Gh:=⟨g.m,fun i=>if i = id then some (b0,o,n,z) else g.β i⟩
  have hle:g.le g':=⟨fun _ _ _ e=>e,fun i x e=>by
    show (if i = id then _ else _) = _
    rw [if_neg (by rintro rfl; rw [hid0] at e; cases e)]; exact e,fun _ _ e=>e⟩
  have hself:g'.β id = some (b0,o,n,z):=by show (if id = id then _ else _) = _; rw [if_pos rfl]
  have hother:∀ i,i ≠ id → g'.β i = g.β i:=fun i hi=>by show (if i = id then _ else _) = _; rw [if_neg hi]
  have hno:w.heap.size ≤ b0 ∨ g.free b0:=by
    rcases hb0 with h1 | ⟨ia,abx,y,rfl,e1,e2,e3,e4⟩
    · exact .inl h1
    · right
      rcases r.blk ia abx e1 with ⟨hn,_⟩ | ⟨b,o',n',z',hb,_,hm,_⟩
      · rw [e3] at hn; cases hn
      · rw [e3] at hb; simp only [Option.some.injEq] at hb; subst hb; subst e4; exact hm e2
  have hget:∀ i ab',((Zba h kill).push ab).get i = some ab' → (i = id ∧ ab' = ab) ∨ (i ≠ id ∧ h.get i = some ab' ∧ kill ≠ some i):=by
    intro i ab' e
    rw [Heap.get_push,hkt] at e
    by_cases hi:id = i
    · subst hi; simp only [if_true,Option.some.injEq] at e; exact .inl ⟨rfl,e.symm⟩
    · simp only [if_neg hi] at e
      obtain ⟨e1,e2⟩:=killed_le e
      exact .inr ⟨fun h=>hi h.symm,e1,e2⟩
  have hdiff:∀ i ab' x,h.get i = some ab' → kill ≠ some i → g.β i = some x → x.1 < w.heap.size → x.1 ≠ b0:=by
    intro i ab' x e hk hx hlt' heq
    rcases hb0 with h1 | ⟨ia,abx,y,rfl,e1,e2,e3,e4⟩
    · omega
    · exact r.apart ia i y x abx ab' (fun hh=>hk (by rw [hh])) e1 e (by simp [e2]) e3 hx (by rw [e4,heq])
  refine ⟨g',hle,rfl,hself,⟨?_,?_,?_,?_,?_⟩,⟨hle,ho,ht,hout,hsz,?_,?_,?_,?_⟩⟩
  · exact fun b x v e=>r.cell_move hno hw b x v e
  · exact fun b e he=>r.map_move hno hw b e he
  · intro i hi
    have hi' : id + 1 ≤ i := by have : ((Zba h kill).push ab).top = id + 1 := by simp [Heap.push, hkt]
                                omega
    refine ⟨by rw [hother i (by omega)]; exact (r.fin i (by omega)).1,?_⟩
    cases e:((Zba h kill).push ab).get i with
    | none=>rfl
    | some ab' =>
      rcases hget i ab' e with ⟨h1,_⟩ | ⟨_,h1,_⟩
      · omega
      · rw [(r.fin i (by omega)).2] at h1; cases h1
  · intro i ab' e
    rcases hget i ab' e with ⟨rfl,rfl⟩ | ⟨hi,e1,hk⟩
    · refine .inr ⟨b0,o,n,z,hself,hlt,fun _=>?_,hok g' hle⟩
      rcases hno with h1 | h1
      · refine ⟨fun x=>?_,?_⟩
        · show g.m b0 x = none
          cases hm:g.m b0 x with
          | none=>rfl
          | some v =>
            have:=(r.mem b0 x v hm).1
            simp [World.cell?,Array.getElem?_eq_none h1] at this
        · show g.m.mm b0 = none
          cases hm:g.m.mm b0 with
          | none=>rfl
          | some e =>
            have hc:=(r.mmem b0 e hm).lt
            omega
      · exact h1
    · rw [hother i hi]
      rcases r.blk i ab' e1 with h1 | ⟨b,o',n',z',hb,hlt',hm,hokk⟩
      · exact .inl h1
      · exact .inr ⟨b,o',n',z',hb,by omega,hm,AB.ok_move hokk hle (hw b hlt' (hdiff i ab' _ e1 hk hb hlt'))⟩
  · intro i i' x x' abi abi' hne e e' hl hx hx'
    rcases hget i abi e with ⟨rfl,rfl⟩ | ⟨hi,e1,hk⟩ <;> rcases hget i' abi' e' with ⟨rfl,rfl⟩ | ⟨hi',e1',hk'⟩
    · exact absurd rfl hne
    · rw [hself] at hx; simp only [Option.some.injEq] at hx; subst hx
      rw [hother i' hi'] at hx'
      rcases r.blk i' abi' e1' with ⟨h1,_⟩ | ⟨b,o',n',z',hb,hlt',_,_⟩
      · rw [hx'] at h1; cases h1
      · rw [hx'] at hb; simp only [Option.some.injEq] at hb; subst hb
        exact fun hh=>hdiff i' abi' _ e1' hk' hx' hlt' hh.symm
    · rw [hself] at hx'; simp only [Option.some.injEq] at hx'; subst hx'
      rw [hother i hi] at hx
      rcases r.blk i abi e1 with ⟨h1,_⟩ | ⟨b,o',n',z',hb,hlt',_,_⟩
      · rw [hx] at h1; cases h1
      · rw [hx] at hb; simp only [Option.some.injEq] at hb; subst hb
        exact fun hh=>hdiff i abi _ e1 hk hx hlt' hh
    · rw [hother i hi] at hx; rw [hother i' hi'] at hx'
      exact r.apart i i' x x' abi abi' hne e1 e1' hl hx hx'
  · intro b hb hnot
    refine hw b hb (fun heq=>?_)
    rcases hb0 with h1 | ⟨ia,abx,y,rfl,e1,e2,e3,e4⟩
    · omega
    · exact hnot ⟨ia,abx,y,e1,e2,e3,by rw [e4,heq]⟩
  · exact fun b o v e=>.inl e
  · exact fun b e he=>.inl he
  · rintro b ⟨i,ab',x,e,hl,hx,rfl⟩
    rcases hget i ab' e with ⟨rfl,rfl⟩ | ⟨hi,e1,hk⟩
    · rw [hself] at hx; simp only [Option.some.injEq] at hx; subst hx
      rcases hb0 with h1 | ⟨ia,abx,y,rfl,e1,e2,e3,e4⟩
      · exact .inr h1
      · exact .inl ⟨ia,abx,y,e1,e2,e3,e4⟩
    · rw [hother i hi] at hx
      exact .inl ⟨i,ab',x,e1,hl,hx,rfl⟩
theorem Rel.set {g : Gh} {w : World} {h : Heap} (r : Rel g w h) {id b0 o n z : Nat} {ab0 ab : AB} (hg : h.get id = some ab0) (hl0 : ab0.live = true) (hβ : g.β id = some (b0, o, n, z)) (w' : World)
    (hw:∀ k,k < w.heap.size → k ≠ b0 → w'.heap[k]? = w.heap[k]?) (hsz:w.heap.size ≤ w'.heap.size) (ho:w'.os = w.os) (ht:w'.tape = w.tape) (hout:w'.output = w.output)
    (hlive:ab.live = true) (hok:ab.ok g w' b0 o n z):Rel g w' (h.set id ab) ∧ Evo g w h g w' (h.set id ab):=by
  have hno:g.free b0:=by
    rcases r.blk id ab0 hg with ⟨hn,_⟩ | ⟨b,o',n',z',hb,_,hm,_⟩
    · rw [hβ] at hn; cases hn
    · rw [hβ] at hb; simp only [Option.some.injEq,Prod.mk.injEq] at hb; obtain ⟨rfl,_⟩:=hb; exact hm hl0
  have hlt0:b0 < w.heap.size:=by
    rcases r.blk id ab0 hg with ⟨hn,_⟩ | ⟨b,o',n',z',hb,hlt,hm,_⟩
    · rw [hβ] at hn; cases hn
    · rw [hβ] at hb; simp only [Option.some.injEq,Prod.mk.injEq] at hb; obtain ⟨rfl,_⟩:=hb; exact hlt
  have hget:∀ i ab',(h.set id ab).get i = some ab' → (i = id ∧ ab' = ab) ∨ (i ≠ id ∧ h.get i = some ab'):=by
    intro i ab' e
    rw [Heap.get_set,hg] at e
    split at e
    · rename_i hi; simp at e; exact .inl ⟨hi.symm,e.symm⟩
    · rename_i hi; exact .inr ⟨fun h=>hi h.symm,e⟩
  refine ⟨⟨fun b x v e => r.cell_move (.inr hno) hw b x v e, fun b e he => r.map_move (.inr hno) hw b e he, fun i hi => ⟨(r.fin i hi).1, by
      rw [Heap.get_set,hg]
      split
      · rename_i hii; subst hii; rw [(r.fin id hi).2] at hg; cases hg
      · exact (r.fin i hi).2⟩,?_,?_⟩,⟨g.le_refl,ho,ht,hout,hsz,?_,fun b o v e=>.inl e,fun b e he=>.inl he,?_⟩⟩
  · intro i ab' e
    rcases hget i ab' e with ⟨rfl,rfl⟩ | ⟨hi,e1⟩
    · exact .inr ⟨b0,o,n,z,hβ,by omega,fun _=>hno,hok⟩
    · rcases r.blk i ab' e1 with h1 | ⟨b,o',n',z',hb,hlt',hm,hokk⟩
      · exact .inl h1
      · refine .inr ⟨b,o',n',z',hb,by omega,hm,AB.ok_move hokk g.le_refl (hw b hlt' (fun heq=>?_))⟩
        exact r.apart id i _ _ ab0 ab' (Ne.symm hi) hg e1 (by simp [hl0]) hβ hb (by rw [heq])
  · intro i i' x x' abi abi' hne e e' hl hx hx'
    rcases hget i abi e with ⟨rfl,rfl⟩ | ⟨hi,e1⟩ <;> rcases hget i' abi' e' with ⟨rfl,rfl⟩ | ⟨hi',e1'⟩
    · exact absurd rfl hne
    · exact r.apart i i' x x' ab0 abi' hne hg e1' (by simp [hl0]) hx hx'
    · exact r.apart i i' x x' abi ab0 hne e1 hg (by simp [hl0]) hx hx'
    · exact r.apart i i' x x' abi abi' hne e1 e1' hl hx hx'
  · intro b hb hnot
    exact hw b hb (fun heq=>hnot ⟨id,ab0,_,hg,hl0,hβ,by rw [heq]⟩)
  · rintro b ⟨i,ab',x,e,hl,hx,rfl⟩
    rcases hget i ab' e with ⟨rfl,rfl⟩ | ⟨hi,e1⟩
    · exact .inl ⟨i,ab0,x,hg,hl0,hx,rfl⟩
    · exact .inl ⟨i,ab',x,e1,hl,hx,rfl⟩
theorem Rel.none {g : Gh} {w : World} {h : Heap} (r : Rel g w h) (kill : Option Nat) (z : Nat) (w' : World) (hww : w'.heap = w.heap) (ho : w'.os = w.os) (ht : w'.tape = w.tape) (hout : w'.output = w.output) :
    Rel g w' ((Zba h kill).push (.arr false z [])) ∧ Evo g w h g w' ((Zba h kill).push (.arr false z [])):=by
  have hkt:=killed_top h kill
  have hid0:g.β h.top = Option.none:=(r.fin _ (Nat.le_refl _)).1
  have hget:∀ i ab',((Zba h kill).push (.arr false z [])).get i = some ab' → (i = h.top ∧ ab' = .arr false z []) ∨ (i ≠ h.top ∧ h.get i = some ab'):=by
    intro i ab' e
    rw [Heap.get_push,hkt] at e
    by_cases hi:h.top = i
    · rw [if_pos hi] at e; simp only [Option.some.injEq] at e; exact .inl ⟨hi.symm,e.symm⟩
    · rw [if_neg hi] at e
      exact .inr ⟨fun h=>hi h.symm,(killed_le e).1⟩
  refine ⟨⟨fun b o v e=>?_,fun b e he=>by rw [hww]; exact r.mmem b e he,?_,?_,?_⟩,⟨g.le_refl,ho,ht,hout,by rw [hww]; exact Nat.le_refl _,fun b _ _=>by rw [hww],fun b o v e=>.inl e,fun b e he=>.inl he,?_⟩⟩
  · have:=r.mem b o v e
    simpa [World.cell?,hww] using this
  · intro i hi
    have hi' : h.top + 1 ≤ i := by have : ((Zba h kill).push (.arr false z [])).top = h.top + 1 := by simp [Heap.push, hkt]
                                   omega
    refine ⟨(r.fin i (by omega)).1,?_⟩
    cases e:((Zba h kill).push (.arr false z [])).get i with
    | none=>rfl
    | some ab' =>
      rcases hget i ab' e with ⟨h1,_⟩ | ⟨_,h1⟩
      · omega
      · rw [(r.fin i (by omega)).2] at h1; cases h1
  · intro i ab' e
    rcases hget i ab' e with ⟨rfl,rfl⟩ | ⟨hi,e1⟩
    · exact .inl ⟨hid0,_,_,rfl⟩
    · rcases r.blk i ab' e1 with h1 | ⟨b,o',n',z',hb,hlt',hm,hokk⟩
      · exact .inl h1
      · exact .inr ⟨b,o',n',z',hb,by rw [hww]; exact hlt',hm,AB.ok_move hokk g.le_refl (by rw [hww])⟩
  · intro i i' x x' abi abi' hne e e' hl hx hx'
    rcases hget i abi e with ⟨rfl,rfl⟩ | ⟨hi,e1⟩
    · rw [hid0] at hx; cases hx
    · rcases hget i' abi' e' with ⟨rfl,rfl⟩ | ⟨hi',e1'⟩
      · rw [hid0] at hx'; cases hx'
      · exact r.apart i i' x x' abi abi' hne e1 e1' hl hx hx'
  · rintro b ⟨i,ab',x,e,hl,hx,rfl⟩
    rcases hget i ab' e with ⟨rfl,rfl⟩ | ⟨hi,e1⟩
    · rw [hid0] at hx; cases hx
    · exact .inl ⟨i,ab',x,e1,hl,hx,rfl⟩
end Go.VM
namespace Go.VM
open Go
def Zau (h:Heap):PV → List (List PV)
  | .sl _ es=>es
  | .own id off len=>(match h.get id with
    | some (.arr _ _ es)=>(es.drop off).take len
    | _=>[])
  | .str s=>s.map fun c=>[.int .u8 (c.toNat:Int)]
  | _=>[]
def srcOk (h:Heap) (str:Bool) (z:Nat):PV → Prop
  | .sl z' _=>str = false ∧ z' = z
  | .own id off len=>str = false ∧ (match h.get id with
    | some (.arr _ z' es)=>z' = z ∧ off + len ≤ es.length
    | _=>False)
  | .nilsl=>str = false
  | .str _=>str = true ∧ z = 1
  | _=>False
def Za7 (h:Heap):PV → List (List PV)
  | .own id off len=>(match h.get id with
    | some (.arr _ _ es)=>(es.drop off).take len
    | _=>[])
  | _=>[]
def oldOk (h:Heap) (z:Nat):PV → Prop
  | .nilsl=>True
  | .own id off len=>(match h.get id with
    | some (.arr fz z' es)=>fz = false ∧ z' = z ∧ off + len ≤ es.length
    | _=>False)
  | _=>False
def oldId:PV → Option Nat
  | .own id _ _=>some id
  | _=>none
def RowsAt (g:Gh) (w:World) (b o z:Nat) (rows:List (List PV)):Prop :=
  ∀ i j,i < rows.length → j < z → ∃ v,w.cell? ⟨b,o + i * z + j,none⟩ = some v ∧ v.oneCell' = true ∧ Rep g v (PV.nth (PV.row rows i) j)
def RowsIn (g:Gh) (cs:List Value) (z:Nat) (rows:List (List PV)):Prop :=
  cs.length = rows.length * z ∧ ∀ i j,i < rows.length → j < z → (cs.getD (i * z + j) Go.undef).oneCell' = true ∧ Rep g (cs.getD (i * z + j) Go.undef) (PV.nth (PV.row rows i) j)
theorem Zax {n z i j:Nat} (hi:i < n) (hj:j < z):i * z + j < n * z:=by
  have h1:(i + 1) * z ≤ n * z:=Nat.mul_le_mul_right _ hi
  rw [Nat.succ_mul] at h1
  omega
theorem rows_split {n z k:Nat} (hk:k < n * z):k / z < n ∧ k % z < z ∧ k / z * z + k % z = k:=by
  have hz:0 < z:=by
    rcases Nat.eq_zero_or_pos z with rfl | h
    · simp at hk
    · exact h
  exact ⟨(Nat.div_lt_iff_lt_mul hz).2 hk,Nat.mod_lt _ hz,by rw [Nat.mul_comm]; exact Nat.div_add_mod k z⟩
theorem RowsAt.load {P : Program} {g : Gh} {w : World} {b o z : Nat} {rows : List (List PV)} (h : RowsAt g w b o z rows) (w' : World) (hw : w'.heap = w.heap) :
    ∃ cs:List Value,(loadCells ⟨b,o,none⟩ (rows.length * z)).run P w' = .ok cs.toArray w' ∧ RowsIn g cs z rows:=by
  have hadd:∀ j,(⟨b,o,none⟩:Addr).add j = ⟨b,o + j,none⟩:=fun j=>by by_cases h:j = 0 <;> simp [Addr.add,h]
  have hc:∀ a,w'.cell? a = w.cell? a:=fun a=>by simp [World.cell?,hw]
  let f:Nat → Value:=fun k=>(w.cell? ⟨b,o + k,none⟩).getD Go.undef
  have hf:∀ k,k < rows.length * z → w'.cell? ((⟨b,o,none⟩:Addr).add k) = some (f k):=by
    intro k hk
    obtain ⟨h1,h2,h3⟩:=rows_split hk
    obtain ⟨v,hv,_,_⟩:=h _ _ h1 h2
    rw [Nat.add_assoc,h3] at hv
    rw [hadd,hc,hv]
    simp [f,hv]
  refine ⟨(List.range (rows.length * z)).map f,run_loadCells w' _ _ f hf,by simp,fun i j hi hj=>?_⟩
  have hk:=Zax hi hj
  obtain ⟨v,hv,h1,h2⟩:=h i j hi hj
  have e1:((List.range (rows.length * z)).map f).getD (i * z + j) Go.undef = v:=by
    simp only [List.getD_eq_getElem?_getD,List.getElem?_map,List.getElem?_range hk,Option.map_some,Option.getD_some,f]
    rw [← Nat.add_assoc,hv]; rfl
  rw [e1]; exact ⟨h1,h2⟩
section
variable {P : Program} {g : Gh} {w : World} {h : Heap}
theorem own_seen (r : Rel g w h) {id off len : Nat} {fz : Bool} {z : Nat} {es : List (List PV)} {v : Value} (hv : Rep g v (.own id off len)) (hg : h.get id = some (.arr fz z es)) (hle : off + len ≤ es.length) :
    (len = 0 ∧ ∃ ao,v = .slice ao 0 0) ∨
    ∃ cap b o n c ty,v = .slice (some ⟨b,o + off * z,none⟩) len cap ∧ g.β id = some (b,o,n,z) ∧ len ≤ cap ∧ o + off * z + cap * z ≤ n ∧ b < w.heap.size ∧ w.heap[b]? = some (.cells c ty (0,0)) ∧ c.size = n ∧
      RowsAt g w b (o + off * z) z ((es.drop off).take len):=by
  cases hv with
  | ownE ao=>exact .inl ⟨rfl,ao,rfl⟩
  | own _ _ _ cap b o n z' a hb ha hc hn =>
    subst ha
    rcases r.blk id _ hg with ⟨hb0,_⟩ | ⟨b',o',n',z'',hb',hlt,_,hok⟩
    · rw [hb] at hb0; cases hb0
    · rw [hb] at hb'
      simp only [Option.some.injEq,Prod.mk.injEq] at hb'
      obtain ⟨rfl,rfl,rfl,rfl⟩:=hb'
      obtain ⟨rfl,hz,hle',c,ty,h1,h2,h3⟩:=hok
      refine .inr ⟨cap,b,o,n,c,ty,rfl,hb,hc,hn,hlt,h1,h2,?_⟩
      intro i j hi hj
      have hi':i < len:=by simp at hi; omega
      obtain ⟨e1,e2,_⟩:=h3 (off + i) j (by omega) hj
      have hin:o + (off + i) * z + j < c.size:=by
        have:=Zax (n:=es.length) (z:=z) (show off + i < es.length by omega) hj
        omega
      refine ⟨c.getD (o + (off + i) * z + j) Go.undef,?_,e1,?_⟩
      · have:o + off * z + i * z + j = o + (off + i) * z + j:=by rw [Nat.add_mul]; omega
        rw [this]
        simp [World.cell?,h1,hin,Array.getD]
      · rw [row_take _ _ _ hi',row_drop]; exact e2
theorem sl_seen (r : Rel g w h) {z : Nat} {es : List (List PV)} {v : Value} (hv : Rep g v (.sl z es)) :
    (es = [] ∧ ∃ ao cap,v = .slice ao 0 cap) ∨ ∃ b o cap,v = .slice (some ⟨b,o,none⟩) es.length cap ∧ es.length ≤ cap ∧ RowsAt g w b o z es:=by
  cases hv with
  | slE ao cap=>exact .inl ⟨rfl,ao,cap,rfl⟩
  | sl b o len cap z a es vs ha hl hc hz hm hr =>
    subst ha hl
    refine .inr ⟨b,o,cap,rfl,hc,fun i j hi hj=>⟨vs i j,?_,?_,hr i j hi hj⟩⟩
    · exact (r.mem _ _ _ (hm i j hi hj)).1
    · exact (r.mem _ _ _ (hm i j hi hj)).2
theorem src_run (r : Rel g w h) {str : Bool} {z : Nat} {p : PV} {v : Value} (hv : Rep g v p) (hok : srcOk h str z p) :
    (Builtin.lenOf v).run P w = .ok (Zau h p).length w ∧ ∀ w':World,w'.heap = w.heap → ∃ cs:List Value,(Builtin.firstCells z (Zau h p).length v).run P w' = .ok cs.toArray w' ∧ RowsIn g cs z (Zau h p):=by
  have empty:∀ ao c,(Builtin.lenOf (.slice ao 0 c)).run P w = .ok 0 w ∧ ∀ w':World,w'.heap = w.heap → ∃ cs:List Value,(Builtin.firstCells z 0 (.slice ao 0 c)).run P w' = .ok cs.toArray w' ∧ RowsIn g cs z []:=by
    intro ao c
    refine ⟨rfl,fun w' _=>⟨[],?_,by simp,fun i j hi=>by simp at hi⟩⟩
    cases ao with
    | none=>rfl
    | some a=>simp [Builtin.firstCells,loadCells,loadCellsFrom]
  cases p <;> simp only [srcOk] at hok
  case nilsl=>cases hv; exact empty none 0
  case str s =>
    obtain ⟨_,rfl⟩:=hok
    obtain ⟨s',rfl,rfl⟩:=hv.str_inv
    have hsz:s'.size = s'.data.toList.length:=by rw [Array.length_toList]; rfl
    have hl:(Zau h (.str s'.data.toList)).length = s'.size:=by rw [Zau,List.length_map,← hsz]
    rw [hl]
    refine ⟨rfl,fun w' _=>⟨s'.data.toList.map fun c=>.int .u8 (c.toNat:Int),?_,by rw [hl,List.length_map,← hsz]; omega,fun i j hi hj=>?_⟩⟩
    · have hx : (s'.extract 0 s'.size).data = s'.data := by
        have:=Lib.extract_data s' 0 s'.size
        simp only [List.drop_zero,Nat.sub_zero] at this
        rw [hsz,List.take_length] at this
        rw [hsz]
        exact Array.toList_inj.1 this
      simp only [Builtin.firstCells,hx,Sem.run_pure]
      congr 1
      apply Array.ext'
      simp
    · rw [hl] at hi
      obtain rfl:j = 0:=by omega
      have hi':i < s'.data.toList.length:=by omega
      have e1:(s'.data.toList.map fun c=>Value.int .u8 (c.toNat:Int)).getD (i * 1 + 0) Go.undef = .int .u8 ((s'.data.toList[i]).toNat:Int):=by
        simp only [Nat.mul_one,Nat.add_zero,List.getD_eq_getElem?_getD,List.getElem?_map,List.getElem?_eq_getElem hi']
        rfl
      have e2:PV.row (Zau h (.str s'.data.toList)) i = [.int .u8 ((s'.data.toList[i]).toNat:Int)]:=by
        simp only [PV.row,Zau,List.getD_eq_getElem?_getD,List.getElem?_map,List.getElem?_eq_getElem hi']
        rfl
      rw [e1,e2]
      exact ⟨rfl,.int _ _⟩
  case sl z' es =>
    obtain ⟨_,rfl⟩:=hok
    rcases sl_seen r hv with ⟨rfl,ao,cap,rfl⟩ | ⟨b,o,cap,rfl,hc,hrows⟩
    · exact empty ao cap
    · exact ⟨rfl,fun w' hw=>hrows.load w' hw⟩
  case own id off len =>
    obtain ⟨_,hok⟩:=hok
    split at hok
    case h_2=>exact hok.elim
    rename_i fz z' es hg
    obtain ⟨rfl,hle⟩:=hok
    have hlen:((es.drop off).take len).length = len:=by simp; omega
    simp only [Zau,hg]
    rcases own_seen r hv hg hle with ⟨rfl,ao,rfl⟩ | ⟨cap,b,o,n,c,ty,rfl,hb,hc,hn,hlt,h1,h2,hrows⟩
    · simp only [List.take_zero,List.length_nil]; exact empty ao 0
    · rw [hlen]
      refine ⟨rfl,fun w' hw=>?_⟩
      have:=hrows.load (P:=P) w' hw
      rw [hlen] at this
      exact this
theorem rowsIn_append {cs ds:List Value} {z:Nat} {r1 r2:List (List PV)} (a:RowsIn g cs z r1) (b:RowsIn g ds z r2):RowsIn g (cs ++ ds) z (r1 ++ r2):=by
  refine ⟨by simp [a.1,b.1,Nat.add_mul],fun i j hi hj=>?_⟩
  simp only [List.length_append] at hi
  by_cases h1:i < r1.length
  · have hk:=Zax h1 hj
    have e1:(cs ++ ds).getD (i * z + j) Go.undef = cs.getD (i * z + j) Go.undef:=by
      simp [List.getD_eq_getElem?_getD,List.getElem?_append_left (show i * z + j < cs.length by rw [a.1]; exact hk)]
    have e2:PV.row (r1 ++ r2) i = PV.row r1 i:=by simp [PV.row,List.getD_eq_getElem?_getD,List.getElem?_append_left h1]
    rw [e1,e2]; exact a.2 i j h1 hj
  · have h2:i - r1.length < r2.length:=by omega
    have hge:r1.length * z ≤ i * z:=Nat.mul_le_mul_right _ (by omega)
    have e1:(cs ++ ds).getD (i * z + j) Go.undef = ds.getD ((i - r1.length) * z + j) Go.undef:=by
      simp only [List.getD_eq_getElem?_getD]
      rw [List.getElem?_append_right (by rw [a.1]; omega),a.1]
      congr 2
      rw [Nat.sub_mul]; omega
    have e2:PV.row (r1 ++ r2) i = PV.row r2 (i - r1.length):=by
      simp only [PV.row,List.getD_eq_getElem?_getD]
      rw [List.getElem?_append_right (by omega)]
    rw [e1,e2]; exact b.2 _ j h2 hj
end
end Go.VM
namespace Go.VM
open Go
section
variable {P : Program} {g : Gh} {w : World} {h : Heap}
theorem addAddr (b o k:Nat):(⟨b,o,none⟩:Addr).add k = ⟨b,o + k,none⟩:=by by_cases h:k = 0 <;> simp [Addr.add,h]
theorem da_old (w:World) (O:Obj) {k:Nat} (hk:k < w.heap.size):(w.drew.alloc O).heap[k]? = w.heap[k]?:=RowKit.Below.heap_alloc w.drew O k hk
theorem da_new (w:World) (O:Obj):(w.drew.alloc O).heap[w.heap.size]? = some O:=by
  show (w.heap.push O)[w.heap.size]? = _
  simp
theorem da_size (w:World) (O:Obj):(w.drew.alloc O).heap.size = w.heap.size + 1:=by
  show (w.heap.push O).size = _
  simp
theorem run_app_room {t u ty e : TypeId} {i : TypeInfo} {d : TypeDesc} (ht : P.underlying t = some (.slice e)) (hu : P.underlying u = some d) (hd : ∀ k, d ≠ .int k) (hi : P.info? e = some i)
    {b o L C n:Nat} {x:Value} {news:List Value} (hx:(Builtin.lenOf x).run P w = .ok n w) (hn:(Builtin.firstCells i.size n x).run P w = .ok news.toArray w) (hroom:L + n ≤ C) (hl:news.length = n * i.size)
    {c:Array Value} {tt:TypeId} (hc:w.heap[b]? = some (.cells c tt (0,0))) (hfit:o + L * i.size + news.length ≤ c.size) (h1:∀ v ∈ news,v.oneCell' = true) :
    (Builtin.append_ #[t,u] ty #[.slice (some ⟨b,o,none⟩) L C,x]).run P w =
      .ok (.slice (some ⟨b,o,none⟩) (L + n) C) (w.setRow b (c.toList.take (o + L * i.size) ++ news ++ c.toList.drop (o + L * i.size + news.length)).toArray):=by
  have hst:=run_storeCells_at P b (o + L * i.size) tt news 0 c w hc (by simpa using hfit) h1
  simp only [Nat.add_zero] at hst
  have hz:(match d with | .int _=>true | _=>false) = false:=by cases d <;> first | rfl | exact absurd rfl (hd _)
  simp [Builtin.append_,run_underlying ht,run_underlying hu,sizeOf,typeInfo,hi,hx,hroom,hn,addAddr,hst,hz]
theorem run_app_stay {t u ty e : TypeId} {i : TypeInfo} {d : TypeDesc} (ht : P.underlying t = some (.slice e)) (hu : P.underlying u = some d) (hd : ∀ k, d ≠ .int k) (hi : P.info? e = some i)
    {ao:Option Addr} {x:Value} (hx:(Builtin.lenOf x).run P w = .ok 0 w) {cs:List Value} (hn:(Builtin.firstCells i.size 0 x).run P w = .ok cs.toArray w) (hcs:cs = []) :
    (Builtin.append_ #[t,u] ty #[.slice ao 0 0,x]).run P w = .ok (.slice ao 0 0) w:=by
  subst hcs
  have hz:(match d with | .int _=>true | _=>false) = false:=by cases d <;> first | rfl | exact absurd rfl (hd _)
  cases ao <;> simp [Builtin.append_,run_underlying ht,run_underlying hu,sizeOf,typeInfo,hi,hx,hn,hz,storeCells]
theorem run_app_grow {t u ty e : TypeId} {i : TypeInfo} {d : TypeDesc} {zv : Value} (ht : P.underlying t = some (.slice e)) (hu : P.underlying u = some d) (hd : ∀ k, d ≠ .int k) (hi : P.info? e = some i) (hz : i.zero = some zv)
    {ao:Option Addr} {L C n:Nat} {x:Value} {olds news:List Value} (hx:(Builtin.lenOf x).run P w = .ok n w) (hn:(Builtin.firstCells i.size n x).run P w.drew = .ok news.toArray w.drew)
    (ho:(Builtin.firstCells i.size L (.slice ao L C)).run P w.drew = .ok olds.toArray w.drew) (hg:C < L + n) (h63:L + n ≤ 4611686018427387904) (hfit:(L + n) * i.bytes ≤ 140737488355328) :
    ∃ cap,L + n ≤ cap ∧ (Builtin.append_ #[t,u] ty #[.slice ao L C,x]).run P w =
      .ok (.slice (some ⟨w.heap.size,0,none⟩) (L + n) cap) (w.drew.alloc (.cells (olds ++ news ++ (Builtin.zeroCells zv.cells (cap - (L + n))).toList).toArray e)):=by
  have hzz:(match d with | .int _=>true | _=>false) = false:=by cases d <;> first | rfl | exact absurd rfl (hd _)
  have hnl:¬ (L + n ≤ C):=by omega
  have h63':¬ (9223372036854775807 < ((L:Int) + (n:Int))):=by omega
  have h48:=growslice_fits (need:=L + n) (old:=C) (bytes:=i.bytes) hg hfit
  have h48':¬ (281474976710656 < Builtin.nextslicecap (L + n) C * i.bytes):=by omega
  refine ⟨grownCap w (L + n) C e,?_,?_⟩
  · unfold grownCap Question.cut; simp only; omega
  · simp [Builtin.append_,run_underlying ht,run_underlying hu,sizeOf,typeInfo,zeroValue,hi,hz,hx,hnl,h63',h48',Question.forced,hn,ho,newRow,grownCap,hzz]
    congr 2
    apply Array.ext'
    simp
theorem rows_one {cs:List Value} {z:Nat} {rows:List (List PV)} (a:RowsIn g cs z rows):∀ v ∈ cs,v.oneCell' = true:=by
  intro v hv
  obtain ⟨k,hk,rfl⟩:=List.mem_iff_getElem.1 hv
  rw [a.1] at hk
  obtain ⟨h1,h2,h3⟩:=rows_split hk
  have:=(a.2 _ _ h1 h2).1
  rw [h3] at this
  simpa [List.getD_eq_getElem?_getD,List.getElem?_eq_getElem (show k < cs.length by rw [a.1]; exact hk)] using this
theorem app_sound {t u ty e : TypeId} {i : TypeInfo} {d : TypeDesc} {zr : List PV} {str : Bool} (ht : P.underlying t = some (.slice e)) (hu : P.underlying u = some d) (hd : ∀ k, d ≠ .int k) (hi : P.info? e = some i) (hzo : zeroOf P e = some zr) (hzl : zr.length = i.size)
    (r:Rel g w h) {p q:PV} {vp vq:Value} (hp:Rep g vp p) (hq:Rep g vq q) (hop:oldOk h i.size p) (hoq:srcOk h str i.size q)
    (hrows:∀ x ∈ Zau h q,x.length = i.size) (h63:(Za7 h p).length + (Zau h q).length ≤ 4611686018427387904) (hfit:((Za7 h p).length + (Zau h q).length) * i.bytes ≤ 140737488355328) :
    ∃ v w' g',(Builtin.append_ #[t,u] ty #[vp,vq]).run P w = .ok v w' ∧ Rep g' v (.own h.top 0 ((Za7 h p).length + (Zau h q).length)) ∧
      Rel g' w' ((Zba h (oldId p)).push (.arr false i.size (Za7 h p ++ Zau h q))) ∧ Evo g w h g' w' ((Zba h (oldId p)).push (.arr false i.size (Za7 h p ++ Zau h q))):=by
  obtain ⟨hx,hnews⟩:=src_run (P:=P) r hq hoq
  obtain ⟨j,zv,hj,hzv,hcs⟩:=zero_spec hzo
  rw [hi] at hj; simp only [Option.some.injEq] at hj; subst hj
  obtain ⟨zs,_⟩:=zero_cells (g:=g) hcs
  have hrowl:∀ k,k < (Zau h q).length → (PV.row (Zau h q) k).length = i.size:=fun k hk=>by
    apply hrows
    simp [PV.row,List.getD_eq_getElem?_getD,List.getElem?_eq_getElem hk]
  generalize Zau h q = src at *
  have nowhere : ∀ (ao : Option Addr) (olds : List (List PV)) (kill : Option Nat), olds = [] → vp = .slice ao 0 0 →
      ∃ v w' g',(Builtin.append_ #[t,u] ty #[vp,vq]).run P w = .ok v w' ∧ Rep g' v (.own h.top 0 (olds.length + src.length)) ∧
      Rel g' w' ((Zba h kill).push (.arr false i.size (olds ++ src))) ∧ Evo g w h g' w' ((Zba h kill).push (.arr false i.size (olds ++ src))):=by
    intro ao olds kill ho hvp
    subst ho hvp
    by_cases h0:src.length = 0
    · obtain rfl:src = []:=by simpa using h0
      obtain ⟨cs,hcs1,hcs2⟩:=hnews w rfl
      have hcs0:cs = []:=by have:=hcs2.1; simpa using this
      obtain ⟨f2,f3⟩:=r.none kill i.size w rfl rfl rfl rfl
      exact ⟨_,w,g,run_app_stay ht hu hd hi hx hcs1 hcs0,.ownE _ _ _,f2,f3⟩
    · obtain ⟨cs,hcs1,hcs2⟩:=hnews w.drew rfl
      have hold:(Builtin.firstCells i.size 0 (.slice ao 0 0)).run P w.drew = .ok ([]:List Value).toArray w.drew:=by
        cases ao with
        | none=>rfl
        | some a=>simp [Builtin.firstCells,loadCells,loadCellsFrom]
      obtain ⟨cap,hcap,hrun⟩:=run_app_grow (ty:=ty) ht hu hd hi hzv hx hcs1 hold (by omega) (by omega) (by rw [Nat.zero_add]; exact Nat.le_trans (Nat.mul_le_mul_right _ (by omega)) hfit)
      simp only [Nat.zero_add,List.nil_append] at hrun hcap
      have hsize:(cs ++ (Builtin.zeroCells zv.cells (cap - src.length)).toList).toArray.size = cap * i.size:=by
        simp only [List.size_toArray,List.length_append,Array.length_toList,size_zeroCells,hcs2.1,zs,hzl]
        rw [← Nat.add_mul]; congr 1; omega
      obtain ⟨g',f2,_,f3,f4,f5⟩:=r.put kill w.heap.size 0 (cap * i.size) i.size (.arr false i.size src) (w.drew.alloc (.cells (cs ++ (Builtin.zeroCells zv.cells (cap - src.length)).toList).toArray e))
        (.inl (Nat.le_refl _)) (fun k hk _=>da_old _ _ hk) (by rw [da_size]; omega) (by rw [da_size]; omega) rfl rfl rfl rfl (fun g' hg'=>by
          refine ⟨rfl,hrowl,by simp; exact Nat.mul_le_mul_right _ hcap,_,e,da_new _ _,hsize,fun a b ha hb=>?_⟩
          have hk:=Zax ha hb
          obtain ⟨c1,c2⟩:=hcs2.2 a b ha hb
          have e1:(cs ++ (Builtin.zeroCells zv.cells (cap - src.length)).toList).toArray.getD (0 + a * i.size + b) Go.undef = cs.getD (a * i.size + b) Go.undef:=by
            have:a * i.size + b < cs.length:=by rw [hcs2.1]; exact hk
            simp [Array.getD_eq_getD_getElem?,List.getD_eq_getElem?_getD,List.getElem?_append_left this]
          rw [e1]
          exact ⟨c1,c2.mono hg',fun hh=>by cases hh⟩)
      refine ⟨_,_,g',hrun,?_,f4,f5⟩
      rw [show ([]:List (List PV)).length + src.length = src.length by simp]
      exact .own h.top 0 src.length cap w.heap.size 0 (cap * i.size) i.size ⟨w.heap.size,0,none⟩ f3 (by simp) hcap (by simp)
  cases p <;> simp only [oldOk] at hop
  case nilsl=>cases hp; exact nowhere none [] none rfl rfl
  case own ia off len =>
    split at hop
    case h_2=>exact hop.elim
    rename_i fz z' es hgx
    obtain ⟨rfl,rfl,hle⟩:=hop
    have hlen:((es.drop off).take len).length = len:=by simp; omega
    have hor:Za7 h (.own ia off len) = (es.drop off).take len:=by simp [Za7,hgx]
    rw [hor] at h63 hfit ⊢
    rcases own_seen r hp hgx hle with ⟨rfl,ao,rfl⟩ | ⟨cap,b,o,n,c,tt,rfl,hb,hc,hn,hlt,h1,h2,hra⟩
    · exact nowhere ao _ _ (by simp) rfl
    · simp only [oldId]
      have hrl:∀ k,k < len → (PV.row ((es.drop off).take len) k).length = i.size:=by
        intro k hk
        rcases r.blk ia _ hgx with ⟨hb0,_⟩ | ⟨b',o',n',z'',hb',_,_,hok⟩
        · rw [hb] at hb0; cases hb0
        · rw [hb] at hb'
          simp only [Option.some.injEq,Prod.mk.injEq] at hb'
          obtain ⟨rfl,rfl,rfl,rfl⟩:=hb'
          rw [row_take _ _ _ hk,row_drop]; exact hok.2.1 _ (by omega)
      have hrl2:∀ k,k < ((es.drop off).take len ++ src).length → (PV.row ((es.drop off).take len ++ src) k).length = i.size:=by
        intro k hk
        by_cases hkl:k < len
        · have:PV.row ((es.drop off).take len ++ src) k = PV.row ((es.drop off).take len) k:=by simp [PV.row,List.getD_eq_getElem?_getD,List.getElem?_append_left (show k < ((es.drop off).take len).length by omega)]
          rw [this]; exact hrl k hkl
        · have : PV.row ((es.drop off).take len ++ src) k = PV.row src (k - len) := by
            simp only [PV.row,List.getD_eq_getElem?_getD]
            rw [List.getElem?_append_right (by omega),hlen]
          rw [this]; exact hrowl _ (by simp only [List.length_append,hlen] at hk; omega)
      rw [hlen] at h63 hfit ⊢
      by_cases hroom:len + src.length ≤ cap
      · obtain ⟨cs,hcs1,hcs2⟩:=hnews w rfl
        have hfit2:o + off * i.size + len * i.size + cs.length ≤ c.size:=by
          have:(len + src.length) * i.size ≤ cap * i.size:=Nat.mul_le_mul_right _ hroom
          rw [Nat.add_mul] at this
          rw [hcs2.1]; omega
        have hrun:=run_app_room (ty:=ty) ht hu hd hi hx hcs1 hroom hcs2.1 h1 hfit2 (rows_one hcs2)
        have hheap:(w.setRow b (c.toList.take (o + off * i.size + len * i.size) ++ cs ++ c.toList.drop (o + off * i.size + len * i.size + cs.length)).toArray).heap[b]? = some (.cells (c.toList.take (o + off * i.size + len * i.size) ++ cs ++ c.toList.drop (o + off * i.size + len * i.size + cs.length)).toArray tt (0,0)):=setRow_heap w b c _ tt (0,0) h1
        have hsame:∀ k,k ≠ b → (w.setRow b (c.toList.take (o + off * i.size + len * i.size) ++ cs ++ c.toList.drop (o + off * i.size + len * i.size + cs.length)).toArray).heap[k]? = w.heap[k]?:=by
          intro k hk
          simp only [World.setRow,Array.getElem?_modify]
          rw [if_neg (Ne.symm hk)]
        have hsz:(w.setRow b (c.toList.take (o + off * i.size + len * i.size) ++ cs ++ c.toList.drop (o + off * i.size + len * i.size + cs.length)).toArray).heap.size = w.heap.size:=by simp [World.setRow]
        generalize hW:w.setRow b (c.toList.take (o + off * i.size + len * i.size) ++ cs ++ c.toList.drop (o + off * i.size + len * i.size + cs.length)).toArray = W at *
        have hWos:W.os = w.os ∧ W.tape = w.tape ∧ W.output = w.output:=by rw [← hW]; exact ⟨rfl,rfl,rfl⟩
        obtain ⟨g',f2,_,f3,f4,f5⟩:=r.put (some ia) b (o + off * i.size) n i.size (.arr false i.size ((es.drop off).take len ++ src)) W
          (.inr ⟨ia,_,_,rfl,hgx,rfl,hb,rfl⟩) (fun k _ hk=>hsame k hk) (by omega) (by omega) hWos.1 hWos.2.1 hWos.2.2 rfl (fun g' hg'=>by
            refine ⟨rfl,hrl2,?_,_,tt,hheap,?_,fun x y hx' hy=>?_⟩
            · simp only [List.length_append,hlen]
              have:(len + src.length) * i.size ≤ cap * i.size:=Nat.mul_le_mul_right _ hroom
              omega
            · simp; omega
            · simp only [List.length_append,hlen] at hx'
              by_cases hxl:x < len
              · obtain ⟨v,e1,e2,e3⟩:=hra x y (by omega) hy
                have hk:=Zax (n:=len) hxl hy
                have e4:(c.toList.take (o + off * i.size + len * i.size) ++ cs ++ c.toList.drop (o + off * i.size + len * i.size + cs.length)).toArray.getD (o + off * i.size + x * i.size + y) Go.undef = v:=by
                  have hin:o + off * i.size + x * i.size + y < (c.toList.take (o + off * i.size + len * i.size)).length:=by simp; omega
                  have hin2:o + off * i.size + x * i.size + y < c.size:=by omega
                  simp only [World.cell?,h1,Option.isSome_none,Bool.false_eq_true,if_false] at e1
                  rw [Array.getD_eq_getD_getElem?,List.getElem?_toArray,List.append_assoc,List.getElem?_append_left hin,List.getElem?_take,if_pos (by omega),Array.getElem?_toList,e1]
                  rfl
                have e5:PV.row ((es.drop off).take len ++ src) x = PV.row ((es.drop off).take len) x:=by simp [PV.row,List.getD_eq_getElem?_getD,List.getElem?_append_left (show x < ((es.drop off).take len).length by omega)]
                rw [e4,e5]
                exact ⟨e2,e3.mono hg',fun hh=>by cases hh⟩
              · obtain ⟨e2,e3⟩:=hcs2.2 (x - len) y (by omega) hy
                have hk:=Zax (n:=src.length) (show x - len < src.length by omega) hy
                have hxz:x * i.size = len * i.size + (x - len) * i.size:=by rw [← Nat.add_mul]; congr 1; omega
                have e4:(c.toList.take (o + off * i.size + len * i.size) ++ cs ++ c.toList.drop (o + off * i.size + len * i.size + cs.length)).toArray.getD (o + off * i.size + x * i.size + y) Go.undef = cs.getD ((x - len) * i.size + y) Go.undef:=by
                  have hl1:(c.toList.take (o + off * i.size + len * i.size)).length = o + off * i.size + len * i.size:=by simp; omega
                  rw [Array.getD_eq_getD_getElem?,List.getElem?_toArray,List.append_assoc,List.getElem?_append_right (by rw [hl1]; omega),hl1,List.getElem?_append_left (by rw [hcs2.1]; omega),List.getD_eq_getElem?_getD]
                  congr 2; omega
                have e5:PV.row ((es.drop off).take len ++ src) x = PV.row src (x - len):=by
                  simp only [PV.row,List.getD_eq_getElem?_getD]
                  rw [List.getElem?_append_right (by omega),hlen]
                rw [e4,e5]
                exact ⟨e2,e3.mono hg',fun hh=>by cases hh⟩)
        refine ⟨_,W,g',hrun,?_,f4,f5⟩
        refine .own h.top 0 _ cap b (o + off * i.size) n i.size _ f3 (by simp) hroom (by simp; omega)
      · obtain ⟨cs,hcs1,hcs2⟩:=hnews w.drew rfl
        obtain ⟨os,hos1,hos2⟩:=hra.load (P:=P) w.drew rfl
        rw [hlen] at hos1
        obtain ⟨cap',hcap,hrun⟩:=run_app_grow (ty:=ty) (ao:=some ⟨b,o + off * i.size,none⟩) (L:=len) (C:=cap) ht hu hd hi hzv hx hcs1 hos1 (by omega) h63 hfit
        have hboth:=rowsIn_append hos2 hcs2
        have hsize:(os ++ cs ++ (Builtin.zeroCells zv.cells (cap' - (len + src.length))).toList).toArray.size = cap' * i.size:=by
          simp only [List.size_toArray,List.length_append,Array.length_toList,size_zeroCells,hcs2.1,hos2.1,zs,hzl,hlen]
          rw [← Nat.add_mul,← Nat.add_mul]; congr 1; omega
        obtain ⟨g',f2,_,f3,f4,f5⟩:=r.put (some ia) w.heap.size 0 (cap' * i.size) i.size (.arr false i.size ((es.drop off).take len ++ src)) (w.drew.alloc (.cells (os ++ cs ++ (Builtin.zeroCells zv.cells (cap' - (len + src.length))).toList).toArray e))
          (.inl (Nat.le_refl _)) (fun k hk _=>da_old _ _ hk) (by rw [da_size]; omega) (by rw [da_size]; omega) rfl rfl rfl rfl (fun g' hg'=>by
            refine ⟨rfl,hrl2,by simp only [List.length_append,hlen,Nat.zero_add]; exact Nat.mul_le_mul_right _ hcap,_,e,da_new _ _,hsize,fun x y hx' hy=>?_⟩
            have hk:=Zax hx' hy
            obtain ⟨c1,c2⟩:=hboth.2 x y hx' hy
            have e1:(os ++ cs ++ (Builtin.zeroCells zv.cells (cap' - (len + src.length))).toList).toArray.getD (0 + x * i.size + y) Go.undef = (os ++ cs).getD (x * i.size + y) Go.undef:=by
              have:x * i.size + y < (os ++ cs).length:=by rw [hboth.1]; exact hk
              rw [Nat.zero_add,Array.getD_eq_getD_getElem?,List.getElem?_toArray,List.getElem?_append_left this,List.getD_eq_getElem?_getD]
            rw [e1]
            exact ⟨c1,c2.mono hg',fun hh=>by cases hh⟩)
        refine ⟨_,_,g',hrun,?_,f4,f5⟩
        exact .own h.top 0 (len + src.length) cap' w.heap.size 0 (cap' * i.size) i.size ⟨w.heap.size,0,none⟩ f3 (by simp) hcap (by simp)
end
end Go.VM
namespace Go.VM
open Go
def Args (g:Gh) (vals:Array Value) (args:List PV):Prop:=vals.size = args.length ∧ ∀ j,j < args.length → Rep g (vals.getD j Go.undef) (PV.nth args j)
def ACall (P:Program) (f:FuncId) (args:List PV) (h:Heap) (K:PV → Heap → Prop):Prop :=
  fnOk P f = true ∧ ∀ g w (vals:Array Value),Rel g w h → Args g vals args →
    Calls P f vals w fun x w'=>∃ v p g' h',x = .returned v ∧ K p h' ∧ Rep g' v p ∧ Rel g' w' h' ∧ Evo g w h g' w' h'
def OpS (P:Program) (o:Oper) (e:Env) (h:Heap) (K:PV → Heap → Prop):Prop :=
  ∀ g w a (next:Act → World → Prop) (Q:Exit → Act → World → Prop),Rel g w h → Zao g a e →
    (∀ v pv g' w' h',K pv h' → Rep g' v pv → Rel g' w' h' → Evo g w h g' w' h' → next (a.put o.dst v) w') → o.upon P a next Q ((execOp a.eval o).run P w)
def Za6 (e:Env):List (List PV) → List (Nat × VA) → List (List PV)
  | rows,[]=>rows
  | rows,(i,a) :: r=>Za6 e (rows.set i (a.ev e).cells) r
def Zbi (e:Env) (z n:Nat):List (Nat × VA) → Prop
  | []=>True
  | (i,a) :: r=>(a.ev e).fits z = true ∧ i < n ∧ Zbi e z n r
def storeV (h:Heap) (p v:PV):Heap :=
  match p with
  | .loc id i off=>(match h.get id with
    | some (.arr _ z es)=>h.set id (.arr false z (es.set i (overlay (PV.row es i) off v.cells)))
    | _=>h)
  | _=>h
def storeOk (h:Heap) (s:Nat) (p v:PV):Prop :=
  v.fits s = true ∧ match p with
  | .loc id i off=>(match h.get id with
    | some (.arr fz z es)=>fz = false ∧ i < es.length ∧ off + s ≤ z
    | _=>False)
  | _=>False
def mapHas (h:Heap):PV → Prop
  | .mp id=>(match h.get id with
    | some (.map _)=>True
    | _=>False)
  | _=>False
def mapsetV (h:Heap) (m k v:PV):Heap :=
  match m with
  | .mp id=>h.set id (.map (mapPut k v (Zbe h m)))
  | _=>h
def fxV (h:Heap):FX → List PV → PV × Heap
  | .slice0 z,_=>(.own h.top 0 0,h.push (.arr false z []))
  | .mk0 z,_=>(.own h.top 0 0,h.push (.arr false z []))
  | .clear z zr,[.own id off len]=>(.tup [],match h.get id with
    | some (.arr _ _ es)=>h.set id (.arr false z (es.take off ++ List.replicate len zr ++ es.drop (off + len)))
    | _=>h)
  | .clear _ _,_=>(.tup [],h)
def fxOk (h:Heap):FX → List PV → Prop
  | .slice0 z,[a]=>(match a with
    | .nilsl | .sl _ _=>True
    | .own _ _ _=>True
    | _=>False)
  | .mk0 _,[]=>True
  | .clear z zr,[a]=>(match a with
    | .nilsl=>True
    | .own id off len=>(match h.get id with
      | some (.arr fz z' es)=>fz = false ∧ z' = z ∧ off + len ≤ es.length ∧ zr.length = z
      | _=>False)
    | _=>False)
  | _,_=>False
def slLike:PV → Bool
  | .nilsl | .sl _ _ | .own _ _ _=>true
  | _=>false
def Zaf (P:Program) (e:Env) (h:Heap) (op:VOp) (K:PV → Heap → Prop):Prop :=
  match op with
  | .alloc zr=>K (.loc h.top 0 0) (h.push (.arr false zr.length [zr]))
  | .box n a=>(a.ev e).fits n = true ∧ K (.loc h.top 0 0) (h.push (.arr false n [(a.ev e).cells]))
  | .bslice z n zr ps=>Zbi e z n ps ∧ K (.own h.top 0 n) (h.push (.arr false z (Za6 e (List.replicate n zr) ps)))
  | .store s a v=>storeOk h s (a.ev e) (v.ev e) ∧ K .undef (storeV h (a.ev e) (v.ev e))
  | .app z bytes _ str a b => oldOk h z (a.ev e) ∧ srcOk h str z (b.ev e) ∧ (Za7 h (a.ev e)).length + (Zau h (b.ev e)).length ≤ 4611686018427387904 ∧
      ((Za7 h (a.ev e)).length + (Zau h (b.ev e)).length) * bytes ≤ 140737488355328 ∧
      K (.own h.top 0 ((Za7 h (a.ev e)).length + (Zau h (b.ev e)).length)) ((Zba h (oldId (a.ev e))).push (.arr false z (Za7 h (a.ev e) ++ Zau h (b.ev e))))
  | .call f args=>ACall P f (args.map (VA.ev e)) h K
  | .callv f args=>(match f.ev e with
    | .fn (.func f) first cap=>ACall P f (first ++ args.map (VA.ev e) ++ cap) h K
    | _=>False)
  | .mkmap=>K (.mp h.top) (h.push (.map []))
  | .mapset kk m k v=>mapHas h (m.ev e) ∧ keysOk kk (k.ev e) (Zbe h (m.ev e)) ∧ K .undef (mapsetV h (m.ev e) (k.ev e) (v.ev e))
  | .fx k l=>fxOk h k (l.map (VA.ev e)) ∧ K (fxV h k (l.map (VA.ev e))).1 (fxV h k (l.map (VA.ev e))).2
  | .nd neg a=>slLike (a.ev e) = true ∧ ∀ b,(isNil (a.ev e) = true → b = true) → (notNil (a.ev e) = true → b = false) → K (.bool (b != neg)) h
  | .other o=>OpS P o e h K
  | op=>pok e h op ∧ K (pval e h op) h
section
variable {P : Program} {o : Oper} {e : Env} {h : Heap} {K : PV → Heap → Prop}
theorem OpS.of_value (H:∀ g w a,Rel g w h → Zao g a e → ∃ v p g' w' h',(execOp a.eval o).run P w = .ok (.value v) w' ∧ K p h' ∧ Rep g' v p ∧ Rel g' w' h' ∧ Evo g w h g' w' h'):OpS P o e h K:=by
  intro g w a next Q r he hn
  obtain ⟨v,p,g',w',h',e1,e2,e3,e4,e5⟩:=H g w a r he
  rw [e1]
  exact hn v p g' w' h' e2 e3 e4 e5
theorem new_old (w:World) (O:Obj) {k:Nat} (hk:k < w.heap.size):({ w with heap:=w.heap.push O }:World).heap[k]? = w.heap[k]?:=by
  show (w.heap.push O)[k]? = _
  rw [Array.getElem?_push,if_neg (by omega)]
theorem new_new (w:World) (O:Obj):({ w with heap:=w.heap.push O }:World).heap[w.heap.size]? = some O:=by
  show (w.heap.push O)[w.heap.size]? = _
  simp
theorem new_size (w:World) (O:Obj):({ w with heap:=w.heap.push O }:World).heap.size = w.heap.size + 1:=by
  show (w.heap.push O).size = _
  simp
theorem new_row {g : Gh} {w : World} (r : Rel g w h) (c : Array Value) (t : TypeId) (z : Nat) (rows : List (List PV)) (hz : ∀ i, i < rows.length → (PV.row rows i).length = z) (hrows : RowsIn g c.toList z rows) :
    ∃ g',g.le g' ∧ g'.β h.top = some (w.heap.size,0,c.size,z) ∧ Rel g' { w with heap:=w.heap.push (.cells c t (0,0)) } (h.push (.arr false z rows)) ∧
      Evo g w h g' { w with heap:=w.heap.push (.cells c t (0,0)) } (h.push (.arr false z rows)):=by
  obtain ⟨g',f2,_,f3,f4,f5⟩:=r.put none w.heap.size 0 c.size z (.arr false z rows) { w with heap:=w.heap.push (.cells c t (0,0)) }
    (.inl (Nat.le_refl _)) (fun k hk _=>new_old _ _ hk) (by rw [new_size]; omega) (by rw [new_size]; omega) rfl rfl rfl rfl (fun g' hg'=>by
      refine ⟨rfl,hz,?_,c,t,new_new _ _,rfl,fun i j hi hj=>?_⟩
      · have:=hrows.1; rw [Array.length_toList] at this; omega
      · obtain ⟨h1,h2⟩:=hrows.2 i j hi hj
        have e1:c.getD (0 + i * z + j) Go.undef = c.toList.getD (i * z + j) Go.undef:=by simp [Array.getD_eq_getD_getElem?]
        rw [e1]
        exact ⟨h1,h2.mono hg',fun hh=>by cases hh⟩)
  exact ⟨g',f2,f3,f4,f5⟩
theorem rows_single {g:Gh} {c:Array Value} {cs:List PV} (hs:c.size = cs.length) (hr:∀ j,j < cs.length → (c.getD j Go.undef).oneCell' = true ∧ Rep g (c.getD j Go.undef) (PV.nth cs j)):RowsIn g c.toList cs.length [cs]:=by
  refine ⟨by simp [hs],fun i j hi hj=>?_⟩
  obtain rfl:i = 0:=by simpa using hi
  have e1:c.toList.getD (0 * cs.length + j) Go.undef = c.getD j Go.undef:=by simp [Array.getD_eq_getD_getElem?]
  rw [e1]
  exact hr j hj
theorem one_row (cs:List PV):∀ i,i < [cs].length → (PV.row [cs] i).length = cs.length:=by
  intro i hi
  have:i = 0:=by simp at hi; omega
  subst this; rfl
theorem row_set (es:List (List PV)) (k:Nat) (x:List PV) (hk:k < es.length):PV.row (es.set k x) k = x:=by
  simp only [PV.row,List.getD_eq_getElem?_getD]
  rw [List.getElem?_set_self hk]; rfl
theorem row_set_ne (es:List (List PV)) (k j:Nat) (x:List PV) (hk:k ≠ j):PV.row (es.set j x) k = PV.row es k:=by
  simp only [PV.row,List.getD_eq_getElem?_getD]
  rw [List.getElem?_set_ne (Ne.symm hk)]
theorem alloc_sound {t:TypeId} {zr:List PV} (ho:o.op = .alloc t) (hz:zeroOf P t = some zr) (hk:K (.loc h.top 0 0) (h.push (.arr false zr.length [zr]))):OpS P o e h K:=by
  refine OpS.of_value fun g w a r he=>?_
  obtain ⟨i,v,hi,hv,hcs⟩:=zero_spec hz
  obtain ⟨z1,z2⟩:=zero_cells (g:=g) hcs
  obtain ⟨g',f2,f3,f4,f5⟩:=new_row r v.cells t zr.length [zr] (one_row _) (rows_single z1 z2)
  refine ⟨_,_,g',_,_,?_,hk,.loc h.top 0 0 w.heap.size 0 v.cells.size zr.length ⟨w.heap.size,0,none⟩ f3 (by simp),f4,f5⟩
  simp [execOp,ho,Instr.alloc,run_zero hi hv,newVar,newRow]
theorem box_sound {t:TypeId} {x:Operand} {n:Nat} {va:VA} (ho:o.op = .box t x) (hx:cA x = some va) (hf:(va.ev e).fits n = true) (hk:K (.loc h.top 0 0) (h.push (.arr false n [(va.ev e).cells]))):OpS P o e h K:=by
  refine OpS.of_value fun g w a r he=>?_
  obtain ⟨z1,z2,z3,z4⟩:=(Zam he hx).cells_size hf
  subst z2
  obtain ⟨g',f2,f3,f4,f5⟩:=new_row r (a.eval x).cells t (va.ev e).cells.length [(va.ev e).cells] (one_row _) (rows_single z1 (fun j hj=>⟨z3 j hj,z4 j hj⟩))
  refine ⟨_,_,g',_,_,?_,hk,.loc h.top 0 0 w.heap.size 0 _ _ ⟨w.heap.size,0,none⟩ f3 (by simp),f4,f5⟩
  simp [execOp,ho,Instr.box,newVar,newRow]
theorem store_sound {t : TypeId} {x y : Operand} {s : Nat} {va vb : VA} (ho : o.op = .store t x y) (hx : cA x = some va) (hy : cA y = some vb) (hs : szOf P t = some s)
    (hok:storeOk h s (va.ev e) (vb.ev e)) (hk:K .undef (storeV h (va.ev e) (vb.ev e))):OpS P o e h K:=by
  intro g w a next Q r he hn
  obtain ⟨hf,hok⟩:=hok
  obtain ⟨z1,z2,z3,z4⟩:=(Zam he hy).cells_size hf
  have hv:=Zam he hx
  cases hp:va.ev e <;> simp only [hp] at hok hk hv
  rename_i id i off
  split at hok
  case h_2=>exact hok.elim
  rename_i fz z es hg
  obtain ⟨rfl,hi,hle⟩:=hok
  simp only [storeV,hg] at hk
  obtain ⟨b,o',n,z',hb,hv⟩:=hv.loc_inv
  rcases r.blk id _ hg with ⟨hb0,_⟩ | ⟨b2,o2,n2,z2',hb',hlt,hm,hok⟩
  · rw [hb] at hb0; cases hb0
  rw [hb] at hb'
  simp only [Option.some.injEq,Prod.mk.injEq] at hb'
  obtain ⟨rfl,rfl,rfl,rfl⟩:=hb'
  obtain ⟨rfl,hz,hfit,c,tt,h1,h2,h3⟩:=hok
  have hbound:=Zax (n:=es.length) (z:=z) hi (j:=z - 1)
  have hiz:(i + 1) * z ≤ es.length * z:=Nat.mul_le_mul_right _ hi
  rw [Nat.succ_mul] at hiz
  have hone:∀ v ∈ (a.eval y).cells.toList,v.oneCell' = true:=by
    intro v hv
    obtain ⟨k,hk,rfl⟩:=List.mem_iff_getElem.1 hv
    rw [Array.length_toList] at hk
    have:=z3 k (by omega)
    simpa [Array.getD,hk] using this
  have hst:=run_storeCells_at P b (o' + i * z + off) tt (a.eval y).cells.toList 0 c w h1 (by simp; omega) hone
  simp only [Nat.add_zero,Array.length_toList,z1] at hst
  have hrun:(execOp a.eval o).run P w = .ok .skip (w.setRow b (c.toList.take (o' + i * z + off) ++ (a.eval y).cells.toList ++ c.toList.drop (o' + i * z + off + s)).toArray):=by
    simp [execOp,ho,hv,Instr.storeAt,Instr.sureAddr,storeVar,run_sz hs,z1,hst]
  rw [hrun]
  have hheap:=setRow_heap w b c (c.toList.take (o' + i * z + off) ++ (a.eval y).cells.toList ++ c.toList.drop (o' + i * z + off + s)).toArray tt (0,0) h1
  have hsame:∀ k,k ≠ b → (w.setRow b (c.toList.take (o' + i * z + off) ++ (a.eval y).cells.toList ++ c.toList.drop (o' + i * z + off + s)).toArray).heap[k]? = w.heap[k]?:=by
    intro k hk
    simp only [World.setRow,Array.getElem?_modify]
    rw [if_neg (Ne.symm hk)]
  have hsz:(w.setRow b (c.toList.take (o' + i * z + off) ++ (a.eval y).cells.toList ++ c.toList.drop (o' + i * z + off + s)).toArray).heap.size = w.heap.size:=by simp [World.setRow]
  generalize hW:w.setRow b (c.toList.take (o' + i * z + off) ++ (a.eval y).cells.toList ++ c.toList.drop (o' + i * z + off + s)).toArray = W at *
  have hWos:W.os = w.os ∧ W.tape = w.tape ∧ W.output = w.output:=by rw [← hW]; exact ⟨rfl,rfl,rfl⟩
  have hrow:(PV.row es i).length = z:=hz i hi
  have hov:(overlay (PV.row es i) off (vb.ev e).cells).length = z:=by rw [overlay_len _ _ _ (by rw [z2]; omega),hrow]
  obtain ⟨R,E⟩:=r.set (ab:=.arr false z (es.set i (overlay (PV.row es i) off (vb.ev e).cells))) hg rfl hb W (fun k _ hk=>hsame k hk) (by omega) hWos.1 hWos.2.1 hWos.2.2 rfl (by
    refine ⟨rfl,fun k hk=>?_,by simpa using hfit,_,tt,hheap,by simp [z1]; omega,fun k j hk hj=>?_⟩
    · simp only [List.length_set] at hk
      by_cases hki:k = i
      · subst hki; rw [row_set _ _ _ hi]; exact hov
      · rw [row_set_ne _ _ _ _ hki]; exact hz k hk
    · simp only [List.length_set] at hk
      have hl1:(c.toList.take (o' + i * z + off)).length = o' + i * z + off:=by simp; omega
      by_cases hin:k = i ∧ off ≤ j ∧ j < off + s
      · obtain ⟨rfl,hj1,hj2⟩:=hin
        have e1:(c.toList.take (o' + k * z + off) ++ (a.eval y).cells.toList ++ c.toList.drop (o' + k * z + off + s)).toArray.getD (o' + k * z + j) Go.undef = (a.eval y).cells.getD (j - off) Go.undef:=by
          rw [Array.getD_eq_getD_getElem?,List.getElem?_toArray,List.append_assoc,List.getElem?_append_right (by rw [hl1]; omega),hl1,List.getElem?_append_left (by simp [z1]; omega),Array.getElem?_toList,Array.getD_eq_getD_getElem?]
          congr 2; omega
        have e2:PV.nth (PV.row (es.set k (overlay (PV.row es k) off (vb.ev e).cells)) k) j = PV.nth (vb.ev e).cells (j - off):=by
          have:PV.row (es.set k (overlay (PV.row es k) off (vb.ev e).cells)) k = overlay (PV.row es k) off (vb.ev e).cells  :=row_set _ _ _ hi
          rw [this,overlay_nth _ _ _ (by rw [z2]; omega),if_pos ⟨hj1,by rw [z2]; exact hj2⟩]
        rw [e1,e2]
        exact ⟨z3 _ (by omega),z4 _ (by omega),fun hh=>by cases hh⟩
      · have hkz:=Zax hk hj
        have e1:(c.toList.take (o' + i * z + off) ++ (a.eval y).cells.toList ++ c.toList.drop (o' + i * z + off + s)).toArray.getD (o' + k * z + j) Go.undef = c.getD (o' + k * z + j) Go.undef:=by
          by_cases hb1:o' + k * z + j < o' + i * z + off
          · rw [Array.getD_eq_getD_getElem?,List.getElem?_toArray,List.append_assoc,List.getElem?_append_left (by rw [hl1]; exact hb1),List.getElem?_take,if_pos hb1,Array.getElem?_toList,Array.getD_eq_getD_getElem?]
          · have hge : o' + i * z + off + s ≤ o' + k * z + j := by
              by_cases hki:k = i
              · subst hki; omega
              · have : i < k := by
                  rcases Nat.lt_or_ge i k with h | h
                  · exact h
                  · have hlt:k < i:=by omega
                    have:(k + 1) * z ≤ i * z:=Nat.mul_le_mul_right _ hlt
                    rw [Nat.succ_mul] at this
                    omega
                have:(i + 1) * z ≤ k * z:=Nat.mul_le_mul_right _ this
                rw [Nat.succ_mul] at this
                omega
            have hl2:(c.toList.take (o' + i * z + off) ++ (a.eval y).cells.toList).length = o' + i * z + off + s:=by simp [z1]; omega
            rw [Array.getD_eq_getD_getElem?,List.getElem?_toArray,List.getElem?_append_right (by rw [hl2]; exact hge),hl2,List.getElem?_drop,Array.getElem?_toList,Array.getD_eq_getD_getElem?]
            congr 2; omega
        have e2:PV.nth (PV.row (es.set i (overlay (PV.row es i) off (vb.ev e).cells)) k) j = PV.nth (PV.row es k) j:=by
          by_cases hki:k = i
          · subst hki
            have:PV.row (es.set k (overlay (PV.row es k) off (vb.ev e).cells)) k = overlay (PV.row es k) off (vb.ev e).cells  :=row_set _ _ _ hi
            rw [this,overlay_nth _ _ _ (by rw [z2]; omega),if_neg (by rw [z2]; omega)]
          · rw [row_set_ne _ _ _ _ hki]
        rw [e1,e2]
        obtain ⟨q1,q2,_⟩:=h3 k j hk hj
        exact ⟨q1,q2,fun hh=>by cases hh⟩)
  exact hn Go.undef .undef g W _ hk .undef R E
theorem mkmap_sound {t:TypeId} (ho:o.op = .makeMap t none) (hk:K (.mp h.top) (h.push (.map []))):OpS P o e h K:=by
  refine OpS.of_value fun g w a r he=>?_
  obtain ⟨g',f2,_,f3,f4,f5⟩:=r.put none w.heap.size 0 0 0 (.map []) { w with heap:=w.heap.push (.map #[] 0) }
    (.inl (Nat.le_refl _)) (fun k hk _=>new_old _ _ hk) (by rw [new_size]; omega) (by rw [new_size]; omega) rfl rfl rfl rfl (fun g' hg'=>⟨#[],0,new_new _ _,rfl,fun i e p h1=>by simp at h1,fun _=>MapKept.stamped_empty 0⟩)
  refine ⟨_,_,g',_,_,?_,hk,.mp h.top w.heap.size 0 0 0 f3,f4,f5⟩
  simp [execOp,ho,Instr.makeMap]
theorem flatC_det {g:Gh} {v u:Value} {p q:PV} (hp:flatC p = true) (hq:flatC q = true) (hv:Rep g v p) (hu:Rep g u q):(v = u → Zbk p q = true) ∧ (∀ k,ekOk k p q → Zbk p q = true → v = u):=by
  cases p <;> simp only [flatC,Bool.false_eq_true] at hp <;> cases q <;> simp only [flatC,Bool.false_eq_true] at hq
  case bool.bool a b =>
    rw [hv.bool_inv,hu.bool_inv]
    exact ⟨fun h=>by simpa [Zbk] using h,fun k _ h=>by simp only [Zbk,beq_iff_eq] at h; rw [h]⟩
  case int.int k1 a k2 b =>
    rw [hv.int_inv,hu.int_inv]
    refine ⟨fun h=>by simp only [Value.int.injEq] at h; simp [Zbk,h.2],fun k hk h=>?_⟩
    simp only [Zbk,beq_iff_eq] at h
    cases k <;> simp only [ekOk] at hk
    rw [hk,h]
  case str.str a b =>
    obtain ⟨s,rfl,hs⟩:=hv.str_inv
    obtain ⟨t,rfl,ht⟩:=hu.str_inv
    refine ⟨fun h=>?_,fun k _ h=>?_⟩
    · simp only [Value.string.injEq] at h; subst h; simp [Zbk,← hs,← ht]
    · simp only [Zbk,beq_iff_eq] at h
      rw [← hs,← ht] at h
      have:s = t:=by
        obtain ⟨⟨x⟩⟩:=s; obtain ⟨⟨y⟩⟩:=t
        simpa using h
      rw [this]
  all_goals
    refine ⟨fun h=>?_,fun k hk=>?_⟩
    · exfalso
      subst h
      cases hv <;> cases hu
    · cases k <;> simp only [ekOk] at hk
theorem flatL_det {g : Gh} : ∀ (cx cy : List PV) (xs ys : List Value), cx.all flatC = true → cy.all flatC = true → xs.length = cx.length → ys.length = cy.length → (∀ j, j < cx.length → Rep g (xs.getD j Go.undef) (PV.nth cx j)) → (∀ j, j < cy.length → Rep g (ys.getD j Go.undef) (PV.nth cy j)) →
    (xs = ys → cx.length = cy.length → Zaq cx cy = true) ∧ (∀ ks,eqOk ks cx cy → Zaq cx cy = true → xs = ys)
  | [],cy,xs,ys,_,_,h1,h2,_,_=>by
    refine ⟨fun _ _=>by simp [Zaq],fun ks hk _=>?_⟩
    cases cy with
    | nil =>
      have e1:xs = []:=List.length_eq_zero_iff.1 h1
      have e2:ys = []:=List.length_eq_zero_iff.1 h2
      rw [e1,e2]
    | cons y r=>cases ks <;> simp only [eqOk] at hk
  | x :: r,[],xs,ys,_,_,h1,h2,_,_=>by
    refine ⟨fun _ h=>by simp at h,fun ks hk _=>?_⟩
    cases ks <;> simp only [eqOk] at hk
  | x :: r,y :: q,[],ys,_,_,h1,_,_,_=>by simp at h1
  | x :: r,y :: q,a :: xs,[],_,_,_,h2,_,_=>by simp at h2
  | x :: r,y :: q,a :: xs,b :: ys,f1,f2,h1,h2,r1,r2=>by
    simp only [List.all_cons,Bool.and_eq_true] at f1 f2
    have h0:=flatC_det f1.1 f2.1 (by simpa [PV.nth] using r1 0 (by simp)) (by simpa [PV.nth] using r2 0 (by simp))
    have ih:=flatL_det (g:=g) r q xs ys f1.2 f2.2 (by simpa using h1) (by simpa using h2) (fun j hj=>by simpa [PV.nth] using r1 (j + 1) (by simpa using hj)) (fun j hj=>by simpa [PV.nth] using r2 (j + 1) (by simpa using hj))
    refine ⟨fun h hl=>?_,fun ks hk he=>?_⟩
    · simp only [List.cons.injEq] at h
      simp only [Zaq,Bool.and_eq_true]
      exact ⟨h0.1 h.1,ih.1 h.2 (by simpa using hl)⟩
    · cases ks with
      | nil=>simp only [eqOk] at hk
      | cons k ks =>
        simp only [eqOk] at hk
        simp only [Zaq,Bool.and_eq_true] at he
        rw [h0.2 k hk.1 he.1,ih.2 ks hk.2 he.2]
theorem ekOk_flat {k:EK} {p q:PV} (h:ekOk k p q):flatC p = true ∧ flatC q = true:=by
  cases k <;> cases p <;> simp only [ekOk] at h <;> cases q <;> simp only [ekOk] at h <;> exact ⟨rfl,rfl⟩
theorem eqOk_flat:∀ {ks:List EK} {a b:List PV},eqOk ks a b → a.all flatC = true ∧ b.all flatC = true
  | [],[],[],_=>⟨rfl,rfl⟩
  | k :: ks,x :: r,y :: q,h=>by
    have h1:=ekOk_flat h.1
    have h2:=eqOk_flat h.2
    simp only [List.all_cons,Bool.and_eq_true]
    exact ⟨⟨h1.1,h2.1⟩,⟨h1.2,h2.2⟩⟩
  | [],_ :: _,_,h=>by simp only [eqOk] at h
  | [],[],_ :: _,h=>by simp only [eqOk] at h
  | _ :: _,[],_,h=>by simp only [eqOk] at h
  | _ :: _,_ :: _,[],h=>by simp only [eqOk] at h
theorem keyOk_flat {kk:KK} {a b:PV} (h:keyOk kk a b):flatP a = true ∧ flatP b = true:=by
  cases kk with
  | one k =>
    simp only [keyOk] at h
    cases k <;> cases a <;> simp only [ekOk] at h <;> cases b <;> simp only [ekOk] at h <;> exact ⟨rfl,rfl⟩
  | st ks =>
    simp only [keyOk] at h
    obtain ⟨ha,hb,hk⟩:=h
    cases a <;> simp only [keyOk.isAggP'] at ha
    cases b <;> simp only [keyOk.isAggP'] at hb
    exact eqOk_flat (by simpa [PV.cells] using hk)
theorem find_no {k:PV}:∀ {es:List (PV × PV)},mapFind k es = none → ∀ p ∈ es,keyEq k p.1 = false
  | [],_,p,hp=>by cases hp
  | (x,v) :: r,h,p,hp=>by
    simp only [mapFind] at h
    split at h
    · cases h
    · rename_i hx
      rcases List.mem_cons.1 hp with rfl | hp'
      · simpa using hx
      · exact find_no h p hp'
theorem key_det {g:Gh} {v u:Value} {p q:PV} {kk:KK} (hp:flatP p = true) (hq:flatP q = true) (hv:Rep g v p) (hu:Rep g u q) (hk:keyOk kk p q):v = u ↔ keyEq p q = true:=by
  cases kk with
  | one k =>
    simp only [keyOk] at hk
    have c1:flatC p = true ∧ flatC q = true:=by
      cases k <;> cases p <;> simp only [ekOk] at hk <;> cases q <;> simp only [ekOk] at hk <;> exact ⟨rfl,rfl⟩
    have e:keyEq p q = Zbk p q:=by
      obtain ⟨a,b⟩:=c1
      cases p <;> simp only [flatC,Bool.false_eq_true] at a <;> cases q <;> simp only [flatC,Bool.false_eq_true] at b <;> simp [keyEq,PV.cells,Zaq]
    rw [e]
    have h0:=flatC_det c1.1 c1.2 hv hu
    exact ⟨h0.1,h0.2 k hk⟩
  | st ks =>
    simp only [keyOk] at hk
    obtain ⟨ha,hb,hk⟩:=hk
    cases p <;> simp only [keyOk.isAggP'] at ha
    cases q <;> simp only [keyOk.isAggP'] at hb
    rename_i cs ds
    obtain ⟨vs,rfl,s1,_,r1⟩:=hv.agg_inv
    obtain ⟨us,rfl,s2,_,r2⟩:=hu.agg_inv
    have hl:=eqOk_len ks _ _ hk
    simp only [PV.cells] at hk hl
    have h0:=flatL_det (g:=g) cs ds vs.toList us.toList (by simpa [flatP] using hp) (by simpa [flatP] using hq) (by simpa using s1) (by simpa using s2)
      (fun j hj=>by have:=r1 j hj; simpa [Array.getD_eq_getD_getElem?] using this) (fun j hj=>by have:=r2 j hj; simpa [Array.getD_eq_getD_getElem?] using this)
    simp only [keyEq,PV.cells]
    constructor
    · intro h
      simp only [Value.agg.injEq] at h
      exact h0.1 (by rw [h]) (by omega)
    · intro h
      have:=h0.2 ks hk h
      rw [Array.toList_inj.1 this]
theorem mapset_sound {t kt et : TypeId} {x y z : Operand} {kk : KK} {va vb vc : VA} (ho : o.op = .mapUpdate t x y z ∨ o.op = .insert t x y z) (ht : P.underlying t = some (.map kt et)) (hkk : keyK P kt = some kk) (hx : cA x = some va) (hy : cA y = some vb) (hz : cA z = some vc)
    (h1:mapHas h (va.ev e)) (h2:keysOk kk (vb.ev e) (Zbe h (va.ev e))) (hk:K .undef (mapsetV h (va.ev e) (vb.ev e) (vc.ev e))):OpS P o e h K:=by
  intro g w a next Q r he hn
  have hm:=Zam he hx
  have hkey:=Zam he hy
  have hval:=Zam he hz
  generalize va.ev e = m at hm h1 h2 hk
  cases m <;> simp only [mapHas] at h1
  rename_i id
  split at h1
  case h_2=>exact h1.elim
  rename_i es hg
  have hrows:Zbe h (.mp id) = es:=by simp [Zbe,hg]
  rw [hrows] at h2
  simp only [mapsetV,hrows] at hk
  have hok':mapOk h (.mp id):=by simp [mapOk,hg]
  rcases map_rows r hm hok' with ⟨hv,_⟩ | ⟨b,ents,clock,hv,hh,hent⟩
  · rw [hv] at hm; cases hm
  rw [hrows] at hent
  obtain ⟨rr,q1,q2⟩:=find_run (P:=P) (w:=w) hkk hkey hent h2.2
  have hc:∀ em,(Instr.checkKey em 10000 kt (a.eval y)).run P w = .ok () w:=fun em=>check_key hkk hkey h2.1
  have hlt:b < w.heap.size:=(Array.getElem?_eq_some_iff.1 hh).1
  have hnew:∀ O,({ w with heap:=w.heap.setIfInBounds b O }:World).heap[b]? = some O:=fun O=>(MapKept.heap_set hh).1
  have hold:∀ O k,k ≠ b → ({ w with heap:=w.heap.setIfInBounds b O }:World).heap[k]? = w.heap[k]?:=fun O k hkb=>(MapKept.heap_set hh).2 k hkb
  have hsz:∀ O,({ w with heap:=w.heap.setIfInBounds b O }:World).heap.size = w.heap.size:=fun O=>by simp
  obtain ⟨o',n',z',hβ⟩:∃ o' n' z',g.β id = some (b,o',n',z'):=by
    rw [hv] at hm
    cases hm with
    | mp id b o n z hb=>exact ⟨_,_,_,hb⟩
  have hst:MapKept.Stamped ents clock:=by
    rcases r.blk id _ hg with ⟨_,fz,z,hx⟩ | ⟨b',o2,n2,z2,hb',_,_,hok2⟩
    · cases hx
    · rw [hβ] at hb'
      simp only [Option.some.injEq,Prod.mk.injEq] at hb'
      obtain ⟨rfl,-⟩:=hb'
      obtain ⟨en,cl,e1,_,_,e4⟩:=hok2
      rw [hh] at e1
      simp only [Option.some.injEq,Obj.map.injEq] at e1
      obtain ⟨rfl,rfl⟩:=e1
      exact e4 fun p hp=>(keyOk_flat (h2.2 p hp)).2
  have fin : ∀ (ents' : Array MapEntry) (clock' : Nat), MapKept.Stamped ents' clock' → EntR g ents'.toList (mapPut (vb.ev e) (vc.ev e) es) → (execOp a.eval o).run P w = .ok .skip { w with heap := w.heap.setIfInBounds b (.map ents' clock') } →
      o.upon P a next Q ((execOp a.eval o).run P w):=by
    intro ents' clock' hst' hent' hrun
    rw [hrun]
    obtain ⟨R,E⟩:=r.set (ab:=.map (mapPut (vb.ev e) (vc.ev e) es)) hg rfl hβ { w with heap:=w.heap.setIfInBounds b (.map ents' clock') } (fun k _ hkb=>hold _ k hkb) (by rw [hsz]; omega) rfl rfl rfl rfl
      ⟨ents',clock',hnew _,by simpa using hent'.1,fun i x p hx hp=>hent'.2 i x p (by simpa using hx) hp,fun _=>hst'⟩
    exact hn Go.undef .undef g _ _ hk .undef R E
  rcases q2 with ⟨f1,f2,rfl⟩ | ⟨j,x,p,f1,f2,f3,f4,rfl,f6⟩
  · refine fin (ents.push { key:=a.eval y,val:=a.eval z,born:=clock }) (clock + 1) (MapKept.stamped_push hst fun x hx hk=>?_) ?_ ?_
    · obtain ⟨i,hi,rfl⟩:=List.mem_iff_getElem.1 hx
      have hie:i < es.length:=by rw [← hent.1]; exact hi
      have hr1:=(hent.2 i _ es[i] (List.getElem?_eq_getElem hi) (List.getElem?_eq_getElem hie)).1
      have hok1:=h2.2 es[i] (List.getElem_mem hie)
      have:=(key_det (keyOk_flat h2.1).1 (keyOk_flat hok1).2 hkey hr1 hok1).1 hk.symm
      rw [find_no f1 _ (List.getElem_mem hie)] at this
      cases this
    · rw [f2]
      refine ⟨by simp; simpa using hent.1,fun i x p hx hp=>?_⟩
      have hlen:ents.size = es.length:=by simpa using hent.1
      simp only [Array.toList_push] at hx
      by_cases hi:i < es.length
      · rw [List.getElem?_append_left (by simpa [hlen] using hi)] at hx
        rw [List.getElem?_append_left hi] at hp
        exact hent.2 i x p hx hp
      · have hi' : i = es.length := by
          have:=(List.getElem?_eq_some_iff.1 hp).1
          simp at this; omega
        subst hi'
        rw [List.getElem?_append_right (by simp [hlen])] at hx
        rw [List.getElem?_append_right (by simp)] at hp
        simp [hlen] at hx hp
        subst hx; subst hp
        exact ⟨hkey,hval⟩
    · rcases ho with ho | ho <;> simp [execOp,ho,Instr.mapUpdate,run_underlying ht,hv,MapKept.run_getObj_map hh,hc,q1,MapKept.run_setObj_map _ hh]
  · have hj:j < ents.size:=by have:=(List.getElem?_eq_some_iff.1 f3).1; simpa using this
    have hje:ents[j]? = some x:=by simpa using f3
    have hstay:(Instr.keyThatStays x.key (a.eval y)).run P w = .ok (a.eval y) w:=by simp [Instr.keyThatStays,f6.1]
    refine fin (ents.modify j fun e=>{ e with key:=a.eval y,val:=a.eval z }) clock (MapKept.stamped_modify hst j _ (fun _ _=>rfl) (fun e he hje'=>?_)) ?_ ?_
    · rw [hje] at hje'
      simp only [Option.some.injEq] at hje'
      subst hje'
      have hj2:j < es.length:=(List.getElem?_eq_some_iff.1 f4).1
      have hp1:p ∈ es:=List.mem_of_getElem? f4
      have hr1:=(hent.2 j x p f3 f4).1
      have hok1:=h2.2 p hp1
      exact (key_det (keyOk_flat h2.1).1 (keyOk_flat hok1).2 hkey hr1 hok1).2 f6.2
    · rw [f2]
      refine ⟨by simp; simpa using hent.1,fun i x' p' hx hp=>?_⟩
      simp only [Array.getElem?_toList,Array.getElem?_modify] at hx
      by_cases hi:j = i
      · subst hi
        rw [if_pos rfl,hje] at hx
        rw [List.getElem?_set_self (List.getElem?_eq_some_iff.1 f4).1] at hp
        simp only [Option.map_some,Option.some.injEq] at hx hp
        subst hx; subst hp
        exact ⟨hkey,hval⟩
      · rw [if_neg hi] at hx
        rw [List.getElem?_set_ne hi] at hp
        exact hent.2 i x' p' (by simpa using hx) hp
    · have hstay':(Instr.keyThatStays ((Option.map (fun x=>x.key) ents[j]?).getD (a.eval y)) (a.eval y)).run P w = .ok (a.eval y) w:=by rw [hje]; exact hstay
      rcases ho with ho | ho <;> simp [execOp,ho,Instr.mapUpdate,run_underlying ht,hv,MapKept.run_getObj_map hh,hc,q1,hje,hstay,MapKept.run_setObj_map _ hh]
theorem slice0_run {t ty : TypeId} {z : Nat} {x hi mx : Operand} {lo : Option Operand} {va : VA} (hx : cA x = some va) (hu : P.underlying t = some (.slice ty)) (hs : szOf P ty = some z) (hl : lo = none ∨ ∃ l, lo = some l ∧ zeroC l = true) (hh : zeroC hi = true) (hm : zeroC mx = true)
    {g:Gh} {w:World} {a:Act} (he:Zao g a e) (hok:fxOk h (.slice0 z) [va.ev e]) (ho:o.op = .slice t x lo (some hi) (some mx)) :
    ∃ ao,(execOp a.eval o).run P w = .ok (.value (.slice ao 0 0)) w:=by
  have hz:∀ {y:Operand},zeroC y = true → a.eval y = .int .i64 0:=by
    intro y hy
    unfold zeroC at hy
    split at hy
    · rfl
    · cases hy
  have hv:=Zam he hx
  have hsl:∃ ao len cap,a.eval x = .slice ao len cap:=by
    generalize a.eval x = vx at hv
    simp only [fxOk] at hok
    split at hok
    · rename_i hp; rw [hp] at hv; cases hv; exact ⟨_,_,_,rfl⟩
    · rename_i hp; rw [hp] at hv; cases hv <;> exact ⟨_,_,_,rfl⟩
    · rename_i hp; rw [hp] at hv; cases hv <;> exact ⟨_,_,_,rfl⟩
    · exact hok.elim
  obtain ⟨ao,len,cap,hval⟩:=hsl
  have hb0:∀ (y:Nat) c,(Instr.sliceBound (.int .i64 0) y c).run P w = .ok 0 w:=by
    intro y c
    simp [Instr.sliceBound,asIntOf]
  refine ⟨if 0 = 0 then ao else ao.map (·.add (0 * z)),?_⟩
  rcases hl with rfl | ⟨l,rfl,hl⟩
  · simp [execOp,ho,Instr.sliceAt,Instr.slice,run_underlying hu,hval,Instr.sliceBounds,hz hh,hz hm,hb0,run_sz hs]
  · simp [execOp,ho,Instr.sliceAt,Instr.slice,run_underlying hu,hval,Instr.sliceBounds,hz hh,hz hm,hz hl,hb0,run_sz hs]
theorem flat_len {z:Nat}:∀ {rows:List (List PV)},(∀ r ∈ rows,r.length = z) → rows.flatten.length = rows.length * z
  | [],_=>by simp
  | r :: rs,h=>by
    rw [List.flatten_cons,List.length_append,h r (by simp),flat_len (fun x hx=>h x (by simp [hx])),List.length_cons,Nat.succ_mul]; omega
theorem flat_nth {z:Nat}:∀ {rows:List (List PV)},(∀ r ∈ rows,r.length = z) → ∀ i j,i < rows.length → j < z → PV.nth rows.flatten (i * z + j) = PV.nth (PV.row rows i) j
  | [],_,i,_,hi,_=>by simp at hi
  | r :: rs,h,0,j,_,hj=>by
    have hr:r.length = z:=h r List.mem_cons_self
    have e1:PV.row (r :: rs) 0 = r:=rfl
    rw [e1]
    simp only [PV.nth,List.flatten_cons,Nat.zero_mul,Nat.zero_add,List.getD_eq_getElem?_getD]
    rw [List.getElem?_append_left (by omega)]
  | r :: rs,h,i + 1,j,hi,hj=>by
    have hr:r.length = z:=h r List.mem_cons_self
    have hrs:∀ x ∈ rs,x.length = z:=fun x hx=>h x (List.mem_cons_of_mem _ hx)
    have ih:=flat_nth hrs i j (by simpa using hi) hj
    have e1:PV.row (r :: rs) (i + 1) = PV.row rs i:=rfl
    rw [e1,← ih]
    simp only [PV.nth,List.flatten_cons,List.getD_eq_getElem?_getD]
    rw [Nat.succ_mul,List.getElem?_append_right (by omega),hr,show i * z + z + j - z = i * z + j by omega]
theorem flat_set {z:Nat}:∀ {rows:List (List PV)},(∀ r ∈ rows,r.length = z) → ∀ (i:Nat) (x:List PV),i < rows.length → x.length = z → (rows.set i x).flatten = overlay rows.flatten (i * z) x
  | [],_,i,_,hi,_=>by simp at hi
  | r :: rs,h,0,x,_,hx=>by
    have hr:r.length = z:=h r List.mem_cons_self
    simp only [List.set_cons_zero,List.flatten_cons,overlay,Nat.zero_mul,List.take_zero,List.nil_append,Nat.zero_add]
    rw [show x.length = r.length by omega,List.drop_left]
  | r :: rs,h,i + 1,x,hi,hx=>by
    have hr:r.length = z:=h r List.mem_cons_self
    have hrs:∀ x ∈ rs,x.length = z:=fun x hx=>h x (List.mem_cons_of_mem _ hx)
    have hi':i < rs.length:=by simpa using hi
    have ih:=flat_set hrs i x hi' hx
    simp only [List.set_cons_succ,List.flatten_cons,ih,overlay]
    have t1:(r ++ rs.flatten).take ((i + 1) * z) = r ++ rs.flatten.take (i * z):=by
      rw [Nat.succ_mul,List.take_append,List.take_of_length_le (by omega),hr,show i * z + z - z = i * z by omega]
    have t2:(r ++ rs.flatten).drop ((i + 1) * z + x.length) = rs.flatten.drop (i * z + x.length):=by
      rw [Nat.succ_mul,List.drop_append,List.drop_eq_nil_of_le (by omega),hr,show i * z + z + x.length - z = i * z + x.length by omega,List.nil_append]
    rw [t1,t2]
    simp
theorem elems_fill {z n : Nat} : ∀ (ps : List (Nat × VA)) (rows : List (List PV)), (∀ r ∈ rows, r.length = z) → rows.length = n → Zbi e z n ps →
    (Za6 e rows ps).flatten = fillV e rows.flatten (ps.map fun p=>(p.1 * z,z,p.2)) ∧ (∀ r ∈ Za6 e rows ps,r.length = z) ∧ (Za6 e rows ps).length = n ∧ fillOk e (n * z) (ps.map fun p=>(p.1 * z,z,p.2))
  | [],rows,h,hl,_=>⟨rfl,h,hl,trivial⟩
  | (i,a) :: ps,rows,h,hl,⟨h1,h2,h3⟩=>by
    have hc:=fits_cells h1
    have hall:∀ r ∈ rows.set i (a.ev e).cells,r.length = z:=by
      intro r hr
      rcases List.mem_or_eq_of_mem_set hr with h' | h'
      · exact h r h'
      · rw [h']; exact hc
    obtain ⟨q1,q2,q3,q4⟩:=elems_fill ps (rows.set i (a.ev e).cells) hall (by simpa using hl) h3
    refine ⟨?_,q2,q3,h1,?_,q4⟩
    · simp only [Za6,List.map_cons,fillV]
      rw [q1,flat_set h i _ (by omega) hc]
    · have:(i + 1) * z ≤ n * z:=Nat.mul_le_mul_right _ h2
      rw [Nat.succ_mul] at this; exact this
theorem cElems_spec:∀ {ps:List (Nat × Operand)} {qs:List (Nat × VA)},cElems ps = some qs → ps.length = qs.length ∧ ∀ (i:Nat) (p:Nat × Operand) (q:Nat × VA),ps[i]? = some p → qs[i]? = some q → q.1 = p.1 ∧ cA p.2 = some q.2
  | [],qs,h=>by simp only [cElems,Option.some.injEq] at h; subst h; exact ⟨rfl,fun i p q hp=>by simp at hp⟩
  | (i,x) :: r,qs,h=>by
    simp only [cElems] at h
    split at h
    · rename_i va q h2 h3
      simp only [Option.some.injEq] at h; subst h
      obtain ⟨ih1,ih2⟩:=cElems_spec h3
      refine ⟨by simp [ih1],fun j p q' hp hq=>?_⟩
      cases j with
      | succ j=>exact ih2 j p q' (by simpa using hp) (by simpa using hq)
      | zero =>
        simp only [List.getElem?_cons_zero,Option.some.injEq] at hp hq
        subst hp hq
        exact ⟨rfl,h2⟩
    · cases h
theorem bslice_run {t ty : TypeId} {n z : Nat} {zr : List PV} {parts : Array (Nat × Operand)} {ps : List (Nat × VA)} (ho : o.op = .buildSlice t n parts) (hu : P.underlying t = some (.slice ty)) (hs : szOf P ty = some z) (hz : zeroOf P ty = some zr) (hp : cElems parts.toList = some ps)
    (hn:n * z ≤ 2 ^ 20) (hzl:zr.length = z) (hz0:z ≠ 0) (hok:Zbi e z n ps) {g:Gh} (w:World) {a:Act} (he:Zao g a e) :
    ∃ out:Array Value,(execOp a.eval o).run P w = .ok (.value (.slice (some ⟨w.heap.size,0,none⟩) n n)) { w with heap:=w.heap.push (.cells out ty (0,0)) } ∧ out.size = n * z ∧
      RowsIn g out.toList z (Za6 e (List.replicate n zr) ps) ∧ (∀ i,i < (Za6 e (List.replicate n zr) ps).length → (PV.row (Za6 e (List.replicate n zr) ps) i).length = z) ∧ (Za6 e (List.replicate n zr) ps).length = n:=by
  obtain ⟨i,v,hi,hv,hcs⟩:=zero_spec hz
  obtain ⟨z1,z2⟩:=zero_cells (g:=g) hcs
  obtain ⟨c1,c2⟩:=cElems_spec hp
  have hall:∀ r ∈ List.replicate n zr,r.length = z:=fun r hr=>by rw [List.eq_of_mem_replicate hr]; exact hzl
  obtain ⟨q1,q2,q3,q4⟩:=elems_fill ps (List.replicate n zr) hall (by simp) hok
  have hfl:(List.replicate n zr).flatten.length = n * z:=by rw [flat_len hall]; simp
  have hzero : ∃ z0 : Array Value, ((n * z = 0 → z0 = #[]) ∧ (n * z ≠ 0 → z0 = v.cells)) ∧
      ((Array.range (n * z)).map (fun k=>z0[k % z0.size]!)).size = n * z ∧ ∀ k,k < n * z → ((Array.range (n * z)).map (fun k=>z0[k % z0.size]!)).getD k Go.undef = v.cells.getD (k % z) Go.undef:=by
    by_cases h0:n * z = 0
    · refine ⟨#[],⟨fun _=>rfl,fun h=>absurd h0 h⟩,by simp,fun k hk=>by omega⟩
    · refine ⟨v.cells,⟨fun h=>absurd h h0,fun _=>rfl⟩,by simp,fun k hk=>?_⟩
      have hm:k % z < v.cells.size:=by rw [z1,hzl]; exact Nat.mod_lt _ (by omega)
      rw [z1,hzl]
      have e1:((Array.range (n * z)).map (fun k=>v.cells[k % z]!)).getD k Go.undef = v.cells[k % z]!:=by simp [Array.getD,hk]
      rw [e1,getElem!_pos v.cells (k % z) hm]
      simp [Array.getD,hm]
  obtain ⟨z0,hz1,hz2,hz3⟩:=hzero
  obtain ⟨out,o1,o2,o3,o4⟩:=fill_sound he (fun i=>some (i * z,z)) parts.toList (ps.map fun p=>(p.1 * z,z,p.2)) ((Array.range (n * z)).map (fun k=>z0[k % z0.size]!)) (List.replicate n zr).flatten (by simpa using c1)
    (fun i p q h1 h2=>by
      simp only [List.getElem?_map,Option.map_eq_some_iff] at h2
      obtain ⟨q',hq',rfl⟩:=h2
      obtain ⟨d1,d2⟩:=c2 i p q' h1 hq'
      exact ⟨by simp [d1],d2⟩)
    (by rw [hz2,hfl]) (fun j hj=>by
      rw [hfl] at hj
      rw [hz3 j hj]
      obtain ⟨s1,s2,s3⟩:=rows_split hj
      have:=z2 (j % z) (by rw [hzl]; exact s2)
      have e1:PV.nth (List.replicate n zr).flatten j = PV.nth zr (j % z):=by
        have:=flat_nth hall (j / z) (j % z) (by simpa using s1) s2
        rw [s3] at this
        rw [this]
        simp [PV.row,List.getD_eq_getElem?_getD,s1]
      rw [e1]; exact this) (by rw [hfl]; exact q4)
  rw [hfl] at o2 o3 o4
  have hrows:RowsIn g out.toList z (Za6 e (List.replicate n zr) ps):=by
    refine ⟨by rw [Array.length_toList,o2,q3],fun i j hi hj=>?_⟩
    rw [q3] at hi
    have hk:=Zax hi hj
    obtain ⟨w1,w2⟩:=o4 _ hk
    have e1:out.toList.getD (i * z + j) Go.undef = out.getD (i * z + j) Go.undef:=by simp [Array.getD_eq_getD_getElem?]
    rw [e1]
    rw [← q1,flat_nth q2 i j (by omega) hj] at w2
    exact ⟨w1,w2⟩
  refine ⟨out,?_,o2,hrows,(fun i hi=>q2 _ (by simp [PV.row,List.getD_eq_getElem?_getD,hi])),q3⟩
  have hlim:¬ (2 ^ 24 < n * z):=by omega
  simp only [execOp,ho,Instr.buildSlice,Sem.run_bind,run_underlying hu,Result.andThen_ok,run_sz hs]
  have hmap:(parts.map fun (i,x)=>(i,a.eval x)).toList = parts.toList.map fun p=>(p.1,a.eval p.2):=by rw [Array.toList_map]
  rw [if_neg hlim]
  by_cases h0:n * z = 0
  · have e0:=hz1.1 h0
    subst e0
    rw [if_pos h0]
    simp only [Sem.run_bind,Sem.run_pure,Result.andThen_ok,hmap,o1,newRow,run_newObj]
  · have e0:=hz1.2 h0
    subst e0
    rw [if_neg h0]
    simp only [Sem.run_bind,Sem.run_pure,Result.andThen_ok,run_zero hi hv,hmap,o1,newRow,run_newObj]
theorem bslice_sound {t ty : TypeId} {n z : Nat} {zr : List PV} {parts : Array (Nat × Operand)} {ps : List (Nat × VA)} (ho : o.op = .buildSlice t n parts) (hu : P.underlying t = some (.slice ty)) (hs : szOf P ty = some z) (hz : zeroOf P ty = some zr) (hp : cElems parts.toList = some ps)
    (hn:n * z ≤ 2 ^ 20) (hzl:zr.length = z) (hz0:z ≠ 0) (hok:Zbi e z n ps) (hk:K (.own h.top 0 n) (h.push (.arr false z (Za6 e (List.replicate n zr) ps)))):OpS P o e h K:=by
  refine OpS.of_value fun g w a r he=>?_
  obtain ⟨out,hrun,o2,hrows,hz',_⟩:=bslice_run ho hu hs hz hp hn hzl hz0 hok w he
  obtain ⟨g',f2,f3,f4,f5⟩:=new_row r out ty z (Za6 e (List.replicate n zr) ps) hz' hrows
  exact ⟨_,_,g',_,_,hrun,hk,.own h.top 0 n n w.heap.size 0 out.size z ⟨w.heap.size,0,none⟩ f3 (by simp) (Nat.le_refl _) (by rw [o2]; omega),f4,f5⟩
theorem new_frozen {g : Gh} {w : World} (r : Rel g w h) (c : Array Value) (t : TypeId) (z : Nat) (rows : List (List PV)) (hz : ∀ i, i < rows.length → (PV.row rows i).length = z) (hrows : RowsIn g c.toList z rows) :
    ∃ g',g'.β = g.β ∧ Rep g' (.slice (some ⟨w.heap.size,0,none⟩) rows.length rows.length) (.sl z rows) ∧ Rel g' { w with heap:=w.heap.push (.cells c t (0,0)) } h ∧ Evo g w h g' { w with heap:=w.heap.push (.cells c t (0,0)) } h:=by
  have hold:∀ b o v,g.m b o = some v → b < w.heap.size:=by
    intro b o v hm
    have:=(r.mem b o v hm).1
    rcases Nat.lt_or_ge b w.heap.size with h' | h'
    · exact h'
    · simp [World.cell?,Array.getElem?_eq_none h'] at this
  have hmold:∀ b e,g.m.mm b = some e → b < w.heap.size:=fun b e hm=>(r.mmem b e hm).lt
  let g':Gh:=⟨⟨fun b o=>if b = w.heap.size then (if o < rows.length * z then some (c.getD o Go.undef) else none) else g.m b o,g.m.mm,fun b l hp=>⟨(g.m.kn b l hp).1,fun j hj=>by rw [if_neg (Nat.ne_of_lt (hmold _ _ (g.m.kn b l hp).1))]; exact (g.m.kn b l hp).2 j hj⟩⟩,g.β⟩
  have hle:g.le g':=⟨fun b o v e=>by
    have:=hold b o v e
    show (if b = w.heap.size then _ else _) = _
    rw [if_neg (by omega)]; exact e,fun _ _ e=>e,fun _ _ e=>e⟩
  have hcell:∀ i j,i < rows.length → j < z → (c.getD (i * z + j) Go.undef).oneCell' = true ∧ Rep g (c.getD (i * z + j) Go.undef) (PV.nth (PV.row rows i) j):=by
    intro i j hi hj
    obtain ⟨h1,h2⟩:=hrows.2 i j hi hj
    have e1:c.getD (i * z + j) Go.undef = c.toList.getD (i * z + j) Go.undef:=by simp [Array.getD_eq_getD_getElem?]
    rw [e1]; exact ⟨h1,h2⟩
  have hsize:c.size = rows.length * z:=by have:=hrows.1; rw [Array.length_toList] at this; exact this
  refine ⟨g',rfl,?_,⟨fun b o v e=>?_,fun b e he=>?_,r.fin,fun id ab e=>?_,r.apart⟩,⟨hle,rfl,rfl,rfl,by rw [new_size]; omega,fun b hb _=>new_old _ _ hb,fun b o v e=>?_,fun b e he=>.inl he,fun b ho=>.inl ho⟩⟩
  · refine .sl w.heap.size 0 rows.length rows.length z _ rows (fun i j=>c.getD (i * z + j) Go.undef) rfl rfl (Nat.le_refl _) hz (fun i j hi hj=>?_) (fun i j hi hj=>(hcell i j hi hj).2.mono hle)
    have:=Zax hi hj
    show (if w.heap.size = w.heap.size then _ else _) = _
    rw [if_pos rfl,if_pos (by omega)]
    simp
  · have e':(if b = w.heap.size then (if o < rows.length * z then some (c.getD o Go.undef) else none) else g.m b o) = some v:=e
    split at e'
    · rename_i hb
      subst hb
      split at e'
      · rename_i hlt
        simp only [Option.some.injEq] at e'; subst e'
        obtain ⟨s1,s2,s3⟩:=rows_split hlt
        have hc:=(hcell (o / z) (o % z) s1 s2).1
        rw [s3] at hc
        refine ⟨?_,hc⟩
        have hlt':o < c.size:=by omega
        simp [World.cell?,Array.getD,hlt']
      · cases e'
    · obtain ⟨h1,h2⟩:=r.mem b o v e'
      refine ⟨?_,h2⟩
      have:=new_old w (.cells c t (0,0)) (hold b o v e')
      simpa [World.cell?,this] using h1
  · show e.At (w.heap.push _)[b]?
    rw [new_old w (.cells c t (0,0)) (hmold b e he)]; exact r.mmem b e he
  · rcases r.blk id ab e with h1 | ⟨b,o,n,z',h1,h2,h3,h4⟩
    · exact .inl h1
    · refine .inr ⟨b,o,n,z',h1,by rw [new_size]; omega,fun hl=>⟨fun x=>?_,(h3 hl).2⟩,AB.ok_move h4 hle (new_old _ _ h2)⟩
      show (if b = w.heap.size then _ else _) = _
      rw [if_neg (by omega)]; exact (h3 hl).1 x
  · have e':(if b = w.heap.size then (if o < rows.length * z then some (c.getD o Go.undef) else none) else g.m b o) = some v:=e
    split at e'
    · rename_i hb; exact .inr (.inl (by omega))
    · exact .inl e'
theorem bslice_frozen {t ty : TypeId} {n z : Nat} {zr : List PV} {parts : Array (Nat × Operand)} {ps : List (Nat × VA)} (ho : o.op = .buildSlice t n parts) (hu : P.underlying t = some (.slice ty)) (hs : szOf P ty = some z) (hz : zeroOf P ty = some zr) (hp : cElems parts.toList = some ps)
    (hn:n * z ≤ 2 ^ 20) (hzl:zr.length = z) (hz0:z ≠ 0) (hok:Zbi e z n ps) (hk:K (.sl z (Za6 e (List.replicate n zr) ps)) h):OpS P o e h K:=by
  refine OpS.of_value fun g w a r he=>?_
  obtain ⟨out,hrun,o2,hrows,hz',hl⟩:=bslice_run ho hu hs hz hp hn hzl hz0 hok w he
  obtain ⟨g',_,f3,f4,f5⟩:=new_frozen r out ty z (Za6 e (List.replicate n zr) ps) hz' hrows
  rw [hl] at f3
  exact ⟨_,_,g',_,_,hrun,hk,f3,f4,f5⟩
theorem rows_write {g : Gh} {w : World} (r : Rel g w h) {id b o n z off : Nat} {es news : List (List PV)} {cs : List Value} (hg : h.get id = some (.arr false z es)) (hβ : g.β id = some (b, o, n, z)) (hcs : RowsIn g cs z news)
    (hnz:∀ i,i < news.length → (PV.row news i).length = z) (hle:off + news.length ≤ es.length) (W:World) (c c':Array Value) (tt:TypeId) (hc:w.heap[b]? = some (.cells c tt (0,0))) (hc':W.heap[b]? = some (.cells c' tt (0,0))) (hsz:c'.size = c.size)
    (hin:∀ k,k < cs.length → c'.getD (o + off * z + k) Go.undef = cs.getD k Go.undef) (hout:∀ k,k < o + off * z ∨ o + off * z + cs.length ≤ k → c'.getD k Go.undef = c.getD k Go.undef)
    (hw:∀ k,k < w.heap.size → k ≠ b → W.heap[k]? = w.heap[k]?) (hs:w.heap.size ≤ W.heap.size) (h1:W.os = w.os) (h2:W.tape = w.tape) (h3:W.output = w.output) :
    Rel g W (h.set id (.arr false z (es.take off ++ news ++ es.drop (off + news.length)))) ∧ Evo g w h g W (h.set id (.arr false z (es.take off ++ news ++ es.drop (off + news.length)))):=by
  rcases r.blk id _ hg with ⟨hb0,_⟩ | ⟨b',o',n',z',hb',hlt,hm,hok⟩
  · rw [hβ] at hb0; cases hb0
  rw [hβ] at hb'
  simp only [Option.some.injEq,Prod.mk.injEq] at hb'
  obtain ⟨rfl,rfl,rfl,rfl⟩:=hb'
  obtain ⟨_,hz,hfit,c0,tt0,q1,q2,q3⟩:=hok
  rw [hc] at q1
  simp only [Option.some.injEq,Obj.cells.injEq] at q1
  obtain ⟨rfl,rfl,_⟩:=q1
  have hlen:(es.take off ++ news ++ es.drop (off + news.length)).length = es.length:=by simp; omega
  have hrow:∀ i,i < es.length → PV.row (es.take off ++ news ++ es.drop (off + news.length)) i = if i < off then PV.row es i else if i < off + news.length then PV.row news (i - off) else PV.row es i:=by
    intro i hi
    have t1:(es.take off).length = off:=by simp; omega
    simp only [PV.row,List.getD_eq_getElem?_getD]
    by_cases h1:i < off
    · rw [if_pos h1,List.append_assoc,List.getElem?_append_left (by omega),List.getElem?_take,if_pos h1]
    · rw [if_neg h1]
      by_cases h2:i < off + news.length
      · rw [if_pos h2,List.append_assoc,List.getElem?_append_right (by omega),t1,List.getElem?_append_left (by omega)]
      · rw [if_neg h2,List.getElem?_append_right (by simp; omega),List.getElem?_drop]
        congr 2
        simp; omega
  refine r.set hg rfl hβ W hw hs h1 h2 h3 rfl ⟨rfl,fun i hi=>?_,by rw [hlen]; exact hfit,c',tt,hc',by rw [hsz]; exact q2,fun i j hi hj=>?_⟩
  · rw [hlen] at hi
    rw [hrow i hi]
    split
    · exact hz i hi
    · split
      · exact hnz _ (by omega)
      · exact hz i hi
  · rw [hlen] at hi
    rw [hrow i hi]
    have hcl:=hcs.1
    split
    · rename_i hio
      have hk:(i + 1) * z ≤ off * z:=Nat.mul_le_mul_right _ hio
      rw [Nat.succ_mul] at hk
      rw [hout _ (.inl (by omega))]
      obtain ⟨a1,a2,_⟩:=q3 i j hi hj
      exact ⟨a1,a2,fun hh=>by cases hh⟩
    · rename_i hio
      split
      · rename_i hil
        have hk:=Zax (n:=news.length) (i:=i - off) (by omega) hj
        have e1:o + i * z + j = o + off * z + ((i - off) * z + j):=by
          have:i * z = off * z + (i - off) * z:=by rw [← Nat.add_mul]; congr 1; omega
          omega
        rw [e1,hin _ (by rw [hcl]; exact hk)]
        obtain ⟨a1,a2⟩:=hcs.2 (i - off) j (by omega) hj
        exact ⟨a1,a2,fun hh=>by cases hh⟩
      · rename_i hil
        have hk:(off + news.length) * z ≤ i * z:=Nat.mul_le_mul_right _ (by omega)
        rw [Nat.add_mul] at hk
        rw [hout _ (.inr (by omega))]
        obtain ⟨a1,a2,_⟩:=q3 i j hi hj
        exact ⟨a1,a2,fun hh=>by cases hh⟩
theorem Rel.same {g:Gh} {w:World} {h:Heap} (r:Rel g w h) (h':Heap) (hg:∀ i,h'.get i = h.get i) (ht:h'.top = h.top):Rel g w h' ∧ Evo g w h g w h':=by
  refine ⟨⟨r.mem,r.mmem,fun i hi=>?_,fun i ab e=>r.blk i ab (by rw [← hg]; exact e),fun i i' x x' ab ab' hne e e'=>r.apart i i' x x' ab ab' hne (by rw [← hg]; exact e) (by rw [← hg]; exact e')⟩,
    ⟨g.le_refl,rfl,rfl,rfl,Nat.le_refl _,fun _ _ _=>rfl,fun _ _ _ e=>.inl e,fun _ _ e=>.inl e,fun b ho=>?_⟩⟩
  · rw [hg]; exact r.fin i (by omega)
  · obtain ⟨i,ab,x,e,rest⟩:=ho
    exact .inl ⟨i,ab,x,by rw [← hg]; exact e,rest⟩
theorem clear_sound {t ty : TypeId} {z : Nat} {zr : List PV} {x : Operand} {va : VA} (type : TypeId) (hrunop : ∀ ρ : Operand → Value, execOp ρ o = (do pure (.value (← Builtin.clear_ #[t] type #[ρ x])) : Sem Next)) (hx : cA x = some va) (hu : P.underlying t = some (.slice ty)) (hs : szOf P ty = some z) (hz : zeroOf P ty = some zr)
    (hok:fxOk h (.clear z zr) [va.ev e]) (hk:K (fxV h (.clear z zr) [va.ev e]).1 (fxV h (.clear z zr) [va.ev e]).2):OpS P o e h K:=by
  refine OpS.of_value fun g w a r he=>?_
  have hv:=Zam he hx
  rw [hrunop]
  generalize va.ev e = pv at *
  generalize a.eval x = vx at hv
  have tup0:∀ g,Rep g (.tuple #[]) (.tup []):=fun g=>.tup _ _ rfl (fun j hj=>by simp at hj)
  have zero:∀ ao cap,vx = .slice ao 0 cap → ((do pure (.value (← Builtin.clear_ #[t] type #[vx])):Sem Next)).run P w = .ok (.value (.tuple #[])) w:=by
    rintro ao cap rfl
    cases ao <;> simp [Builtin.clear_,run_underlying hu]
  simp only [fxOk] at hok
  split at hok
  · cases hv
    exact ⟨_,_,g,w,h,zero none 0 rfl,hk,tup0 g,r,Evo.refl _ _ _⟩
  · rename_i id off len
    split at hok
    case h_2=>exact hok.elim
    rename_i fz z' es hg
    obtain ⟨rfl,rfl,hle,hzl⟩:=hok
    simp only [fxV,hg] at hk
    rcases own_seen r hv hg hle with ⟨rfl,ao,rfl⟩ | ⟨cap,b,o',n,c,tt,rfl,hb,hc,hn,hlt,h1,h2,hra⟩
    · simp only [Nat.add_zero,List.replicate_zero,List.append_nil,List.take_append_drop] at hk
      obtain ⟨r1,r2⟩:=r.same (h.set id (.arr false z' es)) (fun i=>by rw [Heap.get_set,hg]; split <;> simp_all) rfl
      exact ⟨_,_,g,w,_,zero ao 0 rfl,hk,tup0 g,r1,r2⟩
    · by_cases h0:len = 0
      · subst h0
        simp only [Nat.add_zero,List.replicate_zero,List.append_nil,List.take_append_drop] at hk
        obtain ⟨r1,r2⟩:=r.same (h.set id (.arr false z' es)) (fun i=>by rw [Heap.get_set,hg]; split <;> simp_all) rfl
        exact ⟨_,_,g,w,_,zero _ cap rfl,hk,tup0 g,r1,r2⟩
      obtain ⟨i,v,hi,hzv,hcs⟩:=zero_spec hz
      obtain ⟨z1,z2⟩:=zero_cells (g:=g) hcs
      have hone:∀ x ∈ (Builtin.zeroCells v.cells len).toList,x.oneCell' = true:=by
        intro x hx
        obtain ⟨k,hk,rfl⟩:=List.mem_iff_getElem.1 hx
        rw [Array.length_toList] at hk
        simp only [Builtin.zeroCells,Array.size_map,Array.size_range] at hk
        have hm:k % v.cells.size < v.cells.size:=Nat.mod_lt _ (by
          rcases Nat.eq_zero_or_pos v.cells.size with h | h
          · rw [h] at hk; simp at hk
          · exact h)
        have:=(z2 (k % v.cells.size) (by rw [← z1]; exact hm)).1
        simpa [Builtin.zeroCells,getElem!_pos v.cells (k % v.cells.size) hm,Array.getD,hm] using this
      have hzz:z' = v.cells.size:=by rw [z1]; exact hzl.symm
      have hsize:(Builtin.zeroCells v.cells len).toList.length = len * z':=by rw [Array.length_toList,size_zeroCells,hzz]
      have hcells:RowsIn g (Builtin.zeroCells v.cells len).toList z' (List.replicate len zr):=by
        refine ⟨by rw [hsize]; simp,fun i j hi hj=>?_⟩
        simp only [List.length_replicate] at hi
        have hk:=Zax hi hj
        have hj':j < v.cells.size:=by omega
        have hmod:(i * z' + j) % v.cells.size = j:=by
          rw [← hzz,Nat.add_comm,Nat.add_mul_mod_self_right,Nat.mod_eq_of_lt hj]
        have e1:(Builtin.zeroCells v.cells len).toList.getD (i * z' + j) Go.undef = v.cells.getD j Go.undef:=by
          have hk':i * z' + j < len * v.cells.size:=by rw [← hzz]; exact hk
          simp [Builtin.zeroCells,List.getD_eq_getElem?_getD,hk',hmod,getElem!_pos v.cells j hj',Array.getD,hj']
        have e2:PV.row (List.replicate len zr) i = zr:=by simp [PV.row,List.getD_eq_getElem?_getD,hi]
        rw [e1,e2]
        exact z2 j (by rw [← z1]; exact hj')
      have hbound:o' + off * z' + len * z' ≤ c.size:=by
        have:len * z' ≤ cap * z':=Nat.mul_le_mul_right _ hc
        omega
      have hst:=run_storeCells_at P b (o' + off * z') tt (Builtin.zeroCells v.cells len).toList 0 c w h1 (by rw [hsize]; omega) hone
      simp only [Nat.add_zero] at hst
      have hrun:((do pure (.value (← Builtin.clear_ #[t] type #[.slice (some ⟨b,o' + off * z',none⟩) len cap])):Sem Next)).run P w = .ok (.value (.tuple #[])) (w.setRow b (c.toList.take (o' + off * z') ++ (Builtin.zeroCells v.cells len).toList ++ c.toList.drop (o' + off * z' + (Builtin.zeroCells v.cells len).toList.length)).toArray):=by
        have hl:len = (len - 1) + 1:=by omega
        rw [hl] at hst ⊢
        simp [Builtin.clear_,run_underlying hu,run_zero hi hzv,hst]
      have hheap:=setRow_heap w b c (c.toList.take (o' + off * z') ++ (Builtin.zeroCells v.cells len).toList ++ c.toList.drop (o' + off * z' + (Builtin.zeroCells v.cells len).toList.length)).toArray tt (0,0) h1
      have hsame:∀ k,k ≠ b → (w.setRow b (c.toList.take (o' + off * z') ++ (Builtin.zeroCells v.cells len).toList ++ c.toList.drop (o' + off * z' + (Builtin.zeroCells v.cells len).toList.length)).toArray).heap[k]? = w.heap[k]?:=by
        intro k hk
        simp only [World.setRow,Array.getElem?_modify]
        rw [if_neg (Ne.symm hk)]
      have hszW:(w.setRow b (c.toList.take (o' + off * z') ++ (Builtin.zeroCells v.cells len).toList ++ c.toList.drop (o' + off * z' + (Builtin.zeroCells v.cells len).toList.length)).toArray).heap.size = w.heap.size:=by simp [World.setRow]
      generalize hzs:(Builtin.zeroCells v.cells len).toList = zs at *
      have hl1:(c.toList.take (o' + off * z')).length = o' + off * z':=by simp; omega
      obtain ⟨R,E⟩:=rows_write r (off:=off) (news:=List.replicate len zr) (cs:=zs) hg hb hcells (fun i hi=>by simp only [List.length_replicate] at hi; simp [PV.row,List.getD_eq_getElem?_getD,hi,hzl]) (by simpa using hle) (w.setRow b (c.toList.take (o' + off * z') ++ zs ++ c.toList.drop (o' + off * z' + zs.length)).toArray) c (c.toList.take (o' + off * z') ++ zs ++ c.toList.drop (o' + off * z' + zs.length)).toArray tt h1 hheap
        (by simp; omega)
        (fun k hk=>by
          rw [Array.getD_eq_getD_getElem?,List.getElem?_toArray,List.append_assoc,List.getElem?_append_right (by rw [hl1]; omega),hl1,List.getElem?_append_left (by omega),List.getD_eq_getElem?_getD]
          congr 2; omega)
        (fun k hk=>by
          rcases hk with hk | hk
          · rw [Array.getD_eq_getD_getElem?,List.getElem?_toArray,List.append_assoc,List.getElem?_append_left (by rw [hl1]; exact hk),List.getElem?_take,if_pos hk,Array.getElem?_toList,Array.getD_eq_getD_getElem?]
          · have hl2:(c.toList.take (o' + off * z') ++ zs).length = o' + off * z' + zs.length:=by rw [List.length_append,hl1]
            rw [Array.getD_eq_getD_getElem?,List.getElem?_toArray,List.getElem?_append_right (by rw [hl2]; exact hk),hl2,List.getElem?_drop,Array.getElem?_toList,Array.getD_eq_getD_getElem?]
            congr 2; omega)
        (fun k _ hk=>hsame k hk) (by omega) rfl rfl rfl
      simp only [List.length_replicate] at R E
      exact ⟨_,_,g,_,_,hrun,hk,tup0 g,R,E⟩
  · exact hok.elim
theorem nd_sound {neg:Bool} {va:VA} (hc:cX P o = some (.nd neg va)) (hs:Zaf P e h (.nd neg va) K):OpS P o e h K:=by
  obtain ⟨hsl,hk⟩:=hs
  refine OpS.of_value fun g w a r he=>?_
  obtain ⟨dst,op,type,pos,after,guard⟩:=o
  cases op
  case binOp op t x y yt =>
    have key:∀ {x:Operand},cA x = some va → nilC y = true → nilT P t = true → ∃ ao l c ty,a.eval x = .slice ao l c ∧ a.eval y = .slice none 0 0 ∧ P.underlying t = some (.slice ty) ∧ (isNil (va.ev e) = true → ao.isNone = true) ∧ (notNil (va.ev e) = true → ao.isNone = false):=by
      intro x hx hy ht
      have hv:=Zam he hx
      have hyv:a.eval y = .slice none 0 0:=by
        unfold nilC at hy
        split at hy
        · rfl
        · cases hy
      obtain ⟨ty,hu⟩:∃ ty,P.underlying t = some (.slice ty):=by
        unfold nilT at ht
        split at ht
        · rename_i ty hu; exact ⟨ty,hu⟩
        · cases ht
      generalize a.eval x = vx at hv
      cases hp:va.ev e <;> rw [hp] at hv hsl <;> simp only [slLike,Bool.false_eq_true] at hsl
      case nilsl=>cases hv; exact ⟨_,_,_,ty,rfl,hyv,hu,fun _=>rfl,(fun h=>by cases h)⟩
      case sl z es =>
        cases hv with
        | slE a cap=>exact ⟨_,_,_,ty,rfl,hyv,hu,(fun h=>by cases h),(fun h=>by cases h)⟩
        | sl b o len cap z a es vs ha hl hc hz hm hr=>exact ⟨_,_,_,ty,rfl,hyv,hu,(fun h=>by cases h),fun _=>rfl⟩
      case own id off len =>
        cases hv with
        | ownE ao=>exact ⟨_,_,_,ty,rfl,hyv,hu,(fun h=>by cases h),(fun h=>by cases h)⟩
        | own _ _ _ cap b o n z a hb ha hc hn=>exact ⟨_,_,_,ty,rfl,hyv,hu,(fun h=>by cases h),fun _=>rfl⟩
    cases op <;> simp only [cX] at hc <;> try (cases hc; done)
    · split at hc
      · rename_i hh
        simp only [Bool.and_eq_true] at hh
        obtain ⟨va',hx,hq⟩:=Zag hc
        simp only [VOp.nd.injEq] at hq
        obtain ⟨rfl,rfl⟩:=hq
        obtain ⟨ao,l,c,ty,e1,e2,hu,n1,n2⟩:=key hx hh.1 hh.2
        refine ⟨.bool ao.isNone,.bool ao.isNone,g,w,h,?_,by simpa using hk ao.isNone n1 n2,.bool _,r,Evo.refl _ _ _⟩
        simp only [execOp,e1,e2,eqGuard,binOp]
        simp [run_equal_slice_nil w t ty ao l c hu]
      · cases hc
    · split at hc
      · rename_i hh
        simp only [Bool.and_eq_true] at hh
        obtain ⟨va',hx,hq⟩:=Zag hc
        simp only [VOp.nd.injEq] at hq
        obtain ⟨rfl,rfl⟩:=hq
        obtain ⟨ao,l,c,ty,e1,e2,hu,n1,n2⟩:=key hx hh.1 hh.2
        refine ⟨.bool (!ao.isNone),.bool (ao.isNone != true),g,w,h,?_,hk ao.isNone n1 n2,by simpa using Rep.bool (!ao.isNone),r,Evo.refl _ _ _⟩
        simp only [execOp,e1,e2,eqGuard,binOp]
        simp [run_equal_slice_nil w t ty ao l c hu]
      · cases hc
  case slice t x lo hi mx =>
    exfalso
    cases lo <;> cases hi <;> cases mx <;> simp only [cX] at hc <;> first
      | (cases hc; done)
      | ((repeat' (split at hc)) <;> first | (cases hc; done) | (obtain ⟨z,_,hq⟩:=Zag hc; cases hq))
  case nilCheck x=>simp only [cX] at hc; obtain ⟨z,_,hq⟩:=Zag hc; cases hq
  case unOp uop t x=>cases uop <;> simp only [cX] at hc <;> first | (cases hc; done) | (obtain ⟨z,_,hq⟩:=Zag hc; cases hq)
  case insert t m k v =>
    simp only [cX] at hc
    split at hc
    · obtain ⟨z,_,hq⟩:=Zag hc; cases hq
    · cases hc
  case buildSlice t n parts =>
    exfalso
    simp only [cX] at hc
    (repeat' (split at hc)) <;> simp at hc
  case call c =>
    exfalso
    simp only [cX,cCallX] at hc
    (repeat' (split at hc)) <;> simp at hc
  case convert=>simp only [cX] at hc; (repeat' (split at hc)) <;> simp at hc
  all_goals (simp only [cX] at hc; cases hc)
theorem fx_sound {k:FX} {l:List VA} (hc:cX P o = some (.fx k l)) (hok:fxOk h k (l.map (VA.ev e))) (hk:K (fxV h k (l.map (VA.ev e))).1 (fxV h k (l.map (VA.ev e))).2):OpS P o e h K:=by
  obtain ⟨dst,op,type,pos,after,guard⟩:=o
  have fin : ∀ {t ty : TypeId} {z : Nat} {x hi mx : Operand} {lo : Option Operand} {va : VA}, cA x = some va → P.underlying t = some (.slice ty) → szOf P ty = some z → (lo = none ∨ ∃ l, lo = some l ∧ zeroC l = true) → zeroC hi = true → zeroC mx = true →
      VOp.fx (.slice0 z) [va] = .fx k l → op = .slice t x lo (some hi) (some mx) → OpS P ⟨dst,op,type,pos,after,guard⟩ e h K:=by
    intro t ty z x hi mx lo va hx hu hs hl hh hm hq ho
    simp only [VOp.fx.injEq] at hq
    obtain ⟨rfl,rfl⟩:=hq
    refine OpS.of_value fun g w a r he=>?_
    obtain ⟨ao,hrun⟩:=slice0_run (o:=⟨dst,op,type,pos,after,guard⟩) hx hu hs hl hh hm he hok ho
    obtain ⟨r1,r2⟩:=r.none Option.none z w rfl rfl rfl rfl
    exact ⟨_,_,g,w,_,hrun,hk,.ownE _ _ _,r1,r2⟩
  cases op
  case slice t x lo hi mx =>
    cases lo <;> cases hi <;> cases mx <;> simp only [cX] at hc <;> try (cases hc; done)
    · split at hc
      · rename_i hz
        simp only [Bool.and_eq_true] at hz
        split at hc
        · rename_i ty va hu hx
          obtain ⟨z,hs,hq⟩:=Zag hc
          exact fin hx hu hs (.inl rfl) hz.1 hz.2 hq rfl
        · cases hc
      · cases hc
    · split at hc
      · rename_i hz
        simp only [Bool.and_eq_true] at hz
        split at hc
        · rename_i ty va hu hx
          obtain ⟨z,hs,hq⟩:=Zag hc
          exact fin hx hu hs (.inr ⟨_,rfl,hz.1.1⟩) hz.1.2 hz.2 hq rfl
        · cases hc
      · cases hc
  case nilCheck x=>simp only [cX] at hc; obtain ⟨z,_,hq⟩:=Zag hc; cases hq
  case unOp uop t x=>cases uop <;> simp only [cX] at hc <;> first | (cases hc; done) | (obtain ⟨z,_,hq⟩:=Zag hc; cases hq)
  case insert t m k v =>
    simp only [cX] at hc
    split at hc
    · obtain ⟨z,_,hq⟩:=Zag hc; cases hq
    · cases hc
  case binOp op t x y yt =>
    exfalso
    cases op <;> simp only [cX] at hc <;> first
      | (cases hc; done)
      | (split at hc <;> first | (cases hc; done) | (obtain ⟨z,_,hq⟩:=Zag hc; cases hq))
  case buildSlice t n parts =>
    simp only [cX] at hc
    split at hc
    case isFalse=>cases hc
    rename_i hnp
    simp only [Bool.and_eq_true,beq_iff_eq,Array.isEmpty_iff] at hnp
    obtain ⟨rfl,rfl⟩:=hnp
    split at hc
    case h_2=>cases hc
    rename_i ty hu
    split at hc
    case h_2=>cases hc
    rename_i z zr hz hzr
    split at hc
    case isFalse=>cases hc
    rename_i hcond
    simp only [Bool.and_eq_true,beq_iff_eq,bne_iff_ne,ne_eq] at hcond
    simp only [Option.some.injEq,VOp.fx.injEq] at hc
    obtain ⟨rfl,rfl⟩:=hc
    exact bslice_sound (ps:=[]) rfl hu hz hzr rfl (by simp) hcond.1 hcond.2 trivial hk
  case call c =>
    obtain ⟨callee,args,argTypes⟩:=c
    simp only [cX,cCallX] at hc
    split at hc
    case h_2=>cases hc
    split at hc
    case h_2=>cases hc
    rename_i x t hxl htl
    have h1:args = #[x]:=by rw [← Array.toArray_toList (xs:=args),hxl]
    have h2:argTypes = #[t]:=by rw [← Array.toArray_toList (xs:=argTypes),htl]
    subst h1 h2
    split at hc
    case h_2=>cases hc
    rename_i ty va hu hx
    split at hc
    case h_2=>cases hc
    rename_i z zr hz hzr
    split at hc
    case isFalse=>cases hc
    simp only [Option.some.injEq,VOp.fx.injEq] at hc
    obtain ⟨rfl,rfl⟩:=hc
    exact clear_sound type (fun ρ=>by simp [execOp,resolve,invoke,builtin]) hx hu hz hzr hok hk
  case convert=>simp only [cX] at hc; (repeat' (split at hc)) <;> simp at hc
  all_goals (simp only [cX] at hc; cases hc)
theorem args_of {g:Gh} {a:Act} (he:Zao g a e) {l:Array Operand} {q:List VA} (hq:cAs l.toList = some q):Args g (l.map a.eval) (q.map (VA.ev e)):=by
  have hl:=cAs_len hq
  rw [Array.length_toList] at hl
  refine ⟨by simp [hl],fun j hj=>?_⟩
  have:=cAs_rep he hq j (by simpa using hj)
  have e1:(l.map a.eval).getD j Go.undef = (l.toList.map a.eval).getD j Go.undef:=by simp [Array.getD_eq_getD_getElem?]
  rw [e1]; exact this
theorem enter_run {f:FuncId} (hf:fnOk P f = true) (args:Array Value) (w:World):(callFunc f args).run P w = .ok (.enter f args) w:=by
  unfold fnOk at hf
  split at hf
  · rename_i fn hfn
    simp only [Bool.and_eq_true,bne_iff_ne,ne_eq] at hf
    have hb:fn.body.isNone = false:=by
      cases hb:fn.body with
      | none=>rw [hb] at hf; simp at hf
      | some c=>rfl
    simp [callFunc,hfn,hf.1]
    intro hnone
    rw [hnone] at hb
    simp at hb
  · cases hf
theorem call_upon {f : FuncId} {args : List PV} (H : ACall P f args h K) {g : Gh} {w : World} {vals : Array Value} (r : Rel g w h) (ha : Args g vals args) {a : Act} {next : Act → World → Prop} {Q : Exit → Act → World → Prop}
    (hrun:(execOp a.eval o).run P w = .ok (.enter f vals) w)
    (hn:∀ v pv g' w' h',K pv h' → Rep g' v pv → Rel g' w' h' → Evo g w h g' w' h' → next (a.put o.dst v) w'):o.upon P a next Q ((execOp a.eval o).run P w):=by
  rw [hrun]
  refine (H.2 g w vals r ha).mono ?_
  rintro x w' ⟨v,p,g',h',rfl,h1,h2,h3,h4⟩
  exact hn v p g' w' h' h1 h2 h3 h4
end
end Go.VM
namespace Go.VM
open Go
section
variable {P : Program} {o : Oper} {e : Env} {h : Heap} {K : PV → Heap → Prop}
theorem Rep.fn_inv {g:Gh} {v:Value} {f:Fn} {pf pc:List PV} (h:Rep g v (.fn f pf pc)):∃ fs cs,v = .func f fs cs ∧ Args g fs pf ∧ Args g cs pc:=by
  cases h with
  | fn _ fs cs _ _ s1 s2 r1 r2=>exact ⟨fs,cs,rfl,⟨s1,r1⟩,⟨s2,r2⟩⟩
theorem Args.append {g:Gh} {x y:Array Value} {a b:List PV} (ha:Args g x a) (hb:Args g y b):Args g (x ++ y) (a ++ b):=by
  refine ⟨by simp [ha.1,hb.1],fun j hj=>?_⟩
  by_cases hlt:j < a.length
  · have e1 : (x ++ y).getD j Go.undef = x.getD j Go.undef := by
      simp [Array.getD_eq_getD_getElem?,Array.getElem?_append_left (show j < x.size by rw [ha.1]; exact hlt)]
    have e2:PV.nth (a ++ b) j = PV.nth a j:=by simp [PV.nth,List.getD_eq_getElem?_getD,List.getElem?_append_left hlt]
    rw [e1,e2]; exact ha.2 j hlt
  · have e1 : (x ++ y).getD j Go.undef = y.getD (j - a.length) Go.undef := by
      rw [Array.getD_eq_getD_getElem?,Array.getElem?_append_right (by rw [ha.1]; omega),ha.1,Array.getD_eq_getD_getElem?]
    have e2:PV.nth (a ++ b) j = PV.nth b (j - a.length):=by
      simp only [PV.nth,List.getD_eq_getElem?_getD]
      rw [List.getElem?_append_right (by omega)]
    rw [e1,e2]; exact hb.2 _ (by simp at hj; omega)
theorem src_rows {g:Gh} {w:World} (r:Rel g w h) {str:Bool} {z:Nat} {p:PV} {v:Value} (hv:Rep g v p) (hok:srcOk h str z p):∀ x ∈ Zau h p,x.length = z:=by
  intro x hx
  cases p <;> simp only [srcOk] at hok <;> simp only [Zau,List.not_mem_nil] at hx
  case str s =>
    obtain ⟨_,rfl⟩:=hok
    simp only [List.mem_map] at hx
    obtain ⟨c,_,rfl⟩:=hx
    rfl
  case sl z' es =>
    obtain ⟨_,rfl⟩:=hok
    cases hv with
    | slE=>cases hx
    | sl b o len cap z a es vs ha hl hc hz hm hr =>
      obtain ⟨k,hk,rfl⟩:=List.mem_iff_getElem.1 hx
      have:=hz k (by omega)
      simpa [PV.row,List.getD_eq_getElem?_getD,hk] using this
  case own id off len =>
    obtain ⟨_,hok⟩:=hok
    split at hok
    case h_2=>exact hok.elim
    rename_i fz z' es hg
    obtain ⟨rfl,hle⟩:=hok
    simp only [hg] at hx
    have hx':x ∈ es:=List.mem_of_mem_drop (List.mem_of_mem_take hx)
    obtain ⟨k,hk,rfl⟩:=List.mem_iff_getElem.1 hx'
    rcases r.blk id _ hg with ⟨_,fz',z'',he⟩ | ⟨b,o,n,z'',_,_,_,hokk⟩
    · simp only [AB.arr.injEq] at he; obtain ⟨_,_,rfl⟩:=he; simp at hk
    · obtain ⟨rfl,hz,_⟩:=hokk
      have:=hz k hk
      simpa [PV.row,List.getD_eq_getElem?_getD,hk] using this
theorem app_step {t u ty : TypeId} {i : TypeInfo} {d : TypeDesc} {zr : List PV} {str : Bool} {x y : Operand} {va vb : VA} (o : Oper) (type : TypeId) (hrunop : ∀ ρ : Operand → Value, execOp ρ o = (do pure (.value (← Builtin.append_ #[t, u] type #[ρ x, ρ y])) : Sem Next))
    (hx:cA x = some va) (hy:cA y = some vb) (ht:P.underlying t = some (.slice ty)) (hu:P.underlying u = some d) (hd:∀ k,d ≠ .int k) (hi:P.info? ty = some i) (hzo:zeroOf P ty = some zr) (hzl:zr.length = i.size)
    (hs:Zaf P e h (.app i.size i.bytes zr str va vb) K):OpS P o e h K:=by
  obtain ⟨h1,h2,h3,h4,h5⟩:=hs
  refine OpS.of_value fun g w a r he=>?_
  have hp:=Zam he hx
  have hq:=Zam he hy
  obtain ⟨v,w',g',e1,e3,e4,e5⟩:=app_sound (ty:=type) ht hu hd hi hzo hzl r hp hq h1 h2 (src_rows r hq h2) h3 h4
  exact ⟨v,_,g',w',_,by rw [hrunop]; simp [e1],h5,e3,e4,e5⟩
theorem stepW_sound0 {vop:VOp} (hc:cOp0 P o = some vop) (hs:Zaf P e h vop K):OpS P o e h K:=by
  by_cases hp:vop.pure = true
  · have hs' : pok e h vop ∧ K (pval e h vop) h := by
      cases vop <;> first | exact hs | simp [VOp.pure] at hp
    refine OpS.of_value fun g w a r he=>?_
    obtain ⟨v,e1,e2⟩:=pure_sound0 hc hp hs'.1 r he
    exact ⟨v,_,g,w,h,e1,hs'.2,e2,r,Evo.refl _ _ _⟩
  obtain ⟨dst,op,type,pos,after,guard⟩:=o
  cases op <;> simp only [cOp0] at hc
  case move x=>obtain ⟨va,hx,rfl⟩:=Zag hc; simp [VOp.pure] at hp
  case assign x=>obtain ⟨va,hx,rfl⟩:=Zag hc; simp [VOp.pure] at hp
  case pick c x y=>split at hc <;> simp at hc; subst hc; simp [VOp.pure] at hp
  case alloc t =>
    obtain ⟨z,hz,rfl⟩:=Zag hc
    exact alloc_sound rfl hz hs
  case box t x =>
    split at hc
    · rename_i va n h1 h2
      simp only [Option.some.injEq] at hc; subst hc
      exact box_sound rfl h1 hs.1 hs.2
    · cases hc
  case build t parts =>
    split at hc
    · split at hc
      · simp only [Option.some.injEq] at hc; subst hc; simp [VOp.pure] at hp
      · cases hc
    · cases hc
  case buildSlice t n parts =>
    split at hc
    · rename_i ty hu
      split at hc
      · rename_i z zr ps h1 h2 h3
        split at hc
        · rename_i hcond
          simp only [Option.some.injEq] at hc; subst hc
          simp only [Bool.and_eq_true,decide_eq_true_eq,beq_iff_eq,bne_iff_ne,ne_eq] at hcond
          exact bslice_sound rfl hu h1 h2 h3 hcond.1.1 hcond.1.2 hcond.2 hs.1 hs.2
        · cases hc
      · cases hc
    · cases hc
  case load t x=>split at hc <;> simp at hc; subst hc; simp [VOp.pure] at hp
  case store t x y =>
    split at hc
    · rename_i va vb s h1 h2 h3
      simp only [Option.some.injEq] at hc; subst hc
      exact store_sound rfl h1 h2 h3 hs.1 hs.2
    · cases hc
  case binOp op t x y yt =>
    split at hc
    · simp only [Option.some.injEq] at hc; subst hc; simp [VOp.pure] at hp
    · simp only [Option.some.injEq] at hc; subst hc; simp [VOp.pure] at hp
    · simp only [Option.some.injEq] at hc; subst hc; simp [VOp.pure] at hp
    · split at hc
      · split at hc
        · split at hc
          · simp only [Option.some.injEq] at hc; subst hc; simp [VOp.pure] at hp
          · cases hc
        · cases hc
      · split at hc
        · split at hc
          · simp only [Option.some.injEq] at hc; subst hc; simp [VOp.pure] at hp
          · cases hc
        · cases hc
      · cases hc
    · simp only [Option.some.injEq] at hc; subst hc; exact hs
  case unOp op t x=>obtain ⟨va,hx,rfl⟩:=Zag hc; simp [VOp.pure] at hp
  case convert s d x =>
    split at hc
    · simp only [Option.some.injEq] at hc; subst hc; simp [VOp.pure] at hp
    · simp only [Option.some.injEq] at hc; subst hc; simp [VOp.pure] at hp
    · simp only [Option.some.injEq] at hc; subst hc; exact hs
  case makeFunc f x y=>split at hc <;> simp at hc; subst hc; simp [VOp.pure] at hp
  case slice t x lo hi mx =>
    cases mx with
    | some m=>simp at hc; subst hc; exact hs
    | none =>
      simp only at hc
      split at hc
      · simp only [Option.some.injEq] at hc; subst hc; simp [VOp.pure] at hp
      · obtain ⟨z,hz,rfl⟩:=Zag hc; simp [VOp.pure] at hp
      · cases hc
  case fieldAddr t x f =>
    split at hc
    · split at hc
      · split at hc
        · cases hc
        · simp only [Option.some.injEq] at hc; subst hc; simp [VOp.pure] at hp
      · cases hc
    · cases hc
  case field t x f =>
    split at hc
    · split at hc
      · simp only [Option.some.injEq] at hc; subst hc; simp [VOp.pure] at hp
      · cases hc
    · cases hc
  case indexAddr t x i =>
    split at hc
    · obtain ⟨z,hz,rfl⟩:=Zag hc; simp [VOp.pure] at hp
    · cases hc
  case index t x i=>split at hc <;> simp at hc; subst hc; simp [VOp.pure] at hp
  case extract x i=>obtain ⟨va,hx,rfl⟩:=Zag hc; simp [VOp.pure] at hp
  case call c =>
    obtain ⟨callee,args,argTypes⟩:=c
    have args2:∀ {x y:Operand},args.toList = [x,y] → args = #[x,y]:=fun hh=>by rw [← Array.toArray_toList (xs:=args),hh]
    have types2:∀ {x y:TypeId},argTypes.toList = [x,y] → argTypes = #[x,y]:=fun hh=>by rw [← Array.toArray_toList (xs:=argTypes),hh]
    unfold cCall at hc
    simp only at hc
    split at hc
    · split at hc
      · split at hc
        · simp only [Option.some.injEq] at hc; subst hc; simp [VOp.pure] at hp
        · simp only [Option.some.injEq] at hc; subst hc; simp [VOp.pure] at hp
        · simp only [Option.some.injEq] at hc; subst hc; simp [VOp.pure] at hp
        · cases hc
      · cases hc
    · split at hc
      case h_2=>cases hc
      rename_i x y t u hxy htu
      obtain rfl:=args2 hxy
      obtain rfl:=types2 htu
      split at hc
      · rename_i va vb ty ty' h1 h2 h3 h4
        split at hc
        · rename_i z zr hz hzr
          split at hc
          · rename_i hcond
            simp only [Bool.and_eq_true,beq_iff_eq] at hcond
            obtain ⟨i,hi,rfl⟩:=Zag hc
            have hzi:z = i.size:=by simpa [szOf,hi] using hz.symm
            subst hzi
            exact app_step (d:=.slice ty') _ type (fun ρ=>by simp [execOp,resolve,invoke,builtin]) h1 h2 h3 h4 (fun k hk=>by cases hk) hi hzr hcond.2 hs
          · cases hc
        · cases hc
      · rename_i va vb ty h1 h2 h3 h4
        split at hc
        · rename_i z zr hz hzr
          split at hc
          · rename_i hcond
            simp only [Bool.and_eq_true,beq_iff_eq] at hcond
            obtain ⟨i,hi,rfl⟩:=Zag hc
            have hzi:z = i.size:=by simpa [szOf,hi] using hz.symm
            subst hzi
            exact app_step (d:=.string) _ type (fun ρ=>by simp [execOp,resolve,invoke,builtin]) h1 h2 h3 h4 (fun k hk=>by cases hk) hi hzr hcond.2 hs
          · cases hc
        · cases hc
      · cases hc
    · obtain ⟨q,_,rfl⟩:=Zag hc; simp [VOp.pure] at hp
    · obtain ⟨q,_,rfl⟩:=Zag hc; simp [VOp.pure] at hp
    · split at hc
      · rename_i f hf
        obtain ⟨q,hq,rfl⟩:=Zag hc
        intro g w a next Q r he hn
        have ha:=args_of he hq
        refine call_upon hs r ha ?_ hn
        simp [execOp,resolve,invoke,Act.eval,Deferred.ofValue,enter_run hf]
      · cases hc
    · split at hc
      · rename_i f hf
        obtain ⟨q,hq,rfl⟩:=Zag hc
        intro g w a next Q r he hn
        have ha:=args_of he hq
        refine call_upon hs r ha ?_ hn
        simp [execOp,resolve,invoke,Act.eval,Deferred.ofValue,enter_run hf]
      · cases hc
    · split at hc
      · rename_i va q h1 hq
        simp only [Option.some.injEq] at hc; subst hc
        intro g w a next Q r he hn
        simp only [Zaf] at hs
        have hf:=Zam he h1
        split at hs
        case h_2=>exact hs.elim
        rename_i f first cap hpv
        rw [hpv] at hf
        have ha:=args_of he hq
        obtain ⟨fs,cs,hv,a1,a2⟩:=hf.fn_inv
        have hargs:=(a1.append ha).append a2
        refine call_upon hs r hargs ?_ hn
        simp only [execOp,resolve,hv,Deferred.ofValue,Sem.run_bind,Sem.run_pure,Result.andThen_ok,invoke]
        exact enter_run hs.1 _ _
      · cases hc
    · simp only [Option.some.injEq] at hc; subst hc; exact hs
  case makeMap t r =>
    cases r <;> simp only [Option.some.injEq] at hc <;> subst hc
    · exact mkmap_sound rfl hs
    · exact hs
  case lookup t m k ok =>
    split at hc
    · split at hc
      · simp only [Option.some.injEq] at hc; subst hc; simp [VOp.pure] at hp
      · simp only [Option.some.injEq] at hc; subst hc; exact hs
    · simp only [Option.some.injEq] at hc; subst hc; exact hs
  case mapUpdate t m k v =>
    split at hc
    · rename_i kt et va vb vc hu h1 h2 h3
      split at hc
      · rename_i kk h4
        simp only [Option.some.injEq] at hc; subst hc
        exact mapset_sound (.inl rfl) hu h4 h1 h2 h3 hs.1 hs.2.1 hs.2.2
      · simp only [Option.some.injEq] at hc; subst hc; exact hs
    · simp only [Option.some.injEq] at hc; subst hc; exact hs
  all_goals (simp only [Option.some.injEq] at hc; subst hc; exact hs)
theorem stepW_sound {vop:VOp} (hc:cOp P o = some vop) (hs:Zaf P e h vop K):OpS P o e h K:=by
  unfold cOp at hc
  split at hc
  · simp only [Option.some.injEq] at hc; subst hc
    exact hs
  rename_i hraw
  clear hraw
  split at hc
  · rename_i vo hx
    simp only [Option.some.injEq] at hc; subst hc
    have hk:=cX_ext hx
    cases vo <;> simp only [VOp.isX] at hk
    case px k l =>
      refine OpS.of_value fun g w a r he=>?_
      obtain ⟨v,e1,e2⟩:=px_sound (h:=h) hx hs.1 r he
      exact ⟨v,_,g,w,h,e1,hs.2,e2,r,Evo.refl _ _ _⟩
    case fx k l=>exact fx_sound hx hs.1 hs.2
    case nd neg a=>exact nd_sound hx hs
    case mapset kk m k v =>
      obtain ⟨dst,op,type,pos,after,guard⟩:=o
      cases op
      case insert t mm kk' vv =>
        simp only [cX] at hx
        split at hx
        · rename_i kt et va vb vc hu h1 h2 h3
          obtain ⟨kk0,h4,hq⟩:=Zag hx
          simp only [VOp.mapset.injEq] at hq
          obtain ⟨rfl,rfl,rfl,rfl⟩:=hq
          exact mapset_sound (.inr rfl) hu h4 h1 h2 h3 hs.1 hs.2.1 hs.2.2
        · cases hx
      case nilCheck x=>simp only [cX] at hx; obtain ⟨z,_,hq⟩:=Zag hx; cases hq
      case unOp uop t x=>cases uop <;> simp only [cX] at hx <;> first | (cases hx; done) | (obtain ⟨z,_,hq⟩:=Zag hx; cases hq)
      case slice t x lo hi mx =>
        cases lo <;> cases hi <;> cases mx <;> simp only [cX] at hx <;> first
          | (cases hx; done)
          | ((repeat' (split at hx)) <;> first | (cases hx; done) | (obtain ⟨z,_,hq⟩:=Zag hx; cases hq))
      case binOp op t x y yt =>
        exfalso
        cases op <;> simp only [cX] at hx <;> first
          | (cases hx; done)
          | (split at hx <;> first | (cases hx; done) | (obtain ⟨z,_,hq⟩:=Zag hx; cases hq))
      case buildSlice t n parts =>
        exfalso
        simp only [cX] at hx
        (repeat' (split at hx)) <;> simp at hx
      case call c =>
        exfalso
        simp only [cX,cCallX] at hx
        (repeat' (split at hx)) <;> simp at hx
      case convert=>simp only [cX] at hx; (repeat' (split at hx)) <;> simp at hx
      all_goals (simp only [cX] at hx; cases hx)
  · split at hc
    · rename_i v hv
      simp only [Option.some.injEq] at hc; subst hc
      exact stepW_sound0 hv hs
    · simp only [Option.some.injEq] at hc; subst hc
      exact hs
end
end Go.VM
