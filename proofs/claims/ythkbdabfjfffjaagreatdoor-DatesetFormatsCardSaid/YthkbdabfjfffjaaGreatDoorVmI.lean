import Derived.Test.YthkbdabfjfffjaaGreatDoorVmG
set_option linter.all false
namespace Go.VM
open Go
theorem memExt_below {g:Gh} {w w':World} {h:Heap} (r:Rel g w h) (hb:RowKit.Below w.heap.size w w'):MemExt g w g.m w':=by
  have hin:∀ {b:Nat} {x:Obj},w.heap[b]? = some x → w'.heap[b]? = w.heap[b]?:=fun {b x} e=>hb.block b (by
    by_cases hlt:b < w.heap.size
    · exact hlt
    · rw [Array.getElem?_eq_none (by omega)] at e; cases e)
  refine ⟨fun _ _ _ e=>e,fun b o v e=>?_,fun _ _ _ e=>.inl e,fun _ _ e=>e,fun b e he=>?_,fun _ _ e=>.inl e⟩
  · obtain ⟨h1,h2⟩:=r.mem b o v e
    refine ⟨?_,h2⟩
    unfold World.cell? at h1 ⊢
    cases hh:w.heap[b]? with
    | none=>rw [hh] at h1; cases h1
    | some x=>rw [hin hh]; exact h1
  · have h1:=r.mmem b e he
    obtain ⟨o,h2⟩:=h1.there
    rw [hin h2]; exact h1
theorem PCall_of {P : Program} {f : FuncId} {args : List PV} {p : PV} (hf : fnOk P f = true) (hc : Zce args)
    (H:∀ (g:Gh) (w:World) (vals:Array Value),Rel g w Heap.nil → Args g vals args → Calls P f vals w fun e w'=>∃ v,e = .returned v ∧ (∀ g,Rep g v p) ∧ RowKit.Below w.heap.size w w'):Zcn P f args p :=
  ⟨hf,hc,fun g w vals r ha=>(H g w vals r ha).mono fun x w' ⟨v,h1,h2,h3⟩=>⟨v,g.m,h1,h2 _,memExt_below r h3,h3⟩⟩
theorem var_known {P:Program} {g:Gh} {w:World} {h:Heap} (r:Rel g w h) {b:Nat} {l:List Value} (hl:known.lookup b = some l) {n:String} (hn:P.globalNamed n = some b):w.var? P n = some l.toArray:=by
  obtain ⟨t,fr,h1⟩:=r.mmem b _ (g.m.kn b l hl).1
  simp only [World.var?,hn,Option.bind_some,h1]
theorem args_1 {g:Gh} {vals:Array Value} {p:PV} (h:Args g vals [p]):∃ v,vals = #[v] ∧ Rep g v p:=by
  obtain ⟨h1,h2⟩:=h
  have:=h2 0 (by simp)
  refine ⟨vals[0]'(by simp [h1]),?_,?_⟩
  · apply Array.ext
    · simp [h1]
    · intro i hi hj
      have:i = 0:=by simp at hj; omega
      subst this; rfl
  · simpa [Array.getD_eq_getD_getElem?,h1,PV.nth] using this
theorem args_2 {g:Gh} {vals:Array Value} {p q:PV} (h:Args g vals [p,q]):∃ v u,vals = #[v,u] ∧ Rep g v p ∧ Rep g u q:=by
  obtain ⟨h1,h2⟩:=h
  have a0:=h2 0 (by simp)
  have a1:=h2 1 (by simp)
  refine ⟨vals[0]'(by simp [h1]),vals[1]'(by simp [h1]),?_,?_,?_⟩
  · apply Array.ext
    · simp [h1]
    · intro i hi hj
      have:i = 0 ∨ i = 1:=by simp at hj; omega
      rcases this with rfl | rfl <;> rfl
  · simpa [Array.getD_eq_getD_getElem?,h1,PV.nth] using a0
  · simpa [Array.getD_eq_getD_getElem?,h1,PV.nth] using a1
theorem str_eq {s:ByteArray} {l:List UInt8} (h:s.data.toList = l):s = ⟨l.toArray⟩:=by
  subst h
  cases s; simp
theorem strs_cells {g : Gh} {w : World} {h : Heap} (r : Rel g w h) {v : Value} {l : List Str} (hv : Rep g v (It.strs l)) :
    (∃ a cap,v = .slice a 0 cap ∧ l = []) ∨ ∃ b o cap,v = .slice (some ⟨b,o,none⟩) (l.map fun s=>(⟨s.toArray⟩:ByteArray)).length cap ∧ l.length ≤ cap ∧ b < w.heap.size ∧ ∀ (j:Nat) (x:ByteArray),(l.map fun s=>(⟨s.toArray⟩:ByteArray))[j]? = some x → w.cell? ⟨b,o + j,none⟩ = some (.string x):=by
  unfold It.strs at hv
  generalize hes:l.map (fun s=>[PV.str s]) = es at hv
  cases hv with
  | slE a cap z=>exact .inl ⟨a,cap,rfl,by simpa using hes⟩
  | sl b o len cap z a es vs ha hl hc hz hm hr =>
    subst hes
    subst ha
    have hlen:l.length = len:=by simpa using hl
    by_cases h0:l = []
    · subst h0
      simp at hlen
      subst hlen
      exact .inl ⟨_,_,rfl,rfl⟩
    right
    have cell:∀ i (hi:i < l.length),w.cell? ⟨b,o + i,none⟩ = some (.string ⟨(l[i]).toArray⟩):=by
      intro i hi
      have h1:=r.mem _ _ _ (hm i 0 (by omega) (by omega))
      have h2:=hr i 0 (by omega) (by omega)
      have e:PV.nth (PV.row (l.map fun s=>[PV.str s]) i) 0 = .str l[i]:=by simp [PV.row,PV.nth,List.getD_eq_getElem?_getD,hi]
      rw [e] at h2
      obtain ⟨s,hs,hsl⟩:=h2.str_inv
      rw [hs,str_eq hsl] at h1
      simpa using h1.1
    refine ⟨b,o,cap,by simp [hlen],by omega,?_,fun j x hx=>?_⟩
    · have hpos:0 < l.length:=List.length_pos_iff.2 h0
      have:=cell 0 hpos
      unfold World.cell? at this
      by_cases hlt:b < w.heap.size
      · exact hlt
      · simp only [] at this
        rw [Array.getElem?_eq_none (by omega)] at this; cases this
    · rw [List.getElem?_map,Option.map_eq_some_iff] at hx
      obtain ⟨s,hs,rfl⟩:=hx
      obtain ⟨hj,rfl⟩:=List.getElem?_eq_some_iff.1 hs
      exact cell j hj
end Go.VM
