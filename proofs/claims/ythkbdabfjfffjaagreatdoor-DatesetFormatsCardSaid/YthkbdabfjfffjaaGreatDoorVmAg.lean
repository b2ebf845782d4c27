import Derived.Test.YthkbdabfjfffjaaGreatDoorVmI
import Derived.Test.YthkbdabfjfffjaaGreatDoorVmE
import Derived.Laws.IdiomRangeMap
import Derived.Laws.Cover3
import Derived.Laws.Pointers
set_option linter.all false
namespace Go.VM
open Go
theorem row_result {g : Gh} {w w' : World} {h : Heap} (r : Rel g w h) (hb : RowKit.Below w.heap.size w w') (vs : List Value) (ps : List PV) (hl : ps.length = vs.length)
    (hr:∀ j,j < vs.length → ∀ g:Gh,Rep g (vs.getD j Go.undef) (PV.nth ps j)) (h1:∀ j,j < vs.length → (vs.getD j Go.undef).oneCell' = true)
    {gb cap:Nat} {cur:Array Value} {t:TypeId} {fr:Nat × Nat} (hbase:w.heap.size ≤ gb) (hgb:w'.heap[gb]? = some (.cells cur t fr)) (hcap:vs.length ≤ cap) (hcur:∀ j,j < vs.length → cur[j]? = some (vs.getD j Go.undef)) :
    ∃ m':Mem,Rep ⟨m',fun _=>none⟩ (.slice (some ⟨gb,0,none⟩) vs.length cap) (.sl 1 (ps.map fun p=>[p])) ∧ MemExt g w m' w':=by
  let m':Mem:=⟨fun bb oo=>if bb = gb then (if oo < vs.length then some (vs.getD oo Go.undef) else none) else g.m bb oo,g.m.mm,fun bb l hp=>⟨(g.m.kn bb l hp).1,fun j hj=>by rw [if_neg (fun e=>by have:=(r.mmem _ _ (g.m.kn bb l hp).1).lt; omega)]; exact (g.m.kn bb l hp).2 j hj⟩,fun bb k hp=>by obtain ⟨v,h1,h2⟩:=g.m.kg bb k hp; exact ⟨v,by rw [if_neg (fun e=>by have h3:=(r.mem _ _ _ h1).1; rw [e,World.cell?,Array.getElem?_eq_none (by omega)] at h3; cases h3)]; exact h1,h2⟩⟩
  have hlg:∀ bb oo v,g.m bb oo = some v → bb ≠ gb:=by
    rintro bb oo v e rfl
    have:=(r.mem _ _ _ e).1
    rw [World.cell?,Array.getElem?_eq_none (by omega)] at this
    cases this
  have base:=memExt_below r hb
  refine ⟨m',?_,?_⟩
  · refine .sl gb 0 vs.length cap 1 _ _ (fun i _=>vs.getD i Go.undef) rfl (by simp [hl]) hcap (fun i hi=>?_) (fun i j hi hj=>?_) (fun i j hi hj=>?_)
    · have hi':i < ps.length:=by omega
      simp [PV.row,List.getD_eq_getElem?_getD,hi']
    · obtain rfl:j = 0:=by omega
      show (if gb = gb then (if 0 + i * 1 + 0 < vs.length then some (vs.getD (0 + i * 1 + 0) Go.undef) else none) else _) = _
      rw [if_pos rfl,if_pos (by omega)]
      simp
    · obtain rfl:j = 0:=by omega
      have hi':i < ps.length:=by omega
      have e:PV.nth (PV.row (ps.map fun p=>[p]) i) 0 = PV.nth ps i:=by simp [PV.row,PV.nth,List.getD_eq_getElem?_getD,hi']
      rw [e]
      exact hr i hi _
  · refine ⟨fun bb oo v e=>?_,fun bb oo v e=>?_,fun bb oo v e=>?_,base.oldM,base.okM,base.newM⟩
    · show (if bb = gb then _ else _) = _
      rw [if_neg (hlg bb oo v e)]; exact e
    · have e':(if bb = gb then (if oo < vs.length then some (vs.getD oo Go.undef) else none) else g.m bb oo) = some v:=e
      by_cases h2:bb = gb
      · subst h2
        rw [if_pos rfl] at e'
        by_cases h3:oo < vs.length
        · rw [if_pos h3] at e'
          simp only [Option.some.injEq] at e'
          subst e'
          refine ⟨?_,h1 oo h3⟩
          have:=hcur oo h3
          simp [World.cell?,hgb,this]
        · rw [if_neg h3] at e'; cases e'
      · rw [if_neg h2] at e'; exact base.ok bb oo v e'
    · have e':(if bb = gb then (if oo < vs.length then some (vs.getD oo Go.undef) else none) else g.m bb oo) = some v:=e
      by_cases h2:bb = gb
      · subst h2; exact .inr hbase
      · rw [if_neg h2] at e'; exact .inl e'
end Go.VM
namespace Go.VM
open Go
variable {P : Program} {o : Oper} {e : Env} {h : Heap} {K : PV → Heap → Prop}
end Go.VM
namespace Go.VM
open Go
variable {P : Program} {o : Oper} {e : Env} {h : Heap} {K : PV → Heap → Prop}
end Go.VM
