import Derived.Test.YtcgdjembdjdlhaaGreatDoorVmE
import Derived.Shelf.Spec.SlicesGrow
import Derived.Shelf.SlIterI.Sorted
import Derived.Shelf.SlIterI.Collect
import Derived.Shelf.SlIter.Sorted
import Derived.Shelf.SlIter.Collect
import Derived.StringKeys
set_option linter.all false
namespace Go.VM
open Go Go.Shelf
variable {P : Program} {ρ : Go.Shelf.Ren}
end Go.VM
namespace Go.VM
open Go Go.RowKit Go.Maps Go.Shelf Go.MapKept Go.WideShapes
open Go.WideElems (Fit rg rd rg_of rd_mk)
theorem Rep.of_one {g:Gh} {b:Nat} {p:PV} {len cap:Nat} (h:Rep g (.slice (some ⟨b,0,none⟩) len cap) (.sl 1 [[p]])) (hl:len=1):∃ v,g.m b 0=some v∧Rep g v p:=by
 subst hl;cases h with
 | sl b o len cap z a es vs ha hl hc hz hm hr =>
  cases ha;have h1:=hm 0 0 (by omega) (by omega);have h2:=hr 0 0 (by omega) (by omega);exact ⟨vs 0 0,by simpa using h1,by simpa [PV.row,PV.nth] using h2⟩
variable {P : Program} {ρ ρ' : Go.Shelf.Ren}
abbrev R0:Value→Option (DataW Unit×List MemPlace):=fun _=>some (.nil,[])
end Go.VM
namespace Go.VM
open Go Go.RowKit Go.Maps Go.Shelf Go.MapKept Go.WideShapes
open Go.WideElems (Fit rg rd rg_of rd_mk)
open Go.Proofs (encStr)
variable {P : Program} {ρ ρ' : Go.Shelf.Ren}
theorem ACall_keysS (L:Go.Proofs.SlLaysZ.n7 P ρ) (hf:fnOk P (ρ.f 7)=true) (id:Nat) (h:Heap):Zal P (ρ.f 7) [.mp id] h (fun p h'=>p=.fnb (.func (ρ.f 10)) (.mp id)∧h'=h):=by
 refine ⟨hf,fun g w vals r ha=>?_⟩;obtain ⟨v,rfl,hv⟩:=args_1 ha;cases hv with
 | mp _ b o n z hb =>
  refine (callsIn_wide (n:=5)).1 ((Go.Proofs.AnyZ.keys_in L Fence.wide 5 trivial rfl (some b) w).mono ?_);rintro e w' ⟨rfl,rfl⟩;obtain ⟨g',f1,f2,f3,f4⟩:=new_frozen r #[.map (some b)] (ρ.t 23) 1 [[.mp id]] (fun i hi=>by
   obtain rfl:i=0:=by simp at hi;omega
   rfl) (by
   refine ⟨rfl,fun i j hi hj=>?_⟩;obtain rfl:i=0:=by simp at hi;omega
   obtain rfl:j=0:=by omega
   exact ⟨rfl,.mp _ _ _ _ _ hb⟩)
  obtain ⟨v,k1,k2⟩:=f2.of_one rfl;have e1:=(f3.mem _ _ _ k1).1;obtain rfl:v=.map (some b):=by
   simp [World.cell?] at e1;exact e1.symm
  exact ⟨_,_,g',h,rfl,⟨rfl,rfl⟩,.fnb _ _ _ _ k1 k2,f3,f4⟩
theorem ownsMap_ofS {k : TypeId} (hk : P.underlying k = some .string) {w : World} {b clock : Nat} {ents : Array MapEntry} {es : List Str} (hb : w.heap[b]? = some (.map ents clock)) (hl : ents.size = es.length) (hsz : es.length ≤ maxLen)
  (hkeys:∀ (i:Nat) (e:MapEntry) (x:Str),ents[i]?=some e→es[i]?=some x→e.key=encStr x) (hwf:∀ x∈es,x.length≤maxLen) (hst:Stamped ents clock) :
  ∃ D:DataW Unit,w.ownsMap P k R0 b ents.size D∧(strKeys D).Perm es∧Maps.size D=es.length:=by
 have each:∀ x∈ents.toList,∃ a:Str,x.key=encStr a∧a∈es:=by
  intro x hx;obtain ⟨i,hi,rfl⟩:=List.getElem_of_mem hx;have hi':i<es.length:=by simpa [hl] using hi
  exact ⟨es[i],hkeys i _ _ (by simp [hi,Array.getElem?_eq_getElem (show i<ents.size by simpa using hi)]) (by simp [hi']),List.getElem_mem _⟩
 have hread:∀ x∈ents.toList,∀ a:Str,x.key=encStr a→a∈es→rd P k R0 x=some (.string a,.nil):=by
  intro x hx a h1 h2;obtain ⟨key,val,born⟩:=x;refine rd_mk (yv:=(.nil,[])) ?_ rfl;rw [show key=_ from h1];have:=Go.WideMaps.keyOf_string_mk (P:=P) (k:=k) hk (s:=⟨a.toArray⟩) (by show a.toArray.size≤_;rw [List.size_toArray];exact hwf a h2)
  simpa [encStr] using this
 refine ⟨_,⟨ents,clock,hb,⟨by omega,hst,fun x hx=>?_⟩,Nat.le_refl _,rfl⟩,?_,?_⟩
 ·obtain ⟨a,h1,h2⟩:=each x hx;exact ⟨_,hread x hx a h1 h2⟩
 ·have e1 : ents.toList.map (fun x => strOf (rg P k R0 x).1) = es := by
   apply List.ext_getElem
   ·simp [hl]
   ·intro i h1 h2;have h3:i<ents.toList.length:=by simpa using h1
    have hm:=List.getElem_mem h3;have h4:=hkeys i (ents.toList[i]) es[i] (by simp [Array.getElem?_eq_getElem (show i<ents.size by simpa using h3)]) (by simp [h2]);simp only [List.getElem_map];rw [rg_of (hread _ hm es[i] h4 (List.getElem_mem _))];rfl
  show (((ents.toList.map (rg P k R0)).foldr DataW.insert []).map fun p=>strOf p.1).Perm es;refine ((sorted_perm _).map _).trans ?_;rw [List.map_map];exact List.Perm.of_eq e1
 ·simp [Maps.size,length_sorted,hl]
theorem ACall_sortedKeysS (L7 : Go.Proofs.SlLaysZ.n7 P ρ) (L6 : Go.Proofs.SlLaysZ.n6 P ρ') (hf : fnOk P (ρ'.f 6) = true) (hs : Go.Proofs.AnyZ.SortsIn P ρ' Fence.wide 4)
    (e9:∀ args w,(callFunc (ρ'.f 9) args).run P w=.ok (.enter (ρ'.f 9) args) w) (e10:∀ args w,(callFunc (ρ.f 10) args).run P w=.ok (.enter (ρ.f 10) args) w)
    (id:Nat) (h:Heap) (es:List (Str×PV)) (hg:h.get id=some (.map (es.map fun p=>(.str p.1,p.2)))) (hwf:∀ p∈es,p.1.length≤maxLen) (hlen:es.length≤1000000000) :
    Zal P (ρ'.f 6) [.fnb (.func (ρ.f 10)) (.mp id)] h (fun p h'=>p=.sl 1 (((es.map (·.1)).mergeSort leB).map fun x=>[.str x])∧h'=h):=by
  refine ⟨hf,fun g w vals r ha=>?_⟩;obtain ⟨v,rfl,hv⟩:=args_1 ha;cases hv with
  | fnb _ Bm v _ hm h1 =>
  cases h1 with
  | mp _ b o n z hb =>
  have hcell:=(r.mem Bm 0 _ hm).1;have hBm:Bm<w.heap.size:=by
    rcases Nat.lt_or_ge Bm w.heap.size with h1|h1
    · exact h1
    · simp [World.cell?,Array.getElem?_eq_none h1] at hcell
  rcases r.blk id _ hg with ⟨hn,_⟩|⟨b',o',n',z',hb',hlt,hfree,ents,clock,q1,q2,q3,q4⟩
  · rw [hb] at hn;cases hn
  rw [hb] at hb';simp only [Zx0,Prod.mk.injEq] at hb';obtain ⟨rfl,_⟩:=hb';have hst:=q4 (fun p hp=>by
    obtain ⟨x,_,rfl⟩:=List.mem_map.1 hp;rfl)
  have hmx:es.length≤maxLen:=Nat.le_trans hlen (by decide);obtain ⟨D, d1, d2, d3⟩ := ownsMap_ofS (k := ρ.t 26) (es := es.map (·.1)) L7.t26 q1 (by simpa using q2) (by simpa using hmx) (fun i e x h1 h2 => by
      rw [List.getElem?_map,Option.map_eq_some_iff] at h2;obtain ⟨p,hp,rfl⟩:=h2;have h3:=(q3 i e _ h1 (by rw [List.getElem?_map,hp];rfl)).1;obtain ⟨s,hk1,hk2⟩:=h3.str_inv;rw [hk1,str_eq hk2]) (fun x hx=>by
      obtain ⟨p,hp,rfl⟩:=List.mem_map.1 hx;exact hwf p hp) hst
  have hseq:=Go.Proofs.AnyZ.keys_gives { L7 with } Fence.wide 2 trivial rfl (by omega) Bm b ents.size D w hBm hcell d1;have hdl:Maps.size D=es.length:=by simpa using d3
  refine (callsIn_wide (n:=5)).1 ((Go.Proofs.AnyZ.sorted_in L6 Fence.wide 5 trivial trivial trivial trivial rfl (by omega) hs e9 (ρ.f 10) _ trivial e10 _ _ (by omega) (by omega) w hseq).mono ?_);rintro e w' ⟨v,ss,rfl,hS,hrow,hnil,hb2⟩;have hss:ss.mergeSort (fun x y=>decide (x≤y))=(es.map (·.1)).mergeSort leB:=mergeSort_of_perm (hS.trans d2);rw [hss] at hrow;generalize hq:(es.map (·.1)).mergeSort leB=zs at hrow;have hlz:ss.length=zs.length:=by rw [← hq,← hss];simp
  rcases hrow.2 with ⟨rfl,hz⟩|⟨gb,cap,cur,rfl,hbase,hgb,r1,r2,r3,r4⟩
  · have hzs:zs=[]:=List.eq_nil_of_length_eq_zero (by omega)
    subst hzs;obtain ⟨R,E⟩:=r.below (Zc2 r hb2) hb2;exact ⟨_,.sl 1 [],_,h,rfl,⟨rfl,rfl⟩,.slE _ _ _,R,E⟩
  · have hget : ∀ j, j < (zs.map encStr).length → (zs.map encStr).getD j Go.undef = encStr (zs.getD j []) := fun j hj => by
      rw [List.length_map] at hj;simp [Zx1,hj]
    obtain ⟨m', hr, hm⟩ := row_result (cap := cap) r hb2 (zs.map encStr) (zs.map PV.str) (by simp) (fun j hj g => by
        rw [hget j hj];rw [List.length_map] at hj;have:PV.nth (zs.map PV.str) j=.str (zs.getD j []):=by simp [PV.nth,Zx1,hj]
        rw [this];exact .str _ _ (by simp)) (fun j hj=>by rw [hget j hj];rfl) hbase hgb (by simp;omega) (fun j hj=>by
        rw [hget j hj];rw [List.length_map] at hj;have h1:(cur.toList.take (ss.length*1))[j]?=(zs.map encStr)[j]?:=by rw [r4]
        rw [List.getElem?_take,if_pos (by omega),List.getElem?_map] at h1;rw [← Array.getElem?_toList,h1];simp [Zx1,hj])
    obtain ⟨R,E⟩:=r.below hm hb2;rw [List.length_map] at hr;refine ⟨_,.sl 1 (zs.map fun x=>[.str x]),_,h,rfl,⟨rfl,rfl⟩,?_,R,E⟩;rw [hlz];rw [List.map_map] at hr;have hle:Gh.le ⟨m',fun _=>none⟩ ⟨m',g.β⟩:=⟨fun _ _ _ e=>e,(fun _ _ e=>by cases e),fun _ _ e=>e⟩;exact hr.mono hle
end Go.VM
