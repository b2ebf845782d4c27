import Derived.Test.YtcgdjembdjdlhaaGreatDoorVmD
import Derived.Sort.Grow
import Derived.Shelf.GgSortFunc.RowK
set_option linter.all false
namespace Go.VM
open Go
def PCallS (P:Program) (f:FuncId) (args:List PV) (S:PV→Prop):Prop :=
 fnOk P f=true∧Za1 args∧∀ g w (vals:Array Value),Rel g w Heap.nil→Args g vals args →
  Calls P f vals w fun x w'=>∃ v p m',x=.returned v∧S p∧Rep ⟨m',fun _=>none⟩ v p∧MemExt g w m' w'∧RowKit.Below w.heap.size w w'
theorem PCallS.mono {P:Program} {f:FuncId} {args:List PV} {S S':PV→Prop} (H:PCallS P f args S) (hs:∀ p,S p→S' p):PCallS P f args S' :=
 ⟨H.1,H.2.1,fun g w vals r ha=>(H.2.2 g w vals r ha).mono fun x w' ⟨v,p,m',h1,h2,h3⟩=>⟨v,p,m',h1,hs p h2,h3⟩⟩
end Go.VM
namespace Go.VM
open Go Go.Sort
structure Plain (α : Type) (k : Nat) (enc : α → List Value) (encP : α → List PV) : Prop where
 len : ∀ x, (enc x).length = k
 lenP : ∀ x, (encP x).length = k
 one : ∀ x, ∀ v ∈ enc x, v.oneCell' = true
 rep : ∀ g x j, j < k → Rep g ((enc x).getD j Go.undef) (PV.nth (encP x) j)
 inv : ∀ g v x j, j < k → Rep g v (PV.nth (encP x) j) → v = (enc x).getD j Go.undef
section
variable {α : Type} [Inhabited α] {k : Nat} {enc : α → List Value} {encP : α → List PV} {g : Gh} {w : World} {h : Heap}
theorem flat_get (hp:Plain α k enc encP) (d:Array α) (i j:Nat) (hi:i<d.size) (hj:j<k):(Sort.flatK enc k d).getD (i*k+j) Go.undef=(enc d[i]!).getD j Go.undef:=by
 have hlt:i*k+j<d.size*k:=Za7 hi hj;have h1:=Sort.get_flatK enc k d (i*k+j) hlt;have e1:(i*k+j) / k=i:=by
  rw [Nat.mul_comm,Nat.mul_add_div (by omega),Nat.div_eq_of_lt hj,Nat.add_zero]
 have e2:(i*k+j) % k=j:=by rw [Nat.add_comm,Nat.add_mul_mod_self_right,Nat.mod_eq_of_lt hj]
 rw [e1,e2] at h1;have hs:i*k+j<(Sort.flatK enc k d).size:=by simp;exact hlt
 rw [getElem!_pos (Sort.flatK enc k d) (i*k+j) hs] at h1;have hl:j<(enc d[i]!).length:=by rw [hp.len];exact hj
 rw [getElem!_pos (enc d[i]!) j hl] at h1;rw [Array.getD_eq_getD_getElem?,Array.getElem?_eq_getElem hs,Option.getD_some,h1,List.getD_eq_getElem?_getD,List.getElem?_eq_getElem hl,Option.getD_some]
theorem rows_in (hp:Plain α k enc encP) (d:Array α):RowsIn g (Sort.flatK enc k d).toList k (d.toList.map encP):=by
 refine ⟨by simp,fun i j hi hj=>?_⟩;simp only [List.length_map,Array.length_toList] at hi;have e1:(Sort.flatK enc k d).toList.getD (i*k+j) Go.undef=(Sort.flatK enc k d).getD (i*k+j) Go.undef:=by simp [Array.getD_eq_getD_getElem?]
 have e2:PV.row (d.toList.map encP) i=encP d[i]!:=by simp [PV.row,List.getD_eq_getElem?_getD,hi]
 rw [e1,e2,flat_get hp d i j hi hj];refine ⟨hp.one d[i]! _ ?_,hp.rep g _ j hj⟩;have hl:j<(enc d[i]!).length:=by rw [hp.len];exact hj
 simp [List.getD_eq_getElem?_getD,hl]
theorem holds_own (hp : Plain α k enc encP) (hk : k ≠ 0) (r : Rel g w h) {id off len : Nat} {es : List (List PV)} {v : Value} (hv : Rep g v (.own id off len)) (hg : h.get id = some (.arr false k es)) (hle : off + len ≤ es.length) (d : Array α) (hd : (es.drop off).take len = d.toList.map encP) :
  (len=0∧∃ ao cap,v=.slice ao 0 cap)∨∃ cap b o n c tt,v=.slice (some ⟨b,o+off*k,none⟩) len cap∧d.size=len∧g.β id=some (b,o,n,k)∧b<w.heap.size∧w.heap[b]?=some (.cells c tt (0,0))∧o+off*k+len*k≤c.size ∧
   HoldsK enc k w b (o+off*k) d:=by
 have hsz:d.size=len:=by
  have:=congrArg List.length hd;simp at this;omega
 rcases own_seen r hv hg hle with ⟨h0,ao,rfl⟩|⟨cap,b,o,n,c,tt,rfl,hb,hc,hn,hlt,h1,h2,hra⟩
 ·exact .inl ⟨h0,ao,0,rfl⟩
 ·have hck:len*k≤cap*k:=Nat.mul_le_mul_right _ hc;refine .inr ⟨cap,b,o,n,c,tt,rfl,hsz,hb,hlt,h1,by omega,fun t ht=>?_⟩;simp only [Sort.size_flatK] at ht;obtain ⟨s1,s2,s3⟩:=rows_split ht;obtain ⟨v,e1,e2,e3⟩:=hra (t / k) (t % k) (by rw [hd];simpa using s1) s2;have hrow:PV.row ((es.drop off).take len) (t / k)=encP d[t / k]!:=by rw [hd];simp [PV.row,List.getD_eq_getElem?_getD,s1]
  rw [hrow] at e3;have hv:=hp.inv g v d[t / k]! (t % k) s2 e3;have hadd:o+off*k+t / k*k+t % k=o+off*k+t:=by omega
  rw [hadd] at e1;refine ⟨?_,by simp [World.frozen?,h1]⟩;rw [e1];have hg:=flat_get hp d (t / k) (t % k) s1 s2;rw [s3] at hg;have hs:t<(Sort.flatK enc k d).size:=by simp;exact ht
  rw [getElem!_pos (Sort.flatK enc k d) t hs];show some v=some (Sort.flatK enc k d)[t];rw [hv,← hg,Array.getD_eq_getD_getElem?,Array.getElem?_eq_getElem hs,Option.getD_some]
theorem sorted_back (hp : Plain α k enc encP) (r : Rel g w h) {id off len b o n : Nat} {c : Array Value} {tt : TypeId} {es : List (List PV)} (hg : h.get id = some (.arr false k es)) (hle : off + len ≤ es.length) (hβ : g.β id = some (b, o, n, k)) (hc : w.heap[b]? = some (.cells c tt (0, 0)))
  (hfit:o+off*k+len*k≤c.size) (d':Array α) (hd:d'.size=len) (m:Nat) (os:Array Obj) :
  Rel g (grow (putRowK enc k (Sort.ahead w m) b (o+off*k) d') os) (h.set id (.arr false k (es.take off++d'.toList.map encP++es.drop (off+len)))) ∧
   Evo g w h g (grow (putRowK enc k (Sort.ahead w m) b (o+off*k) d') os) (h.set id (.arr false k (es.take off++d'.toList.map encP++es.drop (off+len)))):=by
 have hblk:b<w.heap.size:=(Array.getElem?_eq_some_iff.1 hc).1;have hheap:(grow (putRowK enc k (Sort.ahead w m) b (o+off*k) d') os).heap[b]?=some (.cells (putCells (fun v:Value=>v) (o+off*k) (Sort.flatK enc k d') c) tt (0,0)):=by
  show ((Sort.putRowK enc k (Sort.ahead w m) b (o+off*k) d').heap++os)[b]?=_;have h1:(Sort.putRowK enc k (Sort.ahead w m) b (o+off*k) d').heap=w.heap.modify b (onCells (putCells (fun v:Value=>v) (o+off*k) (Sort.flatK enc k d'))):=rfl;rw [h1,Array.getElem?_append_left (by simpa using hblk),Array.getElem?_modify,if_pos rfl,hc];rfl
 have hsame:∀ j,j<w.heap.size→j≠b→(grow (putRowK enc k (Sort.ahead w m) b (o+off*k) d') os).heap[j]?=w.heap[j]?:=by
  intro j hj hne;show ((Sort.putRowK enc k (Sort.ahead w m) b (o+off*k) d').heap++os)[j]?=_;have h1:(Sort.putRowK enc k (Sort.ahead w m) b (o+off*k) d').heap=w.heap.modify b (onCells (putCells (fun v:Value=>v) (o+off*k) (Sort.flatK enc k d'))):=rfl;rw [h1,Array.getElem?_append_left (by simpa using hj),Array.getElem?_modify,if_neg (Ne.symm hne)]
 have hlen:(d'.toList.map encP).length=len:=by simp [hd]
 have:=rows_write r (off:=off) (news:=d'.toList.map encP) (cs:=(Sort.flatK enc k d').toList) hg hβ (rows_in hp d') (fun i hi=>by simp at hi;simp [PV.row,List.getD_eq_getElem?_getD,hi,hp.lenP]) (by rw [hlen];exact hle) (grow (putRowK enc k (Sort.ahead w m) b (o+off*k) d') os) c (putCells (fun v:Value=>v) (o+off*k) (Sort.flatK enc k d') c) tt hc hheap
  (by simp [putCells]) (fun t ht=>by
   simp only [Array.length_toList,Sort.size_flatK,hd] at ht;have hlt:o+off*k+t<c.size:=by omega
   have hfl:t<(Sort.flatK enc k d').size:=by simp [hd];exact ht
   have hcond:o+off*k≤o+off*k+t∧o+off*k+t<o+off*k+(Sort.flatK enc k d').size:=⟨by omega,by omega⟩;have hsub:o+off*k+t-(o+off*k)=t:=by omega
   simp only [putCells,Array.getD_eq_getD_getElem?,Array.getElem?_mapIdx,Array.getElem?_eq_getElem hlt,Option.map_some,if_pos hcond,hsub,Option.getD_some];rw [getElem!_pos (Sort.flatK enc k d') t hfl];rw [List.getD_eq_getElem?_getD,Array.getElem?_toList,Array.getElem?_eq_getElem hfl,Option.getD_some]) (fun t ht=>by
   simp only [Array.length_toList,Sort.size_flatK,hd] at ht;have hcond:¬ (o+off*k≤t∧t<o+off*k+(Sort.flatK enc k d').size):=by simp [hd];omega
   simp only [putCells,Array.getD_eq_getD_getElem?,Array.getElem?_mapIdx,if_neg hcond];cases c[t]?<;>rfl) hsame (by
   show w.heap.size≤((Sort.putRowK enc k (Sort.ahead w m) b (o+off*k) d').heap++os).size;have h1:(Sort.putRowK enc k (Sort.ahead w m) b (o+off*k) d').heap=w.heap.modify b (onCells (putCells (fun v:Value=>v) (o+off*k) (Sort.flatK enc k d'))):=rfl;rw [h1];simp) rfl rfl rfl
 rw [hlen] at this;exact this
end
end Go.VM
