import Derived.Test.YtldogpfookkbaaaGreatDoorVmZ
set_option linter.all false
namespace Go.VM
open Go
section
variable {P:Program} {N:FK} {q:List VOper}
end
def Off(L:List (Nat×AB))(t:Nat):Prop:=∀q∈L,q.1≠t
theorem Off.get{L:List (Nat×AB)}{t:Nat}(h:Off L t):HL.get L t=none:=HL.get_no fun q hq e=>h q hq e.symm
theorem Off.del:∀{L:List (Nat×AB)} {t:Nat},Off L t→HL.del L t=L
 | [],_,_=>rfl
 |(k,v)::r,t,h=>by
  have hk:¬k=t:=h (k,v) (by simp);simp only[HL.del,if_neg hk];rw[Off.del (L:=r) (t:=t) (fun q hq=>h q (by simp[hq]))]
theorem Off.lt{L:List (Nat×AB)}{t u:Nat}(h:∀q∈L,q.1<t)(hu:t≤u):Off L u:=fun q hq e=>by have:=h q hq;omega
def Nod(L:List (Nat×AB)):Prop:=(L.map (·.1)).Nodup
theorem HL.get_mem_nod:∀{L:List (Nat×AB)},Nod L→∀{k:Nat} {v:AB},(k,v)∈L→HL.get L k=some v
 | [],_,_,_,h=>by cases h
 |(a,b)::r,hn,k,v,h=>by
  unfold Nod at hn;simp only[List.map_cons,List.nodup_cons]at hn;rcases List.mem_cons.1 h with e|h
  ·cases e;simp[HL.get]
  ·have hne:¬a=k:=fun e=>hn.1 (by rw[e];exact List.mem_map.2 ⟨(k,v),h,rfl⟩);simp only[HL.get,if_neg hne];exact HL.get_mem_nod (L:=r) hn.2 h
theorem HL.le_all:∀{L:List (Nat×AB)} {f:Nat→Option AB},(∀k v,(k,v)∈L→f k=some v)→HL.le L f
 | [],_,_=>trivial
 |(a,b)::r,f,h=>⟨h a b (by simp),HL.le_all fun k v hk=>h k v (by simp[hk])⟩
theorem HL.le_tail{pre L:List (Nat×AB)}(hn:Nod L)(ho:∀p∈pre,Off L p.1)(t:Nat):HL.le L (Heap.get ⟨pre++L,t⟩):=by
 refine HL.le_all fun k v hk=>?_;show HL.get (pre++L) k=some v;rw[HL.get_app_r (HL.get_no fun q hq e=>ho q hq (k,v) hk e),HL.get_mem_nod hn hk]
theorem HL.le_tail1{a:Nat}{x:AB}{L:List (Nat×AB)}(hn:Nod L)(h1:Off L a)(t:Nat):HL.le L (Heap.get ⟨(a,x)::L,t⟩):=HL.le_tail (pre:=[(a,x)]) hn (by simpa using h1) t
theorem HL.le_app{P L:List (Nat×AB)}(hn:Nod L)(t:Nat):HL.le L (Heap.get ⟨L++P,t⟩):=
 HL.le_all fun k v hk=>by
  show HL.get (L++P) k=some v;rw[HL.get_app_l (HL.get_mem_nod hn hk)]
theorem HL.get_off{P L:List (Nat×AB)}{k:Nat}(h:Off L k):HL.get (L++P) k=HL.get P k:=HL.get_app_r h.get
theorem HL.le_swap{P L:List (Nat×AB)}(hn:Nod L)(hp:Nod P)(ho:∀p∈P,Off L p.1)(t:Nat):Heap.le ⟨L++P,t⟩ ⟨P++L,t⟩:=by
 refine⟨Nat.le_refl _,HL.le_all fun k v hk=>?_⟩;show HL.get (P++L) k=some v;rcases List.mem_append.1 hk with h|h
 ·rw[HL.get_app_r (HL.get_no fun q hq e=>ho q hq (k,v) h e),HL.get_mem_nod hn h]
 ·rw[HL.get_app_l (HL.get_mem_nod hp h)]
end Go.VM
