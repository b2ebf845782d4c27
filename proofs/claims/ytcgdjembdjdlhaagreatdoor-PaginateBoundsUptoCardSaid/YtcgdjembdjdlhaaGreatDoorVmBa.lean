import Derived.Test.YtcgdjembdjdlhaaGreatDoorVmZ
import Derived.Shelf.Spec.SlicesGrow
set_option linter.all false
namespace Go.VM
open Go Go.Shelf
variable {P : Program} {ρ : Go.Shelf.Ren}
theorem ACall_growZ {z : Nat} (L : Go.Proofs.Lays8.n4 P ρ) (hf : fnOk P (ρ.f 4) = true) (i0 : TypeInfo) (v0 : Value) (hi0 : P.info? (ρ.t 25) = some i0) (hz0 : i0.zero = some v0) (hz1 : 1 ≤ z) (hs0 : i0.size = z) (hc0 : v0.cells.size = z) (n : Nat) (hb : n * i0.bytes ≤ 140737488355328) (hn : n ≤ 4611686018427387904) (h : Heap) :
  Zal P (ρ.f 4) [.nilsl,.int .i64 n] h (fun p h'=>p=.own h.top 0 0∧h'=h.push (.arr false z [])):=by
 refine ⟨hf,fun g w vals r ha=>?_⟩;obtain ⟨v,u,rfl,hv,hu⟩:=args_2 ha;obtain rfl:=hu.int_inv;cases hv with
 | nilsl =>
 by_cases h0:n=0
 ·subst h0;refine (Go.Proofs.Any8.slices_Grow_room L none 0 0 0 w (Nat.le_refl _) (by omega) (by omega) (Nat.le_refl _)).mono ?_;rintro e w' ⟨rfl,rfl⟩;obtain ⟨r1,r2⟩:=r.none none z w' rfl rfl rfl rfl;exact ⟨_,.own h.top 0 0,g,_,rfl,⟨rfl,rfl⟩,.ownE _ _ _,r1,r2⟩
 ·refine (Go.Proofs.Any8.slices_Grow_grow L i0 v0 hi0 hz0 (by omega) none 0 0 n [] w (Nat.le_refl _) (by omega) (by simpa using hb) (by omega) (by simp) (fun _=>rfl) (fun a e=>by cases e)).mono ?_;rintro e w' ⟨rfl,hw⟩;have hge:=grownCap_ge w (0+n) 0 (ρ.t 25);generalize hcap:grownCap w (0+n) 0 (ρ.t 25)=cap at hge hw ⊢;generalize hcs:(([]:List Value).toArray++Builtin.zeroCells v0.cells (0+n-0)++Builtin.zeroCells v0.cells (cap-(0+n)))=cs at hw;have hsz:cs.size=cap*z:=by
   rw [← hcs];simp only [Array.size_append,size_zeroCells,hc0,List.size_toArray,List.length_nil];rw [Nat.zero_add,← Nat.add_mul]
   congr 1
   omega
  subst hw;have hsh:((w.drew.alloc (.cells cs (ρ.t 25))).heap)=w.heap.push (.cells cs (ρ.t 25)):=rfl;obtain ⟨g',h1,h2,h3,h4,h5⟩:=r.put none w.heap.size 0 (cap*z) z (.arr false z []) (w.drew.alloc (.cells cs (ρ.t 25))) (.inl (Nat.le_refl _)) (fun k hk _=>by rw [hsh,Array.getElem?_push,if_neg (by omega)]) (by rw [hsh];simp) (by rw [hsh];simp) rfl rfl rfl rfl (fun g' _=>⟨rfl,fun i hi=>(by cases hi),(by simp),cs,ρ.t 25,(by rw [hsh];simp),hsz,fun i j hi=>(by cases hi)⟩);exact ⟨_,.own h.top 0 0,g',_,rfl,⟨rfl,rfl⟩,.own _ _ _ _ w.heap.size 0 (cap*z) z _ h3 (by rw [Nat.zero_mul]) (by omega) (by omega),h4,h5⟩
end Go.VM
namespace Go.VM
open Go
section
variable {P : Program} {N : FK} {q : List VOper}
end
end Go.VM
namespace Go.VM
open Go
def Off (L:List (Nat×AB)) (t:Nat):Prop:=∀ q∈L,q.1≠t
theorem Off.get {L:List (Nat×AB)} {t:Nat} (h:Off L t):HL.get L t=none:=HL.get_no fun q hq e=>h q hq e.symm
theorem Off.del:∀ {L:List (Nat×AB)} {t:Nat},Off L t→HL.del L t=L
 | [],_,_=>rfl
 | (k,v)::r,t,h=>by
  have hk:¬ k=t:=h (k,v) (by simp);simp only [HL.del,if_neg hk];rw [Off.del (L:=r) (t:=t) (fun q hq=>h q (by simp [hq]))]
theorem Off.lt {L:List (Nat×AB)} {t u:Nat} (h:∀ q∈L,q.1<t) (hu:t≤u):Off L u:=fun q hq e=>by have:=h q hq;omega
def Nod (L:List (Nat×AB)):Prop:=(L.map (·.1)).Nodup
theorem HL.get_mem_nod:∀ {L:List (Nat×AB)},Nod L→∀ {k:Nat} {v:AB},(k,v)∈L→HL.get L k=some v
 | [],_,_,_,h=>by cases h
 | (a,b)::r,hn,k,v,h=>by
  unfold Nod at hn;simp only [List.map_cons,List.nodup_cons] at hn;rcases List.mem_cons.1 h with e|h
  ·cases e;simp [HL.get]
  ·have hne:¬ a=k:=fun e=>hn.1 (by rw [e];exact List.mem_map.2 ⟨(k,v),h,rfl⟩);simp only [HL.get,if_neg hne];exact HL.get_mem_nod (L:=r) hn.2 h
theorem HL.le_all:∀ {L:List (Nat×AB)} {f:Nat→Option AB},(∀ k v,(k,v)∈L→f k=some v)→HL.le L f
 | [],_,_=>trivial
 | (a,b)::r,f,h=>⟨h a b (by simp),HL.le_all fun k v hk=>h k v (by simp [hk])⟩
theorem HL.le_tail {pre L:List (Nat×AB)} (hn:Nod L) (ho:∀ p∈pre,Off L p.1) (t:Nat):HL.le L (Heap.get ⟨pre++L,t⟩):=by
 refine HL.le_all fun k v hk=>?_;show HL.get (pre++L) k=some v;rw [HL.get_app_r (HL.get_no fun q hq e=>ho q hq (k,v) hk e),HL.get_mem_nod hn hk]
theorem HL.le_tail1 {a:Nat} {x:AB} {L:List (Nat×AB)} (hn:Nod L) (h1:Off L a) (t:Nat):HL.le L (Heap.get ⟨(a,x)::L,t⟩):=HL.le_tail (pre:=[(a,x)]) hn (by simpa using h1) t
theorem HL.le_tail2 {a b:Nat} {x y:AB} {L:List (Nat×AB)} (hn:Nod L) (h1:Off L a) (h2:Off L b) (t:Nat):HL.le L (Heap.get ⟨(a,x)::(b,y)::L,t⟩):=HL.le_tail (pre:=[(a,x),(b,y)]) hn (by simpa using ⟨h1,h2⟩) t
theorem HL.le_app {P L:List (Nat×AB)} (hn:Nod L) (t:Nat):HL.le L (Heap.get ⟨L++P,t⟩) :=
 HL.le_all fun k v hk=>by
  show HL.get (L++P) k=some v;rw [HL.get_app_l (HL.get_mem_nod hn hk)]
theorem HL.get_off {P L:List (Nat×AB)} {k:Nat} (h:Off L k):HL.get (L++P) k=HL.get P k:=HL.get_app_r h.get
theorem HL.le_swap {P L:List (Nat×AB)} (hn:Nod L) (hp:Nod P) (ho:∀ p∈P,Off L p.1) (t:Nat):Heap.le ⟨L++P,t⟩ ⟨P++L,t⟩:=by
 refine ⟨Nat.le_refl _,HL.le_all fun k v hk=>?_⟩;show HL.get (P++L) k=some v;rcases List.mem_append.1 hk with h|h
 ·rw [HL.get_app_r (HL.get_no fun q hq e=>ho q hq (k,v) h e),HL.get_mem_nod hn h]
 ·rw [HL.get_app_l (HL.get_mem_nod hp h)]
end Go.VM
