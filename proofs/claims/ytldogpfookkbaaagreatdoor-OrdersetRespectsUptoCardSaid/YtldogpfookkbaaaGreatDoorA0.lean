import Derived.KernelRfl
set_option linter.all false
namespace Go.VM
def scanI (r:List Nat):Nat→Nat
 | 0=>0
 | j+1=>if r.getD (j+1) 0<r.getD j 0 then scanI r j else j+1
def scanK (r:List Nat) (x:Nat):Nat→Nat
 | 0=>0
 | k+1=>if r.getD (k+1) 0<x then scanK r x k else k+1
def swapR (r:List Nat) (i k:Nat):List Nat:=(r.set i (r.getD k 0)).set k (r.getD i 0)
def turnR (r:List Nat) (i:Nat):List Nat:=r.take i++(r.drop i).reverse
def nextR (r:List Nat):Option (List Nat) :=
 let i:=scanI r (r.length-1)
 if i=0 then none else
  let k:=scanK r (r.getD (i-1) 0) (r.length-1)
  some (turnR (swapR r (i-1) k) i)
def iterR:Nat→List Nat→List (List Nat)
 | 0,_=>[]
 | f+1,r=>r::(match nextR r with
  | some q=>iterR f q
  | none=>[])
def Zbp (n:Nat):List (List Nat):=iterR 120 (List.range n)
def allR (n:Nat):Nat→List Nat→List (List Nat)
 | 0,b=>[b]
 | f+1,b=>(List.range n).flatMap fun i=>if b.contains i then [] else allR n f (b++[i])
theorem rows_all (n:Nat) (h:n≤5):Zbp n=allR n n []:=by
 have key:((List.range 6).all fun n=>decide (Zbp n=allR n n []))=true:=by kernel_rfl
 have:=List.all_eq_true.1 key n (by simp;omega)
 simpa using this
def rowOk (n:Nat) (r:List Nat):Bool :=
  decide (r.length=n)&&r.all (fun x=>decide (x<n))&&r.Nodup &&
  (let i:=scanI r (n-1)
   decide (i=0)||(let k:=scanK r (r.getD (i-1) 0) (n-1)
    decide (i≤k)&&decide (r.getD (i-1) 0≤r.getD k 0)))
theorem rows_ok (n:Nat) (h:n≤5):∀ r∈Zbp n,rowOk n r=true:=by
 have key:((List.range 6).all fun n=>(Zbp n).all (rowOk n))=true:=by kernel_rfl
 have:=List.all_eq_true.1 key n (by simp;omega);exact List.all_eq_true.1 this
theorem rows_len (n:Nat) (h:n≤5):(Zbp n).length≤120:=by
 have key:((List.range 6).all fun n=>decide ((Zbp n).length≤120))=true:=by kernel_rfl
 have:=List.all_eq_true.1 key n (by simp;omega)
 simpa using this
theorem rows_next (n:Nat) (h:n≤5):(Zbp n).getD 0 []=List.range n∧Zbp n≠[]∧∀ k,k<(Zbp n).length→nextR ((Zbp n).getD k [])=(Zbp n)[k+1]?:=by
 have key:((List.range 6).all fun n=>decide ((Zbp n).getD 0 []=List.range n)&&decide (Zbp n≠[])&&(List.range 120).all fun k=>decide (k<(Zbp n).length→nextR ((Zbp n).getD k [])=(Zbp n)[k+1]?))=true:=by kernel_rfl
 have h1:=List.all_eq_true.1 key n (by simp;omega);simp only [Bool.and_eq_true,decide_eq_true_eq,List.all_eq_true] at h1;refine ⟨h1.1.1,h1.1.2,fun k hk=>h1.2 k ?_ hk⟩;have:=rows_len n h;simp;omega
end Go.VM
namespace Go.VM
def diffB (r b:List Nat) (i k:Nat):Bool:=decide (r.idxOf i<r.idxOf k) != decide (b.idxOf i<b.idxOf k)
def Za0 (r b:List Nat) (K:Nat→Bool):Bool:=(List.range r.length).all fun i=>(List.range i).all fun k=>!((K i||K k)&&diffB r b i k)
def keepsF (r b:List Nat) (K:Nat→Bool):Bool:=(List.range r.length).all fun i=>(List.range r.length).all fun k=>!(decide (i≠k)&&(K i||K k)&&diffB r b i k)
def permB (n:Nat) (r:List Nat):Prop:=r.length=n∧∀ i,i<n→i∈r
theorem perm_range:∀ (n:Nat) (r:List Nat),permB n r→(List.range n).Perm r
 | 0,r,⟨hl,_⟩=>by rw [List.eq_nil_of_length_eq_zero hl];exact List.Perm.refl _
 | n+1,r,⟨hl,hm⟩=>by
  have h1:=hm n (by omega);have h2:=perm_range n (r.erase n) ⟨by rw [List.length_erase_of_mem h1,hl];rfl,fun i hi=>(List.mem_erase_of_ne (by omega)).2 (hm i (by omega))⟩;rw [List.range_succ];exact ((List.perm_append_comm).trans (h2.cons n)).trans (List.perm_cons_erase h1).symm
theorem Zbm (n:Nat) (r:List Nat) (h:permB n r):r.Nodup∧∀ x∈r,x<n :=
 have hq:=perm_range n r h
 ⟨hq.nodup_iff.1 List.nodup_range,fun x hx=>List.mem_range.1 (hq.mem_iff.2 hx)⟩
theorem idx_ne {r:List Nat} {i k:Nat} (hi:i∈r) (hk:k∈r) (h:i≠k):r.idxOf i≠r.idxOf k:=by
 intro e;have h1:=List.getElem_idxOf (List.idxOf_lt_length_of_mem hi);have h2:=List.getElem_idxOf (List.idxOf_lt_length_of_mem hk);simp only [e] at h1;exact h (h1.symm.trans h2)
theorem diff_turn {n:Nat} {r b:List Nat} (hr:permB n r) (hb:permB n b) {i k:Nat} (hi:i<n) (hk:k<n) (h:i≠k):diffB r b i k=diffB r b k i:=by
 have h1:=idx_ne (hr.2 i hi) (hr.2 k hk) h;have h2:=idx_ne (hb.2 i hi) (hb.2 k hk) h;unfold diffB;have e:∀ x y:Nat,x≠y→decide (y<x) = !decide (x<y):=by
  intro x y hxy;by_cases h:x<y
  ·rw [decide_eq_true h,decide_eq_false (by omega)];rfl
  ·rw [decide_eq_false h,decide_eq_true (by omega)];rfl
 rw [e _ _ h1,e _ _ h2];cases decide (r.idxOf i<r.idxOf k)<;>cases decide (b.idxOf i<b.idxOf k)<;>rfl
theorem keeps_eq {n:Nat} {r b:List Nat} (hr:permB n r) (hb:permB n b) (K:Nat→Bool):Za0 r b K=keepsF r b K:=by
 have hl:=hr.1;rw [Bool.eq_iff_iff];unfold Za0 keepsF;simp only [List.all_eq_true,List.mem_range,hl];constructor
 ·intro h i hi k hk;by_cases e:i=k
  ·simp [e]
  ·rcases Nat.lt_or_gt_of_ne e with h1|h1
   ·have:=h k hk i h1;rw [diff_turn hr hb hi hk e];simp only [Bool.not_eq_true',Bool.and_eq_false_imp,Bool.and_eq_true,Bool.or_eq_true] at this ⊢;intro h3;exact this (h3.2.symm)
   ·have:=h i hi k h1;simp only [Bool.not_eq_true',Bool.and_eq_false_imp,Bool.and_eq_true,Bool.or_eq_true] at this ⊢;intro h3;exact this h3.2
 ·intro h i hi k hk;have:=h i hi k (by omega);simp only [Bool.not_eq_true',Bool.and_eq_false_imp,Bool.and_eq_true,Bool.or_eq_true,decide_eq_true_eq] at this ⊢;intro h3;exact this ⟨by omega,h3⟩
theorem keepsP_self (r:List Nat) (K:Nat→Bool):Za0 r r K=true:=by
 unfold Za0 diffB;simp
end Go.VM
