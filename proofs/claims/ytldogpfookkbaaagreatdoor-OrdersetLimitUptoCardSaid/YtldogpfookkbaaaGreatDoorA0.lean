import Derived.KernelRfl
set_option linter.all false
namespace Go.VM
def scanI (r:List Nat):Nat→Nat
 | 0=>0
 | j+1=>if r.getD (j+1) 0<r.getD j 0 then scanI r j else j+1
def scanK (r:List Nat) (x:Nat):Nat→Nat
 | 0=>0
 | k+1=>if r.getD (k+1) 0<x then scanK r x k else k+1
def swapR (r:List Nat) (i k:Nat):List Nat:=(r.set i (r.getD k 0)).set k (r.getD i 0)
def turnR (r:List Nat) (i:Nat):List Nat:=r.take i++(r.drop i).reverse
def nextR (r:List Nat):Option (List Nat) :=
 let i:=scanI r (r.length-1)
 if i=0 then none else
  let k:=scanK r (r.getD (i-1) 0) (r.length-1)
  some (turnR (swapR r (i-1) k) i)
def iterR:Nat→List Nat→List (List Nat)
 | 0,_=>[]
 | f+1,r=>r::(match nextR r with
  | some q=>iterR f q
  | none=>[])
def rowsR (n:Nat):List (List Nat):=iterR 120 (List.range n)
def rowOk (n:Nat) (r:List Nat):Bool :=
  decide (r.length=n)&&r.all (fun x=>decide (x<n))&&r.Nodup &&
  (let i:=scanI r (n-1)
   decide (i=0)||(let k:=scanK r (r.getD (i-1) 0) (n-1)
    decide (i≤k)&&decide (r.getD (i-1) 0≤r.getD k 0)))
theorem rows_ok (n:Nat) (h:n≤5):∀ r∈rowsR n,rowOk n r=true:=by
 have key:((List.range 6).all fun n=>(rowsR n).all (rowOk n))=true:=by kernel_rfl
 have:=List.all_eq_true.1 key n (by simp;omega);exact List.all_eq_true.1 this
theorem rows_len (n:Nat) (h:n≤5):(rowsR n).length≤120:=by
 have key:((List.range 6).all fun n=>decide ((rowsR n).length≤120))=true:=by kernel_rfl
 have:=List.all_eq_true.1 key n (by simp;omega)
 simpa using this
theorem rows_next (n:Nat) (h:n≤5):(rowsR n).getD 0 []=List.range n∧rowsR n≠[]∧∀ k,k<(rowsR n).length→nextR ((rowsR n).getD k [])=(rowsR n)[k+1]?:=by
 have key:((List.range 6).all fun n=>decide ((rowsR n).getD 0 []=List.range n)&&decide (rowsR n≠[])&&(List.range 120).all fun k=>decide (k<(rowsR n).length→nextR ((rowsR n).getD k [])=(rowsR n)[k+1]?))=true:=by kernel_rfl
 have h1:=List.all_eq_true.1 key n (by simp;omega);simp only [Bool.and_eq_true,decide_eq_true_eq,List.all_eq_true] at h1;refine ⟨h1.1.1,h1.1.2,fun k hk=>h1.2 k ?_ hk⟩;have:=rows_len n h;simp;omega
end Go.VM
namespace Go.VM
def diffB (r b:List Nat) (i k:Nat):Bool:=decide (r.idxOf i<r.idxOf k) != decide (b.idxOf i<b.idxOf k)
def Zbq (r b:List Nat) (K:Nat→Bool):Bool:=(List.range r.length).all fun i=>(List.range i).all fun k=>!((K i||K k)&&diffB r b i k)
def permB (n:Nat) (r:List Nat):Prop:=r.length=n∧∀ i,i<n→i∈r
theorem perm_range:∀ (n:Nat) (r:List Nat),permB n r→(List.range n).Perm r
 | 0,r,⟨hl,_⟩=>by rw [List.eq_nil_of_length_eq_zero hl];exact List.Perm.refl _
 | n+1,r,⟨hl,hm⟩=>by
  have h1:=hm n (by omega);have h2:=perm_range n (r.erase n) ⟨by rw [List.length_erase_of_mem h1,hl];rfl,fun i hi=>(List.mem_erase_of_ne (by omega)).2 (hm i (by omega))⟩;rw [List.range_succ];exact ((List.perm_append_comm).trans (h2.cons n)).trans (List.perm_cons_erase h1).symm
theorem perm_nodup (n:Nat) (r:List Nat) (h:permB n r):r.Nodup∧∀ x∈r,x<n :=
 have hq:=perm_range n r h
 ⟨hq.nodup_iff.1 List.nodup_range,fun x hx=>List.mem_range.1 (hq.mem_iff.2 hx)⟩
end Go.VM
