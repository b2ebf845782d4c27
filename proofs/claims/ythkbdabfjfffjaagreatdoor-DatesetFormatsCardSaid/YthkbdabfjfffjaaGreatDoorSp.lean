import Derived.Test.YthkbdabfjfffjaaGreatDoorVmD
import Derived.Test.YthkbdabfjfffjaaGreatDoorRows
import Derived.Test.YthkbdabfjfffjaaGreatDoorVmE
set_option linter.all false
namespace Go.VM
open Go
abbrev Zch:Int:=1048577
def memS (l:List Sp) (d:Int):Prop:=∃ s ∈ l,s.frm ≤ d ∧ d < s.to
def validD (d:Int):Prop:=0 ≤ d ∧ d < Zch
def Zct:Int → List Sp → Prop
  | _,[]=>True
  | b,s :: r=>b < s.frm ∧ s.frm < s.to ∧ s.to ≤ Zch ∧ Zct s.to r
def Canon (l:List Sp):Prop:=Zct (-1) l
theorem Zc0 (d:Int):¬ memS [] d:=by rintro ⟨s,hs,_⟩; cases hs
theorem Zcg (s:Sp) (r:List Sp) (d:Int):memS (s :: r) d ↔ (s.frm ≤ d ∧ d < s.to) ∨ memS r d:=by
  constructor
  · rintro ⟨x,hx,h⟩
    rcases List.mem_cons.1 hx with rfl | hx
    · exact .inl h
    · exact .inr ⟨x,hx,h⟩
  · rintro (h | ⟨x,hx,h⟩)
    · exact ⟨s,List.mem_cons_self ..,h⟩
    · exact ⟨x,List.mem_cons_of_mem _ hx,h⟩
theorem memS_append (l m:List Sp) (d:Int):memS (l ++ m) d ↔ memS l d ∨ memS m d:=by
  constructor
  · rintro ⟨x,hx,h⟩
    rcases List.mem_append.1 hx with hx | hx
    · exact .inl ⟨x,hx,h⟩
    · exact .inr ⟨x,hx,h⟩
  · rintro (⟨x,hx,h⟩ | ⟨x,hx,h⟩)
    · exact ⟨x,List.mem_append_left _ hx,h⟩
    · exact ⟨x,List.mem_append_right _ hx,h⟩
theorem memS_perm {l m:List Sp} (h:l.Perm m) (d:Int):memS l d ↔ memS m d :=
  ⟨fun ⟨x,hx,k⟩=>⟨x,h.mem_iff.1 hx,k⟩,fun ⟨x,hx,k⟩=>⟨x,h.mem_iff.2 hx,k⟩⟩
theorem Zct.mono {b b':Int} (hb:b ≤ b'):∀ {l:List Sp},Zct b' l → Zct b l
  | [],_=>trivial
  | s :: r,h=>⟨Int.lt_of_le_of_lt hb h.1,h.2⟩
theorem Zct.lower:∀ {l:List Sp} {b d:Int},Zct b l → memS l d → b < d
  | [],_,d,_,h=>(Zc0 d h).elim
  | s :: r,b,d,h,hm=>by
    rcases (Zcg s r d).1 hm with h1 | h1
    · have:=h.1; omega
    · have:=Zct.lower h.2.2.2 h1
      have:=h.1; have:=h.2.1; omega
theorem Zct.upper:∀ {l:List Sp} {b d:Int},Zct b l → memS l d → d < Zch
  | [],_,d,_,h=>(Zc0 d h).elim
  | s :: r,b,d,h,hm=>by
    rcases (Zcg s r d).1 hm with h1 | h1
    · have:=h.2.2.1; omega
    · exact Zct.upper h.2.2.2 h1
theorem Zct.unique:∀ {l m:List Sp} {b:Int},Zct b l → Zct b m → (∀ d,memS l d ↔ memS m d) → l = m
  | [],[],_,_,_,_=>rfl
  | [],t :: u,b,_,hm,h=>by
    exact (Zc0 t.frm ((h t.frm).2 ((Zcg t u t.frm).2 (.inl ⟨Int.le_refl _,hm.2.1⟩)))).elim
  | s :: r,[],b,hl,_,h=>by
    exact (Zc0 s.frm ((h s.frm).1 ((Zcg s r s.frm).2 (.inl ⟨Int.le_refl _,hl.2.1⟩)))).elim
  | s :: r,t :: u,b,hl,hm,h=>by
    obtain ⟨l1,l2,l3,l4⟩:=hl
    obtain ⟨m1,m2,m3,m4⟩:=hm
    have inl:∀ d,s.frm ≤ d → d < s.to → memS (t :: u) d:=fun d h1 h2=>(h d).1 ((Zcg s r d).2 (.inl ⟨h1,h2⟩))
    have inm:∀ d,t.frm ≤ d → d < t.to → memS (s :: r) d:=fun d h1 h2=>(h d).2 ((Zcg t u d).2 (.inl ⟨h1,h2⟩))
    have f1:s.frm = t.frm:=by
      have h1:t.frm ≤ s.frm:=by
        rcases (Zcg t u s.frm).1 (inl s.frm (Int.le_refl _) l2) with h1 | h1
        · exact h1.1
        · have:=m4.lower h1; omega
      have h2:s.frm ≤ t.frm:=by
        rcases (Zcg s r t.frm).1 (inm t.frm (Int.le_refl _) m2) with h1 | h1
        · exact h1.1
        · have:=l4.lower h1; omega
      omega
    have f2:s.to = t.to:=by
      have h1:¬ s.to < t.to:=by
        intro hlt
        rcases (Zcg s r s.to).1 (inm s.to (by omega) hlt) with h1 | h1
        · omega
        · have:=l4.lower h1; omega
      have h2:¬ t.to < s.to:=by
        intro hlt
        rcases (Zcg t u t.to).1 (inl t.to (by omega) hlt) with h1 | h1
        · omega
        · have:=m4.lower h1; omega
      omega
    have hst:s = t:=by cases s; cases t; simp_all
    subst hst
    have hr:r = u:=by
      refine Zct.unique l4 m4 fun d=>⟨fun hd=>?_,fun hd=>?_⟩
      · have hlo:=l4.lower hd
        rcases (Zcg s u d).1 ((h d).1 ((Zcg s r d).2 (.inr hd))) with h1 | h1
        · omega
        · exact h1
      · have hlo:=m4.lower hd
        rcases (Zcg s r d).1 ((h d).2 ((Zcg s u d).2 (.inr hd))) with h1 | h1
        · omega
        · exact h1
    rw [hr]
theorem Canon.valid {l:List Sp} (h:Canon l) {d:Int} (hm:memS l d):validD d:=⟨by have:=Zct.lower h hm; omega,Zct.upper h hm⟩
noncomputable def canonOf (p:Int → Prop):List Sp:=@Classical.epsilon _ ⟨[]⟩ fun c=>Canon c ∧ ∀ d,memS c d ↔ p d
theorem canonOf_eq {p:Int → Prop} {c:List Sp} (h1:Canon c) (h2:∀ d,memS c d ↔ p d):canonOf p = c:=by
  have h:=@Classical.epsilon_spec_aux _ ⟨[]⟩ (fun c=>Canon c ∧ ∀ d,memS c d ↔ p d) ⟨c,h1,h2⟩
  exact Zct.unique h.1 h1 fun d=>(h.2 d).trans (h2 d).symm
theorem canonOf_spec {p:Int → Prop} {c:List Sp} (h1:Canon c) (h2:∀ d,memS c d ↔ p d):Canon (canonOf p) ∧ ∀ d,memS (canonOf p) d ↔ p d:=by
  rw [canonOf_eq h1 h2]; exact ⟨h1,h2⟩
def Zc5:List Sp → Sp → List Sp
  | [],x=>[x]
  | s :: r,x=>if x.frm ≤ s.to then ⟨s.frm,if s.to < x.to then x.to else s.to⟩ :: r else x :: s :: r
end Go.VM
namespace Go.VM
open Go
def accS (ss:List Sp) (i:Nat):List Sp:=(ss.take i).foldl Zc5 []
def mergeAll (ss:List Sp):List Sp:=(ss.foldl Zc5 []).reverse
def clipS (x:Sp):Sp:=⟨if 0 > x.frm then 0 else x.frm,if 1048577 < x.to then 1048577 else x.to⟩
def Zc8 (l:List Sp):List Sp:=(l.map clipS).filter fun s=>decide (s.frm < s.to)
structure MS (ss : List Sp) (i : Nat) (rows : List Sp) (n : Nat) : Prop where
  len : rows.length = ss.length
  le : n ≤ i
  le2 : i ≤ ss.length
  cnt : n = (accS ss i).length
  tk : rows.take n = (accS ss i).reverse
  dr : rows.drop i = ss.drop i
theorem MS.init (ss:List Sp):MS ss 0 ss 0:=⟨rfl,Nat.le_refl _,Nat.zero_le _,rfl,rfl,rfl⟩
theorem MS.get {ss rows:List Sp} {i n:Nat} (h:MS ss i rows n) (hi:i < ss.length):rows[i]? = some ss[i]:=by
  have e:(rows.drop i)[0]? = (ss.drop i)[0]?:=by rw [h.dr]
  rw [List.getElem?_drop,List.getElem?_drop] at e
  exact e.trans (List.getElem?_eq_getElem hi)
theorem accS_succ {ss:List Sp} {i:Nat} (hi:i < ss.length):accS ss (i + 1) = Zc5 (accS ss i) ss[i]:=by
  unfold accS
  rw [List.take_add_one,List.getElem?_eq_getElem hi,List.foldl_append]
  rfl
theorem drop_of_set {α:Type} {l m:List α} {i k:Nat} {x:α} (h:l.drop i = m.drop i) (hk:k ≤ i):(l.set k x).drop (i + 1) = m.drop (i + 1):=by
  rw [List.drop_set_of_lt (by omega)]
  have:=congrArg (List.drop 1) h
  simpa [List.drop_drop] using this
theorem MS.top {ss rows:List Sp} {i n:Nat} (h:MS ss i rows (n + 1)):∃ s r,accS ss i = s :: r ∧ rows[n]? = some s ∧ r.length = n ∧ rows.take n = r.reverse:=by
  have h1:=h.cnt
  have h2:=h.tk
  cases ha:accS ss i with
  | nil=>rw [ha] at h1; cases h1
  | cons s r =>
    rw [ha] at h1 h2
    have hr:r.length = n:=by simpa using h1.symm
    refine ⟨s,r,rfl,?_,hr,?_⟩
    · have:=congrArg (fun l=>l[n]?) h2
      simpa [List.getElem?_take,hr] using this
    · have:=congrArg (List.take n) h2
      rw [List.take_take,Nat.min_eq_left (Nat.le_succ n)] at this
      rw [this]; simp [← hr]
theorem MS.join {ss rows : List Sp} {i n : Nat} (h : MS ss i rows (n + 1)) (hi : i < ss.length) (s : Sp) (hs : rows[n]? = some s) (hc : ss[i].frm ≤ s.to) :
    MS ss (i + 1) (rows.set n ⟨s.frm,if s.to < ss[i].to then ss[i].to else s.to⟩) (n + 1):=by
  obtain ⟨s',r,h1,h2,h3,h4⟩:=h.top
  rw [h2] at hs; cases hs
  have hn:=h.le
  have hl:=h.len
  have ha:accS ss (i + 1) = ⟨s.frm,if s.to < ss[i].to then ss[i].to else s.to⟩ :: r:=by rw [accS_succ hi,h1]; simp [Zc5,hc]
  refine ⟨by simpa using hl,by omega,by omega,by rw [ha]; simp [h3],?_,drop_of_set h.dr (by omega)⟩
  rw [ha,List.take_add_one,List.take_set_of_le (Nat.le_refl _),h4]
  rw [List.getElem?_set_self (by omega)]
  simp
theorem MS.push {ss rows : List Sp} {i n : Nat} (h : MS ss i rows n) (hi : i < ss.length) (hc : ∀ m s, n = m + 1 → rows[m]? = some s → ¬ ss[i].frm ≤ s.to) :
    MS ss (i + 1) (rows.set n ss[i]) (n + 1):=by
  have hn:=h.le
  have hl:=h.len
  have ha:accS ss (i + 1) = ss[i] :: accS ss i:=by
    rw [accS_succ hi]
    cases n with
    | zero=>have:=h.cnt; rw [List.eq_nil_of_length_eq_zero this.symm]; rfl
    | succ m =>
      obtain ⟨s,r,h1,h2,h3,h4⟩:=h.top
      have:=hc m s rfl h2
      rw [h1]; simp [Zc5,this]
  refine ⟨by simpa using hl,by omega,by omega,by rw [ha]; simp [← h.cnt],?_,drop_of_set h.dr hn⟩
  rw [ha,List.take_add_one,List.take_set_of_le (Nat.le_refl _),h.tk,List.getElem?_set_self (by omega)]
  simp
theorem MS.fin {ss rows:List Sp} {n:Nat} (h:MS ss ss.length rows n):rows.take n = mergeAll ss:=by
  rw [h.tk]; simp [accS,mergeAll]
def spOk (s:Sp):Prop:=0 ≤ s.frm ∧ s.frm < s.to ∧ s.to ≤ Zch
def RevC:List Sp → Prop
  | []=>True
  | [s]=>spOk s
  | s :: t :: r=>spOk s ∧ t.to < s.frm ∧ RevC (t :: r)
theorem canonF_snoc:∀ {l:List Sp} {b:Int} {s:Sp},Zct b l → spOk s → (∀ t ∈ l,t.to < s.frm) → b < s.frm → Zct b (l ++ [s])
  | [],b,s,_,hs,_,hb=>⟨hb,hs.2.1,hs.2.2,trivial⟩
  | t :: r,b,s,h,hs,ht,hb=>⟨h.1,h.2.1,h.2.2.1,canonF_snoc h.2.2.2 hs (fun u hu=>ht u (List.mem_cons_of_mem _ hu)) (ht t (List.mem_cons_self ..))⟩
theorem RevC.tail:∀ {s:Sp} {r:List Sp},RevC (s :: r) → RevC r
  | _,[],_=>trivial
  | _,_ :: _,h=>h.2.2
theorem RevC.ok:∀ {s:Sp} {r:List Sp},RevC (s :: r) → spOk s
  | _,[],h=>h
  | _,_ :: _,h=>h.1
theorem RevC.below:∀ {r:List Sp} {s:Sp},RevC (s :: r) → ∀ t ∈ r,t.to < s.frm
  | [],_,_,_,h=>by cases h
  | u :: r,s,h,t,ht=>by
    rcases List.mem_cons.1 ht with rfl | ht
    · exact h.2.1
    · have:=RevC.below h.2.2 t ht
      have:=h.2.1
      have:=h.2.2.ok.2.1
      omega
theorem RevC.canon:∀ {l:List Sp},RevC l → Canon l.reverse
  | [],_=>trivial
  | s :: r,h=>by
    have:=h.ok
    rw [List.reverse_cons]
    exact canonF_snoc (RevC.canon h.tail) this (fun t ht=>h.below t (List.mem_reverse.1 ht)) (by have:=this.1; omega)
theorem mergeS_rev {acc:List Sp} {x:Sp} (h:RevC acc) (hx:spOk x) (hle:∀ s r,acc = s :: r → s.frm ≤ x.frm):RevC (Zc5 acc x) ∧ (∀ d,memS (Zc5 acc x) d ↔ memS acc d ∨ (x.frm ≤ d ∧ d < x.to)) ∧ ∀ s r,Zc5 acc x = s :: r → s.frm ≤ x.frm:=by
  cases acc with
  | nil=>exact ⟨hx,fun d=>by simp [Zc5,Zcg,Zc0],fun s r e=>by cases e; exact Int.le_refl _⟩
  | cons s r =>
    have h1:=hle s r rfl
    have ho:=h.ok
    obtain ⟨o1,o2,o3⟩:=ho
    obtain ⟨x1,x2,x3⟩:=hx
    simp only [Zc5]
    split
    · rename_i hc
      refine ⟨?_,fun d=>?_,fun s' r' e=>by cases e; exact h1⟩
      · have hs:spOk ⟨s.frm,if s.to < x.to then x.to else s.to⟩:=⟨o1,by simp only []; split <;> omega,by simp only []; split <;> omega⟩
        cases r with
        | nil=>exact hs
        | cons t u=>exact ⟨hs,h.2.1,h.2.2⟩
      · rw [Zcg,Zcg]
        simp only []
        by_cases hp:memS r d
        · simp [hp]
        · simp only [hp,or_false]; split <;> omega
    · rename_i hc
      refine ⟨⟨⟨x1,x2,x3⟩,by omega,h⟩,fun d=>?_,fun s' r' e=>by cases e; exact Int.le_refl _⟩
      rw [Zcg]; exact Or.comm
def leF (a b:Sp):Prop:=a.frm ≤ b.frm
theorem foldl_merge : ∀ {ss acc : List Sp}, RevC acc → (∀ s ∈ ss, spOk s) → ss.Pairwise leF → (∀ s r, acc = s :: r → ∀ t ∈ ss, s.frm ≤ t.frm) →
    RevC (ss.foldl Zc5 acc) ∧ ∀ d,memS (ss.foldl Zc5 acc) d ↔ memS acc d ∨ memS ss d
  | [],acc,h,_,_,_=>⟨h,fun d=>by simp [Zc0]⟩
  | x :: ss,acc,h,hok,hp,hle=>by
    obtain ⟨p1,p2⟩:=List.pairwise_cons.1 hp
    obtain ⟨a1,a2,a3⟩:=mergeS_rev h (hok x (List.mem_cons_self ..)) (fun s r e=>hle s r e x (List.mem_cons_self ..))
    obtain ⟨b1,b2⟩:=foldl_merge (ss:=ss) a1 (fun s hs=>hok s (List.mem_cons_of_mem _ hs)) p2 (fun s r e t ht=>Int.le_trans (a3 s r e) (p1 t ht))
    refine ⟨b1,fun d=>?_⟩
    rw [List.foldl_cons,b2,a2,Zcg,or_assoc]
theorem mergeAll_canon {ss:List Sp} (hok:∀ s ∈ ss,spOk s) (hp:ss.Pairwise leF):Canon (mergeAll ss) ∧ ∀ d,memS (mergeAll ss) d ↔ memS ss d:=by
  obtain ⟨h1,h2⟩:=foldl_merge (acc:=[]) trivial hok hp (fun s r e=>by cases e)
  refine ⟨h1.canon,fun d=>?_⟩
  rw [mergeAll,memS_perm (List.reverse_perm _),h2]
  simp [Zc0]
theorem kept_ok {l:List Sp}:∀ s ∈ Zc8 l,spOk s:=by
  intro s hs
  simp only [Zc8,List.mem_filter,List.mem_map,decide_eq_true_eq] at hs
  obtain ⟨⟨x,_,rfl⟩,h⟩:=hs
  refine ⟨?_,h,?_⟩
  · simp only [clipS]; split <;> omega
  · simp only [clipS,Zch]; split <;> omega
theorem kept_mem {l:List Sp} (d:Int):memS (Zc8 l) d ↔ validD d ∧ memS l d:=by
  constructor
  · rintro ⟨s,hs,h1,h2⟩
    have ho:=kept_ok s hs
    simp only [Zc8,List.mem_filter,List.mem_map,decide_eq_true_eq] at hs
    obtain ⟨⟨x,hx,rfl⟩,h⟩:=hs
    obtain ⟨o1,o2,o3⟩:=ho
    refine ⟨⟨by omega,by omega⟩,x,hx,?_⟩
    simp only [clipS] at h1 h2
    split at h1 <;> split at h2 <;> omega
  · rintro ⟨⟨v1,v2⟩,x,hx,h1,h2⟩
    refine ⟨clipS x,?_,?_⟩
    · simp only [Zc8,List.mem_filter,List.mem_map,decide_eq_true_eq]
      refine ⟨⟨x,hx,rfl⟩,?_⟩
      simp only [clipS,Zch] at *
      split <;> split <;> omega
    · simp only [clipS,Zch] at *
      split <;> split <;> omega
noncomputable def Zci (l:List Sp):List Sp:=canonOf fun d=>validD d ∧ memS l d
theorem norm_of_sorted {l ss:List Sp} (hp:ss.Perm (Zc8 l)) (hs:ss.Pairwise leF):mergeAll ss = Zci l:=by
  obtain ⟨h1,h2⟩:=mergeAll_canon (fun s h=>kept_ok s (hp.mem_iff.1 h)) hs
  exact (canonOf_eq h1 fun d=>(h2 d).trans ((memS_perm hp d).trans (kept_mem d))).symm
theorem sorted_exists (l:List Sp):∃ ss:List Sp,ss.Perm (Zc8 l) ∧ ss.Pairwise leF :=
  ⟨(Zc8 l).mergeSort fun a b=>decide (a.frm ≤ b.frm),List.mergeSort_perm ..,(List.pairwise_mergeSort (le:=fun a b:Sp=>decide (a.frm ≤ b.frm)) (fun a b c h1 h2=>by simp at *; omega) (fun a b=>by simp; omega) _).imp (by simp [leF])⟩
theorem Zcj (l:List Sp):Canon (Zci l) ∧ ∀ d,memS (Zci l) d ↔ validD d ∧ memS l d:=by
  obtain ⟨ss,hp,hs⟩:=sorted_exists l
  obtain ⟨h1,h2⟩:=mergeAll_canon (fun s h=>kept_ok s (hp.mem_iff.1 h)) hs
  exact canonOf_spec h1 fun d=>(h2 d).trans ((memS_perm hp d).trans (kept_mem d))
theorem norm_eq {l:List Sp} {c:List Sp} (h1:Canon c) (h2:∀ d,memS c d ↔ validD d ∧ memS l d):Zci l = c:=canonOf_eq h1 h2
end Go.VM
namespace Go.Proofs.YthkbdabfjfffjaaGreatDoor.rd
open Go Go.VM
variable {W : World}
theorem k3:Tryz.prog.cellsOf 3 = 1:=by kernel_rfl
theorem rI (n:Nat):Reads Tryz.prog W n 3 i64 (fun a=>[pI a]):=reads_int Tryz.underlying3
theorem rS (n:Nat):Reads Tryz.prog W n 9 okS (fun a=>[.str a]):=reads_string Tryz.underlying9
theorem k35:Tryz.prog.cellsOf 35 = 2:=by kernel_rfl
theorem rSp (n:Nat):Reads Tryz.prog W n 35 Sp.ok Sp.enc:=by
  cases n with
  | zero=>exact reads_zero
  | succ n =>
    refine Reads.map (fun x:Int × Int × Unit=>(⟨x.1,x.2.1⟩:Sp)) (reads_struct Tryz.underlying35 rfl k35 (freads_cons (by exact (rI n)) (by exact k3) (by exact (fun _=>rfl)) (by rfl) (freads_cons (by exact (rI n)) (by exact k3) (by exact (fun _=>rfl)) (by rfl) freads_nil)) (by exact fun _=>rfl)) ?_ ?_
    · rintro ⟨a,b,_⟩ ⟨h1,h2,_⟩; exact ⟨h1,h2⟩
    · rintro ⟨a,b,_⟩; rfl
theorem rSps (n:Nat):Reads Tryz.prog W n 22 (okL Sp.ok) (fun l=>[.sl 2 (l.map Sp.enc)]):=reads_sl Tryz.underlying22 k35 (by decide) (fun _=>rfl) n (fun m _=>rSp m)
end Go.Proofs.YthkbdabfjfffjaaGreatDoor.rd
namespace Go.Proofs.YthkbdabfjfffjaaGreatDoor.w
open Go Go.VM
set_option maxRecDepth 20000
set_option maxHeartbeats 0
def c_dateset_Normalize:VC:=(.seq (.region [ZO 2 (.mv (.c .nilsl))] false) (.seq (.region [ZO 3 (.mv (.c .nilsl))] false) (.seq (.seq (.region [ZM 9 0,ZO 10 (.len false (.t 9)),ZO 11 (.mv (.c (.int .i64 0)))] false) (.block 0 (.loop (.seq (.region [ZO 12 (.bin .lss (.t 11) (.t 10))] false) (.seq (.cond (.t 12) .skip (.exit 0)) (.seq (.block 1 (.seq (.region [ZO 13 (.iaddr 2 (.t 9) (.t 11)),ZO 14 (.load true 2 (.t 13)),ZO 5 (.alloc [(.int .i64 0),(.int .i64 0)]),ZN (.store 2 (.t 5) (.t 14))] false) (.seq (.region [ZO 15 (.faddr 0 (.t 5)),ZO 16 (.load false 1 (.t 15)),ZO 17 (.mm true [(.t 16),(.c (.int .i64 0))]),ZO 18 (.faddr 1 (.t 5)),ZO 19 (.load false 1 (.t 18)),ZO 20 (.mm false [(.t 19),(.c (.int .i64 1048577))]),ZO 21 (.faddr 0 (.t 5)),ZN (.store 1 (.t 21) (.t 17)),ZO 22 (.faddr 1 (.t 5)),ZN (.store 1 (.t 22) (.t 20))] false) (.seq (.region [ZO 23 (.faddr 0 (.t 5)),ZO 24 (.load false 1 (.t 23)),ZO 25 (.faddr 1 (.t 5)),ZO 26 (.load false 1 (.t 25)),ZO 27 (.bin .lss (.t 24) (.t 26))] false) (.cond (.t 27) (.region [ZM 28 3,ZO 29 (.load true 2 (.t 5)),ZO 30 (.bslice 2 1 [(.int .i64 0),(.int .i64 0)] [(0,(.t 29))]),ZO 31 (.app 2 16 [(.int .i64 0),(.int .i64 0)] false (.t 28) (.t 30)),ZM 3 31] false) .skip))))) (.region [ZO 32 (.bin .add (.t 11) (.c (.int .i64 1))),ZM 11 32] false))))))) (.seq (.region [ZM 33 3,ZO 34 (.call 24 [(.t 33),(.c (.fn (.func 25) [] []))])] false) (.seq (.region [ZO 6 (.mv (.c (.int .i64 0)))] false) (.seq (.seq (.region [ZM 35 3,ZO 36 (.len false (.t 35)),ZO 37 (.mv (.c (.int .i64 0)))] false) (.block 2 (.loop (.seq (.region [ZO 38 (.bin .lss (.t 37) (.t 36))] false) (.seq (.cond (.t 38) .skip (.exit 2)) (.seq (.block 3 (.seq (.region [ZO 39 (.iaddr 2 (.t 35) (.t 37)),ZO 40 (.load true 2 (.t 39)),ZO 8 (.alloc [(.int .i64 0),(.int .i64 0)]),ZN (.store 2 (.t 8) (.t 40))] false) (.seq (.seq (.region [ZM 41 6,ZO 42 (.bin .gtr (.t 41) (.c (.int .i64 0))),ZM 43 42,ZG 44 (.faddr 0 (.t 8)) 43 true,ZG 45 (.load false 1 (.t 44)) 43 true,ZG 46 (.mv (.t 3)) 43 true,ZG 47 (.mv (.t 6)) 43 true,ZG 48 (.bin .sub (.t 47) (.c (.int .i64 1))) 43 true,ZG 49 (.iaddr 2 (.t 46) (.t 48)) 43 true,ZG 50 (.faddr 1 (.t 49)) 43 true,ZG 51 (.load false 1 (.t 50)) 43 true,ZG 52 (.bin .leq (.t 45) (.t 51)) 43 true,ZO 53 (.pick (.t 43) (.t 52) (.c (.bool false)))] true) (.cond (.t 53) (.seq (.draw2 [ZM 54 3,ZM 55 6,ZO 56 (.bin .sub (.t 55) (.c (.int .i64 1))),ZM 57 3,ZM 58 6,ZO 59 (.bin .sub (.t 58) (.c (.int .i64 1))),ZO 60 (.iaddr 2 (.t 57) (.t 59)),ZO 61 (.faddr 1 (.t 60)),ZO 62 (.load false 1 (.t 61)),ZO 63 (.faddr 1 (.t 8)),ZO 64 (.load false 1 (.t 63)),ZO 65 (.mm true [(.t 62),(.t 64)]),ZO 66 (.iaddr 2 (.t 54) (.t 56)),ZO 67 (.faddr 1 (.t 66)),ZN (.store 1 (.t 67) (.t 65))] [true,true,true,true,true,true,true,true,true,true,true,true,true,true,false]) (.exit 3)) .skip)) (.seq (.region [ZM 68 3,ZM 69 6,ZO 70 (.load true 2 (.t 8)),ZO 71 (.iaddr 2 (.t 68) (.t 69)),ZN (.store 2 (.t 71) (.t 70))] false) (.region [ZM 72 6,ZO 73 (.bin .add (.t 72) (.c (.int .i64 1))),ZM 6 73] false))))) (.region [ZO 74 (.bin .add (.t 37) (.c (.int .i64 1))),ZM 37 74] false))))))) (.seq (.region [ZM 75 3,ZM 76 6,ZO 77 (.slice false 2 (.t 75) none (some (.t 76))),ZM 2 77] false) .ret)))))))
def SortsSp (f cmp:Nat):Prop:=∀ (id n:Nat) (rows:List Sp),id < n → rows.length ≤ 1000000 →
  Zc2 Tryz.prog f [.own id 0 rows.length,.fn (.func cmp) [] []] ⟨[(id,.arr false 2 (rows.map Sp.enc))],n⟩
    (fun _ h'=>∃ ss:List Sp,ss.Perm rows ∧ ss.Pairwise leF ∧ ∃ n',n ≤ n' ∧ h' = ⟨[(id,.arr false 2 (ss.map Sp.enc))],n'⟩)
set_option pp.deepTerms false
theorem kept_snoc {l:List Sp} {k:Nat} (h:k < l.length):Zc8 (l.take (k + 1)) = Zc8 (l.take k) ++ if (clipS l[k]).frm < (clipS l[k]).to then [clipS l[k]] else []:=by
  unfold Zc8
  rw [List.take_add_one,List.getElem?_eq_getElem h,List.map_append,List.filter_append]
  simp [List.filter_cons]
theorem kept_le (l:List Sp):(Zc8 l).length ≤ l.length:=by
  unfold Zc8
  exact Nat.le_trans (List.length_filter_le ..) (by simp)
theorem sp_dateset_Normalize (hS:SortsSp 24 25) (l:List Sp) (hl:l.length ≤ 100000):Zcn Tryz.prog 12 [.sl 2 (l.map Sp.enc)] (.sl 2 ((Zci l).map Sp.enc)):=by
  refine Zb6 ?_ (Zb9 _) (by simp only [Zce,List.mem_cons,List.not_mem_nil,or_false,forall_eq_or_imp,forall_eq,false_implies,implies_true]; repeat' (first  | exact Zb9 _ | refine And.intro ?_ ?_))
  refine Zcc (vc:=c_dateset_Normalize) (ts:=[.t 2]) Go.Proofs.Tryz.func12 (by kernel_rfl) rfl rfl (Nat.le_of_ble_eq_true rfl) (by kernel_rfl) ?_
  unfold c_dateset_Normalize
  try dsimp only [ZM,ZO,ZN,ZG]
  refine Za9 (Zae [0] ?_)
  simp only [Zaa,Zah,Za5,pok,pval,VA.ev,Env.get,Env.put,Env.keep,Za0,Za6,Heap.nil,ite_true,ite_false,true_and,reduceCtorEq]
  refine Za9 (Zae [0,3] ?_)
  simp only [Zaa,Zah,Za5,pok,pval,VA.ev,Env.get,Env.put,Env.keep,Za6,ite_true,ite_false,true_and,reduceCtorEq]
  refine VW_own0 3 2 rfl ?_
  try simp only [Env.put,Heap.push,Nat.zero_add]
  refine Za9 ?_
  refine Za9 (Zae [3,9,10,11] ?_)
  simp only [Zaa,Zah,Za5,pok,pval,VA.ev,Env.get,Env.put,Env.keep,Za6,lenV,Zbq,Nat.succ_ne_self,Nat.reduceEqDiff,ite_true,ite_false,true_and,reduceCtorEq,List.length_map]
  refine Zcb ?_
  refine Zcz (σ:={ s:Nat × Nat × Nat // s.1 ≤ l.length ∧ s.2.1 < s.2.2 })
    (fun s=>([(3,.own s.1.2.1 0 (Zc8 (l.take s.1.1)).length),(9,.sl 2 (l.map Sp.enc)),(10,pI l.length),(11,pI s.1.1)],⟨[(s.1.2.1,.arr false 2 ((Zc8 (l.take s.1.1)).map Sp.enc))],s.1.2.2⟩)) (fun s=>l.length - s.1.1) ⟨(0,0,1),by simp⟩ ?_ ?_ ?_
  · simp only [Env.get,Nat.succ_ne_self,Env.le,List.take,Nat.reduceEqDiff,ite_true,ite_false,true_and,and_true]
    exact ⟨rfl,rfl⟩
  · simp only [Heap.get,Heap.le,HL.get,HL.le,Nat.le_refl,List.take,ite_true,true_and,and_true,Option.some.injEq,List.map_nil]
    rfl
  rintro ⟨⟨k,id,n⟩,hk,hn⟩
  simp only [] at hk hn ⊢
  have qi0:(id = n) = False:=by simp; omega
  have qi1:(n = id) = False:=by simp; omega
  have qi2:∀ j,(n + j = id) = False:=fun j=>by simp; try omega
  have qi3:∀ j,(id = n + j) = False:=fun j=>by simp; try omega
  have qi4:∀ j,(n + (j + 1) = n) = False:=fun j=>by simp; try omega
  have qi5:∀ j,(n = n + (j + 1)) = False:=fun j=>by simp; try omega
  have qi6:(n + 1 + 1 = n) = False:=by simp; try omega
  have qi7:(n = n + 1 + 1) = False:=by simp; try omega
  have qi8:(n + 1 + 1 + 1 = n) = False:=by simp; try omega
  have qi9:(n = n + 1 + 1 + 1) = False:=by simp; try omega
  refine Za9 (Zae [3,9,10,11,12] ?_)
  simp only [Zaa,Zah,Za5,pok,pval,VA.ev,Env.get,Env.put,Env.keep,Za6,intV,binV,Zbk,Heap.get,Heap.le,HL.le,Nat.succ_ne_self,Env.le,Nat.reduceEqDiff,ite_true,ite_false,true_and,and_true]
  refine Za9 ?_
  refine Zb4 rfl (fun h1=>?_) (fun h1=>?_)
  · refine Zb8 ?_
    try simp only [Za6]
    simp only [decide_eq_true_eq] at h1
    have ka:k < l.length:=by omega
    have hkl:=kept_le (l.take k)
    refine Za9 ?_
    refine Zcb ?_
    refine Za9 (Zae [3,5,9,10,11] ?_)
    simp only [Zaa,Zah,Za5,pok,pval,VA.ev,Env.get,Env.put,Env.keep,Za6,aggV,isInt,numOf,lenV,Zad,Zbm,Za1,Zak,PV.cells,PV.fits,overlay,PV.nth,PV.row,Heap.get,Heap.set,HL.get,HL.set,HL.del,Heap.push,Nat.le_refl,Nat.succ_ne_self,Zba,Zaq,List.set,List.length,List.getD_cons_zero,List.take,List.drop,List.take_succ_cons,List.drop_succ_cons,List.cons_append,List.nil_append,Nat.reduceEqDiff,Nat.reduceAdd,Nat.reduceLT,Bool.true_eq_false,ite_true,ite_false,true_and,and_true,BEq.rfl,Nat.zero_add,List.length_cons,imp_self,Int.toNat_natCast,List.length_map,rowm ka,Sp.enc,qi0,qi1,qi2,qi3,qi4,qi5,qi6,qi7,qi8,qi9]
    repeat (with_reducible refine And.intro ?_ ?_; first | omega | (with_reducible constructor <;> omega) | exact False.elim | exact True.intro)
    refine Za9 (Zae [3,5,9,10,11] ?_)
    simp only [Zaa,Zah,Za5,pok,pval,VA.ev,Env.get,Env.put,Env.keep,Za6,aggV,isInt,Za4,Za3,Zad,Zbm,mmV,PV.cells,PV.fits,overlay,PV.nth,PV.row,Heap.get,Heap.set,HL.get,HL.set,HL.del,Nat.le_refl,Nat.succ_ne_self,Zba,Zaq,List.set,List.length,List.getD_cons_zero,List.take,List.drop,List.take_succ_cons,List.drop_succ_cons,List.cons_append,List.nil_append,Nat.reduceEqDiff,Nat.reduceAdd,Nat.reduceLT,Nat.reduceLeDiff,Bool.false_eq_true,ite_true,ite_false,true_and,and_true,implies_true,BEq.rfl,Nat.zero_add,Nat.add_zero,List.length_cons,qi0,qi1,qi2,qi3,qi4,qi5,qi6,qi7,qi8,qi9]
    refine Za9 (Zae [3,5,9,10,11,27] ?_)
    simp only [Zaa,Zah,Za5,pok,pval,VA.ev,Env.get,Env.put,Env.keep,Za6,aggV,intV,binV,Zbk,Za4,Za3,Zad,Zbm,PV.nth,PV.row,Heap.get,HL.get,Nat.le_refl,Nat.succ_ne_self,List.length,List.getD_cons_zero,List.take,List.drop,List.take_succ_cons,List.drop_succ_cons,Nat.reduceEqDiff,Nat.reduceAdd,Nat.reduceLT,Nat.reduceLeDiff,Bool.false_eq_true,ite_true,ite_false,true_and,and_true,implies_true,Nat.zero_add,Nat.add_zero,List.length_cons,qi0,qi1,qi2,qi3,qi4,qi5,qi6,qi7,qi8,qi9]
    refine Zb4 rfl (fun h2=>?_) (fun h2=>?_)
    · refine Zae [3,9,10,11] ?_
      have hlen:((Zc8 (l.take k)).map Sp.enc).length = (Zc8 (l.take k)).length:=by simp
      have htk:(((Zc8 (l.take k)).map Sp.enc)).take (Zc8 (l.take k)).length = (Zc8 (l.take k)).map Sp.enc:=List.take_of_length_le (by rw [hlen]; exact Nat.le_refl _)
      have hlt:(l.take k).length = k:=by simp; omega
      have hc:(clipS l[k]).frm < (clipS l[k]).to:=by simpa [clipS] using h2
      have hstep:Zc8 (l.take (k + 1)) = Zc8 (l.take k) ++ [clipS l[k]]:=by rw [kept_snoc ka,if_pos hc]
      simp only [Zaa,Zah,Za5,pok,pval,VA.ev,Env.get,Env.put,Env.keep,Za6,Zay,aggV,Zad,Zbm,PV.cells,PV.fits,PV.nth,PV.row,Heap.get,Heap.del,HL.get,HL.del,Heap.push,Nat.le_refl,Nat.succ_ne_self,Za2,Zbu,Zam,Zbv,Zaj,Zbt,Zaz,Zal,List.set,List.replicate,List.length,List.getD_cons_zero,List.take,List.drop,List.take_succ_cons,Nat.reduceEqDiff,Nat.reduceAdd,Nat.reduceLT,Nat.reduceLeDiff,Bool.true_eq_false,ite_true,ite_false,true_and,and_true,BEq.rfl,Nat.zero_add,List.length_cons,imp_self,qi0,qi1,qi2,qi3,qi4,qi5,qi6,qi7,qi8,qi9,hlen,htk]
      repeat (with_reducible refine And.intro ?_ ?_; first | omega | (with_reducible constructor <;> omega) | exact False.elim | exact True.intro)
      refine Zae [3,9,10,11] ?_
      simp only [Zaa,Zah,Za5,pok,pval,VA.ev,Env.get,Env.put,Env.keep,Za6,intV,binV,Zbk,HL.get,Nat.succ_ne_self,Nat.reduceEqDiff,ite_true,ite_false,true_and,qi0,qi1,qi2,qi3,qi4,qi5,qi6,qi7,qi8,qi9,w64 (n:=(k:Int) + 1) (by omega) (by omega)]
      refine ⟨⟨(k + 1,n + 1 + 1,n + 1 + 1 + 1),?_,?_⟩,?_,?_,?_⟩
      · simp only []; omega
      · simp only []; omega
      · rw [hstep]
        simp
      · rw [hstep]
        simp only [Nat.le_refl,Nat.left_eq_add,Nat.succ_ne_self,ite_true,ite_false,true_and,Option.some.injEq,qi0,qi1,qi2,qi3,qi4,qi5,qi6,qi7,qi8,qi9]
        simp [clipS,Sp.enc]
      · simp only []; omega
    · refine Zb8 ?_
      try simp only [Za6,Zay]
      refine Zae [3,9,10,11] ?_
      have hc:¬ (clipS l[k]).frm < (clipS l[k]).to:=by simpa [clipS] using h2
      have hstep:Zc8 (l.take (k + 1)) = Zc8 (l.take k):=by rw [kept_snoc ka,if_neg hc,List.append_nil]
      simp only [Zaa,Zah,Za5,pok,pval,VA.ev,Env.get,Env.put,Env.keep,Za6,intV,binV,Zbk,HL.get,Nat.succ_ne_self,Nat.reduceEqDiff,ite_true,ite_false,true_and,qi0,qi1,qi2,qi3,qi4,qi5,qi6,qi7,qi8,qi9,w64 (n:=(k:Int) + 1) (by omega) (by omega)]
      refine ⟨⟨(k + 1,id,n + 1),?_,?_⟩,?_,?_,?_⟩
      · simp only []; omega
      · simp only []; omega
      · rw [hstep]
        simp
      · rw [hstep]
        simp only [Nat.le_refl,ite_true,ite_false,and_true,qi0,qi1,qi2,qi3,qi4,qi5,qi6,qi7,qi8,qi9]
      · simp only []; omega
  · simp only [decide_eq_false_iff_not] at h1
    have hkl:k = l.length:=by omega
    subst hkl
    simp only [List.take_length]
    refine Zcw ?_
    try simp only [Za6,Zay,retQ,ite_true]
    refine Za9 (Zae [3] ?_)
    simp only [Zaa,Zah,Za5,pok,pval,VA.ev,Env.get,Env.put,Env.keep,Za6,List.map,Nat.reduceEqDiff,ite_true,ite_false,true_and]
    have hsort:=hS id n (Zc8 l) hn (by have:=kept_le l; omega)
    refine Zc2.mono hsort ?_
    rintro p h' ⟨ss,hp,hs,n',hn',rfl⟩
    have hm:(Zc8 l).length = ss.length:=hp.length_eq.symm
    rw [hm]
    have hss:ss.length ≤ 100000:=by have:=kept_le l; omega
    skip
    refine Za9 (Zae [3,6] ?_)
    simp only [Zaa,Zah,Za5,pok,pval,VA.ev,Env.get,Env.put,Env.keep,Za6,Nat.reduceEqDiff,ite_true,ite_false,true_and]
    refine Za9 ?_
    refine Za9 (Zae [3,6,35,36,37] ?_)
    simp only [Zaa,Zah,Za5,pok,pval,VA.ev,Env.get,Env.put,Env.keep,Za6,lenV,Zbq,Nat.succ_ne_self,Nat.reduceEqDiff,ite_true,ite_false,true_and]
    refine Zcb ?_
    refine Zcz (σ:={ s:Nat × List Sp × Nat × Nat // MS ss s.1 s.2.1 s.2.2.1 ∧ id < s.2.2.2 })
      (fun s=>([(3,.own id 0 ss.length),(6,pI s.1.2.2.1),(35,.own id 0 ss.length),(36,pI ss.length),(37,pI s.1.1)],⟨[(id,.arr false 2 (s.1.2.1.map Sp.enc))],s.1.2.2.2⟩)) (fun s=>ss.length - s.1.1) ⟨(0,ss,0,n'),MS.init ss,by simp only []; omega⟩ ?_ ?_ ?_
    · simp only [Env.get,Nat.succ_ne_self,Env.le,Nat.reduceEqDiff,ite_true,ite_false,true_and,and_true]
      exact ⟨rfl,rfl⟩
    · simp only [Heap.get,Heap.le,HL.get,HL.le,Nat.le_refl,ite_true,and_true]
    rintro ⟨⟨i,rows,m,n⟩,hM,hn⟩
    simp only [] at hM hn ⊢
    have qi0:(id = n) = False:=by simp; omega
    have qi1:(n = id) = False:=by simp; omega
    have qi2:∀ j,(n + j = id) = False:=fun j=>by simp; try omega
    have qi3:∀ j,(id = n + j) = False:=fun j=>by simp; try omega
    have qi4:∀ j,(n + (j + 1) = n) = False:=fun j=>by simp; try omega
    have qi5:∀ j,(n = n + (j + 1)) = False:=fun j=>by simp; try omega
    have qi6:(n + 1 + 1 = n) = False:=by simp; try omega
    have qi7:(n = n + 1 + 1) = False:=by simp; try omega
    have qi8:(n + 1 + 1 + 1 = n) = False:=by simp; try omega
    have qi9:(n = n + 1 + 1 + 1) = False:=by simp; try omega
    have hrl:=hM.len
    have hmi:=hM.le
    have hil:=hM.le2
    refine Za9 (Zae [3,6,35,36,37,38] ?_)
    simp only [Zaa,Zah,Za5,pok,pval,VA.ev,Env.get,Env.put,Env.keep,Za6,intV,binV,Zbk,Heap.get,Heap.le,HL.le,Nat.succ_ne_self,Env.le,Nat.reduceEqDiff,ite_true,ite_false,true_and,and_true]
    refine Za9 ?_
    refine Zb4 rfl (fun h3=>?_) (fun h3=>?_)
    · refine Zb8 ?_
      try simp only [Za6]
      simp only [decide_eq_true_eq] at h3
      have ia:i < ss.length:=by omega
      have hri:i < rows.length:=by omega
      have hgi:rows[i] = ss[i]:=by have:=hM.get ia; rw [List.getElem?_eq_getElem hri] at this; exact Option.some.inj this
      refine Za9 ?_
      refine Zcb ?_
      refine Za9 (Zae [3,6,8,35,36,37] ?_)
      simp only [Zaa,Zah,Za5,pok,pval,VA.ev,Env.get,Env.put,Env.keep,Za6,aggV,isInt,numOf,lenV,Zad,Zbm,Za1,Zak,PV.cells,PV.fits,overlay,PV.nth,PV.row,Heap.get,Heap.set,HL.get,HL.set,HL.del,Heap.push,Nat.le_refl,Nat.succ_ne_self,Zba,Zaq,List.set,List.length,List.getD_cons_zero,List.take,List.drop,List.take_succ_cons,List.drop_succ_cons,List.cons_append,List.nil_append,Nat.reduceEqDiff,Nat.reduceAdd,Nat.reduceLT,Bool.true_eq_false,ite_true,ite_false,true_and,and_true,BEq.rfl,Nat.zero_add,List.length_cons,imp_self,Int.toNat_natCast,List.length_map,rowm hri,hgi,Sp.enc,qi0,qi1,qi2,qi3,qi4,qi5,qi6,qi7,qi8,qi9]
      repeat (with_reducible refine And.intro ?_ ?_; first | omega | (with_reducible constructor <;> omega) | exact False.elim | exact True.intro)
      refine Za9 ?_
      have hsz:(rows.map Sp.enc).length = ss.length:=by simp [hrl]
      cases m with
      | zero =>
        refine Za9 (VW_drawS [3,6,8,35,36,37,53] (by simp [Heap.le,Heap.get,HL.le,HL.get,qi0,qi1]) ?_)
        simp only [Zac,Zau,Zaf,QW,dok,dval,VOp.pure,VOp.simple,VOp.det,pok,pval,VA.ev,Env.get,Env.put,Env.keep,Za6,gd,Zbn,isBool,intV,binV,Zbk,Nat.succ_ne_self,Nat.reduceEqDiff,Bool.false_eq_true,ite_true,ite_false,true_and,implies_true,Int.ofNat_zero,gt_iff_lt,Int.lt_irrefl,decide_false,decide_eq_true_eq,decide_eq_false_iff_not,qi0,qi1,qi2,qi3,qi4,qi5,qi6,qi7,qi8,qi9]
        refine Zb4 rfl (fun h4=>by cases h4) (fun h4=>?_)
        refine Zb8 ?_
        try simp only [Za6]
        refine Za9 (Zae [3,6,35,36,37] ?_)
        simp only [Zaa,Zah,Za5,pok,pval,VA.ev,Env.get,Env.put,Env.keep,Za6,aggV,isInt,numOf,lenV,Zad,Zbm,Za1,Zak,PV.cells,PV.fits,overlay,PV.nth,PV.row,Heap.get,Heap.set,HL.get,HL.set,HL.del,Nat.le_refl,Nat.succ_ne_self,Zba,Zaq,List.length,List.getD_cons_zero,List.take,List.drop,List.take_succ_cons,List.cons_append,List.nil_append,Nat.reduceEqDiff,Nat.reduceAdd,Nat.reduceLT,Bool.true_eq_false,ite_true,ite_false,true_and,and_true,BEq.rfl,Nat.zero_add,Nat.add_zero,List.length_cons,imp_self,Int.reduceToNat,rowm hri,qi0,qi1,qi2,qi3,qi4,qi5,qi6,qi7,qi8,qi9,Int.ofNat_zero,hsz]
        repeat (with_reducible refine And.intro ?_ ?_; first | omega | (with_reducible constructor <;> omega) | exact False.elim | exact True.intro)
        refine Zae [3,6,35,36,37] ?_
        simp only [Zaa,Zah,Za5,pok,pval,VA.ev,Env.get,Env.put,Env.keep,Za6,Zay,intV,binV,Zbk,Nat.succ_ne_self,Nat.reduceEqDiff,ite_true,ite_false,true_and,qi0,qi1,qi2,qi3,qi4,qi5,qi6,qi7,qi8,qi9]
        refine Zae [3,6,35,36,37] ?_
        simp only [Zaa,Zah,Za5,pok,pval,VA.ev,Env.get,Env.put,Env.keep,Za6,intV,binV,Zbk,HL.get,Nat.succ_ne_self,Nat.reduceEqDiff,ite_true,ite_false,true_and,Option.some.injEq,qi0,qi1,qi2,qi3,qi4,qi5,qi6,qi7,qi8,qi9,w64 (n:=(i:Int) + 1) (by omega) (by omega)]
        refine ⟨⟨(i + 1,rows.set 0 ss[i],1,n + 1),hM.push ia (fun m s e=>by cases e),by simp only []; omega⟩,?_,?_,?_⟩
        · exact ⟨rfl,rfl⟩
        · refine ⟨Nat.le_refl _,?_⟩
          have r0:0 < rows.length:=by omega
          simp [List.map_set,Sp.enc,r0]
        · simp only []; omega
      | succ m =>
        refine Za9 (VW_drawS [3,6,8,35,36,37,53] (by simp [Heap.le,Heap.get,HL.le,HL.get,qi0,qi1]) ?_)
        have e0:decide (((m + 1:Nat):Int) > 0) = true:=by simp
        have e1:(((m + 1:Nat):Int) - 1) = (m:Int):=by omega
        have hmr:m < rows.length:=by omega
        simp only [Zac,Zau,Zaw,QW,dok,dval,VOp.pure,VOp.simple,VOp.det,pok,pval,VA.ev,Env.get,Env.put,Env.keep,Za6,gd,Zbn,isBool,aggV,intV,binV,Zbk,isInt,numOf,lenV,Za4,Za3,Zad,Zbm,Za1,Zak,PV.nth,PV.row,Heap.get,HL.get,Nat.le_refl,Nat.succ_ne_self,List.length,List.getD_cons_zero,List.take,List.drop,List.take_succ_cons,List.drop_succ_cons,Nat.reduceEqDiff,Nat.reduceAdd,Nat.reduceLT,Nat.reduceLeDiff,Bool.false_eq_true,ite_true,ite_false,true_and,and_true,implies_true,forall_const,Nat.zero_add,Nat.add_zero,List.length_cons,Int.toNat_natCast,e0,e1,w64 (n:=(m:Int)) (by omega) (by omega),rowm hmr,Sp.enc,qi0,qi1,qi2,qi3,qi4,qi5,qi6,qi7,qi8,qi9]
        repeat (with_reducible refine And.intro ?_ ?_; first | omega | (with_reducible constructor <;> omega) | exact False.elim | exact True.intro)
        have hsm:rows[m]? = some rows[m]:=List.getElem?_eq_getElem hmr
        refine Zb4 rfl (fun h4=>?_) (fun h4=>?_)
        · simp only [decide_eq_true_eq] at h4
          refine Za9 (VW_draw2H [3,6,35,36,37] (by simp [Heap.le,Heap.get,HL.le,HL.get,qi0,qi1]) ?_)
          simp only [Za5,Zbo,VOp.isIaddr,QW,dok,dval,VOp.pure,VOp.simple,VOp.det,pok,pval,VA.ev,Env.get,Env.put,Env.keep,Za6,gd,aggV,intV,binV,Zbk,isInt,numOf,lenV,Za4,Za3,Zad,Zbm,Za1,Zak,mmV,PV.cells,PV.fits,overlay,PV.nth,PV.row,Heap.get,Heap.set,HL.get,HL.set,HL.del,Nat.le_refl,Nat.succ_ne_self,Zba,Zaq,List.length,List.getD_cons_zero,List.getD_cons_succ,List.take,List.drop,List.take_succ_cons,List.drop_succ_cons,List.cons_append,List.nil_append,Nat.reduceEqDiff,Nat.reduceAdd,Nat.reduceLT,Bool.false_eq_true,ite_true,ite_false,true_and,and_true,implies_true,forall_const,BEq.rfl,Nat.zero_add,List.length_cons,Int.toNat_natCast,e1,w64 (n:=(m:Int)) (by omega) (by omega),rowm hmr,Sp.enc,hsz,qi0,qi1,qi2,qi3,qi4,qi5,qi6,qi7,qi8,qi9]
          repeat (with_reducible refine And.intro ?_ ?_; first | omega | (with_reducible constructor <;> omega) | exact False.elim | exact True.intro)
          refine Zcw ?_
          try simp only [Za6,Zay,retQ,Nat.succ_ne_self,ite_true,ite_false]
          refine Zae [3,6,35,36,37] ?_
          simp only [Zaa,Zah,Za5,pok,pval,VA.ev,Env.get,Env.put,Env.keep,Za6,intV,binV,Zbk,HL.get,Nat.succ_ne_self,Nat.reduceEqDiff,ite_true,ite_false,true_and,Option.some.injEq,qi0,qi1,qi2,qi3,qi4,qi5,qi6,qi7,qi8,qi9,w64 (n:=(i:Int) + 1) (by omega) (by omega)]
          refine ⟨⟨(i + 1,rows.set m ⟨rows[m].frm,if rows[m].to < ss[i].to then ss[i].to else rows[m].to⟩,m + 1,n + 1),hM.join ia _ hsm h4,by simp only []; omega⟩,?_,?_,?_⟩
          · exact ⟨rfl,rfl⟩
          · refine ⟨Nat.le_refl _,?_⟩
            simp [List.map_set,Sp.enc]
          · simp only []; omega
        · refine Zb8 ?_
          try simp only [Za6]
          simp only [decide_eq_false_iff_not] at h4
          refine Za9 (Zae [3,6,35,36,37] ?_)
          have hmr1:m + 1 < rows.length:=by omega
          simp only [Zaa,Zah,Za5,pok,pval,VA.ev,Env.get,Env.put,Env.keep,Za6,aggV,isInt,numOf,lenV,Zad,Zbm,Za1,Zak,PV.cells,PV.fits,overlay,PV.nth,PV.row,Heap.get,Heap.set,HL.get,HL.set,HL.del,Nat.le_refl,Nat.succ_ne_self,Zba,Zaq,List.length,List.getD_cons_zero,List.take,List.drop,List.take_succ_cons,List.cons_append,List.nil_append,Nat.reduceEqDiff,Nat.reduceAdd,Nat.reduceLT,Bool.true_eq_false,ite_true,ite_false,true_and,and_true,BEq.rfl,Nat.zero_add,List.length_cons,imp_self,Int.toNat_natCast,rowm hmr1,qi0,qi1,qi2,qi3,qi4,qi5,qi6,qi7,qi8,qi9,hsz]
          repeat (with_reducible refine And.intro ?_ ?_; first | omega | (with_reducible constructor <;> omega) | exact False.elim | exact True.intro)
          refine Zae [3,6,35,36,37] ?_
          simp only [Zaa,Zah,Za5,pok,pval,VA.ev,Env.get,Env.put,Env.keep,Za6,Zay,intV,binV,Zbk,Nat.succ_ne_self,Nat.reduceEqDiff,ite_true,ite_false,true_and,qi0,qi1,qi2,qi3,qi4,qi5,qi6,qi7,qi8,qi9,w64 (n:=((m + 1:Nat):Int) + 1) (by omega) (by omega)]
          refine Zae [3,6,35,36,37] ?_
          simp only [Zaa,Zah,Za5,pok,pval,VA.ev,Env.get,Env.put,Env.keep,Za6,intV,binV,Zbk,HL.get,Nat.succ_ne_self,Nat.reduceEqDiff,ite_true,ite_false,true_and,Option.some.injEq,qi0,qi1,qi2,qi3,qi4,qi5,qi6,qi7,qi8,qi9,w64 (n:=(i:Int) + 1) (by omega) (by omega)]
          refine ⟨⟨(i + 1,rows.set (m + 1) ss[i],m + 1 + 1,n + 1),hM.push ia (fun k s e es=>by cases e; rw [hsm] at es; cases es; exact h4),by simp only []; omega⟩,?_,?_,?_⟩
          · exact ⟨rfl,rfl⟩
          · refine ⟨Nat.le_refl _,?_⟩
            simp [List.map_set,Sp.enc]
          · simp only []; omega
    · simp only [decide_eq_false_iff_not] at h3
      have hie:i = ss.length:=by omega
      subst hie
      refine Zcw ?_
      try simp only [Za6,Zay,retQ,ite_true]
      refine Za9 (Zae [2] ?_)
      have hsz:(rows.map Sp.enc).length = ss.length:=by simp [hrl]
      simp only [Zaa,Zah,Za5,pok,pval,VA.ev,Env.get,Env.put,Env.keep,Za6,numOf,loV,hiV,lenV,Zar,Zbf,Zat,Heap.get,HL.get,Nat.succ_ne_self,Option.map,Nat.reduceEqDiff,ite_true,ite_false,true_and,and_true,Nat.add_zero,Int.toNat_natCast,hsz,qi0,qi1,qi2,qi3,qi4,qi5,qi6,qi7,qi8,qi9]
      repeat (with_reducible refine And.intro ?_ ?_; first | omega | (with_reducible constructor <;> omega) | exact False.elim | exact True.intro)
      refine Zca ?_
      try simp only [Env.get,retQ,resV,Zbl,RS.ev,RS.ok,ite_true,true_and,and_true]
      have hv:=View.own (h:=⟨[(id,.arr false 2 (rows.map Sp.enc))],n⟩) (id:=id) (off:=0) (len:=m) (z:=2) (fz:=false) (es:=rows.map Sp.enc) (by simp [Heap.get,HL.get]) (by simp [hrl]; omega)
      have e1:List.take m (List.drop 0 (rows.map Sp.enc)) = (Zci l).map Sp.enc:=by
        rw [List.drop_zero,← List.map_take,hM.fin,norm_of_sorted hp hs]
      rw [e1] at hv
      exact hv
end Go.Proofs.YthkbdabfjfffjaaGreatDoor.w
