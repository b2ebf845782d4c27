import Derived.Test.YtjmekckcffckoabGreatDoorVmS
set_option linter.all false
namespace Go.VM
open Go
theorem HL.get_append (l m:List (Nat × AB)) (t:Nat):HL.get (l ++ m) t = match HL.get l t with | some x=>some x | none=>HL.get m t:=by
  induction l with
  | nil=>rfl
  | cons x r ih =>
    obtain ⟨k,v⟩:=x
    simp only [List.cons_append,HL.get]
    split
    · rfl
    · exact ih
theorem HL.get_app_l {l m:List (Nat × AB)} {t:Nat} {x:AB} (h:HL.get l t = some x):HL.get (l ++ m) t = some x:=by rw [HL.get_append,h]
theorem HL.get_app_r {l m:List (Nat × AB)} {t:Nat} (h:HL.get l t = none):HL.get (l ++ m) t = HL.get m t:=by rw [HL.get_append,h]
structure Beside (l1 l2 : List (Nat × AB)) : Prop where
  apart : ∀ id ab, HL.get l2 id = some ab → HL.get l1 id = none
  cells : ∀ id fz z, HL.get l2 id ≠ some (.arr fz z [])
theorem frame_rel {g g' : Gh} {w w' : World} {l1 l2 : List (Nat × AB)} {t : Nat} {h' : Heap} (hb : Beside l1 l2) (r : Rel g w ⟨l1 ++ l2, t⟩) (r' : Rel g' w' h') (ev : Evo g w ⟨l1, t⟩ g' w' h')
    (ht:t ≤ h'.top) (hn:∀ id,(HL.get l2 id).isSome = true → h'.get id = none) (hl:∀ id ab,h'.get id = some ab → ab.live = true) :
    Rel g' w' ⟨h'.l ++ l2,h'.top⟩ ∧ Evo g w ⟨l1 ++ l2,t⟩ g' w' ⟨h'.l ++ l2,h'.top⟩:=by
  have hsub:∀ b,Owned g ⟨l1,t⟩ b → Owned g ⟨l1 ++ l2,t⟩ b:=fun b ⟨id,ab,x,e,k⟩=>⟨id,ab,x,HL.get_app_l e,k⟩
  have old:∀ id ab,HL.get l2 id = some ab → ∃ b o n z,g.β id = some (b,o,n,z) ∧ b < w.heap.size ∧ (ab.live = true → g.free b) ∧ ab.ok g w b o n z ∧ ¬ Owned g ⟨l1,t⟩ b:=by
    intro id ab e
    have e1:(⟨l1 ++ l2,t⟩:Heap).get id = some ab:=by
      show HL.get (l1 ++ l2) id = some ab
      rw [HL.get_app_r (hb.apart id ab e)]; exact e
    rcases r.blk id ab e1 with ⟨_,fz,z,h2⟩ | ⟨b,o,n,z,k1,k2,k3,k4⟩
    · subst h2; exact absurd e (hb.cells id fz z)
    · refine ⟨b,o,n,z,k1,k2,k3,k4,?_⟩
      rintro ⟨id2,ab2,x2,f1,f2,f3,f4⟩
      have hne:id2 ≠ id:=by
        intro h; subst h
        have:=hb.apart _ _ e
        simp only [Heap.get] at f1
        rw [this] at f1; cases f1
      exact r.apart id2 id x2 _ ab2 ab hne (HL.get_app_l f1) e1 (by simp [f2]) f3 k1 f4
  have get2:∀ id ab,(⟨h'.l ++ l2,h'.top⟩:Heap).get id = some ab → h'.get id = some ab ∨ (h'.get id = none ∧ HL.get l2 id = some ab):=by
    intro id ab e
    have e':HL.get (h'.l ++ l2) id = some ab:=e
    rw [HL.get_append] at e'
    cases hh:HL.get h'.l id with
    | some x=>rw [hh] at e'; left; simp only [Heap.get,hh]; exact e'
    | none=>rw [hh] at e'; right; exact ⟨hh,e'⟩
  refine ⟨⟨r'.mem,r'.mmem,fun id hid=>⟨(r'.fin id hid).1,?_⟩,fun id ab e=>?_,fun id id2 x x2 ab ab2 hne e e2 hlv hx hx2=>?_⟩,⟨ev.le,ev.os,ev.tape,ev.output,ev.size,fun b hb' hno=>ev.block b hb' (fun ho=>hno (hsub b ho)),fun b o v e=>(ev.mem b o v e).imp id (Or.imp id (hsub b)),fun b e he=>(ev.mmem b e he).imp id (Or.imp id (hsub b)),fun b ho=>?_⟩⟩
  · show HL.get (h'.l ++ l2) id = none
    have e1:HL.get h'.l id = none:=(r'.fin id hid).2
    rw [HL.get_app_r e1]
    cases e2:HL.get l2 id with
    | none=>rfl
    | some ab =>
      have e3:HL.get (l1 ++ l2) id = none:=(r.fin id (Nat.le_trans ht hid)).2
      rw [HL.get_app_r (hb.apart id ab e2),e2] at e3; cases e3
  · rcases get2 id ab e with e1 | ⟨_,e1⟩
    · exact r'.blk id ab e1
    · obtain ⟨b,o,n,z,k1,k2,k3,k4,k5⟩:=old id ab e1
      right
      refine ⟨b,o,n,z,ev.le.2.1 _ _ k1,Nat.lt_of_lt_of_le k2 ev.size,fun hlv=>⟨fun x=>?_,?_⟩,AB.ok_move k4 ev.le (ev.block b k2 k5)⟩
      · cases hm:g'.m b x with
        | none=>rfl
        | some v =>
          rcases ev.mem b x v hm with h1 | h1 | h1
          · rw [(k3 hlv).1 x] at h1; cases h1
          · omega
          · exact absurd h1 k5
      · cases hm:g'.m.mm b with
        | none=>rfl
        | some v =>
          rcases ev.mmem b v hm with h1 | h1 | h1
          · rw [(k3 hlv).2] at h1; cases h1
          · omega
          · exact absurd h1 k5
  · rcases get2 id ab e with e1 | ⟨n1,e1⟩ <;> rcases get2 id2 ab2 e2 with f1 | ⟨m1,f1⟩
    · exact r'.apart id id2 x x2 ab ab2 hne e1 f1 hlv hx hx2
    · obtain ⟨b,o,n,z,k1,k2,k3,k4,k5⟩:=old id2 ab2 f1
      have:=ev.le.2.1 _ _ k1
      rw [hx2] at this; cases this
      intro he
      rcases ev.own x.1 ⟨id,ab,x,e1,hl id ab e1,hx,rfl⟩ with h1 | h1
      · rw [he] at h1; exact k5 h1
      · rw [he] at h1; simp only at h1; omega
    · obtain ⟨b,o,n,z,k1,k2,k3,k4,k5⟩:=old id ab e1
      have:=ev.le.2.1 _ _ k1
      rw [hx] at this; cases this
      intro he
      rcases ev.own x2.1 ⟨id2,ab2,x2,f1,hl id2 ab2 f1,hx2,rfl⟩ with h1 | h1
      · rw [← he] at h1; exact k5 h1
      · rw [← he] at h1; simp only at h1; omega
    · obtain ⟨b,o,n,z,k1,k2,k3,k4,k5⟩:=old id ab e1
      obtain ⟨b2,o2,n2,z2,j1,j2,j3,j4,j5⟩:=old id2 ab2 f1
      have h1:=ev.le.2.1 _ _ k1
      rw [hx] at h1; cases h1
      have h2:=ev.le.2.1 _ _ j1
      rw [hx2] at h2; cases h2
      have e3:(⟨l1 ++ l2,t⟩:Heap).get id = some ab:=by show HL.get (l1 ++ l2) id = some ab; rw [HL.get_app_r (hb.apart id ab e1)]; exact e1
      have e4:(⟨l1 ++ l2,t⟩:Heap).get id2 = some ab2:=by show HL.get (l1 ++ l2) id2 = some ab2; rw [HL.get_app_r (hb.apart id2 ab2 f1)]; exact f1
      exact r.apart id id2 _ _ ab ab2 hne e3 e4 hlv k1 j1
  · obtain ⟨id,ab,x,e,hlv,hx,rfl⟩:=ho
    rcases get2 id ab e with e1 | ⟨n1,e1⟩
    · exact (ev.own x.1 ⟨id,ab,x,e1,hlv,hx,rfl⟩).imp (hsub _) (fun h=>h)
    · obtain ⟨b,o,n,z,k1,k2,k3,k4,k5⟩:=old id ab e1
      have h1:=ev.le.2.1 _ _ k1
      rw [hx] at h1; cases h1
      left
      refine ⟨id,ab,_,?_,hlv,k1,rfl⟩
      show HL.get (l1 ++ l2) id = some ab
      rw [HL.get_app_r (hb.apart id ab e1)]; exact e1
theorem Zce.frame {P : Program} {f : FuncId} {args : List PV} {K : PV → Heap → Prop} {l1 l2 : List (Nat × AB)} {t : Nat} (hb : Beside l1 l2)
    (H:Zce P f args ⟨l1,t⟩ (fun p h'=>t ≤ h'.top ∧ (∀ id,(HL.get l2 id).isSome = true → h'.get id = none) ∧ (∀ id ab,h'.get id = some ab → ab.live = true) ∧ K p ⟨h'.l ++ l2,h'.top⟩)):Zce P f args ⟨l1 ++ l2,t⟩ K:=by
  refine ⟨H.1,fun g w vals r ha=>?_⟩
  have r1 : Rel g w ⟨l1, t⟩ := ⟨r.mem, r.mmem, fun id hid => ⟨(r.fin id hid).1, by
      have:=(r.fin id hid).2
      cases e:HL.get l1 id with
      | none=>exact e
      | some ab=>simp only [Heap.get,HL.get_app_l e] at this; cases this⟩,
    fun id ab e=>r.blk id ab (HL.get_app_l e),fun id id' x x' ab ab' hne e e'=>r.apart id id' x x' ab ab' hne (HL.get_app_l e) (HL.get_app_l e')⟩
  refine (H.2 g w vals r1 ha).mono ?_
  rintro x w' ⟨v,p,g',h',h1,⟨k1,k2,k3,k4⟩,h3,h4,h5⟩
  obtain ⟨R,E⟩:=frame_rel hb r h4 h5 k1 k2 k3
  exact ⟨v,p,g',_,h1,k4,h3,R,E⟩
theorem HL.get_mem:∀ {l:List (Nat × AB)} {id:Nat} {ab:AB},HL.get l id = some ab → (id,ab) ∈ l
  | [],_,_,h=>by simp [HL.get] at h
  | (k,v) :: r,id,ab,h=>by
    by_cases e:k = id
    · subst e; simp only [HL.get,if_true,Option.some.injEq] at h; subst h; exact List.mem_cons_self
    · simp only [HL.get,if_neg e] at h; exact List.mem_cons_of_mem _ (HL.get_mem h)
theorem HL.get_no:∀ {l:List (Nat × AB)} {id:Nat},(∀ q ∈ l,id ≠ q.1) → HL.get l id = none:=by
  intro l id h
  cases e:HL.get l id with
  | none=>rfl
  | some ab=>exact absurd rfl (h _ (HL.get_mem e))
theorem Zce.frameL {P : Program} {f : FuncId} {args : List PV} {K : PV → Heap → Prop} {l1 l2 : List (Nat × AB)} {t : Nat} (h1 : ∀ p ∈ l2, ∀ q ∈ l1, p.1 ≠ q.1) (hc : ∀ p ∈ l2, ∀ fz z, p.2 ≠ .arr fz z [])
    (H:Zce P f args ⟨l1,t⟩ (fun p h'=>t ≤ h'.top ∧ (∀ p ∈ l2,∀ q ∈ h'.l,p.1 ≠ q.1) ∧ (∀ q ∈ h'.l,q.2.live = true) ∧ K p ⟨h'.l ++ l2,h'.top⟩)):Zce P f args ⟨l1 ++ l2,t⟩ K:=by
  refine Zce.frame ⟨fun id ab e=>HL.get_no (h1 _ (HL.get_mem e)),fun id fz z e=>hc _ (HL.get_mem e) fz z rfl⟩ (H.mono ?_)
  rintro p h' ⟨k1,k2,k3,k4⟩
  refine ⟨k1,fun id hid=>?_,fun id ab e=>k3 _ (HL.get_mem e),k4⟩
  cases e:HL.get l2 id with
  | none=>rw [e] at hid; cases hid
  | some ab=>exact HL.get_no (k2 _ (HL.get_mem e))
end Go.VM
namespace Go.VM
open Go
def Off (L:List (Nat × AB)) (t:Nat):Prop:=∀ q ∈ L,q.1 ≠ t
theorem Off.get {L:List (Nat × AB)} {t:Nat} (h:Off L t):HL.get L t = none:=HL.get_no fun q hq e=>h q hq e.symm
theorem Off.del:∀ {L:List (Nat × AB)} {t:Nat},Off L t → HL.del L t = L
  | [],_,_=>rfl
  | (k,v) :: r,t,h=>by
    have hk:¬ k = t:=h (k,v) (by simp)
    simp only [HL.del,if_neg hk]
    rw [Off.del (L:=r) (t:=t) (fun q hq=>h q (by simp [hq]))]
theorem Off.lt {L:List (Nat × AB)} {t u:Nat} (h:∀ q ∈ L,q.1 < t) (hu:t ≤ u):Off L u:=fun q hq e=>by have:=h q hq; omega
def Nod (L:List (Nat × AB)):Prop:=(L.map (·.1)).Nodup
theorem HL.get_mem_nod:∀ {L:List (Nat × AB)},Nod L → ∀ {k:Nat} {v:AB},(k,v) ∈ L → HL.get L k = some v
  | [],_,_,_,h=>by cases h
  | (a,b) :: r,hn,k,v,h=>by
    unfold Nod at hn
    simp only [List.map_cons,List.nodup_cons] at hn
    rcases List.mem_cons.1 h with e | h
    · cases e; simp [HL.get]
    · have hne:¬ a = k:=fun e=>hn.1 (by rw [e]; exact List.mem_map.2 ⟨(k,v),h,rfl⟩)
      simp only [HL.get,if_neg hne]
      exact HL.get_mem_nod (L:=r) hn.2 h
theorem HL.le_all:∀ {L:List (Nat × AB)} {f:Nat → Option AB},(∀ k v,(k,v) ∈ L → f k = some v) → HL.le L f
  | [],_,_=>trivial
  | (a,b) :: r,f,h=>⟨h a b (by simp),HL.le_all fun k v hk=>h k v (by simp [hk])⟩
theorem HL.le_tail {pre L:List (Nat × AB)} (hn:Nod L) (ho:∀ p ∈ pre,Off L p.1) (t:Nat):HL.le L (Heap.get ⟨pre ++ L,t⟩):=by
  refine HL.le_all fun k v hk=>?_
  show HL.get (pre ++ L) k = some v
  rw [HL.get_app_r (HL.get_no fun q hq e=>ho q hq (k,v) hk e),HL.get_mem_nod hn hk]
theorem HL.le_tail1 {a:Nat} {x:AB} {L:List (Nat × AB)} (hn:Nod L) (h1:Off L a) (t:Nat):HL.le L (Heap.get ⟨(a,x) :: L,t⟩):=HL.le_tail (pre:=[(a,x)]) hn (by simpa using h1) t
theorem HL.le_tail2 {a b:Nat} {x y:AB} {L:List (Nat × AB)} (hn:Nod L) (h1:Off L a) (h2:Off L b) (t:Nat):HL.le L (Heap.get ⟨(a,x) :: (b,y) :: L,t⟩):=HL.le_tail (pre:=[(a,x),(b,y)]) hn (by simpa using ⟨h1,h2⟩) t
end Go.VM
