import Derived.Test.YthkbdabfjfffjaaGreatDoorVmE
set_option linter.all false
namespace Go.VM
open Go
theorem HL.get_append (l m:List (Nat × AB)) (t:Nat):HL.get (l ++ m) t = match HL.get l t with | some x=>some x | none=>HL.get m t:=by
  induction l with
  | nil=>rfl
  | cons x r ih =>
    obtain ⟨k,v⟩:=x
    simp only [List.cons_append,HL.get]
    split
    · rfl
    · exact ih
theorem HL.get_app_l {l m:List (Nat × AB)} {t:Nat} {x:AB} (h:HL.get l t = some x):HL.get (l ++ m) t = some x:=by rw [HL.get_append,h]
theorem HL.get_app_r {l m:List (Nat × AB)} {t:Nat} (h:HL.get l t = none):HL.get (l ++ m) t = HL.get m t:=by rw [HL.get_append,h]
structure Beside (l1 l2 : List (Nat × AB)) : Prop where
  apart : ∀ id ab, HL.get l2 id = some ab → HL.get l1 id = none
  cells : ∀ id fz z, HL.get l2 id ≠ some (.arr fz z [])
theorem frame_rel {g g' : Gh} {w w' : World} {l1 l2 : List (Nat × AB)} {t : Nat} {h' : Heap} (hb : Beside l1 l2) (r : Rel g w ⟨l1 ++ l2, t⟩) (r' : Rel g' w' h') (ev : Evo g w ⟨l1, t⟩ g' w' h')
    (ht:t ≤ h'.top) (hn:∀ id,(HL.get l2 id).isSome = true → h'.get id = none) (hl:∀ id ab,h'.get id = some ab → ab.live = true) :
    Rel g' w' ⟨h'.l ++ l2,h'.top⟩ ∧ Evo g w ⟨l1 ++ l2,t⟩ g' w' ⟨h'.l ++ l2,h'.top⟩:=by
  have hsub:∀ b,Owned g ⟨l1,t⟩ b → Owned g ⟨l1 ++ l2,t⟩ b:=fun b ⟨id,ab,x,e,k⟩=>⟨id,ab,x,HL.get_app_l e,k⟩
  have old:∀ id ab,HL.get l2 id = some ab → ∃ b o n z,g.β id = some (b,o,n,z) ∧ b < w.heap.size ∧ (ab.live = true → g.free b) ∧ ab.ok g w b o n z ∧ ¬ Owned g ⟨l1,t⟩ b:=by
    intro id ab e
    have e1:(⟨l1 ++ l2,t⟩:Heap).get id = some ab:=by
      show HL.get (l1 ++ l2) id = some ab
      rw [HL.get_app_r (hb.apart id ab e)]; exact e
    rcases r.blk id ab e1 with ⟨_,fz,z,h2⟩ | ⟨b,o,n,z,k1,k2,k3,k4⟩
    · subst h2; exact absurd e (hb.cells id fz z)
    · refine ⟨b,o,n,z,k1,k2,k3,k4,?_⟩
      rintro ⟨id2,ab2,x2,f1,f2,f3,f4⟩
      have hne:id2 ≠ id:=by
        intro h; subst h
        have:=hb.apart _ _ e
        simp only [Heap.get] at f1
        rw [this] at f1; cases f1
      exact r.apart id2 id x2 _ ab2 ab hne (HL.get_app_l f1) e1 (by simp [f2]) f3 k1 f4
  have get2:∀ id ab,(⟨h'.l ++ l2,h'.top⟩:Heap).get id = some ab → h'.get id = some ab ∨ (h'.get id = none ∧ HL.get l2 id = some ab):=by
    intro id ab e
    have e':HL.get (h'.l ++ l2) id = some ab:=e
    rw [HL.get_append] at e'
    cases hh:HL.get h'.l id with
    | some x=>rw [hh] at e'; left; simp only [Heap.get,hh]; exact e'
    | none=>rw [hh] at e'; right; exact ⟨hh,e'⟩
  refine ⟨⟨r'.mem,r'.mmem,fun id hid=>⟨(r'.fin id hid).1,?_⟩,fun id ab e=>?_,fun id id2 x x2 ab ab2 hne e e2 hlv hx hx2=>?_⟩,⟨ev.le,ev.os,ev.tape,ev.output,ev.size,fun b hb' hno=>ev.block b hb' (fun ho=>hno (hsub b ho)),fun b o v e=>(ev.mem b o v e).imp id (Or.imp id (hsub b)),fun b e he=>(ev.mmem b e he).imp id (Or.imp id (hsub b)),fun b ho=>?_⟩⟩
  · show HL.get (h'.l ++ l2) id = none
    have e1:HL.get h'.l id = none:=(r'.fin id hid).2
    rw [HL.get_app_r e1]
    cases e2:HL.get l2 id with
    | none=>rfl
    | some ab =>
      have e3:HL.get (l1 ++ l2) id = none:=(r.fin id (Nat.le_trans ht hid)).2
      rw [HL.get_app_r (hb.apart id ab e2),e2] at e3; cases e3
  · rcases get2 id ab e with e1 | ⟨_,e1⟩
    · exact r'.blk id ab e1
    · obtain ⟨b,o,n,z,k1,k2,k3,k4,k5⟩:=old id ab e1
      right
      refine ⟨b,o,n,z,ev.le.2.1 _ _ k1,Nat.lt_of_lt_of_le k2 ev.size,fun hlv=>⟨fun x=>?_,?_⟩,AB.ok_move k4 ev.le (ev.block b k2 k5)⟩
      · cases hm:g'.m b x with
        | none=>rfl
        | some v =>
          rcases ev.mem b x v hm with h1 | h1 | h1
          · rw [(k3 hlv).1 x] at h1; cases h1
          · omega
          · exact absurd h1 k5
      · cases hm:g'.m.mm b with
        | none=>rfl
        | some v =>
          rcases ev.mmem b v hm with h1 | h1 | h1
          · rw [(k3 hlv).2] at h1; cases h1
          · omega
          · exact absurd h1 k5
  · rcases get2 id ab e with e1 | ⟨n1,e1⟩ <;> rcases get2 id2 ab2 e2 with f1 | ⟨m1,f1⟩
    · exact r'.apart id id2 x x2 ab ab2 hne e1 f1 hlv hx hx2
    · obtain ⟨b,o,n,z,k1,k2,k3,k4,k5⟩:=old id2 ab2 f1
      have:=ev.le.2.1 _ _ k1
      rw [hx2] at this; cases this
      intro he
      rcases ev.own x.1 ⟨id,ab,x,e1,hl id ab e1,hx,rfl⟩ with h1 | h1
      · rw [he] at h1; exact k5 h1
      · rw [he] at h1; simp only at h1; omega
    · obtain ⟨b,o,n,z,k1,k2,k3,k4,k5⟩:=old id ab e1
      have:=ev.le.2.1 _ _ k1
      rw [hx] at this; cases this
      intro he
      rcases ev.own x2.1 ⟨id2,ab2,x2,f1,hl id2 ab2 f1,hx2,rfl⟩ with h1 | h1
      · rw [← he] at h1; exact k5 h1
      · rw [← he] at h1; simp only at h1; omega
    · obtain ⟨b,o,n,z,k1,k2,k3,k4,k5⟩:=old id ab e1
      obtain ⟨b2,o2,n2,z2,j1,j2,j3,j4,j5⟩:=old id2 ab2 f1
      have h1:=ev.le.2.1 _ _ k1
      rw [hx] at h1; cases h1
      have h2:=ev.le.2.1 _ _ j1
      rw [hx2] at h2; cases h2
      have e3:(⟨l1 ++ l2,t⟩:Heap).get id = some ab:=by show HL.get (l1 ++ l2) id = some ab; rw [HL.get_app_r (hb.apart id ab e1)]; exact e1
      have e4:(⟨l1 ++ l2,t⟩:Heap).get id2 = some ab2:=by show HL.get (l1 ++ l2) id2 = some ab2; rw [HL.get_app_r (hb.apart id2 ab2 f1)]; exact f1
      exact r.apart id id2 _ _ ab ab2 hne e3 e4 hlv k1 j1
  · obtain ⟨id,ab,x,e,hlv,hx,rfl⟩:=ho
    rcases get2 id ab e with e1 | ⟨n1,e1⟩
    · exact (ev.own x.1 ⟨id,ab,x,e1,hlv,hx,rfl⟩).imp (hsub _) (fun h=>h)
    · obtain ⟨b,o,n,z,k1,k2,k3,k4,k5⟩:=old id ab e1
      have h1:=ev.le.2.1 _ _ k1
      rw [hx] at h1; cases h1
      left
      refine ⟨id,ab,_,?_,hlv,k1,rfl⟩
      show HL.get (l1 ++ l2) id = some ab
      rw [HL.get_app_r (hb.apart id ab e1)]; exact e1
theorem Zc2.frame {P : Program} {f : FuncId} {args : List PV} {K : PV → Heap → Prop} {l1 l2 : List (Nat × AB)} {t : Nat} (hb : Beside l1 l2)
    (H:Zc2 P f args ⟨l1,t⟩ (fun p h'=>t ≤ h'.top ∧ (∀ id,(HL.get l2 id).isSome = true → h'.get id = none) ∧ (∀ id ab,h'.get id = some ab → ab.live = true) ∧ K p ⟨h'.l ++ l2,h'.top⟩)):Zc2 P f args ⟨l1 ++ l2,t⟩ K:=by
  refine ⟨H.1,fun g w vals r ha=>?_⟩
  have r1 : Rel g w ⟨l1, t⟩ := ⟨r.mem, r.mmem, fun id hid => ⟨(r.fin id hid).1, by
      have:=(r.fin id hid).2
      cases e:HL.get l1 id with
      | none=>exact e
      | some ab=>simp only [Heap.get,HL.get_app_l e] at this; cases this⟩,
    fun id ab e=>r.blk id ab (HL.get_app_l e),fun id id' x x' ab ab' hne e e'=>r.apart id id' x x' ab ab' hne (HL.get_app_l e) (HL.get_app_l e')⟩
  refine (H.2 g w vals r1 ha).mono ?_
  rintro x w' ⟨v,p,g',h',h1,⟨k1,k2,k3,k4⟩,h3,h4,h5⟩
  obtain ⟨R,E⟩:=frame_rel hb r h4 h5 k1 k2 k3
  exact ⟨v,p,g',_,h1,k4,h3,R,E⟩
end Go.VM
namespace Go.VM
open Go
theorem Gz.closed (a:Gz):∀ x ∈ a.enc,Closed x:=by
  intro x hx; simp only [Gz.enc,List.mem_cons,List.not_mem_nil,or_false] at hx
  rcases hx with rfl | rfl | rfl | rfl
  all_goals first | exact cI _ | exact cS _ | exact closed_acs _
theorem closed_gzs (l:List Gz):Closed (.sl 4 (l.map Gz.enc)):=Zcp (fun w _=>w.closed)
end Go.VM
