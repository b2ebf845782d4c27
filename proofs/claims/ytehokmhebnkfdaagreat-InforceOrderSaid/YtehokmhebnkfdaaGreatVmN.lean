import Derived.Test.YtehokmhebnkfdaaGreatVmS
set_option linter.all false
namespace Go.VM
open Go
theorem Rel.cell_own {g : Gh} {w : World} {h : Heap} (r : Rel g w h) (id z : Nat) (hg : h.get id = some (.arr false 1 [[.nilsl]])) :
    Rel g w ((h.set id (.arr false 1 [[.own h.top 0 0]])).push (.arr false z [])) ∧ Evo g w h g w ((h.set id (.arr false 1 [[.own h.top 0 0]])).push (.arr false z [])):=by
  have hid:id < h.top:=by
    rcases Nat.lt_or_ge id h.top with h1 | h1
    · exact h1
    · rw [(r.fin id h1).2] at hg; cases hg
  have ht:(h.set id (.arr false 1 [[.own h.top 0 0]])).top = h.top:=rfl
  have get1:∀ i,((h.set id (.arr false 1 [[.own h.top 0 0]])).push (.arr false z [])).get i = if h.top = i then some (.arr false z []) else if id = i then some (.arr false 1 [[.own h.top 0 0]]) else h.get i:=by
    intro i
    rw [Heap.get_push,Heap.get_set,hg,ht]; rfl
  have old:∀ i ab,h.top ≠ i → ((h.set id (.arr false 1 [[.own h.top 0 0]])).push (.arr false z [])).get i = some ab → ∃ ab0,h.get i = some ab0 ∧ ab0.live = ab.live:=by
    intro i ab hi e
    rw [get1,if_neg hi] at e
    by_cases h2:id = i
    · subst h2; rw [if_pos rfl] at e; cases e; exact ⟨_,hg,rfl⟩
    · rw [if_neg h2] at e; exact ⟨ab,e,rfl⟩
  have bt:=(r.fin h.top (Nat.le_refl _)).1
  refine ⟨⟨r.mem,r.mmem,fun i hi=>?_,fun i ab e=>?_,fun i j x y ab ab' hne e e' hl hx hy=>?_⟩,⟨g.le_refl,rfl,rfl,rfl,Nat.le_refl _,fun _ _ _=>rfl,fun _ _ _ e=>.inl e,fun _ _ e=>.inl e,fun b ⟨i,ab,x,e,hl,hx,hb⟩=>?_⟩⟩
  · have hi':h.top + 1 ≤ i:=hi
    refine ⟨(r.fin i (by omega)).1,?_⟩
    rw [get1,if_neg (by omega),if_neg (by omega)]
    exact (r.fin i (by omega)).2
  · rw [get1] at e
    by_cases h1:h.top = i
    · subst h1; rw [if_pos rfl] at e; cases e; exact .inl ⟨bt,_,_,rfl⟩
    · rw [if_neg h1] at e
      by_cases h2:id = i
      · subst h2; rw [if_pos rfl] at e; cases e
        rcases r.blk id _ hg with ⟨_,fz,z',h3⟩ | ⟨b,o,n,z',k1,k2,k3,k4⟩
        · cases h3
        · refine .inr ⟨b,o,n,z',k1,k2,k3,?_⟩
          obtain ⟨q1,q2,q3,c,ee,q4,q5,q6⟩:=k4
          refine ⟨q1,fun i hi=>?_,q3,c,ee,q4,q5,fun i j hi hj=>?_⟩
          · have:=q2 i hi
            obtain rfl:i = 0:=by simp at hi; omega
            simpa [PV.row] using this
          · obtain rfl:i = 0:=by simp at hi; omega
            have hj':j = 0:=by omega
            subst hj'
            obtain ⟨m1,m2,m3⟩:=q6 0 0 (by simp) hj
            refine ⟨m1,?_,m3⟩
            simp only [PV.row,List.getD_cons_zero,PV.nth] at m2 ⊢
            generalize c.getD (o + 0 * z' + 0) Go.undef = v at m2
            cases m2
            exact .ownE _ _ _
      · rw [if_neg h2] at e; exact r.blk i ab e
  · by_cases h1:h.top = i
    · subst h1; rw [bt] at hx; cases hx
    by_cases h2:h.top = j
    · subst h2; rw [bt] at hy; cases hy
    obtain ⟨a0,f1,f2⟩:=old i ab h1 e
    obtain ⟨a1,f3,f4⟩:=old j ab' h2 e'
    exact r.apart i j x y a0 a1 hne f1 f3 (by rw [f2,f4]; exact hl) hx hy
  · by_cases h1:h.top = i
    · subst h1; rw [bt] at hx; cases hx
    obtain ⟨a0,f1,f2⟩:=old i ab h1 e
    exact .inl ⟨i,a0,x,f1,by rw [f2]; exact hl,hx,hb⟩
theorem VW_own0c {P:Program} {N:Nat} {Q:Exit → Env → Heap → Prop} {e:Env} {h:Heap} {c:VC} (id z:Nat) (hg:h.get id = some (.arr false 1 [[.nilsl]])) (H:VW P N c Q e ((h.set id (.arr false 1 [[.own h.top 0 0]])).push (.arr false z []))):VW P N c Q e h:=by
  intro x hx g w a r hr hd hs
  obtain ⟨r1,r2⟩:=r.cell_own id z hg
  refine wp_mono (H x hx g w a r1 hr hd hs) fun ex a' w' ⟨g',e',h',k1,k2,k3,k4,k5,k6⟩=>⟨g',e',h',k1,k2,k3,k4,k5,r2.trans k6⟩
theorem Gz.closed (a:Gz):∀ x ∈ a.enc,Closed x:=by
  intro x hx; simp only [Gz.enc,List.mem_cons,List.not_mem_nil,or_false] at hx
  rcases hx with rfl | rfl | rfl | rfl
  all_goals first | exact cI _ | exact cS _ | exact Zcq _
theorem Zbp (l:List Gz):Closed (.sl 4 (l.map Gz.enc)):=Zbm (fun w _=>w.closed)
end Go.VM
