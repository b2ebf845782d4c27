import Derived.Test.YtcgdjembdjdlhaaGreatDoorVmZ
set_option linter.all false
namespace Go.VM
open Go
section
variable {P : Program} {N : FK} {Q : Exit → Env → Heap → Prop} {e : Env} {h : Heap}
theorem Zb7 {c:VC} {l1 l2:List (Nat×AB)} {t:Nat} (e':Env) (hh:Heap.le ⟨l1++l2,t⟩ h) (h1:∀ p∈l2,∀ q∈l1,p.1≠q.1) (hc:∀ p∈l2,∀ fz z,p.2≠.arr fz z []) (hv:EView ⟨l1,t⟩ e e') (H:VW P N c Q e' ⟨l2,t⟩):VW P N c Q e h:=by
 intro x hx g w a r hr hd hs;have r0:=r.weaken hh;have hb:Beside l1 l2:=⟨fun id ab e=>HL.get_no (h1 _ (HL.get_mem e)),fun id fz z e=>hc _ (HL.get_mem e) fz z rfl⟩;have r1 : Rel g w ⟨l1, t⟩ := ⟨r0.mem, r0.mmem, fun id hid => ⟨(r0.fin id hid).1, by
   have:=(r0.fin id hid).2;cases e:HL.get l1 id with
   | none=>exact e
   | some ab=>simp only [Heap.get,HL.get_app_l e] at this;cases this⟩,
  fun id ab e=>r0.blk id ab (HL.get_app_l e),fun id id' x x' ab ab' hne e e'=>r0.apart id id' x x' ab ab' hne (HL.get_app_l e) (HL.get_app_l e')⟩
 obtain ⟨R,E⟩:=frame_rel hb r0 (frz_rel r1) (frz_evo (h:=⟨l1,t⟩)) (Nat.le_refl t) (fun _ _=>rfl) (fun id ab e=>by simp [Heap.get,HL.get] at e);refine wpIn_mono (H x hx (frz g w ⟨l1,t⟩) w a R (hv.rep r1 hr) hd hs) fun ex a' w' ⟨g',e1,h',k1,k2,k3,k4,k5,k6⟩=>⟨g',e1,h',k1,k2,k3,k4,k5,(E.weakenL hh).trans k6⟩
theorem Rel.fld_own {g : Gh} {w : World} {h : Heap} (r : Rel g w h) (id z n j : Nat) (row : List PV) (hg : h.get id = some (.arr false n [row])) (hj : PV.nth row j = .nilsl) :
  Rel g w ((h.set id (.arr false n [row.set j (.own h.top 0 0)])).push (.arr false z []))∧Evo g w h g w ((h.set id (.arr false n [row.set j (.own h.top 0 0)])).push (.arr false z [])):=by
 have hid:id<h.top:=by
  rcases Nat.lt_or_ge id h.top with h1|h1
  ·exact h1
  ·rw [(r.fin id h1).2] at hg;cases hg
 have ht:(h.set id (.arr false n [row.set j (.own h.top 0 0)])).top=h.top:=rfl;have get1:∀ i,((h.set id (.arr false n [row.set j (.own h.top 0 0)])).push (.arr false z [])).get i=if h.top=i then some (.arr false z []) else if id=i then some (.arr false n [row.set j (.own h.top 0 0)]) else h.get i:=by
  intro i;rw [Heap.get_push,Heap.get_set,hg,ht];rfl
 have old:∀ i ab,h.top≠i→((h.set id (.arr false n [row.set j (.own h.top 0 0)])).push (.arr false z [])).get i=some ab→∃ ab0,h.get i=some ab0∧ab0.live=ab.live:=by
  intro i ab hi e;rw [get1,if_neg hi] at e;by_cases h2:id=i
  ·subst h2;rw [if_pos rfl] at e;cases e;exact ⟨_,hg,rfl⟩
  ·rw [if_neg h2] at e;exact ⟨ab,e,rfl⟩
 have bt:=(r.fin h.top (Nat.le_refl _)).1;refine ⟨⟨r.mem,r.mmem,fun i hi=>?_,fun i ab e=>?_,fun i j x y ab ab' hne e e' hl hx hy=>?_⟩,⟨g.le_refl,rfl,rfl,rfl,Nat.le_refl _,fun _ _ _=>rfl,fun _ _ _ e=>.inl e,fun _ _ e=>.inl e,fun b ⟨i,ab,x,e,hl,hx,hb⟩=>?_⟩⟩
 ·have hi':h.top+1≤i:=hi;refine ⟨(r.fin i (by omega)).1,?_⟩;rw [get1,if_neg (by omega),if_neg (by omega)];exact (r.fin i (by omega)).2
 ·rw [get1] at e;by_cases h1:h.top=i
  ·subst h1;rw [if_pos rfl] at e;cases e;exact .inl ⟨bt,_,_,rfl⟩
  ·rw [if_neg h1] at e;by_cases h2:id=i
   ·subst h2;rw [if_pos rfl] at e;cases e;rcases r.blk id _ hg with ⟨_,fz,z',h3⟩|⟨b,o,n2,z',k1,k2,k3,k4⟩
    ·cases h3
    ·refine .inr ⟨b,o,n2,z',k1,k2,k3,?_⟩;obtain ⟨q1,q2,q3,c,ee,q4,q5,q6⟩:=k4;refine ⟨q1,fun i hi=>?_,q3,c,ee,q4,q5,fun i k hi hk=>?_⟩
     ·have:=q2 i hi;obtain rfl:i=0:=by simp at hi;omega
      simpa [PV.row] using this
     ·obtain rfl:i=0:=by simp at hi;omega
      obtain ⟨m1,m2,m3⟩:=q6 0 k (by simp) hk;refine ⟨m1,?_,m3⟩;simp only [PV.row,List.getD_cons_zero] at m2 ⊢;by_cases hkj:j=k
      ·subst hkj;rw [hj] at m2;have hjl:j<row.length:=by
        rcases Nat.lt_or_ge j row.length with h5|h5
        ·exact h5
        ·unfold PV.nth at hj;rw [List.getD_eq_getElem?_getD,List.getElem?_eq_none h5] at hj;cases hj
       have e5:PV.nth (row.set j (.own h.top 0 0)) j=.own h.top 0 0:=by
        unfold PV.nth;rw [List.getD_eq_getElem?_getD,List.getElem?_set_self hjl];rfl
       rw [e5];generalize c.getD (o+0*z'+j) Go.undef=v at m2;cases m2;exact .ownE _ _ _
      ·have e5 : PV.nth (row.set j (.own h.top 0 0)) k = PV.nth row k := by
        unfold PV.nth;rw [List.getD_eq_getElem?_getD,List.getElem?_set_ne hkj,← List.getD_eq_getElem?_getD]
       rw [e5];exact m2
   ·rw [if_neg h2] at e;exact r.blk i ab e
 ·by_cases h1:h.top=i
  ·subst h1;rw [bt] at hx;cases hx
  by_cases h2:h.top=j
  ·subst h2;rw [bt] at hy;cases hy
  obtain ⟨a0,f1,f2⟩:=old i ab h1 e;obtain ⟨a1,f3,f4⟩:=old j ab' h2 e';exact r.apart i j x y a0 a1 hne f1 f3 (by rw [f2,f4];exact hl) hx hy
 ·by_cases h1:h.top=i
  ·subst h1;rw [bt] at hx;cases hx
  obtain ⟨a0,f1,f2⟩:=old i ab h1 e;exact .inl ⟨i,a0,x,f1,by rw [f2];exact hl,hx,hb⟩
theorem VW_own0f {c:VC} (id z n j:Nat) (row:List PV) (hg:h.get id=some (.arr false n [row])) (hj:PV.nth row j=.nilsl) (H:VW P N c Q e ((h.set id (.arr false n [row.set j (.own h.top 0 0)])).push (.arr false z []))):VW P N c Q e h:=by
 intro x hx g w a r hr hd hs;obtain ⟨r1,r2⟩:=r.fld_own id z n j row hg hj;refine wpIn_mono (H x hx g w a r1 hr hd hs) fun ex a' w' ⟨g',e',h',k1,k2,k3,k4,k5,k6⟩=>⟨g',e',h',k1,k2,k3,k4,k5,r2.trans k6⟩
end
end Go.VM
