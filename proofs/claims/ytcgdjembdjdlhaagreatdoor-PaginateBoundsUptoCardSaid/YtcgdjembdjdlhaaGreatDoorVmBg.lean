import Derived.Test.YtcgdjembdjdlhaaGreatDoorVmBe
set_option linter.all false
namespace Go.VM
open Go
section
variable {P : Program} {N : FK} {Q : Exit → Env → Heap → Prop} {e : Env} {h : Heap}
theorem VW_frz1 {c : VC} (k id n z : Nat) (es rows rows' : List (List PV)) (hk : h.get k = some (.arr false z es)) (hid : h.get id = some (.arr false n rows)) (hne : k ≠ id)
  (hlen:rows'.length=rows.length) (hl:∀ i,(PV.row rows' i).length=(PV.row rows i).length) (hv:∀ i j,View ⟨[(k,.arr false z es)],h.top⟩ (PV.nth (PV.row rows i) j) (PV.nth (PV.row rows' i) j))
  (h2:Heap) (hg:∀ i,h2.get i=if i=id then some (.arr false n rows') else if i=k then none else h.get i) (ht:h2.top=h.top) (H:VW P N c Q e h2):VW P N c Q e h:=by
 intro x hx g w a r hr hd hs;have r1:Rel g w ⟨[(k,.arr false z es)],h.top⟩:=r.weaken (show Heap.le ⟨[(k,.arr false z es)],h.top⟩ h from ⟨Nat.le_refl _,hk,trivial⟩);have F:=frz_rel r1;have E:=frz_evo (g:=g) (w:=w) (h:=⟨[(k,.arr false z es)],h.top⟩);have hβ:∀ i,(frz g w ⟨[(k,.arr false z es)],h.top⟩).β i=g.β i:=fun _=>rfl;have hgle:=frz_le g w ⟨[(k,.arr false z es)],h.top⟩;have hown:∀ b,Owned g ⟨[(k,.arr false z es)],h.top⟩ b→∃ y,g.β k=some y∧y.1=b:=by
  rintro b ⟨i,ab,y,f1,f2,f3,f4⟩;have hik:i=k:=by
   simp only [Heap.get,HL.get] at f1;by_cases e:k=i
   ·exact e.symm
   ·rw [if_neg e] at f1;cases f1
  subst hik;exact ⟨y,f3,f4⟩
 have old:∀ i ab,h2.get i=some ab→i≠k∧((i=id∧ab=.arr false n rows')∨(i≠id∧h.get i=some ab)):=by
  intro i ab e;rw [hg] at e;by_cases e1:i=id
  ·rw [if_pos e1] at e;simp only [Option.some.injEq] at e;exact ⟨fun h=>hne (h.symm.trans e1),.inl ⟨e1,e.symm⟩⟩
  ·rw [if_neg e1] at e;by_cases e2:i=k
   ·rw [if_pos e2] at e;cases e
   ·rw [if_neg e2] at e;exact ⟨e2,.inr ⟨e1,e⟩⟩
 have old':∀ i ab,h2.get i=some ab→i≠k∧∃ ab0,h.get i=some ab0∧ab0.live=ab.live:=by
  intro i ab e;obtain ⟨f1,f2⟩:=old i ab e;refine ⟨f1,?_⟩;rcases f2 with ⟨rfl,rfl⟩|⟨_,f3⟩
  ·exact ⟨_,hid,rfl⟩
  ·exact ⟨_,f3,rfl⟩
 have notk:∀ i ab b o n' z',h2.get i=some ab→g.β i=some (b,o,n',z')→¬ Owned g ⟨[(k,.arr false z es)],h.top⟩ b:=by
  intro i ab b o n' z' e hb ho;obtain ⟨y,f3,f4⟩:=hown b ho;obtain ⟨g1,ab0,g2,_⟩:=old' i ab e;exact r.apart k i y _ _ ab0 (Ne.symm g1) hk g2 (by simp [AB.live]) f3 hb f4
 have free:∀ b,b<w.heap.size→g.free b→¬ Owned g ⟨[(k,.arr false z es)],h.top⟩ b→(frz g w ⟨[(k,.arr false z es)],h.top⟩).free b:=by
  intro b hb hf hno;refine ⟨fun x=>?_,?_⟩
  ·cases hm:(frz g w ⟨[(k,.arr false z es)],h.top⟩).m b x with
   | none=>rfl
   | some v =>
    rcases E.mem b x v hm with h1|h1|h1
    ·rw [hf.1 x] at h1;cases h1
    ·omega
    ·exact absurd h1 hno
  ·cases hm:(frz g w ⟨[(k,.arr false z es)],h.top⟩).m.mm b with
   | none=>rfl
   | some v =>
    rcases E.mmem b v hm with h1|h1|h1
    ·rw [hf.2] at h1;cases h1
    ·omega
    ·exact absurd h1 hno
 have R:Rel (frz g w ⟨[(k,.arr false z es)],h.top⟩) w h2:=by
  refine ⟨F.mem,F.mmem,fun i hi=>?_,fun i ab e=>?_,fun i j y y' ab ab' hij e e' hlv hy hy'=>?_⟩
  ·rw [ht] at hi;refine ⟨(r.fin i hi).1,?_⟩;have hni:=(r.fin i hi).2;cases e:h2.get i with
   | none=>rfl
   | some ab =>
    obtain ⟨_,ab0,g2,_⟩:=old' i ab e;rw [hni] at g2;cases g2
  ·rcases (old i ab e).2 with ⟨rfl,rfl⟩|⟨_,f3⟩
   ·rcases r.blk i _ hid with ⟨f1,fz,z1,f2⟩|⟨b,o,n',z',k1,k2,k3,k4⟩
    ·left
     refine ⟨f1,false,n,?_⟩;simp only [AB.arr.injEq] at f2;have h0:rows'=[]:=List.eq_nil_of_length_eq_zero (by rw [hlen,f2.2.2];rfl);rw [h0]
    ·right
     have hno:=notk i _ b o n' z' e k1;refine ⟨b,o,n',z',k1,k2,fun hlv=>free b k2 (k3 (by simp [AB.live])) hno,?_⟩;obtain ⟨q1,q2,q3,cc,ee,q4,q5,q6⟩:=k4;refine ⟨q1,fun i' hi'=>?_,by rw [hlen];exact q3,cc,ee,q4,q5,fun i' j' hi' hj'=>?_⟩
     ·rw [hl];exact q2 i' (by rw [← hlen];exact hi')
     ·obtain ⟨m1,m2,_⟩:=q6 i' j' (by rw [← hlen];exact hi') hj';exact ⟨m1,hv i' j' g w _ r1 m2,fun h=>by cases h⟩
   ·rcases r.blk i ab f3 with ⟨f1,f2⟩|⟨b,o,n',z',k1,k2,k3,k4⟩
    ·exact .inl ⟨f1,f2⟩
    ·have hno:=notk i ab b o n' z' e k1;exact .inr ⟨b,o,n',z',k1,k2,fun hlv=>free b k2 (k3 hlv) hno,AB.ok_move k4 hgle rfl⟩
  ·obtain ⟨_,a0,g2,g3⟩:=old' i ab e;obtain ⟨_,a1,g5,g6⟩:=old' j ab' e';exact r.apart i j y y' a0 a1 hij g2 g5 (by rw [g3,g6];exact hlv) hy hy'
 have hsub:∀ b,Owned g ⟨[(k,.arr false z es)],h.top⟩ b→Owned g h b:=by
  intro b ho;obtain ⟨y,f3,f4⟩:=hown b ho;exact ⟨k,_,y,hk,rfl,f3,f4⟩
 have V:Evo g w h (frz g w ⟨[(k,.arr false z es)],h.top⟩) w h2:=by
  refine ⟨hgle,rfl,rfl,rfl,Nat.le_refl _,fun _ _ _=>rfl,fun b o v e=>?_,fun b v e=>?_,?_⟩
  ·exact (E.mem b o v e).imp _root_.id (Or.imp _root_.id (hsub b))
  ·exact (E.mmem b v e).imp _root_.id (Or.imp _root_.id (hsub b))
  ·rintro b ⟨i,ab,y,f1,f2,f3,f4⟩;obtain ⟨_,ab0,g2,g3⟩:=old' i ab f1;exact .inl ⟨i,ab0,y,g2,by rw [g3];exact f2,f3,f4⟩
 refine wpIn_mono (H x hx _ w a R (fun t=>(hr t).mono hgle) hd hs) fun ex a' w' ⟨g',e',h',k1,k2,k3,k4,k5,k6⟩=>⟨g',e',h',k1,k2,k3,k4,k5,V.trans k6⟩
end
end Go.VM
namespace Go.VM
open Go
section
variable {P : Program} {N : FK} {Q : Exit → Env → Heap → Prop} {e : Env} {h : Heap}
theorem VW_push {c:VC} (z:Nat) (H:VW P N c Q e (h.push (.arr false z []))):VW P N c Q e h:=by
 intro x hx g w a r hr hd hs;obtain ⟨r1,r2⟩:=r.none none z w rfl rfl rfl rfl;exact wpIn_mono (H x hx g w a r1 hr hd hs) fun ex a' w' ⟨g',e',h',k1,k2,k3,k4,k5,k6⟩=>⟨g',e',h',k1,k2,k3,k4,k5,r2.trans k6⟩
theorem Rel.fld_ownR {g : Gh} {w : World} {h : Heap} (r : Rel g w h) (id z n k j : Nat) (es : List (List PV)) (hg : h.get id = some (.arr false n es)) (hk : k < es.length) (hj : PV.nth (PV.row es k) j = .nilsl) :
  Rel g w ((h.set id (.arr false n (es.set k ((PV.row es k).set j (.own h.top 0 0))))).push (.arr false z []))∧Evo g w h g w ((h.set id (.arr false n (es.set k ((PV.row es k).set j (.own h.top 0 0))))).push (.arr false z [])):=by
 generalize hes:es.set k ((PV.row es k).set j (.own h.top 0 0))=es2;have hl2:es2.length=es.length:=by rw [← hes,List.length_set]
 have hrow:∀ i,PV.row es2 i=if i=k then (PV.row es k).set j (.own h.top 0 0) else PV.row es i:=by
  intro i;by_cases hi:i=k
  ·subst hi;rw [if_pos rfl,← hes,row_set _ _ _ hk]
  ·rw [if_neg hi,← hes,row_set_ne _ _ _ _ hi]
 have hid:id<h.top:=by
  rcases Nat.lt_or_ge id h.top with h1|h1
  ·exact h1
  ·rw [(r.fin id h1).2] at hg;cases hg
 have ht:(h.set id (.arr false n es2)).top=h.top:=rfl;have get1:∀ i,((h.set id (.arr false n es2)).push (.arr false z [])).get i=if h.top=i then some (.arr false z []) else if id=i then some (.arr false n es2) else h.get i:=by
  intro i;rw [Heap.get_push,Heap.get_set,hg,ht];rfl
 have old:∀ i ab,h.top≠i→((h.set id (.arr false n es2)).push (.arr false z [])).get i=some ab→∃ ab0,h.get i=some ab0∧ab0.live=ab.live:=by
  intro i ab hi e;rw [get1,if_neg hi] at e;by_cases h2:id=i
  ·subst h2;rw [if_pos rfl] at e;cases e;exact ⟨_,hg,rfl⟩
  ·rw [if_neg h2] at e;exact ⟨ab,e,rfl⟩
 have bt:=(r.fin h.top (Nat.le_refl _)).1;refine ⟨⟨r.mem,r.mmem,fun i hi=>?_,fun i ab e=>?_,fun i j x y ab ab' hne e e' hl hx hy=>?_⟩,⟨g.le_refl,rfl,rfl,rfl,Nat.le_refl _,fun _ _ _=>rfl,fun _ _ _ e=>.inl e,fun _ _ e=>.inl e,fun b ⟨i,ab,x,e,hl,hx,hb⟩=>?_⟩⟩
 ·have hi':h.top+1≤i:=hi;refine ⟨(r.fin i (by omega)).1,?_⟩;rw [get1,if_neg (by omega),if_neg (by omega)];exact (r.fin i (by omega)).2
 ·rw [get1] at e;by_cases h1:h.top=i
  ·subst h1;rw [if_pos rfl] at e;cases e;exact .inl ⟨bt,_,_,rfl⟩
  ·rw [if_neg h1] at e;by_cases h2:id=i
   ·subst h2;rw [if_pos rfl] at e;cases e;rcases r.blk id _ hg with ⟨_,fz,z',h3⟩|⟨b,o,n2,z',k1,k2,k3,k4⟩
    ·simp only [AB.arr.injEq] at h3;rw [h3.2.2] at hk;simp at hk
    ·refine .inr ⟨b,o,n2,z',k1,k2,k3,?_⟩;obtain ⟨q1,q2,q3,c,ee,q4,q5,q6⟩:=k4;refine ⟨q1,fun i hi=>?_,by rw [hl2];exact q3,c,ee,q4,q5,fun i k2 hi hk2=>?_⟩
     ·rw [hrow];split
      ·rw [List.length_set];exact q2 k hk
      ·exact q2 i (by rw [← hl2];exact hi)
     ·obtain ⟨m1,m2,m3⟩:=q6 i k2 (by rw [← hl2];exact hi) hk2;refine ⟨m1,?_,m3⟩;rw [hrow];by_cases hik:i=k
      ·subst hik;rw [if_pos rfl];by_cases hkj:j=k2
       ·subst hkj;rw [hj] at m2;have hjl:j<(PV.row es i).length:=by
         rcases Nat.lt_or_ge j (PV.row es i).length with h5|h5
         ·exact h5
         ·unfold PV.nth at hj;rw [List.getD_eq_getElem?_getD,List.getElem?_eq_none h5] at hj;cases hj
        have e5:PV.nth ((PV.row es i).set j (.own h.top 0 0)) j=.own h.top 0 0:=by
         unfold PV.nth;rw [List.getD_eq_getElem?_getD,List.getElem?_set_self hjl];rfl
        rw [e5];generalize c.getD (o+i*z'+j) Go.undef=v at m2;cases m2;exact .ownE _ _ _
       ·have e5 : PV.nth ((PV.row es i).set j (.own h.top 0 0)) k2 = PV.nth (PV.row es i) k2 := by
         unfold PV.nth;rw [List.getD_eq_getElem?_getD,List.getElem?_set_ne hkj,← List.getD_eq_getElem?_getD]
        rw [e5];exact m2
      ·rw [if_neg hik];exact m2
   ·rw [if_neg h2] at e;exact r.blk i ab e
 ·by_cases h1:h.top=i
  ·subst h1;rw [bt] at hx;cases hx
  by_cases h2:h.top=j
  ·subst h2;rw [bt] at hy;cases hy
  obtain ⟨a0,f1,f2⟩:=old i ab h1 e;obtain ⟨a1,f3,f4⟩:=old j ab' h2 e';exact r.apart i j x y a0 a1 hne f1 f3 (by rw [f2,f4];exact hl) hx hy
 ·by_cases h1:h.top=i
  ·subst h1;rw [bt] at hx;cases hx
  obtain ⟨a0,f1,f2⟩:=old i ab h1 e;exact .inl ⟨i,a0,x,f1,by rw [f2];exact hl,hx,hb⟩
theorem VW_own0r {c:VC} (id z n k j:Nat) (es:List (List PV)) (hg:h.get id=some (.arr false n es)) (hk:k<es.length) (hj:PV.nth (PV.row es k) j=.nilsl) (H:VW P N c Q e ((h.set id (.arr false n (es.set k ((PV.row es k).set j (.own h.top 0 0))))).push (.arr false z []))):VW P N c Q e h:=by
 intro x hx g w a r hr hd hs;obtain ⟨r1,r2⟩:=r.fld_ownR id z n k j es hg hk hj;exact wpIn_mono (H x hx g w a r1 hr hd hs) fun ex a' w' ⟨g',e',h',k1,k2,k3,k4,k5,k6⟩=>⟨g',e',h',k1,k2,k3,k4,k5,r2.trans k6⟩
end
end Go.VM
