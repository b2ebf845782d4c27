import Derived.Test.YtldogpfookkbaaaGreatDoorVmBr
set_option linter.all false
namespace Go.VM
open Go
theorem Xa3{g:Gh}{w:World}{l1 l2:List (Nat×AB)}{t:Nat}(r:Rel g w ⟨l1++l2,t⟩)(hap:∀x∈l2,∀y∈l1,x.1≠y.1):
  Rel g w ⟨l1,t⟩∧Rel (frz g w ⟨l1,t⟩) w ⟨l2,t⟩∧Evo g w ⟨l1++l2,t⟩ (frz g w ⟨l1,t⟩) w ⟨l2,t⟩:=by
 have hno:∀i ab,HL.get l2 i=some ab→HL.get l1 i=none:=fun i ab e=>HL.get_no (hap _ (HL.get_mem e));have r1:Rel g w ⟨l1,t⟩:=⟨r.mem,r.mmem,fun id hid=>⟨(r.fin id hid).1,by
   have:=(r.fin id hid).2;cases e:HL.get l1 id with
   |none=>exact e
   |some ab=>simp only[Heap.get,HL.get_app_l e]at this;cases this⟩,
  fun id ab e=>r.blk id ab (HL.get_app_l e),fun id id' x x' ab ab' hne e e'=>r.apart id id' x x' ab ab' hne (HL.get_app_l e) (HL.get_app_l e')⟩
 have F:=Zgc r1;have E:=Zse (g:=g) (w:=w) (h:=⟨l1,t⟩);have hgle:=Z1e g w ⟨l1,t⟩;have up:∀i ab,HL.get l2 i=some ab→(⟨l1++l2,t⟩:Heap).get i=some ab:=fun i ab e=>by
  show HL.get (l1++l2) i=some ab;rw[HL.get_app_r (hno i ab e)];exact e
 have notk:∀i ab b o n' z',HL.get l2 i=some ab→g.β i=some (b,o,n',z')→¬Ze3 g ⟨l1,t⟩ b:=by
  rintro i ab b o n' z' e hb ⟨j,a1,y,f1,f2,f3,f4⟩;have hij:j≠i:=by
   rintro rfl;have f5:=hno _ _ e;rw[show HL.get l1 j=some a1 from f1]at f5;cases f5
  exact r.apart j i y _ a1 ab hij (HL.get_app_l f1) (up i ab e) (by simp[f2]) f3 hb f4
 have free:∀b,b<w.heap.size→g.free b→¬Ze3 g ⟨l1,t⟩ b→(frz g w ⟨l1,t⟩).free b:=by
  intro b hb hf hno;refine⟨fun x=>?_,?_⟩
  ·cases hm:(frz g w ⟨l1,t⟩).m b x with
   |none=>rfl
   |some v=>
    rcases E.mem b x v hm with h1|h1|h1
    ·rw[hf.1 x]at h1;cases h1
    ·omega
    ·exact absurd h1 hno
  ·cases hm:(frz g w ⟨l1,t⟩).m.mm b with
   |none=>rfl
   |some v=>
    rcases E.mmem b v hm with h1|h1|h1
    ·rw[hf.2]at h1;cases h1
    ·omega
    ·exact absurd h1 hno
 have hsub:∀b,Ze3 g ⟨l1,t⟩ b→Ze3 g ⟨l1++l2,t⟩ b:=fun b ⟨id,ab,x,e,k⟩=>⟨id,ab,x,HL.get_app_l e,k⟩;refine⟨r1,⟨F.mem,F.mmem,fun i hi=>⟨(r.fin i hi).1,?_⟩,fun i ab e=>?_,fun i j y y' ab ab' hij e e' hlv hy hy'=>?_⟩,⟨hgle,rfl,rfl,rfl,Nat.le_refl _,fun _ _ _=>rfl,fun b o v e=>?_,fun b v e=>?_,?_⟩⟩
 ·have hni:=(r.fin i hi).2;cases e:HL.get l2 i with
  |none=>exact e
  |some ab=>rw[up i ab e]at hni;cases hni
 ·rcases r.blk i ab (up i ab e)with⟨f1,f2⟩|⟨b,o,n',z',k1,k2,k3,k4⟩
  ·exact .inl ⟨f1,f2⟩
  ·exact .inr ⟨b,o,n',z',k1,k2,fun hlv=>free b k2 (k3 hlv) (notk i ab b o n' z' e k1),AB.ok_move k4 hgle rfl⟩
 ·exact r.apart i j y y' ab ab' hij (up i ab e) (up j ab' e') hlv hy hy'
 ·exact(E.mem b o v e).imp _root_.id (Or.imp _root_.id (hsub b))
 ·exact(E.mmem b v e).imp _root_.id (Or.imp _root_.id (hsub b))
 ·rintro b ⟨i,ab,y,f1,f2,f3,f4⟩;exact .inl ⟨i,ab,y,up i ab f1,f2,f3,f4⟩
theorem Zco{P:Program}{f:FuncId}{args q:List PV}{p:PV}{h:Heap}{K:PV→Heap→Prop}(l1 l2:List (Nat×AB))(t:Nat)(hh:Heap.le ⟨l1++l2,t⟩ h)(hap:∀x∈l2,∀y∈l1,x.1≠y.1)
  (hv:Zcx ⟨l1,t⟩ args q)(H:Zgy P f q p)(hk:K p ⟨l2,t⟩):Zam P f args h K:=by
 refine⟨H.1,fun g w vals r ha=>?_⟩;obtain⟨r1,R,E⟩:=Xa3 (r.weaken hh) hap;refine(Zby.run (.inl H) R (hv.args r1 ha)).mono ?_;rintro x w' ⟨v,g',rfl,h1,h2,h3⟩;exact⟨v,p,g',⟨l2,t⟩,rfl,hk,h1,h2,(E.weakenL hh).trans h3⟩
end Go.VM
