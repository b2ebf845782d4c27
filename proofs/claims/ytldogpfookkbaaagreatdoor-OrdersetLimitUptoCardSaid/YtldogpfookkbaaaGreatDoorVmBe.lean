import Derived.Test.YtldogpfookkbaaaGreatDoorVmZ
set_option linter.all false
namespace Go.VM
open Go
section
variable {P : Program} {N : FK} {Q : Exit → Env → Heap → Prop} {e : Env} {h : Heap}
end
end Go.VM
namespace Go.VM
open Go
theorem Zan.frzR {P : Program} {f : FuncId} {args : List PV} {h : Heap} {K : PV → Heap → Prop}
  (H:Zan P f args h (fun p h'=>∃ (l1 l2:List (Nat×AB)) (t:Nat) (q:PV),Heap.le ⟨l1++l2,t⟩ h'∧(∀ x∈l2,∀ y∈l1,x.1≠y.1)∧(∀ x∈l2,∀ fz z,x.2≠.arr fz z [])∧View ⟨l1,t⟩ p q∧K q ⟨l2,t⟩)):Zan P f args h K:=by
 refine ⟨H.1,fun g w vals r ha=>(H.2 g w vals r ha).mono ?_⟩;rintro x w' ⟨v,p,g',h',rfl,⟨l1,l2,t,q,hh,h1,hc,hv,hk⟩,rep,r',ev⟩;have r0:=r'.weaken hh;have hb:Beside l1 l2:=⟨fun id ab e=>HL.get_no (h1 _ (HL.get_mem e)),fun id fz z e=>hc _ (HL.get_mem e) fz z rfl⟩;have r1 : Rel g' w' ⟨l1, t⟩ := ⟨r0.mem, r0.mmem, fun id hid => ⟨(r0.fin id hid).1, by
   have:=(r0.fin id hid).2;cases e:HL.get l1 id with
   | none=>exact e
   | some ab=>simp only [Heap.get,HL.get_app_l e] at this;cases this⟩,
  fun id ab e=>r0.blk id ab (HL.get_app_l e),fun id id' x x' ab ab' hne e e'=>r0.apart id id' x x' ab ab' hne (HL.get_app_l e) (HL.get_app_l e')⟩
 obtain ⟨R,E⟩:=frame_rel hb r0 (frz_rel r1) (frz_evo (h:=⟨l1,t⟩)) (Nat.le_refl t) (fun _ _=>rfl) (fun id ab e=>by simp [Heap.get,HL.get] at e);exact ⟨v,q,frz g' w' ⟨l1,t⟩,⟨l2,t⟩,rfl,hk,hv _ _ _ r1 rep,R,ev.trans (E.weakenL hh)⟩
end Go.VM
