import Derived.Test.YtldogpfookkbaaaGreatDoorVmZ
import Derived.Test.YtldogpfookkbaaaGreatDoorVmBl
set_option linter.all false
namespace Go.VM
open Go
def ownIds (a:List PV):List Nat:=a.filterMap fun|.own id _ _=>some id|_=>none
theorem HL.le_append:∀ {l m:List (Nat×AB)} {f:Nat→Option AB},HL.le l f→HL.le m f→HL.le (l++m) f
 | [],_,_,_,h=>h
 | (_,_)::_,_,_,h,h2=>⟨h.1,HL.le_append h.2 h2⟩
theorem only_mem (p:Nat→Bool):∀ {l:List (Nat×AB)} {x:Nat×AB},x∈HL.only p l→p x.1=true
 | [],_,h=>by cases h
 | (k,v)::r,x,h=>by
  unfold HL.only at h;cases e:p k with
  | false=>rw [e] at h;exact only_mem p (by simpa using h)
  | true =>
   rw [e] at h;simp only [cond_true,if_true] at h;rcases List.mem_cons.1 h with rfl|h
   ·exact e
   ·exact only_mem p h
def orcV (L:List (Nat×List PV×PV)):CX:=fun f a h =>
 match orc L f a with
 | some p=>some (p,h)
 | none=>bif (ownIds a).isEmpty || !(L.any fun x=>Nat.beq f x.1) then none else
  match optL (viewD ⟨HL.only (fun k=>(ownIds a).any (Nat.beq k)) h.l,h.top⟩ 30) a with
  | some q=>match orc L f q with
   | some p=>some (p,⟨HL.only (fun k=>!((ownIds a).any (Nat.beq k))) h.l,h.top⟩)
   | none=>none
  | none=>none
theorem orcV_ok {P:Program} {L:List (Nat×List PV×PV)} (hL:OrOk P L):CallOk P (orcV L):=by
 intro f args h v h' H ok;unfold orcV at H;split at H
 ·rename_i p hp;simp only [Option.some.injEq,Prod.mk.injEq] at H;obtain ⟨rfl,rfl⟩:=H;exact ⟨fun K hk=>Za8 (orc_ok hL hp) hk,ok,Nat.le_refl _⟩
 ·cases hb:((ownIds args).isEmpty || !(L.any fun x=>Nat.beq f x.1)) with
  | true=>rw [hb] at H;cases H
  | false =>
   rw [hb] at H;simp only [cond_false] at H;split at H
   ·rename_i q hq;split at H
    ·rename_i p hp;simp only [Option.some.injEq,Prod.mk.injEq] at H;obtain ⟨rfl,rfl⟩:=H;have d1:=HL.dec_only (fun k=>(ownIds args).any (Nat.beq k)) ok;have d2:=HL.dec_only (fun k=>!((ownIds args).any (Nat.beq k))) ok;refine ⟨fun K hk=>ACall_fP _ _ h.top ⟨Nat.le_refl _,HL.le_append (HL.Zbv d1 fun k _=>?_) (HL.Zbv d2 fun k _=>?_)⟩ (fun x hx y hy e=>?_) (views_ok hq) (orc_ok hL hp) hk,d2,Nat.le_refl _⟩
     ·show HL.get (HL.only _ h.l) k=HL.get h.l k∨_;rw [HL.get_only _ ok];split
      ·exact .inl rfl
      ·exact .inr rfl
     ·show HL.get (HL.only _ h.l) k=HL.get h.l k∨_;rw [HL.get_only _ ok];split
      ·exact .inl rfl
      ·exact .inr rfl
     ·have h1:=only_mem _ hx;have h2:=only_mem _ hy;simp only [e,h2,Bool.not_true] at h1;cases h1
    ·cases H
   ·cases H
end Go.VM
