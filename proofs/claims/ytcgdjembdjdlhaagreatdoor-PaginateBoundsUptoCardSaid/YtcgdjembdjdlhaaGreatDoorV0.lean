import Derived.Test.YtcgdjembdjdlhaaGreatDoorVmZ
import Derived.Test.YtcgdjembdjdlhaaGreatDoorVmAj
import Derived.Test.YtcgdjembdjdlhaaGreatDoorChecked
set_option linter.all false
namespace Go.VM
open Go
theorem nth_mem {cap:List PV} {j:Nat} (hj:j<cap.length):PV.nth cap j∈cap:=by
 simp [PV.nth,List.getD_eq_getElem?_getD,hj]
theorem Zbt {f:Fn} {cap:List PV} (h:Za0 cap):Closed (.fn f [] cap):=fun g v hv=>by
 cases hv with
 | fn f fs cs pf pc h1 h2 hf hc=>exact .fn f fs cs [] cap h1 h2 (fun j hj=>by simp at hj) (fun j hj=>h _ (nth_mem hj) g _ (hc j hj))
def idxF {α:Type} (p:α→Bool) (l:List α):Int:=if l.any p then (l.findIdx p:Int) else -1
theorem idxF_at {α:Type} (p:α→Bool) (l:List α) (k:Nat) (hk:k<l.length) (hpre:∀ (j:Nat) (hj:j<l.length),j<k→p l[j]=false) (h:p l[k]=true):idxF p l=(k:Int):=by
 have e:l.findIdx p=k:=(List.findIdx_eq hk).2 ⟨h,fun j hj=>by rw [hpre j (by omega) hj]⟩;unfold idxF;rw [if_pos (List.any_eq_true.2 ⟨_,List.getElem_mem hk,h⟩),e]
theorem idxF_none {α:Type} (p:α→Bool) (l:List α) (h:∀ (j:Nat) (hj:j<l.length),p l[j]=false):idxF p l = -1:=by
 unfold idxF;rw [if_neg];intro ha;obtain ⟨x,hx,hp⟩:=List.any_eq_true.1 ha;obtain ⟨j,hj,rfl⟩:=List.mem_iff_getElem.1 hx;rw [h j hj] at hp;cases hp
theorem idxF_any {α:Type} (p:α→Bool) (l:List α):decide ((0:Int)≤idxF p l)=l.any p:=by
 unfold idxF;cases h:l.any p with
 | true=>rw [if_pos rfl];exact decide_eq_true (by omega)
 | false=>rfl
theorem ad1 {a:Nat} (h:a≤1000000000):IntKind.i64.wrap ((a:Int)+1)=((a+1:Nat):Int):=by rw [w64 (by omega) (by omega)];omega
structure Idt where
 act : Int
 item : Int
 n : Int
 deriving DecidableEq, Inhabited
def Idt.enc (x:Idt):List PV:=[pI x.act,pI x.item,pI x.n]
theorem Idt.closed (x:Idt):∀ y∈x.enc,Closed y:=by
 intro y hy;simp only [Idt.enc,List.mem_cons,List.not_mem_nil,or_false] at hy;rcases hy with rfl|rfl|rfl<;>exact cI _
theorem enc_t_Idt (x:Idt):List.take 3 x.enc=x.enc:=rfl
theorem enc_l_Idt (x:Idt):x.enc.length=3:=rfl
theorem enc_t_Wd (x:Wd):List.take 4 x.enc=x.enc:=rfl
theorem enc_l_Wd (x:Wd):x.enc.length=4:=rfl
theorem enc_t_Un (x:Un):List.take 8 x.enc=x.enc:=by rw [Un.Zaf];rfl
theorem enc_l_Un (x:Un):x.enc.length=8:=by rw [Un.Zaf];rfl
end Go.VM
